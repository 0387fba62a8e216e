import Derived.Test.YtghlellambnkeaaPAllx0
import Derived.Test.YtghlellambnkeaaSEv
import Derived.Test.YtghlellambnkeaaSLists
set_option linter.unusedVariables false
set_option linter.unusedSimpArgs false
namespace Go.Proofs.Ytghlellambnkeaa.Pure
open Go.RowKit Go.Proofs.Ytghlellambnkeaa.PAll Go.Proofs.YtghlellambnkeaaW.PrintWords Go.Proofs.YtghlellambnkeaaW.PrintLast Go.Proofs.YtghlellambnkeaaW.PrintMore
/-! Two lists that rise by their keys, side by side: plain lists. -/
structure TO {κ : Type} (lt : κ → κ → Bool) : Prop where
  irr : ∀ x, lt x x = false
  tr : ∀ {x y z}, lt x y = true → lt y z = true → lt x z = true
  tri : ∀ {x y}, lt x y = false → x = y ∨ lt y x = true
section
variable {κ E : Type} {lt : κ → κ → Bool} {key : E → κ}
theorem TO.asym (h : TO lt) {x y : κ} (k : lt x y = true) : lt y x = false := by
  cases hh : lt y x with
  | false => rfl
  | true => have := h.tr k hh; rw [h.irr] at this; cases this
theorem TO.ne (h : TO lt) {x y : κ} (k : lt x y = true) : x ≠ y := by rintro rfl; rw [h.irr] at k; cases k
def Srt (lt : κ → κ → Bool) (key : E → κ) (l : List E) : Prop := l.Pairwise (fun a b => lt (key a) (key b) = true)
def kmerge (lt : κ → κ → Bool) (key : E → κ) : List E → List E → List (Option E × Option E)
  | [], [] => []
  | x :: xs, [] => (some x, none) :: kmerge lt key xs []
  | [], y :: ys => (none, some y) :: kmerge lt key [] ys
  | x :: xs, y :: ys => if lt (key x) (key y) = true then (some x, none) :: kmerge lt key xs (y :: ys) else if lt (key y) (key x) = true then (none, some y) :: kmerge lt key (x :: xs) ys else (some x, some y) :: kmerge lt key xs ys
termination_by a b => a.length + b.length
theorem kmerge_nil_nil : kmerge lt key [] [] = [] := by rw [kmerge]
theorem kmerge_cons_nil (x : E) (xs : List E) : kmerge lt key (x :: xs) [] = (some x, none) :: kmerge lt key xs [] := by rw [kmerge]
theorem kmerge_nil_cons (y : E) (ys : List E) : kmerge lt key [] (y :: ys) = (none, some y) :: kmerge lt key [] ys := by rw [kmerge]
theorem kmerge_lt {x y : E} (h : lt (key x) (key y) = true) (xs ys : List E) : kmerge lt key (x :: xs) (y :: ys) = (some x, none) :: kmerge lt key xs (y :: ys) := by rw [kmerge, if_pos h]
theorem kmerge_gt {x y : E} (h : lt (key x) (key y) = false) (h' : lt (key y) (key x) = true) (xs ys : List E) : kmerge lt key (x :: xs) (y :: ys) = (none, some y) :: kmerge lt key (x :: xs) ys := by rw [kmerge, if_neg (by rw [h]; simp), if_pos h']
theorem kmerge_eq {x y : E} (h : lt (key x) (key y) = false) (h' : lt (key y) (key x) = false) (xs ys : List E) : kmerge lt key (x :: xs) (y :: ys) = (some x, some y) :: kmerge lt key xs ys := by rw [kmerge, if_neg (by rw [h]; simp), if_neg (by rw [h']; simp)]
theorem kmerge_len (a b : List E) : (kmerge lt key a b).length ≤ a.length + b.length := by
  fun_induction kmerge lt key a b <;> simp only [List.length_cons, List.length_nil] at * <;> omega
/-- What each pair is. -/
def IsPair (lt : κ → κ → Bool) (key : E → κ) (a b : List E) (t : Option E × Option E) : Prop := (∃ x, t = (some x, none) ∧ x ∈ a) ∨ (∃ y, t = (none, some y) ∧ y ∈ b) ∨ (∃ x y, t = (some x, some y) ∧ x ∈ a ∧ y ∈ b ∧ key x = key y)
def kk (key : E → κ) (k0 : κ) : Option E × Option E → κ
  | (some x, _) => key x
  | (none, some y) => key y
  | (none, none) => k0
theorem kmerge_is (h : TO lt) (a b : List E) : ∀ t ∈ kmerge lt key a b, IsPair lt key a b t := by
  fun_induction kmerge lt key a b with
  | case1 => intro t ht; simp at ht
  | case2 x xs ih =>
    intro t ht
    rcases List.mem_cons.1 ht with rfl | ht
    · exact .inl ⟨x, rfl, by simp⟩
    · rcases ih t ht with ⟨x', rfl, hx⟩ | ⟨y', rfl, hy⟩ | ⟨x', y', rfl, hx, hy, e⟩
      · exact .inl ⟨x', rfl, by simp [hx]⟩
      · simp at hy
      · simp at hy
  | case3 y ys ih =>
    intro t ht
    rcases List.mem_cons.1 ht with rfl | ht
    · exact .inr (.inl ⟨y, rfl, by simp⟩)
    · rcases ih t ht with ⟨x', rfl, hx⟩ | ⟨y', rfl, hy⟩ | ⟨x', y', rfl, hx, hy, e⟩
      · simp at hx
      · exact .inr (.inl ⟨y', rfl, by simp [hy]⟩)
      · simp at hx
  | case4 x xs y ys h1 ih =>
    intro t ht
    rcases List.mem_cons.1 ht with rfl | ht
    · exact .inl ⟨x, rfl, by simp⟩
    · rcases ih t ht with ⟨x', rfl, hx⟩ | ⟨y', rfl, hy⟩ | ⟨x', y', rfl, hx, hy, e⟩
      · exact .inl ⟨x', rfl, by simp [hx]⟩
      · exact .inr (.inl ⟨y', rfl, hy⟩)
      · exact .inr (.inr ⟨x', y', rfl, by simp [hx], hy, e⟩)
  | case5 x xs y ys h1 h2 ih =>
    intro t ht
    rcases List.mem_cons.1 ht with rfl | ht
    · exact .inr (.inl ⟨y, rfl, by simp⟩)
    · rcases ih t ht with ⟨x', rfl, hx⟩ | ⟨y', rfl, hy⟩ | ⟨x', y', rfl, hx, hy, e⟩
      · exact .inl ⟨x', rfl, hx⟩
      · exact .inr (.inl ⟨y', rfl, by simp [hy]⟩)
      · exact .inr (.inr ⟨x', y', rfl, hx, by simp [hy], e⟩)
  | case6 x xs y ys h1 h2 ih =>
    intro t ht
    rcases List.mem_cons.1 ht with rfl | ht
    · refine .inr (.inr ⟨x, y, rfl, by simp, by simp, ?_⟩)
      rcases h.tri (by simpa using h1) with e | e
      · exact e
      · exact absurd e h2
    · rcases ih t ht with ⟨x', rfl, hx⟩ | ⟨y', rfl, hy⟩ | ⟨x', y', rfl, hx, hy, e⟩
      · exact .inl ⟨x', rfl, by simp [hx]⟩
      · exact .inr (.inl ⟨y', rfl, by simp [hy]⟩)
      · exact .inr (.inr ⟨x', y', rfl, by simp [hx], by simp [hy], e⟩)
theorem kk_mem {a b : List E} {t : Option E × Option E} (k0 : κ) (h : IsPair lt key a b t) : (∃ x ∈ a, kk key k0 t = key x) ∨ (∃ y ∈ b, kk key k0 t = key y) := by
  rcases h with ⟨x, rfl, hx⟩ | ⟨y, rfl, hy⟩ | ⟨x, y, rfl, hx, hy, e⟩
  · exact .inl ⟨x, hx, rfl⟩
  · exact .inr ⟨y, hy, rfl⟩
  · exact .inl ⟨x, hx, rfl⟩
/-- The pairs rise. -/
theorem kmerge_srt (h : TO lt) (k0 : κ) (a b : List E) (ha : Srt lt key a) (hb : Srt lt key b) : (kmerge lt key a b).Pairwise (fun s t => lt (kk key k0 s) (kk key k0 t) = true) := by
  fun_induction kmerge lt key a b with
  | case1 => exact List.Pairwise.nil
  | case2 x xs ih =>
    obtain ⟨h1, h2⟩ := List.pairwise_cons.1 ha
    refine List.pairwise_cons.2 ⟨fun t ht => ?_, ih h2 hb⟩
    rcases kk_mem k0 (kmerge_is h _ _ t ht) with ⟨x', hx, e⟩ | ⟨y', hy, e⟩
    · rw [e]; exact h1 x' hx
    · simp at hy
  | case3 y ys ih =>
    obtain ⟨h1, h2⟩ := List.pairwise_cons.1 hb
    refine List.pairwise_cons.2 ⟨fun t ht => ?_, ih ha h2⟩
    rcases kk_mem k0 (kmerge_is h _ _ t ht) with ⟨x', hx, e⟩ | ⟨y', hy, e⟩
    · simp at hx
    · rw [e]; exact h1 y' hy
  | case4 x xs y ys h1 ih =>
    obtain ⟨a1, a2⟩ := List.pairwise_cons.1 ha
    obtain ⟨b1, b2⟩ := List.pairwise_cons.1 hb
    refine List.pairwise_cons.2 ⟨fun t ht => ?_, ih a2 hb⟩
    rcases kk_mem k0 (kmerge_is h _ _ t ht) with ⟨x', hx, e⟩ | ⟨y', hy, e⟩
    · rw [e]; exact a1 x' hx
    · rw [e]
      rcases List.mem_cons.1 hy with rfl | hy
      · exact h1
      · exact h.tr h1 (b1 y' hy)
  | case5 x xs y ys h1 h2 ih =>
    obtain ⟨a1, a2⟩ := List.pairwise_cons.1 ha
    obtain ⟨b1, b2⟩ := List.pairwise_cons.1 hb
    refine List.pairwise_cons.2 ⟨fun t ht => ?_, ih ha b2⟩
    rcases kk_mem k0 (kmerge_is h _ _ t ht) with ⟨x', hx, e⟩ | ⟨y', hy, e⟩
    · rw [e]
      rcases List.mem_cons.1 hx with rfl | hx
      · exact h2
      · exact h.tr h2 (a1 x' hx)
    · rw [e]; exact b1 y' hy
  | case6 x xs y ys h1 h2 ih =>
    obtain ⟨a1, a2⟩ := List.pairwise_cons.1 ha
    obtain ⟨b1, b2⟩ := List.pairwise_cons.1 hb
    have exy : key x = key y := by
      rcases h.tri (by simpa using h1) with e | e
      · exact e
      · exact absurd e h2
    refine List.pairwise_cons.2 ⟨fun t ht => ?_, ih a2 b2⟩
    rcases kk_mem k0 (kmerge_is h _ _ t ht) with ⟨x', hx, e⟩ | ⟨y', hy, e⟩
    · rw [e]; exact a1 x' hx
    · rw [e]; show lt (key x) (key y') = true; rw [exy]; exact b1 y' hy
/-- What is made of the pairs, key by key. -/
def comb (lt : κ → κ → Bool) (key : E → κ) {G : Type} (f : Option E → Option E → Option G) (a b : List E) : List G := (kmerge lt key a b).filterMap (fun t => f t.1 t.2)
/-- Where what is made has the pair's key, it rises, and tells of each key what is made of what both tell. -/
theorem comb_srt (h : TO lt) {G : Type} (kg : G → κ) (f : Option E → Option E → Option G) (a b : List E) (ha : Srt lt key a) (hb : Srt lt key b) (hf : ∀ k0 t g, f t.1 t.2 = some g → kg g = kk key k0 t ∨ t = (none, none)) : Srt lt kg (comb lt key f a b) := by
  unfold comb Srt
  by_cases hne : kmerge lt key a b = []
  · rw [hne]; exact List.Pairwise.nil
  · obtain ⟨t0, ht0⟩ : ∃ t, t ∈ kmerge lt key a b := List.exists_mem_of_ne_nil _ hne
    obtain ⟨k0⟩ : Nonempty κ := by
      rcases kmerge_is h a b t0 ht0 with ⟨x, _, _⟩ | ⟨y, _, _⟩ | ⟨x, y, _, _⟩
      · exact ⟨key x⟩
      · exact ⟨key y⟩
      · exact ⟨key x⟩
    refine List.Pairwise.filterMap _ ?_ (List.Pairwise.and_mem.1 (kmerge_srt h k0 a b ha hb))
    rintro s t ⟨hs, ht, hst⟩ g hg g' hg'
    have ns : s ≠ (none, none) := by
      rintro rfl
      rcases kmerge_is h a b _ hs with ⟨x, e, _⟩ | ⟨y, e, _⟩ | ⟨x, y, e, _⟩ <;> simp at e
    have nt : t ≠ (none, none) := by
      rintro rfl
      rcases kmerge_is h a b _ ht with ⟨x, e, _⟩ | ⟨y, e, _⟩ | ⟨x, y, e, _⟩ <;> simp at e
    rcases hf k0 s g hg with e | e
    · rcases hf k0 t g' hg' with e' | e'
      · rw [e, e']; exact hst
      · exact absurd e' nt
    · exact absurd e ns
end
section
variable {κ E : Type} [DecidableEq κ] {lt : κ → κ → Bool} {key : E → κ}
def look (key : E → κ) (l : List E) (k : κ) : Option E := l.find? (fun e => key e == k)
theorem look_nil (key : E → κ) (k : κ) : look key ([] : List E) k = none := rfl
theorem look_cons (key : E → κ) (e : E) (l : List E) (k : κ) : look key (e :: l) k = if key e = k then some e else look key l k := by
  unfold look; rw [List.find?_cons]
  by_cases h : key e = k
  · have : (key e == k) = true := by simpa using h
    rw [this, if_pos h]
  · have : (key e == k) = false := by simpa using h
    rw [this, if_neg h]
theorem look_some (key : E → κ) {l : List E} {k : κ} {e : E} (h : look key l k = some e) : e ∈ l ∧ key e = k := by
  unfold look at h
  exact ⟨List.mem_of_find?_eq_some h, by simpa using List.find?_some h⟩
theorem look_none (key : E → κ) {l : List E} {k : κ} (h : ∀ e ∈ l, key e ≠ k) : look key l k = none := by
  unfold look; rw [List.find?_eq_none]; intro e he; simpa using h e he
theorem look_none_iff (key : E → κ) {l : List E} {k : κ} : look key l k = none ↔ ∀ e ∈ l, key e ≠ k := by
  unfold look; rw [List.find?_eq_none]; simp
theorem look_mem (h : TO lt) {l : List E} (hl : Srt lt key l) {e : E} (he : e ∈ l) : look key l (key e) = some e := by
  induction l with
  | nil => simp at he
  | cons a l ih =>
    obtain ⟨h1, h2⟩ := List.pairwise_cons.1 hl
    rw [look_cons]
    rcases List.mem_cons.1 he with rfl | he'
    · rw [if_pos rfl]
    · rw [if_neg (h.ne (h1 e he'))]; exact ih h2 he'
theorem mem_iff_look (h : TO lt) {l : List E} (hl : Srt lt key l) {e : E} : e ∈ l ↔ look key l (key e) = some e :=
  ⟨look_mem h hl, fun hh => (look_some key hh).1⟩
theorem look_above (h : TO lt) {l : List E} {k : κ} (hl : ∀ e ∈ l, lt k (key e) = true) : look key l k = none :=
  look_none key fun e he e' => by have := hl e he; rw [e', h.irr] at this; cases this
/-- Lists that rise and tell the same of each key are the same. -/
theorem srt_ext (h : TO lt) : ∀ {l m : List E}, Srt lt key l → Srt lt key m → (∀ k, look key l k = look key m k) → l = m := by
  intro l
  induction l with
  | nil =>
    intro m _ hm he
    cases m with
    | nil => rfl
    | cons b m => have := he (key b); rw [look_nil, look_cons, if_pos rfl] at this; cases this
  | cons a l ih =>
    intro m hl hm he
    cases m with
    | nil => have := he (key a); rw [look_nil, look_cons, if_pos rfl] at this; cases this
    | cons b m =>
      obtain ⟨h1, h2⟩ := List.pairwise_cons.1 hl
      obtain ⟨k1, k2⟩ := List.pairwise_cons.1 hm
      have hk : key a = key b := by
        cases hab : lt (key a) (key b) with
        | true =>
          have := he (key a)
          rw [look_cons, if_pos rfl, look_above h (fun e hx => by rcases List.mem_cons.1 hx with rfl | hx; exact hab; exact h.tr hab (k1 e hx))] at this; cases this
        | false =>
          rcases h.tri hab with e | hba
          · exact e
          · have := he (key b)
            rw [look_cons (e := b), if_pos rfl, look_above h (fun e hx => by rcases List.mem_cons.1 hx with rfl | hx; exact hba; exact h.tr hba (h1 e hx))] at this; cases this
      have hab : a = b := by have := he (key a); rw [look_cons, if_pos rfl, look_cons, if_pos hk.symm] at this; exact Option.some.inj this
      subst hab
      congr 1
      refine ih h2 k2 fun k => ?_
      by_cases e : key a = k
      · subst e; rw [look_above h h1, look_above h k1]
      · have := he k; rwa [look_cons, if_neg e, look_cons, if_neg e] at this
/-- Of each key there is the pair of what both tell. -/
theorem kmerge_has (h : TO lt) (a b : List E) (ha : Srt lt key a) (hb : Srt lt key b) (k : κ) (hk : ¬ (look key a k = none ∧ look key b k = none)) : (look key a k, look key b k) ∈ kmerge lt key a b := by
  fun_induction kmerge lt key a b with
  | case1 => exact absurd ⟨rfl, rfl⟩ hk
  | case2 x xs ih =>
    obtain ⟨h1, h2⟩ := List.pairwise_cons.1 ha
    rw [look_cons] at hk ⊢
    by_cases e : key x = k
    · rw [if_pos e]; exact List.mem_cons_self
    · rw [if_neg e] at hk ⊢; exact List.mem_cons_of_mem _ (ih h2 hb hk)
  | case3 y ys ih =>
    obtain ⟨h1, h2⟩ := List.pairwise_cons.1 hb
    rw [look_cons] at hk ⊢
    by_cases e : key y = k
    · rw [if_pos e]; exact List.mem_cons_self
    · rw [if_neg e] at hk ⊢; exact List.mem_cons_of_mem _ (ih ha h2 hk)
  | case4 x xs y ys h1 ih =>
    obtain ⟨a1, a2⟩ := List.pairwise_cons.1 ha
    obtain ⟨b1, b2⟩ := List.pairwise_cons.1 hb
    rw [look_cons (e := x)] at hk ⊢
    by_cases e : key x = k
    · have : look key (y :: ys) k = none := look_above h (fun e' he => by
        rw [← e]
        rcases List.mem_cons.1 he with rfl | he
        · exact h1
        · exact h.tr h1 (b1 e' he))
      rw [if_pos e, this]; exact List.mem_cons_self
    · rw [if_neg e] at hk ⊢; exact List.mem_cons_of_mem _ (ih a2 hb hk)
  | case5 x xs y ys h1 h2 ih =>
    obtain ⟨a1, a2⟩ := List.pairwise_cons.1 ha
    obtain ⟨b1, b2⟩ := List.pairwise_cons.1 hb
    rw [look_cons (e := y)] at hk ⊢
    by_cases e : key y = k
    · have : look key (x :: xs) k = none := look_above h (fun e' he => by
        rw [← e]
        rcases List.mem_cons.1 he with rfl | he
        · exact h2
        · exact h.tr h2 (a1 e' he))
      rw [if_pos e, this]; exact List.mem_cons_self
    · rw [if_neg e] at hk ⊢; exact List.mem_cons_of_mem _ (ih ha b2 hk)
  | case6 x xs y ys h1 h2 ih =>
    obtain ⟨a1, a2⟩ := List.pairwise_cons.1 ha
    obtain ⟨b1, b2⟩ := List.pairwise_cons.1 hb
    have exy : key x = key y := by
      rcases h.tri (by simpa using h1) with e | e
      · exact e
      · exact absurd e h2
    rw [look_cons, look_cons] at hk ⊢
    by_cases e : key x = k
    · rw [if_pos e, if_pos (exy ▸ e)]; exact List.mem_cons_self
    · have e' : ¬ key y = k := exy ▸ e
      rw [if_neg e, if_neg e'] at hk ⊢; exact List.mem_cons_of_mem _ (ih a2 b2 hk)
/-- And no other one. -/
theorem kmerge_only (h : TO lt) (k0 : κ) (a b : List E) (ha : Srt lt key a) (hb : Srt lt key b) (t : Option E × Option E) (ht : t ∈ kmerge lt key a b) : t = (look key a (kk key k0 t), look key b (kk key k0 t)) := by
  have his := kmerge_is h a b t ht
  have hnn : ¬ (look key a (kk key k0 t) = none ∧ look key b (kk key k0 t) = none) := by
    rintro ⟨e1, e2⟩
    rcases his with ⟨x, rfl, hx⟩ | ⟨y, rfl, hy⟩ | ⟨x, y, rfl, hx, hy, e⟩
    · have : look key a (key x) = none := e1
      rw [look_mem h ha hx] at this; cases this
    · have : look key b (key y) = none := e2
      rw [look_mem h hb hy] at this; cases this
    · have : look key a (key x) = none := e1
      rw [look_mem h ha hx] at this; cases this
  have hm := kmerge_has h a b ha hb _ hnn
  have hkk : kk key k0 (look key a (kk key k0 t), look key b (kk key k0 t)) = kk key k0 t := by
    cases h1 : look key a (kk key k0 t) with
    | some x => exact (look_some key h1).2
    | none =>
      cases h2 : look key b (kk key k0 t) with
      | some y => exact (look_some key h2).2
      | none => exact absurd ⟨h1, h2⟩ hnn
  have hs := kmerge_srt h k0 a b ha hb
  -- one pair a key
  have one : ∀ l : List (Option E × Option E), l.Pairwise (fun s t => lt (kk key k0 s) (kk key k0 t) = true) → ∀ s t, s ∈ l → t ∈ l → kk key k0 s = kk key k0 t → s = t := by
    intro l hl
    induction l with
    | nil => intro s t hs; simp at hs
    | cons u l ih =>
      obtain ⟨h1, h2⟩ := List.pairwise_cons.1 hl
      intro s t hs ht e
      rcases List.mem_cons.1 hs with hs' | hs' <;> rcases List.mem_cons.1 ht with ht' | ht'
      · rw [hs', ht']
      · rw [hs'] at e; exact absurd e (h.ne (h1 t ht'))
      · rw [ht'] at e; exact absurd e.symm (h.ne (h1 s hs'))
      · exact ih h2 s t hs' ht' e
  exact one _ hs _ _ ht hm hkk.symm
theorem comb_mem (h : TO lt) {G : Type} (f : Option E → Option E → Option G) (a b : List E) (ha : Srt lt key a) (hb : Srt lt key b) (h0 : f none none = none) (g : G) : g ∈ comb lt key f a b ↔ ∃ k, f (look key a k) (look key b k) = some g := by
  unfold comb
  rw [List.mem_filterMap]
  constructor
  · rintro ⟨t, ht, hg⟩
    obtain ⟨k0⟩ : Nonempty κ := by
      rcases kmerge_is h a b t ht with ⟨x, _, _⟩ | ⟨y, _, _⟩ | ⟨x, y, _, _⟩
      · exact ⟨key x⟩
      · exact ⟨key y⟩
      · exact ⟨key x⟩
    have := kmerge_only h k0 a b ha hb t ht
    exact ⟨kk key k0 t, by rw [this] at hg; exact hg⟩
  · rintro ⟨k, hk⟩
    refine ⟨_, kmerge_has h a b ha hb k ?_, hk⟩
    rintro ⟨e1, e2⟩
    rw [e1, e2, h0] at hk; cases hk
end
end Go.Proofs.Ytghlellambnkeaa.Pure
