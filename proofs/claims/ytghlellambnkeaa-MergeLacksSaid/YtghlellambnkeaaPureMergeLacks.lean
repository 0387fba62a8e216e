/- For both lists the law MergeLacks answers true: who takes what it lacks has the newest of both, and the keys that differ are those of what either lacks. It has no condition but the form's own reach. -/
import Derived.Test.YtghlellambnkeaaPAllx0
import Derived.Test.YtghlellambnkeaaPAllx7
import Derived.Test.YtghlellambnkeaaPAllx8
import Derived.Test.YtghlellambnkeaaQMergeLacks
import Derived.Test.YtghlellambnkeaaSEv
import Derived.Test.YtghlellambnkeaaSLists
import Derived.Test.YtghlellambnkeaaSItemcmp
import Derived.Test.YtghlellambnkeaaSMergeP
import Derived.Test.YtghlellambnkeaaSChk09
import Derived.Test.YtghlellambnkeaaSPairs09
import Derived.Test.YtghlellambnkeaaSClean09
import Derived.Test.YtghlellambnkeaaSBeyond09
import Derived.Test.YtghlellambnkeaaSAbove09
import Derived.Test.YtghlellambnkeaaSMax09
import Derived.Test.YtghlellambnkeaaSMergeM
import Derived.Test.YtghlellambnkeaaSStr
import Derived.Test.YtghlellambnkeaaSMergeDf
import Derived.Test.YtghlellambnkeaaSMergeLa
set_option linter.unusedVariables false
set_option linter.unusedSimpArgs false
namespace Go.Proofs.Ytghlellambnkeaa.Pure
open Go.RowKit Go.Proofs.Ytghlellambnkeaa.PAll Go.Proofs.YtghlellambnkeaaW.PrintWords Go.Proofs.YtghlellambnkeaaW.PrintLast Go.Proofs.YtghlellambnkeaaW.PrintMore
section
open Go.Proofs.Ytghlellambnkeaa.MergeW Go.Proofs.Ytghlellambnkeaa.Str
theorem differ_ev (a b : List S44) (h : a.length + b.length ≤ 1256584717457) (ha : chkL a = 0) (hb : chkL b = 0) : Ev (fun k => merge_Differ.f k a b) (differL (mp a b), 0) := by
  refine Ev.congr (fun k => by rw [merge_Differ.f]) (Ev.bind (chk2_f a b (by omega) (by omega)) ?_)
  have hc : chk2 a b = 0 := by unfold chk2; rw [if_pos ha]; exact hb
  have hl := mp_len a b
  rw [hc]
  simp only [if_pos (show (mp a b).length < 2513169434916 by omega), if_true]
  exact Ev.const rfl
end
section
open Go.Proofs.Ytghlellambnkeaa.MergeW Go.Proofs.Ytghlellambnkeaa.Str
theorem lacks_ev (a b : List S44) (h : a.length + b.length ≤ 1256584717457) (ha : chkL a = 0) (hb : chkL b = 0) : Ev (fun k => merge_Lacks.f k a b) (lacksL (mp a b), 0) := by
  refine Ev.congr (fun k => by rw [merge_Lacks.f]) (Ev.bind (chk2_f a b (by omega) (by omega)) ?_)
  have hc : chk2 a b = 0 := by unfold chk2; rw [if_pos ha]; exact hb
  have hl := mp_len a b
  rw [hc]
  simp only [if_pos (show (mp a b).length < 2513169434916 by omega), if_true]
  exact Ev.const rfl
end
section
open Go.Proofs.Ytghlellambnkeaa.MergeW Go.Proofs.Ytghlellambnkeaa.Str
theorem fm_congr {α β : Type} {f g : α → Option β} : ∀ {l : List α}, (∀ x ∈ l, f x = g x) → l.filterMap f = l.filterMap g := by
  intro l
  induction l with
  | nil => intro _; rfl
  | cons x l ih =>
    intro h
    rw [List.filterMap_cons, List.filterMap_cons, h x List.mem_cons_self, ih (fun y hy => h y (List.mem_cons_of_mem _ hy))]
/-- What chooses one of two. -/
def Sel (f : Option S44 → Option S44 → Option S44) : Prop := ∀ x y g, f x y = some g → x = some g ∨ y = some g
theorem sel_none {f : Option S44 → Option S44 → Option S44} (h : Sel f) : f none none = none := by
  cases hf : f none none with
  | none => rfl
  | some g => rcases h _ _ _ hf with e | e <;> cases e
theorem sel_look {f : Option S44 → Option S44 → Option S44} (h : Sel f) {a b : List S44} {k : List UInt8} {g : S44} (hg : f (look keyE a k) (look keyE b k) = some g) : keyE g = k ∧ (g ∈ a ∨ g ∈ b) := by
  rcases h _ _ _ hg with e | e
  · exact ⟨(look_some keyE e).2, .inl (look_some keyE e).1⟩
  · exact ⟨(look_some keyE e).2, .inr (look_some keyE e).1⟩
theorem sel_key {f : Option S44 → Option S44 → Option S44} (h : Sel f) {a b : List S44} {t : Option S44 × Option S44} (ht : IsPair ltE keyE a b t) {g : S44} (hg : f t.1 t.2 = some g) : keyE g = kk keyE [] t := by
  rcases ht with ⟨x, rfl, _⟩ | ⟨y, rfl, _⟩ | ⟨x, y, rfl, _, _, e⟩
  · rcases h _ _ _ hg with e | e <;> cases e; rfl
  · rcases h _ _ _ hg with e | e <;> cases e; rfl
  · rcases h _ _ _ hg with e' | e' <;> cases e'
    · rfl
    · exact e.symm
theorem comb_ok {f : Option S44 → Option S44 → Option S44} (h : Sel f) {a b : List S44} (ha : MapOK a) (hb : MapOK b) : MapOK (comb ltE keyE f a b) := by
  refine ⟨fun e he => ?_, ?_⟩
  · obtain ⟨k, hk⟩ := (comb_mem TOE f a b ha.srt hb.srt (sel_none h) e).1 he
    rcases (sel_look h hk).2 with g | g
    · exact ha.ent e g
    · exact hb.ent e g
  · unfold comb Srt
    refine List.Pairwise.filterMap _ ?_ (List.Pairwise.and_mem.1 (kmerge_srt TOE ([] : List UInt8) a b ha.srt hb.srt))
    rintro s t ⟨hs, ht, hst⟩ g hg g' hg'
    rw [sel_key h (kmerge_is TOE a b s hs) hg, sel_key h (kmerge_is TOE a b t ht) hg']
    exact hst
theorem comb_look {f : Option S44 → Option S44 → Option S44} (h : Sel f) {a b : List S44} (ha : MapOK a) (hb : MapOK b) (k : List UInt8) : look keyE (comb ltE keyE f a b) k = f (look keyE a k) (look keyE b k) := by
  have hm := comb_ok h ha hb
  cases hg : f (look keyE a k) (look keyE b k) with
  | some g =>
    have := look_mem TOE hm.srt ((comb_mem TOE f a b ha.srt hb.srt (sel_none h) g).2 ⟨k, hg⟩)
    rw [(sel_look h hg).1] at this
    exact this
  | none =>
    cases hl : look keyE (comb ltE keyE f a b) k with
    | none => rfl
    | some g =>
      obtain ⟨hmem, hkey⟩ := look_some keyE hl
      obtain ⟨k', hk'⟩ := (comb_mem TOE f a b ha.srt hb.srt (sel_none h) g).1 hmem
      have := (sel_look h hk').1
      rw [hkey] at this
      rw [← this, hg] at hk'
      cases hk'
theorem sel_best : Sel bestO := by
  intro x y g h
  cases x with
  | none => cases y with
    | none => cases h
    | some y => exact .inr h
  | some x => cases y with
    | none => exact .inl h
    | some y =>
      have h : bestK x y = g := Option.some.inj h
      rcases bestK_or x y with e | e <;> rw [e] at h <;> rw [h]
      · exact .inl rfl
      · exact .inr rfl
/-- What one has that the other lacks. -/
def lackO : Option S44 → Option S44 → Option S44
  | some x, none => some x
  | some x, some y => if newK x y = true then some x else none
  | none, _ => none
theorem sel_lack : Sel lackO := by
  intro x y g h
  cases x with
  | none => cases h
  | some x => cases y with
    | none => exact .inl h
    | some y =>
      simp only [lackO] at h
      split at h
      · exact .inl h
      · cases h
theorem newK_z {x : S44} (h : entE x = 0) : newK x z44 = true := by
  have := entE_there h
  exact newK_iff.2 (by rw [z_f0]; omega)
theorem lacksL_comb {a b : List S44} (ha : MapOK a) (hb : MapOK b) : lacksL (mp a b) = comb ltE keyE lackO a b := by
  unfold lacksL mp comb
  rw [List.filterMap_map]
  have h : ∀ l : List (Option S44 × Option S44), (∀ s ∈ l, IsPair ltE keyE a b s) → l.filterMap ((fun t => if (thereB t.1 && newK t.1 t.2) = true then some t.1 else none) ∘ fun t => (t.1.getD z44, t.2.getD z44)) = l.filterMap (fun t => lackO t.1 t.2) := by
    intro l hl
    refine fm_congr fun s hs => ?_
    rcases hl s hs with ⟨x, rfl, hx⟩ | ⟨y, rfl, hy⟩ | ⟨x, y, rfl, hx, hy, _⟩
    · show (if (thereB x && newK x z44) = true then some x else none) = some x
      rw [thereB_ok (ha.ent x hx), newK_z (ha.ent x hx)]; rfl
    · show (if (thereB z44 && newK z44 y) = true then some z44 else none) = none
      rw [thereB_z]; rfl
    · show (if (thereB x && newK x y) = true then some x else none) = (if newK x y = true then some x else none)
      rw [thereB_ok (ha.ent x hx), Bool.true_and]
  exact h _ (kmerge_is TOE a b)
theorem lacks_ok {a b : List S44} (ha : MapOK a) (hb : MapOK b) : MapOK (lacksL (mp a b)) := by rw [lacksL_comb ha hb]; exact comb_ok sel_lack ha hb
theorem lacks_look {a b : List S44} (ha : MapOK a) (hb : MapOK b) (k : List UInt8) : look keyE (lacksL (mp a b)) k = lackO (look keyE a k) (look keyE b k) := by rw [lacksL_comb ha hb]; exact comb_look sel_lack ha hb k
/-- Who takes what it lacks has the newest of both. -/
theorem takes {a b : List S44} (ha : MapOK a) (hb : MapOK b) : maxL (mp b (lacksL (mp a b))) = maxL (mp b a) := by
  have hl := lacks_ok ha hb
  refine map_ext (max_ok hb hl) (max_ok hb ha) fun k => ?_
  rw [max_look hb hl, max_look hb ha, lacks_look ha hb]
  cases hx : look keyE a k with
  | none => rfl
  | some x =>
    cases hy : look keyE b k with
    | none => rfl
    | some y =>
      cases hn : newK x y with
      | true => simp [lackO, hn]
      | false => simp [lackO, hn, bestO, bestK]
/-- What either lacks. -/
def difO (x y : Option S44) : Option S44 := bestO (lackO x y) (lackO y x)
theorem sel_dif : Sel difO := by
  intro x y g h
  rcases sel_best _ _ _ h with e | e
  · exact sel_lack _ _ _ e
  · exact (sel_lack _ _ _ e).symm
theorem both_dif {a b : List S44} (ha : MapOK a) (hb : MapOK b) : maxL (mp (lacksL (mp a b)) (lacksL (mp b a))) = comb ltE keyE difO a b := by
  have h1 := lacks_ok ha hb
  have h2 := lacks_ok hb ha
  refine map_ext (max_ok h1 h2) (comb_ok sel_dif ha hb) fun k => ?_
  rw [max_look h1 h2, lacks_look ha hb, lacks_look hb ha, comb_look sel_dif ha hb]
  rfl
theorem differ_dif {a b : List S44} (ha : MapOK a) (hb : MapOK b) : differL (mp a b) = (comb ltE keyE difO a b).map (fun e => e.f0) := by
  unfold differL mp comb
  rw [List.filterMap_map, List.map_filterMap]
  have h : ∀ l : List (Option S44 × Option S44), (∀ s ∈ l, IsPair ltE keyE a b s) → l.filterMap ((fun t => if verB t.1 t.2 = true then none else some (keyD t)) ∘ fun t => (t.1.getD z44, t.2.getD z44)) = l.filterMap (fun t => (difO t.1 t.2).map (fun e => e.f0)) := by
    intro l hl
    refine fm_congr fun s hs => ?_
    rcases hl s hs with ⟨x, rfl, hx⟩ | ⟨y, rfl, hy⟩ | ⟨x, y, rfl, hx, hy, e⟩
    · show (if verB x z44 = true then none else some (keyD (x, z44))) = some x.f0
      have := entE_there (ha.ent x hx)
      rw [if_neg (fun hv => by have g : x.f1.f0 = (0 : Int) := (verB_iff.1 hv).1; omega)]
      unfold keyD; rw [thereB_ok (ha.ent x hx)]; rfl
    · show (if verB z44 y = true then none else some (keyD (z44, y))) = some y.f0
      have := entE_there (hb.ent y hy)
      rw [if_neg (fun hv => by have g : (0 : Int) = y.f1.f0 := (verB_iff.1 hv).1; omega)]
      unfold keyD; rw [thereB_z]; rfl
    · show (if verB x y = true then none else some (keyD (x, y))) = (difO (some x) (some y)).map (fun e => e.f0)
      have hk : keyD (x, y) = x.f0 := by unfold keyD; rw [thereB_ok (ha.ent x hx)]; rfl
      have hxy : x.f0 = y.f0 := ba_eq.1 e
      rw [hk]
      cases h1 : newK x y with
      | true =>
        have g1 := newK_iff.1 h1
        have h2 : newK y x = false := newK_not (by omega)
        rw [if_neg (fun hv => by have := verB_iff.1 hv; omega)]
        simp [difO, lackO, h1, h2, bestO]
      | false =>
        have g1 := newK_false h1
        cases h2 : newK y x with
        | true =>
          have g2 := newK_iff.1 h2
          rw [if_neg (fun hv => by have := verB_iff.1 hv; omega)]
          simp [difO, lackO, h1, h2, bestO, hxy]
        | false =>
          have g2 := newK_false h2
          rw [if_pos (verB_iff.2 (by omega))]
          simp [difO, lackO, h1, h2, bestO]
  exact h _ (kmerge_is TOE a b)
theorem filterMap_two {α β : Type} (f g d : α → Option β) : ∀ l : List α, (∀ x ∈ l, (d x).isSome = ((f x).isSome || (g x).isSome) ∧ ((f x).isSome && (g x).isSome) = false) → (l.filterMap d).length = (l.filterMap f).length + (l.filterMap g).length := by
  intro l
  induction l with
  | nil => intro _; rfl
  | cons x l ih =>
    intro h
    have ih := ih (fun y hy => h y (List.mem_cons_of_mem _ hy))
    obtain ⟨h1, h2⟩ := h x List.mem_cons_self
    rw [List.filterMap_cons, List.filterMap_cons, List.filterMap_cons]
    cases hd : d x <;> cases hf : f x <;> cases hg : g x <;> rw [hd, hf, hg] at h1 <;> rw [hf, hg] at h2 <;> simp at h1 h2 <;> simp [ih] <;> omega
theorem dif_len {a b : List S44} (ha : MapOK a) (hb : MapOK b) : (comb ltE keyE difO a b).length = (lacksL (mp a b)).length + (lacksL (mp b a)).length := by
  have e2 : lacksL (mp b a) = comb ltE keyE (fun x y => lackO y x) a b := by
    have hs : Sel (fun x y => lackO y x) := fun x y g h => (sel_lack _ _ _ h).symm
    refine map_ext (lacks_ok hb ha) (comb_ok hs ha hb) fun k => ?_
    rw [lacks_look hb ha, comb_look hs ha hb]
  rw [e2, lacksL_comb ha hb]
  unfold comb
  refine filterMap_two _ _ _ _ fun s hs => ?_
  rcases kmerge_is TOE a b s hs with ⟨x, rfl, hx⟩ | ⟨y, rfl, hy⟩ | ⟨x, y, rfl, hx, hy, _⟩
  · simp [difO, lackO, bestO]
  · simp [difO, lackO, bestO]
  · cases h1 : newK x y with
    | true =>
      have g1 := newK_iff.1 h1
      have h2 : newK y x = false := newK_not (by omega)
      simp [difO, lackO, h1, h2, bestO]
    | false =>
      cases h2 : newK y x <;> simp [difO, lackO, h1, h2, bestO]
end
section
open Go.Proofs.Ytghlellambnkeaa.MergeW Go.Proofs.Ytghlellambnkeaa.Str
theorem cmpv_ref09 (a0 a1 b0 b1 : Int) : tidelineref03_Compare.f a0 a1 b0 b1 = some (cmpv a0 a1 b0 b1) := by
  unfold tidelineref03_Compare.f cmpv cmpI
  by_cases h1 : a0 > b0
  · rw [if_pos h1]; simp [h1, show ¬ a0 < b0 by omega]
  rw [if_neg h1]
  by_cases h2 : a0 < b0
  · rw [if_pos h2]; simp [h2]
  rw [if_neg h2]
  by_cases h3 : a1 > b1
  · rw [if_pos h3]; simp [h1, h2, h3, show ¬ a1 < b1 by omega]
  rw [if_neg h3]
  by_cases h4 : a1 < b1
  · rw [if_pos h4]; simp [h1, h2, h4]
  · rw [if_neg h4]; simp [h1, h2, h3, h4]
theorem newer_ref09 (x y : S44) : tidelineref03_Newer.f x.f0 x.f1.f0 x.f1.f1 x.f2 x.f3 y.f0 y.f1.f0 y.f1.f1 y.f2 y.f3 = some (newK x y) := by
  unfold tidelineref03_Newer.f newK
  rw [cmpv_ref09]; rfl
theorem best_ref09 (x y : S44) : tidelineref03_Best.f x.f0 x.f1.f0 x.f1.f1 x.f2 x.f3 y.f0 y.f1.f0 y.f1.f1 y.f2 y.f3 = some ((bestK x y).f0, (bestK x y).f1.f0, (bestK x y).f1.f1, (bestK x y).f2, (bestK x y).f3) := by
  unfold tidelineref03_Best.f bestK
  rw [newer_ref09, Option.bind_some]
  cases newK y x <;> rfl
/-- The best of a pair, as the document takes it. -/
def refB (x y : S44) : S44 := if x.f1.f0 = 0 then y else bestK x y
theorem refmax_loop (l : List S46) (hl : l.length ≤ 2513169434900) (d : Nat) : ∀ (i : Nat) (acc : List S44), i + d = l.length → acc.length = i →
    Ev (fun k => tidelineref09_Max.l0 k l acc (i : Int)) (acc ++ (l.drop i).map (fun p => refB p.f0 p.f1), 0) := by
  induction d with
  | zero =>
    intro i acc hd ha
    refine Ev.step (fun k => by rw [tidelineref09_Max.l0]) ?_
    simp only [if_neg (show ¬ (i : Int) < (l.length : Int) by omega)]
    rw [List.drop_of_length_le (by omega)]
    exact Ev.const (by simp)
  | succ d ih =>
    intro i acc hd ha
    refine Ev.step (fun k => by rw [tidelineref09_Max.l0]) ?_
    simp only [if_pos (show (i : Int) < (l.length : Int) by omega), if_pos (show (0 : Int) ≤ (i : Int) by omega), if_pos (show acc.length < 2513169434916 by omega)]
    rw [rd46 (show i < l.length by omega), wrap_succ (by omega), List.drop_eq_getElem_cons (show i < l.length by omega)]
    refine Ev.bind (Ev.const rfl) ?_
    cases hz : (l[i].f0.f1.f0 == 0) with
    | true =>
      have e : refB l[i].f0 l[i].f1 = l[i].f1 := by unfold refB; rw [if_pos (by simpa using hz)]
      simp only [if_true]
      refine Ev.val (ih (i + 1) (acc ++ [l[i].f1]) (by omega) (by simp [ha])) ?_
      rw [List.map_cons, e]; simp
    | false =>
      have e : refB l[i].f0 l[i].f1 = bestK l[i].f0 l[i].f1 := by unfold refB; rw [if_neg (by simpa using hz)]
      simp only [if_neg (show ¬ (false = true) by decide)]
      refine Ev.bind (Ev.const (best_ref09 _ _)) ?_
      refine Ev.val (ih (i + 1) (acc ++ [bestK l[i].f0 l[i].f1]) (by omega) (by simp [ha])) ?_
      rw [List.map_cons, e]; simp
theorem refMax_ev (a b : List S44) (h : a.length + b.length ≤ 1256584717457) (ha : chkL a = 0) (hb : chkL b = 0) : Ev (fun k => tidelineref09_Max.f k a b) (maxL (mp a b), 0) := by
  refine Ev.congr (fun k => by rw [tidelineref09_Max.f]) (Ev.bind (chk2_ref a b (by omega) (by omega)) ?_)
  have hc : chk2 a b = 0 := by unfold chk2; rw [if_pos ha]; exact hb
  have hl := mp_len a b
  rw [hc]
  simp only [if_true]
  refine Ev.bind (pairs_ref a b h) ?_
  simp only [if_pos hc]
  refine Ev.val (refmax_loop ((mp a b).map pairS) (by rw [List.length_map]; omega) _ 0 [] (Nat.zero_add _) rfl) ?_
  rw [List.drop_zero, List.nil_append, List.map_map]
  unfold maxL
  have hm : ∀ t ∈ mp a b, refB t.1 t.2 = bestK (if thereB t.1 = true then t.1 else t.2) t.2 := by
    intro t ht
    obtain ⟨k, _, rfl⟩ := mp_only (mapOK ha) (mapOK hb) ht
    cases hx : look keyE a k with
    | none =>
      simp only [Option.getD_none]
      rw [thereB_z, if_neg (by decide), bestK_self]
      unfold refB; rw [if_pos z_f0]
    | some x =>
      have ht := look_there (mapOK ha) hx
      simp only [Option.getD_some]
      rw [thereB_ok ((mapOK ha).ent x (look_some keyE hx).1), if_pos rfl]
      unfold refB; rw [if_neg (by omega)]
  exact congrArg (fun l => (l, (0 : Int))) (List.map_congr_left hm)
end
open Go.Proofs.Ytghlellambnkeaa.MergeW Go.Proofs.Ytghlellambnkeaa.Str
theorem keys_loop (l : List S44) (hl : l.length ≤ 2513169434900) (d : Nat) : ∀ i : Nat, i + d = l.length →
    Ev (fun k => tidelinelaw09_MergeLacks.l0 k (l.map (fun e => e.f0)) l (i : Int)) true := by
  induction d with
  | zero =>
    intro i hd
    refine Ev.step (fun k => by rw [tidelinelaw09_MergeLacks.l0]) ?_
    simp only [List.length_map, if_neg (show ¬ (i : Int) < (l.length : Int) by omega)]
    exact Ev.const rfl
  | succ d ih =>
    intro i hd
    refine Ev.step (fun k => by rw [tidelinelaw09_MergeLacks.l0]) ?_
    simp only [List.length_map, if_pos (show (i : Int) < (l.length : Int) by omega), if_pos (show (0 : Int) ≤ (i : Int) by omega)]
    rw [rd44 (show i < l.length by omega), rdOf_nat _ _ i (by rw [List.length_map]; omega), wrap_succ (by omega), List.getElem_map]
    simp only [if_true]
    exact ih (i + 1) (by omega)
theorem MergeLacks : tidelinelaw09_MergeLacks.Pure := by
  intro a b fa fb
  have la : a.length ≤ 2513169434843 := by have := fa.1; omega
  have lb : b.length ≤ 2513169434843 := by have := fb.1; omega
  refine Ev.rounds ?_
  refine Ev.congr (fun k => by rw [tidelinelaw09_MergeLacks.f]) ?_
  obtain ⟨bb, hbb, hlim⟩ := bey_f [a, b] (by simp) (by intro l hl; simp at hl; rcases hl with rfl | rfl <;> assumption)
  refine Ev.bind hbb ?_
  have done : Ev (fun k => tidelinelaw09_MergeLacks.j0 k a b true) true := by
    refine Ev.step (fun k => by rw [tidelinelaw09_MergeLacks.j0]) ?_
    simp only [if_true]; exact Ev.const rfl
  cases bb with
  | true => simp only [if_true]; exact done
  | false =>
    have hs := hlim rfl
    simp only [List.map_cons, List.map_nil, List.sum_cons, List.sum_nil] at hs
    simp only [if_neg (show ¬ (false = true) by decide)]
    refine Ev.bind (clean_f a b (by omega)) ?_
    cases h1 : cleanB a b with
    | false => exact done
    | true =>
      obtain ⟨ca, cb, hcl⟩ := cleanB_parts h1
      have ma := mapOK ca
      have mb := mapOK cb
      have mab := lacks_ok ma mb
      have mba := lacks_ok mb ma
      have lab : (lacksL (mp a b)).length ≤ a.length + b.length := Nat.le_trans (lacksL_len _) (mp_len a b)
      have lba : (lacksL (mp b a)).length ≤ b.length + a.length := Nat.le_trans (lacksL_len _) (mp_len b a)
      have lmb : (maxL (mp b (lacksL (mp a b)))).length ≤ b.length + (lacksL (mp a b)).length := max_len
      have lmx : (maxL (mp b a)).length ≤ b.length + a.length := max_len
      refine Ev.step (fun k => by rw [tidelinelaw09_MergeLacks.j0]) ?_
      simp only [Bool.not_true, if_neg (show ¬ (false = true) by decide)]
      refine Ev.bind (lacks_ev a b (by omega) ca cb) ?_
      refine Ev.bind (lacks_ev b a (by omega) cb ca) ?_
      simp only [if_true]
      refine Ev.step (fun k => by rw [tidelinelaw09_MergeLacks.j1]) ?_
      simp only [bne_self_eq_false, if_neg (show ¬ (false = true) by decide)]
      refine Ev.bind (max_ev b _ (by omega) cb (map_chk mab)) ?_
      refine Ev.bind (max_ev b a (by omega) cb ca) ?_
      refine Ev.bind (differ_ev a b (by omega) ca cb) ?_
      refine Ev.bind (max_ev _ _ (by omega) (map_chk mab) (map_chk mba)) ?_
      refine Ev.bind (refMax_ev b a (by omega) cb ca) ?_
      refine Ev.bind (same_f (maxL (mp b a)) (maxL (mp b a)) (by omega)) ?_
      rw [sameB_iff.2 rfl]
      simp only [if_true]
      refine Ev.bind (same_f _ _ (by omega)) ?_
      rw [sameB_iff.2 (takes ma mb)]
      simp only [if_true]
      have hd := differ_dif ma mb
      have hb := both_dif ma mb
      have hl := dif_len ma mb
      rw [hd, hb, List.length_map, wrap_id (x := ((lacksL (mp a b)).length : Int) + ((lacksL (mp b a)).length : Int)) (by omega) (by omega)]
      have e : ((((comb ltE keyE difO a b).length : Nat) : Int) != ((lacksL (mp a b)).length : Int) + ((lacksL (mp b a)).length : Int)) = false := by
        rw [hl]; simp
      simp only [if_true, e]
      refine Ev.step (fun k => by rw [tidelinelaw09_MergeLacks.j2]) ?_
      simp only [if_neg (show ¬ (false = true) by decide)]
      exact keys_loop _ (by omega) _ 0 (Nat.zero_add _)
end Go.Proofs.Ytghlellambnkeaa.Pure
