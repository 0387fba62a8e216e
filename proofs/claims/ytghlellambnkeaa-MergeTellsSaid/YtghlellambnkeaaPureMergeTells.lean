/- For both lists the law MergeTells answers true: Max, Differ, Lacks and Above are the document's, and what is handed in stays as it was and is not shared. It has no condition but the form's own reach. -/
import Derived.Test.YtghlellambnkeaaPAllx0
import Derived.Test.YtghlellambnkeaaPAllx3
import Derived.Test.YtghlellambnkeaaPAllx4
import Derived.Test.YtghlellambnkeaaPAllx8
import Derived.Test.YtghlellambnkeaaPAllx9
import Derived.Test.YtghlellambnkeaaPAllx10
import Derived.Test.YtghlellambnkeaaPAllx11
import Derived.Test.YtghlellambnkeaaQMergeTells
import Derived.Test.YtghlellambnkeaaSEv
import Derived.Test.YtghlellambnkeaaSLists
import Derived.Test.YtghlellambnkeaaSItemcmp
import Derived.Test.YtghlellambnkeaaSMergeP
import Derived.Test.YtghlellambnkeaaSChk09
import Derived.Test.YtghlellambnkeaaSPairs09
import Derived.Test.YtghlellambnkeaaSLawTells
import Derived.Test.YtghlellambnkeaaSStr
import Derived.Test.YtghlellambnkeaaSMergeA
import Derived.Test.YtghlellambnkeaaSMerge
import Derived.Test.YtghlellambnkeaaSMergeM
set_option linter.unusedVariables false
set_option linter.unusedSimpArgs false
namespace Go.Proofs.Ytghlellambnkeaa.Pure
open Go.RowKit Go.Proofs.Ytghlellambnkeaa.PAll Go.Proofs.YtghlellambnkeaaW.PrintWords Go.Proofs.YtghlellambnkeaaW.PrintLast Go.Proofs.YtghlellambnkeaaW.PrintMore
section
/-- Are two entries unlike? -/
def neE (x y : S44) : Bool := !((x.f0.toList) == (y.f0.toList)) || ((!(x.f1.f0 == y.f1.f0) || (!(x.f1.f1 == y.f1.f1))) || (!((x.f2.toList) == (y.f2.toList)) || (!(x.f3 == y.f3))))
theorem neE_self (x : S44) : neE x x = false := by simp [neE]
theorem neE_eq {x y : S44} (h : neE x y = false) : x = y := by
  unfold neE at h
  simp only [Bool.or_eq_false_iff, Bool.not_eq_false', beq_iff_eq] at h
  obtain ⟨h0, ⟨h1, h2⟩, h3, h4⟩ := h
  rcases x with ⟨a, ⟨b, c⟩, d, e⟩
  rcases y with ⟨a', ⟨b', c'⟩, d', e'⟩
  simp only at h0 h1 h2 h3 h4
  rw [ba_eq.1 h0, h1, h2, ba_eq.1 h3, h4]
def sameB : List S44 → List S44 → Bool
  | [], [] => true
  | x :: l, y :: m => !neE x y && sameB l m
  | _, _ => false
theorem sameB_iff : ∀ {a b : List S44}, sameB a b = true ↔ a = b := by
  intro a
  induction a with
  | nil => intro b; cases b <;> simp [sameB]
  | cons x l ih =>
    intro b
    cases b with
    | nil => simp [sameB]
    | cons y m =>
      simp only [sameB, Bool.and_eq_true, Bool.not_eq_true', ih, List.cons.injEq]
      constructor
      · rintro ⟨h1, h2⟩; exact ⟨neE_eq h1, h2⟩
      · rintro ⟨h1, h2⟩; rw [h1]; exact ⟨neE_self _, h2⟩
theorem sameB_length {a b : List S44} (h : a.length ≠ b.length) : sameB a b = false := by
  cases hs : sameB a b with
  | false => rfl
  | true => exact absurd (by rw [sameB_iff.1 hs]) h
theorem same_loop (a b : List S44) (he : a.length = b.length) (hl : a.length ≤ 3518437208881) (d : Nat) : ∀ i : Nat, i + d = a.length →
    Ev (fun k => tidelinelaw09_same.l0 k a b (i : Int)) (sameB (a.drop i) (b.drop i)) := by
  induction d with
  | zero =>
    intro i hd
    refine Ev.step (fun k => by rw [tidelinelaw09_same.l0]) ?_
    simp only [if_neg (show ¬ (i : Int) < (a.length : Int) by omega)]
    rw [List.drop_of_length_le (show a.length ≤ i by omega), List.drop_of_length_le (show b.length ≤ i by omega)]
    exact Ev.const rfl
  | succ d ih =>
    intro i hd
    refine Ev.step (fun k => by rw [tidelinelaw09_same.l0]) ?_
    simp only [if_pos (show (i : Int) < (a.length : Int) by omega), if_pos (show (0 : Int) ≤ (i : Int) by omega), if_pos (show (i : Int) < (b.length : Int) by omega)]
    rw [rd44 (show i < a.length by omega), rd44 (show i < b.length by omega), wrap_succ (by omega), List.drop_eq_getElem_cons (show i < a.length by omega), List.drop_eq_getElem_cons (show i < b.length by omega)]
    have := ih (i + 1) (by omega)
    simp only [sameB]
    cases hn : neE a[i] b[i] with
    | true =>
      unfold neE at hn
      simp only [hn, if_true]
      exact Ev.const rfl
    | false =>
      unfold neE at hn
      simp only [hn, if_neg (show ¬ (false = true) by decide)]
      exact Ev.val this (by simp)
theorem same_f (a b : List S44) (hl : a.length ≤ 3518437208881) : Ev (fun k => tidelinelaw09_same.f k a b) (sameB a b) := by
  refine Ev.congr (fun k => by rw [tidelinelaw09_same.f]) ?_
  by_cases he : a.length = b.length
  · simp only [if_pos (show (a.length : Int) = (b.length : Int) by omega)]
    have := same_loop a b he hl a.length 0 (Nat.zero_add _)
    simpa using this
  · simp only [if_neg (show ¬ (a.length : Int) = (b.length : Int) by omega)]
    exact Ev.const (by rw [sameB_length he])
end
section
open Go.Proofs.Ytghlellambnkeaa.MergeW
def verQ (x y : S44) : Bool := (x.f1.f0 == y.f1.f0) && (x.f1.f1 == y.f1.f1)
/-- Two entries of one version are alike. -/
def okP (t : S44 × S44) : Bool := !(verQ t.1 t.2 && neE t.1 t.2)
theorem rd46 {l : List S46} {i : Nat} (h : i < l.length) : rd_T46 l (i : Int) = l[i] := by
  unfold rd_T46
  rw [Int.toNat_natCast, List.getD_eq_getElem?_getD, List.getElem?_eq_getElem h]; rfl
end
section
theorem bey_loop (L : List (List S44)) (hL : L.length ≤ 1000) (hlen : ∀ l ∈ L, l.length ≤ 2513169434843) (d : Nat) : ∀ (i : Nat) (n : Int), i + d = L.length → 0 ≤ n → n ≤ 4294967296 →
    ∃ b, Ev (fun k => tidelinelaw09_beyond.l0 k L n (i : Int)) b ∧ (b = false → n + (((L.drop i).map List.length).sum : Nat) ≤ 1073741824) := by
  induction d with
  | zero =>
    intro i n hd h0 h1
    refine ⟨decide (n > 1073741824), Ev.step (fun k => by rw [tidelinelaw09_beyond.l0]) ?_, fun h => ?_⟩
    · simp only [if_neg (show ¬ (i : Int) < (L.length : Int) by omega)]; exact Ev.const rfl
    · rw [List.drop_of_length_le (by omega)]
      have := of_decide_eq_false h
      simp; omega
  | succ d ih =>
    intro i n hd h0 h1
    have hi : i < L.length := by omega
    have hr : rd_L5 L (i : Int) = L[i] := by
      unfold rd_L5; rw [Int.toNat_natCast, List.getD_eq_getElem?_getD, List.getElem?_eq_getElem hi]; rfl
    have hli := hlen L[i] (List.getElem_mem hi)
    have hs : ((L.drop i).map List.length).sum = L[i].length + ((L.drop (i + 1)).map List.length).sum := by
      rw [List.drop_eq_getElem_cons hi, List.map_cons, List.sum_cons]
    have inner : ∀ (e j : Nat) (n : Int), j + e = L[i].length → 0 ≤ n → n ≤ 4294967296 → ∃ b, Ev (fun k => tidelinelaw09_beyond.l1 k L n (i : Int) (j : Int)) b ∧ (b = false → n + ((e + ((L.drop (i + 1)).map List.length).sum : Nat) : Int) ≤ 1073741824) := by
      intro e
      induction e with
      | zero =>
        intro j n he h0 h1
        obtain ⟨b, hb, hb'⟩ := ih (i + 1) n (by omega) h0 h1
        refine ⟨b, Ev.step (fun k => by rw [tidelinelaw09_beyond.l1]) ?_, fun h => by have := hb' h; simpa using this⟩
        simp only [hr, if_pos (show (0 : Int) ≤ (i : Int) by omega), if_pos (show (i : Int) < (L.length : Int) by omega), if_neg (show ¬ (j : Int) < (L[i].length : Int) by omega)]
        rw [wrap_succ (by omega)]
        exact hb
      | succ e ihe =>
        intro j n he h0 h1
        by_cases hn : n ≤ 1073741824
        · have m1 : 0 ≤ mn ((L[i][j]'(by omega)).f0.size : Int) 1073741824 ∧ mn ((L[i][j]'(by omega)).f0.size : Int) 1073741824 ≤ 1073741824 := by unfold mn; split <;> omega
          have m2 : 0 ≤ mn ((L[i][j]'(by omega)).f2.size : Int) 1073741824 ∧ mn ((L[i][j]'(by omega)).f2.size : Int) 1073741824 ≤ 1073741824 := by unfold mn; split <;> omega
          obtain ⟨b, hb, hb'⟩ := ihe (j + 1) (n + ((1 + mn ((L[i][j]'(by omega)).f0.size : Int) 1073741824) + mn ((L[i][j]'(by omega)).f2.size : Int) 1073741824)) (by omega) (by omega) (by omega)
          refine ⟨b, Ev.step (fun k => by rw [tidelinelaw09_beyond.l1]) ?_, fun h => by have := hb' h; omega⟩
          simp only [hr, if_pos (show (0 : Int) ≤ (i : Int) by omega), if_pos (show (i : Int) < (L.length : Int) by omega), if_pos (show (j : Int) < (L[i].length : Int) by omega), if_pos hn, if_pos (show (0 : Int) ≤ (j : Int) by omega)]
          rw [rd44 (show j < L[i].length by omega), wrap_succ (show j ≤ 9223372036854775806 by omega), wrap_id (by omega) (by omega)]
          exact hb
        · obtain ⟨b, hb, hb'⟩ := ih (i + 1) n (by omega) h0 h1
          refine ⟨b, Ev.step (fun k => by rw [tidelinelaw09_beyond.l1]) ?_, fun h => by have := hb' h; omega⟩
          simp only [hr, if_pos (show (0 : Int) ≤ (i : Int) by omega), if_pos (show (i : Int) < (L.length : Int) by omega), if_pos (show (j : Int) < (L[i].length : Int) by omega), if_neg hn]
          rw [wrap_succ (by omega)]
          exact hb
    obtain ⟨b, hb, hb'⟩ := inner L[i].length 0 n (by omega) h0 h1
    refine ⟨b, Ev.step (fun k => by rw [tidelinelaw09_beyond.l0]) ?_, fun h => by rw [hs]; exact hb' h⟩
    simp only [if_pos (show (i : Int) < (L.length : Int) by omega)]
    exact hb
theorem bey_f (L : List (List S44)) (hL : L.length ≤ 1000) (hlen : ∀ l ∈ L, l.length ≤ 2513169434843) : ∃ b, Ev (fun k => tidelinelaw09_beyond.f k L) b ∧ (b = false → (L.map List.length).sum ≤ 1073741824) := by
  obtain ⟨b, hb, hb'⟩ := bey_loop L hL hlen L.length 0 0 (by omega) (by omega) (by omega)
  refine ⟨b, Ev.congr (fun k => by rw [tidelinelaw09_beyond.f]; rfl) hb, fun h => ?_⟩
  have := hb' h
  rw [List.drop_zero] at this
  omega
end
section
open Go.Proofs.Ytghlellambnkeaa.MergeW Go.Proofs.Ytghlellambnkeaa.Str
theorem TOE : TO ltE := ⟨less_irrefl, fun h k => less_trans h k, fun h => less_false h⟩
theorem lst_facts : ∀ (l : List S44) (p : Option S44), lstE p l = 0 → (∀ e ∈ l, entE e = 0) ∧ Srt ltE keyE l ∧ (∀ y, p = some y → ∀ e ∈ l, ltE (keyE y) (keyE e) = true) := by
  intro l
  induction l with
  | nil => intro p _; exact ⟨by simp, List.Pairwise.nil, by simp⟩
  | cons x l ih =>
    intro p h
    have key : entE x = 0 ∧ lstE (some x) l = 0 ∧ (∀ y, p = some y → ltE (keyE y) (keyE x) = true) := by
      cases p with
      | none =>
        simp only [lstE] at h
        by_cases hx : entE x = 0
        · rw [if_pos hx] at h; exact ⟨hx, h, by simp⟩
        · rw [if_neg hx] at h; exact absurd h hx
      | some y =>
        simp only [lstE] at h
        by_cases hx : entE x = 0
        · rw [if_pos hx] at h
          by_cases hy : Op.bytesLess y.f0.toList x.f0.toList = true
          · rw [if_pos hy] at h; exact ⟨hx, h, fun z hz => by cases hz; exact hy⟩
          · rw [if_neg hy] at h; simp at h
        · rw [if_neg hx] at h; exact absurd h hx
    obtain ⟨h1, h2, h3⟩ := key
    obtain ⟨i1, i2, i3⟩ := ih (some x) h2
    refine ⟨?_, List.pairwise_cons.2 ⟨fun e he => i3 x rfl e he, i2⟩, fun y hy e he => ?_⟩
    · intro e he
      rcases List.mem_cons.1 he with rfl | he
      · exact h1
      · exact i1 e he
    · rcases List.mem_cons.1 he with rfl | he
      · exact h3 y hy
      · exact less_trans (h3 y hy) (i3 x rfl e he)
/-- A map. -/
structure MapOK (l : List S44) : Prop where
  ent : ∀ e ∈ l, entE e = 0
  srt : Srt ltE keyE l
theorem mapOK {l : List S44} (h : chkL l = 0) : MapOK l := ⟨(lst_facts l none h).1, (lst_facts l none h).2.1⟩
theorem newK_iff {x y : S44} : newK y x = true ↔ (x.f1.f0 < y.f1.f0 ∨ (x.f1.f0 = y.f1.f0 ∧ x.f1.f1 < y.f1.f1)) := by
  unfold newK
  rw [decide_eq_true_eq]
  rcases cmpv_cases y.f1.f0 y.f1.f1 x.f1.f0 x.f1.f1 with ⟨e, h⟩ | ⟨e, h⟩ | ⟨e, h⟩ <;> rw [e] <;> constructor <;> intro g <;> omega
theorem newK_false {x y : S44} (h : newK y x = false) : ¬ (x.f1.f0 < y.f1.f0 ∨ (x.f1.f0 = y.f1.f0 ∧ x.f1.f1 < y.f1.f1)) := fun g => by rw [newK_iff.2 g] at h; cases h
theorem newK_not {x y : S44} (h : ¬ (x.f1.f0 < y.f1.f0 ∨ (x.f1.f0 = y.f1.f0 ∧ x.f1.f1 < y.f1.f1))) : newK y x = false := by
  cases hn : newK y x with
  | false => rfl
  | true => exact absurd (newK_iff.1 hn) h
theorem z_f0 : (z44).f1.f0 = 0 := rfl
theorem mp_mem {a b : List S44} {t : S44 × S44} : t ∈ mp a b ↔ ∃ s ∈ km a b, (s.1.getD z44, s.2.getD z44) = t := by
  unfold mp; rw [List.mem_map]
theorem mp_look {a b : List S44} (ha : MapOK a) (hb : MapOK b) (k : List UInt8) (h : ¬ (look keyE a k = none ∧ look keyE b k = none)) : ((look keyE a k).getD z44, (look keyE b k).getD z44) ∈ mp a b :=
  mp_mem.2 ⟨_, kmerge_has TOE a b ha.srt hb.srt k h, rfl⟩
/-- Each pair is what both tell of a key. -/
theorem mp_only {a b : List S44} (ha : MapOK a) (hb : MapOK b) {t : S44 × S44} (h : t ∈ mp a b) : ∃ k, ¬ (look keyE a k = none ∧ look keyE b k = none) ∧ t = ((look keyE a k).getD z44, (look keyE b k).getD z44) := by
  obtain ⟨s, hs, rfl⟩ := mp_mem.1 h
  have he := kmerge_only TOE ([] : List UInt8) a b ha.srt hb.srt s hs
  refine ⟨kk keyE [] s, ?_, congrArg (fun s => (s.1.getD z44, s.2.getD z44)) he⟩
  rintro ⟨h1, h2⟩
  rw [h1, h2] at he
  rcases kmerge_is TOE a b s hs with ⟨x, e, _⟩ | ⟨y, e, _⟩ | ⟨x, y, e, _⟩ <;> rw [e] at he <;> simp at he
theorem look_there {a : List S44} (ha : MapOK a) {k : List UInt8} {x : S44} (h : look keyE a k = some x) : 1 ≤ x.f1.f0 := entE_there (ha.ent x (look_some keyE h).1)
/-- Above, key by key. -/
theorem above_iff {a b : List S44} (ha : MapOK a) (hb : MapOK b) : aboveB (mp a b) = true ↔ ∀ k y, look keyE b k = some y → ∃ x, look keyE a k = some x ∧ newK y x = false := by
  unfold aboveB
  rw [List.all_eq_true]
  constructor
  · intro h k y hy
    have := h _ (mp_look ha hb k (fun e => by rw [hy] at e; simp at e))
    rw [hy] at this
    simp only [Option.getD_some, Bool.not_eq_true'] at this
    cases hx : look keyE a k with
    | some x => rw [hx] at this; exact ⟨x, rfl, this⟩
    | none =>
      rw [hx] at this
      have g := newK_false this
      have := look_there hb hy
      rw [Option.getD_none, z_f0] at g
      omega
  · intro h t ht
    obtain ⟨k, hn, rfl⟩ := mp_only ha hb ht
    simp only [Bool.not_eq_true']
    cases hy : look keyE b k with
    | some y =>
      obtain ⟨x, hx, hxy⟩ := h k y hy
      rw [hx]; exact hxy
    | none =>
      cases hx : look keyE a k with
      | none => exact absurd ⟨hx, hy⟩ hn
      | some x =>
        have := look_there ha hx
        refine newK_not ?_
        simp only [Option.getD_none, Option.getD_some, z_f0]
        omega
theorem verB_iff {x y : S44} : verB x y = true ↔ x.f1.f0 = y.f1.f0 ∧ x.f1.f1 = y.f1.f1 := by simp [verB]
theorem differ_nil {a b : List S44} : differL (mp a b) = [] ↔ ∀ t ∈ mp a b, verB t.1 t.2 = true := by
  unfold differL
  rw [List.filterMap_eq_nil_iff]
  constructor
  · intro h t ht
    have := h t ht
    cases hv : verB t.1 t.2 with
    | true => rfl
    | false => rw [hv] at this; simp at this
  · intro h t ht
    rw [if_pos (h t ht)]
/-- Differ finds nothing just where neither lacks anything. -/
theorem differ_above {a b : List S44} (ha : MapOK a) (hb : MapOK b) : differL (mp a b) = [] ↔ (aboveB (mp a b) = true ∧ aboveB (mp b a) = true) := by
  rw [differ_nil, above_iff ha hb, above_iff hb ha]
  constructor
  · intro h
    have both : ∀ k, ¬ (look keyE a k = none ∧ look keyE b k = none) → ∃ x y, look keyE a k = some x ∧ look keyE b k = some y ∧ x.f1.f0 = y.f1.f0 ∧ x.f1.f1 = y.f1.f1 := by
      intro k hk
      have hv := verB_iff.1 (h _ (mp_look ha hb k hk))
      cases hx : look keyE a k with
      | none =>
        cases hy : look keyE b k with
        | none => exact absurd ⟨hx, hy⟩ hk
        | some y =>
          rw [hx, hy] at hv
          have g0 := look_there hb hy
          have g1 : (0 : Int) = y.f1.f0 := hv.1
          omega
      | some x =>
        cases hy : look keyE b k with
        | none =>
          rw [hx, hy] at hv
          have g0 := look_there ha hx
          have g1 : x.f1.f0 = (0 : Int) := hv.1
          omega
        | some y => rw [hx, hy] at hv; exact ⟨x, y, rfl, rfl, hv.1, hv.2⟩
    refine ⟨fun k y hy => ?_, fun k x hx => ?_⟩
    · obtain ⟨x, y', h1, h2, h3, h4⟩ := both k (fun e => by rw [hy] at e; simp at e)
      rw [hy] at h2; cases h2
      exact ⟨x, h1, newK_not (by omega)⟩
    · obtain ⟨x', y, h1, h2, h3, h4⟩ := both k (fun e => by rw [hx] at e; simp at e)
      rw [hx] at h1; cases h1
      exact ⟨y, h2, newK_not (by omega)⟩
  · rintro ⟨h1, h2⟩ t ht
    obtain ⟨k, hn, rfl⟩ := mp_only ha hb ht
    have : ∃ x y, look keyE a k = some x ∧ look keyE b k = some y := by
      cases hx : look keyE a k with
      | some x => obtain ⟨y, hy, _⟩ := h2 k x hx; exact ⟨x, y, rfl, hy⟩
      | none =>
        cases hy : look keyE b k with
        | none => exact absurd ⟨hx, hy⟩ hn
        | some y => obtain ⟨x, hx', _⟩ := h1 k y hy; rw [hx] at hx'; cases hx'
    obtain ⟨x, y, hx, hy⟩ := this
    obtain ⟨x', hx', g1⟩ := h1 k y hy
    obtain ⟨y', hy', g2⟩ := h2 k x hx
    rw [hx] at hx'; cases hx'
    rw [hy] at hy'; cases hy'
    have g1 := newK_false g1
    have g2 := newK_false g2
    rw [hx, hy]
    exact verB_iff.2 ⟨by simp only [Option.getD_some]; omega, by simp only [Option.getD_some]; omega⟩
theorem above_trans {a b c : List S44} (ha : MapOK a) (hb : MapOK b) (hc : MapOK c) (h1 : aboveB (mp a b) = true) (h2 : aboveB (mp b c) = true) : aboveB (mp a c) = true := by
  rw [above_iff ha hc]
  intro k z hz
  obtain ⟨y, hy, g1⟩ := (above_iff hb hc).1 h2 k z hz
  obtain ⟨x, hx, g2⟩ := (above_iff ha hb).1 h1 k y hy
  have g1 := newK_false g1
  have g2 := newK_false g2
  exact ⟨x, hx, newK_not (by omega)⟩
theorem above_self {a : List S44} (ha : MapOK a) : aboveB (mp a a) = true := by
  rw [above_iff ha ha]
  intro k x hx
  exact ⟨x, hx, newK_not (by omega)⟩
/-- Where no two of one key and version are unlike, lists that lack nothing of each other are the same. -/
theorem above_same {a b : List S44} (ha : MapOK a) (hb : MapOK b) (hcl : (mp a b).all okP = true) (h1 : aboveB (mp a b) = true) (h2 : aboveB (mp b a) = true) : a = b := by
  have hv := differ_nil.1 ((differ_above ha hb).2 ⟨h1, h2⟩)
  refine srt_ext TOE ha.srt hb.srt fun k => ?_
  by_cases hn : look keyE a k = none ∧ look keyE b k = none
  · rw [hn.1, hn.2]
  · have hm := mp_look ha hb k hn
    have h3 := List.all_eq_true.1 hcl _ hm
    have h4 := hv _ hm
    have h5 : neE ((look keyE a k).getD z44) ((look keyE b k).getD z44) = false := by
      unfold okP at h3
      have : verQ ((look keyE a k).getD z44) ((look keyE b k).getD z44) = true := h4
      simp only [this, Bool.true_and, Bool.not_eq_true'] at h3
      exact h3
    have h6 := neE_eq h5
    cases hx : look keyE a k with
    | some x =>
      obtain ⟨y, hy, _⟩ := (above_iff hb ha).1 h2 k x hx
      rw [hx, hy] at h6
      rw [hy]; exact congrArg some h6
    | none =>
      cases hy : look keyE b k with
      | none => rfl
      | some y => obtain ⟨x, hx', _⟩ := (above_iff ha hb).1 h1 k y hy; rw [hx] at hx'; cases hx'
end
section
open Go.Proofs.Ytghlellambnkeaa.MergeW Go.Proofs.Ytghlellambnkeaa.Str
/-- The best of what two tell of a key. -/
def bestO : Option S44 → Option S44 → Option S44
  | none, none => none
  | some x, none => some x
  | none, some y => some y
  | some x, some y => some (bestK x y)
theorem thereB_ok {x : S44} (h : entE x = 0) : thereB x = true := by
  have := entE_there h
  have e : (x.f1.f0 == 0) = false := by rw [beq_eq_false_iff_ne]; omega
  unfold thereB; rw [e]; rfl
theorem thereB_z : thereB z44 = false := rfl
theorem bestK_z {x : S44} (h : entE x = 0) : bestK x z44 = x := by
  have := entE_there h
  unfold bestK
  rw [newK_not (by rw [z_f0]; omega)]; rfl
theorem bestK_self (x : S44) : bestK x x = x := by unfold bestK; split <;> rfl
theorem bestK_or (x y : S44) : bestK x y = x ∨ bestK x y = y := by unfold bestK; split <;> simp
/-- What Max makes of the pairs is what is made of them key by key. -/
theorem maxL_comb {a b : List S44} (ha : MapOK a) (hb : MapOK b) : maxL (mp a b) = comb ltE keyE bestO a b := by
  unfold maxL mp comb
  rw [List.map_map]
  have h : ∀ l : List (Option S44 × Option S44), (∀ s ∈ l, IsPair ltE keyE a b s) → l.map ((fun t => bestK (if thereB t.1 = true then t.1 else t.2) t.2) ∘ fun t => (t.1.getD z44, t.2.getD z44)) = l.filterMap (fun t => bestO t.1 t.2) := by
    intro l
    induction l with
    | nil => intro _; rfl
    | cons s l ih =>
      intro hs
      have ih := ih (fun s hm => hs s (List.mem_cons_of_mem _ hm))
      rw [List.map_cons]
      rcases hs s List.mem_cons_self with ⟨x, rfl, hx⟩ | ⟨y, rfl, hy⟩ | ⟨x, y, rfl, hx, hy, _⟩
      · refine (congr (congrArg List.cons ?_) ih).trans (List.filterMap_cons_some (f := fun t => bestO t.1 t.2) (a := (some x, none)) (b := x) rfl).symm
        show bestK (if thereB x = true then x else z44) z44 = x
        rw [thereB_ok (ha.ent x hx), if_pos rfl, bestK_z (ha.ent x hx)]
      · refine (congr (congrArg List.cons ?_) ih).trans (List.filterMap_cons_some (f := fun t => bestO t.1 t.2) (a := (none, some y)) (b := y) rfl).symm
        show bestK (if thereB z44 = true then z44 else y) y = y
        rw [thereB_z, if_neg (by decide), bestK_self]
      · refine (congr (congrArg List.cons ?_) ih).trans (List.filterMap_cons_some (f := fun t => bestO t.1 t.2) (a := (some x, some y)) (b := bestK x y) rfl).symm
        show bestK (if thereB x = true then x else y) y = bestK x y
        rw [thereB_ok (ha.ent x hx), if_pos rfl]
  exact h _ (kmerge_is TOE a b)
theorem bestO_key (k0 : List UInt8) (t : Option S44 × Option S44) {a b : List S44} (h : IsPair ltE keyE a b t) (g : S44) (hg : bestO t.1 t.2 = some g) : keyE g = kk keyE k0 t := by
  rcases h with ⟨x, rfl, hx⟩ | ⟨y, rfl, hy⟩ | ⟨x, y, rfl, hx, hy, e⟩
  · cases hg; rfl
  · cases hg; rfl
  · have : bestK x y = g := Option.some.inj hg
    show keyE g = keyE x
    rcases bestK_or x y with e' | e' <;> rw [e'] at this <;> rw [← this]
    exact e.symm
theorem max_mem {a b : List S44} (ha : MapOK a) (hb : MapOK b) (g : S44) : g ∈ maxL (mp a b) ↔ ∃ k, bestO (look keyE a k) (look keyE b k) = some g := by
  rw [maxL_comb ha hb]; exact comb_mem TOE bestO a b ha.srt hb.srt rfl g
theorem bestO_look {a b : List S44} (k : List UInt8) (g : S44) (h : bestO (look keyE a k) (look keyE b k) = some g) : keyE g = k := by
  cases hx : look keyE a k with
  | none =>
    cases hy : look keyE b k with
    | none => rw [hx, hy] at h; cases h
    | some y => rw [hx, hy] at h; cases h; exact (look_some keyE hy).2
  | some x =>
    cases hy : look keyE b k with
    | none => rw [hx, hy] at h; cases h; exact (look_some keyE hx).2
    | some y =>
      rw [hx, hy] at h
      have h : bestK x y = g := Option.some.inj h
      rcases bestK_or x y with e | e <;> rw [e] at h <;> rw [← h]
      · exact (look_some keyE hx).2
      · exact (look_some keyE hy).2
theorem bestO_ent {a b : List S44} (ha : MapOK a) (hb : MapOK b) (k : List UInt8) (g : S44) (h : bestO (look keyE a k) (look keyE b k) = some g) : entE g = 0 := by
  cases hx : look keyE a k with
  | none =>
    cases hy : look keyE b k with
    | none => rw [hx, hy] at h; cases h
    | some y => rw [hx, hy] at h; cases h; exact hb.ent _ (look_some keyE hy).1
  | some x =>
    cases hy : look keyE b k with
    | none => rw [hx, hy] at h; cases h; exact ha.ent _ (look_some keyE hx).1
    | some y =>
      rw [hx, hy] at h
      have h : bestK x y = g := Option.some.inj h
      rcases bestK_or x y with e | e <;> rw [e] at h <;> rw [← h]
      · exact ha.ent _ (look_some keyE hx).1
      · exact hb.ent _ (look_some keyE hy).1
theorem max_ok {a b : List S44} (ha : MapOK a) (hb : MapOK b) : MapOK (maxL (mp a b)) := by
  refine ⟨fun e he => ?_, ?_⟩
  · obtain ⟨k, hk⟩ := (max_mem ha hb e).1 he
    exact bestO_ent ha hb k e hk
  · rw [maxL_comb ha hb]
    unfold comb Srt
    refine List.Pairwise.filterMap _ ?_ (List.Pairwise.and_mem.1 (kmerge_srt TOE ([] : List UInt8) a b ha.srt hb.srt))
    rintro s t ⟨hs, ht, hst⟩ g hg g' hg'
    rw [bestO_key [] s (kmerge_is TOE a b s hs) g hg, bestO_key [] t (kmerge_is TOE a b t ht) g' hg']
    exact hst
/-- What Max tells of a key is the best of what both tell. -/
theorem max_look {a b : List S44} (ha : MapOK a) (hb : MapOK b) (k : List UInt8) : look keyE (maxL (mp a b)) k = bestO (look keyE a k) (look keyE b k) := by
  have hm := max_ok ha hb
  cases hg : bestO (look keyE a k) (look keyE b k) with
  | some g =>
    have := look_mem TOE hm.srt ((max_mem ha hb g).2 ⟨k, hg⟩)
    rw [bestO_look k g hg] at this
    exact this
  | none =>
    cases hl : look keyE (maxL (mp a b)) k with
    | none => rfl
    | some g =>
      obtain ⟨hmem, hkey⟩ := look_some keyE hl
      obtain ⟨k', hk'⟩ := (max_mem ha hb g).1 hmem
      have := bestO_look k' g hk'
      rw [hkey] at this
      rw [← this, hg] at hk'
      cases hk'
/-- A map whose look-ups are another one's. -/
theorem map_ext {a b : List S44} (ha : MapOK a) (hb : MapOK b) (h : ∀ k, look keyE a k = look keyE b k) : a = b := srt_ext TOE ha.srt hb.srt h
theorem bestK_assoc (x y z : S44) : bestK (bestK x y) z = bestK x (bestK y z) := by
  unfold bestK
  cases h1 : newK y x with
  | true =>
    cases h2 : newK z y with
    | true =>
      have g1 := newK_iff.1 h1
      have g2 := newK_iff.1 h2
      have h3 : newK z x = true := newK_iff.2 (by omega)
      simp [h1, h2, h3]
    | false => simp [h1, h2]
  | false =>
    cases h2 : newK z y with
    | true => simp [h1, h2]
    | false =>
      have g1 := newK_false h1
      have g2 := newK_false h2
      have h3 : newK z x = false := newK_not (by omega)
      simp [h1, h2, h3]
theorem bestO_assoc (x y z : Option S44) : bestO (bestO x y) z = bestO x (bestO y z) := by
  cases x <;> cases y <;> cases z <;> simp [bestO, bestK_assoc]
theorem max_assoc {a b c : List S44} (ha : MapOK a) (hb : MapOK b) (hc : MapOK c) : maxL (mp (maxL (mp a b)) c) = maxL (mp a (maxL (mp b c))) := by
  refine map_ext (max_ok (max_ok ha hb) hc) (max_ok ha (max_ok hb hc)) fun k => ?_
  rw [max_look (max_ok ha hb) hc, max_look ha hb, max_look ha (max_ok hb hc), max_look hb hc, bestO_assoc]
theorem max_self {a : List S44} (ha : MapOK a) : maxL (mp a a) = a := by
  refine map_ext (max_ok ha ha) ha fun k => ?_
  rw [max_look ha ha]
  cases look keyE a k with
  | none => rfl
  | some x => simp [bestO, bestK_self]
/-- Of two of one key and unlike versions the newer one, whatever the order; of like versions they are the same. -/
theorem clean_look {a b : List S44} (ha : MapOK a) (hb : MapOK b) (hcl : (mp a b).all okP = true) {k : List UInt8} {x y : S44} (hx : look keyE a k = some x) (hy : look keyE b k = some y) (hv : x.f1.f0 = y.f1.f0 ∧ x.f1.f1 = y.f1.f1) : x = y := by
  have hm := mp_look ha hb k (fun e => by rw [hx] at e; simp at e)
  have h3 := List.all_eq_true.1 hcl _ hm
  rw [hx, hy] at h3
  have hq : verQ x y = true := by simp [verQ, hv.1, hv.2]
  unfold okP at h3
  simp only [Option.getD_some, hq, Bool.true_and, Bool.not_eq_true'] at h3
  exact neE_eq h3
theorem max_comm {a b : List S44} (ha : MapOK a) (hb : MapOK b) (hcl : (mp a b).all okP = true) : maxL (mp a b) = maxL (mp b a) := by
  refine map_ext (max_ok ha hb) (max_ok hb ha) fun k => ?_
  rw [max_look ha hb, max_look hb ha]
  cases hx : look keyE a k with
  | none => cases look keyE b k <;> rfl
  | some x =>
    cases hy : look keyE b k with
    | none => rfl
    | some y =>
      show some (bestK x y) = some (bestK y x)
      congr 1
      unfold bestK
      cases h1 : newK y x with
      | true =>
        have g1 := newK_iff.1 h1
        have h2 : newK x y = false := newK_not (by omega)
        simp [h2]
      | false =>
        cases h2 : newK x y with
        | true => simp
        | false =>
          have g1 := newK_false h1
          have g2 := newK_false h2
          simp only [if_neg (show ¬ (false = true) by decide)]
          exact clean_look ha hb hcl hx hy (by omega)
/-- Max is above both. -/
theorem max_above {a b : List S44} (ha : MapOK a) (hb : MapOK b) : aboveB (mp (maxL (mp a b)) a) = true ∧ aboveB (mp (maxL (mp a b)) b) = true := by
  have hm := max_ok ha hb
  constructor
  · rw [above_iff hm ha]
    intro k x hx
    rw [max_look ha hb, hx]
    cases hy : look keyE b k with
    | none => exact ⟨x, rfl, newK_not (by omega)⟩
    | some y =>
      refine ⟨bestK x y, rfl, ?_⟩
      unfold bestK
      cases h1 : newK y x with
      | true =>
        have g1 := newK_iff.1 h1
        simp only [if_true]
        exact newK_not (by omega)
      | false => simp only [if_neg (show ¬ (false = true) by decide)]; exact newK_not (by omega)
  · rw [above_iff hm hb]
    intro k y hy
    rw [max_look ha hb, hy]
    cases hx : look keyE a k with
    | none => exact ⟨y, rfl, newK_not (by omega)⟩
    | some x =>
      refine ⟨bestK x y, rfl, ?_⟩
      unfold bestK
      cases h1 : newK y x with
      | true => simp only [if_true]; exact newK_not (by omega)
      | false => simp only [if_neg (show ¬ (false = true) by decide)]; exact h1
theorem max_ev (a b : List S44) (h : a.length + b.length ≤ 1256584717457) (ha : chkL a = 0) (hb : chkL b = 0) : Ev (fun k => merge_Max.f k a b) (maxL (mp a b), 0) := by
  refine Ev.congr (fun k => by rw [merge_Max.f]) (Ev.bind (chk2_f a b (by omega) (by omega)) ?_)
  have hc : chk2 a b = 0 := by unfold chk2; rw [if_pos ha]; exact hb
  have hl := mp_len a b
  rw [hc]
  simp only [if_pos (show (mp a b).length < 2513169434916 by omega), if_true]
  exact Ev.const rfl
/-- A map passes Check. -/
theorem chk_map : ∀ (l : List S44) (p : Option S44), (∀ e ∈ l, entE e = 0) → Srt ltE keyE l → (∀ y, p = some y → ∀ e ∈ l, ltE (keyE y) (keyE e) = true) → lstE p l = 0 := by
  intro l
  induction l with
  | nil => intro p _ _ _; cases p <;> rfl
  | cons x l ih =>
    intro p h1 h2 h3
    obtain ⟨g1, g2⟩ := List.pairwise_cons.1 h2
    have hx := h1 x List.mem_cons_self
    have hr := ih (some x) (fun e he => h1 e (List.mem_cons_of_mem _ he)) g2 (fun y hy e he => by cases hy; exact g1 e he)
    cases p with
    | none => simp only [lstE]; rw [if_pos hx]; exact hr
    | some y =>
      have hy : Op.bytesLess y.f0.toList x.f0.toList = true := h3 y rfl x List.mem_cons_self
      simp only [lstE]; rw [if_pos hx, if_pos hy]; exact hr
theorem map_chk {l : List S44} (h : MapOK l) : chkL l = 0 := chk_map l none h.ent h.srt (fun y hy => by cases hy)
theorem max_len {a b : List S44} : (maxL (mp a b)).length ≤ a.length + b.length := by rw [maxL_len]; exact mp_len a b
end
section
open Go.Proofs.Ytghlellambnkeaa.MergeW Go.Proofs.Ytghlellambnkeaa.Str
theorem cmpv_ref09 (a0 a1 b0 b1 : Int) : tidelineref03_Compare.f a0 a1 b0 b1 = some (cmpv a0 a1 b0 b1) := by
  unfold tidelineref03_Compare.f cmpv cmpI
  by_cases h1 : a0 > b0
  · rw [if_pos h1]; simp [h1, show ¬ a0 < b0 by omega]
  rw [if_neg h1]
  by_cases h2 : a0 < b0
  · rw [if_pos h2]; simp [h2]
  rw [if_neg h2]
  by_cases h3 : a1 > b1
  · rw [if_pos h3]; simp [h1, h2, h3, show ¬ a1 < b1 by omega]
  rw [if_neg h3]
  by_cases h4 : a1 < b1
  · rw [if_pos h4]; simp [h1, h2, h4]
  · rw [if_neg h4]; simp [h1, h2, h3, h4]
theorem newer_ref09 (x y : S44) : tidelineref03_Newer.f x.f0 x.f1.f0 x.f1.f1 x.f2 x.f3 y.f0 y.f1.f0 y.f1.f1 y.f2 y.f3 = some (newK x y) := by
  unfold tidelineref03_Newer.f newK
  rw [cmpv_ref09]; rfl
theorem best_ref09 (x y : S44) : tidelineref03_Best.f x.f0 x.f1.f0 x.f1.f1 x.f2 x.f3 y.f0 y.f1.f0 y.f1.f1 y.f2 y.f3 = some ((bestK x y).f0, (bestK x y).f1.f0, (bestK x y).f1.f1, (bestK x y).f2, (bestK x y).f3) := by
  unfold tidelineref03_Best.f bestK
  rw [newer_ref09, Option.bind_some]
  cases newK y x <;> rfl
/-- The best of a pair, as the document takes it. -/
def refB (x y : S44) : S44 := if x.f1.f0 = 0 then y else bestK x y
theorem refmax_loop (l : List S46) (hl : l.length ≤ 2513169434900) (d : Nat) : ∀ (i : Nat) (acc : List S44), i + d = l.length → acc.length = i →
    Ev (fun k => tidelineref09_Max.l0 k l acc (i : Int)) (acc ++ (l.drop i).map (fun p => refB p.f0 p.f1), 0) := by
  induction d with
  | zero =>
    intro i acc hd ha
    refine Ev.step (fun k => by rw [tidelineref09_Max.l0]) ?_
    simp only [if_neg (show ¬ (i : Int) < (l.length : Int) by omega)]
    rw [List.drop_of_length_le (by omega)]
    exact Ev.const (by simp)
  | succ d ih =>
    intro i acc hd ha
    refine Ev.step (fun k => by rw [tidelineref09_Max.l0]) ?_
    simp only [if_pos (show (i : Int) < (l.length : Int) by omega), if_pos (show (0 : Int) ≤ (i : Int) by omega), if_pos (show acc.length < 2513169434916 by omega)]
    rw [rd46 (show i < l.length by omega), wrap_succ (by omega), List.drop_eq_getElem_cons (show i < l.length by omega)]
    refine Ev.bind (Ev.const rfl) ?_
    cases hz : (l[i].f0.f1.f0 == 0) with
    | true =>
      have e : refB l[i].f0 l[i].f1 = l[i].f1 := by unfold refB; rw [if_pos (by simpa using hz)]
      simp only [if_true]
      refine Ev.val (ih (i + 1) (acc ++ [l[i].f1]) (by omega) (by simp [ha])) ?_
      rw [List.map_cons, e]; simp
    | false =>
      have e : refB l[i].f0 l[i].f1 = bestK l[i].f0 l[i].f1 := by unfold refB; rw [if_neg (by simpa using hz)]
      simp only [if_neg (show ¬ (false = true) by decide)]
      refine Ev.bind (Ev.const (best_ref09 _ _)) ?_
      refine Ev.val (ih (i + 1) (acc ++ [bestK l[i].f0 l[i].f1]) (by omega) (by simp [ha])) ?_
      rw [List.map_cons, e]; simp
theorem refMax_ev (a b : List S44) (h : a.length + b.length ≤ 1256584717457) (ha : chkL a = 0) (hb : chkL b = 0) : Ev (fun k => tidelineref09_Max.f k a b) (maxL (mp a b), 0) := by
  refine Ev.congr (fun k => by rw [tidelineref09_Max.f]) (Ev.bind (chk2_ref a b (by omega) (by omega)) ?_)
  have hc : chk2 a b = 0 := by unfold chk2; rw [if_pos ha]; exact hb
  have hl := mp_len a b
  rw [hc]
  simp only [if_true]
  refine Ev.bind (pairs_ref a b h) ?_
  simp only [if_pos hc]
  refine Ev.val (refmax_loop ((mp a b).map pairS) (by rw [List.length_map]; omega) _ 0 [] (Nat.zero_add _) rfl) ?_
  rw [List.drop_zero, List.nil_append, List.map_map]
  unfold maxL
  have hm : ∀ t ∈ mp a b, refB t.1 t.2 = bestK (if thereB t.1 = true then t.1 else t.2) t.2 := by
    intro t ht
    obtain ⟨k, _, rfl⟩ := mp_only (mapOK ha) (mapOK hb) ht
    cases hx : look keyE a k with
    | none =>
      simp only [Option.getD_none]
      rw [thereB_z, if_neg (by decide), bestK_self]
      unfold refB; rw [if_pos z_f0]
    | some x =>
      have ht := look_there (mapOK ha) hx
      simp only [Option.getD_some]
      rw [thereB_ok ((mapOK ha).ent x (look_some keyE hx).1), if_pos rfl]
      unfold refB; rw [if_neg (by omega)]
  exact congrArg (fun l => (l, (0 : Int))) (List.map_congr_left hm)
end
section
open Go.Proofs.Ytghlellambnkeaa.MergeW Go.Proofs.Ytghlellambnkeaa.Str
theorem fm_congr {α β : Type} {f g : α → Option β} : ∀ {l : List α}, (∀ x ∈ l, f x = g x) → l.filterMap f = l.filterMap g := by
  intro l
  induction l with
  | nil => intro _; rfl
  | cons x l ih =>
    intro h
    rw [List.filterMap_cons, List.filterMap_cons, h x List.mem_cons_self, ih (fun y hy => h y (List.mem_cons_of_mem _ hy))]
/-- What chooses one of two. -/
def Sel (f : Option S44 → Option S44 → Option S44) : Prop := ∀ x y g, f x y = some g → x = some g ∨ y = some g
theorem sel_none {f : Option S44 → Option S44 → Option S44} (h : Sel f) : f none none = none := by
  cases hf : f none none with
  | none => rfl
  | some g => rcases h _ _ _ hf with e | e <;> cases e
theorem sel_look {f : Option S44 → Option S44 → Option S44} (h : Sel f) {a b : List S44} {k : List UInt8} {g : S44} (hg : f (look keyE a k) (look keyE b k) = some g) : keyE g = k ∧ (g ∈ a ∨ g ∈ b) := by
  rcases h _ _ _ hg with e | e
  · exact ⟨(look_some keyE e).2, .inl (look_some keyE e).1⟩
  · exact ⟨(look_some keyE e).2, .inr (look_some keyE e).1⟩
theorem sel_key {f : Option S44 → Option S44 → Option S44} (h : Sel f) {a b : List S44} {t : Option S44 × Option S44} (ht : IsPair ltE keyE a b t) {g : S44} (hg : f t.1 t.2 = some g) : keyE g = kk keyE [] t := by
  rcases ht with ⟨x, rfl, _⟩ | ⟨y, rfl, _⟩ | ⟨x, y, rfl, _, _, e⟩
  · rcases h _ _ _ hg with e | e <;> cases e; rfl
  · rcases h _ _ _ hg with e | e <;> cases e; rfl
  · rcases h _ _ _ hg with e' | e' <;> cases e'
    · rfl
    · exact e.symm
theorem comb_ok {f : Option S44 → Option S44 → Option S44} (h : Sel f) {a b : List S44} (ha : MapOK a) (hb : MapOK b) : MapOK (comb ltE keyE f a b) := by
  refine ⟨fun e he => ?_, ?_⟩
  · obtain ⟨k, hk⟩ := (comb_mem TOE f a b ha.srt hb.srt (sel_none h) e).1 he
    rcases (sel_look h hk).2 with g | g
    · exact ha.ent e g
    · exact hb.ent e g
  · unfold comb Srt
    refine List.Pairwise.filterMap _ ?_ (List.Pairwise.and_mem.1 (kmerge_srt TOE ([] : List UInt8) a b ha.srt hb.srt))
    rintro s t ⟨hs, ht, hst⟩ g hg g' hg'
    rw [sel_key h (kmerge_is TOE a b s hs) hg, sel_key h (kmerge_is TOE a b t ht) hg']
    exact hst
theorem comb_look {f : Option S44 → Option S44 → Option S44} (h : Sel f) {a b : List S44} (ha : MapOK a) (hb : MapOK b) (k : List UInt8) : look keyE (comb ltE keyE f a b) k = f (look keyE a k) (look keyE b k) := by
  have hm := comb_ok h ha hb
  cases hg : f (look keyE a k) (look keyE b k) with
  | some g =>
    have := look_mem TOE hm.srt ((comb_mem TOE f a b ha.srt hb.srt (sel_none h) g).2 ⟨k, hg⟩)
    rw [(sel_look h hg).1] at this
    exact this
  | none =>
    cases hl : look keyE (comb ltE keyE f a b) k with
    | none => rfl
    | some g =>
      obtain ⟨hmem, hkey⟩ := look_some keyE hl
      obtain ⟨k', hk'⟩ := (comb_mem TOE f a b ha.srt hb.srt (sel_none h) g).1 hmem
      have := (sel_look h hk').1
      rw [hkey] at this
      rw [← this, hg] at hk'
      cases hk'
theorem sel_best : Sel bestO := by
  intro x y g h
  cases x with
  | none => cases y with
    | none => cases h
    | some y => exact .inr h
  | some x => cases y with
    | none => exact .inl h
    | some y =>
      have h : bestK x y = g := Option.some.inj h
      rcases bestK_or x y with e | e <;> rw [e] at h <;> rw [h]
      · exact .inl rfl
      · exact .inr rfl
/-- What one has that the other lacks. -/
def lackO : Option S44 → Option S44 → Option S44
  | some x, none => some x
  | some x, some y => if newK x y = true then some x else none
  | none, _ => none
theorem sel_lack : Sel lackO := by
  intro x y g h
  cases x with
  | none => cases h
  | some x => cases y with
    | none => exact .inl h
    | some y =>
      simp only [lackO] at h
      split at h
      · exact .inl h
      · cases h
theorem newK_z {x : S44} (h : entE x = 0) : newK x z44 = true := by
  have := entE_there h
  exact newK_iff.2 (by rw [z_f0]; omega)
theorem lacksL_comb {a b : List S44} (ha : MapOK a) (hb : MapOK b) : lacksL (mp a b) = comb ltE keyE lackO a b := by
  unfold lacksL mp comb
  rw [List.filterMap_map]
  have h : ∀ l : List (Option S44 × Option S44), (∀ s ∈ l, IsPair ltE keyE a b s) → l.filterMap ((fun t => if (thereB t.1 && newK t.1 t.2) = true then some t.1 else none) ∘ fun t => (t.1.getD z44, t.2.getD z44)) = l.filterMap (fun t => lackO t.1 t.2) := by
    intro l hl
    refine fm_congr fun s hs => ?_
    rcases hl s hs with ⟨x, rfl, hx⟩ | ⟨y, rfl, hy⟩ | ⟨x, y, rfl, hx, hy, _⟩
    · show (if (thereB x && newK x z44) = true then some x else none) = some x
      rw [thereB_ok (ha.ent x hx), newK_z (ha.ent x hx)]; rfl
    · show (if (thereB z44 && newK z44 y) = true then some z44 else none) = none
      rw [thereB_z]; rfl
    · show (if (thereB x && newK x y) = true then some x else none) = (if newK x y = true then some x else none)
      rw [thereB_ok (ha.ent x hx), Bool.true_and]
  exact h _ (kmerge_is TOE a b)
theorem lacks_ok {a b : List S44} (ha : MapOK a) (hb : MapOK b) : MapOK (lacksL (mp a b)) := by rw [lacksL_comb ha hb]; exact comb_ok sel_lack ha hb
theorem lacks_look {a b : List S44} (ha : MapOK a) (hb : MapOK b) (k : List UInt8) : look keyE (lacksL (mp a b)) k = lackO (look keyE a k) (look keyE b k) := by rw [lacksL_comb ha hb]; exact comb_look sel_lack ha hb k
end
section
theorem spoil_grow (d : Nat) : ∀ (i : Nat) (l : List S44), i + d = 12 → l.length + d ≤ 2513169434916 → Ev (fun k => tidelinelaw09_spoil.l1 k l (i : Int)) () := by
  induction d with
  | zero =>
    intro i l hd hl
    refine Ev.step (fun k => by rw [tidelinelaw09_spoil.l1]) ?_
    simp only [if_neg (show ¬ (i : Int) < 12 by omega)]
    exact Ev.const rfl
  | succ d ih =>
    intro i l hd hl
    refine Ev.step (fun k => by rw [tidelinelaw09_spoil.l1]) ?_
    simp only [if_pos (show (i : Int) < 12 by omega), if_pos (show l.length < 2513169434916 by omega)]
    rw [wrap_succ (by omega)]
    exact ih (i + 1) _ (by omega) (by simp; omega)
theorem spoil_turn (n : Nat) (hn : n + 12 ≤ 2513169434916) (d : Nat) : ∀ (i : Nat) (l : List S44), l.length = n → i + d = n → Ev (fun k => tidelinelaw09_spoil.l0 k l (i : Int)) () := by
  induction d with
  | zero =>
    intro i l hl hd
    refine Ev.step (fun k => by rw [tidelinelaw09_spoil.l0]) ?_
    simp only [if_neg (show ¬ (i : Int) < (l.length : Int) by omega)]
    exact spoil_grow 12 0 l rfl (by omega)
  | succ d ih =>
    intro i l hl hd
    refine Ev.step (fun k => by rw [tidelinelaw09_spoil.l0]) ?_
    simp only [if_pos (show (i : Int) < (l.length : Int) by omega), if_pos (show (0 : Int) ≤ (i : Int) by omega)]
    rw [wrap_succ (by omega)]
    exact ih (i + 1) _ (by simp; omega) (by omega)
theorem spoil_f (l : List S44) (hl : l.length + 12 ≤ 2513169434916) : Ev (fun k => tidelinelaw09_spoil.f k l) () :=
  Ev.congr (fun k => by rw [tidelinelaw09_spoil.f]; rfl) (spoil_turn l.length hl l.length 0 l rfl (Nat.zero_add _))
end
open Go.Proofs.Ytghlellambnkeaa.MergeW Go.Proofs.Ytghlellambnkeaa.Str
theorem chk2_zero {a b : List S44} (h : chk2 a b = 0) : chkL a = 0 ∧ chkL b = 0 := by
  unfold chk2 at h
  by_cases ha : chkL a = 0
  · rw [if_pos ha] at h; exact ⟨ha, h⟩
  · rw [if_neg ha] at h; exact absurd h ha
theorem chk2_mk {a b : List S44} (ha : chkL a = 0) (hb : chkL b = 0) : chk2 a b = 0 := by unfold chk2; rw [if_pos ha]; exact hb
/-- What Max, Differ, Lacks and Above tell of any lists. -/
def maxA (a b : List S44) : List S44 × Int := (if chk2 a b = 0 then maxL (mp a b) else [], chk2 a b)
def difA (a b : List S44) : List ByteArray × Int := (if chk2 a b = 0 then differL (mp a b) else [], chk2 a b)
def lacA (a b : List S44) : List S44 × Int := (if chk2 a b = 0 then lacksL (mp a b) else [], chk2 a b)
def aboA (a b : List S44) : Bool × Int := (decide (chk2 a b = 0) && aboveB (mp a b), chk2 a b)
section
variable (a b : List S44) (h : a.length + b.length ≤ 1256584717457)
include h
theorem maxA_f : Ev (fun k => merge_Max.f k a b) (maxA a b) := by
  have hl := mp_len a b
  refine Ev.congr (fun k => by rw [merge_Max.f]) (Ev.bind (chk2_f a b (by omega) (by omega)) ?_)
  simp only [if_pos (show (mp a b).length < 2513169434916 by omega)]
  exact Ev.const rfl
theorem difA_f : Ev (fun k => merge_Differ.f k a b) (difA a b) := by
  have hl := mp_len a b
  refine Ev.congr (fun k => by rw [merge_Differ.f]) (Ev.bind (chk2_f a b (by omega) (by omega)) ?_)
  simp only [if_pos (show (mp a b).length < 2513169434916 by omega)]
  exact Ev.const rfl
theorem lacA_f : Ev (fun k => merge_Lacks.f k a b) (lacA a b) := by
  have hl := mp_len a b
  refine Ev.congr (fun k => by rw [merge_Lacks.f]) (Ev.bind (chk2_f a b (by omega) (by omega)) ?_)
  simp only [if_pos (show (mp a b).length < 2513169434916 by omega)]
  exact Ev.const rfl
theorem aboA_f : Ev (fun k => merge_Above.f k a b) (aboA a b) :=
  Ev.congr (fun k => by rw [merge_Above.f]) (Ev.bind (chk2_f a b (by omega) (by omega)) (Ev.const rfl))
theorem maxA_ref : Ev (fun k => tidelineref09_Max.f k a b) (maxA a b) := by
  by_cases hc : chk2 a b = 0
  · obtain ⟨ca, cb⟩ := chk2_zero hc
    exact Ev.val (refMax_ev a b h ca cb) (by unfold maxA; rw [if_pos hc, hc])
  · refine Ev.congr (fun k => by rw [tidelineref09_Max.f]) (Ev.bind (chk2_ref a b (by omega) (by omega)) ?_)
    simp only [if_neg hc]
    exact Ev.const (by unfold maxA; rw [if_neg hc])
end
/-- A pair's key, where its versions are unlike, as the document tells it. -/
def difR (p : S46) : Option ByteArray := if verB p.f0 p.f1 = true then none else some (if p.f0.f1.f0 = 0 ∨ p.f1.f1.f0 = 0 then p.f0.f0 ++ p.f1.f0 else p.f0.f0)
theorem set_last {α : Type} (l : List α) (x y : α) : (l ++ [x]).set l.length y = l ++ [y] := by simp
theorem difR_loop (l : List S46) (hl : l.length ≤ 2513169434900) (hok : ∀ p ∈ l, p.f0.f0.size ≤ 16 ∧ p.f1.f0.size ≤ 16) (d : Nat) : ∀ (i : Nat) (acc : List ByteArray), i + d = l.length → acc.length ≤ i →
    Ev (fun k => tidelineref09_Differ.l0 k l acc (i : Int)) (acc ++ (l.drop i).filterMap difR, 0) := by
  induction d with
  | zero =>
    intro i acc hd ha
    refine Ev.step (fun k => by rw [tidelineref09_Differ.l0]) ?_
    simp only [if_neg (show ¬ (i : Int) < (l.length : Int) by omega)]
    rw [List.drop_of_length_le (by omega)]
    exact Ev.const (by simp)
  | succ d ih =>
    intro i acc hd ha
    have hk := hok l[i] (List.getElem_mem (by omega))
    have e1 : (!(l[i].f0.f1.f0 == l[i].f1.f1.f0) || (!(l[i].f0.f1.f1 == l[i].f1.f1.f1))) = !verB l[i].f0 l[i].f1 := by unfold verB; rw [Bool.not_and]
    refine Ev.step (fun k => by rw [tidelineref09_Differ.l0]) ?_
    simp only [if_pos (show (i : Int) < (l.length : Int) by omega), if_pos (show (0 : Int) ≤ (i : Int) by omega)]
    rw [rd46 (show i < l.length by omega), wrap_succ (by omega), List.drop_eq_getElem_cons (show i < l.length by omega), e1]
    cases hv : verB l[i].f0 l[i].f1 with
    | true =>
      simp only [Bool.not_true, if_neg (show ¬ (false = true) by decide)]
      refine Ev.val (ih (i + 1) acc (by omega) (by omega)) ?_
      rw [List.filterMap_cons_none (show difR l[i] = none by unfold difR; rw [if_pos hv])]
    | false =>
      simp only [Bool.not_false, if_true, if_pos (show l[i].f0.f0.size + l[i].f1.f0.size ≤ 9223372036854775807 by omega), if_pos (show acc.length < 8796093022208 by omega)]
      refine Ev.bind (Ev.const rfl) ?_
      refine Ev.bind (Ev.const rfl) ?_
      cases hz : (l[i].f0.f1.f0 == 0) with
      | true =>
        simp only [if_true]
        have e : difR l[i] = some (l[i].f0.f0 ++ l[i].f1.f0) := by unfold difR; rw [if_neg (by rw [hv]; decide), if_pos (.inl (by simpa using hz))]
        refine Ev.val (ih (i + 1) (acc ++ [l[i].f0.f0 ++ l[i].f1.f0]) (by omega) (by simp; omega)) ?_
        rw [List.filterMap_cons_some e]; simp
      | false =>
        simp only [if_neg (show ¬ (false = true) by decide)]
        refine Ev.bind (Ev.const rfl) ?_
        cases hz2 : (l[i].f1.f1.f0 == 0) with
        | true =>
          simp only [if_true]
          have e : difR l[i] = some (l[i].f0.f0 ++ l[i].f1.f0) := by unfold difR; rw [if_neg (by rw [hv]; decide), if_pos (.inr (by simpa using hz2))]
          refine Ev.val (ih (i + 1) (acc ++ [l[i].f0.f0 ++ l[i].f1.f0]) (by omega) (by simp; omega)) ?_
          rw [List.filterMap_cons_some e]; simp
        | false =>
          have e : difR l[i] = some l[i].f0.f0 := by
            unfold difR
            rw [if_neg (by rw [hv]; decide), if_neg (fun g => by rcases g with g | g <;> simp [g] at hz hz2)]
          have w : wrap64 (((acc ++ [l[i].f0.f0 ++ l[i].f1.f0]).length : Int) - 1) = ((acc.length : Nat) : Int) := by
            rw [List.length_append, List.length_singleton, wrap_id (by omega) (by omega)]; omega
          simp only [if_neg (show ¬ (false = true) by decide), w, if_pos (show (0 : Int) ≤ ((acc.length : Nat) : Int) by omega), Int.toNat_natCast, set_last]
          simp only [if_pos (show ((acc.length : Nat) : Int) < ((acc ++ [l[i].f0.f0 ++ l[i].f1.f0]).length : Int) by rw [List.length_append, List.length_singleton]; omega)]
          refine Ev.val (ih (i + 1) (acc ++ [l[i].f0.f0]) (by omega) (by simp; omega)) ?_
          rw [List.filterMap_cons_some e]; simp
def lacR (p : S46) : Option S44 := if p.f0.f1.f0 = 0 then none else if newK p.f0 p.f1 = true then some p.f0 else none
theorem lacR_loop (l : List S46) (hl : l.length ≤ 2513169434900) (d : Nat) : ∀ (i : Nat) (acc : List S44), i + d = l.length → acc.length ≤ i →
    Ev (fun k => tidelineref09_Lacks.l0 k l acc (i : Int)) (acc ++ (l.drop i).filterMap lacR, 0) := by
  induction d with
  | zero =>
    intro i acc hd ha
    refine Ev.step (fun k => by rw [tidelineref09_Lacks.l0]) ?_
    simp only [if_neg (show ¬ (i : Int) < (l.length : Int) by omega)]
    rw [List.drop_of_length_le (by omega)]
    exact Ev.const (by simp)
  | succ d ih =>
    intro i acc hd ha
    refine Ev.step (fun k => by rw [tidelineref09_Lacks.l0]) ?_
    simp only [if_pos (show (i : Int) < (l.length : Int) by omega), if_pos (show (0 : Int) ≤ (i : Int) by omega)]
    rw [rd46 (show i < l.length by omega), wrap_succ (by omega), List.drop_eq_getElem_cons (show i < l.length by omega)]
    refine Ev.bind (Ev.const rfl) ?_
    cases hz : (l[i].f0.f1.f0 == 0) with
    | true =>
      simp only [if_true]
      refine Ev.val (ih (i + 1) acc (by omega) (by omega)) ?_
      rw [List.filterMap_cons_none (show lacR l[i] = none by unfold lacR; rw [if_pos (by simpa using hz)])]
    | false =>
      have hz' : ¬ l[i].f0.f1.f0 = 0 := by simpa using hz
      simp only [if_neg (show ¬ (false = true) by decide)]
      refine Ev.bind (Ev.const (newer_ref09 _ _)) ?_
      cases hn : newK l[i].f0 l[i].f1 with
      | true =>
        simp only [if_true, if_pos (show acc.length < 2513169434916 by omega)]
        refine Ev.val (ih (i + 1) (acc ++ [l[i].f0]) (by omega) (by simp; omega)) ?_
        rw [List.filterMap_cons_some (show lacR l[i] = some l[i].f0 by unfold lacR; rw [if_neg hz', if_pos hn])]; simp
      | false =>
        simp only [if_neg (show ¬ (false = true) by decide)]
        refine Ev.val (ih (i + 1) acc (by omega) (by omega)) ?_
        rw [List.filterMap_cons_none (show lacR l[i] = none by unfold lacR; rw [if_neg hz', if_neg (by rw [hn]; decide)])]
theorem nil_app (x : ByteArray) : (⟨#[]⟩ : ByteArray) ++ x = x := ba_eq.1 (by simp [Go.ByteArray.toList_eq])
theorem app_nil (x : ByteArray) : x ++ (⟨#[]⟩ : ByteArray) = x := ba_eq.1 (by simp [Go.ByteArray.toList_eq])
theorem z_key : (z44).f0 = ⟨#[]⟩ := rfl
theorem mp_cases {a b : List S44} (ha : MapOK a) (hb : MapOK b) {t : S44 × S44} (ht : t ∈ mp a b) : (t.1 = z44 ∧ entE t.2 = 0) ∨ (t.2 = z44 ∧ entE t.1 = 0) ∨ (entE t.1 = 0 ∧ entE t.2 = 0) := by
  obtain ⟨k, hk, rfl⟩ := mp_only ha hb ht
  cases hx : look keyE a k with
  | none =>
    cases hy : look keyE b k with
    | none => exact absurd ⟨hx, hy⟩ hk
    | some y => exact .inl ⟨rfl, hb.ent y (look_some keyE hy).1⟩
  | some x =>
    cases hy : look keyE b k with
    | none => exact .inr (.inl ⟨rfl, ha.ent x (look_some keyE hx).1⟩)
    | some y => exact .inr (.inr ⟨ha.ent x (look_some keyE hx).1, hb.ent y (look_some keyE hy).1⟩)
theorem entE_key {x : S44} (h : entE x = 0) : x.f0.size ≤ 16 := by
  unfold entE at h
  split at h
  · simp at h
  · omega
theorem dif_pair {a b : List S44} (ha : MapOK a) (hb : MapOK b) : ((mp a b).map pairS).filterMap difR = differL (mp a b) := by
  unfold differL
  rw [List.filterMap_map]
  refine fm_congr fun t ht => ?_
  show difR ⟨t.1, t.2⟩ = _
  unfold difR keyD
  cases hv : verB t.1 t.2 with
  | true => rfl
  | false =>
    simp only [if_neg (show ¬ (false = true) by decide)]
    congr 1
    rcases mp_cases ha hb ht with ⟨h1, h2⟩ | ⟨h1, h2⟩ | ⟨h1, h2⟩
    · rw [h1, if_pos (.inl z_f0), thereB_z, if_neg (by decide), z_key, nil_app]
    · rw [h1, if_pos (.inr z_f0), thereB_ok h2, if_pos rfl, z_key, app_nil]
    · have g1 := entE_there h1
      have g2 := entE_there h2
      rw [if_neg (by omega), thereB_ok h1, if_pos rfl]
theorem lac_pair {a b : List S44} (ha : MapOK a) (hb : MapOK b) : ((mp a b).map pairS).filterMap lacR = lacksL (mp a b) := by
  unfold lacksL
  rw [List.filterMap_map]
  refine fm_congr fun t ht => ?_
  show (if t.1.f1.f0 = 0 then none else if newK t.1 t.2 = true then some t.1 else none) = _
  rcases mp_cases ha hb ht with ⟨h1, h2⟩ | ⟨h1, h2⟩ | ⟨h1, h2⟩
  · rw [h1, if_pos z_f0, thereB_z]; rfl
  · have g2 := entE_there h2
    rw [if_neg (by omega), thereB_ok h2, Bool.true_and]
  · have g1 := entE_there h1
    rw [if_neg (by omega), thereB_ok h1, Bool.true_and]
theorem pairs_small {a b : List S44} (ha : MapOK a) (hb : MapOK b) : ∀ p ∈ (mp a b).map pairS, p.f0.f0.size ≤ 16 ∧ p.f1.f0.size ≤ 16 := by
  intro p hp
  obtain ⟨t, ht, rfl⟩ := List.mem_map.1 hp
  show t.1.f0.size ≤ 16 ∧ t.2.f0.size ≤ 16
  have hz : (z44).f0.size ≤ 16 := by decide
  rcases mp_cases ha hb ht with ⟨h1, h2⟩ | ⟨h1, h2⟩ | ⟨h1, h2⟩
  · rw [h1]; exact ⟨hz, entE_key h2⟩
  · rw [h1]; exact ⟨entE_key h2, hz⟩
  · exact ⟨entE_key h1, entE_key h2⟩
theorem difA_ref (a b : List S44) (h : a.length + b.length ≤ 1256584717457) : Ev (fun k => tidelineref09_Differ.f k a b) (difA a b) := by
  refine Ev.congr (fun k => by rw [tidelineref09_Differ.f]) (Ev.bind (chk2_ref a b (by omega) (by omega)) ?_)
  unfold difA
  by_cases hc : chk2 a b = 0
  · obtain ⟨ca, cb⟩ := chk2_zero hc
    have hl := mp_len a b
    simp only [if_pos hc]
    refine Ev.bind (pairs_ref a b h) ?_
    simp only [if_pos hc]
    refine Ev.val (difR_loop ((mp a b).map pairS) (by rw [List.length_map]; omega) (pairs_small (mapOK ca) (mapOK cb)) _ 0 [] (Nat.zero_add _) (Nat.le_refl _)) ?_
    rw [List.drop_zero, List.nil_append, dif_pair (mapOK ca) (mapOK cb), hc]
  · simp only [if_neg hc]; exact Ev.const rfl
theorem lacA_ref (a b : List S44) (h : a.length + b.length ≤ 1256584717457) : Ev (fun k => tidelineref09_Lacks.f k a b) (lacA a b) := by
  refine Ev.congr (fun k => by rw [tidelineref09_Lacks.f]) (Ev.bind (chk2_ref a b (by omega) (by omega)) ?_)
  unfold lacA
  by_cases hc : chk2 a b = 0
  · obtain ⟨ca, cb⟩ := chk2_zero hc
    have hl := mp_len a b
    simp only [if_pos hc]
    refine Ev.bind (pairs_ref a b h) ?_
    simp only [if_pos hc]
    refine Ev.val (lacR_loop ((mp a b).map pairS) (by rw [List.length_map]; omega) _ 0 [] (Nat.zero_add _) (Nat.le_refl _)) ?_
    rw [List.drop_zero, List.nil_append, lac_pair (mapOK ca) (mapOK cb), hc]
  · simp only [if_neg hc]; exact Ev.const rfl
/-- Who lacks nothing of the other is above. -/
theorem above_lacks {a b : List S44} (ha : MapOK a) (hb : MapOK b) : ((lacksL (mp b a)).length : Int) == 0 ↔ aboveB (mp a b) = true := by
  rw [above_iff ha hb]
  constructor
  · intro h k y hy
    have hnil : lacksL (mp b a) = [] := List.eq_nil_of_length_eq_zero (by simpa using h)
    have hl := lacks_look hb ha k
    rw [hnil, look_nil, hy] at hl
    cases hx : look keyE a k with
    | none => rw [hx] at hl; cases hl
    | some x =>
      refine ⟨x, rfl, ?_⟩
      rw [hx] at hl
      cases hn : newK y x with
      | false => rfl
      | true => simp [lackO, hn] at hl
  · intro h
    have hnil : lacksL (mp b a) = [] := by
      cases hm : lacksL (mp b a) with
      | nil => rfl
      | cons g l =>
        exfalso
        have hg : g ∈ lacksL (mp b a) := by rw [hm]; simp
        have hlo := look_mem TOE (lacks_ok hb ha).srt hg
        rw [lacks_look hb ha] at hlo
        cases hy : look keyE b (keyE g) with
        | none => rw [hy] at hlo; cases hlo
        | some y =>
          obtain ⟨x, hx, hn⟩ := h (keyE g) y hy
          rw [hy, hx] at hlo
          simp [lackO, hn] at hlo
    rw [hnil]; rfl
theorem aboA_ref (a b : List S44) (h : a.length + b.length ≤ 1256584717457) : Ev (fun k => tidelineref09_Above.f k a b) (aboA a b) := by
  refine Ev.congr (fun k => by rw [tidelineref09_Above.f]) (Ev.bind (chk2_ref a b (by omega) (by omega)) ?_)
  unfold aboA
  by_cases hc : chk2 a b = 0
  · obtain ⟨ca, cb⟩ := chk2_zero hc
    simp only [if_pos hc]
    refine Ev.bind (lacA_ref b a (by omega)) (Ev.const ?_)
    unfold lacA
    rw [chk2_mk cb ca, hc, if_pos rfl]
    have := above_lacks (mapOK ca) (mapOK cb)
    rw [Bool.eq_iff_iff.2 this]
    rfl
  · simp only [if_neg hc]; exact Ev.const (by rw [decide_eq_false hc]; rfl)
theorem texts_loop (l : List ByteArray) (hl : l.length ≤ 2513169434900) (d : Nat) : ∀ i : Nat, i + d = l.length → Ev (fun k => tidelinelaw09_sameTexts.l0 k l l (i : Int)) true := by
  induction d with
  | zero =>
    intro i hd
    refine Ev.step (fun k => by rw [tidelinelaw09_sameTexts.l0]) ?_
    simp only [if_neg (show ¬ (i : Int) < (l.length : Int) by omega)]
    exact Ev.const rfl
  | succ d ih =>
    intro i hd
    refine Ev.step (fun k => by rw [tidelinelaw09_sameTexts.l0]) ?_
    simp only [if_pos (show (i : Int) < (l.length : Int) by omega), if_pos (show (0 : Int) ≤ (i : Int) by omega), if_true]
    rw [wrap_succ (by omega)]
    exact ih (i + 1) (by omega)
theorem texts_f (l : List ByteArray) (hl : l.length ≤ 2513169434900) : Ev (fun k => tidelinelaw09_sameTexts.f k l l) true := by
  refine Ev.congr (fun k => by rw [tidelinelaw09_sameTexts.f]) ?_
  simp only [if_true]
  exact texts_loop l hl l.length 0 (Nat.zero_add _)
theorem MergeTells : tidelinelaw09_MergeTells.Pure := by
  intro a b fa fb
  have la : a.length ≤ 2513169434843 := by have := fa.1; omega
  have lb : b.length ≤ 2513169434843 := by have := fb.1; omega
  refine Ev.rounds ?_
  refine Ev.congr (fun k => by rw [tidelinelaw09_MergeTells.f]) ?_
  obtain ⟨bb, hbb, hlim⟩ := bey_f [a, b] (by simp) (by intro l hl; simp at hl; rcases hl with rfl | rfl <;> assumption)
  refine Ev.bind hbb ?_
  cases bb with
  | true => simp only [if_true]; exact Ev.const rfl
  | false =>
    have hs := hlim rfl
    simp only [List.map_cons, List.map_nil, List.sum_cons, List.sum_nil] at hs
    have h : a.length + b.length ≤ 1256584717457 := by omega
    have hmp := mp_len a b
    have l1 : (maxA a b).1.length ≤ a.length + b.length := by
      unfold maxA; dsimp only; split
      · exact max_len
      · simp
    have l2 : (difA a b).1.length ≤ a.length + b.length := by
      unfold difA; dsimp only; split
      · exact Nat.le_trans (differL_len _) hmp
      · simp
    have l3 : (lacA a b).1.length ≤ a.length + b.length := by
      unfold lacA; dsimp only; split
      · exact Nat.le_trans (lacksL_len _) hmp
      · simp
    simp only [if_neg (show ¬ (false = true) by decide), if_pos (And.intro la lb)]
    refine Ev.bind (maxA_f a b h) (Ev.bind (maxA_ref a b h) (Ev.bind (same_f (maxA a b).1 (maxA a b).1 (by omega)) ?_))
    rw [sameB_iff.2 rfl]
    simp only [and_self, if_true]
    refine Ev.bind (difA_f a b h) (Ev.bind (difA_ref a b h) (Ev.bind (texts_f (difA a b).1 (by omega)) ?_))
    simp only [and_self, if_true]
    refine Ev.bind (lacA_f a b h) (Ev.bind (lacA_ref a b h) (Ev.bind (same_f (lacA a b).1 (lacA a b).1 (by omega)) ?_))
    rw [sameB_iff.2 rfl]
    simp only [and_self, if_true]
    refine Ev.bind (aboA_f a b h) (Ev.bind (aboA_ref a b h) ?_)
    simp only [and_self, if_true]
    refine Ev.bind (spoil_f (maxA a b).1 (by omega)) (Ev.bind (spoil_f (lacA a b).1 (by omega)) ?_)
    refine Ev.bind (same_f a a (by omega)) (Ev.bind (same_f b b (by omega)) ?_)
    rw [sameB_iff.2 rfl, sameB_iff.2 rfl]
    simp only [and_self, if_true]
    exact Ev.const rfl
end Go.Proofs.Ytghlellambnkeaa.Pure
