import Derived.Test.YtghlellambnkeaaPAllx0
import Derived.Test.YtghlellambnkeaaPAllx4
import Derived.Test.YtghlellambnkeaaPAllx6
import Derived.Test.YtghlellambnkeaaSEv
import Derived.Test.YtghlellambnkeaaSLists
import Derived.Test.YtghlellambnkeaaSMergeP
import Derived.Test.YtghlellambnkeaaSChk09
import Derived.Test.YtghlellambnkeaaSPairs09
import Derived.Test.YtghlellambnkeaaSMergeA
set_option linter.unusedVariables false
set_option linter.unusedSimpArgs false
namespace Go.Proofs.Ytghlellambnkeaa.Pure
open Go.RowKit Go.Proofs.Ytghlellambnkeaa.PAll Go.Proofs.YtghlellambnkeaaW.PrintWords Go.Proofs.YtghlellambnkeaaW.PrintLast Go.Proofs.YtghlellambnkeaaW.PrintMore
open Go.Proofs.Ytghlellambnkeaa.MergeW
/-- Are two entries unlike? -/
def neE (x y : S44) : Bool := !((x.f0.toList) == (y.f0.toList)) || ((!(x.f1.f0 == y.f1.f0) || (!(x.f1.f1 == y.f1.f1))) || (!((x.f2.toList) == (y.f2.toList)) || (!(x.f3 == y.f3))))
theorem neE_self (x : S44) : neE x x = false := by simp [neE]
theorem neE_eq {x y : S44} (h : neE x y = false) : x = y := by
  unfold neE at h
  simp only [Bool.or_eq_false_iff, Bool.not_eq_false', beq_iff_eq] at h
  obtain ⟨h0, ⟨h1, h2⟩, h3, h4⟩ := h
  rcases x with ⟨a, ⟨b, c⟩, d, e⟩
  rcases y with ⟨a', ⟨b', c'⟩, d', e'⟩
  simp only at h0 h1 h2 h3 h4
  rw [ba_eq.1 h0, h1, h2, ba_eq.1 h3, h4]
def sameB : List S44 → List S44 → Bool
  | [], [] => true
  | x :: l, y :: m => !neE x y && sameB l m
  | _, _ => false
theorem sameB_iff : ∀ {a b : List S44}, sameB a b = true ↔ a = b := by
  intro a
  induction a with
  | nil => intro b; cases b <;> simp [sameB]
  | cons x l ih =>
    intro b
    cases b with
    | nil => simp [sameB]
    | cons y m =>
      simp only [sameB, Bool.and_eq_true, Bool.not_eq_true', ih, List.cons.injEq]
      constructor
      · rintro ⟨h1, h2⟩; exact ⟨neE_eq h1, h2⟩
      · rintro ⟨h1, h2⟩; rw [h1]; exact ⟨neE_self _, h2⟩
theorem sameB_length {a b : List S44} (h : a.length ≠ b.length) : sameB a b = false := by
  cases hs : sameB a b with
  | false => rfl
  | true => exact absurd (by rw [sameB_iff.1 hs]) h
theorem same_loop (a b : List S44) (he : a.length = b.length) (hl : a.length ≤ 3518437208881) (d : Nat) : ∀ i : Nat, i + d = a.length →
    Ev (fun k => tidelinelaw09_same.l0 k a b (i : Int)) (sameB (a.drop i) (b.drop i)) := by
  induction d with
  | zero =>
    intro i hd
    refine Ev.step (fun k => by rw [tidelinelaw09_same.l0]) ?_
    simp only [if_neg (show ¬ (i : Int) < (a.length : Int) by omega)]
    rw [List.drop_of_length_le (show a.length ≤ i by omega), List.drop_of_length_le (show b.length ≤ i by omega)]
    exact Ev.const rfl
  | succ d ih =>
    intro i hd
    refine Ev.step (fun k => by rw [tidelinelaw09_same.l0]) ?_
    simp only [if_pos (show (i : Int) < (a.length : Int) by omega), if_pos (show (0 : Int) ≤ (i : Int) by omega), if_pos (show (i : Int) < (b.length : Int) by omega)]
    rw [rd44 (show i < a.length by omega), rd44 (show i < b.length by omega), wrap_succ (by omega), List.drop_eq_getElem_cons (show i < a.length by omega), List.drop_eq_getElem_cons (show i < b.length by omega)]
    have := ih (i + 1) (by omega)
    simp only [sameB]
    cases hn : neE a[i] b[i] with
    | true =>
      unfold neE at hn
      simp only [hn, if_true]
      exact Ev.const rfl
    | false =>
      unfold neE at hn
      simp only [hn, if_neg (show ¬ (false = true) by decide)]
      exact Ev.val this (by simp)
theorem same_f (a b : List S44) (hl : a.length ≤ 3518437208881) : Ev (fun k => tidelinelaw09_same.f k a b) (sameB a b) := by
  refine Ev.congr (fun k => by rw [tidelinelaw09_same.f]) ?_
  by_cases he : a.length = b.length
  · simp only [if_pos (show (a.length : Int) = (b.length : Int) by omega)]
    have := same_loop a b he hl a.length 0 (Nat.zero_add _)
    simpa using this
  · simp only [if_neg (show ¬ (a.length : Int) = (b.length : Int) by omega)]
    exact Ev.const (by rw [sameB_length he])
def verQ (x y : S44) : Bool := (x.f1.f0 == y.f1.f0) && (x.f1.f1 == y.f1.f1)
/-- Two entries of one version are alike. -/
def okP (t : S44 × S44) : Bool := !(verQ t.1 t.2 && neE t.1 t.2)
theorem rd46 {l : List S46} {i : Nat} (h : i < l.length) : rd_T46 l (i : Int) = l[i] := by
  unfold rd_T46
  rw [Int.toNat_natCast, List.getD_eq_getElem?_getD, List.getElem?_eq_getElem h]; rfl
theorem clean_loop (l : List S46) (hl : l.length ≤ 3518437208881) (d : Nat) : ∀ i : Nat, i + d = l.length →
    Ev (fun k => tidelinelaw09_clean.l0 k l (i : Int)) ((l.drop i).all (fun p => okP (p.f0, p.f1))) := by
  induction d with
  | zero =>
    intro i hd
    refine Ev.step (fun k => by rw [tidelinelaw09_clean.l0]) ?_
    simp only [if_neg (show ¬ (i : Int) < (l.length : Int) by omega)]
    rw [List.drop_of_length_le (by omega)]
    exact Ev.const rfl
  | succ d ih =>
    intro i hd
    refine Ev.step (fun k => by rw [tidelinelaw09_clean.l0]) ?_
    simp only [if_pos (show (i : Int) < (l.length : Int) by omega), if_pos (show (0 : Int) ≤ (i : Int) by omega)]
    rw [rd46 (show i < l.length by omega), wrap_succ (by omega), List.drop_eq_getElem_cons (show i < l.length by omega), List.all_cons]
    have := ih (i + 1) (by omega)
    cases hv : verQ l[i].f0 l[i].f1 with
    | false =>
      have ho : okP (l[i].f0, l[i].f1) = true := by simp [okP, hv]
      unfold verQ at hv
      simp only [hv, if_neg (show ¬ (false = true) by decide)]
      exact Ev.val this (by rw [ho]; rfl)
    | true =>
      cases hn : neE l[i].f0 l[i].f1 with
      | true =>
        have ho : okP (l[i].f0, l[i].f1) = false := by simp [okP, hv, hn]
        unfold verQ at hv
        unfold neE at hn
        simp only [hv, if_true, hn]
        exact Ev.const (by rw [ho]; rfl)
      | false =>
        have ho : okP (l[i].f0, l[i].f1) = true := by simp [okP, hv, hn]
        unfold verQ at hv
        unfold neE at hn
        simp only [hv, if_true, hn, if_neg (show ¬ (false = true) by decide)]
        exact Ev.val this (by rw [ho]; rfl)
/-- No two entries of one key and version are unlike; and both lists are maps. -/
def cleanB (a b : List S44) : Bool := decide (chkL a = 0) && (decide (chkL b = 0) && (mp a b).all okP)
theorem clean_f (a b : List S44) (h : a.length + b.length ≤ 1256584717457) : Ev (fun k => tidelinelaw09_clean.f k a b) (cleanB a b) := by
  refine Ev.congr (fun k => by rw [tidelinelaw09_clean.f]) ?_
  refine Ev.bind (chk_ref a (by omega)) ?_
  unfold cleanB
  by_cases ha : chkL a = 0
  · simp only [if_pos ha]
    rw [decide_eq_true ha]
    refine Ev.bind (chk_ref b (by omega)) ?_
    refine Ev.step (fun k => by rw [tidelinelaw09_clean.j0]) ?_
    by_cases hb : chkL b = 0
    · rw [decide_eq_true hb]
      have e : (chkL b != 0) = false := by simp [hb]
      simp only [e, if_neg (show ¬ (false = true) by decide)]
      refine Ev.bind (pairs_ref a b h) ?_
      have hc : chk2 a b = 0 := by unfold chk2; rw [if_pos ha]; exact hb
      simp only [if_pos hc]
      have hl := mp_len a b
      have := clean_loop ((mp a b).map pairS) (by rw [List.length_map]; omega) ((mp a b).map pairS).length 0 (Nat.zero_add _)
      refine Ev.val this ?_
      rw [List.drop_zero, List.all_map]
      rfl
    · have e : (chkL b != 0) = true := by simpa using hb
      simp only [e, if_true]
      exact Ev.const (by rw [decide_eq_false hb]; rfl)
  · simp only [if_neg ha]
    refine Ev.step (fun k => by rw [tidelinelaw09_clean.j0]) ?_
    simp only [if_true]
    exact Ev.const (by rw [decide_eq_false ha]; rfl)
theorem cleanB_parts {a b : List S44} (h : cleanB a b = true) : chkL a = 0 ∧ chkL b = 0 ∧ (mp a b).all okP = true := by
  unfold cleanB at h
  simp only [Bool.and_eq_true, decide_eq_true_eq] at h
  exact h
end Go.Proofs.Ytghlellambnkeaa.Pure
