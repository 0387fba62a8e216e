/- For both lists and any stop the law MergeBoth answers true: what Both hands out is the document's pairs, in order, twice over, and left early at any place, whatever becomes of the lists meanwhile. It has no condition but the form's own reach. -/
import Derived.Test.YtghlellambnkeaaPAllx0
import Derived.Test.YtghlellambnkeaaPAllx3
import Derived.Test.YtghlellambnkeaaPAllx4
import Derived.Test.YtghlellambnkeaaQMergeBoth
import Derived.Test.YtghlellambnkeaaSEv
import Derived.Test.YtghlellambnkeaaSLists
import Derived.Test.YtghlellambnkeaaSItemcmp
import Derived.Test.YtghlellambnkeaaSMergeP
import Derived.Test.YtghlellambnkeaaSChk09
import Derived.Test.YtghlellambnkeaaSPairs09
import Derived.Test.YtghlellambnkeaaSLawBoth
set_option linter.unusedVariables false
set_option linter.unusedSimpArgs false
namespace Go.Proofs.Ytghlellambnkeaa.Pure
open Go.RowKit Go.Proofs.Ytghlellambnkeaa.PAll Go.Proofs.YtghlellambnkeaaW.PrintWords Go.Proofs.YtghlellambnkeaaW.PrintLast Go.Proofs.YtghlellambnkeaaW.PrintMore
section
/-- Are two entries unlike? -/
def neE (x y : S44) : Bool := !((x.f0.toList) == (y.f0.toList)) || ((!(x.f1.f0 == y.f1.f0) || (!(x.f1.f1 == y.f1.f1))) || (!((x.f2.toList) == (y.f2.toList)) || (!(x.f3 == y.f3))))
theorem neE_self (x : S44) : neE x x = false := by simp [neE]
theorem neE_eq {x y : S44} (h : neE x y = false) : x = y := by
  unfold neE at h
  simp only [Bool.or_eq_false_iff, Bool.not_eq_false', beq_iff_eq] at h
  obtain ⟨h0, ⟨h1, h2⟩, h3, h4⟩ := h
  rcases x with ⟨a, ⟨b, c⟩, d, e⟩
  rcases y with ⟨a', ⟨b', c'⟩, d', e'⟩
  simp only at h0 h1 h2 h3 h4
  rw [ba_eq.1 h0, h1, h2, ba_eq.1 h3, h4]
def sameB : List S44 → List S44 → Bool
  | [], [] => true
  | x :: l, y :: m => !neE x y && sameB l m
  | _, _ => false
theorem sameB_iff : ∀ {a b : List S44}, sameB a b = true ↔ a = b := by
  intro a
  induction a with
  | nil => intro b; cases b <;> simp [sameB]
  | cons x l ih =>
    intro b
    cases b with
    | nil => simp [sameB]
    | cons y m =>
      simp only [sameB, Bool.and_eq_true, Bool.not_eq_true', ih, List.cons.injEq]
      constructor
      · rintro ⟨h1, h2⟩; exact ⟨neE_eq h1, h2⟩
      · rintro ⟨h1, h2⟩; rw [h1]; exact ⟨neE_self _, h2⟩
theorem sameB_length {a b : List S44} (h : a.length ≠ b.length) : sameB a b = false := by
  cases hs : sameB a b with
  | false => rfl
  | true => exact absurd (by rw [sameB_iff.1 hs]) h
theorem same_loop (a b : List S44) (he : a.length = b.length) (hl : a.length ≤ 3518437208881) (d : Nat) : ∀ i : Nat, i + d = a.length →
    Ev (fun k => tidelinelaw09_same.l0 k a b (i : Int)) (sameB (a.drop i) (b.drop i)) := by
  induction d with
  | zero =>
    intro i hd
    refine Ev.step (fun k => by rw [tidelinelaw09_same.l0]) ?_
    simp only [if_neg (show ¬ (i : Int) < (a.length : Int) by omega)]
    rw [List.drop_of_length_le (show a.length ≤ i by omega), List.drop_of_length_le (show b.length ≤ i by omega)]
    exact Ev.const rfl
  | succ d ih =>
    intro i hd
    refine Ev.step (fun k => by rw [tidelinelaw09_same.l0]) ?_
    simp only [if_pos (show (i : Int) < (a.length : Int) by omega), if_pos (show (0 : Int) ≤ (i : Int) by omega), if_pos (show (i : Int) < (b.length : Int) by omega)]
    rw [rd44 (show i < a.length by omega), rd44 (show i < b.length by omega), wrap_succ (by omega), List.drop_eq_getElem_cons (show i < a.length by omega), List.drop_eq_getElem_cons (show i < b.length by omega)]
    have := ih (i + 1) (by omega)
    simp only [sameB]
    cases hn : neE a[i] b[i] with
    | true =>
      unfold neE at hn
      simp only [hn, if_true]
      exact Ev.const rfl
    | false =>
      unfold neE at hn
      simp only [hn, if_neg (show ¬ (false = true) by decide)]
      exact Ev.val this (by simp)
theorem same_f (a b : List S44) (hl : a.length ≤ 3518437208881) : Ev (fun k => tidelinelaw09_same.f k a b) (sameB a b) := by
  refine Ev.congr (fun k => by rw [tidelinelaw09_same.f]) ?_
  by_cases he : a.length = b.length
  · simp only [if_pos (show (a.length : Int) = (b.length : Int) by omega)]
    have := same_loop a b he hl a.length 0 (Nat.zero_add _)
    simpa using this
  · simp only [if_neg (show ¬ (a.length : Int) = (b.length : Int) by omega)]
    exact Ev.const (by rw [sameB_length he])
end
section
theorem bey_loop (L : List (List S44)) (hL : L.length ≤ 1000) (hlen : ∀ l ∈ L, l.length ≤ 2513169434843) (d : Nat) : ∀ (i : Nat) (n : Int), i + d = L.length → 0 ≤ n → n ≤ 4294967296 →
    ∃ b, Ev (fun k => tidelinelaw09_beyond.l0 k L n (i : Int)) b ∧ (b = false → n + (((L.drop i).map List.length).sum : Nat) ≤ 1073741824) := by
  induction d with
  | zero =>
    intro i n hd h0 h1
    refine ⟨decide (n > 1073741824), Ev.step (fun k => by rw [tidelinelaw09_beyond.l0]) ?_, fun h => ?_⟩
    · simp only [if_neg (show ¬ (i : Int) < (L.length : Int) by omega)]; exact Ev.const rfl
    · rw [List.drop_of_length_le (by omega)]
      have := of_decide_eq_false h
      simp; omega
  | succ d ih =>
    intro i n hd h0 h1
    have hi : i < L.length := by omega
    have hr : rd_L5 L (i : Int) = L[i] := by
      unfold rd_L5; rw [Int.toNat_natCast, List.getD_eq_getElem?_getD, List.getElem?_eq_getElem hi]; rfl
    have hli := hlen L[i] (List.getElem_mem hi)
    have hs : ((L.drop i).map List.length).sum = L[i].length + ((L.drop (i + 1)).map List.length).sum := by
      rw [List.drop_eq_getElem_cons hi, List.map_cons, List.sum_cons]
    have inner : ∀ (e j : Nat) (n : Int), j + e = L[i].length → 0 ≤ n → n ≤ 4294967296 → ∃ b, Ev (fun k => tidelinelaw09_beyond.l1 k L n (i : Int) (j : Int)) b ∧ (b = false → n + ((e + ((L.drop (i + 1)).map List.length).sum : Nat) : Int) ≤ 1073741824) := by
      intro e
      induction e with
      | zero =>
        intro j n he h0 h1
        obtain ⟨b, hb, hb'⟩ := ih (i + 1) n (by omega) h0 h1
        refine ⟨b, Ev.step (fun k => by rw [tidelinelaw09_beyond.l1]) ?_, fun h => by have := hb' h; simpa using this⟩
        simp only [hr, if_pos (show (0 : Int) ≤ (i : Int) by omega), if_pos (show (i : Int) < (L.length : Int) by omega), if_neg (show ¬ (j : Int) < (L[i].length : Int) by omega)]
        rw [wrap_succ (by omega)]
        exact hb
      | succ e ihe =>
        intro j n he h0 h1
        by_cases hn : n ≤ 1073741824
        · have m1 : 0 ≤ mn ((L[i][j]'(by omega)).f0.size : Int) 1073741824 ∧ mn ((L[i][j]'(by omega)).f0.size : Int) 1073741824 ≤ 1073741824 := by unfold mn; split <;> omega
          have m2 : 0 ≤ mn ((L[i][j]'(by omega)).f2.size : Int) 1073741824 ∧ mn ((L[i][j]'(by omega)).f2.size : Int) 1073741824 ≤ 1073741824 := by unfold mn; split <;> omega
          obtain ⟨b, hb, hb'⟩ := ihe (j + 1) (n + ((1 + mn ((L[i][j]'(by omega)).f0.size : Int) 1073741824) + mn ((L[i][j]'(by omega)).f2.size : Int) 1073741824)) (by omega) (by omega) (by omega)
          refine ⟨b, Ev.step (fun k => by rw [tidelinelaw09_beyond.l1]) ?_, fun h => by have := hb' h; omega⟩
          simp only [hr, if_pos (show (0 : Int) ≤ (i : Int) by omega), if_pos (show (i : Int) < (L.length : Int) by omega), if_pos (show (j : Int) < (L[i].length : Int) by omega), if_pos hn, if_pos (show (0 : Int) ≤ (j : Int) by omega)]
          rw [rd44 (show j < L[i].length by omega), wrap_succ (show j ≤ 9223372036854775806 by omega), wrap_id (by omega) (by omega)]
          exact hb
        · obtain ⟨b, hb, hb'⟩ := ih (i + 1) n (by omega) h0 h1
          refine ⟨b, Ev.step (fun k => by rw [tidelinelaw09_beyond.l1]) ?_, fun h => by have := hb' h; omega⟩
          simp only [hr, if_pos (show (0 : Int) ≤ (i : Int) by omega), if_pos (show (i : Int) < (L.length : Int) by omega), if_pos (show (j : Int) < (L[i].length : Int) by omega), if_neg hn]
          rw [wrap_succ (by omega)]
          exact hb
    obtain ⟨b, hb, hb'⟩ := inner L[i].length 0 n (by omega) h0 h1
    refine ⟨b, Ev.step (fun k => by rw [tidelinelaw09_beyond.l0]) ?_, fun h => by rw [hs]; exact hb' h⟩
    simp only [if_pos (show (i : Int) < (L.length : Int) by omega)]
    exact hb
theorem bey_f (L : List (List S44)) (hL : L.length ≤ 1000) (hlen : ∀ l ∈ L, l.length ≤ 2513169434843) : ∃ b, Ev (fun k => tidelinelaw09_beyond.f k L) b ∧ (b = false → (L.map List.length).sum ≤ 1073741824) := by
  obtain ⟨b, hb, hb'⟩ := bey_loop L hL hlen L.length 0 0 (by omega) (by omega) (by omega)
  refine ⟨b, Ev.congr (fun k => by rw [tidelinelaw09_beyond.f]; rfl) hb, fun h => ?_⟩
  have := hb' h
  rw [List.drop_zero] at this
  omega
end
section
theorem spoil_grow (d : Nat) : ∀ (i : Nat) (l : List S44), i + d = 12 → l.length + d ≤ 2513169434916 → Ev (fun k => tidelinelaw09_spoil.l1 k l (i : Int)) () := by
  induction d with
  | zero =>
    intro i l hd hl
    refine Ev.step (fun k => by rw [tidelinelaw09_spoil.l1]) ?_
    simp only [if_neg (show ¬ (i : Int) < 12 by omega)]
    exact Ev.const rfl
  | succ d ih =>
    intro i l hd hl
    refine Ev.step (fun k => by rw [tidelinelaw09_spoil.l1]) ?_
    simp only [if_pos (show (i : Int) < 12 by omega), if_pos (show l.length < 2513169434916 by omega)]
    rw [wrap_succ (by omega)]
    exact ih (i + 1) _ (by omega) (by simp; omega)
theorem spoil_turn (n : Nat) (hn : n + 12 ≤ 2513169434916) (d : Nat) : ∀ (i : Nat) (l : List S44), l.length = n → i + d = n → Ev (fun k => tidelinelaw09_spoil.l0 k l (i : Int)) () := by
  induction d with
  | zero =>
    intro i l hl hd
    refine Ev.step (fun k => by rw [tidelinelaw09_spoil.l0]) ?_
    simp only [if_neg (show ¬ (i : Int) < (l.length : Int) by omega)]
    exact spoil_grow 12 0 l rfl (by omega)
  | succ d ih =>
    intro i l hl hd
    refine Ev.step (fun k => by rw [tidelinelaw09_spoil.l0]) ?_
    simp only [if_pos (show (i : Int) < (l.length : Int) by omega), if_pos (show (0 : Int) ≤ (i : Int) by omega)]
    rw [wrap_succ (by omega)]
    exact ih (i + 1) _ (by simp; omega) (by omega)
theorem spoil_f (l : List S44) (hl : l.length + 12 ≤ 2513169434916) : Ev (fun k => tidelinelaw09_spoil.f k l) () :=
  Ev.congr (fun k => by rw [tidelinelaw09_spoil.f]; rfl) (spoil_turn l.length hl l.length 0 l rfl (Nat.zero_add _))
end
open Go.Proofs.Ytghlellambnkeaa.MergeW
theorem pair_same : pairT = pairS := rfl
theorem MergeBoth : tidelinelaw09_MergeBoth.Pure := by
  intro a b stop fa fb _
  have la : a.length ≤ 2513169434843 := by have := fa.1; omega
  have lb : b.length ≤ 2513169434843 := by have := fb.1; omega
  refine Ev.rounds ?_
  refine Ev.congr (fun k => by rw [tidelinelaw09_MergeBoth.f]) ?_
  obtain ⟨bb, hbb, hlim⟩ := bey_f [a, b] (by simp) (by intro l hl; simp at hl; rcases hl with rfl | rfl <;> assumption)
  refine Ev.bind hbb ?_
  cases bb with
  | true => simp only [if_true]; exact Ev.const rfl
  | false =>
    have hs := hlim rfl
    simp only [List.map_cons, List.map_nil, List.sum_cons, List.sum_nil] at hs
    have h : a.length + b.length ≤ 1256584717457 := by omega
    simp only [if_neg (show ¬ (false = true) by decide)]
    refine Ev.bind (pairs_ref a b h) (Ev.bind (chk2_f a b la lb) ?_)
    refine Ev.bind (same_f a a (by omega)) (Ev.bind (same_f b b (by omega)) ?_)
    refine Ev.bind (spoil_f a (by omega)) (Ev.bind (spoil_f b (by omega)) ?_)
    refine Ev.const (if_pos ⟨la, lb, sameB_iff.2 rfl, sameB_iff.2 rfl, ?_⟩)
    rw [pair_same]
    by_cases hc : chk2 a b = 0
    · rw [if_pos hc, if_pos hc]
    · rw [if_neg hc, if_neg hc]; rfl
end Go.Proofs.Ytghlellambnkeaa.Pure
