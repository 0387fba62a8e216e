/- For every list of ranges and every range the law SpanTiles answers true: Rising and Tile of any lists are the document's, and these stay. It has no condition but the form's own reach. -/
import Derived.Test.YtgdhgamolenfgaaPAllx0
import Derived.Test.YtgdhgamolenfgaaPAllx5
import Derived.Test.YtgdhgamolenfgaaPAllx7
import Derived.Test.YtgdhgamolenfgaaPAllx8
import Derived.Test.YtgdhgamolenfgaaPAllx9
import Derived.Test.YtgdhgamolenfgaaQSpanTiles
import Derived.Test.YtgdhgamolenfgaaSEv
import Derived.Test.YtgdhgamolenfgaaSLists
import Derived.Test.YtgdhgamolenfgaaSShown02
import Derived.Test.YtgdhgamolenfgaaSSpanE
import Derived.Test.YtgdhgamolenfgaaSSpanR
import Derived.Test.YtgdhgamolenfgaaSEmpties
import Derived.Test.YtgdhgamolenfgaaSEmptiesR
import Derived.Test.YtgdhgamolenfgaaSTiles
import Derived.Test.YtgdhgamolenfgaaSStr
set_option linter.unusedVariables false
set_option linter.unusedSimpArgs false
namespace Go.Proofs.Ytgdhgamolenfgaa.Pure
open Go.RowKit Go.Proofs.Ytgdhgamolenfgaa.PAll Go.Proofs.YtgdhgamolenfgaaW.PrintWords Go.Proofs.YtgdhgamolenfgaaW.PrintLast Go.Proofs.YtgdhgamolenfgaaW.PrintMore
open Go.Proofs.Ytgdhgamolenfgaa.Str Go.Proofs.Ytgdhgamolenfgaa.Tiles
theorem nxt_drop {l : List S23} (j : Nat) (h : j + 1 < l.length) : (nxt l).drop j = (l[j], l[j+1]) :: (nxt l).drop (j + 1) := by
  have hj : j < (nxt l).length := by rw [nxt_length]; omega
  rw [List.drop_eq_getElem_cons hj]
  congr 1
  simp [nxt, Nat.add_comm]
theorem ris_loop (l : List S23) (hl : l.length ≤ 3518437208881) (d : Nat) : ∀ i : Nat, i + d = l.length →
    Ev (fun k => tidelineref02_Rising.l0 k l l (l.length : Int) (i : Int)) ((l.drop i).all (fun r => !empK r.f0 r.f1 r.f2) && riseB ((nxt l).drop (i - 1))) := by
  induction d with
  | zero =>
    intro i hd
    refine Ev.step (fun k => by rw [tidelineref02_Rising.l0]) ?_
    simp only [if_neg (show ¬ (i : Int) < (l.length : Int) by omega)]
    rw [List.drop_of_length_le (by omega), List.drop_of_length_le (by rw [nxt_length]; omega)]
    exact Ev.const rfl
  | succ d ih =>
    intro i hd
    refine Ev.step (fun k => by rw [tidelineref02_Rising.l0]) ?_
    simp only [if_pos (show (i : Int) < (l.length : Int) by omega), if_pos (show (0 : Int) ≤ (i : Int) by omega)]
    rw [rd_get (show i < l.length by omega), List.drop_eq_getElem_cons (show i < l.length by omega), wrap_succ (by omega)]
    refine Ev.bind (emp_ref _ _ _) ?_
    rw [List.all_cons]
    cases he : empK l[i].f0 l[i].f1 l[i].f2 with
    | true => simp only [if_true]; exact Ev.const rfl
    | false =>
      simp only [if_neg (show ¬ (false = true) by decide), Bool.not_false, Bool.true_and]
      have := ih (i + 1) (by omega)
      cases i with
      | zero => simp only [if_neg (show ¬ (((0 : Nat) : Int) > 0) by decide)]; exact this
      | succ j =>
        have e1 : wrap64 (((j + 1 : Nat) : Int) - 1) = (j : Int) := by rw [wrap_id (by omega) (by omega)]; omega
        simp only [e1, if_pos (show (((j + 1 : Nat) : Int) > 0) by omega), if_pos (show (0 : Int) ≤ (j : Int) by omega), if_pos (show (j : Int) < (l.length : Int) by omega)]
        rw [rd_get (show j < l.length by omega)]
        simp only [Nat.add_sub_cancel] at this ⊢
        rw [nxt_drop j (by omega)]
        unfold riseB at this ⊢
        rw [List.all_cons]
        cases ho : l[j].f2 with
        | true => simp only [if_true]; exact Ev.const (by simp [ho])
        | false =>
          cases hb : Op.bytesLess l[j+1].f0.toList l[j].f1.toList with
          | true => simp only [if_true, if_neg (show ¬ (false = true) by decide)]; exact Ev.const (by simp [hb])
          | false =>
            simp only [if_neg (show ¬ (false = true) by decide)]
            exact Ev.val this (by simp [hb, ho])
theorem ris_ref (l : List S23) (hl : l.length ≤ 3518437208881) : Ev (fun k => tidelineref02_Rising.f k l) (risB l) := by
  refine Ev.congr (fun k => by rw [tidelineref02_Rising.f]) ?_
  exact ris_loop l hl l.length 0 (Nat.zero_add _)
theorem til_loop (l : List S23) (hl : l.length ≤ 3518437208881) (lo hi : ByteArray) (op : Bool) (d : Nat) : ∀ i : Nat, i + 1 + d = l.length →
    Ev (fun k => tidelineref02_Tile.l0 k l ((i + 1 : Nat) : Int) lo hi op) (fitB ((nxt l).drop i) && (((rd_T23 l ((l.length - 1 : Nat) : Int)).f2 == op) && (op || ((rd_T23 l ((l.length - 1 : Nat) : Int)).f1.toList == hi.toList)))) := by
  induction d with
  | zero =>
    intro i hd
    refine Ev.step (fun k => by rw [tidelineref02_Tile.l0]) ?_
    have e1 : wrap64 ((l.length : Int) - 1) = ((l.length - 1 : Nat) : Int) := by rw [wrap_id (by omega) (by omega)]; omega
    simp only [e1, if_neg (show ¬ ((i + 1 : Nat) : Int) < (l.length : Int) by omega), if_pos (show (0 : Int) ≤ ((l.length - 1 : Nat) : Int) by omega), if_pos (show ((l.length - 1 : Nat) : Int) < (l.length : Int) by omega)]
    rw [List.drop_of_length_le (by rw [nxt_length]; omega)]
    refine Ev.const ?_
    have : fitB [] = true := rfl
    rw [this, Bool.true_and]
    cases h1 : ((rd_T23 l ((l.length - 1 : Nat) : Int)).f2 == op) with
    | false => simp
    | true => cases op <;> simp
  | succ d ih =>
    intro i hd
    refine Ev.step (fun k => by rw [tidelineref02_Tile.l0]) ?_
    have e1 : wrap64 (((i + 1 : Nat) : Int) - 1) = (i : Int) := by rw [wrap_id (by omega) (by omega)]; omega
    simp only [e1, if_pos (show ((i + 1 : Nat) : Int) < (l.length : Int) by omega), if_pos (show (0 : Int) ≤ ((i + 1 : Nat) : Int) by omega), if_pos (show (0 : Int) ≤ (i : Int) by omega), if_pos (show (i : Int) < (l.length : Int) by omega)]
    rw [rd_get (show i < l.length by omega), rd_get (show i + 1 < l.length by omega), wrap_succ (by omega), nxt_drop i (by omega)]
    have := ih (i + 1) (by omega)
    unfold fitB at this ⊢
    rw [List.all_cons]
    by_cases h : l[i+1].f0.toList = l[i].f1.toList
    · simp only [if_pos h]
      exact Ev.val this (by simp [h])
    · simp only [if_neg h]
      refine Ev.const ?_
      have h' : (l[i].f1.toList != l[i+1].f0.toList) = true := by simp; exact fun e => h e.symm
      simp [h']
theorem til_ref (l : List S23) (hl : l.length ≤ 3518437208881) (lo hi : ByteArray) (op : Bool) : Ev (fun k => tidelineref02_Tile.f k l lo hi op) (tilB l lo hi op) := by
  refine Ev.congr (fun k => by rw [tidelineref02_Tile.f]) ?_
  by_cases h0 : l.length = 0
  · simp only [if_pos (show (l.length : Int) = 0 by omega)]
    refine Ev.step (fun k => by rw [tidelineref02_Tile.j0]) ?_
    simp only [if_true]
    refine Ev.const ?_
    unfold tilB; rw [decide_eq_false (show ¬ 0 < l.length by omega)]; rfl
  · simp only [if_neg (show ¬ (l.length : Int) = 0 by omega)]
    refine Ev.bind (ris_ref l hl) ?_
    unfold tilB
    rw [decide_eq_true (show 0 < l.length by omega), Bool.true_and]
    cases hr : risB l with
    | false =>
      simp only [if_neg (show ¬ (false = true) by decide)]
      refine Ev.step (fun k => by rw [tidelineref02_Tile.j0]) ?_
      simp only [if_true]
      exact Ev.const rfl
    | true =>
      simp only [if_true, if_pos (show (0 : Int) < (l.length : Int) by omega), Bool.true_and]
      refine Ev.step (fun k => by rw [tidelineref02_Tile.j0]) ?_
      cases hlo : ((rd_T23 l 0).f0.toList == lo.toList) with
      | false =>
        have : ((rd_T23 l 0).f0.toList != lo.toList) = true := by simp only [bne, hlo, Bool.not_false]
        simp only [this, if_true]
        exact Ev.const (by simp)
      | true =>
        have : ((rd_T23 l 0).f0.toList != lo.toList) = false := by simp only [bne, hlo, Bool.not_true]
        simp only [this, if_neg (show ¬ (false = true) by decide), Bool.true_and]
        have := til_loop l hl lo hi op (l.length - 1) 0 (by omega)
        simpa using this
theorem ranges_loop (l : List S23) (hl : l.length ≤ 3518437208881) (d : Nat) : ∀ i : Nat, i + d = l.length →
    Ev (fun k => tidelinelaw02_ranges.l0 k l l (l.length : Int) (i : Int)) true := by
  induction d with
  | zero =>
    intro i hd
    refine Ev.step (fun k => by rw [tidelinelaw02_ranges.l0]) ?_
    simp only [if_neg (show ¬ (i : Int) < (l.length : Int) by omega)]
    exact Ev.const rfl
  | succ d ih =>
    intro i hd
    refine Ev.step (fun k => by rw [tidelinelaw02_ranges.l0]) ?_
    simp only [if_pos (show (i : Int) < (l.length : Int) by omega), if_pos (show (0 : Int) ≤ (i : Int) by omega), beq_self_eq_true, Bool.not_true, Bool.or_self, if_neg (show ¬ (false = true) by decide)]
    rw [wrap_succ (by omega)]
    exact ih (i + 1) (by omega)
theorem SpanTiles : tidelinelaw02_SpanTiles.Pure := by
  intro l lo hi op hfit _
  refine Ev.rounds ?_
  refine Ev.congr (fun k => by rw [tidelinelaw02_SpanTiles.f]) ?_
  have hl : l.length ≤ 3518437208881 := by have := hfit.1; omega
  refine Ev.bind shown_f ?_
  simp only [if_true, List.nil_append, List.length_nil, Nat.zero_add, if_pos (show l.length < 3518437208883 by omega)]
  refine Ev.bind (Ev.const rfl) ?_
  refine Ev.bind (Ev.const (v := span_Rising.f l) rfl) ?_
  refine Ev.bind (ris_ref l hl) ?_
  simp only [beq_self_eq_true, if_true]
  refine Ev.bind (Ev.const (v := span_Tile.f l lo hi op) rfl) ?_
  refine Ev.bind (til_ref l hl lo hi op) ?_
  simp only [beq_self_eq_true, if_true]
  refine Ev.bind ?_ (Ev.const rfl)
  refine Ev.congr (fun k => by rw [tidelinelaw02_ranges.f]) ?_
  simp only [if_true]
  exact ranges_loop l hl l.length 0 (Nat.zero_add _)
end Go.Proofs.Ytgdhgamolenfgaa.Pure
