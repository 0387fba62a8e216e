import Derived.Test.YtcfiobhebakhlabPAllx0
import Derived.Test.YtcfiobhebakhlabPAllx1
import Derived.Test.YtcfiobhebakhlabSEv
set_option linter.unusedVariables false
set_option linter.unusedSimpArgs false
namespace Go.Proofs.Ytcfiobhebakhlab.Pure
open Go.RowKit Go.Proofs.Ytcfiobhebakhlab.PAll Go.Proofs.YtcfiobhebakhlabW.PrintWords Go.Proofs.YtcfiobhebakhlabW.PrintLast Go.Proofs.YtcfiobhebakhlabW.PrintMore
/-! The bound of layer 01. -/
def stepsT (l : List S34) : Nat := (l.map (fun x => 1 + x.f2.size)).sum
theorem rd_step {l : List S34} {j : Nat} (h : j < l.length) : rd_T34 l (j : Int) = l[j] := by
  unfold rd_T34; rw [Int.toNat_natCast, List.getD_eq_getElem?_getD, List.getElem?_eq_getElem h]; rfl
theorem bey01_loop (L : List S34) (hL : L.length ≤ 2932031007402) (hlen : ∀ x ∈ L, x.f2.size ≤ 140737488355328) (d : Nat) : ∀ (i : Nat) (n : Int), i + d = L.length → 0 ≤ n → n ≤ 281474976710656 →
    ∃ b, Ev (fun k => tidelinelaw01_beyond.l0 k L n (i : Int)) b ∧ (b = false → n + (((L.drop i).map (fun x => x.f2.size)).sum : Nat) ≤ 2147483647) := by
  induction d with
  | zero =>
    intro i n hd h0 h1
    refine ⟨decide (n > 2147483647), Ev.step (fun k => by rw [tidelinelaw01_beyond.l0]) ?_, fun h => ?_⟩
    · simp only [if_neg (show ¬ (i : Int) < (L.length : Int) by omega)]; exact Ev.const rfl
    · rw [List.drop_of_length_le (by omega)]
      have := of_decide_eq_false h
      simp; omega
  | succ d ih =>
    intro i n hd h0 h1
    have hi : i < L.length := by omega
    have hli := hlen L[i] (List.getElem_mem hi)
    have hs : ((L.drop i).map (fun x => x.f2.size)).sum = L[i].f2.size + ((L.drop (i + 1)).map (fun x => x.f2.size)).sum := by
      rw [List.drop_eq_getElem_cons hi, List.map_cons, List.sum_cons]
    by_cases hn : n ≤ 2147483647
    · obtain ⟨b, hb, hb'⟩ := ih (i + 1) (n + (L[i].f2.size : Int)) (by omega) (by omega) (by omega)
      refine ⟨b, Ev.step (fun k => by rw [tidelinelaw01_beyond.l0]) ?_, fun h => by have := hb' h; rw [hs]; omega⟩
      simp only [if_pos (show (i : Int) < (L.length : Int) by omega), if_pos hn, if_pos (show (0 : Int) ≤ (i : Int) by omega)]
      rw [rd_step hi, wrap_succ (by omega), wrap_id (by omega) (by omega)]
      exact hb
    · refine ⟨decide (n > 2147483647), Ev.step (fun k => by rw [tidelinelaw01_beyond.l0]) ?_, fun h => ?_⟩
      · simp only [if_pos (show (i : Int) < (L.length : Int) by omega), if_neg hn]; exact Ev.const rfl
      · have := of_decide_eq_false h; omega
theorem bey01_f (L : List S34) (hL : L.length ≤ 2932031007402) (hlen : ∀ x ∈ L, x.f2.size ≤ 140737488355328) : ∃ b, Ev (fun k => tidelinelaw01_beyond.f k L) b ∧ (b = false → stepsT L ≤ 2147483647) := by
  obtain ⟨b, hb, hb'⟩ := bey01_loop L hL hlen L.length 0 (L.length : Int) (by omega) (by omega) (by omega)
  refine ⟨b, Ev.congr (fun k => by rw [tidelinelaw01_beyond.f]; rfl) hb, fun h => ?_⟩
  have := hb' h
  rw [List.drop_zero] at this
  have e : ∀ l : List S34, stepsT l = l.length + (l.map (fun x => x.f2.size)).sum := by
    intro l
    induction l with
    | nil => rfl
    | cons x l ih =>
      unfold stepsT at *
      simp only [List.map_cons, List.sum_cons, List.length_cons]
      omega
  rw [e]
  omega
end Go.Proofs.Ytcfiobhebakhlab.Pure
