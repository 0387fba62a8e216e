import Derived.Test.YtghlellambnkeaaPAllx0
import Derived.Test.YtghlellambnkeaaPAllx3
import Derived.Test.YtghlellambnkeaaSEv
import Derived.Test.YtghlellambnkeaaSLists
import Derived.Test.YtghlellambnkeaaSChk09
set_option linter.unusedVariables false
set_option linter.unusedSimpArgs false
namespace Go.Proofs.Ytghlellambnkeaa.Pure
open Go.RowKit Go.Proofs.Ytghlellambnkeaa.PAll Go.Proofs.YtghlellambnkeaaW.PrintWords Go.Proofs.YtghlellambnkeaaW.PrintLast Go.Proofs.YtghlellambnkeaaW.PrintMore
theorem bey_loop (L : List (List S44)) (hL : L.length ≤ 1000) (hlen : ∀ l ∈ L, l.length ≤ 2513169434843) (d : Nat) : ∀ (i : Nat) (n : Int), i + d = L.length → 0 ≤ n → n ≤ 4294967296 →
    ∃ b, Ev (fun k => tidelinelaw09_beyond.l0 k L n (i : Int)) b ∧ (b = false → n + (((L.drop i).map List.length).sum : Nat) ≤ 1073741824) := by
  induction d with
  | zero =>
    intro i n hd h0 h1
    refine ⟨decide (n > 1073741824), Ev.step (fun k => by rw [tidelinelaw09_beyond.l0]) ?_, fun h => ?_⟩
    · simp only [if_neg (show ¬ (i : Int) < (L.length : Int) by omega)]; exact Ev.const rfl
    · rw [List.drop_of_length_le (by omega)]
      have := of_decide_eq_false h
      simp; omega
  | succ d ih =>
    intro i n hd h0 h1
    have hi : i < L.length := by omega
    have hr : rd_L5 L (i : Int) = L[i] := by
      unfold rd_L5; rw [Int.toNat_natCast, List.getD_eq_getElem?_getD, List.getElem?_eq_getElem hi]; rfl
    have hli := hlen L[i] (List.getElem_mem hi)
    have hs : ((L.drop i).map List.length).sum = L[i].length + ((L.drop (i + 1)).map List.length).sum := by
      rw [List.drop_eq_getElem_cons hi, List.map_cons, List.sum_cons]
    have inner : ∀ (e j : Nat) (n : Int), j + e = L[i].length → 0 ≤ n → n ≤ 4294967296 → ∃ b, Ev (fun k => tidelinelaw09_beyond.l1 k L n (i : Int) (j : Int)) b ∧ (b = false → n + ((e + ((L.drop (i + 1)).map List.length).sum : Nat) : Int) ≤ 1073741824) := by
      intro e
      induction e with
      | zero =>
        intro j n he h0 h1
        obtain ⟨b, hb, hb'⟩ := ih (i + 1) n (by omega) h0 h1
        refine ⟨b, Ev.step (fun k => by rw [tidelinelaw09_beyond.l1]) ?_, fun h => by have := hb' h; simpa using this⟩
        simp only [hr, if_pos (show (0 : Int) ≤ (i : Int) by omega), if_pos (show (i : Int) < (L.length : Int) by omega), if_neg (show ¬ (j : Int) < (L[i].length : Int) by omega)]
        rw [wrap_succ (by omega)]
        exact hb
      | succ e ihe =>
        intro j n he h0 h1
        by_cases hn : n ≤ 1073741824
        · have m1 : 0 ≤ mn ((L[i][j]'(by omega)).f0.size : Int) 1073741824 ∧ mn ((L[i][j]'(by omega)).f0.size : Int) 1073741824 ≤ 1073741824 := by unfold mn; split <;> omega
          have m2 : 0 ≤ mn ((L[i][j]'(by omega)).f2.size : Int) 1073741824 ∧ mn ((L[i][j]'(by omega)).f2.size : Int) 1073741824 ≤ 1073741824 := by unfold mn; split <;> omega
          obtain ⟨b, hb, hb'⟩ := ihe (j + 1) (n + ((1 + mn ((L[i][j]'(by omega)).f0.size : Int) 1073741824) + mn ((L[i][j]'(by omega)).f2.size : Int) 1073741824)) (by omega) (by omega) (by omega)
          refine ⟨b, Ev.step (fun k => by rw [tidelinelaw09_beyond.l1]) ?_, fun h => by have := hb' h; omega⟩
          simp only [hr, if_pos (show (0 : Int) ≤ (i : Int) by omega), if_pos (show (i : Int) < (L.length : Int) by omega), if_pos (show (j : Int) < (L[i].length : Int) by omega), if_pos hn, if_pos (show (0 : Int) ≤ (j : Int) by omega)]
          rw [rd44 (show j < L[i].length by omega), wrap_succ (show j ≤ 9223372036854775806 by omega), wrap_id (by omega) (by omega)]
          exact hb
        · obtain ⟨b, hb, hb'⟩ := ih (i + 1) n (by omega) h0 h1
          refine ⟨b, Ev.step (fun k => by rw [tidelinelaw09_beyond.l1]) ?_, fun h => by have := hb' h; omega⟩
          simp only [hr, if_pos (show (0 : Int) ≤ (i : Int) by omega), if_pos (show (i : Int) < (L.length : Int) by omega), if_pos (show (j : Int) < (L[i].length : Int) by omega), if_neg hn]
          rw [wrap_succ (by omega)]
          exact hb
    obtain ⟨b, hb, hb'⟩ := inner L[i].length 0 n (by omega) h0 h1
    refine ⟨b, Ev.step (fun k => by rw [tidelinelaw09_beyond.l0]) ?_, fun h => by rw [hs]; exact hb' h⟩
    simp only [if_pos (show (i : Int) < (L.length : Int) by omega)]
    exact hb
theorem bey_f (L : List (List S44)) (hL : L.length ≤ 1000) (hlen : ∀ l ∈ L, l.length ≤ 2513169434843) : ∃ b, Ev (fun k => tidelinelaw09_beyond.f k L) b ∧ (b = false → (L.map List.length).sum ≤ 1073741824) := by
  obtain ⟨b, hb, hb'⟩ := bey_loop L hL hlen L.length 0 0 (by omega) (by omega) (by omega)
  refine ⟨b, Ev.congr (fun k => by rw [tidelinelaw09_beyond.f]; rfl) hb, fun h => ?_⟩
  have := hb' h
  rw [List.drop_zero] at this
  omega
end Go.Proofs.Ytghlellambnkeaa.Pure
