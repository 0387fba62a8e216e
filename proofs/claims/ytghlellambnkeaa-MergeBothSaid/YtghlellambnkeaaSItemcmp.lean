import Derived.Test.YtghlellambnkeaaPAllx0
import Derived.Test.YtghlellambnkeaaPAllx7
import Derived.Test.YtghlellambnkeaaSEv
set_option linter.unusedVariables false
set_option linter.unusedSimpArgs false
namespace Go.Proofs.Ytghlellambnkeaa.Pure
open Go.RowKit Go.Proofs.Ytghlellambnkeaa.PAll Go.Proofs.YtghlellambnkeaaW.PrintWords Go.Proofs.YtghlellambnkeaaW.PrintLast Go.Proofs.YtghlellambnkeaaW.PrintMore
def cmpI (a b : Int) : Int := if a < b then -1 else if a > b then 1 else 0
/-- Which version is the newer one. -/
def cmpv (a0 a1 b0 b1 : Int) : Int := if cmpI a0 b0 = 0 then cmpI a1 b1 else cmpI a0 b0
theorem cmpI_f (a b : Int) : cmp_Compare_int.f a b = some (cmpI a b) := by
  unfold cmp_Compare_int.f cmp_isNaN_int.f cmpI
  simp only [bne_self_eq_false, Option.bind_some, if_neg (show ¬ (false = true) by decide)]
  by_cases h : a < b
  · rw [if_pos h, if_pos h]
  · rw [if_neg h, if_neg h]
    by_cases h2 : a > b
    · rw [if_pos h2, if_pos h2]
    · rw [if_neg h2, if_neg h2]
theorem or_f (x y : Int) (k : Nat) : cmp_Or_int.f (k + 3) [x, y] = some (if x = 0 then y else x) := by
  have w1 : wrap64 ((0 : Int) + 1) = 1 := wrap_id (by omega) (by omega)
  have w2 : wrap64 ((1 : Int) + 1) = 2 := wrap_id (by omega) (by omega)
  unfold cmp_Or_int.f
  rw [cmp_Or_int.l0]
  simp only [List.length_cons, List.length_nil, if_pos (show (0 : Int) < ((0 + 1 + 1 : Nat) : Int) by decide), if_pos (show (0 : Int) ≤ 0 by decide), show rd [x, y] 0 = x from rfl]
  by_cases h : x = 0
  · rw [if_pos h, if_pos h, w1, cmp_Or_int.l0]
    simp only [if_pos (show (1 : Int) < ((0 + 1 + 1 : Nat) : Int) by decide), if_pos (show (0 : Int) ≤ 1 by decide), show rd [x, y] 1 = y from rfl, List.length_cons, List.length_nil]
    by_cases h2 : y = 0
    · rw [if_pos h2, w2, cmp_Or_int.l0, if_neg (by decide), h2]
    · rw [if_neg h2]
  · rw [if_neg h, if_neg h]
theorem cmpv_f (a0 a1 b0 b1 : Int) : Ev (fun k => item_Compare.f k a0 a1 b0 b1) (cmpv a0 a1 b0 b1) := by
  refine ⟨3, fun k hk => ?_⟩
  obtain ⟨k, rfl⟩ : ∃ m, k = m + 3 := ⟨k - 3, by omega⟩
  show item_Compare.f (k + 3) a0 a1 b0 b1 = _
  unfold item_Compare.f
  rw [cmpI_f, cmpI_f, Option.bind_some, Option.bind_some, or_f]
  rfl
theorem cmpv_cases (a0 a1 b0 b1 : Int) : (cmpv a0 a1 b0 b1 = 1 ∧ (b0 < a0 ∨ a0 = b0 ∧ b1 < a1)) ∨ (cmpv a0 a1 b0 b1 = -1 ∧ (a0 < b0 ∨ a0 = b0 ∧ a1 < b1)) ∨ (cmpv a0 a1 b0 b1 = 0 ∧ a0 = b0 ∧ a1 = b1) := by
  unfold cmpv cmpI
  rcases Int.lt_trichotomy a0 b0 with h | h | h
  · simp [h]
  · subst h
    rcases Int.lt_trichotomy a1 b1 with h | h | h
    · simp [h]
    · subst h; simp
    · simp [h, show ¬ a1 < b1 by omega]
  · simp [h, show ¬ a0 < b0 by omega]
end Go.Proofs.Ytghlellambnkeaa.Pure
