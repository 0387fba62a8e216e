import Derived.Test.YtgdhgamolenfgaaPAllx0
import Derived.Test.YtgdhgamolenfgaaSEv
import Derived.Test.YtgdhgamolenfgaaSLists
import Derived.Test.YtgdhgamolenfgaaSStr
set_option linter.unusedVariables false
set_option linter.unusedSimpArgs false
namespace Go.Proofs.Ytgdhgamolenfgaa.Pure
open Go.RowKit Go.Proofs.Ytgdhgamolenfgaa.PAll Go.Proofs.YtgdhgamolenfgaaW.PrintWords Go.Proofs.YtgdhgamolenfgaaW.PrintLast Go.Proofs.YtgdhgamolenfgaaW.PrintMore
open Go.Proofs.Ytgdhgamolenfgaa.Str
/-- How many of some texts stand below one. -/
def rk (S : List (List UInt8)) (x : List UInt8) : Nat := S.countP (fun y => Op.bytesLess y x)
theorem countP_lt {α : Type} (p q : α → Bool) (h : ∀ a, p a = true → q a = true) {x : α} (hp : p x = false) (hq : q x = true) : ∀ l : List α, x ∈ l → l.countP p < l.countP q
  | [], hx => by simp at hx
  | a :: l, hx => by
    have hle : l.countP p ≤ l.countP q := List.countP_mono_left (fun a _ => h a)
    rw [List.countP_cons, List.countP_cons]
    rcases List.mem_cons.1 hx with rfl | hx
    · simp [hp, hq]; omega
    · have := countP_lt p q h hp hq l hx
      by_cases ha : p a = true
      · simp [ha, h a ha]; omega
      · simp [ha]; split <;> omega
theorem rk_lt {S : List (List UInt8)} {x y : List UInt8} (hx : x ∈ S) (h : Op.bytesLess x y = true) : rk S x < rk S y :=
  countP_lt (fun z => Op.bytesLess z x) (fun z => Op.bytesLess z y) (fun _ ha => less_trans ha h) (less_irrefl x) h S hx
theorem rk_less {S : List (List UInt8)} {x y : List UInt8} (hx : x ∈ S) (hy : y ∈ S) : Op.bytesLess x y = decide (rk S x < rk S y) := by
  cases h : Op.bytesLess x y with
  | true => rw [decide_eq_true (rk_lt hx h)]
  | false =>
    rcases less_false h with rfl | h
    · rw [decide_eq_false (by omega)]
    · have := rk_lt hy h; rw [decide_eq_false (by omega)]
theorem rk_beq {S : List (List UInt8)} {x y : List UInt8} (hx : x ∈ S) (hy : y ∈ S) : (x == y) = decide (rk S x = rk S y) := by
  by_cases h : x = y
  · subst h; simp
  · have e : (x == y) = false := by simpa using h
    rw [e, eq_comm, decide_eq_false_iff_not]
    intro hr
    cases hl : Op.bytesLess x y with
    | true => have := rk_lt hx hl; omega
    | false =>
      rcases less_false hl with h2 | h2
      · exact h h2
      · have := rk_lt hy h2; omega
end Go.Proofs.Ytgdhgamolenfgaa.Pure
