import Derived.Test.YthalodnfecaccaaPAllx0
import Derived.Test.YthalodnfecaccaaSNumsP
set_option linter.unusedVariables false
set_option linter.unusedSimpArgs false
namespace Go.Proofs.Ythalodnfecaccaa.Pure
open Go.RowKit Go.Proofs.Ythalodnfecaccaa.PAll Go.Proofs.YthalodnfecaccaaW.PrintWords Go.Proofs.YthalodnfecaccaaW.PrintLast Go.Proofs.YthalodnfecaccaaW.PrintMore
/-! What the readers tell: plain lists. -/
def numR (most : Int) (l : List Int) (p : Nat) : Int × Nat × Int := numGo most 0 0 (l.drop p)
/-- Where the number ends; 0: there is none. -/
def numTo (most : Int) (l : List Int) (p : Nat) : Int := if (numR most l p).2.2 = 0 then ((p + (numR most l p).2.1 : Nat) : Int) else 0
theorem numTo_ok {most : Int} {l : List Int} {p m : Nat} {u : Int} (h : numR most l p = (u, m, 0)) : numTo most l p = ((p + m : Nat) : Int) := by unfold numTo; rw [h]; rfl
theorem numTo_bad {most : Int} {l : List Int} {p m : Nat} {u e : Int} (he : e ≠ 0) (h : numR most l p = (u, m, e)) : numTo most l p = 0 := by unfold numTo; rw [h]; exact if_neg he
def rNum (most : Int) (l : List Int) (p : Nat) (e : Int) : Int × Nat × Int := if e = 0 then ((numR most l p).1, p + (numR most l p).2.1, (numR most l p).2.2) else (0, p, e)
def rText (most : Int) (l : List Int) (p : Nat) (e : Int) : ByteArray × Nat × Int :=
  if e = 0 then
    if (numR most l p).2.2 = 0 then
      if (l.length : Int) - ((p + (numR most l p).2.1 : Nat) : Int) < (numR most l p).1 then (⟨#[]⟩, p, 10)
      else (strOfNums ((l.take (p + (numR most l p).2.1 + (numR most l p).1.toNat)).drop (p + (numR most l p).2.1)), p + (numR most l p).2.1 + (numR most l p).1.toNat, 0)
    else (⟨#[]⟩, p, (numR most l p).2.2)
  else (⟨#[]⟩, p, e)
def wordV (l : List Int) : Int := l.foldl (fun u c => u * 256 + c) 0
def rWord (l : List Int) (p : Nat) (e : Int) : Int × Nat × Int := if e = 0 then (if l.length < p + 8 then (0, p, 10) else (wordV ((l.drop p).take 8), p + 8, 0)) else (0, p, e)
def rFlag (l : List Int) (p : Nat) (e : Int) : Bool × Nat × Int := if e = 0 then (if l.length ≤ p then (false, p, 10) else if 1 < l.getD p 0 then (false, p, 11) else (decide (l.getD p 0 = 1), p + 1, 0)) else (false, p, e)
def rDone (l : List Int) (p : Nat) (e : Int) : Int := if e = 0 ∧ p < l.length then 13 else e
def rFail (e x : Int) : Int := if e = 0 then x else e
theorem numGo_bounds (most : Int) (l : List Int) : ∀ (k : Nat) (acc : Int), (∀ c ∈ l, 0 ≤ c ∧ c < 256) → k ≤ 8 → 0 ≤ acc → acc < 128 ^ k →
    0 ≤ (numGo most k acc l).1 ∧ (numGo most k acc l).1 < 9223372036854775808 ∧ (numGo most k acc l).2.1 ≤ k + l.length ∧ ((numGo most k acc l).2.2 = 0 → k < (numGo most k acc l).2.1 ∧ (numGo most k acc l).1 ≤ most) ∧ ((numGo most k acc l).2.2 ≠ 0 → (numGo most k acc l).1 = 0 ∧ (numGo most k acc l).2.1 = 0) ∧ 0 ≤ (numGo most k acc l).2.2 ∧ (numGo most k acc l).2.2 ≤ 12 := by
  induction l with
  | nil => intro k acc _ _ _ _; simp [numGo]
  | cons c l ih =>
    intro k acc hl hk h0 h1
    have hc := hl c (by simp)
    simp only [numGo]
    split
    · simp
    · split
      · rename_i h2 h3
        have hp : (0 : Int) < 128 ^ k := Int.pow_pos (by omega)
        have hp2 : (128 : Int) ^ (k + 1) = 128 ^ k * 128 := Int.pow_succ _ _
        have m0 : 0 ≤ c % 128 * 128 ^ k := Int.mul_nonneg (by omega) (by omega)
        have m1 : c % 128 * 128 ^ k ≤ 127 * 128 ^ k := Int.mul_le_mul_of_nonneg_right (by omega) (by omega)
        have := ih (k + 1) (acc + c % 128 * 128 ^ k) (fun x hx => hl x (by simp [hx])) (by omega) (by omega) (by rw [hp2]; omega)
        obtain ⟨b1, b2, b3, b4, b5, b6, b7⟩ := this
        refine ⟨b1, b2, by simp only [List.length_cons]; omega, fun h => ?_, b5, b6, b7⟩
        have := b4 h
        omega
      · split
        · simp
        · split
          · simp
          · rename_i h2 h3 h4 h5
            have hp : (0 : Int) < 128 ^ k := Int.pow_pos (by omega)
            have m0 : 0 ≤ c * 128 ^ k := Int.mul_nonneg (by omega) (by omega)
            have m1 : c * 128 ^ k ≤ 127 * 128 ^ k := Int.mul_le_mul_of_nonneg_right (by omega) (by omega)
            have m2 : ∀ k : Nat, k < 9 → (128 : Int) ^ k ≤ 72057594037927936 := by decide
            have m2 := m2 k (by omega)
            simp only [List.length_cons]
            refine ⟨by omega, by omega, by omega, fun _ => ⟨by omega, by omega⟩, fun h => absurd rfl h, by omega, by omega⟩
theorem numR_bounds (most : Int) {l : List Int} {p : Nat} (hp : p ≤ l.length) (hl : ∀ c ∈ l, 0 ≤ c ∧ c < 256) :
    0 ≤ (numR most l p).1 ∧ (numR most l p).1 < 9223372036854775808 ∧ p + (numR most l p).2.1 ≤ l.length ∧ ((numR most l p).2.2 = 0 → 0 < (numR most l p).2.1 ∧ (numR most l p).1 ≤ most) ∧ ((numR most l p).2.2 ≠ 0 → (numR most l p).1 = 0 ∧ (numR most l p).2.1 = 0) ∧ 0 ≤ (numR most l p).2.2 ∧ (numR most l p).2.2 ≤ 12 := by
  have := numGo_bounds most (l.drop p) 0 0 (fun c hc => hl c (List.mem_of_mem_drop hc)) (by omega) (by omega) (by decide)
  unfold numR
  obtain ⟨b1, b2, b3, b4, b5, b6, b7⟩ := this
  rw [List.length_drop] at b3
  exact ⟨b1, b2, by omega, b4, b5, b6, b7⟩
theorem drop_get {l : List Int} {p : Nat} (h : p < l.length) : l.drop p = l.getD p 0 :: l.drop (p + 1) := by
  rw [List.drop_eq_getElem_cons h, List.getD_eq_getElem?_getD, List.getElem?_eq_getElem h]; rfl
theorem getD_byte {l : List Int} (hl : ∀ c ∈ l, 0 ≤ c ∧ c < 256) (p : Nat) : 0 ≤ l.getD p 0 ∧ l.getD p 0 < 256 := by
  by_cases h : p < l.length
  · rw [List.getD_eq_getElem?_getD, List.getElem?_eq_getElem h]; exact hl _ (List.getElem_mem h)
  · rw [List.getD_eq_getElem?_getD, List.getElem?_eq_none (by omega)]; simp
theorem wordV_snoc (l : List Int) (b : Int) : wordV (l ++ [b]) = wordV l * 256 + b := by simp [wordV]
theorem take_drop_snoc {l : List Int} {p i : Nat} (h : p + i < l.length) : (l.drop p).take (i + 1) = (l.drop p).take i ++ [l.getD (p + i) 0] := by
  rw [List.take_add_one, List.getElem?_drop, List.getElem?_eq_getElem h, List.getD_eq_getElem?_getD, List.getElem?_eq_getElem h]; rfl
theorem wordV_step {l : List Int} {p i : Nat} (h : p + i < l.length) : wordV ((l.drop p).take (i + 1)) = wordV ((l.drop p).take i) * 256 + l.getD (p + i) 0 := by rw [take_drop_snoc h, wordV_snoc]
theorem wordV_bounds {l : List Int} (hl : ∀ c ∈ l, 0 ≤ c ∧ c < 256) {p : Nat} : ∀ (i : Nat), p + i ≤ l.length → 0 ≤ wordV ((l.drop p).take i) ∧ wordV ((l.drop p).take i) < 256 ^ i := by
  intro i
  induction i with
  | zero => intro _; simp [wordV]
  | succ i ih =>
    intro h
    have := ih (by omega)
    have hb := getD_byte hl (p + i)
    have e : (256 : Int) ^ (i + 1) = 256 ^ i * 256 := Int.pow_succ _ _
    rw [wordV_step (by omega), e]
    omega
theorem numGo_err (most : Int) (l : List Int) : ∀ (k : Nat) (acc : Int), (numGo most k acc l).2.2 = 0 ∨ (numGo most k acc l).2.2 = 10 ∨ (numGo most k acc l).2.2 = 11 ∨ (numGo most k acc l).2.2 = 12 := by
  induction l with
  | nil => intro k acc; simp [numGo]
  | cons c l ih =>
    intro k acc
    simp only [numGo]
    split
    · simp
    · split
      · exact ih _ _
      · split
        · simp
        · split <;> simp
theorem numR_err (most : Int) (l : List Int) (p : Nat) : (numR most l p).2.2 = 0 ∨ (numR most l p).2.2 = 10 ∨ (numR most l p).2.2 = 11 ∨ (numR most l p).2.2 = 12 := numGo_err _ _ _ _
end Go.Proofs.Ythalodnfecaccaa.Pure
