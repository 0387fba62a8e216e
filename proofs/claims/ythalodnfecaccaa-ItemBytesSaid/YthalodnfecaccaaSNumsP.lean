import Derived.Test.YthalodnfecaccaaPAllx0
set_option linter.unusedVariables false
set_option linter.unusedSimpArgs false
namespace Go.Proofs.Ythalodnfecaccaa.Pure
open Go.RowKit Go.Proofs.Ythalodnfecaccaa.PAll Go.Proofs.YthalodnfecaccaaW.PrintWords Go.Proofs.YthalodnfecaccaaW.PrintLast Go.Proofs.YthalodnfecaccaaW.PrintMore
/-! Numbers as bytes: plain lists. -/
/-- A number's bytes: at most k + 1. -/
def numB : Nat → Int → List Int
  | 0, u => [u]
  | k + 1, u => if u < 128 then [u] else (128 + u % 128) :: numB k (u / 128)
theorem numB_len (k : Nat) : ∀ u, 1 ≤ (numB k u).length ∧ (numB k u).length ≤ k + 1 := by
  induction k with
  | zero => intro u; simp [numB]
  | succ k ih =>
    intro u; simp only [numB]; split
    · simp
    · have := ih (u / 128); simp only [List.length_cons]; omega
/-- What stands next: the number, its bytes' count, what is wrong. -/
def numGo (most : Int) : Nat → Int → List Int → Int × Nat × Int
  | _, _, [] => (0, 0, 10)
  | k, acc, c :: l =>
    if k = 8 ∧ 128 ≤ c then (0, 0, 11)
    else if 128 ≤ c then numGo most (k + 1) (acc + c % 128 * 128 ^ k) l
    else if c = 0 ∧ 0 < k then (0, 0, 11)
    else if most < acc + c * 128 ^ k then (0, 0, 12)
    else (acc + c * 128 ^ k, k + 1, 0)
theorem numGo_numB (most : Int) (rest : List Int) (d : Nat) : ∀ (k : Nat) (acc u : Int), k + d = 8 → 0 ≤ u → u < 128 ^ (d + 1) → (0 < k → 0 < u) → acc + u * 128 ^ k ≤ most →
    numGo most k acc (numB d u ++ rest) = (acc + u * 128 ^ k, k + (numB d u).length, 0) := by
  induction d with
  | zero =>
    intro k acc u hk h0 h1 hp hm
    simp only [numB, List.cons_append, List.nil_append, numGo, List.length_cons, List.length_nil]
    have h1 : u < 128 := by simpa using h1
    rw [if_neg (by omega), if_neg (by omega), if_neg (by omega), if_neg (by omega)]
  | succ d ih =>
    intro k acc u hk h0 h1 hp hm
    simp only [numB]
    by_cases h : u < 128
    · rw [if_pos h]
      simp only [List.cons_append, List.nil_append, numGo, List.length_cons, List.length_nil]
      rw [if_neg (by omega), if_neg (by omega), if_neg (by omega), if_neg (by omega)]
    · rw [if_neg h]
      simp only [List.cons_append, numGo, List.length_cons]
      rw [if_neg (by omega), if_pos (by omega)]
      have e : (128 + u % 128) % 128 = u % 128 := by omega
      rw [e]
      have hp2 : (128 : Int) ^ (k + 1) = 128 * 128 ^ k := by rw [Int.pow_succ, Int.mul_comm]
      have hs : acc + u % 128 * 128 ^ k + u / 128 * 128 ^ (k + 1) = acc + u * 128 ^ k := by
        rw [hp2]
        have : u * 128 ^ k = (u % 128 + 128 * (u / 128)) * 128 ^ k := by rw [Int.emod_add_mul_ediv]
        rw [this, Int.add_mul, Int.mul_comm 128 (u / 128), Int.mul_assoc]; omega
      have hlt : u / 128 < 128 ^ (d + 1) := by
        have : (128 : Int) ^ (d + 1 + 1) = 128 ^ (d + 1) * 128 := Int.pow_succ _ _
        rw [this] at h1
        exact Int.ediv_lt_of_lt_mul (by omega) h1
      have := ih (k + 1) (acc + u % 128 * 128 ^ k) (u / 128) (by omega) (by omega) hlt (by omega) (by omega)
      rw [this, hs]
      congr 2; omega
/-- What was read is laid down as just these bytes. -/
theorem numB_numGo (most : Int) (l : List Int) : ∀ (k : Nat) (acc n : Int) (m : Nat), (∀ c ∈ l, 0 ≤ c ∧ c < 256) → k ≤ 8 → numGo most k acc l = (n, m, 0) →
    ∃ u, 0 ≤ u ∧ (0 < k → 0 < u) ∧ u < 128 ^ (9 - k) ∧ n = acc + u * 128 ^ k ∧ n ≤ most ∧ k < m ∧ m ≤ k + l.length ∧ m ≤ 9 ∧ numB (8 - k) u = l.take (m - k) := by
  induction l with
  | nil => intro k acc n m _ _ h; simp [numGo] at h
  | cons c l ih =>
    intro k acc n m hl hk h
    have hc := hl c (by simp)
    simp only [numGo] at h
    by_cases h1 : k = 8 ∧ 128 ≤ c
    · rw [if_pos h1] at h; simp at h
    rw [if_neg h1] at h
    by_cases h2 : 128 ≤ c
    · rw [if_pos h2] at h
      obtain ⟨u, hu0, hup, hu1, hn, hm, hkm, hml, hm9, ht⟩ := ih (k + 1) _ n m (fun x hx => hl x (by simp [hx])) (by omega) h
      have hu : 0 < u := hup (by omega)
      have hp2 : (128 : Int) ^ (k + 1) = 128 * 128 ^ k := by rw [Int.pow_succ, Int.mul_comm]
      refine ⟨c % 128 + 128 * u, by omega, by omega, ?_, ?_, hm, by omega, by simp only [List.length_cons]; omega, hm9, ?_⟩
      · have e : 9 - k = (9 - (k + 1)) + 1 := by omega
        rw [e, Int.pow_succ]
        have h0 := hu1
        generalize (128 : Int) ^ (9 - (k + 1)) = q at h0 ⊢
        omega
      · rw [hn, hp2, Int.add_mul, Int.mul_comm 128 u, Int.mul_assoc]; omega
      · obtain ⟨d, hd⟩ : ∃ d, 8 - k = d + 1 := ⟨7 - k, by omega⟩
        have hd2 : 8 - (k + 1) = d := by omega
        obtain ⟨j, hj⟩ : ∃ j, m - k = j + 1 := ⟨m - k - 1, by omega⟩
        have hj2 : m - (k + 1) = j := by omega
        rw [hd2, hj2] at ht
        rw [hd, hj, List.take_succ_cons, ← ht]
        simp only [numB]
        rw [if_neg (by omega)]
        congr 1
        · omega
        · congr 1; omega
    · rw [if_neg h2] at h
      by_cases h3 : c = 0 ∧ 0 < k
      · rw [if_pos h3] at h; simp at h
      rw [if_neg h3] at h
      by_cases h4 : most < acc + c * 128 ^ k
      · rw [if_pos h4] at h; simp at h
      rw [if_neg h4] at h
      simp only [Prod.mk.injEq] at h
      obtain ⟨rfl, rfl, _⟩ := h
      refine ⟨c, by omega, by omega, ?_, rfl, by omega, by omega, by simp only [List.length_cons]; omega, by omega, ?_⟩
      · have : (128 : Int) ≤ 128 ^ (9 - k) := by
          obtain ⟨d, hd⟩ : ∃ d, 9 - k = d + 1 := ⟨8 - k, by omega⟩
          rw [hd, Int.pow_succ]
          have : (0 : Int) < 128 ^ d := Int.pow_pos (by omega)
          omega
        omega
      · have e : k + 1 - k = 1 := by omega
        rw [e]
        simp only [List.take_succ_cons, List.take_zero]
        cases 8 - k with
        | zero => rfl
        | succ d => simp only [numB]; rw [if_pos (by omega)]
end Go.Proofs.Ythalodnfecaccaa.Pure
