-- By wip/late.py (a program of this session) out of wip/words.
import Derived.Test.YtcfiobhebakhlabProg
import Derived.Test.YtcfiobhebakhlabWWords
import Derived.Test.YtcfiobhebakhlabWLast
import Derived.Test.YtcfiobhebakhlabWMore
import Derived.Test.YtcfiobhebakhlabSRd
import Derived.Test.YtcfiobhebakhlabSWrWord
import Derived.Test.YtcfiobhebakhlabSWrWrite
import Derived.Test.YtcfiobhebakhlabSRdText
import Derived.Test.YtcfiobhebakhlabSRdWord
import Derived.Test.YtcfiobhebakhlabSRdFlag
import Derived.Test.YtcfiobhebakhlabSRdNumC
import Derived.WalkKit
import Derived.OwnWalk
import Derived.Test.YtcfiobhebakhlabSRdP
import Derived.Test.YtcfiobhebakhlabSNumsP
set_option linter.unusedVariables false
set_option linter.unusedSimpArgs false
namespace Go.Proofs.Ytcfiobhebakhlab.Rd
open Go.RowKit Go.Proofs.YtcfiobhebakhlabW.PrintWords Go.Proofs.Ytcfiobhebakhlab.Pure Go.Proofs.Ytcfiobhebakhlab.Wr
/-! What was laid down is read again: plain lists. -/
theorem numB_bytes : ∀ (k : Nat) (u : Int), 0 ≤ u → u < 128 ^ (k + 1) → ∀ c ∈ numB k u, 0 ≤ c ∧ c < 256 := by
  intro k
  induction k with
  | zero =>
    intro u h0 h1 c hc
    simp only [numB, List.mem_singleton] at hc
    have : (128 : Int) ^ (0 + 1) = 128 := by decide
    omega
  | succ k ih =>
    intro u h0 h1 c hc
    simp only [numB] at hc
    split at hc
    · simp only [List.mem_singleton] at hc; omega
    · rcases List.mem_cons.1 hc with rfl | hc
      · omega
      · refine ih (u / 128) (by omega) ?_ c hc
        have e : (128 : Int) ^ (k + 1 + 1) = 128 ^ (k + 1) * 128 := Int.pow_succ _ _
        rw [e] at h1
        exact Int.ediv_lt_of_lt_mul (by omega) h1
theorem bytesOf_bytes (t : ByteArray) : ∀ c ∈ bytesOf t, 0 ≤ c ∧ c < 256 := by
  intro c hc
  obtain ⟨b, _, rfl⟩ := List.mem_map.1 hc
  have := b.toNat_lt
  omega
theorem wordB_bytes (u : Int) : ∀ (k : Nat), ∀ c ∈ wordB u k, 0 ≤ c ∧ c < 256 := by
  intro k
  induction k with
  | zero => intro c hc; simp [wordB] at hc
  | succ k ih =>
    intro c hc
    simp only [wordB] at hc
    rcases List.mem_cons.1 hc with rfl | hc
    · omega
    · exact ih c hc
theorem str_bytesOf (t : ByteArray) : strOfNums (bytesOf t) = t := by
  have : (bytesOf t).map (fun n => UInt8.ofNat n.toNat) = t.data.toList := by
    unfold bytesOf
    rw [List.map_map]
    conv => rhs; rw [← List.map_id t.data.toList]
    apply List.map_congr_left
    intro b _
    simp
  unfold strOfNums
  rw [this]
theorem wordV_wordB (u : Int) (h0 : 0 ≤ u) (h1 : u < 18446744073709551616) : wordV (wordB u 8) = u := by
  simp only [wordV, wordB, List.foldl_cons, List.foldl_nil, Int.reducePow, Nat.reduceMul]
  omega
theorem back_num {M : Int} {L rest : List Int} {p : Nat} {v : Int} (h : L.drop p = numB 8 v ++ rest) (h0 : 0 ≤ v) (h1 : v ≤ 9223372036854775807) (h2 : v ≤ M) : numR M L p = (v, (numB 8 v).length, 0) := by
  unfold numR
  rw [h]
  have e : (128 : Int) ^ (8 + 1) = 9223372036854775808 := by decide
  have := numGo_numB M rest 8 0 0 v rfl h0 (by rw [e]; omega) (fun h => absurd h (by omega)) (by simpa using h2)
  simpa using this
theorem back_text {M : Int} {L rest : List Int} {p : Nat} {t : ByteArray} (h : L.drop p = numB 8 t.size ++ (bytesOf t ++ rest)) (hs : t.size ≤ 70368744177664) (h2 : (t.size : Int) ≤ M) : rText M L p 0 = (t, p + ((numB 8 t.size).length + t.size), 0) := by
  have hn := back_num (M := M) h (Int.natCast_nonneg _) (by omega) h2
  have hb : (bytesOf t).length = t.size := bytesOf_length t
  have hl := congrArg List.length h
  simp only [List.length_drop, List.length_append, hb] at hl
  have hp := (numB_len 8 (t.size : Int)).1
  rw [rText_ok hn (by omega)]
  have e1 : (L.take (p + (numB 8 t.size).length + t.size)).drop (p + (numB 8 t.size).length) = bytesOf t := by
    rw [List.drop_take, ← List.drop_drop, h, List.drop_left, show p + (numB 8 (t.size : Int)).length + t.size - (p + (numB 8 (t.size : Int)).length) = t.size by omega, ← hb, List.take_left]
  rw [e1, str_bytesOf, Nat.add_assoc]
theorem back_word {L rest : List Int} {p : Nat} {u : Int} (h : L.drop p = wordB u 8 ++ rest) (h0 : 0 ≤ u) (h1 : u < 18446744073709551616) : rWord L p 0 = (u, p + 8, 0) := by
  have hl := congrArg List.length h
  simp only [List.length_drop, List.length_append, wordB_len] at hl
  rw [rWord_ok (by omega), h, List.take_append_of_le_length (by rw [wordB_len]; exact Nat.le_refl _), List.take_of_length_le (by rw [wordB_len]; exact Nat.le_refl _), wordV_wordB u h0 h1]
theorem back_flag {L rest : List Int} {p : Nat} {b : Bool} (h : L.drop p = [if b = true then 1 else 0] ++ rest) : rFlag L p 0 = (b, p + 1, 0) := by
  have hl := congrArg List.length h
  simp only [List.length_drop, List.length_append, List.length_singleton] at hl
  have hg : L.getD p 0 = if b = true then 1 else 0 := by
    have := congrArg (fun l => l.getD 0 0) h
    simpa [List.getD_eq_getElem?_getD] using this
  rw [rFlag_ok (by omega) hg (by cases b <;> simp)]
  cases b <;> simp
end Go.Proofs.Ytcfiobhebakhlab.Rd
