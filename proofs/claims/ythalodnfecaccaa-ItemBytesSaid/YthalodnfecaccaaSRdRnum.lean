-- By wip/late.py (a program of this session) out of wip/words.
import Derived.Test.YthalodnfecaccaaProg
import Derived.Test.YthalodnfecaccaaWWords
import Derived.Test.YthalodnfecaccaaWLast
import Derived.Test.YthalodnfecaccaaWMore
import Derived.Test.YthalodnfecaccaaSRd
import Derived.RangeFuncBox
import Derived.BigQuiet
import Derived.Deep.QuietTactic
import Derived.Lib.Hide
import Derived.Tactics
import Derived.WalkKit
import Derived.OwnWalk
import Derived.Test.YthalodnfecaccaaSRdP
set_option linter.unusedVariables false
set_option linter.unusedSimpArgs false
namespace Go.Proofs.Ythalodnfecaccaa.Rd
open Go.RowKit Go.Proofs.YthalodnfecaccaaW.PrintWords Go.Proofs.Ythalodnfecaccaa.Pure Go.Proofs.Ythalodnfecaccaa.Wr
/-! The number that stands next, as the document says it. -/
theorem mul_bounds {k : Nat} {acc b : Int} (hk : k ≤ 8) (h0 : 0 ≤ acc) (h1 : acc < 128 ^ k) (hb0 : 0 ≤ b) (hb1 : b < 256) :
    Int.tmod b 128 = b % 128 ∧ wrap64 (b % 128 * 128 ^ k) = b % 128 * 128 ^ k ∧ wrap64 (acc + b % 128 * 128 ^ k) = acc + b % 128 * 128 ^ k ∧ 0 ≤ acc + b % 128 * 128 ^ k ∧ acc + b % 128 * 128 ^ k < 128 ^ (k + 1) ∧ (k < 8 → wrap64 (128 ^ k * 128) = 128 ^ (k + 1)) := by
  have hp : (0 : Int) < 128 ^ k := Int.pow_pos (by omega)
  have m2 : ∀ k : Nat, k < 9 → (128 : Int) ^ k ≤ 72057594037927936 := by decide
  have m2 := m2 k (by omega)
  have b0 : 0 ≤ b % 128 * 128 ^ k := Int.mul_nonneg (by omega) (by omega)
  have b1 : b % 128 * 128 ^ k ≤ 127 * 128 ^ k := Int.mul_le_mul_of_nonneg_right (by omega) (by omega)
  have e : (128 : Int) ^ (k + 1) = 128 ^ k * 128 := Int.pow_succ _ _
  refine ⟨Int.tmod_eq_emod_of_nonneg hb0, by unfold wrap64; omega, by unfold wrap64; omega, by omega, by omega, fun h => ?_⟩
  have m3 : ∀ k : Nat, k < 8 → (128 : Int) ^ k ≤ 562949953421312 := by decide
  have m3 := m3 k h
  rw [e]; unfold wrap64
  omega
set_option maxRecDepth 100000 in
set_option maxHeartbeats 2000000 in
theorem rnumber_calls (most : Int) {n₀ B : Nat} {w : World} {A : Option Addr} {c : Nat} {l : List Int} {p : Nat} {e : Int} (h : Rdr n₀ 79 w B A c l p e) :
    Calls Try.prog 65 #[.pointer (some ⟨B, 0, none⟩), .int .i64 most] w fun x w' => x = .returned (.tuple #[.int .i64 (numR most l p).1, .int .i64 ((numR most l p).2.1 : Int), .int .i64 (numR most l p).2.2]) ∧ Drawn0 w w' := by
  have HR := Aside0.mk h
  clear h
  go_enter Try.func65, Try.ntmps65
  go_wp2
  go_loopw [7, 8, 9] (fun s7 s8 s9 wr => ∃ (k : Nat) (acc U : Int), s7 = .int .i64 acc ∧ s8 = .int .i64 U ∧ s9 = .int .i64 (k : Int) ∧ U = 128 ^ k ∧ k ≤ 8 ∧ 0 ≤ acc ∧ acc < 128 ^ k ∧ p + k ≤ l.length ∧ numGo most k acc (l.drop (p + k)) = numR most l p ∧ Drawn0 w wr) (fun s7 s8 s9 _ => 9 - (intOf s9).toNat)
  case atStart => exact ⟨0, 0, 1, rfl, rfl, rfl, rfl, by omega, by omega, by decide, HR.out.pl, rfl, Drawn0.refl _⟩
  case round =>
    obtain ⟨k, acc, U, rfl, rfl, rfl, hU, hk, ha0, ha1, hql, hgo, hd⟩ := hrel
    have HW := Aside0.mk (HR.out.below hd.below)
    have hc0 := HW.out.c0
    have hc1 := HW.out.c1
    have hll := HR.out.ll
    have HD := Aside0.mk hd
    have HU := Aside0.mk hU
    have HA1 := Aside0.mk ha1
    obtain ⟨q, hq⟩ : ∃ q, q = p + k := ⟨_, rfl⟩
    rw [← hq] at hql hgo
    have HQ := Aside0.mk hq
    have hw : wrap64 ((p : Int) + (k : Int)) = (q : Int) := by unfold wrap64; omega
    clear hd hU ha1 hq
    by_cases h1 : q = l.length
    · have b1 : decide ((l.length : Int) ≤ (q : Int)) = true := decide_eq_true (by omega)
      have b2 : decide (l.length ≤ q) = true := decide_eq_true (by omega)
      have HN : Aside0 (numR most l p = (0, 0, 10)) := ⟨by rw [← hgo, h1, List.drop_length]; rfl⟩
      clear hgo h1
      go_wp2
      go_quiet (fail)
      go_wp2
      go_ret3
      rw [HN.out]
      exact ⟨rfl, HD.out.step _⟩
    · have b1 : decide ((l.length : Int) ≤ (q : Int)) = false := decide_eq_false (by omega)
      have b2 : decide (l.length ≤ q) = false := decide_eq_false (by omega)
      have hlt : q < l.length := by omega
      obtain ⟨ad, rfl, x0⟩ := Kd.at_int HW.out.row_C (q : Int) (Int.natCast_nonneg q) (by omega)
      simp only [Int.toNat_natCast] at x0
      have p0 : (0 ≤ (q : Int)) = True := eq_true (Int.natCast_nonneg q)
      have q0 : ((q : Int) < (l.length : Int)) = True := eq_true (by omega)
      have hb : ∀ x, rd l (q : Int) = x → 0 ≤ x ∧ x < 256 := by rintro x rfl; simpa [rd] using getD_byte HR.out.bytes q
      have hdr : l.drop q = rd l (q : Int) :: l.drop (q + 1) := by simpa [rd] using drop_get hlt
      rw [hdr] at hgo
      obtain ⟨b, hbe⟩ : ∃ b, rd l (q : Int) = b := ⟨_, rfl⟩
      obtain ⟨hb0, hb1⟩ := hb b hbe
      rw [hbe] at x0 hgo
      clear hb hdr hbe b2
      have hwk : wrap64 ((k : Int) + 1) = ((k + 1 : Nat) : Int) := by unfold wrap64; omega
      have hwb : wrap64 b = b := by unfold wrap64; omega
      obtain ⟨t1, t2, t3, t4, t5, t6⟩ := mul_bounds hk ha0 HA1.out hb0 hb1
      rw [← HU.out] at t2 t3 t4 t5 t6
      obtain ⟨u, hu⟩ : ∃ u, acc + b % 128 * U = u := ⟨_, rfl⟩
      rw [hu] at t3 t4 t5
      by_cases h2 : 128 ≤ b
      · have d2 : decide (127 < b) = true := decide_eq_true (by omega)
        have d3 : decide (b < 128) = false := decide_eq_false (by omega)
        by_cases h3 : k = 8
        · have HN : Aside0 (numR most l p = (0, 0, 11)) := ⟨by rw [← hgo]; simp only [numGo]; rw [if_pos ⟨h3, h2⟩]⟩
          have d4 : ((k : Int) = 8) = True := eq_true (by omega)
          have d5 : ((k : Int) == 8) = true := by simp; omega
          clear hgo t1 t2 t3 t4 t5 t6 hu hwk h3
          go_wp2
          go_quiet (fail)
          go_wp2
          go_quiet (fail)
          go_wp2
          go_ret3
          rw [HN.out]
          exact ⟨rfl, HD.out.step _⟩
        · have d4 : ((k : Int) = 8) = False := eq_false (by omega)
          simp only [numGo] at hgo
          rw [if_neg (by omega), if_pos h2, ← HU.out, hu] at hgo
          have HG := Aside0.mk hgo
          have T5 := Aside0.mk t5
          have T6 := t6 (by omega)
          clear hgo t5 t6
          obtain ⟨U', hU'⟩ : ∃ U', (128 : Int) ^ (k + 1) = U' := ⟨_, rfl⟩
          rw [hU'] at T6
          have HU' := Aside0.mk hU'
          have h3 := Aside0.mk h3
          have HT := Aside0.mk (And.intro t3 t2)
          have HQ2 : Aside0 (p + (k + 1) = q + 1) := ⟨by have := HQ.out; omega⟩
          have HU2 := Aside0.mk hu
          clear hU' hu
          go_wp2
          go_quiet (fail)
          go_wp2
          go_quiet (fail)
          go_wp2
          refine ⟨⟨k + 1, u, U', ?_, ?_, ?_, HU'.out.symm, ?_, t4, ?_, ?_, ?_, ?_⟩, ?_⟩
          · rw [HU2.out, t3]
          · rw [T6]
          · rfl
          · have := h3.out; omega
          · exact T5.out
          · rw [HQ2.out]; omega
          · rw [HQ2.out]; exact HG.out
          · exact HD.out.step _
          · simp only [intOf]; have := h3.out; omega
      · have d2 : decide (127 < b) = false := decide_eq_false (by omega)
        have d3 : decide (b < 128) = true := decide_eq_true (by omega)
        simp only [numGo] at hgo
        rw [if_neg (by omega), if_neg h2] at hgo
        have hbm : b % 128 = b := by omega
        rw [hbm] at t1 t2 hu
        have HT5 := Aside0.mk t5
        clear t5 t6
        by_cases h4 : b = 0 ∧ 0 < k
        · rw [if_pos h4] at hgo
          obtain ⟨rfl, h5⟩ := h4
          have d7 : decide (0 < k) = true := decide_eq_true h5
          have d8 : (0 < k) = True := eq_true h5
          have d6 : (0 < (k : Int)) = True := eq_true (by omega)
          have HN := Aside0.mk hgo.symm
          clear hgo h5 h2 t4 hu
          by_cases h56 : k = 8
          · have d4 : ((k : Int) = 8) = True := eq_true (by omega)
            have d5 : ((k : Int) == 8) = true := by simp; omega
            clear h56
            go_wp2
            go_quiet (fail)
            go_wp2
            go_quiet (fail)
            go_wp2
            go_ret3
            rw [HN.out]
            exact ⟨rfl, HD.out.step _⟩
          · have d4 : ((k : Int) = 8) = False := eq_false (by omega)
            clear h56
            go_wp2
            go_quiet (fail)
            go_wp2
            go_quiet (fail)
            go_wp2
            go_ret3
            rw [HN.out]
            exact ⟨rfl, HD.out.step _⟩
        · rw [if_neg h4, ← HU.out, hu] at hgo
          have hz : b = 0 → k = 0 ∧ acc = 0 ∧ u = 0 := fun e => by
            have hk0 : k = 0 := by omega
            have h0 := HA1.out
            rw [hk0] at h0
            have h9 : (128 : Int) ^ 0 = 1 := rfl
            have ha : acc = 0 := by omega
            refine ⟨hk0, ha, ?_⟩
            rw [← hu, ha, e]; simp
          have HG := Aside0.mk hgo
          clear hgo h4
          by_cases hg : most < u
          · have dg : decide (most < u) = true := decide_eq_true hg
            have HN : Aside0 (numR most l p = (0, 0, 12)) := ⟨by rw [← HG.out, if_pos hg]⟩
            clear HG hg
            by_cases hb : b = 0
            · obtain ⟨hk0, hacc, hu0⟩ := hz hb
              subst hb
              have d4 : ((k : Int) = 8) = False := eq_false (by omega)
              have d7 : decide (0 < k) = false := decide_eq_false (by omega)
              have d8 : (0 < k) = False := eq_false (by omega)
              have d6 : (0 < (k : Int)) = False := eq_false (by omega)
              subst hu0
              subst hacc
              have HK0 := Aside0.mk hk0
              have hz0 : wrap64 0 = 0 := by unfold wrap64; omega
              clear hz t1 t2 hu hk0
              go_wp2
              go_quiet (fail)
              go_wp2
              go_quiet (fail)
              go_wp2
              go_ret3
              rw [HN.out]
              exact ⟨rfl, HD.out.step _⟩
            · skip
              have db : (b == 0) = false := by simp [hb]
              have db2 : (b = 0) = False := eq_false hb
              clear hb hz hb0
              by_cases h56 : k = 8
              · have d4 : ((k : Int) = 8) = True := eq_true (by omega)
                have d5 : ((k : Int) == 8) = true := by simp; omega
                clear h56
                go_wp2
                go_quiet (fail)
                go_wp2
                go_quiet (fail)
                go_wp2
                go_ret3
                rw [HN.out]
                exact ⟨rfl, HD.out.step _⟩
              · have d4 : ((k : Int) = 8) = False := eq_false (by omega)
                clear h56
                go_wp2
                go_quiet (fail)
                go_wp2
                go_quiet (fail)
                go_wp2
                go_ret3
                rw [HN.out]
                exact ⟨rfl, HD.out.step _⟩
          · have dg : decide (most < u) = false := decide_eq_false hg
            have HN : Aside0 (numR most l p = (u, k + 1, 0)) := ⟨by rw [← HG.out, if_neg hg]⟩
            clear HG hg
            by_cases hb : b = 0
            · obtain ⟨hk0, hacc, hu0⟩ := hz hb
              subst hb
              have d4 : ((k : Int) = 8) = False := eq_false (by omega)
              have d7 : decide (0 < k) = false := decide_eq_false (by omega)
              have d8 : (0 < k) = False := eq_false (by omega)
              have d6 : (0 < (k : Int)) = False := eq_false (by omega)
              subst hu0
              subst hacc
              have HK0 := Aside0.mk hk0
              have hz0 : wrap64 0 = 0 := by unfold wrap64; omega
              clear hz t1 t2 hu hk0
              go_wp2
              go_quiet (fail)
              go_wp2
              go_quiet (fail)
              go_wp2
              go_ret3
              rw [HN.out]
              exact ⟨rfl, HD.out.step _⟩
            · skip
              have db : (b == 0) = false := by simp [hb]
              have db2 : (b = 0) = False := eq_false hb
              clear hb hz hb0
              by_cases h56 : k = 8
              · have d4 : ((k : Int) = 8) = True := eq_true (by omega)
                have d5 : ((k : Int) == 8) = true := by simp; omega
                clear h56
                go_wp2
                go_quiet (fail)
                go_wp2
                go_quiet (fail)
                go_wp2
                go_ret3
                rw [HN.out]
                exact ⟨by show Ending.returned (.tuple #[.int .i64 (wrap64 u), .int .i64 ((k : Int) + 1), .int .i64 0]) = _; rw [t3]; rfl, HD.out.step _⟩
              · have d4 : ((k : Int) = 8) = False := eq_false (by omega)
                clear h56
                go_wp2
                go_quiet (fail)
                go_wp2
                go_quiet (fail)
                go_wp2
                go_ret3
                rw [HN.out]
                exact ⟨by show Ending.returned (.tuple #[.int .i64 (wrap64 u), .int .i64 ((k : Int) + 1), .int .i64 0]) = _; rw [t3]; rfl, HD.out.step _⟩
end Go.Proofs.Ythalodnfecaccaa.Rd
