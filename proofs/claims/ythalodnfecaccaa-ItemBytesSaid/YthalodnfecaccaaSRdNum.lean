-- By wip/late.py (a program of this session) out of wip/words.
import Derived.Test.YthalodnfecaccaaProg
import Derived.Test.YthalodnfecaccaaWWords
import Derived.Test.YthalodnfecaccaaWLast
import Derived.Test.YthalodnfecaccaaWMore
import Derived.Test.YthalodnfecaccaaSRd
import Derived.WalkMore
import Derived.Laws.BitsLemmas
import Derived.RangeFuncBox
import Derived.Lib.Hide
import Derived.Tactics
import Derived.WalkKit
import Derived.OwnWalk
import Derived.Test.YthalodnfecaccaaSRdP
set_option linter.unusedVariables false
set_option linter.unusedSimpArgs false
namespace Go.Proofs.Ythalodnfecaccaa.Rd
open Go.RowKit Go.Proofs.YthalodnfecaccaaW.PrintWords Go.Proofs.Ythalodnfecaccaa.Pure Go.Proofs.Ythalodnfecaccaa.Wr
/-! The number that stands next. -/
theorem shl_join {k : Nat} {acc b : Int} (hk : k ≤ 8) (h0 : 0 ≤ acc) (h1 : acc < 128 ^ k) (hb0 : 0 ≤ b) (hb1 : b < 128) :
    bits BinOp.or IntKind.u64 acc (IntKind.u64.wrap (IntKind.u64.wrap b * 2 ^ min (7 * k) 64)) = acc + b * 128 ^ k := by
  have e1 : (2 : Int) ^ min (7 * k) 64 = 128 ^ k := by rw [Nat.min_eq_left (by omega), show (128 : Int) = 2 ^ 7 by decide, ← Int.pow_mul]
  have hw : ∀ n : Int, 0 ≤ n → n < 2 ^ 64 → IntKind.u64.wrap n = n := by
    intro n n0 n1
    have : (2 : Int) ^ 64 = 18446744073709551616 := by decide
    rw [this] at n1
    simp [IntKind.wrap, IntKind.bits, IntKind.signed]
    omega
  have p63 : (2 : Int) ^ 64 = 18446744073709551616 := by decide
  have m2 : ∀ k : Nat, k < 9 → (128 : Int) ^ k ≤ 72057594037927936 := by decide
  have m2 := m2 k (by omega)
  have hp : (0 : Int) < 128 ^ k := Int.pow_pos (by omega)
  have b0 : 0 ≤ b * 128 ^ k := Int.mul_nonneg hb0 (by omega)
  have b1 : b * 128 ^ k ≤ 127 * 128 ^ k := Int.mul_le_mul_of_nonneg_right (by omega) (by omega)
  rw [e1, hw b hb0 (by rw [p63]; omega), hw (b * 128 ^ k) b0 (by rw [p63]; omega)]
  have hc : ∀ x y : Int, bits BinOp.or IntKind.u64 x y = bits BinOp.or IntKind.u64 y x := fun x y => by simp only [bits, BitVec.or_comm]
  rw [hc, bits_join .u64 64 (by decide) hw (7 * k) _ _ b0 ?_ (by rw [p63]; omega) h0 ?_ (by rw [p63]; omega)]
  · omega
  · rw [show (2 : Int) ^ (7 * k) = 128 ^ k by rw [show (128 : Int) = 2 ^ 7 by decide, ← Int.pow_mul]]
    exact Int.mul_emod_left _ _
  · rw [show (2 : Int) ^ (7 * k) = 128 ^ k by rw [show (128 : Int) = 2 ^ 7 by decide, ← Int.pow_mul]]
    exact h1
set_option maxRecDepth 100000 in
set_option maxHeartbeats 2000000 in
theorem number_calls (most : Int) (hm0 : -9223372036854775808 ≤ most) (hm1 : most ≤ 9223372036854775807) {n₀ B : Nat} {w : World} {A : Option Addr} {c : Nat} {l : List Int} {p : Nat} {e : Int} (h : Rdr n₀ 77 w B A c l p e) :
    Calls Try.prog 64 #[.pointer (some ⟨B, 0, none⟩), .int .i64 most] w fun x w' => x = .returned (.tuple #[.int .i64 (numR most l p).1, .int .i64 (numTo most l p), .int .i64 (numR most l p).2.2]) ∧ w' = w := by
  have hc0 := h.c0
  have hc1 := h.c1
  have HR := Aside0.mk h
  clear h
  go_enter Try.func64, Try.ntmps64
  go_wp2
  go_step3
  go_wp2
  go_step3
  go_wp2
  go_loopw [7, 8, 9] (fun s7 s8 s9 wr => ∃ (k q s : Nat) (acc : Int), s7 = .int .u64 acc ∧ s8 = .int .i64 (q : Int) ∧ s9 = .int .i64 (s : Int) ∧ q = p + k ∧ s = 7 * k ∧ k ≤ 8 ∧ 0 ≤ acc ∧ acc < 128 ^ k ∧ q ≤ l.length ∧ numGo most k acc (l.drop q) = numR most l p ∧ wr = w) (fun s7 s8 s9 _ => 63 - (intOf s9).toNat)
  case atStart => exact ⟨0, p, 0, 0, rfl, rfl, rfl, rfl, rfl, by omega, by omega, by decide, HR.out.pl, rfl, rfl⟩
  case round =>
    obtain ⟨k, q, s, acc, rfl, rfl, rfl, hq, hs, hk, ha0, ha1, hql, hgo, rfl⟩ := hrel
    have hll := HR.out.ll
    have HQ := Aside0.mk hq
    have HS := Aside0.mk hs
    have HA1 := Aside0.mk ha1
    clear hq hs ha1
    by_cases h1 : q = l.length
    · have b1 : ((q : Int) == (l.length : Int)) = true := by simp [h1]
      have HN : Aside0 (numR most l p = (0, 0, 10)) := ⟨by rw [← hgo, h1, List.drop_length]; rfl⟩
      clear hgo h1
      go_wp2
      try rw [Exit.noGoto_ret]
      go_ret3
      rw [numTo_bad (by decide) HN.out, HN.out]
      exact ⟨rfl, rfl⟩
    · have b1 : ((q : Int) == (l.length : Int)) = false := by simp; omega
      have hlt : q < l.length := by omega
      obtain ⟨ad, rfl, x0⟩ := Kd.at_int HR.out.row_C (q : Int) (Int.natCast_nonneg q) (by omega)
      simp only [Int.toNat_natCast] at x0
      have p0 : (0 ≤ (q : Int)) = True := eq_true (Int.natCast_nonneg q)
      have q0 : ((q : Int) < (l.length : Int)) = True := eq_true (by omega)
      have hb : ∀ x, rd l (q : Int) = x → 0 ≤ x ∧ x < 256 := by rintro x rfl; simpa [rd] using getD_byte HR.out.bytes q
      have hdr : l.drop q = rd l (q : Int) :: l.drop (q + 1) := by simpa [rd] using drop_get hlt
      rw [hdr] at hgo
      obtain ⟨b, hbe⟩ : ∃ b, rd l (q : Int) = b := ⟨_, rfl⟩
      obtain ⟨hb0, hb1⟩ := hb b hbe
      rw [hbe] at x0 hgo
      clear hb hdr hbe
      have hw : wrap64 ((q : Int) + 1) = ((q + 1 : Nat) : Int) := by unfold wrap64; omega
      by_cases h2 : 128 ≤ b
      · have d2 : decide (128 ≤ b) = true := decide_eq_true h2
        by_cases h3 : k = 8
        · obtain rfl : s = 56 := by have := HS.out; omega
          have HN : Aside0 (numR most l p = (0, 0, 11)) := ⟨by rw [← hgo]; simp only [numGo]; rw [if_pos ⟨h3, h2⟩]⟩
          clear hgo h3
          go_wp2
          try rw [Exit.noGoto_ret]
          go_ret3
          rw [numTo_bad (by decide) HN.out, HN.out]
          exact ⟨rfl, rfl⟩
        · have d3 : ((s : Int) == 56) = false := by have := HS.out; simp; omega
          simp only [numGo] at hgo
          rw [if_neg (by omega), if_pos h2] at hgo
          have HG := Aside0.mk hgo
          have d4 : ((s : Int) = 56) = False := eq_false (by have := HS.out; omega)
          clear hgo
          have h3 := Aside0.mk h3
          have hw7 : wrap64 ((s : Int) + 7) = ((s + 7 : Nat) : Int) := by have := HS.out; unfold wrap64; omega
          have hw7 := Aside0.mk hw7
          go_wp2
          refine ⟨⟨k + 1, q + 1, s + 7, acc + b % 128 * 128 ^ k, ?_, rfl, ?_, ?_, ?_, ?_, ?_, ?_, ?_, HG.out, trivial⟩, ?_⟩
          · rw [and127 b hb0 hb1, HS.out, shl_join hk ha0 HA1.out (by omega) (by omega)]
          · rw [hw7.out]
          · have := HQ.out; omega
          · have := HS.out; omega
          · have := h3.out; omega
          · exact Int.add_nonneg ha0 (Int.mul_nonneg (by omega) (Int.le_of_lt (Int.pow_pos (by omega))))
          · rw [Int.pow_succ]
            have hp : (0 : Int) < 128 ^ k := Int.pow_pos (by omega)
            have m1 : b % 128 * 128 ^ k ≤ 127 * 128 ^ k := Int.mul_le_mul_of_nonneg_right (by omega) (by omega)
            have := HA1.out
            omega
          · omega
          · rw [hw7.out]; simp only [intOf, Int.toNat_natCast]; have := HS.out; have := h3.out; omega
      · have d2 : decide (128 ≤ b) = false := decide_eq_false h2
        simp only [numGo] at hgo
        rw [if_neg (by omega), if_neg h2] at hgo
        by_cases h4 : b = 0 ∧ 0 < k
        · rw [if_pos h4] at hgo
          obtain ⟨rfl, h5⟩ := h4
          have d5 : decide (0 < (s : Int)) = true := decide_eq_true (by have := HS.out; omega)
          have HN := Aside0.mk hgo.symm
          have d7 : decide (0 < s) = true := decide_eq_true (by have := HS.out; omega)
          have d8 : (0 < s) = True := eq_true (by have := HS.out; omega)
          have d6 : (0 < (s : Int)) = True := eq_true (by have := HS.out; omega)
          clear hgo h5 h2
          by_cases h56 : s = 56
          · subst h56
            go_wp2
            try rw [Exit.noGoto_ret]
            go_ret3
            rw [numTo_bad (by decide) HN.out, HN.out]
            exact ⟨rfl, rfl⟩
          · have d4 : ((s : Int) = 56) = False := eq_false (by omega)
            clear h56
            go_wp2
            try rw [Exit.noGoto_ret]
            go_ret3
            rw [numTo_bad (by decide) HN.out, HN.out]
            exact ⟨rfl, rfl⟩
        · rw [if_neg h4] at hgo
          have HG := Aside0.mk hgo
          have h4 := Aside0.mk h4
          clear hgo
          have hbk : 0 ≤ b * 128 ^ k := Int.mul_nonneg hb0 (Int.le_of_lt (Int.pow_pos (by omega)))
          have hj2 : 0 ≤ acc + b * 128 ^ k := Int.add_nonneg ha0 hbk
          have hj3 : acc + b * 128 ^ k < 9223372036854775808 := by
            have hp : (0 : Int) < 128 ^ k := Int.pow_pos (by omega)
            have m1 : b * 128 ^ k ≤ 127 * 128 ^ k := Int.mul_le_mul_of_nonneg_right (by omega) (by omega)
            have m2 : ∀ k : Nat, k < 9 → (128 : Int) ^ k ≤ 72057594037927936 := by decide
            have m2 := m2 k (by omega)
            have := HA1.out
            omega
          have hj : bits BinOp.or IntKind.u64 acc (IntKind.u64.wrap (IntKind.u64.wrap b * 2 ^ min s 64)) = acc + b * 128 ^ k := by rw [HS.out, shl_join hk ha0 HA1.out (by omega) (by omega)]
          have hz : b = 0 → s = 0 ∧ acc = 0 := fun e => by
            have hk0 : k = 0 := by have := h4.out; omega
            have h0 := HA1.out
            have h1 := HS.out
            rw [hk0] at h0 h1
            have : (128 : Int) ^ 0 = 1 := rfl
            exact ⟨by omega, by omega⟩
          have hzj : b = 0 → acc + b * 128 ^ k = 0 := fun e => by rw [(hz e).2, e]; simp
          obtain ⟨u, hu⟩ : ∃ u, acc + b * 128 ^ k = u := ⟨_, rfl⟩
          rw [hu] at hj hj2 hj3 hzj
          have HG : Aside0 ((if most < u then ((0 : Int), 0, (12 : Int)) else (u, k + 1, 0)) = numR most l p) := ⟨by rw [← HG.out, hu]⟩
          have HU := Aside0.mk (And.intro hj2 hj3)
          have hwu : wrap64 u = u := by unfold wrap64; omega
          clear hu h2 hb1 ha0 hbk
          have hj56 : s = 56 → bits BinOp.or IntKind.u64 acc (IntKind.u64.wrap (IntKind.u64.wrap b * 72057594037927936)) = u := fun e => by rw [← hj, e]; rfl
          have EQ : Aside0 (((p + (k + 1) : Nat) : Int) = (q : Int) + 1) := ⟨by have := HQ.out; omega⟩
          by_cases hm : most < 0
          · have dm : decide (most < 0) = true := decide_eq_true hm
            have HN : Aside0 (numR most l p = (0, 0, 12)) := ⟨by rw [← HG.out, if_pos (by omega)]⟩
            have hg := hm
            clear HG hj2 hj3
            by_cases hb : b = 0
            · obtain ⟨rfl, rfl⟩ := hz hb
              obtain rfl := hzj hb
              subst hb
              clear hz hzj hj hj56 hm hg
              have hj0 : bits BinOp.or IntKind.u64 0 0 = 0 := by decide
              go_wp2
              try rw [Exit.noGoto_ret]
              go_ret3
              rw [numTo_bad (by decide) HN.out, HN.out]
              exact ⟨rfl, rfl⟩
            · have db : (b == 0) = false := by simp [hb]
              have db2 : (b = 0) = False := eq_false hb
              clear hz hzj hb hb0 hm hg
              by_cases h56 : s = 56
              · have hj := hj56 h56
                clear hj56
                subst h56
                go_wp2
                try rw [Exit.noGoto_ret]
                go_ret3
                rw [numTo_bad (by decide) HN.out, HN.out]
                exact ⟨rfl, rfl⟩
              · have d4 : ((s : Int) = 56) = False := eq_false (by omega)
                clear hj56 h56
                go_wp2
                try rw [Exit.noGoto_ret]
                go_ret3
                rw [numTo_bad (by decide) HN.out, HN.out]
                exact ⟨rfl, rfl⟩
          · have dm : decide (most < 0) = false := decide_eq_false hm
            have hwm : IntKind.u64.wrap most = most := by simp [IntKind.wrap, IntKind.bits, IntKind.signed]; omega
            by_cases hg : most < u
            · have dg : decide (most < u) = true := decide_eq_true hg
              have HN : Aside0 (numR most l p = (0, 0, 12)) := ⟨by rw [← HG.out, if_pos hg]⟩
              have hb : ¬ b = 0 := fun e => by have := hzj e; omega
              have db : (b == 0) = false := by simp [hb]
              have db2 : (b = 0) = False := eq_false hb
              clear HG hj2 hj3
              clear hz hzj hb hb0 hm hg
              by_cases h56 : s = 56
              · have hj := hj56 h56
                clear hj56
                subst h56
                go_wp2
                try rw [Exit.noGoto_ret]
                go_ret3
                rw [numTo_bad (by decide) HN.out, HN.out]
                exact ⟨rfl, rfl⟩
              · have d4 : ((s : Int) = 56) = False := eq_false (by omega)
                clear hj56 h56
                go_wp2
                try rw [Exit.noGoto_ret]
                go_ret3
                rw [numTo_bad (by decide) HN.out, HN.out]
                exact ⟨rfl, rfl⟩
            · have dg : decide (most < u) = false := decide_eq_false hg
              have HN : Aside0 (numR most l p = (u, k + 1, 0)) := ⟨by rw [← HG.out, if_neg hg]⟩
              clear HG hj2 hj3
              by_cases hb : b = 0
              · obtain ⟨rfl, rfl⟩ := hz hb
                obtain rfl := hzj hb
                subst hb
                clear hz hzj hj hj56 hm hg
                have hj0 : bits BinOp.or IntKind.u64 0 0 = 0 := by decide
                go_wp2
                try rw [Exit.noGoto_ret]
                go_ret3
                rw [numTo_ok HN.out, HN.out]
                exact ⟨by rw [EQ.out]; first | rfl | simp [hwu], rfl⟩
              · have db : (b == 0) = false := by simp [hb]
                have db2 : (b = 0) = False := eq_false hb
                clear hz hzj hb hb0 hm hg
                by_cases h56 : s = 56
                · have hj := hj56 h56
                  clear hj56
                  subst h56
                  go_wp2
                  try rw [Exit.noGoto_ret]
                  go_ret3
                  rw [numTo_ok HN.out, HN.out]
                  exact ⟨by rw [EQ.out]; first | rfl | simp [hwu], rfl⟩
                · have d4 : ((s : Int) = 56) = False := eq_false (by omega)
                  clear hj56 h56
                  go_wp2
                  try rw [Exit.noGoto_ret]
                  go_ret3
                  rw [numTo_ok HN.out, HN.out]
                  exact ⟨by rw [EQ.out]; first | rfl | simp [hwu], rfl⟩
end Go.Proofs.Ythalodnfecaccaa.Rd
