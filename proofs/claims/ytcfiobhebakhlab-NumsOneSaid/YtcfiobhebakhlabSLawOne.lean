-- By wip/late.py (a program of this session) out of wip/words.
import Derived.Test.YtcfiobhebakhlabProg
import Derived.Test.YtcfiobhebakhlabWWords
import Derived.Test.YtcfiobhebakhlabWLast
import Derived.Test.YtcfiobhebakhlabWMore
import Derived.Test.YtcfiobhebakhlabPAllx1
import Derived.Test.YtcfiobhebakhlabSRdNumC
import Derived.Test.YtcfiobhebakhlabSRdTell
import Derived.Test.YtcfiobhebakhlabSRdNew
import Derived.Test.YtcfiobhebakhlabSWrNums
import Derived.Test.YtcfiobhebakhlabSWrTwo
import Derived.RangeFuncBox
import Derived.BigQuiet
import Derived.Deep.QuietTactic
import Derived.Deep.RegionHeld
import Derived.Deep.RegionHeld3
import Derived.Lib.Hide
import Derived.Tactics
import Derived.WalkKit
import Derived.OwnWalk
import Derived.Test.YtcfiobhebakhlabSRdP
import Derived.Test.YtcfiobhebakhlabSNumsP
set_option linter.unusedVariables false
set_option linter.unusedSimpArgs false
namespace Go.Proofs.Ytcfiobhebakhlab.PAll
open Go.RowKit Go.Proofs.YtcfiobhebakhlabW.PrintWords Go.Proofs.YtcfiobhebakhlabW.PrintLast Go.Proofs.YtcfiobhebakhlabW.PrintMore Go.Proofs.Ytcfiobhebakhlab.Pure Go.Proofs.Ytcfiobhebakhlab.Wr Go.Proofs.Ytcfiobhebakhlab.Rd
open Classical in
noncomputable def tidelinelaw01_NumsOne.f (l0 : List Int) : Option Bool := if 2147483647 < (l0.length : Int) then some true else if ∀ x ∈ l0, 0 ≤ x ∧ x < 256 then some true else none
theorem oneNum {l : List Int} (hb : ∀ x ∈ l, 0 ≤ x ∧ x < 256) {n : Int} {m : Nat} (h : numR 9223372036854775807 l 0 = (n, m, 0)) : numB 8 n = l.take m ∧ 1 ≤ m ∧ m ≤ l.length ∧ m ≤ 9 ∧ 0 ≤ n ∧ n ≤ 9223372036854775807 := by
  obtain ⟨u, h0, _, h1, h2, h3, h4, h5, h6, h7⟩ := numB_numGo 9223372036854775807 l 0 0 n m hb (by omega) (by simpa [numR] using h)
  have e : n = u := by rw [h2]; simp
  subst e
  exact ⟨by simpa using h7, h4, by omega, h6, h0, h3⟩
theorem held2w {n : Nat} {T : TypeId} {W : World} {B : Nat} {v : Value} {l : List Int} {C : Prop} (h : Wrt n T W B v l) (hc : C) : Aside0 (Wrt n T W B v l) ∧ Aside0 C := ⟨⟨h⟩, ⟨hc⟩⟩
set_option maxRecDepth 100000 in
set_option maxHeartbeats 4000000 in
theorem tidelinelaw01_NumsOne.calls (A0 : Option Addr) (c0 : Nat) (l0 : List Int) (r : Bool) (w : World) (hr0 : Kd.C (Kd.int .u8) w A0 l0.length l0) (hc0 : l0.length ≤ c0) (h : tidelinelaw01_NumsOne.f l0 = some r) :
    Calls Try.prog 5 #[.slice A0 l0.length c0] w fun e w' => e = .returned (.bool r) ∧ Below w.heap.size w w' := by
  unfold tidelinelaw01_NumsOne.f at h
  have HR0 := Aside0.mk hr0
  clear hr0
  by_cases hg : 2147483647 < (l0.length : Int)
  · rw [if_pos hg] at h
    obtain rfl : true = r := by simpa using h
    have d1 : decide (2147483647 < (l0.length : Int)) = true := decide_eq_true hg
    have d2 : decide (2147483647 < l0.length) = true := decide_eq_true (by omega)
    clear h hg
    go_enter Try.func5, Try.ntmps5
    go_wp2
    go_ret
    exact ⟨rfl, Below.refl _ _⟩
  rw [if_neg hg] at h
  by_cases hk : ∀ x ∈ l0, 0 ≤ x ∧ x < 256
  case neg => rw [if_neg hk] at h; cases h
  rw [if_pos hk] at h
  obtain rfl : true = r := by simpa using h
  have AK := Aside0.mk hk
  have d1 : decide (2147483647 < (l0.length : Int)) = false := decide_eq_false hg
  have d2 : decide (2147483647 < l0.length) = false := decide_eq_false (by omega)
  have HL2 : Aside0 (l0.length ≤ 1099511627776 ∧ l0.length ≤ 9223372036854775807) := ⟨by omega⟩
  have hb := numR_bounds 9223372036854775807 (Nat.zero_le l0.length) hk
  obtain ⟨⟨n, m, er⟩, hq⟩ : ∃ q, numR 9223372036854775807 l0 0 = q := ⟨_, rfl⟩
  rw [hq] at hb
  obtain ⟨b1, b2, b3, b4, b5, b6, b7⟩ := hb
  simp only at b1 b2 b3 b4 b5 b6 b7
  have hrn := rNum_ok hq
  simp only [Nat.zero_add] at hrn
  clear h hg hk b1 b2 b3 b4 b6 b7
  by_cases h0 : er = 0
  · subst h0
    obtain ⟨k1, k2, k3, k4, k5, k6⟩ := oneNum AK.out hq
    obtain ⟨lw, hlw⟩ : ∃ lw, lw = numB 8 n := ⟨_, rfl⟩
    rw [← hlw] at k1
    have HLW := Aside0.mk k1
    have hmx : max n 0 = n := Int.max_eq_left k5
    have hlen : lw.length ≤ 9 := by rw [k1, List.length_take]; omega
    have HN := Aside0.mk (And.intro k5 k6)
    have HLE : Aside0 (lw.length ≤ 140737488355328 ∧ lw.length ≤ 9223372036854775807) := ⟨by omega⟩
    have e1 : decide ((1 : Int) ≤ (m : Int)) = true := decide_eq_true (by omega)
    have e2 : decide (1 ≤ m) = true := decide_eq_true k2
    have e3 : decide (0 < m) = true := decide_eq_true k2
    have e4 : decide ((m : Int) ≤ (l0.length : Int)) = true := decide_eq_true (by omega)
    have e5 : decide (m ≤ l0.length) = true := decide_eq_true k3
    have hlt : (l0.take m).length = m := by rw [List.length_take]; omega
    obtain ⟨i0, hi, hz0, hz1, hz2⟩ := infoB
    have hcut := cut_to (P := Try.prog) 29 5 .i64 Try.underlying29 hi A0 l0.length c0 (m : Int) (Int.natCast_nonneg m) (by omega) hc0
    simp only [Int.toNat_natCast] at hcut
    have HT : Aside0 ((l0.take m).length = m ∧ m ≤ l0.length ∧ m ≤ c0) := ⟨hlt, k3, by omega⟩
    clear k1 k2 k3 k4 k5 k6 b5 hlen hlt hi hz0 hz1 hz2
    go_enter Try.func5, Try.ntmps5
    go_wp2_with (first
      | (go_at_call 22; refine (newr_calls HR0.out HL2.out.1 AK.out).mono ?_; rintro x w1 ⟨B, A1, c1, rfl, hr1, hb1⟩; have H1 := Aside0.mk hr1; have HB1 := Aside0.mk hb1; clear hr1 hb1)
      | (go_at_call 23; have hN := num_calls 9223372036854775807 (by decide) (by decide) H1.out; simp only [hrn] at hN; refine hN.mono ?_; rintro x w2 ⟨rfl, h2⟩; have H2 := Aside0.mk h2.st; have HB2 := Aside0.mk (HB1.out.trans h2.be); clear h2 hN)
      | (go_at_call 24; refine (err_calls H2.out).mono ?_; rintro x w3 ⟨rfl, e9⟩; subst e9)
      | (go_at_call 9; refine (new_calls _).mono ?_; rintro x w4 ⟨B4, rfl, hw4, hb4⟩; have HW4 := Aside0.mk hw4; have HB4 := Aside0.mk hb4; clear hw4 hb4)
      | (go_at_call 26; (with_reducible refine (num_any n (by have := HN.out; omega) HN.out.2 HW4.out HB4.out.size (by simp)).mono ?_); rintro x w5 ⟨rfl, v5, h5⟩; rw [hmx, ← hlw, List.nil_append] at h5; have HW5 := Aside0.mk h5.st; have H5 := Aside0.mk (H2.out.below (HB4.out.trans h5.be)); have HB5 := Aside0.mk (HB2.out.trans ((HB4.out.trans h5.be).mono HB2.out.size)); clear h5)
      | (go_at_call 25; refine (at_calls H5.out).mono ?_; rintro x w6 ⟨rfl, e9⟩; subst e9))
    have HD5 := Aside0.mk (HW5.out.below (Drawn0.below (w := w6) (w' := w6.drew) ⟨⟨1, rfl⟩⟩))
    have HC5 := Aside0.mk (Kd.C_below HR0.out HB5.out)
    have HCd := Aside0.mk (Kd.C_below HC5.out (Drawn0.below (w := w6) (w' := w6.drew) ⟨⟨1, rfl⟩⟩))
    have HBd := Aside0.mk (HB5.out.trans ((Drawn0.below (w := w6) (w' := w6.drew) ⟨⟨1, rfl⟩⟩).mono HB5.out.size))
    clear hrn hq hmx hlw H1 HB1 H2 HB2 HW4 HB4 H5
    go_region_held3 (fun W => Aside0 (Wrt w3.heap.size 60 W B4 v5 lw) ∧ Aside0 (Kd.C (Kd.int .u8) W A0 l0.length l0)) (first | exact held2w HW8.out HC8.out | exact held2w HW7.out HC7.out | exact held2w HD5.out HCd.out)
      (first
        | (go_at_call 12; refine (bytes_calls HD5.out HLE.out.1).mono ?_; rintro x w7 ⟨v7, rfl, hr7, hb7⟩; have HW7 := Aside0.mk (HD5.out.below hb7); have HC7 := Aside0.mk (Kd.C_below HCd.out hb7); have HB7 := Aside0.mk (HBd.out.trans (hb7.mono HBd.out.size)); obtain ⟨A7, c7, rfl, hc7, hC7⟩ := own_C hr7 HLE.out.2; have HD7 := Aside0.mk hC7; clear hb7 hr7 hC7)
        | (go_at_call 16; have hS := tidelinelaw01_sameBytes.calls A7 c7 lw A0 c0 (l0.take m) true _ HD7.out hc7 (Kd.C_take HC7.out HT.out.2.1) (by rw [HT.out.1]; exact HT.out.2.2) (by rw [← HLW.out]; simp [tidelinelaw01_sameBytes.f]); rw [HT.out.1] at hS; refine hS.mono ?_; rintro x w8 ⟨rfl, hd8⟩; have HW8 := Aside0.mk (HW7.out.below hd8.below); have HC8 := Aside0.mk (Kd.C_below HC7.out hd8.below); have HB8 := Aside0.mk (HB7.out.trans (hd8.below.mono HB7.out.size)); clear hd8))
    go_wp2
    go_ret
    exact ⟨rfl, HB8.out⟩
  · obtain ⟨rfl, rfl⟩ := b5 h0
    have e1 : (er == 0) = false := by simp [h0]
    have e2 : (er = 0) = False := eq_false h0
    clear b5 h0
    go_enter Try.func5, Try.ntmps5
    go_wp2_with (first
      | (go_at_call 22; refine (newr_calls HR0.out HL2.out.1 AK.out).mono ?_; rintro x w1 ⟨B, A1, c1, rfl, hr1, hb1⟩; have H1 := Aside0.mk hr1; have HB1 := Aside0.mk hb1; clear hr1 hb1)
      | (go_at_call 23; have hN := num_calls 9223372036854775807 (by decide) (by decide) H1.out; simp only [hrn] at hN; refine hN.mono ?_; rintro x w2 ⟨rfl, h2⟩; have H2 := Aside0.mk h2.st; have HB2 := Aside0.mk (HB1.out.trans h2.be); clear h2 hN)
      | (go_at_call 24; refine (err_calls H2.out).mono ?_; rintro x w3 ⟨rfl, e9⟩; subst e9)
      | (go_at_call 25; refine (at_calls H2.out).mono ?_; rintro x w6 ⟨rfl, e9⟩; subst e9))
    go_ret
    exact ⟨rfl, HB2.out⟩
end Go.Proofs.Ytcfiobhebakhlab.PAll
