-- By wip/late.py (a program of this session) out of wip/words.
import Derived.Test.YthalodnfecaccaaProg
import Derived.Test.YthalodnfecaccaaWWords
import Derived.Test.YthalodnfecaccaaWLast
import Derived.Test.YthalodnfecaccaaWMore
import Derived.Test.YthalodnfecaccaaPAllx0
import Derived.Test.YthalodnfecaccaaPAllx2
import Derived.Test.YthalodnfecaccaaSWr
import Derived.Test.YthalodnfecaccaaSWrNums
import Derived.Test.YthalodnfecaccaaSWrRef
import Derived.Test.YthalodnfecaccaaSWrPut
import Derived.Test.YthalodnfecaccaaSWrLays
import Derived.RangeFuncBox
import Derived.BigQuiet
import Derived.Deep.QuietTactic
import Derived.Lib.Hide
import Derived.Tactics
import Derived.WalkKit
import Derived.OwnWalk
import Derived.Deep.RegionHeld
import Derived.Test.YthalodnfecaccaaSNumsP
set_option linter.unusedVariables false
set_option linter.unusedSimpArgs false
namespace Go.Proofs.Ythalodnfecaccaa.PAll
open Go.RowKit Go.Proofs.YthalodnfecaccaaW.PrintWords Go.Proofs.YthalodnfecaccaaW.PrintLast Go.Proofs.YthalodnfecaccaaW.PrintMore Go.Proofs.Ythalodnfecaccaa.Pure Go.Proofs.Ythalodnfecaccaa.Wr
attribute [local go_sem] max2_int min2_int max_two min_two
theorem own_C {W : World} {base : Nat} {v : Value} {l : List Int} (h : W.ownsRow base 5 1 v l.length (bv l)) (hl : l.length ≤ 9223372036854775807) : ∃ A c, v = .slice A l.length c ∧ l.length ≤ c ∧ Kd.C (Kd.int .u8) W A l.length l := by
  rcases h.2 with ⟨rfl, h0⟩ | ⟨g, cap, cur, rfl, _, _, hc, _⟩
  · exact ⟨none, 0, by rw [h0], by omega, rfl, hl, fun hp => absurd hp (by omega)⟩
  · refine ⟨some ⟨g, 0, none⟩, cap, rfl, hc, rfl, hl, fun _ => ⟨_, rfl, fun j p hj => ⟨[.int .u8 p], rfl, rfl, fun i u hu => ?_⟩⟩⟩
    match i, hu with
    | 0, hu =>
      cases hu
      have := h.cells (g := g) rfl j (.int .u8 p) (by simp [bv, hj])
      simpa [Kd.int, Kd.scalar] using this
    | i + 1, hu => simp at hu
theorem two_held {n1 n2 : Nat} {w : World} {B1 B2 : Nat} {W : World} {v1 v2 : Value} {l1 l2 : List Int} (h : Two n1 n2 w B1 B2 W v1 v2 l1 l2) : W.cell? ⟨B2, 0, none⟩ = some v2 ∧ Aside0 (Two n1 n2 w B1 B2 W v1 v2 l1 l2) := ⟨h.b.box.cell, ⟨h⟩⟩
theorem two_below {n1 n2 : Nat} {w : World} {B1 B2 : Nat} {W W' : World} {v1 v2 : Value} {l1 l2 : List Int} (h : Two n1 n2 w B1 B2 W v1 v2 l1 l2) (hb : Below W.heap.size W W') : Two n1 n2 w B1 B2 W' v1 v2 l1 l2 :=
  ⟨h.a.below hb, h.b.below hb, h.ne, h.be.trans (hb.mono h.s1), Nat.le_trans h.s1 hb.size, Nat.le_trans h.s2 hb.size, h.le⟩
theorem two_drew {n1 n2 : Nat} {w : World} {B1 B2 : Nat} {W : World} {v1 v2 : Value} {l1 l2 : List Int} (h : Two n1 n2 w B1 B2 W v1 v2 l1 l2) : Two n1 n2 w B1 B2 W.drew v1 v2 l1 l2 := two_below h (Drawn0.below ⟨1, rfl⟩)
theorem same_self (l : List Int) : tidelinelaw03_sameBytes.f l l = some true := by simp [tidelinelaw03_sameBytes.f]
def tidelinelaw03_ItemLays.f (l0 : List S25) (a1 : Int) : Option Bool := if -9223372036854775808 ≤ a1 ∧ a1 ≤ 9223372036854775807 then some true else none
set_option maxRecDepth 100000 in
set_option maxHeartbeats 4000000 in
theorem tidelinelaw03_ItemLays.calls (A0 : Option Addr) (c0 : Nat) (l0 : List S25) (a1 : Int) (r : Bool) (w : World) (hr0 : Kd.C k25 w A0 l0.length l0) (hc0 : l0.length ≤ c0) (h : tidelinelaw03_ItemLays.f l0 a1 = some r) :
    Calls Try.prog 8 #[.slice A0 l0.length c0, .int .i64 a1] w fun e w' => e = .returned (.bool r) ∧ Below w.heap.size w w' := by
  unfold tidelinelaw03_ItemLays.f at h
  by_cases ha : -9223372036854775808 ≤ a1 ∧ a1 ≤ 9223372036854775807
  case neg => rw [if_neg ha] at h; cases h
  rw [if_pos ha] at h
  obtain rfl : true = r := by simpa using h
  obtain ⟨ha0, ha1⟩ := ha
  have HR := Aside0.mk hr0
  clear hr0 h
  go_enter Try.func8, Try.ntmps8
  go_wp2
  go_loopw [5, 6] (fun s5 s6 wr => ∃ (j : Nat) (t : Int) (m : Nat), s5 = .int .i64 t ∧ s6 = .int .i64 (j : Int) ∧ j ≤ l0.length ∧ 40 * (j : Int) ≤ t ∧ t ≤ 10000000000 ∧ wr = w.drewN m) (fun _ s6 _ => l0.length - (intOf s6).toNat)
  case atStart => exact ⟨0, 0, 0, rfl, rfl, by omega, by omega, by omega, rfl⟩
  case round =>
    obtain ⟨j, t, m, rfl, rfl, hj, ht, ht2, rfl⟩ := hrel
    by_cases h1 : (j : Int) < (l0.length : Int)
    · have b1 : decide (j < l0.length) = true := decide_eq_true (by omega)
      by_cases h2 : t ≤ 1073741824
      · have b2 : decide (t ≤ 1073741824) = true := decide_eq_true h2
        obtain ⟨ad, e0, x0, x1, x2, x3, x4⟩ := at_T25 HR.out (j : Int) (by omega) h1
        cases e0
        simp only [Int.toNat_natCast] at x0 x1 x2 x3 x4
        have p0 : (0 ≤ (j : Int)) = True := eq_true (by omega)
        have q0 : ((j : Int) < (l0.length : Int)) = True := eq_true h1
        go_wp2
        go_quiet (fail)
        go_wp2
        go_roundw
        case rel =>
          have g : ∀ s : Nat, 0 ≤ (if 2147483648 < (s : Int) then 2147483648 else (s : Int)) ∧ (if 2147483648 < (s : Int) then 2147483648 else (s : Int)) ≤ 2147483648 := by intro s; split <;> omega
          have g0 := g (rd_T25 l0 (j : Int)).f0.size
          have g2 := g (rd_T25 l0 (j : Int)).f2.size
          exact ⟨j + 1, _, m + nq, rfl, by simp, by omega, by omega, by omega, rfl⟩
        case measure => simp [intOf]; omega
      · have b2 : decide (t ≤ 1073741824) = false := decide_eq_false h2
        have b3 : decide (1073741824 < t) = true := decide_eq_true (by omega)
        have h9 : (Drawn0 w (w.drewN m)) := ⟨m, rfl⟩
        go_wp2
        go_ret
        exact ⟨rfl, h9.below⟩
    · have b1 : decide (j < l0.length) = false := decide_eq_false (by omega)
      by_cases h2 : t ≤ 1073741824
      · have b3 : decide (1073741824 < t) = false := decide_eq_false (by omega)
        have b2 : decide (t ≤ 1073741824) = true := decide_eq_true h2
        have hj2 : 40 * l0.length ≤ 1073741824 := by omega
        have h9 : (Drawn0 w (w.drewN m)) := ⟨m, rfl⟩
        have hsz : (w.drewN m).heap.size = w.heap.size := by simp
        clear h1 hj ht ht2 h2
        go_wp2_with (first
          | (go_at_call 24; refine (new_calls _).mono ?_; rintro e w1 ⟨B1, rfl, hw1, hb1⟩; rw [hsz] at hw1 hb1; have HW1 := Aside0.mk hw1; have HB1 := Aside0.mk hb1; clear hw1 hb1)
          | (go_at_call 25; refine (rnew_calls _).mono ?_; rintro e w2 ⟨B2, rfl, hw2, hb2⟩; have HW2 := Aside0.mk hw2; have HB2 := Aside0.mk hb2; clear hw2 hb2))
        have hz : w.heap.size ≤ w1.heap.size := by have := HB1.out.size; omega
        have hz2 := HB2.out.size
        have HT : Aside0 (Two w.heap.size w1.heap.size w B1 B2 w2 (.slice none 0 0) (.slice none 0 0) [] []) := ⟨⟨(HW1.out.below HB2.out), HW2.out, fun g e _ => by simp [Value.ownBlock] at e, h9.below.trans (HB1.out.trans (HB2.out.mono hz)), by omega, hz2, hz⟩⟩
        clear HW1 HB1 HW2 HB2 h9 b1 b3
        go_loopw [9] (fun s9 wr => ∃ (j : Nat) (v1 v2 : Value) (l : List Int), s9 = .int .i64 (j : Int) ∧ j ≤ l0.length ∧ l.length ≤ 99 * j ∧ Two w.heap.size w1.heap.size w B1 B2 wr v1 v2 l l) (fun s9 _ => l0.length - (intOf s9).toNat)
        case atStart => exact ⟨0, _, _, [], rfl, by omega, by simp, HT.out⟩
        case round =>
          obtain ⟨j, v1, v2, l, rfl, hj, hl, ht⟩ := hrel
          have HT2 := Aside0.mk ht
          clear ht HT
          by_cases h1 : (j : Int) < (l0.length : Int)
          · have b1 : decide (j < l0.length) = true := decide_eq_true (by omega)
            obtain ⟨ad, e0, x0, x1, x2, x3, x4⟩ := at_T25 (Kd.C_below HR.out HT2.out.be) (j : Int) (by omega) h1
            cases e0
            simp only [Int.toNat_natCast] at x0 x1 x2 x3 x4
            have p0 : (0 ≤ (j : Int)) = True := eq_true (by omega)
            have q0 : ((j : Int) < (l0.length : Int)) = True := eq_true h1
            have lp := putA_len (rd_T25 l0 (j : Int))
            have ln := (numB_len 8 (max a1 0)).2
            go_wp2_with (first
              | (go_at_call 26; (with_reducible refine (put_any (rd_T25 l0 (j : Int)) HT2.out.a HT2.out.s1 (by omega)).mono ?_); rintro e w3 ⟨rfl, v3, h3⟩; have HT3 := Aside0.mk (HT2.out.left h3); clear h3 x0 x1 x2 x3 x4; obtain ⟨ad2, e0, x0, x1, x2, x3, x4⟩ := at_T25 (Kd.C_below HR.out HT3.out.be) (j : Int) (by omega) h1; cases e0; simp only [Int.toNat_natCast] at x0 x1 x2 x3 x4)
              | (go_at_call 27; (with_reducible refine (rput_any (rd_T25 l0 (j : Int)) HT3.out.b HT3.out.s2 (by omega)).mono ?_); rintro e w4 ⟨rfl, v4, h4⟩; have HT4 := Aside0.mk (HT3.out.right h4); clear h4 x0 x1 x2 x3 x4)
              | (go_at_call 28; (with_reducible refine (num_any a1 ha0 ha1 HT4.out.a HT4.out.s1 (by rw [List.length_append]; omega)).mono ?_); rintro e w5 ⟨rfl, v5, h5⟩; have HT5 := Aside0.mk (HT4.out.left h5); clear h5)
              | (go_at_call 29; (with_reducible refine (rnum_any a1 ha0 ha1 HT5.out.b HT5.out.s2 (by rw [List.length_append]; omega)).mono ?_); rintro e w6 ⟨rfl, v6, h6⟩; have HT6 := Aside0.mk (HT5.out.right h6); clear h6))
            go_roundw
            case rel => exact ⟨j + 1, _, _, _, by simp, by omega, by simp only [List.length_append]; omega, HT6.out⟩
            case measure => simp [intOf]; omega
          · have b1 : decide (j < l0.length) = false := decide_eq_false (by omega)
            obtain ⟨A2, c2, rfl, hc2⟩ := HT2.out.b.shape
            have hx := HT2.out.b.box.cell
            have HTd := Aside0.mk (two_drew HT2.out)
            go_wp2
            go_region_held (fun W => W.cell? ⟨B2, 0, none⟩ = some (.slice A2 l.length c2) ∧ Aside0 (Two w.heap.size w1.heap.size w B1 B2 W v1 (.slice A2 l.length c2) l l)) (first | exact two_held HT8.out | exact two_held HT7.out | exact two_held HTd.out)
              (first
                | (go_at_call 31; refine (bytes_calls HTd.out.a (by omega)).mono ?_; rintro e w7 ⟨v7, rfl, hr7, hb7⟩; have HT7 := Aside0.mk (two_below HTd.out hb7); obtain ⟨A7, c7, rfl, hc7, hC7⟩ := own_C hr7 (by omega); have HC7 := Aside0.mk hC7; clear hb7 hr7 hC7)
                | (go_at_call 30; refine (tidelinelaw03_sameBytes.calls A7 c7 l A2 c2 l true _ HC7.out hc7 ?_ hc2 (same_self l)).mono ?_; (obtain ⟨Ax, cx, ex, _, hCx⟩ := own_C HT7.out.b.row (by omega); cases ex; exact hCx); rintro e w8 ⟨rfl, hd8⟩; have HT8 := Aside0.mk (two_below HT7.out hd8.below); clear hd8))
            go_wp2
            go_ret
            exact ⟨rfl, HT8.out.be⟩
      · have b3 : decide (1073741824 < t) = true := decide_eq_true (by omega)
        have b2 : decide (t ≤ 1073741824) = false := decide_eq_false h2
        have h9 : (Drawn0 w (w.drewN m)) := ⟨m, rfl⟩
        go_wp2
        go_ret
        exact ⟨rfl, h9.below⟩
end Go.Proofs.Ythalodnfecaccaa.PAll
