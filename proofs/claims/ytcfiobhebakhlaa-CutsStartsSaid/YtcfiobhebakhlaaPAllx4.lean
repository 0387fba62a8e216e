-- By wip/pr.py (a program of this session, over the kit's print): lines written by program. Not trusted: Lean checks them.
import Derived.Test.YtcfiobhebakhlaaPAllx0
import Derived.Test.YtcfiobhebakhlaaPAllx2
import Derived.Test.YtcfiobhebakhlaaPAllx3
namespace Go.Proofs.Ytcfiobhebakhlaa.PAll
open Go.RowKit Go.Proofs.YtcfiobhebakhlaaW.PrintWords Go.Proofs.YtcfiobhebakhlaaW.PrintLast Go.Proofs.YtcfiobhebakhlaaW.PrintMore
attribute [local go_sem] max2_int min2_int max_two min_two max_three min_three max_four min_four   -- for this text's walks alone
set_option linter.unusedVariables false
set_option linter.unusedSimpArgs false

/-! ### tidelinelaw07_CutsStarts: function 3 -/
mutual
def tidelinelaw07_CutsStarts.j0 : Nat → Int → Int → List Int → Int → Bool → Option (Bool)
  | 0, _, _, _, _, _ => none
  | k + 1, x0, x1, x5, x6, x31 => if x31 = true then (some false) else (tidelinelaw07_CutsStarts.l0 k x0 x1 x5 x6 0)
def tidelinelaw07_CutsStarts.l0 : Nat → Int → Int → List Int → Int → Int → Option (Bool)
  | 0, _, _, _, _, _ => none
  | k + 1, x0, x1, x5, x6, x9 => if x9 < (x5.length : Int) then (if (wrap64 (x9 + 1)) < (x5.length : Int) then (if 0 ≤ (wrap64 (x9 + 1)) then (if 0 ≤ x9 then (if x1 = 0 then (none) else (if (wrap64 ((rd x5 (wrap64 (x9 + 1))) - (rd x5 x9))) < (wrap64 (Int.tdiv x0 x1)) then (some false) else (if (wrap64 ((rd x5 (wrap64 (x9 + 1))) - (rd x5 x9))) > (wrap64 ((wrap64 (Int.tdiv x0 x1)) + 1)) then (some false) else (if (wrap64 ((rd x5 (wrap64 (x9 + 1))) - (rd x5 x9))) < 1 then (some false) else (tidelinelaw07_CutsStarts.l0 k x0 x1 x5 x6 (wrap64 (x9 + 1))))))) else (none)) else (none)) else (if 0 ≤ x9 then (if x1 = 0 then (none) else (if (wrap64 (x0 - (rd x5 x9))) < (wrap64 (Int.tdiv x0 x1)) then (some false) else (if (wrap64 (x0 - (rd x5 x9))) > (wrap64 ((wrap64 (Int.tdiv x0 x1)) + 1)) then (some false) else (if (wrap64 (x0 - (rd x5 x9))) < 1 then (some false) else (tidelinelaw07_CutsStarts.l0 k x0 x1 x5 x6 (wrap64 (x9 + 1))))))) else (none))) else (if x6 = 0 then (if (x5.length : Int) = x1 then (if 0 < (x5.length : Int) then (some ((rd x5 0) == 0)) else (none)) else (some false)) else (some true))
end
def tidelinelaw07_CutsStarts.f (k : Nat) (a0 : Int) (a1 : Int) : Option (Bool) := (cuts_Starts.f k a0 a1).bind fun bt113 => ((tidelineref07_Starts.f k a0 a1).bind fun bt117 => (if bt113.2 = bt117.2 then ((tidelinelaw07_sameInts.f k bt113.1 bt117.1).bind fun t121 => (tidelinelaw07_CutsStarts.j0 k a0 a1 bt113.1 bt113.2 (!t121))) else (tidelinelaw07_CutsStarts.j0 k a0 a1 bt113.1 bt113.2 true)))
theorem tidelinelaw07_CutsStarts.mono_l : ∀ k, (∀ y0 y1 y2 y3 y4, LeO (tidelinelaw07_CutsStarts.j0 k y0 y1 y2 y3 y4) (tidelinelaw07_CutsStarts.j0 (k + 1) y0 y1 y2 y3 y4)) ∧ (∀ y0 y1 y2 y3 y4, LeO (tidelinelaw07_CutsStarts.l0 k y0 y1 y2 y3 y4) (tidelinelaw07_CutsStarts.l0 (k + 1) y0 y1 y2 y3 y4))
  | 0 => ⟨fun _ _ _ _ _ r h => by simp [tidelinelaw07_CutsStarts.j0] at h, fun _ _ _ _ _ r h => by simp [tidelinelaw07_CutsStarts.l0] at h⟩
  | k + 1 => by
    obtain ⟨ih0, ih1⟩ := tidelinelaw07_CutsStarts.mono_l k
    refine ⟨?_, ?_⟩
    · intro y0 y1 y2 y3 y4
      unfold tidelinelaw07_CutsStarts.j0
      repeat' first
      | (with_reducible exact ih0 _ _ _ _ _)
      | (with_reducible exact ih1 _ _ _ _ _)
      | (with_reducible exact cuts_Starts.mono _ _ _)
      | (with_reducible exact tidelinelaw07_sameInts.mono _ _ _)
      | (with_reducible exact tidelineref07_Starts.mono _ _ _)
      | (with_reducible exact LeO.refl _)
      | (with_reducible exact LeO.none _)
      | (with_reducible refine LeO.ite ?_ ?_)
      | (with_reducible refine LeO.bind ?_ (fun _ => ?_))
      | exact ih0 _ _ _ _ _
      | exact ih1 _ _ _ _ _
      | exact cuts_Starts.mono _ _ _
      | exact tidelinelaw07_sameInts.mono _ _ _
      | exact tidelineref07_Starts.mono _ _ _
      | exact LeO.none _
      | refine LeO.ite ?_ ?_
      | refine LeO.bind ?_ (fun _ => ?_)
    · intro y0 y1 y2 y3 y4
      unfold tidelinelaw07_CutsStarts.l0
      repeat' first
      | (with_reducible exact ih0 _ _ _ _ _)
      | (with_reducible exact ih1 _ _ _ _ _)
      | (with_reducible exact cuts_Starts.mono _ _ _)
      | (with_reducible exact tidelinelaw07_sameInts.mono _ _ _)
      | (with_reducible exact tidelineref07_Starts.mono _ _ _)
      | (with_reducible exact LeO.refl _)
      | (with_reducible exact LeO.none _)
      | (with_reducible refine LeO.ite ?_ ?_)
      | (with_reducible refine LeO.bind ?_ (fun _ => ?_))
      | exact ih0 _ _ _ _ _
      | exact ih1 _ _ _ _ _
      | exact cuts_Starts.mono _ _ _
      | exact tidelinelaw07_sameInts.mono _ _ _
      | exact tidelineref07_Starts.mono _ _ _
      | exact LeO.none _
      | refine LeO.ite ?_ ?_
      | refine LeO.bind ?_ (fun _ => ?_)
theorem tidelinelaw07_CutsStarts.mono : ∀ a0 a1 k, LeO (tidelinelaw07_CutsStarts.f k a0 a1) (tidelinelaw07_CutsStarts.f (k + 1) a0 a1) := by
  intro a0 a1 k
  obtain ⟨ih0, ih1⟩ := tidelinelaw07_CutsStarts.mono_l k
  unfold tidelinelaw07_CutsStarts.f
  repeat' first
      | (with_reducible exact ih0 _ _ _ _ _)
      | (with_reducible exact ih1 _ _ _ _ _)
      | (with_reducible exact cuts_Starts.mono _ _ _)
      | (with_reducible exact tidelinelaw07_sameInts.mono _ _ _)
      | (with_reducible exact tidelineref07_Starts.mono _ _ _)
      | (with_reducible exact LeO.refl _)
      | (with_reducible exact LeO.none _)
      | (with_reducible refine LeO.ite ?_ ?_)
      | (with_reducible refine LeO.bind ?_ (fun _ => ?_))
      | exact ih0 _ _ _ _ _
      | exact ih1 _ _ _ _ _
      | exact cuts_Starts.mono _ _ _
      | exact tidelinelaw07_sameInts.mono _ _ _
      | exact tidelineref07_Starts.mono _ _ _
      | exact LeO.none _
      | refine LeO.ite ?_ ?_
      | refine LeO.bind ?_ (fun _ => ?_)
set_option maxHeartbeats 8000000 in
set_option maxRecDepth 100000 in
theorem tidelinelaw07_CutsStarts.calls (k : Nat) (a0 : Int) (a1 : Int) (r : Bool) (w : World) (h : tidelinelaw07_CutsStarts.f k a0 a1 = some r) :
    Calls Try.prog 3 #[.int .i64 a0, .int .i64 a1] w fun e w' => e = .returned (.bool r) ∧ Below w.heap.size w w' := by
  have HB := Aside0.mk (Below.refl w.heap.size w)
  have H : ((cuts_Starts.f k a0 a1).bind fun bt113 => ((tidelineref07_Starts.f k a0 a1).bind fun bt117 => (if bt113.2 = bt117.2 then ((tidelinelaw07_sameInts.f k bt113.1 bt117.1).bind fun t121 => (tidelinelaw07_CutsStarts.j0 k a0 a1 bt113.1 bt113.2 (!t121))) else (tidelinelaw07_CutsStarts.j0 k a0 a1 bt113.1 bt113.2 true)))) = some r := h
  clear h
  replace H := Option.bind_eq_some_iff.mp H
  obtain ⟨⟨t113, t114⟩, A30, H⟩ := H
  replace H : ((tidelineref07_Starts.f k a0 a1).bind fun bt117 => (if t114 = bt117.2 then ((tidelinelaw07_sameInts.f k t113 bt117.1).bind fun t121 => (tidelinelaw07_CutsStarts.j0 k a0 a1 t113 t114 (!t121))) else (tidelinelaw07_CutsStarts.j0 k a0 a1 t113 t114 true))) = some r := H
  have A3 := Aside0.mk A30
  clear A30
  replace H := Option.bind_eq_some_iff.mp H
  obtain ⟨⟨t117, t118⟩, A40, H⟩ := H
  replace H : (if t114 = t118 then ((tidelinelaw07_sameInts.f k t113 t117).bind fun t121 => (tidelinelaw07_CutsStarts.j0 k a0 a1 t113 t114 (!t121))) else (tidelinelaw07_CutsStarts.j0 k a0 a1 t113 t114 true)) = some r := H
  have A4 := Aside0.mk A40
  clear A40
  have HC5 := Aside0.mk H
  clear H
  go_enter Try.func3, Try.ntmps3
  go_upto_region 3 with (first | (go_at_call 10; (with_reducible refine (cuts_Starts.calls k a0 a1 t113 t114 _ A3.out).mono ?_); rintro e w6 ⟨v115, rfl, ho0, hb⟩; have n0_ := Aside0.mk (Kd.R_lower ho0 (below_size (by repeat (first | (with_reducible first | exact HB.out | apply below_alloc | apply pw_below_drewN | apply below_drew1) | exact HB.out)))); have n1_ := Aside0.mk (below_step (by repeat (first | (with_reducible first | exact HB.out | apply below_alloc | apply pw_below_drewN | apply below_drew1) | exact HB.out)) hb); clear HB; have HO116 := n0_; have HB := n1_; clear n0_ n1_; (try clear hb); (try clear hb2); (try clear hk); (try clear hi); (try clear ho0)) | (go_at_call 11; (with_reducible refine (tidelineref07_Starts.calls k a0 a1 t117 t118 _ A4.out).mono ?_); rintro e w7 ⟨v119, rfl, ho0, hb⟩; have n0_ := Aside0.mk (Kd.R_elder' (by (with_reducible repeat (first | apply Kd.R_alloc | apply Kd.R_drewN | apply Kd.R_drew)); exact HO116.out) (Kd.R_base ho0) hb); have n1_ := Aside0.mk (Kd.R_lower (Kd.R_new' ho0 (Kd.R_lt (by (with_reducible repeat (first | apply Kd.R_alloc | apply Kd.R_drewN | apply Kd.R_drew)); exact HO116.out))) (below_size (by repeat (first | (with_reducible first | exact HB.out | apply below_alloc | apply pw_below_drewN | apply below_drew1) | exact HB.out)))); have n2_ := Aside0.mk (below_step (by repeat (first | (with_reducible first | exact HB.out | apply below_alloc | apply pw_below_drewN | apply below_drew1) | exact HB.out)) hb); clear HO116; clear HB; have HO116 := n0_; have HO120 := n1_; have HB := n2_; clear n0_ n1_ n2_; (try clear hb); (try clear hb2); (try clear hk); (try clear hi); (try clear ho0)))
  repeat (go_quiet (first | (go_at_call 10; (with_reducible refine (cuts_Starts.calls k a0 a1 t113 t114 _ A3.out).mono ?_); rintro e w6 ⟨v115, rfl, ho0, hb⟩; have n0_ := Aside0.mk (Kd.R_lower ho0 (below_size (by repeat (first | (with_reducible first | exact HB.out | apply below_alloc | apply pw_below_drewN | apply below_drew1) | exact HB.out)))); have n1_ := Aside0.mk (below_step (by repeat (first | (with_reducible first | exact HB.out | apply below_alloc | apply pw_below_drewN | apply below_drew1) | exact HB.out)) hb); clear HB; have HO116 := n0_; have HB := n1_; clear n0_ n1_; (try clear hb); (try clear hb2); (try clear hk); (try clear hi); (try clear ho0)) | (go_at_call 11; (with_reducible refine (tidelineref07_Starts.calls k a0 a1 t117 t118 _ A4.out).mono ?_); rintro e w7 ⟨v119, rfl, ho0, hb⟩; have n0_ := Aside0.mk (Kd.R_elder' (by (with_reducible repeat (first | apply Kd.R_alloc | apply Kd.R_drewN | apply Kd.R_drew)); exact HO116.out) (Kd.R_base ho0) hb); have n1_ := Aside0.mk (Kd.R_lower (Kd.R_new' ho0 (Kd.R_lt (by (with_reducible repeat (first | apply Kd.R_alloc | apply Kd.R_drewN | apply Kd.R_drew)); exact HO116.out))) (below_size (by repeat (first | (with_reducible first | exact HB.out | apply below_alloc | apply pw_below_drewN | apply below_drew1) | exact HB.out)))); have n2_ := Aside0.mk (below_step (by repeat (first | (with_reducible first | exact HB.out | apply below_alloc | apply pw_below_drewN | apply below_drew1) | exact HB.out)) hb); clear HO116; clear HB; have HO116 := n0_; have HO120 := n1_; have HB := n2_; clear n0_ n1_ n2_; (try clear hb); (try clear hb2); (try clear hk); (try clear hi); (try clear ho0))); go_upto_region 3 with (first | (go_at_call 10; (with_reducible refine (cuts_Starts.calls k a0 a1 t113 t114 _ A3.out).mono ?_); rintro e w6 ⟨v115, rfl, ho0, hb⟩; have n0_ := Aside0.mk (Kd.R_lower ho0 (below_size (by repeat (first | (with_reducible first | exact HB.out | apply below_alloc | apply pw_below_drewN | apply below_drew1) | exact HB.out)))); have n1_ := Aside0.mk (below_step (by repeat (first | (with_reducible first | exact HB.out | apply below_alloc | apply pw_below_drewN | apply below_drew1) | exact HB.out)) hb); clear HB; have HO116 := n0_; have HB := n1_; clear n0_ n1_; (try clear hb); (try clear hb2); (try clear hk); (try clear hi); (try clear ho0)) | (go_at_call 11; (with_reducible refine (tidelineref07_Starts.calls k a0 a1 t117 t118 _ A4.out).mono ?_); rintro e w7 ⟨v119, rfl, ho0, hb⟩; have n0_ := Aside0.mk (Kd.R_elder' (by (with_reducible repeat (first | apply Kd.R_alloc | apply Kd.R_drewN | apply Kd.R_drew)); exact HO116.out) (Kd.R_base ho0) hb); have n1_ := Aside0.mk (Kd.R_lower (Kd.R_new' ho0 (Kd.R_lt (by (with_reducible repeat (first | apply Kd.R_alloc | apply Kd.R_drewN | apply Kd.R_drew)); exact HO116.out))) (below_size (by repeat (first | (with_reducible first | exact HB.out | apply below_alloc | apply pw_below_drewN | apply below_drew1) | exact HB.out)))); have n2_ := Aside0.mk (below_step (by repeat (first | (with_reducible first | exact HB.out | apply below_alloc | apply pw_below_drewN | apply below_drew1) | exact HB.out)) hb); clear HO116; clear HB; have HO116 := n0_; have HO120 := n1_; have HB := n2_; clear n0_ n1_ n2_; (try clear hb); (try clear hb2); (try clear hk); (try clear hi); (try clear ho0))))
  (try simp only [Act.put, List.setIfInBounds_toArray, List.set_cons_zero, List.set_cons_succ])
  go_cut [31] (fun v31 wc => ∃ (kq : Nat) (x31_4 : Bool), v31 = .bool x31_4 ∧ Aside0 (tidelinelaw07_CutsStarts.j0 kq a0 a1 t113 t114 x31_4 = some r) ∧ Aside0 (kq ≤ k) ∧ Aside0 (Kd.R (Kd.int .i64) 3 wc w.heap.size (fun _ => True) v115 t113) ∧ Aside0 (Below w.heap.size w wc))
  case first =>
    have H := HC5.out
    clear HC5
    by_cases c8 : t114 = t118
    · rw [if_pos c8] at H
      have c8b0 : (t114 == t118) = true := beq_iff_eq.mpr c8
      have c8b1 : (t114 != t118) = false := bne_eq_false_iff_eq.mpr c8
      clear c8
      (first | rw [c8b0] | (simp only [i64_w, i32_w]; rw [c8b0]) | skip)
      replace H := Option.bind_eq_some_iff.mp H
      obtain ⟨t121, A90, H⟩ := H
      replace H : (tidelinelaw07_CutsStarts.j0 k a0 a1 t113 t114 (!t121)) = some r := H
      have A9 := Aside0.mk A90
      clear A90
      have H' := Aside0.mk H
      clear H
      obtain ⟨Ao10, co10, eo10⟩ := Kd.R_slice HO116.out
      subst eo10
      obtain ⟨Ao11, co11, eo11⟩ := Kd.R_slice HO120.out
      subst eo11
      go_wp2_with (first | (go_at_call 12; (with_reducible refine (tidelinelaw07_sameInts.calls k _ _ t113 _ _ t117 t121 _ ?side1 ?side2 ?side3 ?side4 A9.out).mono ?_); (case side1 => repeat (first | exact (Kd.R_reads' HO116.out).2.2 | (with_reducible refine Kd.C_alloc ?_ _) | (with_reducible refine Kd.C_drewN ?_ _) | (with_reducible refine Kd.C_drew ?_))); (case side2 => exact (Kd.R_reads' HO116.out).2.1); (case side3 => repeat (first | exact (Kd.R_reads' HO120.out).2.2 | (with_reducible refine Kd.C_alloc ?_ _) | (with_reducible refine Kd.C_drewN ?_ _) | (with_reducible refine Kd.C_drew ?_))); (case side4 => exact (Kd.R_reads' HO120.out).2.1); rintro e w' ⟨rfl, ⟨nd, rfl⟩⟩; (try first | exact ⟨rfl, _, World.drewN_drewN _ _ _⟩ | exact ⟨rfl, _, Eq.trans (World.drewN_drewN _ _ _) (congrArg (World.drewN _) (Nat.add_assoc _ _ _))⟩)))
      repeat (go_quiet (first | (go_at_call 12; (with_reducible refine (tidelinelaw07_sameInts.calls k _ _ t113 _ _ t117 t121 _ ?side1 ?side2 ?side3 ?side4 A9.out).mono ?_); (case side1 => repeat (first | exact (Kd.R_reads' HO116.out).2.2 | (with_reducible refine Kd.C_alloc ?_ _) | (with_reducible refine Kd.C_drewN ?_ _) | (with_reducible refine Kd.C_drew ?_))); (case side2 => exact (Kd.R_reads' HO116.out).2.1); (case side3 => repeat (first | exact (Kd.R_reads' HO120.out).2.2 | (with_reducible refine Kd.C_alloc ?_ _) | (with_reducible refine Kd.C_drewN ?_ _) | (with_reducible refine Kd.C_drew ?_))); (case side4 => exact (Kd.R_reads' HO120.out).2.1); rintro e w' ⟨rfl, ⟨nd, rfl⟩⟩; (try first | exact ⟨rfl, _, World.drewN_drewN _ _ _⟩ | exact ⟨rfl, _, Eq.trans (World.drewN_drewN _ _ _) (congrArg (World.drewN _) (Nat.add_assoc _ _ _))⟩))); try go_wp2_with (first | (go_at_call 12; (with_reducible refine (tidelinelaw07_sameInts.calls k _ _ t113 _ _ t117 t121 _ ?side1 ?side2 ?side3 ?side4 A9.out).mono ?_); (case side1 => repeat (first | exact (Kd.R_reads' HO116.out).2.2 | (with_reducible refine Kd.C_alloc ?_ _) | (with_reducible refine Kd.C_drewN ?_ _) | (with_reducible refine Kd.C_drew ?_))); (case side2 => exact (Kd.R_reads' HO116.out).2.1); (case side3 => repeat (first | exact (Kd.R_reads' HO120.out).2.2 | (with_reducible refine Kd.C_alloc ?_ _) | (with_reducible refine Kd.C_drewN ?_ _) | (with_reducible refine Kd.C_drew ?_))); (case side4 => exact (Kd.R_reads' HO120.out).2.1); rintro e w' ⟨rfl, ⟨nd, rfl⟩⟩; (try first | exact ⟨rfl, _, World.drewN_drewN _ _ _⟩ | exact ⟨rfl, _, Eq.trans (World.drewN_drewN _ _ _) (congrArg (World.drewN _) (Nat.add_assoc _ _ _))⟩))))
      go_meet
      case rel => exact ⟨_, (!t121), (by first | rfl | (simp; done) | (simp [*]; done)), H', ⟨by first | omega | exact Nat.le_refl _⟩, ⟨by (with_reducible repeat (first | apply Kd.R_alloc | apply Kd.R_drewN | apply Kd.R_drew)); exact Kd.R_mono HO116.out (fun _ hk => trivial)⟩, ⟨by repeat (first | (with_reducible first | exact HB.out | apply below_alloc | apply pw_below_drewN | apply below_drew1) | exact HB.out)⟩⟩
    · rw [if_neg c8] at H
      have c8b0 : (t114 == t118) = false := beq_eq_false_iff_ne.mpr c8
      have c8b1 : (t114 != t118) = true := bne_iff_ne.mpr c8
      (first | rw [c8b0] | (simp only [i64_w, i32_w]; rw [c8b0]) | skip)
      have H' := Aside0.mk H
      clear H
      go_wp2
      repeat (go_quiet (fail); try go_wp2)
      go_meet
      case rel => exact ⟨_, (true), (by first | rfl | (simp; done) | (simp [*]; done)), H', ⟨by first | omega | exact Nat.le_refl _⟩, ⟨by (with_reducible repeat (first | apply Kd.R_alloc | apply Kd.R_drewN | apply Kd.R_drew)); exact Kd.R_mono HO116.out (fun _ hk => trivial)⟩, ⟨by repeat (first | (with_reducible first | exact HB.out | apply below_alloc | apply pw_below_drewN | apply below_drew1) | exact HB.out)⟩⟩
  case rest =>
    clear HC5
    try clear p2
    try clear c3
    try clear c8
    try clear c8b0
    try clear c8b1
    obtain ⟨kq, x31_4, rfl, HA, HJ4, HO_5, HB⟩ := hcut
    cases kq with
    | zero => exact absurd HA.out (by simp [tidelinelaw07_CutsStarts.j0])
    | succ kj4 =>
      have H := HA.out
      clear HA
      simp only [tidelinelaw07_CutsStarts.j0] at H
      by_cases c12 : x31_4 = true
      · subst c12
        have H1 : (some false) = some r := by rw [if_pos rfl] at H; exact H
        clear H
        have H := H1
        clear H1
        obtain rfl := Option.some.inj H
        go_wp2
        repeat (go_quiet (fail); try go_wp2)
        go_ret
        exact ⟨by first | rfl | (simp [errW_none, errW_some] <;> rfl) | (simp [*, errW_none, errW_some] <;> rfl), by repeat (first | (with_reducible first | exact HB.out | apply below_alloc | apply pw_below_drewN | apply below_drew1) | exact HB.out)⟩
      · replace c12 := Bool.eq_false_iff.mpr c12
        subst c12
        have H1 : (tidelinelaw07_CutsStarts.l0 kj4 a0 a1 t113 t114 0) = some r := by rw [if_neg (show ¬ (false = true) by decide)] at H; exact H
        clear H
        have H := H1
        clear H1
        have H' := Aside0.mk H
        clear H
        go_wp2
        repeat (go_quiet (fail); try go_wp2)
        go_loopg [9] kj4 (fun kq v9 w' => ∃ (x9_2 : Int), v9 = .int .i64 x9_2 ∧ Aside0 (tidelinelaw07_CutsStarts.l0 kq a0 a1 t113 t114 x9_2 = some r) ∧ Aside0 (kq ≤ kj4) ∧ Aside0 (Kd.R (Kd.int .i64) 3 w' w.heap.size (fun _ => True) v115 t113) ∧ Aside0 (Below w.heap.size w w'))
        case atStart => exact ⟨(0), (by first | rfl | (simp; done) | (simp [*]; done)), H', ⟨Nat.le_refl _⟩, ⟨by (with_reducible repeat (first | apply Kd.R_alloc | apply Kd.R_drewN | apply Kd.R_drew)); exact HO_5.out⟩, ⟨by repeat (first | (with_reducible first | exact HB.out | apply below_alloc | apply pw_below_drewN | apply below_drew1) | exact HB.out)⟩⟩
        case round =>
          clear H'
          try clear c1
          try clear p2
          try clear c3
          try clear c8
          try clear c8b0
          try clear c8b1
          try clear c12
          try clear p2
          obtain ⟨x9_2, rfl, HA, HK2, HO_5, HB⟩ := hrel
          cases gk with
          | zero => exact absurd HA.out (by simp [tidelinelaw07_CutsStarts.l0])
          | succ k2 =>
            have H := HA.out
            clear HA
            simp only [tidelinelaw07_CutsStarts.l0] at H
            by_cases c13 : x9_2 < (t113.length : Int)
            · rw [if_pos c13] at H
              have c13b0 : decide (x9_2 < (t113.length : Int)) = true := decide_eq_true c13
              clear c13
              by_cases c14 : (wrap64 (x9_2 + 1)) < (t113.length : Int)
              · rw [if_pos c14] at H
                have c14b0 : decide ((wrap64 (x9_2 + 1)) < (t113.length : Int)) = true := decide_eq_true c14
                clear c14
                obtain ⟨ji15, hji15⟩ : ∃ j_ : Int, (wrap64 (x9_2 + 1)) = j_ := ⟨_, rfl⟩
                replace H : (if 0 ≤ (ji15) then (if 0 ≤ x9_2 then (if a1 = 0 then (none) else (if (wrap64 ((rd t113 (ji15)) - (rd t113 x9_2))) < (wrap64 (Int.tdiv a0 a1)) then (some false) else (if (wrap64 ((rd t113 (ji15)) - (rd t113 x9_2))) > (wrap64 ((wrap64 (Int.tdiv a0 a1)) + 1)) then (some false) else (if (wrap64 ((rd t113 (ji15)) - (rd t113 x9_2))) < 1 then (some false) else (tidelinelaw07_CutsStarts.l0 k2 a0 a1 t113 t114 ji15))))) else (none)) else (none)) = some r := by first | (rw [hji15] at H; exact H) | (simp only [hji15] at H ⊢; exact H)
                (try rw [hji15] at c14b0)
                have hji15w : (IntKind.i64.wrap (x9_2 + 1)) = ji15 := (i64_w _).trans hji15
                by_cases c16 : 0 ≤ (ji15)
                · rw [if_pos c16] at H
                  have c16b0 : decide (0 ≤ (ji15)) = true := decide_eq_true c16
                  clear c16
                  by_cases c17 : 0 ≤ x9_2
                  · rw [if_pos c17] at H
                    have c17b0 : decide (0 ≤ x9_2) = true := decide_eq_true c17
                    clear c17
                    by_cases c18 : a1 = 0
                    · rw [if_pos c18] at H
                      exact absurd H (by simp)
                    · rw [if_neg c18] at H
                      have c18b0 : (a1 == 0) = false := beq_eq_false_iff_ne.mpr c18
                      have c18b1 : (a1 != 0) = true := bne_iff_ne.mpr c18
                      by_cases c19 : (wrap64 ((rd t113 (ji15)) - (rd t113 x9_2))) < (wrap64 (Int.tdiv a0 a1))
                      · rw [if_pos c19] at H
                        have c19b0 : decide ((wrap64 ((rd t113 (ji15)) - (rd t113 x9_2))) < (wrap64 (Int.tdiv a0 a1))) = true := decide_eq_true c19
                        clear c19
                        obtain rfl := Option.some.inj H
                        obtain ⟨Ao20, co20, eo20⟩ := Kd.R_slice HO_5.out
                        subst eo20
                        have p123 : 0 ≤ ((ji15) : Int) := of_decide_eq_true (by first | (with_reducible assumption) | assumption)
                        have q123 : (ji15) < (t113.length : Int) := of_decide_eq_true (by first | (with_reducible assumption) | assumption)
                        obtain ⟨ad123, e123, hx123_0⟩ := Kd.at_int (Kd.R_reads' HO_5.out).2.2 (ji15) p123 q123
                        cases e123
                        replace p123 := eq_true p123
                        replace q123 := eq_true q123
                        have p124 : 0 ≤ (x9_2 : Int) := of_decide_eq_true (by first | (with_reducible assumption) | assumption)
                        have q124 : x9_2 < (t113.length : Int) := of_decide_eq_true (by first | (with_reducible assumption) | assumption)
                        obtain ⟨ad124, e124, hx124_0⟩ := Kd.at_int (Kd.R_reads' HO_5.out).2.2 x9_2 p124 q124
                        obtain rfl : ad123 = ad124 := (by injection e124)
                        replace p124 := eq_true p124
                        replace q124 := eq_true q124
                        go_wp2
                        repeat (go_quiet (fail); try go_wp2)
                        go_ret
                        exact ⟨by first | rfl | (simp [errW_none, errW_some] <;> rfl) | (simp only [← hji15]; first | rfl | (simp [errW_none, errW_some] <;> rfl)) | (simp [*, errW_none, errW_some] <;> rfl), by repeat (first | (with_reducible first | exact HB.out | apply below_alloc | apply pw_below_drewN | apply below_drew1) | exact HB.out)⟩
                      · rw [if_neg c19] at H
                        have c19b0 : decide ((wrap64 ((rd t113 (ji15)) - (rd t113 x9_2))) < (wrap64 (Int.tdiv a0 a1))) = false := decide_eq_false c19
                        clear c19
                        by_cases c21 : (wrap64 ((rd t113 (ji15)) - (rd t113 x9_2))) > (wrap64 ((wrap64 (Int.tdiv a0 a1)) + 1))
                        · rw [if_pos c21] at H
                          have c21b0 : decide ((wrap64 ((wrap64 (Int.tdiv a0 a1)) + 1)) < (wrap64 ((rd t113 (ji15)) - (rd t113 x9_2)))) = true := decide_eq_true c21
                          clear c21
                          obtain rfl := Option.some.inj H
                          obtain ⟨Ao22, co22, eo22⟩ := Kd.R_slice HO_5.out
                          subst eo22
                          have p123 : 0 ≤ ((ji15) : Int) := of_decide_eq_true (by first | (with_reducible assumption) | assumption)
                          have q123 : (ji15) < (t113.length : Int) := of_decide_eq_true (by first | (with_reducible assumption) | assumption)
                          obtain ⟨ad123, e123, hx123_0⟩ := Kd.at_int (Kd.R_reads' HO_5.out).2.2 (ji15) p123 q123
                          cases e123
                          replace p123 := eq_true p123
                          replace q123 := eq_true q123
                          have p124 : 0 ≤ (x9_2 : Int) := of_decide_eq_true (by first | (with_reducible assumption) | assumption)
                          have q124 : x9_2 < (t113.length : Int) := of_decide_eq_true (by first | (with_reducible assumption) | assumption)
                          obtain ⟨ad124, e124, hx124_0⟩ := Kd.at_int (Kd.R_reads' HO_5.out).2.2 x9_2 p124 q124
                          obtain rfl : ad123 = ad124 := (by injection e124)
                          replace p124 := eq_true p124
                          replace q124 := eq_true q124
                          have p125 : 0 ≤ (x9_2 : Int) := of_decide_eq_true (by first | (with_reducible assumption) | assumption)
                          have q125 : x9_2 < (t113.length : Int) := of_decide_eq_true (by first | (with_reducible assumption) | assumption)
                          obtain ⟨ad125, e125, hx125_0⟩ := Kd.at_int (Kd.R_reads' HO_5.out).2.2 x9_2 p125 q125
                          obtain rfl : ad123 = ad125 := (by injection e125)
                          replace p125 := eq_true p125
                          replace q125 := eq_true q125
                          go_wp2
                          repeat (go_quiet (fail); try go_wp2)
                          go_ret
                          exact ⟨by first | rfl | (simp [errW_none, errW_some] <;> rfl) | (simp only [← hji15]; first | rfl | (simp [errW_none, errW_some] <;> rfl)) | (simp [*, errW_none, errW_some] <;> rfl), by repeat (first | (with_reducible first | exact HB.out | apply below_alloc | apply pw_below_drewN | apply below_drew1) | exact HB.out)⟩
                        · rw [if_neg c21] at H
                          have c21b0 : decide ((wrap64 ((wrap64 (Int.tdiv a0 a1)) + 1)) < (wrap64 ((rd t113 (ji15)) - (rd t113 x9_2)))) = false := decide_eq_false c21
                          clear c21
                          by_cases c23 : (wrap64 ((rd t113 (ji15)) - (rd t113 x9_2))) < 1
                          · rw [if_pos c23] at H
                            have c23b0 : decide ((wrap64 ((rd t113 (ji15)) - (rd t113 x9_2))) < 1) = true := decide_eq_true c23
                            clear c23
                            obtain rfl := Option.some.inj H
                            obtain ⟨Ao24, co24, eo24⟩ := Kd.R_slice HO_5.out
                            subst eo24
                            have p123 : 0 ≤ ((ji15) : Int) := of_decide_eq_true (by first | (with_reducible assumption) | assumption)
                            have q123 : (ji15) < (t113.length : Int) := of_decide_eq_true (by first | (with_reducible assumption) | assumption)
                            obtain ⟨ad123, e123, hx123_0⟩ := Kd.at_int (Kd.R_reads' HO_5.out).2.2 (ji15) p123 q123
                            cases e123
                            replace p123 := eq_true p123
                            replace q123 := eq_true q123
                            have p124 : 0 ≤ (x9_2 : Int) := of_decide_eq_true (by first | (with_reducible assumption) | assumption)
                            have q124 : x9_2 < (t113.length : Int) := of_decide_eq_true (by first | (with_reducible assumption) | assumption)
                            obtain ⟨ad124, e124, hx124_0⟩ := Kd.at_int (Kd.R_reads' HO_5.out).2.2 x9_2 p124 q124
                            obtain rfl : ad123 = ad124 := (by injection e124)
                            replace p124 := eq_true p124
                            replace q124 := eq_true q124
                            have p125 : 0 ≤ (x9_2 : Int) := of_decide_eq_true (by first | (with_reducible assumption) | assumption)
                            have q125 : x9_2 < (t113.length : Int) := of_decide_eq_true (by first | (with_reducible assumption) | assumption)
                            obtain ⟨ad125, e125, hx125_0⟩ := Kd.at_int (Kd.R_reads' HO_5.out).2.2 x9_2 p125 q125
                            obtain rfl : ad123 = ad125 := (by injection e125)
                            replace p125 := eq_true p125
                            replace q125 := eq_true q125
                            have p126 : 0 ≤ (x9_2 : Int) := of_decide_eq_true (by first | (with_reducible assumption) | assumption)
                            have q126 : x9_2 < (t113.length : Int) := of_decide_eq_true (by first | (with_reducible assumption) | assumption)
                            obtain ⟨ad126, e126, hx126_0⟩ := Kd.at_int (Kd.R_reads' HO_5.out).2.2 x9_2 p126 q126
                            obtain rfl : ad123 = ad126 := (by injection e126)
                            replace p126 := eq_true p126
                            replace q126 := eq_true q126
                            go_wp2
                            repeat (go_quiet (fail); try go_wp2)
                            go_ret
                            exact ⟨by first | rfl | (simp [errW_none, errW_some] <;> rfl) | (simp only [← hji15]; first | rfl | (simp [errW_none, errW_some] <;> rfl)) | (simp [*, errW_none, errW_some] <;> rfl), by repeat (first | (with_reducible first | exact HB.out | apply below_alloc | apply pw_below_drewN | apply below_drew1) | exact HB.out)⟩
                          · rw [if_neg c23] at H
                            have c23b0 : decide ((wrap64 ((rd t113 (ji15)) - (rd t113 x9_2))) < 1) = false := decide_eq_false c23
                            clear c23
                            have H' := Aside0.mk H
                            clear H
                            obtain ⟨Ao25, co25, eo25⟩ := Kd.R_slice HO_5.out
                            subst eo25
                            have p123 : 0 ≤ ((ji15) : Int) := of_decide_eq_true (by first | (with_reducible assumption) | assumption)
                            have q123 : (ji15) < (t113.length : Int) := of_decide_eq_true (by first | (with_reducible assumption) | assumption)
                            obtain ⟨ad123, e123, hx123_0⟩ := Kd.at_int (Kd.R_reads' HO_5.out).2.2 (ji15) p123 q123
                            cases e123
                            replace p123 := eq_true p123
                            replace q123 := eq_true q123
                            have p124 : 0 ≤ (x9_2 : Int) := of_decide_eq_true (by first | (with_reducible assumption) | assumption)
                            have q124 : x9_2 < (t113.length : Int) := of_decide_eq_true (by first | (with_reducible assumption) | assumption)
                            obtain ⟨ad124, e124, hx124_0⟩ := Kd.at_int (Kd.R_reads' HO_5.out).2.2 x9_2 p124 q124
                            obtain rfl : ad123 = ad124 := (by injection e124)
                            replace p124 := eq_true p124
                            replace q124 := eq_true q124
                            have p125 : 0 ≤ (x9_2 : Int) := of_decide_eq_true (by first | (with_reducible assumption) | assumption)
                            have q125 : x9_2 < (t113.length : Int) := of_decide_eq_true (by first | (with_reducible assumption) | assumption)
                            obtain ⟨ad125, e125, hx125_0⟩ := Kd.at_int (Kd.R_reads' HO_5.out).2.2 x9_2 p125 q125
                            obtain rfl : ad123 = ad125 := (by injection e125)
                            replace p125 := eq_true p125
                            replace q125 := eq_true q125
                            have p126 : 0 ≤ (x9_2 : Int) := of_decide_eq_true (by first | (with_reducible assumption) | assumption)
                            have q126 : x9_2 < (t113.length : Int) := of_decide_eq_true (by first | (with_reducible assumption) | assumption)
                            obtain ⟨ad126, e126, hx126_0⟩ := Kd.at_int (Kd.R_reads' HO_5.out).2.2 x9_2 p126 q126
                            obtain rfl : ad123 = ad126 := (by injection e126)
                            replace p126 := eq_true p126
                            replace q126 := eq_true q126
                            go_wp2
                            repeat (go_quiet (fail); try go_wp2)
                            go_roundg k2
                            case measure => have := HJ4.out; have := HK2.out; omega
                            case rel => exact ⟨(ji15), (by first | rfl | (simp; done) | (simp only [← hji15] <;> (first | rfl | simp)) | (simp [*]; done)), H', ⟨by have := HJ4.out; have := HK2.out; omega⟩, ⟨by (with_reducible repeat (first | apply Kd.R_alloc | apply Kd.R_drewN | apply Kd.R_drew)); exact HO_5.out⟩, ⟨by repeat (first | (with_reducible first | exact HB.out | apply below_alloc | apply pw_below_drewN | apply below_drew1) | exact HB.out)⟩⟩
                  · rw [if_neg c17] at H
                    exact absurd H (by simp)
                · rw [if_neg c16] at H
                  exact absurd H (by simp)
              · rw [if_neg c14] at H
                have c14b0 : decide ((wrap64 (x9_2 + 1)) < (t113.length : Int)) = false := decide_eq_false c14
                clear c14
                by_cases c26 : 0 ≤ x9_2
                · rw [if_pos c26] at H
                  have c26b0 : decide (0 ≤ x9_2) = true := decide_eq_true c26
                  clear c26
                  by_cases c27 : a1 = 0
                  · rw [if_pos c27] at H
                    exact absurd H (by simp)
                  · rw [if_neg c27] at H
                    have c27b0 : (a1 == 0) = false := beq_eq_false_iff_ne.mpr c27
                    have c27b1 : (a1 != 0) = true := bne_iff_ne.mpr c27
                    by_cases c28 : (wrap64 (a0 - (rd t113 x9_2))) < (wrap64 (Int.tdiv a0 a1))
                    · rw [if_pos c28] at H
                      have c28b0 : decide ((wrap64 (a0 - (rd t113 x9_2))) < (wrap64 (Int.tdiv a0 a1))) = true := decide_eq_true c28
                      clear c28
                      obtain rfl := Option.some.inj H
                      obtain ⟨Ao29, co29, eo29⟩ := Kd.R_slice HO_5.out
                      subst eo29
                      have p127 : 0 ≤ (x9_2 : Int) := of_decide_eq_true (by first | (with_reducible assumption) | assumption)
                      have q127 : x9_2 < (t113.length : Int) := of_decide_eq_true (by first | (with_reducible assumption) | assumption)
                      obtain ⟨ad127, e127, hx127_0⟩ := Kd.at_int (Kd.R_reads' HO_5.out).2.2 x9_2 p127 q127
                      cases e127
                      replace p127 := eq_true p127
                      replace q127 := eq_true q127
                      go_wp2
                      repeat (go_quiet (fail); try go_wp2)
                      go_ret
                      exact ⟨by first | rfl | (simp [errW_none, errW_some] <;> rfl) | (simp [*, errW_none, errW_some] <;> rfl), by repeat (first | (with_reducible first | exact HB.out | apply below_alloc | apply pw_below_drewN | apply below_drew1) | exact HB.out)⟩
                    · rw [if_neg c28] at H
                      have c28b0 : decide ((wrap64 (a0 - (rd t113 x9_2))) < (wrap64 (Int.tdiv a0 a1))) = false := decide_eq_false c28
                      clear c28
                      by_cases c30 : (wrap64 (a0 - (rd t113 x9_2))) > (wrap64 ((wrap64 (Int.tdiv a0 a1)) + 1))
                      · rw [if_pos c30] at H
                        have c30b0 : decide ((wrap64 ((wrap64 (Int.tdiv a0 a1)) + 1)) < (wrap64 (a0 - (rd t113 x9_2)))) = true := decide_eq_true c30
                        clear c30
                        obtain rfl := Option.some.inj H
                        obtain ⟨Ao31, co31, eo31⟩ := Kd.R_slice HO_5.out
                        subst eo31
                        have p127 : 0 ≤ (x9_2 : Int) := of_decide_eq_true (by first | (with_reducible assumption) | assumption)
                        have q127 : x9_2 < (t113.length : Int) := of_decide_eq_true (by first | (with_reducible assumption) | assumption)
                        obtain ⟨ad127, e127, hx127_0⟩ := Kd.at_int (Kd.R_reads' HO_5.out).2.2 x9_2 p127 q127
                        cases e127
                        replace p127 := eq_true p127
                        replace q127 := eq_true q127
                        have p128 : 0 ≤ (x9_2 : Int) := of_decide_eq_true (by first | (with_reducible assumption) | assumption)
                        have q128 : x9_2 < (t113.length : Int) := of_decide_eq_true (by first | (with_reducible assumption) | assumption)
                        obtain ⟨ad128, e128, hx128_0⟩ := Kd.at_int (Kd.R_reads' HO_5.out).2.2 x9_2 p128 q128
                        obtain rfl : ad127 = ad128 := (by injection e128)
                        replace p128 := eq_true p128
                        replace q128 := eq_true q128
                        go_wp2
                        repeat (go_quiet (fail); try go_wp2)
                        go_ret
                        exact ⟨by first | rfl | (simp [errW_none, errW_some] <;> rfl) | (simp [*, errW_none, errW_some] <;> rfl), by repeat (first | (with_reducible first | exact HB.out | apply below_alloc | apply pw_below_drewN | apply below_drew1) | exact HB.out)⟩
                      · rw [if_neg c30] at H
                        have c30b0 : decide ((wrap64 ((wrap64 (Int.tdiv a0 a1)) + 1)) < (wrap64 (a0 - (rd t113 x9_2)))) = false := decide_eq_false c30
                        clear c30
                        by_cases c32 : (wrap64 (a0 - (rd t113 x9_2))) < 1
                        · rw [if_pos c32] at H
                          have c32b0 : decide ((wrap64 (a0 - (rd t113 x9_2))) < 1) = true := decide_eq_true c32
                          clear c32
                          obtain rfl := Option.some.inj H
                          obtain ⟨Ao33, co33, eo33⟩ := Kd.R_slice HO_5.out
                          subst eo33
                          have p127 : 0 ≤ (x9_2 : Int) := of_decide_eq_true (by first | (with_reducible assumption) | assumption)
                          have q127 : x9_2 < (t113.length : Int) := of_decide_eq_true (by first | (with_reducible assumption) | assumption)
                          obtain ⟨ad127, e127, hx127_0⟩ := Kd.at_int (Kd.R_reads' HO_5.out).2.2 x9_2 p127 q127
                          cases e127
                          replace p127 := eq_true p127
                          replace q127 := eq_true q127
                          have p128 : 0 ≤ (x9_2 : Int) := of_decide_eq_true (by first | (with_reducible assumption) | assumption)
                          have q128 : x9_2 < (t113.length : Int) := of_decide_eq_true (by first | (with_reducible assumption) | assumption)
                          obtain ⟨ad128, e128, hx128_0⟩ := Kd.at_int (Kd.R_reads' HO_5.out).2.2 x9_2 p128 q128
                          obtain rfl : ad127 = ad128 := (by injection e128)
                          replace p128 := eq_true p128
                          replace q128 := eq_true q128
                          have p129 : 0 ≤ (x9_2 : Int) := of_decide_eq_true (by first | (with_reducible assumption) | assumption)
                          have q129 : x9_2 < (t113.length : Int) := of_decide_eq_true (by first | (with_reducible assumption) | assumption)
                          obtain ⟨ad129, e129, hx129_0⟩ := Kd.at_int (Kd.R_reads' HO_5.out).2.2 x9_2 p129 q129
                          obtain rfl : ad127 = ad129 := (by injection e129)
                          replace p129 := eq_true p129
                          replace q129 := eq_true q129
                          go_wp2
                          repeat (go_quiet (fail); try go_wp2)
                          go_ret
                          exact ⟨by first | rfl | (simp [errW_none, errW_some] <;> rfl) | (simp [*, errW_none, errW_some] <;> rfl), by repeat (first | (with_reducible first | exact HB.out | apply below_alloc | apply pw_below_drewN | apply below_drew1) | exact HB.out)⟩
                        · rw [if_neg c32] at H
                          have c32b0 : decide ((wrap64 (a0 - (rd t113 x9_2))) < 1) = false := decide_eq_false c32
                          clear c32
                          have H' := Aside0.mk H
                          clear H
                          obtain ⟨Ao34, co34, eo34⟩ := Kd.R_slice HO_5.out
                          subst eo34
                          have p127 : 0 ≤ (x9_2 : Int) := of_decide_eq_true (by first | (with_reducible assumption) | assumption)
                          have q127 : x9_2 < (t113.length : Int) := of_decide_eq_true (by first | (with_reducible assumption) | assumption)
                          obtain ⟨ad127, e127, hx127_0⟩ := Kd.at_int (Kd.R_reads' HO_5.out).2.2 x9_2 p127 q127
                          cases e127
                          replace p127 := eq_true p127
                          replace q127 := eq_true q127
                          have p128 : 0 ≤ (x9_2 : Int) := of_decide_eq_true (by first | (with_reducible assumption) | assumption)
                          have q128 : x9_2 < (t113.length : Int) := of_decide_eq_true (by first | (with_reducible assumption) | assumption)
                          obtain ⟨ad128, e128, hx128_0⟩ := Kd.at_int (Kd.R_reads' HO_5.out).2.2 x9_2 p128 q128
                          obtain rfl : ad127 = ad128 := (by injection e128)
                          replace p128 := eq_true p128
                          replace q128 := eq_true q128
                          have p129 : 0 ≤ (x9_2 : Int) := of_decide_eq_true (by first | (with_reducible assumption) | assumption)
                          have q129 : x9_2 < (t113.length : Int) := of_decide_eq_true (by first | (with_reducible assumption) | assumption)
                          obtain ⟨ad129, e129, hx129_0⟩ := Kd.at_int (Kd.R_reads' HO_5.out).2.2 x9_2 p129 q129
                          obtain rfl : ad127 = ad129 := (by injection e129)
                          replace p129 := eq_true p129
                          replace q129 := eq_true q129
                          go_wp2
                          repeat (go_quiet (fail); try go_wp2)
                          go_roundg k2
                          case measure => have := HJ4.out; have := HK2.out; omega
                          case rel => exact ⟨(wrap64 (x9_2 + 1)), (by first | rfl | (simp; done) | (simp [*]; done)), H', ⟨by have := HJ4.out; have := HK2.out; omega⟩, ⟨by (with_reducible repeat (first | apply Kd.R_alloc | apply Kd.R_drewN | apply Kd.R_drew)); exact HO_5.out⟩, ⟨by repeat (first | (with_reducible first | exact HB.out | apply below_alloc | apply pw_below_drewN | apply below_drew1) | exact HB.out)⟩⟩
                · rw [if_neg c26] at H
                  exact absurd H (by simp)
            · rw [if_neg c13] at H
              have c13b0 : decide (x9_2 < (t113.length : Int)) = false := decide_eq_false c13
              clear c13
              by_cases c35 : t114 = 0
              · rw [if_pos c35] at H
                have c35b0 : (t114 == 0) = true := beq_iff_eq.mpr c35
                have c35b1 : (t114 != 0) = false := bne_eq_false_iff_eq.mpr c35
                clear c35
                by_cases c36 : (t113.length : Int) = a1
                · rw [if_pos c36] at H
                  have c36b0 : ((t113.length : Int) == a1) = true := beq_iff_eq.mpr c36
                  have c36b1 : ((t113.length : Int) != a1) = false := bne_eq_false_iff_eq.mpr c36
                  clear c36
                  by_cases c37 : 0 < (t113.length : Int)
                  · rw [if_pos c37] at H
                    have c37b0 : decide (0 < (t113.length : Int)) = true := decide_eq_true c37
                    have c37b1 : decide (0 < t113.length) = true := decide_eq_true (by omega)
                    clear c37
                    obtain rfl := Option.some.inj H
                    obtain ⟨Ao38, co38, eo38⟩ := Kd.R_slice HO_5.out
                    subst eo38
                    have p122 : 0 ≤ (0 : Int) := (by omega)
                    have q122 : 0 < (t113.length : Int) := of_decide_eq_true (by first | (with_reducible assumption) | assumption)
                    obtain ⟨ad122, e122, hx122_0⟩ := Kd.at_int (Kd.R_reads' HO_5.out).2.2 0 p122 q122
                    cases e122
                    have qi122 : (0 < t113.length) = True := eq_true (by omega)
                    (try rw [show ((0 : Int)).toNat = 0 from rfl] at hx122_0)
                    (try rw [Addr.add_zero'] at hx122_0)
                    replace p122 := eq_true p122
                    replace q122 := eq_true q122
                    go_wp2
                    repeat (go_quiet (fail); try go_wp2)
                    go_ret
                    exact ⟨by first | rfl | (simp [errW_none, errW_some] <;> rfl) | (simp [*, errW_none, errW_some] <;> rfl), by repeat (first | (with_reducible first | exact HB.out | apply below_alloc | apply pw_below_drewN | apply below_drew1) | exact HB.out)⟩
                  · rw [if_neg c37] at H
                    exact absurd H (by simp)
                · rw [if_neg c36] at H
                  have c36b0 : ((t113.length : Int) == a1) = false := beq_eq_false_iff_ne.mpr c36
                  have c36b1 : ((t113.length : Int) != a1) = true := bne_iff_ne.mpr c36
                  obtain rfl := Option.some.inj H
                  obtain ⟨Ao39, co39, eo39⟩ := Kd.R_slice HO_5.out
                  subst eo39
                  go_wp2
                  repeat (go_quiet (fail); try go_wp2)
                  go_ret
                  exact ⟨by first | rfl | (simp [errW_none, errW_some] <;> rfl) | (simp [*, errW_none, errW_some] <;> rfl), by repeat (first | (with_reducible first | exact HB.out | apply below_alloc | apply pw_below_drewN | apply below_drew1) | exact HB.out)⟩
              · rw [if_neg c35] at H
                have c35b0 : (t114 == 0) = false := beq_eq_false_iff_ne.mpr c35
                have c35b1 : (t114 != 0) = true := bne_iff_ne.mpr c35
                obtain rfl := Option.some.inj H
                obtain ⟨Ao40, co40, eo40⟩ := Kd.R_slice HO_5.out
                subst eo40
                go_wp2
                repeat (go_quiet (fail); try go_wp2)
                go_ret
                exact ⟨by first | rfl | (simp [errW_none, errW_some] <;> rfl) | (simp [*, errW_none, errW_some] <;> rfl), by repeat (first | (with_reducible first | exact HB.out | apply below_alloc | apply pw_below_drewN | apply below_drew1) | exact HB.out)⟩

/-- THE ONE PURE STATEMENT of tidelinelaw07_CutsStarts: yours. -/
def tidelinelaw07_CutsStarts.Pure : Prop := ∀ (a0 : Int) (a1 : Int), (Lit.int .i64 a0).wf = true → (Lit.int .i64 a1).wf = true → ∃ k, tidelinelaw07_CutsStarts.f k a0 a1 = some true
theorem tidelinelaw07_CutsStarts.walk (P : tidelinelaw07_CutsStarts.Pure) (a0 : Int) (a1 : Int) (w : World) (w0 : (Lit.int .i64 a0).wf = true) (w1 : (Lit.int .i64 a1).wf = true) :
    Calls Try.prog 3 #[.int .i64 a0, .int .i64 a1] w fun e w' => e = .returned (.bool true) ∧ Below w.heap.size w w' := by
  obtain ⟨k, h⟩ := P a0 a1 w0 w1
  refine (tidelinelaw07_CutsStarts.calls k a0 a1 true w h).mono ?_
  rintro e w' ⟨rfl, hd⟩
  exact ⟨rfl, hd⟩

end Go.Proofs.Ytcfiobhebakhlaa.PAll
