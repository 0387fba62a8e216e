-- By wip/pr.py (a program of this session, over the kit's print): lines written by program. Not trusted: Lean checks them.
import Derived.Test.YtcfiobhebakhlaaPAllx0
import Derived.Test.YtcfiobhebakhlaaPAllx2
import Derived.Test.YtcfiobhebakhlaaPAllx5
import Derived.Test.YtcfiobhebakhlaaPAllx7
import Derived.Test.YtcfiobhebakhlaaPAllx8
namespace Go.Proofs.Ytcfiobhebakhlaa.PAll
open Go.RowKit Go.Proofs.YtcfiobhebakhlaaW.PrintWords Go.Proofs.YtcfiobhebakhlaaW.PrintLast Go.Proofs.YtcfiobhebakhlaaW.PrintMore
attribute [local go_sem] max2_int min2_int max_two min_two max_three min_three max_four min_four   -- for this text's walks alone
set_option linter.unusedVariables false
set_option linter.unusedSimpArgs false

/-! ### tidelinelaw07_CutsLeast: function 5 -/
mutual
def tidelinelaw07_CutsLeast.j0 : Nat → Int → Int → Int → Int → Int → Bool → Option (Bool)
  | 0, _, _, _, _, _, _ => none
  | k + 1, x0, x1, x2, x7, x8, x43 => if x43 = true then (some false) else (if x8 = 0 then ((cuts_Depth.f k x1).bind fun bt154 => ((cuts_Least.f k x0 x1 bt154.1).bind fun bt156 => (if bt154.2 = 0 then (if bt156.2 = 0 then (tidelinelaw07_CutsLeast.j1 k x0 x1 x2 x7 (decide (bt156.1 > 1))) else (tidelinelaw07_CutsLeast.j1 k x0 x1 x2 x7 true)) else (tidelinelaw07_CutsLeast.j1 k x0 x1 x2 x7 true)))) else (some true))
def tidelinelaw07_CutsLeast.j1 : Nat → Int → Int → Int → Int → Bool → Option (Bool)
  | 0, _, _, _, _, _ => none
  | k + 1, x0, x1, x2, x7, x67 => if x67 = true then (some false) else (if x7 = 0 then (tidelinelaw07_CutsLeast.j2 k x0 x1 x2 x7 true) else (tidelinelaw07_CutsLeast.j2 k x0 x1 x2 x7 (x2 == 63)))
def tidelinelaw07_CutsLeast.j2 : Nat → Int → Int → Int → Int → Bool → Option (Bool)
  | 0, _, _, _, _, _ => none
  | k + 1, x0, x1, x2, x7, x73 => if x73 = true then (some true) else ((cuts_Starts.f k x7 (mn x7 x1)).bind fun bt158 => ((cuts_Least.f k x0 x1 (wrap64 (x2 + 1))).bind fun bt162 => (if bt158.2 = 0 then (if bt162.2 = 0 then (tidelinelaw07_CutsLeast.j3 k x7 (mn x7 x1) bt158.1 bt162.1 ((bt158.1.length : Int) != (mn x7 x1))) else (tidelinelaw07_CutsLeast.j3 k x7 (mn x7 x1) bt158.1 bt162.1 true)) else (tidelinelaw07_CutsLeast.j3 k x7 (mn x7 x1) bt158.1 bt162.1 true))))
def tidelinelaw07_CutsLeast.j3 : Nat → Int → Int → List Int → Int → Bool → Option (Bool)
  | 0, _, _, _, _, _ => none
  | k + 1, x7, x15, x16, x18, x102 => if x102 = true then (some false) else (tidelinelaw07_CutsLeast.l0 k x7 x15 x16 x18 0)
def tidelinelaw07_CutsLeast.l0 : Nat → Int → Int → List Int → Int → Int → Option (Bool)
  | 0, _, _, _, _, _ => none
  | k + 1, x7, x15, x16, x18, x20 => if x20 < x15 then (if (wrap64 (x20 + 1)) < x15 then (if 0 ≤ (wrap64 (x20 + 1)) then (if (wrap64 (x20 + 1)) < (x16.length : Int) then (if 0 ≤ x20 then (if x20 < (x16.length : Int) then (if (wrap64 ((rd x16 (wrap64 (x20 + 1))) - (rd x16 x20))) > x18 then (some false) else (tidelinelaw07_CutsLeast.l0 k x7 x15 x16 x18 (wrap64 (x20 + 1)))) else (none)) else (none)) else (none)) else (none)) else (if 0 ≤ x20 then (if x20 < (x16.length : Int) then (if (wrap64 (x7 - (rd x16 x20))) > x18 then (some false) else (tidelinelaw07_CutsLeast.l0 k x7 x15 x16 x18 (wrap64 (x20 + 1)))) else (none)) else (none))) else (some true)
end
def tidelinelaw07_CutsLeast.f (k : Nat) (a0 : Int) (a1 : Int) (a2 : Int) : Option (Bool) := (cuts_Least.f k a0 a1 a2).bind fun bt150 => ((tidelineref07_Least.f k a0 a1 a2).bind fun bt152 => (if bt150.1 = bt152.1 then (tidelinelaw07_CutsLeast.j0 k a0 a1 a2 bt150.1 bt150.2 (bt150.2 != bt152.2)) else (tidelinelaw07_CutsLeast.j0 k a0 a1 a2 bt150.1 bt150.2 true)))
theorem tidelinelaw07_CutsLeast.mono_l : ∀ k, (∀ y0 y1 y2 y3 y4 y5, LeO (tidelinelaw07_CutsLeast.j0 k y0 y1 y2 y3 y4 y5) (tidelinelaw07_CutsLeast.j0 (k + 1) y0 y1 y2 y3 y4 y5)) ∧ (∀ y0 y1 y2 y3 y4, LeO (tidelinelaw07_CutsLeast.j1 k y0 y1 y2 y3 y4) (tidelinelaw07_CutsLeast.j1 (k + 1) y0 y1 y2 y3 y4)) ∧ (∀ y0 y1 y2 y3 y4, LeO (tidelinelaw07_CutsLeast.j2 k y0 y1 y2 y3 y4) (tidelinelaw07_CutsLeast.j2 (k + 1) y0 y1 y2 y3 y4)) ∧ (∀ y0 y1 y2 y3 y4, LeO (tidelinelaw07_CutsLeast.j3 k y0 y1 y2 y3 y4) (tidelinelaw07_CutsLeast.j3 (k + 1) y0 y1 y2 y3 y4)) ∧ (∀ y0 y1 y2 y3 y4, LeO (tidelinelaw07_CutsLeast.l0 k y0 y1 y2 y3 y4) (tidelinelaw07_CutsLeast.l0 (k + 1) y0 y1 y2 y3 y4))
  | 0 => ⟨fun _ _ _ _ _ _ r h => by simp [tidelinelaw07_CutsLeast.j0] at h, fun _ _ _ _ _ r h => by simp [tidelinelaw07_CutsLeast.j1] at h, fun _ _ _ _ _ r h => by simp [tidelinelaw07_CutsLeast.j2] at h, fun _ _ _ _ _ r h => by simp [tidelinelaw07_CutsLeast.j3] at h, fun _ _ _ _ _ r h => by simp [tidelinelaw07_CutsLeast.l0] at h⟩
  | k + 1 => by
    obtain ⟨ih0, ih1, ih2, ih3, ih4⟩ := tidelinelaw07_CutsLeast.mono_l k
    refine ⟨?_, ?_, ?_, ?_, ?_⟩
    · intro y0 y1 y2 y3 y4 y5
      unfold tidelinelaw07_CutsLeast.j0
      repeat' first
      | (with_reducible exact ih0 _ _ _ _ _ _)
      | (with_reducible exact ih1 _ _ _ _ _)
      | (with_reducible exact ih2 _ _ _ _ _)
      | (with_reducible exact ih3 _ _ _ _ _)
      | (with_reducible exact ih4 _ _ _ _ _)
      | (with_reducible exact cuts_Depth.mono _ _)
      | (with_reducible exact cuts_Least.mono _ _ _ _)
      | (with_reducible exact cuts_Starts.mono _ _ _)
      | (with_reducible exact tidelineref07_Least.mono _ _ _ _)
      | (with_reducible exact LeO.refl _)
      | (with_reducible exact LeO.none _)
      | (with_reducible refine LeO.ite ?_ ?_)
      | (with_reducible refine LeO.bind ?_ (fun _ => ?_))
      | exact ih0 _ _ _ _ _ _
      | exact ih1 _ _ _ _ _
      | exact ih2 _ _ _ _ _
      | exact ih3 _ _ _ _ _
      | exact ih4 _ _ _ _ _
      | exact cuts_Depth.mono _ _
      | exact cuts_Least.mono _ _ _ _
      | exact cuts_Starts.mono _ _ _
      | exact tidelineref07_Least.mono _ _ _ _
      | exact LeO.none _
      | refine LeO.ite ?_ ?_
      | refine LeO.bind ?_ (fun _ => ?_)
    · intro y0 y1 y2 y3 y4
      unfold tidelinelaw07_CutsLeast.j1
      repeat' first
      | (with_reducible exact ih0 _ _ _ _ _ _)
      | (with_reducible exact ih1 _ _ _ _ _)
      | (with_reducible exact ih2 _ _ _ _ _)
      | (with_reducible exact ih3 _ _ _ _ _)
      | (with_reducible exact ih4 _ _ _ _ _)
      | (with_reducible exact cuts_Depth.mono _ _)
      | (with_reducible exact cuts_Least.mono _ _ _ _)
      | (with_reducible exact cuts_Starts.mono _ _ _)
      | (with_reducible exact tidelineref07_Least.mono _ _ _ _)
      | (with_reducible exact LeO.refl _)
      | (with_reducible exact LeO.none _)
      | (with_reducible refine LeO.ite ?_ ?_)
      | (with_reducible refine LeO.bind ?_ (fun _ => ?_))
      | exact ih0 _ _ _ _ _ _
      | exact ih1 _ _ _ _ _
      | exact ih2 _ _ _ _ _
      | exact ih3 _ _ _ _ _
      | exact ih4 _ _ _ _ _
      | exact cuts_Depth.mono _ _
      | exact cuts_Least.mono _ _ _ _
      | exact cuts_Starts.mono _ _ _
      | exact tidelineref07_Least.mono _ _ _ _
      | exact LeO.none _
      | refine LeO.ite ?_ ?_
      | refine LeO.bind ?_ (fun _ => ?_)
    · intro y0 y1 y2 y3 y4
      unfold tidelinelaw07_CutsLeast.j2
      repeat' first
      | (with_reducible exact ih0 _ _ _ _ _ _)
      | (with_reducible exact ih1 _ _ _ _ _)
      | (with_reducible exact ih2 _ _ _ _ _)
      | (with_reducible exact ih3 _ _ _ _ _)
      | (with_reducible exact ih4 _ _ _ _ _)
      | (with_reducible exact cuts_Depth.mono _ _)
      | (with_reducible exact cuts_Least.mono _ _ _ _)
      | (with_reducible exact cuts_Starts.mono _ _ _)
      | (with_reducible exact tidelineref07_Least.mono _ _ _ _)
      | (with_reducible exact LeO.refl _)
      | (with_reducible exact LeO.none _)
      | (with_reducible refine LeO.ite ?_ ?_)
      | (with_reducible refine LeO.bind ?_ (fun _ => ?_))
      | exact ih0 _ _ _ _ _ _
      | exact ih1 _ _ _ _ _
      | exact ih2 _ _ _ _ _
      | exact ih3 _ _ _ _ _
      | exact ih4 _ _ _ _ _
      | exact cuts_Depth.mono _ _
      | exact cuts_Least.mono _ _ _ _
      | exact cuts_Starts.mono _ _ _
      | exact tidelineref07_Least.mono _ _ _ _
      | exact LeO.none _
      | refine LeO.ite ?_ ?_
      | refine LeO.bind ?_ (fun _ => ?_)
    · intro y0 y1 y2 y3 y4
      unfold tidelinelaw07_CutsLeast.j3
      repeat' first
      | (with_reducible exact ih0 _ _ _ _ _ _)
      | (with_reducible exact ih1 _ _ _ _ _)
      | (with_reducible exact ih2 _ _ _ _ _)
      | (with_reducible exact ih3 _ _ _ _ _)
      | (with_reducible exact ih4 _ _ _ _ _)
      | (with_reducible exact cuts_Depth.mono _ _)
      | (with_reducible exact cuts_Least.mono _ _ _ _)
      | (with_reducible exact cuts_Starts.mono _ _ _)
      | (with_reducible exact tidelineref07_Least.mono _ _ _ _)
      | (with_reducible exact LeO.refl _)
      | (with_reducible exact LeO.none _)
      | (with_reducible refine LeO.ite ?_ ?_)
      | (with_reducible refine LeO.bind ?_ (fun _ => ?_))
      | exact ih0 _ _ _ _ _ _
      | exact ih1 _ _ _ _ _
      | exact ih2 _ _ _ _ _
      | exact ih3 _ _ _ _ _
      | exact ih4 _ _ _ _ _
      | exact cuts_Depth.mono _ _
      | exact cuts_Least.mono _ _ _ _
      | exact cuts_Starts.mono _ _ _
      | exact tidelineref07_Least.mono _ _ _ _
      | exact LeO.none _
      | refine LeO.ite ?_ ?_
      | refine LeO.bind ?_ (fun _ => ?_)
    · intro y0 y1 y2 y3 y4
      unfold tidelinelaw07_CutsLeast.l0
      repeat' first
      | (with_reducible exact ih0 _ _ _ _ _ _)
      | (with_reducible exact ih1 _ _ _ _ _)
      | (with_reducible exact ih2 _ _ _ _ _)
      | (with_reducible exact ih3 _ _ _ _ _)
      | (with_reducible exact ih4 _ _ _ _ _)
      | (with_reducible exact cuts_Depth.mono _ _)
      | (with_reducible exact cuts_Least.mono _ _ _ _)
      | (with_reducible exact cuts_Starts.mono _ _ _)
      | (with_reducible exact tidelineref07_Least.mono _ _ _ _)
      | (with_reducible exact LeO.refl _)
      | (with_reducible exact LeO.none _)
      | (with_reducible refine LeO.ite ?_ ?_)
      | (with_reducible refine LeO.bind ?_ (fun _ => ?_))
      | exact ih0 _ _ _ _ _ _
      | exact ih1 _ _ _ _ _
      | exact ih2 _ _ _ _ _
      | exact ih3 _ _ _ _ _
      | exact ih4 _ _ _ _ _
      | exact cuts_Depth.mono _ _
      | exact cuts_Least.mono _ _ _ _
      | exact cuts_Starts.mono _ _ _
      | exact tidelineref07_Least.mono _ _ _ _
      | exact LeO.none _
      | refine LeO.ite ?_ ?_
      | refine LeO.bind ?_ (fun _ => ?_)
theorem tidelinelaw07_CutsLeast.mono : ∀ a0 a1 a2 k, LeO (tidelinelaw07_CutsLeast.f k a0 a1 a2) (tidelinelaw07_CutsLeast.f (k + 1) a0 a1 a2) := by
  intro a0 a1 a2 k
  obtain ⟨ih0, ih1, ih2, ih3, ih4⟩ := tidelinelaw07_CutsLeast.mono_l k
  unfold tidelinelaw07_CutsLeast.f
  repeat' first
      | (with_reducible exact ih0 _ _ _ _ _ _)
      | (with_reducible exact ih1 _ _ _ _ _)
      | (with_reducible exact ih2 _ _ _ _ _)
      | (with_reducible exact ih3 _ _ _ _ _)
      | (with_reducible exact ih4 _ _ _ _ _)
      | (with_reducible exact cuts_Depth.mono _ _)
      | (with_reducible exact cuts_Least.mono _ _ _ _)
      | (with_reducible exact cuts_Starts.mono _ _ _)
      | (with_reducible exact tidelineref07_Least.mono _ _ _ _)
      | (with_reducible exact LeO.refl _)
      | (with_reducible exact LeO.none _)
      | (with_reducible refine LeO.ite ?_ ?_)
      | (with_reducible refine LeO.bind ?_ (fun _ => ?_))
      | exact ih0 _ _ _ _ _ _
      | exact ih1 _ _ _ _ _
      | exact ih2 _ _ _ _ _
      | exact ih3 _ _ _ _ _
      | exact ih4 _ _ _ _ _
      | exact cuts_Depth.mono _ _
      | exact cuts_Least.mono _ _ _ _
      | exact cuts_Starts.mono _ _ _
      | exact tidelineref07_Least.mono _ _ _ _
      | exact LeO.none _
      | refine LeO.ite ?_ ?_
      | refine LeO.bind ?_ (fun _ => ?_)
set_option maxHeartbeats 8000000 in
set_option maxRecDepth 100000 in
theorem tidelinelaw07_CutsLeast.calls (k : Nat) (a0 : Int) (a1 : Int) (a2 : Int) (r : Bool) (w : World) (h : tidelinelaw07_CutsLeast.f k a0 a1 a2 = some r) :
    Calls Try.prog 5 #[.int .i64 a0, .int .i64 a1, .int .i64 a2] w fun e w' => e = .returned (.bool r) ∧ Below w.heap.size w w' := by
  have HB := Aside0.mk (Below.refl w.heap.size w)
  have H : ((cuts_Least.f k a0 a1 a2).bind fun bt150 => ((tidelineref07_Least.f k a0 a1 a2).bind fun bt152 => (if bt150.1 = bt152.1 then (tidelinelaw07_CutsLeast.j0 k a0 a1 a2 bt150.1 bt150.2 (bt150.2 != bt152.2)) else (tidelinelaw07_CutsLeast.j0 k a0 a1 a2 bt150.1 bt150.2 true)))) = some r := h
  clear h
  replace H := Option.bind_eq_some_iff.mp H
  obtain ⟨⟨t150, t151⟩, A40, H⟩ := H
  replace H : ((tidelineref07_Least.f k a0 a1 a2).bind fun bt152 => (if t150 = bt152.1 then (tidelinelaw07_CutsLeast.j0 k a0 a1 a2 t150 t151 (t151 != bt152.2)) else (tidelinelaw07_CutsLeast.j0 k a0 a1 a2 t150 t151 true))) = some r := H
  have A4 := Aside0.mk A40
  clear A40
  replace H := Option.bind_eq_some_iff.mp H
  obtain ⟨⟨t152, t153⟩, A50, H⟩ := H
  replace H : (if t150 = t152 then (tidelinelaw07_CutsLeast.j0 k a0 a1 a2 t150 t151 (t151 != t153)) else (tidelinelaw07_CutsLeast.j0 k a0 a1 a2 t150 t151 true)) = some r := H
  have A5 := Aside0.mk A50
  clear A50
  have HC6 := Aside0.mk H
  clear H
  go_enter Try.func5, Try.ntmps5
  go_upto_region 3 with (first | ((with_reducible refine gate_callee (f := 19) rfl ?_); refine goesL_ (some 26) rfl rfl Try.func19 (by kernel_rfl) rfl #[.int .i64 a0, .int .i64 a1, .int .i64 a2] rfl (by (try simp only [List.map_toArray, List.map_cons, List.map_nil]); first | done | rfl | (simp only [List.length_drop, List.length_take]; rfl)) ?_; (with_reducible refine (cuts_Least.calls k a0 a1 a2 t150 t151 _ A4.out).mono ?_); rintro e w' ⟨rfl, ⟨nd, rfl⟩⟩; refine ⟨_, rfl, ?_⟩) | ((with_reducible refine gate_callee (f := 20) rfl ?_); refine goesL_ (some 33) rfl rfl Try.func20 (by kernel_rfl) rfl #[.int .i64 a0, .int .i64 a1, .int .i64 a2] rfl (by (try simp only [List.map_toArray, List.map_cons, List.map_nil]); first | done | rfl | (simp only [List.length_drop, List.length_take]; rfl)) ?_; (with_reducible refine (tidelineref07_Least.calls k a0 a1 a2 t152 t153 _ A5.out).mono ?_); rintro e w' ⟨rfl, ⟨nd, rfl⟩⟩; refine ⟨_, rfl, ?_⟩))
  (try simp only [Act.put, List.setIfInBounds_toArray, List.set_cons_zero, List.set_cons_succ])
  go_cut [43] (fun v43 wc => ∃ (kq : Nat) (x43_5 : Bool), v43 = .bool x43_5 ∧ Aside0 (tidelinelaw07_CutsLeast.j0 kq a0 a1 a2 t150 t151 x43_5 = some r) ∧ Aside0 (kq ≤ k) ∧ Aside0 (Below w.heap.size w wc))
  case first =>
    have H := HC6.out
    clear HC6
    by_cases c7 : t150 = t152
    · rw [if_pos c7] at H
      have c7b0 : (t150 == t152) = true := beq_iff_eq.mpr c7
      have c7b1 : (t150 != t152) = false := bne_eq_false_iff_eq.mpr c7
      clear c7
      (first | rw [c7b0] | (simp only [i64_w, i32_w]; rw [c7b0]) | skip)
      have H' := Aside0.mk H
      clear H
      go_wp2
      go_meet
      case rel => exact ⟨_, ((t151 != t153)), (by first | rfl | (simp; done) | (simp [*]; done)), H', ⟨by first | omega | exact Nat.le_refl _⟩, ⟨by repeat (first | (with_reducible first | exact HB.out | apply below_alloc | apply pw_below_drewN | apply below_drew1) | exact HB.out)⟩⟩
    · rw [if_neg c7] at H
      have c7b0 : (t150 == t152) = false := beq_eq_false_iff_ne.mpr c7
      have c7b1 : (t150 != t152) = true := bne_iff_ne.mpr c7
      (first | rw [c7b0] | (simp only [i64_w, i32_w]; rw [c7b0]) | skip)
      have H' := Aside0.mk H
      clear H
      go_wp2
      go_meet
      case rel => exact ⟨_, (true), (by first | rfl | (simp; done) | (simp [*]; done)), H', ⟨by first | omega | exact Nat.le_refl _⟩, ⟨by repeat (first | (with_reducible first | exact HB.out | apply below_alloc | apply pw_below_drewN | apply below_drew1) | exact HB.out)⟩⟩
  case rest =>
    clear HC6
    try clear c1
    try clear c2
    try clear p2
    try clear c5
    try clear c7
    try clear c7b0
    try clear c7b1
    obtain ⟨kq, x43_5, rfl, HA, HJ5, HB⟩ := hcut
    cases kq with
    | zero => exact absurd HA.out (by simp [tidelinelaw07_CutsLeast.j0])
    | succ kj5 =>
      have H := HA.out
      clear HA
      simp only [tidelinelaw07_CutsLeast.j0] at H
      by_cases c8 : x43_5 = true
      · subst c8
        have H1 : (some false) = some r := by rw [if_pos rfl] at H; exact H
        clear H
        have H := H1
        clear H1
        obtain rfl := Option.some.inj H
        go_wp2
        go_ret
        exact ⟨by first | rfl | (simp [errW_none, errW_some] <;> rfl) | (simp [*, errW_none, errW_some] <;> rfl), by repeat (first | (with_reducible first | exact HB.out | apply below_alloc | apply pw_below_drewN | apply below_drew1) | exact HB.out)⟩
      · replace c8 := Bool.eq_false_iff.mpr c8
        subst c8
        have H1 : (if t151 = 0 then ((cuts_Depth.f kj5 a1).bind fun bt154 => ((cuts_Least.f kj5 a0 a1 bt154.1).bind fun bt156 => (if bt154.2 = 0 then (if bt156.2 = 0 then (tidelinelaw07_CutsLeast.j1 kj5 a0 a1 a2 t150 (decide (bt156.1 > 1))) else (tidelinelaw07_CutsLeast.j1 kj5 a0 a1 a2 t150 true)) else (tidelinelaw07_CutsLeast.j1 kj5 a0 a1 a2 t150 true)))) else (some true)) = some r := by rw [if_neg (show ¬ (false = true) by decide)] at H; exact H
        clear H
        have H := H1
        clear H1
        by_cases c9 : t151 = 0
        · rw [if_pos c9] at H
          have c9b0 : (t151 == 0) = true := beq_iff_eq.mpr c9
          have c9b1 : (t151 != 0) = false := bne_eq_false_iff_eq.mpr c9
          clear c9
          replace H := Option.bind_eq_some_iff.mp H
          obtain ⟨⟨t154, t155⟩, A100, H⟩ := H
          replace H : ((cuts_Least.f kj5 a0 a1 t154).bind fun bt156 => (if t155 = 0 then (if bt156.2 = 0 then (tidelinelaw07_CutsLeast.j1 kj5 a0 a1 a2 t150 (decide (bt156.1 > 1))) else (tidelinelaw07_CutsLeast.j1 kj5 a0 a1 a2 t150 true)) else (tidelinelaw07_CutsLeast.j1 kj5 a0 a1 a2 t150 true))) = some r := H
          have A10 := Aside0.mk A100
          clear A100
          replace H := Option.bind_eq_some_iff.mp H
          obtain ⟨⟨t156, t157⟩, A110, H⟩ := H
          replace H : (if t155 = 0 then (if t157 = 0 then (tidelinelaw07_CutsLeast.j1 kj5 a0 a1 a2 t150 (decide (t156 > 1))) else (tidelinelaw07_CutsLeast.j1 kj5 a0 a1 a2 t150 true)) else (tidelinelaw07_CutsLeast.j1 kj5 a0 a1 a2 t150 true)) = some r := H
          have A11 := Aside0.mk A110
          clear A110
          have HC12 := Aside0.mk H
          clear H
          go_upto_region 9 with (first | ((with_reducible refine gate_callee (f := 13) rfl ?_); refine goesL_ (some 48) rfl rfl Try.func13 (by kernel_rfl) rfl #[.int .i64 a1] rfl (by (try simp only [List.map_toArray, List.map_cons, List.map_nil]); first | done | rfl | (simp only [List.length_drop, List.length_take]; rfl)) ?_; (with_reducible refine (cuts_Depth.calls kj5 a1 t154 t155 _ A10.out).mono ?_); rintro e w' ⟨rfl, ⟨nd, rfl⟩⟩; refine ⟨_, rfl, ?_⟩) | ((with_reducible refine gate_callee (f := 19) rfl ?_); refine goesL_ (some 55) rfl rfl Try.func19 (by kernel_rfl) rfl #[.int .i64 a0, .int .i64 a1, .int .i64 t154] rfl (by (try simp only [List.map_toArray, List.map_cons, List.map_nil]); first | done | rfl | (simp only [List.length_drop, List.length_take]; rfl)) ?_; (with_reducible refine (cuts_Least.calls kj5 a0 a1 t154 t156 t157 _ A11.out).mono ?_); rintro e w' ⟨rfl, ⟨nd, rfl⟩⟩; refine ⟨_, rfl, ?_⟩))
          (try simp only [Act.put, List.setIfInBounds_toArray, List.set_cons_zero, List.set_cons_succ])
          go_cut [67] (fun v67 wc => ∃ (kq : Nat) (x67_11 : Bool), v67 = .bool x67_11 ∧ Aside0 (tidelinelaw07_CutsLeast.j1 kq a0 a1 a2 t150 x67_11 = some r) ∧ Aside0 (kq ≤ kj5) ∧ Aside0 (Below w.heap.size w wc))
          case first =>
            have H := HC12.out
            clear HC12
            by_cases c13 : t155 = 0
            · rw [if_pos c13] at H
              have c13b0 : (t155 == 0) = true := beq_iff_eq.mpr c13
              have c13b1 : (t155 != 0) = false := bne_eq_false_iff_eq.mpr c13
              clear c13
              (first | rw [c13b0] | (simp only [i64_w, i32_w]; rw [c13b0]) | skip)
              by_cases c14 : t157 = 0
              · rw [if_pos c14] at H
                have c14b0 : (t157 == 0) = true := beq_iff_eq.mpr c14
                have c14b1 : (t157 != 0) = false := bne_eq_false_iff_eq.mpr c14
                clear c14
                have H' := Aside0.mk H
                clear H
                go_wp2
                go_meet
                case rel => exact ⟨_, (decide (t156 > 1)), (by first | rfl | (simp; done) | (simp [*]; done)), H', ⟨by have := HJ5.out; first | omega | exact Nat.le_refl _⟩, ⟨by repeat (first | (with_reducible first | exact HB.out | apply below_alloc | apply pw_below_drewN | apply below_drew1) | exact HB.out)⟩⟩
              · rw [if_neg c14] at H
                have c14b0 : (t157 == 0) = false := beq_eq_false_iff_ne.mpr c14
                have c14b1 : (t157 != 0) = true := bne_iff_ne.mpr c14
                have H' := Aside0.mk H
                clear H
                go_wp2
                go_meet
                case rel => exact ⟨_, (true), (by first | rfl | (simp; done) | (simp [*]; done)), H', ⟨by have := HJ5.out; first | omega | exact Nat.le_refl _⟩, ⟨by repeat (first | (with_reducible first | exact HB.out | apply below_alloc | apply pw_below_drewN | apply below_drew1) | exact HB.out)⟩⟩
            · rw [if_neg c13] at H
              have c13b0 : (t155 == 0) = false := beq_eq_false_iff_ne.mpr c13
              have c13b1 : (t155 != 0) = true := bne_iff_ne.mpr c13
              (first | rw [c13b0] | (simp only [i64_w, i32_w]; rw [c13b0]) | skip)
              have H' := Aside0.mk H
              clear H
              go_wp2
              go_meet
              case rel => exact ⟨_, (true), (by first | rfl | (simp; done) | (simp [*]; done)), H', ⟨by have := HJ5.out; first | omega | exact Nat.le_refl _⟩, ⟨by repeat (first | (with_reducible first | exact HB.out | apply below_alloc | apply pw_below_drewN | apply below_drew1) | exact HB.out)⟩⟩
          case rest =>
            clear HC12
            try clear c1
            try clear c2
            try clear p2
            try clear c5
            try clear c7
            try clear c7b0
            try clear c7b1
            try clear c8
            try clear c9
            try clear c9b0
            try clear c9b1
            try clear c13
            try clear c13b0
            try clear c13b1
            try clear c14
            try clear c14b0
            try clear c14b1
            try clear p2
            obtain ⟨kq, x67_11, rfl, HA, HJ11, HB⟩ := hcut
            cases kq with
            | zero => exact absurd HA.out (by simp [tidelinelaw07_CutsLeast.j1])
            | succ kj11 =>
              have H := HA.out
              clear HA
              simp only [tidelinelaw07_CutsLeast.j1] at H
              by_cases c15 : x67_11 = true
              · subst c15
                have H1 : (some false) = some r := by rw [if_pos rfl] at H; exact H
                clear H
                have H := H1
                clear H1
                obtain rfl := Option.some.inj H
                go_wp2
                go_ret
                exact ⟨by first | rfl | (simp [errW_none, errW_some] <;> rfl) | (simp [*, errW_none, errW_some] <;> rfl), by repeat (first | (with_reducible first | exact HB.out | apply below_alloc | apply pw_below_drewN | apply below_drew1) | exact HB.out)⟩
              · replace c15 := Bool.eq_false_iff.mpr c15
                subst c15
                have H1 : (if t150 = 0 then (tidelinelaw07_CutsLeast.j2 kj11 a0 a1 a2 t150 true) else (tidelinelaw07_CutsLeast.j2 kj11 a0 a1 a2 t150 (a2 == 63))) = some r := by rw [if_neg (show ¬ (false = true) by decide)] at H; exact H
                clear H
                have H := H1
                clear H1
                have HC16 := Aside0.mk H
                clear H
                go_upto_region 11 with (fail)
                go_cut [73] (fun v73 wc => ∃ (kq : Nat) (x73_15 : Bool), v73 = .bool x73_15 ∧ Aside0 (tidelinelaw07_CutsLeast.j2 kq a0 a1 a2 t150 x73_15 = some r) ∧ Aside0 (kq ≤ kj11) ∧ Aside0 (Below w.heap.size w wc))
                case first =>
                  have H := HC16.out
                  clear HC16
                  by_cases c17 : t150 = 0
                  · rw [if_pos c17] at H
                    have c17b0 : (t150 == 0) = true := beq_iff_eq.mpr c17
                    have c17b1 : (t150 != 0) = false := bne_eq_false_iff_eq.mpr c17
                    clear c17
                    (first | rw [c17b0] | (simp only [i64_w, i32_w]; rw [c17b0]) | skip)
                    have H' := Aside0.mk H
                    clear H
                    go_wp2
                    go_meet
                    case rel => exact ⟨_, (true), (by first | rfl | (simp; done) | (simp [*]; done)), H', ⟨by have := HJ5.out; have := HJ11.out; first | omega | exact Nat.le_refl _⟩, ⟨by repeat (first | (with_reducible first | exact HB.out | apply below_alloc | apply pw_below_drewN | apply below_drew1) | exact HB.out)⟩⟩
                  · rw [if_neg c17] at H
                    have c17b0 : (t150 == 0) = false := beq_eq_false_iff_ne.mpr c17
                    have c17b1 : (t150 != 0) = true := bne_iff_ne.mpr c17
                    (first | rw [c17b0] | (simp only [i64_w, i32_w]; rw [c17b0]) | skip)
                    have H' := Aside0.mk H
                    clear H
                    go_wp2
                    go_meet
                    case rel => exact ⟨_, ((a2 == 63)), (by first | rfl | (simp; done) | (simp [*]; done)), H', ⟨by have := HJ5.out; have := HJ11.out; first | omega | exact Nat.le_refl _⟩, ⟨by repeat (first | (with_reducible first | exact HB.out | apply below_alloc | apply pw_below_drewN | apply below_drew1) | exact HB.out)⟩⟩
                case rest =>
                  clear HC16
                  try clear c1
                  try clear c2
                  try clear p2
                  try clear c5
                  try clear c7
                  try clear c7b0
                  try clear c7b1
                  try clear c8
                  try clear c9
                  try clear c9b0
                  try clear c9b1
                  try clear c13
                  try clear c13b0
                  try clear c13b1
                  try clear c14
                  try clear c14b0
                  try clear c14b1
                  try clear c15
                  try clear c17
                  try clear c17b0
                  try clear c17b1
                  try clear p2
                  obtain ⟨kq, x73_15, rfl, HA, HJ15, HB⟩ := hcut
                  cases kq with
                  | zero => exact absurd HA.out (by simp [tidelinelaw07_CutsLeast.j2])
                  | succ kj15 =>
                    have H := HA.out
                    clear HA
                    simp only [tidelinelaw07_CutsLeast.j2] at H
                    by_cases c18 : x73_15 = true
                    · subst c18
                      have H1 : (some true) = some r := by rw [if_pos rfl] at H; exact H
                      clear H
                      have H := H1
                      clear H1
                      obtain rfl := Option.some.inj H
                      go_wp2
                      go_ret
                      exact ⟨by first | rfl | (simp [errW_none, errW_some] <;> rfl) | (simp [*, errW_none, errW_some] <;> rfl), by repeat (first | (with_reducible first | exact HB.out | apply below_alloc | apply pw_below_drewN | apply below_drew1) | exact HB.out)⟩
                    · replace c18 := Bool.eq_false_iff.mpr c18
                      subst c18
                      have H1 : ((cuts_Starts.f kj15 t150 (mn t150 a1)).bind fun bt158 => ((cuts_Least.f kj15 a0 a1 (wrap64 (a2 + 1))).bind fun bt162 => (if bt158.2 = 0 then (if bt162.2 = 0 then (tidelinelaw07_CutsLeast.j3 kj15 t150 (mn t150 a1) bt158.1 bt162.1 ((bt158.1.length : Int) != (mn t150 a1))) else (tidelinelaw07_CutsLeast.j3 kj15 t150 (mn t150 a1) bt158.1 bt162.1 true)) else (tidelinelaw07_CutsLeast.j3 kj15 t150 (mn t150 a1) bt158.1 bt162.1 true)))) = some r := by rw [if_neg (show ¬ (false = true) by decide)] at H; exact H
                      clear H
                      have H := H1
                      clear H1
                      obtain ⟨ji19, hji19⟩ : ∃ j_ : Int, (mn t150 a1) = j_ := ⟨_, rfl⟩
                      replace H : ((cuts_Starts.f kj15 t150 (ji19)).bind fun bt158 => ((cuts_Least.f kj15 a0 a1 (wrap64 (a2 + 1))).bind fun bt162 => (if bt158.2 = 0 then (if bt162.2 = 0 then (tidelinelaw07_CutsLeast.j3 kj15 t150 ji19 bt158.1 bt162.1 ((bt158.1.length : Int) != (ji19))) else (tidelinelaw07_CutsLeast.j3 kj15 t150 ji19 bt158.1 bt162.1 true)) else (tidelinelaw07_CutsLeast.j3 kj15 t150 ji19 bt158.1 bt162.1 true)))) = some r := by first | (rw [hji19] at H; exact H) | (simp only [hji19] at H ⊢; exact H)
                      have hji19_ : (if a1 < t150 then a1 else t150) = ji19 := hji19
                      replace H := Option.bind_eq_some_iff.mp H
                      obtain ⟨⟨t158, t159⟩, A200, H⟩ := H
                      replace H : ((cuts_Least.f kj15 a0 a1 (wrap64 (a2 + 1))).bind fun bt162 => (if t159 = 0 then (if bt162.2 = 0 then (tidelinelaw07_CutsLeast.j3 kj15 t150 ji19 t158 bt162.1 ((t158.length : Int) != (ji19))) else (tidelinelaw07_CutsLeast.j3 kj15 t150 ji19 t158 bt162.1 true)) else (tidelinelaw07_CutsLeast.j3 kj15 t150 ji19 t158 bt162.1 true))) = some r := H
                      have A20 := Aside0.mk A200
                      clear A200
                      replace H := Option.bind_eq_some_iff.mp H
                      obtain ⟨⟨t162, t163⟩, A210, H⟩ := H
                      replace H : (if t159 = 0 then (if t163 = 0 then (tidelinelaw07_CutsLeast.j3 kj15 t150 ji19 t158 t162 ((t158.length : Int) != (ji19))) else (tidelinelaw07_CutsLeast.j3 kj15 t150 ji19 t158 t162 true)) else (tidelinelaw07_CutsLeast.j3 kj15 t150 ji19 t158 t162 true)) = some r := H
                      have A21 := Aside0.mk A210
                      clear A210
                      have HC22 := Aside0.mk H
                      clear H
                      go_upto_region 16 with (first | ((with_reducible refine gate_callee (f := 10) rfl ?_); refine goesL_ (some 80) rfl rfl Try.func10 (by kernel_rfl) rfl #[.int .i64 t150, .int .i64 ji19] rfl (by (try simp only [List.map_toArray, List.map_cons, List.map_nil]); first | done | (simp only [hji19]; rfl) | rfl | (simp only [List.length_drop, List.length_take]; rfl)) ?_; (with_reducible refine (cuts_Starts.calls kj15 t150 ji19 t158 t159 _ A20.out).mono ?_); rintro e w23 ⟨v160, rfl, ho0, hb⟩; refine ⟨_, rfl, ?_⟩; have n0_ := Aside0.mk (Kd.R_lower ho0 (below_size (by repeat (first | (with_reducible first | exact HB.out | apply below_alloc | apply pw_below_drewN | apply below_drew1) | exact HB.out)))); have n1_ := Aside0.mk (below_step (by repeat (first | (with_reducible first | exact HB.out | apply below_alloc | apply pw_below_drewN | apply below_drew1) | exact HB.out)) hb); clear HB; have HO161 := n0_; have HB := n1_; clear n0_ n1_; (try clear hb); (try clear hb2); (try clear hk); (try clear hi); (try clear ho0)) | ((with_reducible refine gate_callee (f := 19) rfl ?_); refine goesL_ (some 88) rfl rfl Try.func19 (by kernel_rfl) rfl #[.int .i64 a0, .int .i64 a1, .int .i64 (wrap64 (a2 + 1))] rfl (by (try simp only [List.map_toArray, List.map_cons, List.map_nil]); first | done | rfl | (simp only [List.length_drop, List.length_take]; rfl)) ?_; (with_reducible refine (cuts_Least.calls kj15 a0 a1 (wrap64 (a2 + 1)) t162 t163 _ A21.out).mono ?_); rintro e w' ⟨rfl, ⟨nd, rfl⟩⟩; refine ⟨_, rfl, ?_⟩))
                      (try simp only [Act.put, List.setIfInBounds_toArray, List.set_cons_zero, List.set_cons_succ])
                      go_cut [102] (fun v102 wc => ∃ (kq : Nat) (x102_21 : Bool), v102 = .bool x102_21 ∧ Aside0 (tidelinelaw07_CutsLeast.j3 kq t150 ji19 t158 t162 x102_21 = some r) ∧ Aside0 (kq ≤ kj15) ∧ Aside0 (Kd.R (Kd.int .i64) 3 wc w.heap.size (fun _ => True) v160 t158) ∧ Aside0 (Below w.heap.size w wc))
                      case first =>
                        have H := HC22.out
                        clear HC22
                        by_cases c24 : t159 = 0
                        · rw [if_pos c24] at H
                          have c24b0 : (t159 == 0) = true := beq_iff_eq.mpr c24
                          have c24b1 : (t159 != 0) = false := bne_eq_false_iff_eq.mpr c24
                          clear c24
                          (first | rw [c24b0] | (simp only [i64_w, i32_w]; rw [c24b0]) | skip)
                          by_cases c25 : t163 = 0
                          · rw [if_pos c25] at H
                            have c25b0 : (t163 == 0) = true := beq_iff_eq.mpr c25
                            have c25b1 : (t163 != 0) = false := bne_eq_false_iff_eq.mpr c25
                            clear c25
                            have H' := Aside0.mk H
                            clear H
                            obtain ⟨Ao26, co26, eo26⟩ := Kd.R_slice HO161.out
                            subst eo26
                            go_wp2
                            go_meet
                            case rel => exact ⟨_, (((t158.length : Int) != (ji19))), (by first | rfl | (simp; done) | (simp only [← hji19] <;> (first | rfl | simp)) | (simp [*]; done)), H', ⟨by have := HJ5.out; have := HJ11.out; have := HJ15.out; first | omega | exact Nat.le_refl _⟩, ⟨by (with_reducible repeat (first | apply Kd.R_alloc | apply Kd.R_drewN | apply Kd.R_drew)); exact HO161.out⟩, ⟨by repeat (first | (with_reducible first | exact HB.out | apply below_alloc | apply pw_below_drewN | apply below_drew1) | exact HB.out)⟩⟩
                          · rw [if_neg c25] at H
                            have c25b0 : (t163 == 0) = false := beq_eq_false_iff_ne.mpr c25
                            have c25b1 : (t163 != 0) = true := bne_iff_ne.mpr c25
                            have H' := Aside0.mk H
                            clear H
                            go_wp2
                            go_meet
                            case rel => exact ⟨_, (true), (by first | rfl | (simp; done) | (simp [*]; done)), H', ⟨by have := HJ5.out; have := HJ11.out; have := HJ15.out; first | omega | exact Nat.le_refl _⟩, ⟨by (with_reducible repeat (first | apply Kd.R_alloc | apply Kd.R_drewN | apply Kd.R_drew)); exact HO161.out⟩, ⟨by repeat (first | (with_reducible first | exact HB.out | apply below_alloc | apply pw_below_drewN | apply below_drew1) | exact HB.out)⟩⟩
                        · rw [if_neg c24] at H
                          have c24b0 : (t159 == 0) = false := beq_eq_false_iff_ne.mpr c24
                          have c24b1 : (t159 != 0) = true := bne_iff_ne.mpr c24
                          (first | rw [c24b0] | (simp only [i64_w, i32_w]; rw [c24b0]) | skip)
                          have H' := Aside0.mk H
                          clear H
                          go_wp2
                          go_meet
                          case rel => exact ⟨_, (true), (by first | rfl | (simp; done) | (simp [*]; done)), H', ⟨by have := HJ5.out; have := HJ11.out; have := HJ15.out; first | omega | exact Nat.le_refl _⟩, ⟨by (with_reducible repeat (first | apply Kd.R_alloc | apply Kd.R_drewN | apply Kd.R_drew)); exact HO161.out⟩, ⟨by repeat (first | (with_reducible first | exact HB.out | apply below_alloc | apply pw_below_drewN | apply below_drew1) | exact HB.out)⟩⟩
                      case rest =>
                        clear HC22
                        try clear c1
                        try clear c2
                        try clear p2
                        try clear c5
                        try clear p6
                        try clear c7
                        try clear c7b0
                        try clear c7b1
                        try clear c8
                        try clear c9
                        try clear c9b0
                        try clear c9b1
                        try clear c10
                        try clear c13
                        try clear c13b0
                        try clear c13b1
                        try clear c14
                        try clear c14b0
                        try clear c14b1
                        try clear c15
                        try clear c17
                        try clear c17b0
                        try clear c17b1
                        try clear c18
                        try clear c19
                        try clear c20
                        try clear c24
                        try clear c24b0
                        try clear c24b1
                        try clear c25
                        try clear c25b0
                        try clear c25b1
                        try clear p2
                        obtain ⟨kq, x102_21, rfl, HA, HJ21, HO_16, HB⟩ := hcut
                        cases kq with
                        | zero => exact absurd HA.out (by simp [tidelinelaw07_CutsLeast.j3])
                        | succ kj21 =>
                          have H := HA.out
                          clear HA
                          simp only [tidelinelaw07_CutsLeast.j3] at H
                          by_cases c27 : x102_21 = true
                          · subst c27
                            have H1 : (some false) = some r := by rw [if_pos rfl] at H; exact H
                            clear H
                            have H := H1
                            clear H1
                            obtain rfl := Option.some.inj H
                            go_wp2
                            go_ret
                            exact ⟨by first | rfl | (simp [errW_none, errW_some] <;> rfl) | (simp only [← hji19]; first | rfl | (simp [errW_none, errW_some] <;> rfl)) | (simp [*, errW_none, errW_some] <;> rfl), by repeat (first | (with_reducible first | exact HB.out | apply below_alloc | apply pw_below_drewN | apply below_drew1) | exact HB.out)⟩
                          · replace c27 := Bool.eq_false_iff.mpr c27
                            subst c27
                            have H1 : (tidelinelaw07_CutsLeast.l0 kj21 t150 ji19 t158 t162 0) = some r := by rw [if_neg (show ¬ (false = true) by decide)] at H; exact H
                            clear H
                            have H := H1
                            clear H1
                            have H' := Aside0.mk H
                            clear H
                            go_wp2
                            go_loopg [20] kj21 (fun kq v20 w' => ∃ (x20_5 : Int), v20 = .int .i64 x20_5 ∧ Aside0 (tidelinelaw07_CutsLeast.l0 kq t150 ji19 t158 t162 x20_5 = some r) ∧ Aside0 (kq ≤ kj21) ∧ Aside0 (Kd.R (Kd.int .i64) 3 w' w.heap.size (fun _ => True) v160 t158) ∧ Aside0 (Below w.heap.size w w'))
                            case atStart => exact ⟨(0), (by first | rfl | (simp; done) | (simp [*]; done)), H', ⟨Nat.le_refl _⟩, ⟨by (with_reducible repeat (first | apply Kd.R_alloc | apply Kd.R_drewN | apply Kd.R_drew)); exact HO_16.out⟩, ⟨by repeat (first | (with_reducible first | exact HB.out | apply below_alloc | apply pw_below_drewN | apply below_drew1) | exact HB.out)⟩⟩
                            case round =>
                              clear H'
                              try clear c1
                              try clear c2
                              try clear p2
                              try clear c5
                              try clear p6
                              try clear c7
                              try clear c7b0
                              try clear c7b1
                              try clear c8
                              try clear c9
                              try clear c9b0
                              try clear c9b1
                              try clear c10
                              try clear c13
                              try clear c13b0
                              try clear c13b1
                              try clear c14
                              try clear c14b0
                              try clear c14b1
                              try clear c15
                              try clear c17
                              try clear c17b0
                              try clear c17b1
                              try clear c18
                              try clear c19
                              try clear c20
                              try clear c24
                              try clear c24b0
                              try clear c24b1
                              try clear c25
                              try clear c25b0
                              try clear c25b1
                              try clear c27
                              try clear p2
                              try clear p6
                              obtain ⟨x20_5, rfl, HA, HK5, HO_16, HB⟩ := hrel
                              cases gk with
                              | zero => exact absurd HA.out (by simp [tidelinelaw07_CutsLeast.l0])
                              | succ k5 =>
                                have H := HA.out
                                clear HA
                                simp only [tidelinelaw07_CutsLeast.l0] at H
                                by_cases c28 : x20_5 < ji19
                                · rw [if_pos c28] at H
                                  have c28b0 : decide (x20_5 < ji19) = true := decide_eq_true c28
                                  clear c28
                                  by_cases c29 : (wrap64 (x20_5 + 1)) < ji19
                                  · rw [if_pos c29] at H
                                    have c29b0 : decide ((wrap64 (x20_5 + 1)) < ji19) = true := decide_eq_true c29
                                    clear c29
                                    obtain ⟨ji30, hji30⟩ : ∃ j_ : Int, (wrap64 (x20_5 + 1)) = j_ := ⟨_, rfl⟩
                                    replace H : (if 0 ≤ (ji30) then (if (ji30) < (t158.length : Int) then (if 0 ≤ x20_5 then (if x20_5 < (t158.length : Int) then (if (wrap64 ((rd t158 (ji30)) - (rd t158 x20_5))) > t162 then (some false) else (tidelinelaw07_CutsLeast.l0 k5 t150 ji19 t158 t162 ji30)) else (none)) else (none)) else (none)) else (none)) = some r := by first | (rw [hji30] at H; exact H) | (simp only [hji30] at H ⊢; exact H)
                                    (try rw [hji30] at c29b0)
                                    have hji30w : (IntKind.i64.wrap (x20_5 + 1)) = ji30 := (i64_w _).trans hji30
                                    by_cases c31 : 0 ≤ (ji30)
                                    · rw [if_pos c31] at H
                                      have c31b0 : decide (0 ≤ (ji30)) = true := decide_eq_true c31
                                      clear c31
                                      by_cases c32 : (ji30) < (t158.length : Int)
                                      · rw [if_pos c32] at H
                                        have c32b0 : decide ((ji30) < (t158.length : Int)) = true := decide_eq_true c32
                                        clear c32
                                        by_cases c33 : 0 ≤ x20_5
                                        · rw [if_pos c33] at H
                                          have c33b0 : decide (0 ≤ x20_5) = true := decide_eq_true c33
                                          clear c33
                                          by_cases c34 : x20_5 < (t158.length : Int)
                                          · rw [if_pos c34] at H
                                            have c34b0 : decide (x20_5 < (t158.length : Int)) = true := decide_eq_true c34
                                            clear c34
                                            by_cases c35 : (wrap64 ((rd t158 (ji30)) - (rd t158 x20_5))) > t162
                                            · rw [if_pos c35] at H
                                              have c35b0 : decide (t162 < (wrap64 ((rd t158 (ji30)) - (rd t158 x20_5)))) = true := decide_eq_true c35
                                              clear c35
                                              obtain rfl := Option.some.inj H
                                              obtain ⟨Ao36, co36, eo36⟩ := Kd.R_slice HO_16.out
                                              subst eo36
                                              have p164 : 0 ≤ ((ji30) : Int) := of_decide_eq_true (by first | (with_reducible assumption) | assumption)
                                              have q164 : (ji30) < (t158.length : Int) := of_decide_eq_true (by first | (with_reducible assumption) | assumption)
                                              obtain ⟨ad164, e164, hx164_0⟩ := Kd.at_int (Kd.R_reads' HO_16.out).2.2 (ji30) p164 q164
                                              cases e164
                                              replace p164 := eq_true p164
                                              replace q164 := eq_true q164
                                              have p165 : 0 ≤ (x20_5 : Int) := of_decide_eq_true (by first | (with_reducible assumption) | assumption)
                                              have q165 : x20_5 < (t158.length : Int) := of_decide_eq_true (by first | (with_reducible assumption) | assumption)
                                              obtain ⟨ad165, e165, hx165_0⟩ := Kd.at_int (Kd.R_reads' HO_16.out).2.2 x20_5 p165 q165
                                              obtain rfl : ad164 = ad165 := (by injection e165)
                                              replace p165 := eq_true p165
                                              replace q165 := eq_true q165
                                              go_wp2
                                              go_ret
                                              exact ⟨by first | rfl | (simp [errW_none, errW_some] <;> rfl) | (simp only [← hji19, ← hji30]; first | rfl | (simp [errW_none, errW_some] <;> rfl)) | (simp [*, errW_none, errW_some] <;> rfl), by repeat (first | (with_reducible first | exact HB.out | apply below_alloc | apply pw_below_drewN | apply below_drew1) | exact HB.out)⟩
                                            · rw [if_neg c35] at H
                                              have c35b0 : decide (t162 < (wrap64 ((rd t158 (ji30)) - (rd t158 x20_5)))) = false := decide_eq_false c35
                                              clear c35
                                              have H' := Aside0.mk H
                                              clear H
                                              obtain ⟨Ao37, co37, eo37⟩ := Kd.R_slice HO_16.out
                                              subst eo37
                                              have p164 : 0 ≤ ((ji30) : Int) := of_decide_eq_true (by first | (with_reducible assumption) | assumption)
                                              have q164 : (ji30) < (t158.length : Int) := of_decide_eq_true (by first | (with_reducible assumption) | assumption)
                                              obtain ⟨ad164, e164, hx164_0⟩ := Kd.at_int (Kd.R_reads' HO_16.out).2.2 (ji30) p164 q164
                                              cases e164
                                              replace p164 := eq_true p164
                                              replace q164 := eq_true q164
                                              have p165 : 0 ≤ (x20_5 : Int) := of_decide_eq_true (by first | (with_reducible assumption) | assumption)
                                              have q165 : x20_5 < (t158.length : Int) := of_decide_eq_true (by first | (with_reducible assumption) | assumption)
                                              obtain ⟨ad165, e165, hx165_0⟩ := Kd.at_int (Kd.R_reads' HO_16.out).2.2 x20_5 p165 q165
                                              obtain rfl : ad164 = ad165 := (by injection e165)
                                              replace p165 := eq_true p165
                                              replace q165 := eq_true q165
                                              go_wp2
                                              go_roundg k5
                                              case measure => have := HJ5.out; have := HJ11.out; have := HJ15.out; have := HJ21.out; have := HK5.out; omega
                                              case rel => exact ⟨(ji30), (by first | rfl | (simp; done) | (simp only [← hji30] <;> (first | rfl | simp)) | (simp [*]; done)), H', ⟨by have := HJ5.out; have := HJ11.out; have := HJ15.out; have := HJ21.out; have := HK5.out; omega⟩, ⟨by (with_reducible repeat (first | apply Kd.R_alloc | apply Kd.R_drewN | apply Kd.R_drew)); exact HO_16.out⟩, ⟨by repeat (first | (with_reducible first | exact HB.out | apply below_alloc | apply pw_below_drewN | apply below_drew1) | exact HB.out)⟩⟩
                                          · rw [if_neg c34] at H
                                            exact absurd H (by simp)
                                        · rw [if_neg c33] at H
                                          exact absurd H (by simp)
                                      · rw [if_neg c32] at H
                                        exact absurd H (by simp)
                                    · rw [if_neg c31] at H
                                      exact absurd H (by simp)
                                  · rw [if_neg c29] at H
                                    have c29b0 : decide ((wrap64 (x20_5 + 1)) < ji19) = false := decide_eq_false c29
                                    clear c29
                                    by_cases c38 : 0 ≤ x20_5
                                    · rw [if_pos c38] at H
                                      have c38b0 : decide (0 ≤ x20_5) = true := decide_eq_true c38
                                      clear c38
                                      by_cases c39 : x20_5 < (t158.length : Int)
                                      · rw [if_pos c39] at H
                                        have c39b0 : decide (x20_5 < (t158.length : Int)) = true := decide_eq_true c39
                                        clear c39
                                        by_cases c40 : (wrap64 (t150 - (rd t158 x20_5))) > t162
                                        · rw [if_pos c40] at H
                                          have c40b0 : decide (t162 < (wrap64 (t150 - (rd t158 x20_5)))) = true := decide_eq_true c40
                                          clear c40
                                          obtain rfl := Option.some.inj H
                                          obtain ⟨Ao41, co41, eo41⟩ := Kd.R_slice HO_16.out
                                          subst eo41
                                          have p166 : 0 ≤ (x20_5 : Int) := of_decide_eq_true (by first | (with_reducible assumption) | assumption)
                                          have q166 : x20_5 < (t158.length : Int) := of_decide_eq_true (by first | (with_reducible assumption) | assumption)
                                          obtain ⟨ad166, e166, hx166_0⟩ := Kd.at_int (Kd.R_reads' HO_16.out).2.2 x20_5 p166 q166
                                          cases e166
                                          replace p166 := eq_true p166
                                          replace q166 := eq_true q166
                                          go_wp2
                                          go_ret
                                          exact ⟨by first | rfl | (simp [errW_none, errW_some] <;> rfl) | (simp only [← hji19]; first | rfl | (simp [errW_none, errW_some] <;> rfl)) | (simp [*, errW_none, errW_some] <;> rfl), by repeat (first | (with_reducible first | exact HB.out | apply below_alloc | apply pw_below_drewN | apply below_drew1) | exact HB.out)⟩
                                        · rw [if_neg c40] at H
                                          have c40b0 : decide (t162 < (wrap64 (t150 - (rd t158 x20_5)))) = false := decide_eq_false c40
                                          clear c40
                                          have H' := Aside0.mk H
                                          clear H
                                          obtain ⟨Ao42, co42, eo42⟩ := Kd.R_slice HO_16.out
                                          subst eo42
                                          have p166 : 0 ≤ (x20_5 : Int) := of_decide_eq_true (by first | (with_reducible assumption) | assumption)
                                          have q166 : x20_5 < (t158.length : Int) := of_decide_eq_true (by first | (with_reducible assumption) | assumption)
                                          obtain ⟨ad166, e166, hx166_0⟩ := Kd.at_int (Kd.R_reads' HO_16.out).2.2 x20_5 p166 q166
                                          cases e166
                                          replace p166 := eq_true p166
                                          replace q166 := eq_true q166
                                          go_wp2
                                          go_roundg k5
                                          case measure => have := HJ5.out; have := HJ11.out; have := HJ15.out; have := HJ21.out; have := HK5.out; omega
                                          case rel => exact ⟨(wrap64 (x20_5 + 1)), (by first | rfl | (simp; done) | (simp [*]; done)), H', ⟨by have := HJ5.out; have := HJ11.out; have := HJ15.out; have := HJ21.out; have := HK5.out; omega⟩, ⟨by (with_reducible repeat (first | apply Kd.R_alloc | apply Kd.R_drewN | apply Kd.R_drew)); exact HO_16.out⟩, ⟨by repeat (first | (with_reducible first | exact HB.out | apply below_alloc | apply pw_below_drewN | apply below_drew1) | exact HB.out)⟩⟩
                                      · rw [if_neg c39] at H
                                        exact absurd H (by simp)
                                    · rw [if_neg c38] at H
                                      exact absurd H (by simp)
                                · rw [if_neg c28] at H
                                  have c28b0 : decide (x20_5 < ji19) = false := decide_eq_false c28
                                  clear c28
                                  obtain rfl := Option.some.inj H
                                  go_wp2
                                  go_ret
                                  exact ⟨by first | rfl | (simp [errW_none, errW_some] <;> rfl) | (simp only [← hji19]; first | rfl | (simp [errW_none, errW_some] <;> rfl)) | (simp [*, errW_none, errW_some] <;> rfl), by repeat (first | (with_reducible first | exact HB.out | apply below_alloc | apply pw_below_drewN | apply below_drew1) | exact HB.out)⟩
        · rw [if_neg c9] at H
          have c9b0 : (t151 == 0) = false := beq_eq_false_iff_ne.mpr c9
          have c9b1 : (t151 != 0) = true := bne_iff_ne.mpr c9
          obtain rfl := Option.some.inj H
          go_wp2
          go_ret
          exact ⟨by first | rfl | (simp [errW_none, errW_some] <;> rfl) | (simp [*, errW_none, errW_some] <;> rfl), by repeat (first | (with_reducible first | exact HB.out | apply below_alloc | apply pw_below_drewN | apply below_drew1) | exact HB.out)⟩

/-- THE ONE PURE STATEMENT of tidelinelaw07_CutsLeast: yours. -/
def tidelinelaw07_CutsLeast.Pure : Prop := ∀ (a0 : Int) (a1 : Int) (a2 : Int), (Lit.int .i64 a0).wf = true → (Lit.int .i64 a1).wf = true → (Lit.int .i64 a2).wf = true → ∃ k, tidelinelaw07_CutsLeast.f k a0 a1 a2 = some true
theorem tidelinelaw07_CutsLeast.walk (P : tidelinelaw07_CutsLeast.Pure) (a0 : Int) (a1 : Int) (a2 : Int) (w : World) (w0 : (Lit.int .i64 a0).wf = true) (w1 : (Lit.int .i64 a1).wf = true) (w2 : (Lit.int .i64 a2).wf = true) :
    Calls Try.prog 5 #[.int .i64 a0, .int .i64 a1, .int .i64 a2] w fun e w' => e = .returned (.bool true) ∧ Below w.heap.size w w' := by
  obtain ⟨k, h⟩ := P a0 a1 a2 w0 w1 w2
  refine (tidelinelaw07_CutsLeast.calls k a0 a1 a2 true w h).mono ?_
  rintro e w' ⟨rfl, hd⟩
  exact ⟨rfl, hd⟩

end Go.Proofs.Ytcfiobhebakhlaa.PAll
