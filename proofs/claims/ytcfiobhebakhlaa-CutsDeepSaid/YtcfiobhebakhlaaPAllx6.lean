-- By wip/pr.py (a program of this session, over the kit's print): lines written by program. Not trusted: Lean checks them.
import Derived.Test.YtcfiobhebakhlaaSTiles
import Derived.Test.YtcfiobhebakhlaaPAllx0
import Derived.Test.YtcfiobhebakhlaaPAllx1
import Derived.Test.YtcfiobhebakhlaaPAllx2
import Derived.Test.YtcfiobhebakhlaaPAllx4
import Derived.Test.YtcfiobhebakhlaaPAllx5
namespace Go.Proofs.Ytcfiobhebakhlaa.PAll
open Go.RowKit Go.Proofs.YtcfiobhebakhlaaW.PrintWords Go.Proofs.YtcfiobhebakhlaaW.PrintLast Go.Proofs.YtcfiobhebakhlaaW.PrintMore
attribute [local go_sem] max2_int min2_int max_two min_two max_three min_three max_four min_four   -- for this text's walks alone
set_option linter.unusedVariables false
set_option linter.unusedSimpArgs false

/-! ### tidelinelaw07_CutsDeep: function 8 -/
mutual
def tidelinelaw07_CutsDeep.j0 : Nat → List ByteArray → Int → Int → Bool → ByteArray → ByteArray → Bool → Option (Bool)
  | 0, _, _, _, _, _, _, _ => none
  | k + 1, x1, x2, x9, x41, x222000, x222001, x222002 => if x41 = true then (some true) else ((some (([] : List (S36)) : List (S36))).bind fun y229 => (if y229.length < 3518437208883 then (tidelinelaw07_CutsDeep.l0 k x1 x2 x9 (y229 ++ [(⟨x222000, x222001, x222002⟩ : S36)]) 0 x222000 x222001 x222002) else (none)))
def tidelinelaw07_CutsDeep.l0 : Nat → List ByteArray → Int → Int → List (S36) → Int → ByteArray → ByteArray → Bool → Option (Bool)
  | 0, _, _, _, _, _, _, _, _ => none
  | k + 1, x1, x2, x9, x11, x12, x222000, x222001, x222002 => if x12 < x9 then (tidelinelaw07_CutsDeep.l1 k x1 x2 x9 x11 x12 (([] : List (S36))) 0 x222000 x222001 x222002) else (tidelinelaw07_CutsDeep.l3 k x1 x11 0 x222000 x222001 x222002)
def tidelinelaw07_CutsDeep.l1 : Nat → List ByteArray → Int → Int → List (S36) → Int → List (S36) → Int → ByteArray → ByteArray → Bool → Option (Bool)
  | 0, _, _, _, _, _, _, _, _, _, _ => none
  | k + 1, x1, x2, x9, x11, x12, x13, x14, x222000, x222001, x222002 => if x14 < (x11.length : Int) then (tidelinelaw07_CutsDeep.l2 k x1 x2 x9 x11 x12 x13 x14 (([] : List ByteArray)) 0 x222000 x222001 x222002) else (tidelinelaw07_CutsDeep.l0 k x1 x2 x9 x13 (wrap64 (x12 + 1)) x222000 x222001 x222002)
def tidelinelaw07_CutsDeep.l2 : Nat → List ByteArray → Int → Int → List (S36) → Int → List (S36) → Int → List ByteArray → Int → ByteArray → ByteArray → Bool → Option (Bool)
  | 0, _, _, _, _, _, _, _, _, _, _, _, _ => none
  | k + 1, x1, x2, x9, x11, x12, x13, x14, x15, x16, x222000, x222001, x222002 => if x16 < (x1.length : Int) then (if 0 ≤ x14 then (if x14 < (x11.length : Int) then (if 0 ≤ x16 then ((span_Holds.f k ((rd_T36 x11 x14).f0) ((rd_T36 x11 x14).f1) ((rd_T36 x11 x14).f2) (rdOf ByteArray.empty x1 x16)).bind fun t243 => (if t243 = true then (if x15.length < 8796093022208 then (tidelinelaw07_CutsDeep.l2 k x1 x2 x9 x11 x12 x13 x14 (x15 ++ [rdOf ByteArray.empty x1 x16]) (wrap64 (x16 + 1)) x222000 x222001 x222002) else (none)) else (tidelinelaw07_CutsDeep.l2 k x1 x2 x9 x11 x12 x13 x14 x15 (wrap64 (x16 + 1)) x222000 x222001 x222002))) else (none)) else (none)) else (none)) else (if (x15.length : Int) < 2 then (if 0 ≤ x14 then (if x14 < (x11.length : Int) then (if x13.length < 3518437208883 then (tidelinelaw07_CutsDeep.l1 k x1 x2 x9 x11 x12 (x13 ++ [(⟨(rd_T36 x11 x14).f0, (rd_T36 x11 x14).f1, (rd_T36 x11 x14).f2⟩ : S36)]) (wrap64 (x14 + 1)) x222000 x222001 x222002) else (none)) else (none)) else (none)) else (if 0 ≤ x14 then (if x14 < (x11.length : Int) then ((cuts_Ranges.f k ((rd_T36 x11 x14).f0) ((rd_T36 x11 x14).f1) ((rd_T36 x11 x14).f2) x15 (mn x2 (x15.length : Int))).bind fun bt253 => (if bt253.2 = 0 then (if (bt253.1.length : Int) < 2 then (none) else (if x13.length + bt253.1.length < 3518437208883 then (tidelinelaw07_CutsDeep.l1 k x1 x2 x9 x11 x12 (x13 ++ bt253.1) (wrap64 (x14 + 1)) x222000 x222001 x222002) else (none))) else (none))) else (none)) else (none)))
def tidelinelaw07_CutsDeep.l3 : Nat → List ByteArray → List (S36) → Int → ByteArray → ByteArray → Bool → Option (Bool)
  | 0, _, _, _, _, _, _ => none
  | k + 1, x1, x11, x19, x222000, x222001, x222002 => if x19 < (x11.length : Int) then (tidelinelaw07_CutsDeep.l4 k x1 x11 x19 0 0 x222000 x222001 x222002) else ((span_Tile.f x11 x222000 x222001 x222002).bind fun t260 => (some t260))
def tidelinelaw07_CutsDeep.l4 : Nat → List ByteArray → List (S36) → Int → Int → Int → ByteArray → ByteArray → Bool → Option (Bool)
  | 0, _, _, _, _, _, _, _, _ => none
  | k + 1, x1, x11, x19, x20, x21, x222000, x222001, x222002 => if x21 < (x1.length : Int) then (if 0 ≤ x19 then (if x19 < (x11.length : Int) then (if 0 ≤ x21 then ((span_Holds.f k ((rd_T36 x11 x19).f0) ((rd_T36 x11 x19).f1) ((rd_T36 x11 x19).f2) (rdOf ByteArray.empty x1 x21)).bind fun t263 => (if t263 = true then (tidelinelaw07_CutsDeep.l4 k x1 x11 x19 (wrap64 (x20 + 1)) (wrap64 (x21 + 1)) x222000 x222001 x222002) else (tidelinelaw07_CutsDeep.l4 k x1 x11 x19 x20 (wrap64 (x21 + 1)) x222000 x222001 x222002))) else (none)) else (none)) else (none)) else (if x20 > 1 then (none) else (tidelinelaw07_CutsDeep.l3 k x1 x11 (wrap64 (x19 + 1)) x222000 x222001 x222002))
end
def tidelinelaw07_CutsDeep.f (k : Nat) (a0_0 : ByteArray) (a0_1 : ByteArray) (a0_2 : Bool) (l1 : List ByteArray) (a2 : Int) : Option (Bool) := (tidelinelaw07_beyond.f k l1 a0_0 a0_1 a0_2).bind fun t222 => (if t222 = true then (some true) else ((tidelineref07_Ranges.f k a0_0 a0_1 a0_2 l1 1).bind fun bt223 => ((tidelineref07_Depth.f k a2).bind fun bt227 => (if bt223.2 = 0 then (tidelinelaw07_CutsDeep.j0 k l1 a2 bt227.1 (bt227.2 != 0) a0_0 a0_1 a0_2) else (tidelinelaw07_CutsDeep.j0 k l1 a2 bt227.1 true a0_0 a0_1 a0_2)))))
theorem tidelinelaw07_CutsDeep.mono_l : ∀ k, (∀ y0 y1 y2 y3 y4 y5 y6, LeO (tidelinelaw07_CutsDeep.j0 k y0 y1 y2 y3 y4 y5 y6) (tidelinelaw07_CutsDeep.j0 (k + 1) y0 y1 y2 y3 y4 y5 y6)) ∧ (∀ y0 y1 y2 y3 y4 y5 y6 y7, LeO (tidelinelaw07_CutsDeep.l0 k y0 y1 y2 y3 y4 y5 y6 y7) (tidelinelaw07_CutsDeep.l0 (k + 1) y0 y1 y2 y3 y4 y5 y6 y7)) ∧ (∀ y0 y1 y2 y3 y4 y5 y6 y7 y8 y9, LeO (tidelinelaw07_CutsDeep.l1 k y0 y1 y2 y3 y4 y5 y6 y7 y8 y9) (tidelinelaw07_CutsDeep.l1 (k + 1) y0 y1 y2 y3 y4 y5 y6 y7 y8 y9)) ∧ (∀ y0 y1 y2 y3 y4 y5 y6 y7 y8 y9 y10 y11, LeO (tidelinelaw07_CutsDeep.l2 k y0 y1 y2 y3 y4 y5 y6 y7 y8 y9 y10 y11) (tidelinelaw07_CutsDeep.l2 (k + 1) y0 y1 y2 y3 y4 y5 y6 y7 y8 y9 y10 y11)) ∧ (∀ y0 y1 y2 y3 y4 y5, LeO (tidelinelaw07_CutsDeep.l3 k y0 y1 y2 y3 y4 y5) (tidelinelaw07_CutsDeep.l3 (k + 1) y0 y1 y2 y3 y4 y5)) ∧ (∀ y0 y1 y2 y3 y4 y5 y6 y7, LeO (tidelinelaw07_CutsDeep.l4 k y0 y1 y2 y3 y4 y5 y6 y7) (tidelinelaw07_CutsDeep.l4 (k + 1) y0 y1 y2 y3 y4 y5 y6 y7))
  | 0 => ⟨fun _ _ _ _ _ _ _ r h => by simp [tidelinelaw07_CutsDeep.j0] at h, fun _ _ _ _ _ _ _ _ r h => by simp [tidelinelaw07_CutsDeep.l0] at h, fun _ _ _ _ _ _ _ _ _ _ r h => by simp [tidelinelaw07_CutsDeep.l1] at h, fun _ _ _ _ _ _ _ _ _ _ _ _ r h => by simp [tidelinelaw07_CutsDeep.l2] at h, fun _ _ _ _ _ _ r h => by simp [tidelinelaw07_CutsDeep.l3] at h, fun _ _ _ _ _ _ _ _ r h => by simp [tidelinelaw07_CutsDeep.l4] at h⟩
  | k + 1 => by
    obtain ⟨ih0, ih1, ih2, ih3, ih4, ih5⟩ := tidelinelaw07_CutsDeep.mono_l k
    refine ⟨?_, ?_, ?_, ?_, ?_, ?_⟩
    · intro y0 y1 y2 y3 y4 y5 y6
      unfold tidelinelaw07_CutsDeep.j0
      repeat' first
      | (with_reducible exact ih0 _ _ _ _ _ _ _)
      | (with_reducible exact ih1 _ _ _ _ _ _ _ _)
      | (with_reducible exact ih2 _ _ _ _ _ _ _ _ _ _)
      | (with_reducible exact ih3 _ _ _ _ _ _ _ _ _ _ _ _)
      | (with_reducible exact ih4 _ _ _ _ _ _)
      | (with_reducible exact ih5 _ _ _ _ _ _ _ _)
      | (with_reducible exact cuts_Ranges.mono _ _ _ _ _ _)
      | (with_reducible exact span_Holds.mono _ _ _ _ _)
      | (with_reducible exact tidelinelaw07_beyond.mono _ _ _ _ _)
      | (with_reducible exact tidelineref07_Depth.mono _ _)
      | (with_reducible exact tidelineref07_Ranges.mono _ _ _ _ _ _)
      | (with_reducible exact LeO.refl _)
      | (with_reducible exact LeO.none _)
      | (with_reducible refine LeO.ite ?_ ?_)
      | (with_reducible refine LeO.bind ?_ (fun _ => ?_))
      | exact ih0 _ _ _ _ _ _ _
      | exact ih1 _ _ _ _ _ _ _ _
      | exact ih2 _ _ _ _ _ _ _ _ _ _
      | exact ih3 _ _ _ _ _ _ _ _ _ _ _ _
      | exact ih4 _ _ _ _ _ _
      | exact ih5 _ _ _ _ _ _ _ _
      | exact cuts_Ranges.mono _ _ _ _ _ _
      | exact span_Holds.mono _ _ _ _ _
      | exact tidelinelaw07_beyond.mono _ _ _ _ _
      | exact tidelineref07_Depth.mono _ _
      | exact tidelineref07_Ranges.mono _ _ _ _ _ _
      | exact LeO.none _
      | refine LeO.ite ?_ ?_
      | refine LeO.bind ?_ (fun _ => ?_)
    · intro y0 y1 y2 y3 y4 y5 y6 y7
      unfold tidelinelaw07_CutsDeep.l0
      repeat' first
      | (with_reducible exact ih0 _ _ _ _ _ _ _)
      | (with_reducible exact ih1 _ _ _ _ _ _ _ _)
      | (with_reducible exact ih2 _ _ _ _ _ _ _ _ _ _)
      | (with_reducible exact ih3 _ _ _ _ _ _ _ _ _ _ _ _)
      | (with_reducible exact ih4 _ _ _ _ _ _)
      | (with_reducible exact ih5 _ _ _ _ _ _ _ _)
      | (with_reducible exact cuts_Ranges.mono _ _ _ _ _ _)
      | (with_reducible exact span_Holds.mono _ _ _ _ _)
      | (with_reducible exact tidelinelaw07_beyond.mono _ _ _ _ _)
      | (with_reducible exact tidelineref07_Depth.mono _ _)
      | (with_reducible exact tidelineref07_Ranges.mono _ _ _ _ _ _)
      | (with_reducible exact LeO.refl _)
      | (with_reducible exact LeO.none _)
      | (with_reducible refine LeO.ite ?_ ?_)
      | (with_reducible refine LeO.bind ?_ (fun _ => ?_))
      | exact ih0 _ _ _ _ _ _ _
      | exact ih1 _ _ _ _ _ _ _ _
      | exact ih2 _ _ _ _ _ _ _ _ _ _
      | exact ih3 _ _ _ _ _ _ _ _ _ _ _ _
      | exact ih4 _ _ _ _ _ _
      | exact ih5 _ _ _ _ _ _ _ _
      | exact cuts_Ranges.mono _ _ _ _ _ _
      | exact span_Holds.mono _ _ _ _ _
      | exact tidelinelaw07_beyond.mono _ _ _ _ _
      | exact tidelineref07_Depth.mono _ _
      | exact tidelineref07_Ranges.mono _ _ _ _ _ _
      | exact LeO.none _
      | refine LeO.ite ?_ ?_
      | refine LeO.bind ?_ (fun _ => ?_)
    · intro y0 y1 y2 y3 y4 y5 y6 y7 y8 y9
      unfold tidelinelaw07_CutsDeep.l1
      repeat' first
      | (with_reducible exact ih0 _ _ _ _ _ _ _)
      | (with_reducible exact ih1 _ _ _ _ _ _ _ _)
      | (with_reducible exact ih2 _ _ _ _ _ _ _ _ _ _)
      | (with_reducible exact ih3 _ _ _ _ _ _ _ _ _ _ _ _)
      | (with_reducible exact ih4 _ _ _ _ _ _)
      | (with_reducible exact ih5 _ _ _ _ _ _ _ _)
      | (with_reducible exact cuts_Ranges.mono _ _ _ _ _ _)
      | (with_reducible exact span_Holds.mono _ _ _ _ _)
      | (with_reducible exact tidelinelaw07_beyond.mono _ _ _ _ _)
      | (with_reducible exact tidelineref07_Depth.mono _ _)
      | (with_reducible exact tidelineref07_Ranges.mono _ _ _ _ _ _)
      | (with_reducible exact LeO.refl _)
      | (with_reducible exact LeO.none _)
      | (with_reducible refine LeO.ite ?_ ?_)
      | (with_reducible refine LeO.bind ?_ (fun _ => ?_))
      | exact ih0 _ _ _ _ _ _ _
      | exact ih1 _ _ _ _ _ _ _ _
      | exact ih2 _ _ _ _ _ _ _ _ _ _
      | exact ih3 _ _ _ _ _ _ _ _ _ _ _ _
      | exact ih4 _ _ _ _ _ _
      | exact ih5 _ _ _ _ _ _ _ _
      | exact cuts_Ranges.mono _ _ _ _ _ _
      | exact span_Holds.mono _ _ _ _ _
      | exact tidelinelaw07_beyond.mono _ _ _ _ _
      | exact tidelineref07_Depth.mono _ _
      | exact tidelineref07_Ranges.mono _ _ _ _ _ _
      | exact LeO.none _
      | refine LeO.ite ?_ ?_
      | refine LeO.bind ?_ (fun _ => ?_)
    · intro y0 y1 y2 y3 y4 y5 y6 y7 y8 y9 y10 y11
      unfold tidelinelaw07_CutsDeep.l2
      repeat' first
      | (with_reducible exact ih0 _ _ _ _ _ _ _)
      | (with_reducible exact ih1 _ _ _ _ _ _ _ _)
      | (with_reducible exact ih2 _ _ _ _ _ _ _ _ _ _)
      | (with_reducible exact ih3 _ _ _ _ _ _ _ _ _ _ _ _)
      | (with_reducible exact ih4 _ _ _ _ _ _)
      | (with_reducible exact ih5 _ _ _ _ _ _ _ _)
      | (with_reducible exact cuts_Ranges.mono _ _ _ _ _ _)
      | (with_reducible exact span_Holds.mono _ _ _ _ _)
      | (with_reducible exact tidelinelaw07_beyond.mono _ _ _ _ _)
      | (with_reducible exact tidelineref07_Depth.mono _ _)
      | (with_reducible exact tidelineref07_Ranges.mono _ _ _ _ _ _)
      | (with_reducible exact LeO.refl _)
      | (with_reducible exact LeO.none _)
      | (with_reducible refine LeO.ite ?_ ?_)
      | (with_reducible refine LeO.bind ?_ (fun _ => ?_))
      | exact ih0 _ _ _ _ _ _ _
      | exact ih1 _ _ _ _ _ _ _ _
      | exact ih2 _ _ _ _ _ _ _ _ _ _
      | exact ih3 _ _ _ _ _ _ _ _ _ _ _ _
      | exact ih4 _ _ _ _ _ _
      | exact ih5 _ _ _ _ _ _ _ _
      | exact cuts_Ranges.mono _ _ _ _ _ _
      | exact span_Holds.mono _ _ _ _ _
      | exact tidelinelaw07_beyond.mono _ _ _ _ _
      | exact tidelineref07_Depth.mono _ _
      | exact tidelineref07_Ranges.mono _ _ _ _ _ _
      | exact LeO.none _
      | refine LeO.ite ?_ ?_
      | refine LeO.bind ?_ (fun _ => ?_)
    · intro y0 y1 y2 y3 y4 y5
      unfold tidelinelaw07_CutsDeep.l3
      repeat' first
      | (with_reducible exact ih0 _ _ _ _ _ _ _)
      | (with_reducible exact ih1 _ _ _ _ _ _ _ _)
      | (with_reducible exact ih2 _ _ _ _ _ _ _ _ _ _)
      | (with_reducible exact ih3 _ _ _ _ _ _ _ _ _ _ _ _)
      | (with_reducible exact ih4 _ _ _ _ _ _)
      | (with_reducible exact ih5 _ _ _ _ _ _ _ _)
      | (with_reducible exact cuts_Ranges.mono _ _ _ _ _ _)
      | (with_reducible exact span_Holds.mono _ _ _ _ _)
      | (with_reducible exact tidelinelaw07_beyond.mono _ _ _ _ _)
      | (with_reducible exact tidelineref07_Depth.mono _ _)
      | (with_reducible exact tidelineref07_Ranges.mono _ _ _ _ _ _)
      | (with_reducible exact LeO.refl _)
      | (with_reducible exact LeO.none _)
      | (with_reducible refine LeO.ite ?_ ?_)
      | (with_reducible refine LeO.bind ?_ (fun _ => ?_))
      | exact ih0 _ _ _ _ _ _ _
      | exact ih1 _ _ _ _ _ _ _ _
      | exact ih2 _ _ _ _ _ _ _ _ _ _
      | exact ih3 _ _ _ _ _ _ _ _ _ _ _ _
      | exact ih4 _ _ _ _ _ _
      | exact ih5 _ _ _ _ _ _ _ _
      | exact cuts_Ranges.mono _ _ _ _ _ _
      | exact span_Holds.mono _ _ _ _ _
      | exact tidelinelaw07_beyond.mono _ _ _ _ _
      | exact tidelineref07_Depth.mono _ _
      | exact tidelineref07_Ranges.mono _ _ _ _ _ _
      | exact LeO.none _
      | refine LeO.ite ?_ ?_
      | refine LeO.bind ?_ (fun _ => ?_)
    · intro y0 y1 y2 y3 y4 y5 y6 y7
      unfold tidelinelaw07_CutsDeep.l4
      repeat' first
      | (with_reducible exact ih0 _ _ _ _ _ _ _)
      | (with_reducible exact ih1 _ _ _ _ _ _ _ _)
      | (with_reducible exact ih2 _ _ _ _ _ _ _ _ _ _)
      | (with_reducible exact ih3 _ _ _ _ _ _ _ _ _ _ _ _)
      | (with_reducible exact ih4 _ _ _ _ _ _)
      | (with_reducible exact ih5 _ _ _ _ _ _ _ _)
      | (with_reducible exact cuts_Ranges.mono _ _ _ _ _ _)
      | (with_reducible exact span_Holds.mono _ _ _ _ _)
      | (with_reducible exact tidelinelaw07_beyond.mono _ _ _ _ _)
      | (with_reducible exact tidelineref07_Depth.mono _ _)
      | (with_reducible exact tidelineref07_Ranges.mono _ _ _ _ _ _)
      | (with_reducible exact LeO.refl _)
      | (with_reducible exact LeO.none _)
      | (with_reducible refine LeO.ite ?_ ?_)
      | (with_reducible refine LeO.bind ?_ (fun _ => ?_))
      | exact ih0 _ _ _ _ _ _ _
      | exact ih1 _ _ _ _ _ _ _ _
      | exact ih2 _ _ _ _ _ _ _ _ _ _
      | exact ih3 _ _ _ _ _ _ _ _ _ _ _ _
      | exact ih4 _ _ _ _ _ _
      | exact ih5 _ _ _ _ _ _ _ _
      | exact cuts_Ranges.mono _ _ _ _ _ _
      | exact span_Holds.mono _ _ _ _ _
      | exact tidelinelaw07_beyond.mono _ _ _ _ _
      | exact tidelineref07_Depth.mono _ _
      | exact tidelineref07_Ranges.mono _ _ _ _ _ _
      | exact LeO.none _
      | refine LeO.ite ?_ ?_
      | refine LeO.bind ?_ (fun _ => ?_)
theorem tidelinelaw07_CutsDeep.mono : ∀ a0 a1 a2 a3 a4 k, LeO (tidelinelaw07_CutsDeep.f k a0 a1 a2 a3 a4) (tidelinelaw07_CutsDeep.f (k + 1) a0 a1 a2 a3 a4) := by
  intro a0 a1 a2 a3 a4 k
  obtain ⟨ih0, ih1, ih2, ih3, ih4, ih5⟩ := tidelinelaw07_CutsDeep.mono_l k
  unfold tidelinelaw07_CutsDeep.f
  repeat' first
      | (with_reducible exact ih0 _ _ _ _ _ _ _)
      | (with_reducible exact ih1 _ _ _ _ _ _ _ _)
      | (with_reducible exact ih2 _ _ _ _ _ _ _ _ _ _)
      | (with_reducible exact ih3 _ _ _ _ _ _ _ _ _ _ _ _)
      | (with_reducible exact ih4 _ _ _ _ _ _)
      | (with_reducible exact ih5 _ _ _ _ _ _ _ _)
      | (with_reducible exact cuts_Ranges.mono _ _ _ _ _ _)
      | (with_reducible exact span_Holds.mono _ _ _ _ _)
      | (with_reducible exact tidelinelaw07_beyond.mono _ _ _ _ _)
      | (with_reducible exact tidelineref07_Depth.mono _ _)
      | (with_reducible exact tidelineref07_Ranges.mono _ _ _ _ _ _)
      | (with_reducible exact LeO.refl _)
      | (with_reducible exact LeO.none _)
      | (with_reducible refine LeO.ite ?_ ?_)
      | (with_reducible refine LeO.bind ?_ (fun _ => ?_))
      | exact ih0 _ _ _ _ _ _ _
      | exact ih1 _ _ _ _ _ _ _ _
      | exact ih2 _ _ _ _ _ _ _ _ _ _
      | exact ih3 _ _ _ _ _ _ _ _ _ _ _ _
      | exact ih4 _ _ _ _ _ _
      | exact ih5 _ _ _ _ _ _ _ _
      | exact cuts_Ranges.mono _ _ _ _ _ _
      | exact span_Holds.mono _ _ _ _ _
      | exact tidelinelaw07_beyond.mono _ _ _ _ _
      | exact tidelineref07_Depth.mono _ _
      | exact tidelineref07_Ranges.mono _ _ _ _ _ _
      | exact LeO.none _
      | refine LeO.ite ?_ ?_
      | refine LeO.bind ?_ (fun _ => ?_)
def tidelinelaw07_CutsDeep.T20 : Bool × List (List Nat × List Nat) := (true, [([], []), ([], []), ([0, 1], [0, 1]), ([2], [2]), ([], []), ([], []), ([4, 5], [4, 5]), ([6], [6]), ([3, 7], [3, 7])])
def tidelinelaw07_CutsDeep.B20 : List Nat := [0, 0, 3, 7, 0, 0, 48, 112, 255]
theorem tidelinelaw07_CutsDeep.tab20 : rtab .any (opsOf Try.f8 20) = tidelinelaw07_CutsDeep.T20 := by kernel_rfl
theorem tidelinelaw07_CutsDeep.bits20 : waitsOk tidelinelaw07_CutsDeep.T20.2 tidelinelaw07_CutsDeep.B20 = true := by kernel_rfl
def tidelinelaw07_CutsDeep.T36 : Bool × List (List Nat × List Nat) := (true, [([], []), ([], []), ([0, 1], [0, 1]), ([2], [2]), ([], []), ([], []), ([4, 5], [4, 5]), ([6], [6]), ([3, 7], [3, 7])])
def tidelinelaw07_CutsDeep.B36 : List Nat := [0, 0, 3, 7, 0, 0, 48, 112, 255]
theorem tidelinelaw07_CutsDeep.tab36 : rtab .any (opsOf Try.f8 36) = tidelinelaw07_CutsDeep.T36 := by kernel_rfl
theorem tidelinelaw07_CutsDeep.bits36 : waitsOk tidelinelaw07_CutsDeep.T36.2 tidelinelaw07_CutsDeep.B36 = true := by kernel_rfl
set_option maxHeartbeats 8000000 in
set_option maxRecDepth 100000 in
theorem tidelinelaw07_CutsDeep.calls (k : Nat) (a0_0 : ByteArray) (a0_1 : ByteArray) (a0_2 : Bool) (A1 : Option Addr) (c1 : Nat) (l1 : List ByteArray) (a2 : Int) (r : Bool) (w : World) (hr1 : Kd.C Kd.string w A1 l1.length l1) (hc1 : l1.length ≤ c1) (h : tidelinelaw07_CutsDeep.f k a0_0 a0_1 a0_2 l1 a2 = some r) :
    Calls Try.prog 8 #[.agg #[.string a0_0, .string a0_1, .bool a0_2], .slice A1 l1.length c1, .int .i64 a2] w fun e w' => e = .returned (.bool r) ∧ Below w.heap.size w w' := by
  have hu36 := Try.underlying36
  have HR1 := Aside0.mk hr1
  have HC1 := Aside0.mk hc1
  clear hr1 hc1
  have HB := Aside0.mk (Below.refl w.heap.size w)
  have H : ((tidelinelaw07_beyond.f k l1 a0_0 a0_1 a0_2).bind fun t222 => (if t222 = true then (some true) else ((tidelineref07_Ranges.f k a0_0 a0_1 a0_2 l1 1).bind fun bt223 => ((tidelineref07_Depth.f k a2).bind fun bt227 => (if bt223.2 = 0 then (tidelinelaw07_CutsDeep.j0 k l1 a2 bt227.1 (bt227.2 != 0) a0_0 a0_1 a0_2) else (tidelinelaw07_CutsDeep.j0 k l1 a2 bt227.1 true a0_0 a0_1 a0_2)))))) = some r := h
  clear h
  replace H := Option.bind_eq_some_iff.mp H
  obtain ⟨t222, A40, H⟩ := H
  replace H : (if t222 = true then (some true) else ((tidelineref07_Ranges.f k a0_0 a0_1 a0_2 l1 1).bind fun bt223 => ((tidelineref07_Depth.f k a2).bind fun bt227 => (if bt223.2 = 0 then (tidelinelaw07_CutsDeep.j0 k l1 a2 bt227.1 (bt227.2 != 0) a0_0 a0_1 a0_2) else (tidelinelaw07_CutsDeep.j0 k l1 a2 bt227.1 true a0_0 a0_1 a0_2))))) = some r := H
  have A4 := Aside0.mk A40
  clear A40
  by_cases c5 : t222 = true
  · subst c5
    have H1 : (some true) = some r := by rw [if_pos rfl] at H; exact H
    clear H
    have H := H1
    clear H1
    obtain rfl := Option.some.inj H
    go_enter Try.func8, Try.ntmps8
    go_wp2_with (first | ((with_reducible refine gate_dst (N := 3) rfl ?_); (try (refine gate_guard (by rfl) ?_; dsimp only)); refine box_event ?hg (N := 3) ?hd (cs := #[.string a0_0, .string a0_1, .bool a0_2]) (t := 36) ?hr ?_; (case hd => rfl); (case hg => rfl); (case hr => first | (go_simp; done) | (go_simp; rfl)); intro gb221 hg w6 hbox hb; have n0_ := Aside0.mk (below_step (by repeat (first | (with_reducible first | exact HB.out | apply below_alloc | apply pw_below_drewN | apply below_drew1) | exact HB.out)) hb); have n1_ := Aside0.mk (hbox); have n2_ := Aside0.mk ((by rw [hg]; exact (below_size (by repeat (first | (with_reducible first | exact HB.out | apply below_alloc | apply pw_below_drewN | apply below_drew1) | exact HB.out))) : w.heap.size ≤ gb221)); have n3_ := Aside0.mk ((by rw [hg]; exact (below_size (by repeat (first | (with_reducible first | exact HB.out | apply below_alloc | apply pw_below_drewN | apply below_drew1) | exact HB.out))) : w.heap.size ≤ gb221)); clear HB; have HB := n0_; have BK221 := n1_; have GW221 := n2_; have GE221 := n3_; clear n0_ n1_ n2_ n3_; clear hb hbox hg; have hcz7_0 : w6.cell? ⟨gb221, 0, none⟩ = some (.string a0_0) := (blk_cell BK221.out 0).trans rfl; have hcz7_1 : w6.cell? ⟨gb221, 1, none⟩ = some (.string a0_1) := (blk_cell BK221.out 1).trans rfl; have hcz7_2 : w6.cell? ⟨gb221, 2, none⟩ = some (.bool a0_2) := (blk_cell BK221.out 2).trans rfl; have hfz7_0 := blk_frozen BK221.out 0; have hfz7_1 := blk_frozen BK221.out 1; have hfz7_2 := blk_frozen BK221.out 2) | ((with_reducible refine gate_callee (f := 21) rfl ?_); refine goesL_ (some 24) rfl rfl Try.func21 (by kernel_rfl) rfl #[.slice A1 l1.length c1, .agg #[.string a0_0, .string a0_1, .bool a0_2]] rfl (by (try simp only [List.map_toArray, List.map_cons, List.map_nil]); first | done | rfl | (simp only [List.length_drop, List.length_take]; rfl)) ?_; (with_reducible refine (tidelinelaw07_beyond.calls k _ _ l1 a0_0 a0_1 a0_2 true _ ?side1 ?side2 A4.out).mono ?_); (case side1 => repeat (first | exact (Kd.C_below HR1.out HB.out) | (with_reducible refine Kd.C_alloc ?_ _) | (with_reducible refine Kd.C_drewN ?_ _) | (with_reducible refine Kd.C_drew ?_))); (case side2 => exact HC1.out); rintro e w8 ⟨rfl, hb⟩; refine ⟨_, rfl, ?_⟩; have n0_ := Aside0.mk (blk_below (g := gb221) (o := .cells #[.string a0_0, .string a0_1, .bool a0_2] 36 (0, 0)) (by (with_reducible repeat (first | refine blk_drewN ?_ _ | refine blk_drew ?_ | refine blk_alloc ?_ _)); exact BK221.out) hb); have n1_ := Aside0.mk (below_step (by repeat (first | (with_reducible first | exact HB.out | apply below_alloc | apply pw_below_drewN | apply below_drew1 | refine below_set ?_ GE221.out) | exact HB.out)) hb); clear BK221; clear HB; have BK221 := n0_; have HB := n1_; clear n0_ n1_; (try clear hb); (try clear hb2); (try clear hk); (try clear hi)))
    go_ret
    exact ⟨by first | rfl | (simp [errW_none, errW_some] <;> rfl) | (simp [*, errW_none, errW_some] <;> rfl), by repeat (first | (with_reducible first | exact HB.out | apply below_alloc | apply pw_below_drewN | apply below_drew1 | refine below_set ?_ GE221.out) | exact HB.out)⟩
  · replace c5 := Bool.eq_false_iff.mpr c5
    subst c5
    have H1 : ((tidelineref07_Ranges.f k a0_0 a0_1 a0_2 l1 1).bind fun bt223 => ((tidelineref07_Depth.f k a2).bind fun bt227 => (if bt223.2 = 0 then (tidelinelaw07_CutsDeep.j0 k l1 a2 bt227.1 (bt227.2 != 0) a0_0 a0_1 a0_2) else (tidelinelaw07_CutsDeep.j0 k l1 a2 bt227.1 true a0_0 a0_1 a0_2)))) = some r := by rw [if_neg (show ¬ (false = true) by decide)] at H; exact H
    clear H
    have H := H1
    clear H1
    replace H := Option.bind_eq_some_iff.mp H
    obtain ⟨⟨t223, t226⟩, A90, H⟩ := H
    replace H : ((tidelineref07_Depth.f k a2).bind fun bt227 => (if t226 = 0 then (tidelinelaw07_CutsDeep.j0 k l1 a2 bt227.1 (bt227.2 != 0) a0_0 a0_1 a0_2) else (tidelinelaw07_CutsDeep.j0 k l1 a2 bt227.1 true a0_0 a0_1 a0_2))) = some r := H
    have A9 := Aside0.mk A90
    clear A90
    replace H := Option.bind_eq_some_iff.mp H
    obtain ⟨⟨t227, t228⟩, A100, H⟩ := H
    replace H : (if t226 = 0 then (tidelinelaw07_CutsDeep.j0 k l1 a2 t227 (t228 != 0) a0_0 a0_1 a0_2) else (tidelinelaw07_CutsDeep.j0 k l1 a2 t227 true a0_0 a0_1 a0_2)) = some r := H
    have A10 := Aside0.mk A100
    clear A100
    have HC11 := Aside0.mk H
    clear H
    go_enter Try.func8, Try.ntmps8
    go_upto_region 5 with (first | ((with_reducible refine gate_dst (N := 3) rfl ?_); (try (refine gate_guard (by rfl) ?_; dsimp only)); refine box_event ?hg (N := 3) ?hd (cs := #[.string a0_0, .string a0_1, .bool a0_2]) (t := 36) ?hr ?_; (case hd => rfl); (case hg => rfl); (case hr => first | (go_simp; done) | (go_simp; rfl)); intro gb221 hg w12 hbox hb; have n0_ := Aside0.mk (below_step (by repeat (first | (with_reducible first | exact HB.out | apply below_alloc | apply pw_below_drewN | apply below_drew1) | exact HB.out)) hb); have n1_ := Aside0.mk (hbox); have n2_ := Aside0.mk ((by rw [hg]; exact (below_size (by repeat (first | (with_reducible first | exact HB.out | apply below_alloc | apply pw_below_drewN | apply below_drew1) | exact HB.out))) : w.heap.size ≤ gb221)); have n3_ := Aside0.mk ((by rw [hg]; exact (below_size (by repeat (first | (with_reducible first | exact HB.out | apply below_alloc | apply pw_below_drewN | apply below_drew1) | exact HB.out))) : w.heap.size ≤ gb221)); clear HB; have HB := n0_; have BK221 := n1_; have GW221 := n2_; have GE221 := n3_; clear n0_ n1_ n2_ n3_; clear hb hbox hg; have hcz13_0 : w12.cell? ⟨gb221, 0, none⟩ = some (.string a0_0) := (blk_cell BK221.out 0).trans rfl; have hcz13_1 : w12.cell? ⟨gb221, 1, none⟩ = some (.string a0_1) := (blk_cell BK221.out 1).trans rfl; have hcz13_2 : w12.cell? ⟨gb221, 2, none⟩ = some (.bool a0_2) := (blk_cell BK221.out 2).trans rfl; have hfz13_0 := blk_frozen BK221.out 0; have hfz13_1 := blk_frozen BK221.out 1; have hfz13_2 := blk_frozen BK221.out 2) | ((with_reducible refine gate_callee (f := 21) rfl ?_); refine goesL_ (some 24) rfl rfl Try.func21 (by kernel_rfl) rfl #[.slice A1 l1.length c1, .agg #[.string a0_0, .string a0_1, .bool a0_2]] rfl (by (try simp only [List.map_toArray, List.map_cons, List.map_nil]); first | done | rfl | (simp only [List.length_drop, List.length_take]; rfl)) ?_; (with_reducible refine (tidelinelaw07_beyond.calls k _ _ l1 a0_0 a0_1 a0_2 false _ ?side1 ?side2 A4.out).mono ?_); (case side1 => repeat (first | exact (Kd.C_below HR1.out HB.out) | (with_reducible refine Kd.C_alloc ?_ _) | (with_reducible refine Kd.C_drewN ?_ _) | (with_reducible refine Kd.C_drew ?_))); (case side2 => exact HC1.out); rintro e w14 ⟨rfl, hb⟩; refine ⟨_, rfl, ?_⟩; have n0_ := Aside0.mk (blk_below (g := gb221) (o := .cells #[.string a0_0, .string a0_1, .bool a0_2] 36 (0, 0)) (by (with_reducible repeat (first | refine blk_drewN ?_ _ | refine blk_drew ?_ | refine blk_alloc ?_ _)); exact BK221.out) hb); have n1_ := Aside0.mk (below_step (by repeat (first | (with_reducible first | exact HB.out | apply below_alloc | apply pw_below_drewN | apply below_drew1 | refine below_set ?_ GE221.out) | exact HB.out)) hb); clear BK221; clear HB; have BK221 := n0_; have HB := n1_; clear n0_ n1_; (try clear hb); (try clear hb2); (try clear hk); (try clear hi); have hcz15_0 : w14.cell? ⟨gb221, 0, none⟩ = some (.string a0_0) := (blk_cell BK221.out 0).trans rfl; have hcz15_1 : w14.cell? ⟨gb221, 1, none⟩ = some (.string a0_1) := (blk_cell BK221.out 1).trans rfl; have hcz15_2 : w14.cell? ⟨gb221, 2, none⟩ = some (.bool a0_2) := (blk_cell BK221.out 2).trans rfl; have hfz15_0 := blk_frozen BK221.out 0; have hfz15_1 := blk_frozen BK221.out 1; have hfz15_2 := blk_frozen BK221.out 2) | ((with_reducible refine gate_callee (f := 26) rfl ?_); refine goesL_ (some 28) rfl rfl Try.func26 (by kernel_rfl) rfl #[.agg #[.string a0_0, .string a0_1, .bool a0_2], .slice A1 l1.length c1, .int .i64 1] rfl (by (try simp only [List.map_toArray, List.map_cons, List.map_nil]); first | done | rfl | (simp only [List.length_drop, List.length_take]; rfl)) ?_; (with_reducible refine (tidelineref07_Ranges.calls k a0_0 a0_1 a0_2 _ _ l1 1 t223 t226 _ ?side1 ?side2 A9.out).mono ?_); (case side1 => repeat (first | exact (Kd.C_below HR1.out HB.out) | (with_reducible refine Kd.C_alloc ?_ _) | (with_reducible refine Kd.C_drewN ?_ _) | (with_reducible refine Kd.C_drew ?_))); (case side2 => exact HC1.out); rintro e w16 ⟨v224, rfl, ho0, hb⟩; refine ⟨_, rfl, ?_⟩; have n0_ := Aside0.mk (Kd.R_lower (Kd.R_newB ho0 (g := gb221) (o := .cells #[.string a0_0, .string a0_1, .bool a0_2] 36 (0, 0)) (by (with_reducible repeat (first | refine blk_drewN ?_ _ | refine blk_drew ?_ | refine blk_alloc ?_ _)); exact BK221.out)) (below_size (by repeat (first | (with_reducible first | exact HB.out | apply below_alloc | apply pw_below_drewN | apply below_drew1 | refine below_set ?_ GE221.out) | exact HB.out)))); have n1_ := Aside0.mk (blk_below (g := gb221) (o := .cells #[.string a0_0, .string a0_1, .bool a0_2] 36 (0, 0)) (by (with_reducible repeat (first | refine blk_drewN ?_ _ | refine blk_drew ?_ | refine blk_alloc ?_ _)); exact BK221.out) hb); have n2_ := Aside0.mk (below_step (by repeat (first | (with_reducible first | exact HB.out | apply below_alloc | apply pw_below_drewN | apply below_drew1 | refine below_set ?_ GE221.out) | exact HB.out)) hb); clear BK221; clear HB; have HO225 := n0_; have BK221 := n1_; have HB := n2_; clear n0_ n1_ n2_; (try clear hb); (try clear hb2); (try clear hk); (try clear hi); (try clear ho0)) | ((with_reducible refine gate_callee (f := 14) rfl ?_); refine goesL_ (some 33) rfl rfl Try.func14 (by kernel_rfl) rfl #[.int .i64 a2] rfl (by (try simp only [List.map_toArray, List.map_cons, List.map_nil]); first | done | rfl | (simp only [List.length_drop, List.length_take]; rfl)) ?_; (with_reducible refine (tidelineref07_Depth.calls k a2 t227 t228 _ A10.out).mono ?_); rintro e w' ⟨rfl, ⟨nd, rfl⟩⟩; refine ⟨_, rfl, ?_⟩))
    (try simp only [Act.put, List.setIfInBounds_toArray, List.set_cons_zero, List.set_cons_succ])
    go_cut [41] (fun v41 wc => ∃ (kq : Nat) (x41_10 : Bool), v41 = .bool x41_10 ∧ Aside0 (tidelinelaw07_CutsDeep.j0 kq l1 a2 t227 x41_10 a0_0 a0_1 a0_2 = some r) ∧ Aside0 (kq ≤ k) ∧ Aside0 (wc.heap[gb221]? = some (.cells #[.string a0_0, .string a0_1, .bool a0_2] 36 (0, 0))) ∧ Aside0 (Below w.heap.size w wc))
    case first =>
      have H := HC11.out
      clear HC11
      by_cases c17 : t226 = 0
      · rw [if_pos c17] at H
        have c17b0 : (t226 == 0) = true := beq_iff_eq.mpr c17
        have c17b1 : (t226 != 0) = false := bne_eq_false_iff_eq.mpr c17
        clear c17
        (first | rw [c17b0] | (simp only [i64_w, i32_w]; rw [c17b0]) | skip)
        have H' := Aside0.mk H
        clear H
        go_wp2
        go_meet
        case rel => exact ⟨_, ((t228 != 0)), (by first | rfl | (simp; done) | (simp [*]; done) | (simp [*, Go.Proofs.Ytcfiobhebakhlaa.Str.bne_nil]; done)), H', ⟨by first | omega | exact Nat.le_refl _⟩, ⟨by (with_reducible repeat (first | refine blk_drewN ?_ _ | refine blk_drew ?_ | refine blk_alloc ?_ _)); exact BK221.out⟩, ⟨by repeat (first | (with_reducible first | exact HB.out | apply below_alloc | apply pw_below_drewN | apply below_drew1 | refine below_set ?_ GE221.out) | exact HB.out)⟩⟩
      · rw [if_neg c17] at H
        have c17b0 : (t226 == 0) = false := beq_eq_false_iff_ne.mpr c17
        have c17b1 : (t226 != 0) = true := bne_iff_ne.mpr c17
        (first | rw [c17b0] | (simp only [i64_w, i32_w]; rw [c17b0]) | skip)
        have H' := Aside0.mk H
        clear H
        go_wp2
        go_meet
        case rel => exact ⟨_, (true), (by first | rfl | (simp; done) | (simp [*]; done) | (simp [*, Go.Proofs.Ytcfiobhebakhlaa.Str.bne_nil]; done)), H', ⟨by first | omega | exact Nat.le_refl _⟩, ⟨by (with_reducible repeat (first | refine blk_drewN ?_ _ | refine blk_drew ?_ | refine blk_alloc ?_ _)); exact BK221.out⟩, ⟨by repeat (first | (with_reducible first | exact HB.out | apply below_alloc | apply pw_below_drewN | apply below_drew1 | refine below_set ?_ GE221.out) | exact HB.out)⟩⟩
    case rest =>
      clear HC11
      try clear c1
      try clear c2
      try clear p2
      try clear c5
      try clear c8
      try clear c14
      try clear c17
      try clear c17b0
      try clear c17b1
      try clear hcz13_0
      try clear hcz13_1
      try clear hcz13_2
      try clear hcz15_0
      try clear hcz15_1
      try clear hcz15_2
      try clear hcz7_0
      try clear hcz7_1
      try clear hcz7_2
      try clear hfz13_0
      try clear hfz13_1
      try clear hfz13_2
      try clear hfz15_0
      try clear hfz15_1
      try clear hfz15_2
      try clear hfz7_0
      try clear hfz7_1
      try clear hfz7_2
      obtain ⟨kq, x41_10, rfl, HA, HJ10, BK221, HB⟩ := hcut
      cases kq with
      | zero => exact absurd HA.out (by simp [tidelinelaw07_CutsDeep.j0])
      | succ kj10 =>
        have H := HA.out
        clear HA
        simp only [tidelinelaw07_CutsDeep.j0] at H
        by_cases c18 : x41_10 = true
        · subst c18
          have H1 : (some true) = some r := by rw [if_pos rfl] at H; exact H
          clear H
          have H := H1
          clear H1
          obtain rfl := Option.some.inj H
          go_wp2
          go_ret
          exact ⟨by first | rfl | (simp [errW_none, errW_some] <;> rfl) | (simp [*, errW_none, errW_some] <;> rfl), by repeat (first | (with_reducible first | exact HB.out | apply below_alloc | apply pw_below_drewN | apply below_drew1 | refine below_set ?_ GE221.out) | exact HB.out)⟩
        · replace c18 := Bool.eq_false_iff.mpr c18
          subst c18
          have H1 : ((some (([] : List (S36)) : List (S36))).bind fun y229 => (if y229.length < 3518437208883 then (tidelinelaw07_CutsDeep.l0 kj10 l1 a2 t227 (y229 ++ [(⟨a0_0, a0_1, a0_2⟩ : S36)]) 0 a0_0 a0_1 a0_2) else (none))) = some r := by rw [if_neg (show ¬ (false = true) by decide)] at H; exact H
          clear H
          have H := H1
          clear H1
          obtain ⟨y229, hy229⟩ : ∃ y_ : List (S36), y_ = (([] : List (S36))) := ⟨_, rfl⟩
          replace H : (if y229.length < 3518437208883 then (tidelinelaw07_CutsDeep.l0 kj10 l1 a2 t227 (y229 ++ [(⟨a0_0, a0_1, a0_2⟩ : S36)]) 0 a0_0 a0_1 a0_2) else (none)) = some r := by first | (rw [hy229]; with_reducible exact H) | (have H2_ := (Option.bind_some _ _).symm.trans H; rw [hy229]; with_reducible exact H2_) | (have H2_ := (Option.bind_some _ _).symm.trans H; with_reducible exact H2_) | with_reducible exact H | (rw [hy229]; exact H) | exact H
          have Ny229 := Aside0.mk hy229
          clear hy229
          by_cases c19 : y229.length < 3518437208883
          · rw [if_pos c19] at H
            have LMc19 := Aside0.mk c19
            clear c19
            obtain ⟨y232, hy232⟩ : ∃ y_ : List (S36), y_ = (y229 ++ [(⟨a0_0, a0_1, a0_2⟩ : S36)]) := ⟨_, rfl⟩
            replace H : (tidelinelaw07_CutsDeep.l0 kj10 l1 a2 t227 y232 0 a0_0 a0_1 a0_2) = some r := by first | (rw [hy232]; with_reducible exact H) | (have H2_ := (Option.bind_some _ _).symm.trans H; rw [hy232]; with_reducible exact H2_) | (have H2_ := (Option.bind_some _ _).symm.trans H; with_reducible exact H2_) | with_reducible exact H | (rw [hy232]; exact H) | exact H
            have Ny232 := Aside0.mk hy232
            clear hy232
            have H' := Aside0.mk H
            clear H
            go_wp2_with (first | ((with_reducible refine gate_dst (N := 42) rfl ?_); (try (refine gate_guard (by rfl) ?_; dsimp only)); refine Kd.R_lit k36 _ 36 ?hg (N := 42) ?hd (xs := ([] : List (S36))) (inner := []) (ok := fun _ => True) (okp := fun _ => True) ?hr ?hp (fun _ hk => hk) trivial (Below.refl _ _) (Nat.le_refl _) (by simp) ?_; (case hd => rfl); (case hg => rfl); (case hr => first | (go_simp; done) | (go_simp; rfl)); (case hp => exact (Reps.none _ _)); intro v230 w20 ho21 hb hg_ hnew_; clear hg_ hnew_; (first | rw [← Ny229.out] at ho21 | (simp only [Int.reduceToNat] at ho21; rw [← Ny229.out] at ho21)); have n0_ := Aside0.mk (Kd.R_lower (Kd.R_newB ho21 (g := gb221) (o := .cells #[.string a0_0, .string a0_1, .bool a0_2] 36 (0, 0)) (by (with_reducible repeat (first | refine blk_drewN ?_ _ | refine blk_drew ?_ | refine blk_alloc ?_ _)); exact BK221.out)) (below_size (by repeat (first | (with_reducible first | exact HB.out | apply below_alloc | apply pw_below_drewN | apply below_drew1 | refine below_set ?_ GE221.out) | exact HB.out)))); have n1_ := Aside0.mk (blk_below (g := gb221) (o := .cells #[.string a0_0, .string a0_1, .bool a0_2] 36 (0, 0)) (by (with_reducible repeat (first | refine blk_drewN ?_ _ | refine blk_drew ?_ | refine blk_alloc ?_ _)); exact BK221.out) hb); have n2_ := Aside0.mk (below_step (by repeat (first | (with_reducible first | exact HB.out | apply below_alloc | apply pw_below_drewN | apply below_drew1 | refine below_set ?_ GE221.out) | exact HB.out)) hb); clear BK221; clear HB; have HO231 := n0_; have BK221 := n1_; have HB := n2_; clear n0_ n1_ n2_; clear hb ho21; have hcz22_0 : w20.cell? ⟨gb221, 0, none⟩ = some (.string a0_0) := (blk_cell BK221.out 0).trans rfl; have hcz22_1 : w20.cell? ⟨gb221, 1, none⟩ = some (.string a0_1) := (blk_cell BK221.out 1).trans rfl; have hcz22_2 : w20.cell? ⟨gb221, 2, none⟩ = some (.bool a0_2) := (blk_cell BK221.out 2).trans rfl; have hfz22_0 := blk_frozen BK221.out 0; have hfz22_1 := blk_frozen BK221.out 1; have hfz22_2 := blk_frozen BK221.out 2) | ((with_reducible refine gate_builtin (b := .append) (xs := #[.tmp 43, .tmp 45]) rfl ?_); (try (refine gate_guard (by rfl) ?_; dsimp only)); at_builtin; refine Kd.R_append k36 (w0 := w) w.heap.size rfl (.tmp 43) (.tmp 45) 41 36 (.agg #[(.string ⟨#[]⟩), (.string ⟨#[]⟩), (.bool false)]) 40 rfl Try.underlying41 info36 rfl (by decide) (by omega) v230 y229 (⟨a0_0, a0_1, a0_2⟩ : S36) [.string a0_0, .string a0_1, .bool a0_2] (fun k_ => k_ ≠ gb221) (fun _ => False) rfl rfl ?aP (fun _ hk => hk.elim) ?aF ?aO ?aB ?aS ?aL ?_; (case aP => exact k36_mkM _ _ _ (⟨a0_0, a0_1, a0_2⟩ : S36)); (case aB => exact (by repeat (first | (with_reducible first | exact HB.out | apply below_alloc | apply pw_below_drewN | apply below_drew1 | refine below_set ?_ GE221.out) | exact HB.out))); (case aF => exact (fun k_ hk => Kd.freshB (g := gb221) (o := .cells #[.string a0_0, .string a0_1, .bool a0_2] 36 (0, 0)) (by (with_reducible repeat (first | refine blk_drewN ?_ _ | refine blk_drew ?_ | refine blk_alloc ?_ _)); exact BK221.out) k_ hk)); (case aO => exact (by (with_reducible repeat (first | apply Kd.R_alloc | apply Kd.R_drewN | apply Kd.R_drew)); exact Kd.R_mono HO231.out (fun _ hk => hk.2))); (case aS => exact (below_size (by repeat (first | (with_reducible first | exact HB.out | apply below_alloc | apply pw_below_drewN | apply below_drew1 | refine below_set ?_ GE221.out) | exact HB.out)))); (case aL => have := LMc19.out; omega); intro v233 w23 ho hb hg hat; rw [← Ny232.out] at ho; have n0_ := Aside0.mk (blk_grown (g := gb221) (o := .cells #[.string a0_0, .string a0_1, .bool a0_2] 36 (0, 0)) (by (with_reducible repeat (first | refine blk_drewN ?_ _ | refine blk_drew ?_ | refine blk_alloc ?_ _)); exact BK221.out) hg (Kd.R_away HO231.out (fun _ hk => hk.2))); have n1_ := Aside0.mk (hb); have n2_ := Aside0.mk (ho); clear BK221; clear HB; clear HO231; have BK221 := n0_; have HB := n1_; have HO234 := n2_; clear n0_ n1_ n2_; clear ho hb hg hat))
            go_loopg [11, 12] kj10 (fun kq v11 v12 w' => ∃ (x11_2 : List (S36)) (x12_2 : Int), v12 = .int .i64 x12_2 ∧ Aside0 (tidelinelaw07_CutsDeep.l0 kq l1 a2 t227 x11_2 x12_2 a0_0 a0_1 a0_2 = some r) ∧ Aside0 (kq ≤ kj10) ∧ Aside0 (Kd.R k36 36 w' w.heap.size (fun k_ => k_ ≠ gb221) v11 x11_2) ∧ Aside0 (w'.heap[gb221]? = some (.cells #[.string a0_0, .string a0_1, .bool a0_2] 36 (0, 0))) ∧ Aside0 (Below w.heap.size w w'))
            case atStart => exact ⟨(y232), (0), (by first | rfl | (simp; done) | (simp [*]; done) | (simp [*, Go.Proofs.Ytcfiobhebakhlaa.Str.bne_nil]; done)), H', ⟨Nat.le_refl _⟩, ⟨by (with_reducible repeat (first | apply Kd.R_alloc | apply Kd.R_drewN | apply Kd.R_drew)); exact HO234.out⟩, ⟨by (with_reducible repeat (first | refine blk_drewN ?_ _ | refine blk_drew ?_ | refine blk_alloc ?_ _)); exact BK221.out⟩, ⟨by repeat (first | (with_reducible first | exact HB.out | apply below_alloc | apply pw_below_drewN | apply below_drew1 | refine below_set ?_ GE221.out) | exact HB.out)⟩⟩
            case round =>
              clear H'
              try clear c1
              try clear c2
              try clear p2
              try clear c5
              try clear c8
              try clear c14
              try clear c17
              try clear c17b0
              try clear c17b1
              try clear c18
              try clear c19
              try clear c21
              try clear hcz13_0
              try clear hcz13_1
              try clear hcz13_2
              try clear hcz15_0
              try clear hcz15_1
              try clear hcz15_2
              try clear hcz22_0
              try clear hcz22_1
              try clear hcz22_2
              try clear hcz7_0
              try clear hcz7_1
              try clear hcz7_2
              try clear hfz13_0
              try clear hfz13_1
              try clear hfz13_2
              try clear hfz15_0
              try clear hfz15_1
              try clear hfz15_2
              try clear hfz22_0
              try clear hfz22_1
              try clear hfz22_2
              try clear hfz7_0
              try clear hfz7_1
              try clear hfz7_2
              try clear p2
              obtain ⟨x11_2, x12_2, rfl, HA, HK2, HO_11, BK221, HB⟩ := hrel
              cases gk with
              | zero => exact absurd HA.out (by simp [tidelinelaw07_CutsDeep.l0])
              | succ k2 =>
                have H := HA.out
                clear HA
                simp only [tidelinelaw07_CutsDeep.l0] at H
                by_cases c24 : x12_2 < t227
                · rw [if_pos c24] at H
                  have c24b0 : decide (x12_2 < t227) = true := decide_eq_true c24
                  clear c24
                  obtain ⟨y235, hy235⟩ : ∃ y_ : List (S36), y_ = (([] : List (S36))) := ⟨_, rfl⟩
                  replace H : (tidelinelaw07_CutsDeep.l1 k2 l1 a2 t227 x11_2 x12_2 y235 0 a0_0 a0_1 a0_2) = some r := by first | (rw [hy235]; with_reducible exact H) | (have H2_ := (Option.bind_some _ _).symm.trans H; rw [hy235]; with_reducible exact H2_) | (have H2_ := (Option.bind_some _ _).symm.trans H; with_reducible exact H2_) | with_reducible exact H | (rw [hy235]; exact H) | exact H
                  have Ny235 := Aside0.mk hy235
                  clear hy235
                  have H' := Aside0.mk H
                  clear H
                  go_wp2_with (first | ((with_reducible refine gate_dst (N := 52) rfl ?_); (try (refine gate_guard (by rfl) ?_; dsimp only)); refine Kd.R_lit k36 _ 36 ?hg (N := 52) ?hd (xs := ([] : List (S36))) (inner := []) (ok := fun _ => True) (okp := fun _ => True) ?hr ?hp (fun _ hk => hk) trivial (Below.refl _ _) (Nat.le_refl _) (by simp) ?_; (case hd => rfl); (case hg => rfl); (case hr => first | (go_simp; done) | (go_simp; rfl)); (case hp => exact (Reps.none _ _)); intro v236 w25 ho26 hb hg_ hnew_; clear hg_ hnew_; (first | rw [← Ny235.out] at ho26 | (simp only [Int.reduceToNat] at ho26; rw [← Ny235.out] at ho26)); have n0_ := Aside0.mk (Kd.R_elder' (by (with_reducible repeat (first | apply Kd.R_alloc | apply Kd.R_drewN | apply Kd.R_drew)); exact HO_11.out) (Kd.R_base ho26) hb); have n1_ := Aside0.mk (Kd.R_lower (Kd.R_newB (Kd.R_new' ho26 (Kd.R_lt (by (with_reducible repeat (first | apply Kd.R_alloc | apply Kd.R_drewN | apply Kd.R_drew)); exact HO_11.out))) (g := gb221) (o := .cells #[.string a0_0, .string a0_1, .bool a0_2] 36 (0, 0)) (by (with_reducible repeat (first | refine blk_drewN ?_ _ | refine blk_drew ?_ | refine blk_alloc ?_ _)); exact BK221.out)) (below_size (by repeat (first | (with_reducible first | exact HB.out | apply below_alloc | apply pw_below_drewN | apply below_drew1 | refine below_set ?_ GE221.out) | exact HB.out)))); have n2_ := Aside0.mk (blk_below (g := gb221) (o := .cells #[.string a0_0, .string a0_1, .bool a0_2] 36 (0, 0)) (by (with_reducible repeat (first | refine blk_drewN ?_ _ | refine blk_drew ?_ | refine blk_alloc ?_ _)); exact BK221.out) hb); have n3_ := Aside0.mk (below_step (by repeat (first | (with_reducible first | exact HB.out | apply below_alloc | apply pw_below_drewN | apply below_drew1 | refine below_set ?_ GE221.out) | exact HB.out)) hb); clear HO_11; clear BK221; clear HB; have HO_11 := n0_; have HO237 := n1_; have BK221 := n2_; have HB := n3_; clear n0_ n1_ n2_ n3_; clear hb ho26))
                  go_loopg [13, 14] k2 (fun kq v13 v14 w' => ∃ (x13_3 : List (S36)) (x14_3 : Int), v14 = .int .i64 x14_3 ∧ Aside0 (tidelinelaw07_CutsDeep.l1 kq l1 a2 t227 x11_2 x12_2 x13_3 x14_3 a0_0 a0_1 a0_2 = some r) ∧ Aside0 (kq ≤ k2) ∧ Aside0 (Kd.R k36 36 w' w.heap.size (fun k_ => some k_ ≠ (v13 : Value).ownBlock ∧ k_ ≠ gb221) u11 x11_2) ∧ Aside0 (Kd.R k36 36 w' w.heap.size (fun k_ => some k_ ≠ (u11 : Value).ownBlock ∧ k_ ≠ gb221) v13 x13_3) ∧ Aside0 (w'.heap[gb221]? = some (.cells #[.string a0_0, .string a0_1, .bool a0_2] 36 (0, 0))) ∧ Aside0 (Below w.heap.size w w'))
                  case atStart => exact ⟨(y235), (0), (by first | rfl | (simp; done) | (simp [*]; done) | (simp [*, Go.Proofs.Ytcfiobhebakhlaa.Str.bne_nil]; done)), H', ⟨Nat.le_refl _⟩, ⟨by (with_reducible repeat (first | apply Kd.R_alloc | apply Kd.R_drewN | apply Kd.R_drew)); exact Kd.R_mono HO_11.out (fun _ hk => ⟨hk.2, hk.1⟩)⟩, ⟨by (with_reducible repeat (first | apply Kd.R_alloc | apply Kd.R_drewN | apply Kd.R_drew)); exact Kd.R_mono HO237.out (fun _ hk => ⟨hk.1.2, hk.2⟩)⟩, ⟨by (with_reducible repeat (first | refine blk_drewN ?_ _ | refine blk_drew ?_ | refine blk_alloc ?_ _)); exact BK221.out⟩, ⟨by repeat (first | (with_reducible first | exact HB.out | apply below_alloc | apply pw_below_drewN | apply below_drew1 | refine below_set ?_ GE221.out) | exact HB.out)⟩⟩
                  case round =>
                    clear H'
                    try clear c1
                    try clear c2
                    try clear p2
                    try clear c5
                    try clear c8
                    try clear c14
                    try clear c17
                    try clear c17b0
                    try clear c17b1
                    try clear c18
                    try clear c19
                    try clear c21
                    try clear c24
                    try clear c24b0
                    try clear c26
                    try clear hcz13_0
                    try clear hcz13_1
                    try clear hcz13_2
                    try clear hcz15_0
                    try clear hcz15_1
                    try clear hcz15_2
                    try clear hcz22_0
                    try clear hcz22_1
                    try clear hcz22_2
                    try clear hcz7_0
                    try clear hcz7_1
                    try clear hcz7_2
                    try clear hfz13_0
                    try clear hfz13_1
                    try clear hfz13_2
                    try clear hfz15_0
                    try clear hfz15_1
                    try clear hfz15_2
                    try clear hfz22_0
                    try clear hfz22_1
                    try clear hfz22_2
                    try clear hfz7_0
                    try clear hfz7_1
                    try clear hfz7_2
                    try clear p2
                    obtain ⟨x13_3, x14_3, rfl, HA, HK3, HO_11, HO_13, BK221, HB⟩ := hrel
                    cases gk with
                    | zero => exact absurd HA.out (by simp [tidelinelaw07_CutsDeep.l1])
                    | succ k3 =>
                      have H := HA.out
                      clear HA
                      simp only [tidelinelaw07_CutsDeep.l1] at H
                      by_cases c27 : x14_3 < (x11_2.length : Int)
                      · rw [if_pos c27] at H
                        have c27b0 : decide (x14_3 < (x11_2.length : Int)) = true := decide_eq_true c27
                        clear c27
                        obtain ⟨y238, hy238⟩ : ∃ y_ : List ByteArray, y_ = (([] : List ByteArray)) := ⟨_, rfl⟩
                        replace H : (tidelinelaw07_CutsDeep.l2 k3 l1 a2 t227 x11_2 x12_2 x13_3 x14_3 y238 0 a0_0 a0_1 a0_2) = some r := by first | (rw [hy238]; with_reducible exact H) | (have H2_ := (Option.bind_some _ _).symm.trans H; rw [hy238]; with_reducible exact H2_) | (have H2_ := (Option.bind_some _ _).symm.trans H; with_reducible exact H2_) | with_reducible exact H | (rw [hy238]; exact H) | exact H
                        have Ny238 := Aside0.mk hy238
                        clear hy238
                        have H' := Aside0.mk H
                        clear H
                        obtain ⟨Ao28, co28, eo28⟩ := Kd.R_slice HO_11.out
                        subst eo28
                        go_wp2_with (first | ((with_reducible refine gate_dst (N := 59) rfl ?_); (try (refine gate_guard (by rfl) ?_; dsimp only)); refine Kd.R_lit Kd.string _ 9 ?hg (N := 59) ?hd (xs := ([] : List ByteArray)) (inner := []) (ok := fun _ => True) (okp := fun _ => True) ?hr ?hp (fun _ hk => hk) trivial (Below.refl _ _) (Nat.le_refl _) (by simp) ?_; (case hd => rfl); (case hg => rfl); (case hr => first | (go_simp; done) | (go_simp; rfl)); (case hp => exact (Reps.none _ _)); intro v239 w29 ho30 hb hg_ hnew_; clear hg_ hnew_; (first | rw [← Ny238.out] at ho30 | (simp only [Int.reduceToNat] at ho30; rw [← Ny238.out] at ho30)); have n0_ := Aside0.mk (Kd.R_below (by (with_reducible repeat (first | apply Kd.R_alloc | apply Kd.R_drewN | apply Kd.R_drew)); exact HO_11.out) hb); have n1_ := Aside0.mk (Kd.R_below (by (with_reducible repeat (first | apply Kd.R_alloc | apply Kd.R_drewN | apply Kd.R_drew)); exact HO_13.out) hb); have n2_ := Aside0.mk (Kd.R_lower ho30 (below_size (by repeat (first | (with_reducible first | exact HB.out | apply below_alloc | apply pw_below_drewN | apply below_drew1 | refine below_set ?_ GE221.out) | exact HB.out)))); have n3_ := Aside0.mk (blk_below (g := gb221) (o := .cells #[.string a0_0, .string a0_1, .bool a0_2] 36 (0, 0)) (by (with_reducible repeat (first | refine blk_drewN ?_ _ | refine blk_drew ?_ | refine blk_alloc ?_ _)); exact BK221.out) hb); have n4_ := Aside0.mk (below_step (by repeat (first | (with_reducible first | exact HB.out | apply below_alloc | apply pw_below_drewN | apply below_drew1 | refine below_set ?_ GE221.out) | exact HB.out)) hb); clear HO_11; clear HO_13; clear BK221; clear HB; have HO_11 := n0_; have HO_13 := n1_; have HO240 := n2_; have BK221 := n3_; have HB := n4_; clear n0_ n1_ n2_ n3_ n4_; clear hb ho30))
                        go_loopg [15, 16] k3 (fun kq v15 v16 w' => ∃ (x15_4 : List ByteArray) (x16_4 : Int), v16 = .int .i64 x16_4 ∧ Aside0 (tidelinelaw07_CutsDeep.l2 kq l1 a2 t227 x11_2 x12_2 x13_3 x14_3 x15_4 x16_4 a0_0 a0_1 a0_2 = some r) ∧ Aside0 (kq ≤ k3) ∧ Aside0 (Kd.R k36 36 w' w.heap.size (fun k_ => some k_ ≠ (u13 : Value).ownBlock ∧ k_ ≠ gb221) (.slice Ao28 x11_2.length co28) x11_2) ∧ Aside0 (Kd.R k36 36 w' w.heap.size (fun k_ => some k_ ≠ ((.slice Ao28 x11_2.length co28) : Value).ownBlock ∧ k_ ≠ gb221) u13 x13_3) ∧ Aside0 (Kd.R Kd.string 9 w' w.heap.size (fun _ => True) v15 x15_4) ∧ Aside0 (w'.heap[gb221]? = some (.cells #[.string a0_0, .string a0_1, .bool a0_2] 36 (0, 0))) ∧ Aside0 (Below w.heap.size w w'))
                        case atStart => exact ⟨(y238), (0), (by first | rfl | (simp; done) | (simp [*]; done) | (simp [*, Go.Proofs.Ytcfiobhebakhlaa.Str.bne_nil]; done)), H', ⟨Nat.le_refl _⟩, ⟨by (with_reducible repeat (first | apply Kd.R_alloc | apply Kd.R_drewN | apply Kd.R_drew)); exact HO_11.out⟩, ⟨by (with_reducible repeat (first | apply Kd.R_alloc | apply Kd.R_drewN | apply Kd.R_drew)); exact HO_13.out⟩, ⟨by (with_reducible repeat (first | apply Kd.R_alloc | apply Kd.R_drewN | apply Kd.R_drew)); exact HO240.out⟩, ⟨by (with_reducible repeat (first | refine blk_drewN ?_ _ | refine blk_drew ?_ | refine blk_alloc ?_ _)); exact BK221.out⟩, ⟨by repeat (first | (with_reducible first | exact HB.out | apply below_alloc | apply pw_below_drewN | apply below_drew1 | refine below_set ?_ GE221.out) | exact HB.out)⟩⟩
                        case round =>
                          clear H'
                          try clear c1
                          try clear c2
                          try clear p2
                          try clear c5
                          try clear c8
                          try clear c14
                          try clear c17
                          try clear c17b0
                          try clear c17b1
                          try clear c18
                          try clear c19
                          try clear c21
                          try clear c24
                          try clear c24b0
                          try clear c26
                          try clear c27
                          try clear c27b0
                          try clear hcz13_0
                          try clear hcz13_1
                          try clear hcz13_2
                          try clear hcz15_0
                          try clear hcz15_1
                          try clear hcz15_2
                          try clear hcz22_0
                          try clear hcz22_1
                          try clear hcz22_2
                          try clear hcz7_0
                          try clear hcz7_1
                          try clear hcz7_2
                          try clear hfz13_0
                          try clear hfz13_1
                          try clear hfz13_2
                          try clear hfz15_0
                          try clear hfz15_1
                          try clear hfz15_2
                          try clear hfz22_0
                          try clear hfz22_1
                          try clear hfz22_2
                          try clear hfz7_0
                          try clear hfz7_1
                          try clear hfz7_2
                          try clear p2
                          obtain ⟨x15_4, x16_4, rfl, HA, HK4, HO_11, HO_13, HO_15, BK221, HB⟩ := hrel
                          cases gk with
                          | zero => exact absurd HA.out (by simp [tidelinelaw07_CutsDeep.l2])
                          | succ k4 =>
                            have H := HA.out
                            clear HA
                            simp only [tidelinelaw07_CutsDeep.l2] at H
                            by_cases c31 : x16_4 < (l1.length : Int)
                            · rw [if_pos c31] at H
                              have c31b0 : decide (x16_4 < (l1.length : Int)) = true := decide_eq_true c31
                              clear c31
                              by_cases c32 : 0 ≤ x14_3
                              · rw [if_pos c32] at H
                                have c32b0 : decide (0 ≤ x14_3) = true := decide_eq_true c32
                                clear c32
                                by_cases c33 : x14_3 < (x11_2.length : Int)
                                · rw [if_pos c33] at H
                                  have c33b0 : decide (x14_3 < (x11_2.length : Int)) = true := decide_eq_true c33
                                  clear c33
                                  by_cases c34 : 0 ≤ x16_4
                                  · rw [if_pos c34] at H
                                    have c34b0 : decide (0 ≤ x16_4) = true := decide_eq_true c34
                                    clear c34
                                    replace H := Option.bind_eq_some_iff.mp H
                                    obtain ⟨t243, A350, H⟩ := H
                                    replace H : (if t243 = true then (if x15_4.length < 8796093022208 then (tidelinelaw07_CutsDeep.l2 k4 l1 a2 t227 x11_2 x12_2 x13_3 x14_3 (x15_4 ++ [rdOf ByteArray.empty l1 x16_4]) (wrap64 (x16_4 + 1)) a0_0 a0_1 a0_2) else (none)) else (tidelinelaw07_CutsDeep.l2 k4 l1 a2 t227 x11_2 x12_2 x13_3 x14_3 x15_4 (wrap64 (x16_4 + 1)) a0_0 a0_1 a0_2)) = some r := H
                                    have A35 := Aside0.mk A350
                                    clear A350
                                    by_cases c36 : t243 = true
                                    · subst c36
                                      have H1 : (if x15_4.length < 8796093022208 then (tidelinelaw07_CutsDeep.l2 k4 l1 a2 t227 x11_2 x12_2 x13_3 x14_3 (x15_4 ++ [rdOf ByteArray.empty l1 x16_4]) (wrap64 (x16_4 + 1)) a0_0 a0_1 a0_2) else (none)) = some r := by rw [if_pos rfl] at H; exact H
                                      clear H
                                      have H := H1
                                      clear H1
                                      by_cases c37 : x15_4.length < 8796093022208
                                      · rw [if_pos c37] at H
                                        have LMc37 := Aside0.mk c37
                                        clear c37
                                        obtain ⟨y245, hy245⟩ : ∃ y_ : List ByteArray, y_ = (x15_4 ++ [rdOf ByteArray.empty l1 x16_4]) := ⟨_, rfl⟩
                                        replace H : (tidelinelaw07_CutsDeep.l2 k4 l1 a2 t227 x11_2 x12_2 x13_3 x14_3 y245 (wrap64 (x16_4 + 1)) a0_0 a0_1 a0_2) = some r := by first | (rw [hy245]; with_reducible exact H) | (have H2_ := (Option.bind_some _ _).symm.trans H; rw [hy245]; with_reducible exact H2_) | (have H2_ := (Option.bind_some _ _).symm.trans H; with_reducible exact H2_) | with_reducible exact H | (rw [hy245]; exact H) | exact H
                                        have Ny245 := Aside0.mk hy245
                                        clear hy245
                                        have H' := Aside0.mk H
                                        clear H
                                        try go_wp2
                                        have n0_ := Aside0.mk (Kd.R_drew HO_11.out)
                                        have n1_ := Aside0.mk (Kd.R_drew HO_13.out)
                                        have n2_ := Aside0.mk (Kd.R_drew HO_15.out)
                                        have n3_ := Aside0.mk (blk_drew BK221.out)
                                        have n4_ := Aside0.mk (below_drew1 HB.out)
                                        clear HO_11
                                        clear HO_13
                                        clear HO_15
                                        clear BK221
                                        clear HB
                                        have HO_11 := n0_
                                        have HO_13 := n1_
                                        have HO_15 := n2_
                                        have BK221 := n3_
                                        have HB := n4_
                                        clear n0_ n1_ n2_ n3_ n4_
                                        have p241 : 0 ≤ (x14_3 : Int) := of_decide_eq_true (by first | (with_reducible assumption) | assumption)
                                        have q241 : x14_3 < (x11_2.length : Int) := of_decide_eq_true (by first | (with_reducible assumption) | assumption)
                                        obtain ⟨ad241, e241, hx241_0, hx241_1, hx241_2⟩ := at_T36 (Kd.R_reads' HO_11.out).2.2 x14_3 p241 q241
                                        cases e241
                                        replace p241 := eq_true p241
                                        replace q241 := eq_true q241
                                        have p242 : 0 ≤ (x16_4 : Int) := of_decide_eq_true (by first | (with_reducible assumption) | assumption)
                                        have q242 : x16_4 < (l1.length : Int) := of_decide_eq_true (by first | (with_reducible assumption) | assumption)
                                        obtain ⟨ad242, e242, hx242_0⟩ := Kd.at_string HR1.out x16_4 p242 q242
                                        have hw242_0 := hx242_0
                                        cases e242
                                        replace hx242_0 := (HB.out.cell (World.block_lt_of_cell? w _ hx242_0)).trans hx242_0
                                        replace p242 := eq_true p242
                                        replace q242 := eq_true q242
                                        refine start_ (n := 9) (S := fun w' => w'.cell? (ad241.add ((x14_3).toNat * 3)) = some (.string ((rd_T36 x11_2 x14_3).f0)) ∧ w'.cell? ⟨(ad241.add ((x14_3).toNat * 3)).block, (ad241.add ((x14_3).toNat * 3)).off + 1, none⟩ = some (.string ((rd_T36 x11_2 x14_3).f1)) ∧ w'.cell? ⟨(ad241.add ((x14_3).toNat * 3)).block, (ad241.add ((x14_3).toNat * 3)).off + 2, none⟩ = some (.bool ((rd_T36 x11_2 x14_3).f2)) ∧ w'.cell? (ad242.add (x16_4).toNat) = some (.string (rdOf ByteArray.empty l1 x16_4))) (ds := []) #[false, false, false, false, false, false, false, false, false] (by kernel_rfl) rfl rfl ⟨hx241_0, hx241_1, hx241_2, ((HB.out.cell (World.block_lt_of_cell? w _ hw242_0)).trans hw242_0)⟩ (fun hHeld => ?_); refine with_tabW tidelinelaw07_CutsDeep.tab20 tidelinelaw07_CutsDeep.bits20 (fun HT_ HW_ => ?_)
                                        generalize wr.drew = w38 at HO_11 HO_13 HO_15 BK221 HB hx241_0 hx241_1 hx241_2 hx242_0 hHeld ⊢
                                        refine pure_ (i := 0) (N := some 66) (v := ?_) (a' := ?_) #[true, false, false, false, false, false, false, false, false] rfl rfl (any_of HT_.out (by kernel_rfl)) (fun _ _ _ h => h) (Or.inl ⟨by rfl, ?_⟩) ?_ ?_
                                        rotate_left
                                        · intro w'
                                          go_simp
                                          with_reducible rfl
                                        rotate_left
                                        · simp only [Act.put, List.setIfInBounds_toArray, List.set_cons_zero, List.set_cons_succ, i64_w, i32_w]
                                          rfl
                                        refine pure_ (i := 1) (N := some 67) (v := ?_) (a' := ?_) #[true, true, false, false, false, false, false, false, false] rfl rfl (any_of HT_.out (by kernel_rfl)) (fun _ _ _ h => h) (Or.inl ⟨by rfl, ?_⟩) ?_ ?_
                                        rotate_left
                                        · intro w'
                                          go_simp
                                          with_reducible rfl
                                        rotate_left
                                        · simp only [Act.put, List.setIfInBounds_toArray, List.set_cons_zero, List.set_cons_succ, i64_w, i32_w]
                                          rfl
                                        refine pure_ (i := 2) (N := some 68) (v := ?_) (a' := ?_) #[true, true, true, false, false, false, false, false, false] rfl rfl (any_of HT_.out (by kernel_rfl)) (fun _ _ _ h => h) (Or.inl ⟨by rfl, ?_⟩) ?_ ?_
                                        rotate_left
                                        · intro w'
                                          go_simp
                                          with_reducible rfl
                                        rotate_left
                                        · simp only [Act.put, List.setIfInBounds_toArray, List.set_cons_zero, List.set_cons_succ, i64_w, i32_w]
                                          rfl
                                        refine pure_ (i := 4) (N := some 70) (v := ?_) (a' := ?_) #[true, true, true, false, true, false, false, false, false] rfl rfl (any_of HT_.out (by kernel_rfl)) (fun _ _ _ h => h) (Or.inl ⟨by rfl, ?_⟩) ?_ ?_
                                        rotate_left
                                        · intro w'
                                          go_simp
                                          with_reducible rfl
                                        rotate_left
                                        · simp only [Act.put, List.setIfInBounds_toArray, List.set_cons_zero, List.set_cons_succ, i64_w, i32_w]
                                          rfl
                                        refine pure_ (i := 5) (N := some 71) (v := ?_) (a' := ?_) #[true, true, true, false, true, true, false, false, false] rfl rfl (any_of HT_.out (by kernel_rfl)) (fun _ _ _ h => h) (Or.inl ⟨by rfl, ?_⟩) ?_ ?_
                                        rotate_left
                                        · intro w'
                                          go_simp
                                          with_reducible rfl
                                        rotate_left
                                        · simp only [Act.put, List.setIfInBounds_toArray, List.set_cons_zero, List.set_cons_succ, i64_w, i32_w]
                                          rfl
                                        refine pure_ (i := 6) (N := some 72) (v := ?_) (a' := ?_) #[true, true, true, false, true, true, true, false, false] rfl rfl (any_of HT_.out (by kernel_rfl)) (fun _ _ _ h => h) (Or.inl ⟨by rfl, ?_⟩) ?_ ?_
                                        rotate_left
                                        · intro w'
                                          go_simp
                                          with_reducible rfl
                                        rotate_left
                                        · simp only [Act.put, List.setIfInBounds_toArray, List.set_cons_zero, List.set_cons_succ, i64_w, i32_w]
                                          rfl
                                        refine take_ (i := 3) (N := some 69) (v := ?_) (a' := ?_) #[true, true, true, true, true, true, true, false, false] rfl rfl (take_ofW HT_.out HW_.out (by kernel_rfl)) (fun _ _ _ h => h) (Or.inl ⟨by rfl, ?_⟩) hHeld ?_ ?_
                                        rotate_left
                                        · rintro w' ⟨s0, s1, s2, s3⟩
                                          go_simp
                                          with_reducible rfl
                                        rotate_left
                                        · simp only [Act.put, List.setIfInBounds_toArray, List.set_cons_zero, List.set_cons_succ, i64_w, i32_w]
                                          rfl
                                        refine take_ (i := 7) (N := some 73) (v := ?_) (a' := ?_) #[true, true, true, true, true, true, true, true, false] rfl rfl (take_ofW HT_.out HW_.out (by kernel_rfl)) (fun _ _ _ h => h) (Or.inl ⟨by rfl, ?_⟩) hHeld ?_ ?_
                                        rotate_left
                                        · rintro w' ⟨s0, s1, s2, s3⟩
                                          go_simp
                                          with_reducible rfl
                                        rotate_left
                                        · simp only [Act.put, List.setIfInBounds_toArray, List.set_cons_zero, List.set_cons_succ, i64_w, i32_w]
                                          rfl
                                        refine one_ (i := 8) (N := some 74) #[true, true, true, true, true, true, true, true, true] rfl rfl (one_of HT_.out (by kernel_rfl)) (by decide) (fun K hK => ?_)
                                        refine goes_ Try.func28 (by kernel_rfl) rfl #[.agg #[.string ((rd_T36 x11_2 x14_3).f0), .string ((rd_T36 x11_2 x14_3).f1), .bool ((rd_T36 x11_2 x14_3).f2)], .string (rdOf ByteArray.empty l1 x16_4)] (by rfl) rfl rfl (by (try simp only [List.map_toArray, List.map_cons, List.map_nil]); first | done | rfl | (simp only [List.length_drop, List.length_take]; rfl)) ?_
                                        with_reducible refine (span_Holds.calls k4 ((rd_T36 x11_2 x14_3).f0) ((rd_T36 x11_2 x14_3).f1) ((rd_T36 x11_2 x14_3).f2) (rdOf ByteArray.empty l1 x16_4) true _ A35.out).mono ?_
                                        rintro e w39 ⟨rfl, hb⟩
                                        have HS0_ := (hb.cell (World.block_lt_of_cell? _ _ (hHeld.1))).trans (hHeld.1)
                                        have HS1_ := (hb.cell (World.block_lt_of_cell? _ _ (hHeld.2.1))).trans (hHeld.2.1)
                                        have HS2_ := (hb.cell (World.block_lt_of_cell? _ _ (hHeld.2.2.1))).trans (hHeld.2.2.1)
                                        refine ⟨_, rfl, ?_⟩
                                        have n0_ := Aside0.mk (Kd.R_below (by (with_reducible repeat (first | apply Kd.R_alloc | apply Kd.R_drewN | apply Kd.R_drew)); exact HO_11.out) hb)
                                        have n1_ := Aside0.mk (Kd.R_below (by (with_reducible repeat (first | apply Kd.R_alloc | apply Kd.R_drewN | apply Kd.R_drew)); exact HO_13.out) hb)
                                        have n2_ := Aside0.mk (Kd.R_below (by (with_reducible repeat (first | apply Kd.R_alloc | apply Kd.R_drewN | apply Kd.R_drew)); exact HO_15.out) hb)
                                        have n3_ := Aside0.mk (blk_below (g := gb221) (o := .cells #[.string a0_0, .string a0_1, .bool a0_2] 36 (0, 0)) (by (with_reducible repeat (first | refine blk_drewN ?_ _ | refine blk_drew ?_ | refine blk_alloc ?_ _)); exact BK221.out) hb)
                                        have n4_ := Aside0.mk (below_step (by repeat (first | (with_reducible first | exact HB.out | apply below_alloc | apply pw_below_drewN | apply below_drew1 | refine below_set ?_ GE221.out) | exact HB.out)) hb)
                                        clear HO_11
                                        clear HO_13
                                        clear HO_15
                                        clear BK221
                                        clear HB
                                        have HO_11 := n0_
                                        have HO_13 := n1_
                                        have HO_15 := n2_
                                        have BK221 := n3_
                                        have HB := n4_
                                        clear n0_ n1_ n2_ n3_ n4_
                                        (try clear hb)
                                        (try clear hb2)
                                        (try clear hk)
                                        (try clear hi)
                                        refine hK.out _ _ ⟨HS0_, HS1_, HS2_, ((HB.out.cell (World.block_lt_of_cell? w _ hw242_0)).trans hw242_0)⟩ (fun hHeld => ?_)
                                        clear hK K
                                        refine norm_ (a' := ?_) ?_ ?_
                                        rotate_left
                                        · show Act.put _ (some 74) _ = _
                                          simp only [Act.put, List.setIfInBounds_toArray, List.set_cons_zero, List.set_cons_succ, i64_w, i32_w]
                                          rfl
                                        refine done_ (done_of HT_.out (by kernel_rfl)) ?_
                                        have p244 : 0 ≤ (x16_4 : Int) := of_decide_eq_true (by first | (with_reducible assumption) | assumption)
                                        have q244 : x16_4 < (l1.length : Int) := of_decide_eq_true (by first | (with_reducible assumption) | assumption)
                                        obtain ⟨ad244, e244, hx244_0⟩ := Kd.at_string HR1.out x16_4 p244 q244
                                        obtain rfl : ad242 = ad244 := (by injection e244)
                                        replace hx244_0 := (HB.out.cell (World.block_lt_of_cell? w _ hx244_0)).trans hx244_0
                                        replace p244 := eq_true p244
                                        replace q244 := eq_true q244
                                        try go_wp2_with (first | ((with_reducible refine gate_builtin (b := .append) (xs := #[.tmp 75, .tmp 80]) rfl ?_); (try (refine gate_guard (by rfl) ?_; dsimp only)); at_builtin; refine Kd.R_append Kd.string (w0 := w) w.heap.size rfl (.tmp 75) (.tmp 80) 33 9 (.string ⟨#[]⟩) 16 rfl Try.underlying33 info9 rfl (by decide) (by omega) u15 x15_4 (rdOf ByteArray.empty l1 x16_4) [.string (rdOf ByteArray.empty l1 x16_4)] (fun _ => True) (fun _ => False) rfl rfl ?aP (fun _ hk => hk.elim) ?aF ?aO ?aB ?aS ?aL ?_; (case aP => exact rfl); (case aB => exact (by repeat (first | (with_reducible first | exact HB.out | apply below_alloc | apply pw_below_drewN | apply below_drew1 | refine below_set ?_ GE221.out) | exact HB.out))); (case aF => exact (fun _ _ => trivial)); (case aO => exact (by (with_reducible repeat (first | apply Kd.R_alloc | apply Kd.R_drewN | apply Kd.R_drew)); exact HO_15.out)); (case aS => exact (below_size (by repeat (first | (with_reducible first | exact HB.out | apply below_alloc | apply pw_below_drewN | apply below_drew1 | refine below_set ?_ GE221.out) | exact HB.out)))); (case aL => have := LMc37.out; omega); intro v246 w40 ho hb hg hat; rw [← Ny245.out] at ho; have n0_ := Aside0.mk (Kd.R_over' (by (with_reducible repeat (first | apply Kd.R_alloc | apply Kd.R_drewN | apply Kd.R_drew)); exact HO_11.out) (Kd.R_typed (by (with_reducible repeat (first | apply Kd.R_alloc | apply Kd.R_drewN | apply Kd.R_drew)); exact HO_15.out)) (by decide) hg); have n1_ := Aside0.mk (Kd.R_over' (by (with_reducible repeat (first | apply Kd.R_alloc | apply Kd.R_drewN | apply Kd.R_drew)); exact HO_13.out) (Kd.R_typed (by (with_reducible repeat (first | apply Kd.R_alloc | apply Kd.R_drewN | apply Kd.R_drew)); exact HO_15.out)) (by decide) hg); have n2_ := Aside0.mk (blk_grown (g := gb221) (o := .cells #[.string a0_0, .string a0_1, .bool a0_2] 36 (0, 0)) (by (with_reducible repeat (first | refine blk_drewN ?_ _ | refine blk_drew ?_ | refine blk_alloc ?_ _)); exact BK221.out) hg (Kd.R_ne HO_15.out BK221.out (by decide))); have n3_ := Aside0.mk (hb); have n4_ := Aside0.mk (ho); clear HO_11; clear HO_13; clear BK221; clear HB; clear HO_15; have HO_11 := n0_; have HO_13 := n1_; have BK221 := n2_; have HB := n3_; have HO247 := n4_; clear n0_ n1_ n2_ n3_ n4_; clear ho hb hg hat))
                                        go_roundg k4
                                        case measure => have := HJ10.out; have := HK2.out; have := HK3.out; have := HK4.out; omega
                                        case rel => exact ⟨(y245), (wrap64 (x16_4 + 1)), (by first | rfl | (simp; done) | (simp [*]; done) | (simp [*, Go.Proofs.Ytcfiobhebakhlaa.Str.bne_nil]; done)), H', ⟨by have := HJ10.out; have := HK2.out; have := HK3.out; have := HK4.out; omega⟩, ⟨by (with_reducible repeat (first | apply Kd.R_alloc | apply Kd.R_drewN | apply Kd.R_drew)); exact HO_11.out⟩, ⟨by (with_reducible repeat (first | apply Kd.R_alloc | apply Kd.R_drewN | apply Kd.R_drew)); exact HO_13.out⟩, ⟨by (with_reducible repeat (first | apply Kd.R_alloc | apply Kd.R_drewN | apply Kd.R_drew)); exact HO247.out⟩, ⟨by (with_reducible repeat (first | refine blk_drewN ?_ _ | refine blk_drew ?_ | refine blk_alloc ?_ _)); exact BK221.out⟩, ⟨by repeat (first | (with_reducible first | exact HB.out | apply below_alloc | apply pw_below_drewN | apply below_drew1 | refine below_set ?_ GE221.out) | exact HB.out)⟩⟩
                                      · rw [if_neg c37] at H
                                        exact absurd H (by simp)
                                    · replace c36 := Bool.eq_false_iff.mpr c36
                                      subst c36
                                      have H1 : (tidelinelaw07_CutsDeep.l2 k4 l1 a2 t227 x11_2 x12_2 x13_3 x14_3 x15_4 (wrap64 (x16_4 + 1)) a0_0 a0_1 a0_2) = some r := by rw [if_neg (show ¬ (false = true) by decide)] at H; exact H
                                      clear H
                                      have H := H1
                                      clear H1
                                      have H' := Aside0.mk H
                                      clear H
                                      try go_wp2
                                      have n0_ := Aside0.mk (Kd.R_drew HO_11.out)
                                      have n1_ := Aside0.mk (Kd.R_drew HO_13.out)
                                      have n2_ := Aside0.mk (Kd.R_drew HO_15.out)
                                      have n3_ := Aside0.mk (blk_drew BK221.out)
                                      have n4_ := Aside0.mk (below_drew1 HB.out)
                                      clear HO_11
                                      clear HO_13
                                      clear HO_15
                                      clear BK221
                                      clear HB
                                      have HO_11 := n0_
                                      have HO_13 := n1_
                                      have HO_15 := n2_
                                      have BK221 := n3_
                                      have HB := n4_
                                      clear n0_ n1_ n2_ n3_ n4_
                                      have p241 : 0 ≤ (x14_3 : Int) := of_decide_eq_true (by first | (with_reducible assumption) | assumption)
                                      have q241 : x14_3 < (x11_2.length : Int) := of_decide_eq_true (by first | (with_reducible assumption) | assumption)
                                      obtain ⟨ad241, e241, hx241_0, hx241_1, hx241_2⟩ := at_T36 (Kd.R_reads' HO_11.out).2.2 x14_3 p241 q241
                                      cases e241
                                      replace p241 := eq_true p241
                                      replace q241 := eq_true q241
                                      have p242 : 0 ≤ (x16_4 : Int) := of_decide_eq_true (by first | (with_reducible assumption) | assumption)
                                      have q242 : x16_4 < (l1.length : Int) := of_decide_eq_true (by first | (with_reducible assumption) | assumption)
                                      obtain ⟨ad242, e242, hx242_0⟩ := Kd.at_string HR1.out x16_4 p242 q242
                                      have hw242_0 := hx242_0
                                      cases e242
                                      replace hx242_0 := (HB.out.cell (World.block_lt_of_cell? w _ hx242_0)).trans hx242_0
                                      replace p242 := eq_true p242
                                      replace q242 := eq_true q242
                                      refine start_ (n := 9) (S := fun w' => w'.cell? (ad241.add ((x14_3).toNat * 3)) = some (.string ((rd_T36 x11_2 x14_3).f0)) ∧ w'.cell? ⟨(ad241.add ((x14_3).toNat * 3)).block, (ad241.add ((x14_3).toNat * 3)).off + 1, none⟩ = some (.string ((rd_T36 x11_2 x14_3).f1)) ∧ w'.cell? ⟨(ad241.add ((x14_3).toNat * 3)).block, (ad241.add ((x14_3).toNat * 3)).off + 2, none⟩ = some (.bool ((rd_T36 x11_2 x14_3).f2)) ∧ w'.cell? (ad242.add (x16_4).toNat) = some (.string (rdOf ByteArray.empty l1 x16_4))) (ds := []) #[false, false, false, false, false, false, false, false, false] (by kernel_rfl) rfl rfl ⟨hx241_0, hx241_1, hx241_2, ((HB.out.cell (World.block_lt_of_cell? w _ hw242_0)).trans hw242_0)⟩ (fun hHeld => ?_); refine with_tabW tidelinelaw07_CutsDeep.tab20 tidelinelaw07_CutsDeep.bits20 (fun HT_ HW_ => ?_)
                                      generalize wr.drew = w41 at HO_11 HO_13 HO_15 BK221 HB hx241_0 hx241_1 hx241_2 hx242_0 hHeld ⊢
                                      refine pure_ (i := 0) (N := some 66) (v := ?_) (a' := ?_) #[true, false, false, false, false, false, false, false, false] rfl rfl (any_of HT_.out (by kernel_rfl)) (fun _ _ _ h => h) (Or.inl ⟨by rfl, ?_⟩) ?_ ?_
                                      rotate_left
                                      · intro w'
                                        go_simp
                                        with_reducible rfl
                                      rotate_left
                                      · simp only [Act.put, List.setIfInBounds_toArray, List.set_cons_zero, List.set_cons_succ, i64_w, i32_w]
                                        rfl
                                      refine pure_ (i := 1) (N := some 67) (v := ?_) (a' := ?_) #[true, true, false, false, false, false, false, false, false] rfl rfl (any_of HT_.out (by kernel_rfl)) (fun _ _ _ h => h) (Or.inl ⟨by rfl, ?_⟩) ?_ ?_
                                      rotate_left
                                      · intro w'
                                        go_simp
                                        with_reducible rfl
                                      rotate_left
                                      · simp only [Act.put, List.setIfInBounds_toArray, List.set_cons_zero, List.set_cons_succ, i64_w, i32_w]
                                        rfl
                                      refine pure_ (i := 2) (N := some 68) (v := ?_) (a' := ?_) #[true, true, true, false, false, false, false, false, false] rfl rfl (any_of HT_.out (by kernel_rfl)) (fun _ _ _ h => h) (Or.inl ⟨by rfl, ?_⟩) ?_ ?_
                                      rotate_left
                                      · intro w'
                                        go_simp
                                        with_reducible rfl
                                      rotate_left
                                      · simp only [Act.put, List.setIfInBounds_toArray, List.set_cons_zero, List.set_cons_succ, i64_w, i32_w]
                                        rfl
                                      refine pure_ (i := 4) (N := some 70) (v := ?_) (a' := ?_) #[true, true, true, false, true, false, false, false, false] rfl rfl (any_of HT_.out (by kernel_rfl)) (fun _ _ _ h => h) (Or.inl ⟨by rfl, ?_⟩) ?_ ?_
                                      rotate_left
                                      · intro w'
                                        go_simp
                                        with_reducible rfl
                                      rotate_left
                                      · simp only [Act.put, List.setIfInBounds_toArray, List.set_cons_zero, List.set_cons_succ, i64_w, i32_w]
                                        rfl
                                      refine pure_ (i := 5) (N := some 71) (v := ?_) (a' := ?_) #[true, true, true, false, true, true, false, false, false] rfl rfl (any_of HT_.out (by kernel_rfl)) (fun _ _ _ h => h) (Or.inl ⟨by rfl, ?_⟩) ?_ ?_
                                      rotate_left
                                      · intro w'
                                        go_simp
                                        with_reducible rfl
                                      rotate_left
                                      · simp only [Act.put, List.setIfInBounds_toArray, List.set_cons_zero, List.set_cons_succ, i64_w, i32_w]
                                        rfl
                                      refine pure_ (i := 6) (N := some 72) (v := ?_) (a' := ?_) #[true, true, true, false, true, true, true, false, false] rfl rfl (any_of HT_.out (by kernel_rfl)) (fun _ _ _ h => h) (Or.inl ⟨by rfl, ?_⟩) ?_ ?_
                                      rotate_left
                                      · intro w'
                                        go_simp
                                        with_reducible rfl
                                      rotate_left
                                      · simp only [Act.put, List.setIfInBounds_toArray, List.set_cons_zero, List.set_cons_succ, i64_w, i32_w]
                                        rfl
                                      refine take_ (i := 3) (N := some 69) (v := ?_) (a' := ?_) #[true, true, true, true, true, true, true, false, false] rfl rfl (take_ofW HT_.out HW_.out (by kernel_rfl)) (fun _ _ _ h => h) (Or.inl ⟨by rfl, ?_⟩) hHeld ?_ ?_
                                      rotate_left
                                      · rintro w' ⟨s0, s1, s2, s3⟩
                                        go_simp
                                        with_reducible rfl
                                      rotate_left
                                      · simp only [Act.put, List.setIfInBounds_toArray, List.set_cons_zero, List.set_cons_succ, i64_w, i32_w]
                                        rfl
                                      refine take_ (i := 7) (N := some 73) (v := ?_) (a' := ?_) #[true, true, true, true, true, true, true, true, false] rfl rfl (take_ofW HT_.out HW_.out (by kernel_rfl)) (fun _ _ _ h => h) (Or.inl ⟨by rfl, ?_⟩) hHeld ?_ ?_
                                      rotate_left
                                      · rintro w' ⟨s0, s1, s2, s3⟩
                                        go_simp
                                        with_reducible rfl
                                      rotate_left
                                      · simp only [Act.put, List.setIfInBounds_toArray, List.set_cons_zero, List.set_cons_succ, i64_w, i32_w]
                                        rfl
                                      refine one_ (i := 8) (N := some 74) #[true, true, true, true, true, true, true, true, true] rfl rfl (one_of HT_.out (by kernel_rfl)) (by decide) (fun K hK => ?_)
                                      refine goes_ Try.func28 (by kernel_rfl) rfl #[.agg #[.string ((rd_T36 x11_2 x14_3).f0), .string ((rd_T36 x11_2 x14_3).f1), .bool ((rd_T36 x11_2 x14_3).f2)], .string (rdOf ByteArray.empty l1 x16_4)] (by rfl) rfl rfl (by (try simp only [List.map_toArray, List.map_cons, List.map_nil]); first | done | rfl | (simp only [List.length_drop, List.length_take]; rfl)) ?_
                                      with_reducible refine (span_Holds.calls k4 ((rd_T36 x11_2 x14_3).f0) ((rd_T36 x11_2 x14_3).f1) ((rd_T36 x11_2 x14_3).f2) (rdOf ByteArray.empty l1 x16_4) false _ A35.out).mono ?_
                                      rintro e w42 ⟨rfl, hb⟩
                                      have HS0_ := (hb.cell (World.block_lt_of_cell? _ _ (hHeld.1))).trans (hHeld.1)
                                      have HS1_ := (hb.cell (World.block_lt_of_cell? _ _ (hHeld.2.1))).trans (hHeld.2.1)
                                      have HS2_ := (hb.cell (World.block_lt_of_cell? _ _ (hHeld.2.2.1))).trans (hHeld.2.2.1)
                                      refine ⟨_, rfl, ?_⟩
                                      have n0_ := Aside0.mk (Kd.R_below (by (with_reducible repeat (first | apply Kd.R_alloc | apply Kd.R_drewN | apply Kd.R_drew)); exact HO_11.out) hb)
                                      have n1_ := Aside0.mk (Kd.R_below (by (with_reducible repeat (first | apply Kd.R_alloc | apply Kd.R_drewN | apply Kd.R_drew)); exact HO_13.out) hb)
                                      have n2_ := Aside0.mk (Kd.R_below (by (with_reducible repeat (first | apply Kd.R_alloc | apply Kd.R_drewN | apply Kd.R_drew)); exact HO_15.out) hb)
                                      have n3_ := Aside0.mk (blk_below (g := gb221) (o := .cells #[.string a0_0, .string a0_1, .bool a0_2] 36 (0, 0)) (by (with_reducible repeat (first | refine blk_drewN ?_ _ | refine blk_drew ?_ | refine blk_alloc ?_ _)); exact BK221.out) hb)
                                      have n4_ := Aside0.mk (below_step (by repeat (first | (with_reducible first | exact HB.out | apply below_alloc | apply pw_below_drewN | apply below_drew1 | refine below_set ?_ GE221.out) | exact HB.out)) hb)
                                      clear HO_11
                                      clear HO_13
                                      clear HO_15
                                      clear BK221
                                      clear HB
                                      have HO_11 := n0_
                                      have HO_13 := n1_
                                      have HO_15 := n2_
                                      have BK221 := n3_
                                      have HB := n4_
                                      clear n0_ n1_ n2_ n3_ n4_
                                      (try clear hb)
                                      (try clear hb2)
                                      (try clear hk)
                                      (try clear hi)
                                      refine hK.out _ _ ⟨HS0_, HS1_, HS2_, ((HB.out.cell (World.block_lt_of_cell? w _ hw242_0)).trans hw242_0)⟩ (fun hHeld => ?_)
                                      clear hK K
                                      refine norm_ (a' := ?_) ?_ ?_
                                      rotate_left
                                      · show Act.put _ (some 74) _ = _
                                        simp only [Act.put, List.setIfInBounds_toArray, List.set_cons_zero, List.set_cons_succ, i64_w, i32_w]
                                        rfl
                                      refine done_ (done_of HT_.out (by kernel_rfl)) ?_
                                      try go_wp2
                                      go_roundg k4
                                      case measure => have := HJ10.out; have := HK2.out; have := HK3.out; have := HK4.out; omega
                                      case rel => exact ⟨(x15_4), (wrap64 (x16_4 + 1)), (by first | rfl | (simp; done) | (simp [*]; done) | (simp [*, Go.Proofs.Ytcfiobhebakhlaa.Str.bne_nil]; done)), H', ⟨by have := HJ10.out; have := HK2.out; have := HK3.out; have := HK4.out; omega⟩, ⟨by (with_reducible repeat (first | apply Kd.R_alloc | apply Kd.R_drewN | apply Kd.R_drew)); exact HO_11.out⟩, ⟨by (with_reducible repeat (first | apply Kd.R_alloc | apply Kd.R_drewN | apply Kd.R_drew)); exact HO_13.out⟩, ⟨by (with_reducible repeat (first | apply Kd.R_alloc | apply Kd.R_drewN | apply Kd.R_drew)); exact HO_15.out⟩, ⟨by (with_reducible repeat (first | refine blk_drewN ?_ _ | refine blk_drew ?_ | refine blk_alloc ?_ _)); exact BK221.out⟩, ⟨by repeat (first | (with_reducible first | exact HB.out | apply below_alloc | apply pw_below_drewN | apply below_drew1 | refine below_set ?_ GE221.out) | exact HB.out)⟩⟩
                                  · rw [if_neg c34] at H
                                    exact absurd H (by simp)
                                · rw [if_neg c33] at H
                                  exact absurd H (by simp)
                              · rw [if_neg c32] at H
                                exact absurd H (by simp)
                            · rw [if_neg c31] at H
                              have c31b0 : decide (x16_4 < (l1.length : Int)) = false := decide_eq_false c31
                              clear c31
                              by_cases c43 : (x15_4.length : Int) < 2
                              · rw [if_pos c43] at H
                                have c43b0 : decide ((x15_4.length : Int) < 2) = true := decide_eq_true c43
                                have c43b1 : decide (x15_4.length < 2) = true := decide_eq_true (by omega)
                                clear c43
                                by_cases c44 : 0 ≤ x14_3
                                · rw [if_pos c44] at H
                                  have c44b0 : decide (0 ≤ x14_3) = true := decide_eq_true c44
                                  clear c44
                                  by_cases c45 : x14_3 < (x11_2.length : Int)
                                  · rw [if_pos c45] at H
                                    have c45b0 : decide (x14_3 < (x11_2.length : Int)) = true := decide_eq_true c45
                                    clear c45
                                    by_cases c46 : x13_3.length < 3518437208883
                                    · rw [if_pos c46] at H
                                      have LMc46 := Aside0.mk c46
                                      clear c46
                                      obtain ⟨y249, hy249⟩ : ∃ y_ : List (S36), y_ = (x13_3 ++ [(⟨(rd_T36 x11_2 x14_3).f0, (rd_T36 x11_2 x14_3).f1, (rd_T36 x11_2 x14_3).f2⟩ : S36)]) := ⟨_, rfl⟩
                                      replace H : (tidelinelaw07_CutsDeep.l1 k4 l1 a2 t227 x11_2 x12_2 y249 (wrap64 (x14_3 + 1)) a0_0 a0_1 a0_2) = some r := by first | (rw [hy249]; with_reducible exact H) | (have H2_ := (Option.bind_some _ _).symm.trans H; rw [hy249]; with_reducible exact H2_) | (have H2_ := (Option.bind_some _ _).symm.trans H; with_reducible exact H2_) | with_reducible exact H | (rw [hy249]; exact H) | exact H
                                      have Ny249 := Aside0.mk hy249
                                      clear hy249
                                      have H' := Aside0.mk H
                                      clear H
                                      obtain ⟨Ao47, co47, eo47⟩ := Kd.R_slice HO_15.out
                                      subst eo47
                                      have p248 : 0 ≤ (x14_3 : Int) := of_decide_eq_true (by first | (with_reducible assumption) | assumption)
                                      have q248 : x14_3 < (x11_2.length : Int) := of_decide_eq_true (by first | (with_reducible assumption) | assumption)
                                      obtain ⟨ad248, e248, hx248_0, hx248_1, hx248_2⟩ := at_T36 (Kd.R_reads' HO_11.out).2.2 x14_3 p248 q248
                                      cases e248
                                      replace p248 := eq_true p248
                                      replace q248 := eq_true q248
                                      go_wp2_with (first | ((with_reducible refine gate_builtin (b := .append) (xs := #[.tmp 85, .tmp 90]) rfl ?_); (try (refine gate_guard (by rfl) ?_; dsimp only)); at_builtin; refine Kd.R_append k36 (w0 := w) w.heap.size rfl (.tmp 85) (.tmp 90) 41 36 (.agg #[(.string ⟨#[]⟩), (.string ⟨#[]⟩), (.bool false)]) 40 rfl Try.underlying41 info36 rfl (by decide) (by omega) u13 x13_3 (⟨(rd_T36 x11_2 x14_3).f0, (rd_T36 x11_2 x14_3).f1, (rd_T36 x11_2 x14_3).f2⟩ : S36) [.string ((rd_T36 x11_2 x14_3).f0), .string ((rd_T36 x11_2 x14_3).f1), .bool ((rd_T36 x11_2 x14_3).f2)] (fun k_ => some k_ ≠ (.slice (some ad248) x11_2.length co28 : Value).ownBlock ∧ k_ ≠ gb221) (fun _ => False) rfl rfl ?aP (fun _ hk => hk.elim) ?aF ?aO ?aB ?aS ?aL ?_; (case aP => exact k36_mkM _ _ _ (⟨(rd_T36 x11_2 x14_3).f0, (rd_T36 x11_2 x14_3).f1, (rd_T36 x11_2 x14_3).f2⟩ : S36)); (case aB => exact (by repeat (first | (with_reducible first | exact HB.out | apply below_alloc | apply pw_below_drewN | apply below_drew1 | refine below_set ?_ GE221.out) | exact HB.out))); (case aF => exact (fun k_ hk => ⟨Kd.fresh' (Kd.R_lt (by (with_reducible repeat (first | apply Kd.R_alloc | apply Kd.R_drewN | apply Kd.R_drew)); exact HO_11.out)) k_ hk, Kd.freshB (g := gb221) (o := .cells #[.string a0_0, .string a0_1, .bool a0_2] 36 (0, 0)) (by (with_reducible repeat (first | refine blk_drewN ?_ _ | refine blk_drew ?_ | refine blk_alloc ?_ _)); exact BK221.out) k_ hk⟩)); (case aO => exact (by (with_reducible repeat (first | apply Kd.R_alloc | apply Kd.R_drewN | apply Kd.R_drew)); exact HO_13.out)); (case aS => exact (below_size (by repeat (first | (with_reducible first | exact HB.out | apply below_alloc | apply pw_below_drewN | apply below_drew1 | refine below_set ?_ GE221.out) | exact HB.out)))); (case aL => have := LMc46.out; omega); intro v250 w48 ho hb hg hat; rw [← Ny249.out] at ho; have n0_ := Aside0.mk (Kd.R_after (ok := (fun k_ => k_ ≠ gb221)) (by (with_reducible repeat (first | apply Kd.R_alloc | apply Kd.R_drewN | apply Kd.R_drew)); exact Kd.R_mono HO_11.out (fun _ hk => ⟨hk.2, hk.1⟩)) hg hat); have n1_ := Aside0.mk (Kd.R_over' (by (with_reducible repeat (first | apply Kd.R_alloc | apply Kd.R_drewN | apply Kd.R_drew)); exact HO_15.out) (Kd.R_typed (by (with_reducible repeat (first | apply Kd.R_alloc | apply Kd.R_drewN | apply Kd.R_drew)); exact HO_13.out)) (by decide) hg); have n2_ := Aside0.mk (blk_grown (g := gb221) (o := .cells #[.string a0_0, .string a0_1, .bool a0_2] 36 (0, 0)) (by (with_reducible repeat (first | refine blk_drewN ?_ _ | refine blk_drew ?_ | refine blk_alloc ?_ _)); exact BK221.out) hg (Kd.R_away HO_13.out (fun _ hk => hk.2))); have n3_ := Aside0.mk (hb); have n4_ := Aside0.mk (ho); clear HO_11; clear HO_15; clear BK221; clear HB; clear HO_13; have HO_11 := n0_; have HO_15 := n1_; have BK221 := n2_; have HB := n3_; have HO251 := n4_; clear n0_ n1_ n2_ n3_ n4_; clear ho hb hg hat))
                                      go_roundg k4
                                      case measure => have := HJ10.out; have := HK2.out; have := HK3.out; have := HK4.out; omega
                                      case rel => exact ⟨(y249), (wrap64 (x14_3 + 1)), (by first | rfl | (simp; done) | (simp [*]; done) | (simp [*, Go.Proofs.Ytcfiobhebakhlaa.Str.bne_nil]; done)), H', ⟨by have := HJ10.out; have := HK2.out; have := HK3.out; have := HK4.out; omega⟩, ⟨by (with_reducible repeat (first | apply Kd.R_alloc | apply Kd.R_drewN | apply Kd.R_drew)); exact Kd.R_mono HO_11.out (fun _ hk => ⟨hk.2, hk.1⟩)⟩, ⟨by (with_reducible repeat (first | apply Kd.R_alloc | apply Kd.R_drewN | apply Kd.R_drew)); exact HO251.out⟩, ⟨by (with_reducible repeat (first | refine blk_drewN ?_ _ | refine blk_drew ?_ | refine blk_alloc ?_ _)); exact BK221.out⟩, ⟨by repeat (first | (with_reducible first | exact HB.out | apply below_alloc | apply pw_below_drewN | apply below_drew1 | refine below_set ?_ GE221.out) | exact HB.out)⟩⟩
                                    · rw [if_neg c46] at H
                                      exact absurd H (by simp)
                                  · rw [if_neg c45] at H
                                    exact absurd H (by simp)
                                · rw [if_neg c44] at H
                                  exact absurd H (by simp)
                              · rw [if_neg c43] at H
                                have c43b0 : decide ((x15_4.length : Int) < 2) = false := decide_eq_false c43
                                have c43b1 : decide (x15_4.length < 2) = false := decide_eq_false (by omega)
                                clear c43
                                by_cases c49 : 0 ≤ x14_3
                                · rw [if_pos c49] at H
                                  have c49b0 : decide (0 ≤ x14_3) = true := decide_eq_true c49
                                  clear c49
                                  by_cases c50 : x14_3 < (x11_2.length : Int)
                                  · rw [if_pos c50] at H
                                    have c50b0 : decide (x14_3 < (x11_2.length : Int)) = true := decide_eq_true c50
                                    clear c50
                                    obtain ⟨ji51, hji51⟩ : ∃ j_ : Int, (mn a2 (x15_4.length : Int)) = j_ := ⟨_, rfl⟩
                                    replace H : ((cuts_Ranges.f k4 ((rd_T36 x11_2 x14_3).f0) ((rd_T36 x11_2 x14_3).f1) ((rd_T36 x11_2 x14_3).f2) x15_4 (ji51)).bind fun bt253 => (if bt253.2 = 0 then (if (bt253.1.length : Int) < 2 then (none) else (if x13_3.length + bt253.1.length < 3518437208883 then (tidelinelaw07_CutsDeep.l1 k4 l1 a2 t227 x11_2 x12_2 (x13_3 ++ bt253.1) (wrap64 (x14_3 + 1)) a0_0 a0_1 a0_2) else (none))) else (none))) = some r := by first | (rw [hji51] at H; exact H) | (simp only [hji51] at H ⊢; exact H)
                                    have hji51_ : (if (x15_4.length : Int) < a2 then (x15_4.length : Int) else a2) = ji51 := hji51
                                    replace H := Option.bind_eq_some_iff.mp H
                                    obtain ⟨⟨t253, t256⟩, A520, H⟩ := H
                                    replace H : (if t256 = 0 then (if (t253.length : Int) < 2 then (none) else (if x13_3.length + t253.length < 3518437208883 then (tidelinelaw07_CutsDeep.l1 k4 l1 a2 t227 x11_2 x12_2 (x13_3 ++ t253) (wrap64 (x14_3 + 1)) a0_0 a0_1 a0_2) else (none))) else (none)) = some r := H
                                    have A52 := Aside0.mk A520
                                    clear A520
                                    by_cases c53 : t256 = 0
                                    · rw [if_pos c53] at H
                                      have c53b0 : (t256 == 0) = true := beq_iff_eq.mpr c53
                                      have c53b1 : (t256 != 0) = false := bne_eq_false_iff_eq.mpr c53
                                      clear c53
                                      by_cases c54 : (t253.length : Int) < 2
                                      · rw [if_pos c54] at H
                                        exact absurd H (by simp)
                                      · rw [if_neg c54] at H
                                        have c54b0 : decide ((t253.length : Int) < 2) = false := decide_eq_false c54
                                        have c54b1 : decide (t253.length < 2) = false := decide_eq_false (by omega)
                                        clear c54
                                        by_cases c55 : x13_3.length + t253.length < 3518437208883
                                        · rw [if_pos c55] at H
                                          have LMc55 := Aside0.mk c55
                                          clear c55
                                          obtain ⟨y257, hy257⟩ : ∃ y_ : List (S36), y_ = (x13_3 ++ t253) := ⟨_, rfl⟩
                                          replace H : (tidelinelaw07_CutsDeep.l1 k4 l1 a2 t227 x11_2 x12_2 y257 (wrap64 (x14_3 + 1)) a0_0 a0_1 a0_2) = some r := by first | (rw [hy257]; with_reducible exact H) | (have H2_ := (Option.bind_some _ _).symm.trans H; rw [hy257]; with_reducible exact H2_) | (have H2_ := (Option.bind_some _ _).symm.trans H; with_reducible exact H2_) | with_reducible exact H | (rw [hy257]; exact H) | exact H
                                          have Ny257 := Aside0.mk hy257
                                          clear hy257
                                          have H' := Aside0.mk H
                                          clear H
                                          obtain ⟨Ao56, co56, eo56⟩ := Kd.R_slice HO_15.out
                                          subst eo56
                                          have p252 : 0 ≤ (x14_3 : Int) := of_decide_eq_true (by first | (with_reducible assumption) | assumption)
                                          have q252 : x14_3 < (x11_2.length : Int) := of_decide_eq_true (by first | (with_reducible assumption) | assumption)
                                          obtain ⟨ad252, e252, hx252_0, hx252_1, hx252_2⟩ := at_T36 (Kd.R_reads' HO_11.out).2.2 x14_3 p252 q252
                                          cases e252
                                          replace p252 := eq_true p252
                                          replace q252 := eq_true q252
                                          go_wp2_with (first | ((with_reducible refine gate_callee (f := 25) rfl ?_); refine goesL_ (some 102) rfl rfl Try.func25 (by kernel_rfl) rfl #[.agg #[.string ((rd_T36 x11_2 x14_3).f0), .string ((rd_T36 x11_2 x14_3).f1), .bool ((rd_T36 x11_2 x14_3).f2)], .slice Ao56 x15_4.length co56, .int .i64 ji51] rfl (by (try simp only [List.map_toArray, List.map_cons, List.map_nil]); first | done | (simp only [hji51]; rfl) | rfl | (simp only [List.length_drop, List.length_take]; rfl)) ?_; (with_reducible refine (cuts_Ranges.calls k4 ((rd_T36 x11_2 x14_3).f0) ((rd_T36 x11_2 x14_3).f1) ((rd_T36 x11_2 x14_3).f2) _ _ x15_4 ji51 t253 t256 _ ?side1 ?side2 A52.out).mono ?_); (case side1 => repeat (first | exact (Kd.R_reads' HO_15.out).2.2 | (with_reducible refine Kd.C_alloc ?_ _) | (with_reducible refine Kd.C_drewN ?_ _) | (with_reducible refine Kd.C_drew ?_))); (case side2 => exact (Kd.R_reads' HO_15.out).2.1); rintro e w57 ⟨v254, rfl, ho0, hb⟩; refine ⟨_, rfl, ?_⟩; have n0_ := Aside0.mk (Kd.R_elder' (by (with_reducible repeat (first | apply Kd.R_alloc | apply Kd.R_drewN | apply Kd.R_drew)); exact HO_11.out) (Kd.R_base ho0) hb); have n1_ := Aside0.mk (Kd.R_elder' (by (with_reducible repeat (first | apply Kd.R_alloc | apply Kd.R_drewN | apply Kd.R_drew)); exact HO_13.out) (Kd.R_base ho0) hb); have n2_ := Aside0.mk (Kd.R_below (by (with_reducible repeat (first | apply Kd.R_alloc | apply Kd.R_drewN | apply Kd.R_drew)); exact HO_15.out) hb); have n3_ := Aside0.mk (Kd.R_lower (Kd.R_newB (Kd.R_new' (Kd.R_new' ho0 (Kd.R_lt (by (with_reducible repeat (first | apply Kd.R_alloc | apply Kd.R_drewN | apply Kd.R_drew)); exact HO_11.out))) (Kd.R_lt (by (with_reducible repeat (first | apply Kd.R_alloc | apply Kd.R_drewN | apply Kd.R_drew)); exact HO_13.out))) (g := gb221) (o := .cells #[.string a0_0, .string a0_1, .bool a0_2] 36 (0, 0)) (by (with_reducible repeat (first | refine blk_drewN ?_ _ | refine blk_drew ?_ | refine blk_alloc ?_ _)); exact BK221.out)) (below_size (by repeat (first | (with_reducible first | exact HB.out | apply below_alloc | apply pw_below_drewN | apply below_drew1 | refine below_set ?_ GE221.out) | exact HB.out)))); have n4_ := Aside0.mk (blk_below (g := gb221) (o := .cells #[.string a0_0, .string a0_1, .bool a0_2] 36 (0, 0)) (by (with_reducible repeat (first | refine blk_drewN ?_ _ | refine blk_drew ?_ | refine blk_alloc ?_ _)); exact BK221.out) hb); have n5_ := Aside0.mk (below_step (by repeat (first | (with_reducible first | exact HB.out | apply below_alloc | apply pw_below_drewN | apply below_drew1 | refine below_set ?_ GE221.out) | exact HB.out)) hb); clear HO_11; clear HO_13; clear HO_15; clear BK221; clear HB; have HO_11 := n0_; have HO_13 := n1_; have HO_15 := n2_; have HO255 := n3_; have BK221 := n4_; have HB := n5_; clear n0_ n1_ n2_ n3_ n4_ n5_; (try clear hb); (try clear hb2); (try clear hk); (try clear hi); (try clear ho0); obtain ⟨Ao58, co58, eo58⟩ := Kd.R_slice HO255.out; subst eo58) | ((with_reducible refine gate_builtin (b := .append) (xs := #[.tmp 112, .tmp 113]) rfl ?_); (try (refine gate_guard (by rfl) ?_; dsimp only)); at_builtin; refine Kd.R_append_rows k36 (w0 := w) w.heap.size rfl (.tmp 112) (.tmp 113) 41 36 (.agg #[(.string ⟨#[]⟩), (.string ⟨#[]⟩), (.bool false)]) 40 rfl Try.underlying41 info36 rfl (by decide) (by omega) u13 x13_3 t253 _ _ _ (fun k_ => some k_ ≠ (.slice (some ad252) x11_2.length co28 : Value).ownBlock ∧ some k_ ≠ (.slice Ao58 t253.length co58 : Value).ownBlock ∧ k_ ≠ gb221) (fun _ => False) rfl rfl ?aO ?aR (fun _ _ h => h) (fun _ h => h.elim) ?aF ?aB ?aS ?aL ?_; (case aR => repeat (first | exact (Kd.R_reads' HO255.out).2.2 | (with_reducible refine Kd.C_alloc ?_ _) | (with_reducible refine Kd.C_drewN ?_ _) | (with_reducible refine Kd.C_drew ?_))); (case aB => exact (by repeat (first | (with_reducible first | exact HB.out | apply below_alloc | apply pw_below_drewN | apply below_drew1 | refine below_set ?_ GE221.out) | exact HB.out))); (case aF => exact (fun k_ hk => ⟨Kd.fresh' (Kd.R_lt (by (with_reducible repeat (first | apply Kd.R_alloc | apply Kd.R_drewN | apply Kd.R_drew)); exact HO_11.out)) k_ hk, Kd.fresh' (Kd.R_lt (by (with_reducible repeat (first | apply Kd.R_alloc | apply Kd.R_drewN | apply Kd.R_drew)); exact HO255.out)) k_ hk, Kd.freshB (g := gb221) (o := .cells #[.string a0_0, .string a0_1, .bool a0_2] 36 (0, 0)) (by (with_reducible repeat (first | refine blk_drewN ?_ _ | refine blk_drew ?_ | refine blk_alloc ?_ _)); exact BK221.out) k_ hk⟩)); (case aO => exact (by (with_reducible repeat (first | apply Kd.R_alloc | apply Kd.R_drewN | apply Kd.R_drew)); exact Kd.R_mono HO_13.out (fun _ hk => ⟨hk.1.1, ⟨hk.2, hk.1.2⟩⟩))); (case aS => exact (below_size (by repeat (first | (with_reducible first | exact HB.out | apply below_alloc | apply pw_below_drewN | apply below_drew1 | refine below_set ?_ GE221.out) | exact HB.out)))); (case aL => have := LMc55.out; omega); intro v258 w59 ho hb hg hat; rw [← Ny257.out] at ho; have n0_ := Aside0.mk (Kd.R_after (ok := (fun k_ => some k_ ≠ (.slice Ao58 t253.length co58 : Value).ownBlock ∧ k_ ≠ gb221)) (by (with_reducible repeat (first | apply Kd.R_alloc | apply Kd.R_drewN | apply Kd.R_drew)); exact Kd.R_mono HO_11.out (fun _ hk => ⟨⟨hk.2, hk.1.2⟩, hk.1.1⟩)) hg hat); have n1_ := Aside0.mk (Kd.R_over' (by (with_reducible repeat (first | apply Kd.R_alloc | apply Kd.R_drewN | apply Kd.R_drew)); exact HO_15.out) (Kd.R_typed (by (with_reducible repeat (first | apply Kd.R_alloc | apply Kd.R_drewN | apply Kd.R_drew)); exact HO_13.out)) (by decide) hg); have n2_ := Aside0.mk (blk_grown (g := gb221) (o := .cells #[.string a0_0, .string a0_1, .bool a0_2] 36 (0, 0)) (by (with_reducible repeat (first | refine blk_drewN ?_ _ | refine blk_drew ?_ | refine blk_alloc ?_ _)); exact BK221.out) hg (Kd.R_away HO_13.out (fun _ hk => hk.1.2))); have n3_ := Aside0.mk (Kd.R_after (ok := (fun k_ => some k_ ≠ (.slice (some ad252) x11_2.length co28 : Value).ownBlock ∧ k_ ≠ gb221)) (by (with_reducible repeat (first | apply Kd.R_alloc | apply Kd.R_drewN | apply Kd.R_drew)); exact Kd.R_mono HO255.out (fun _ hk => ⟨⟨hk.1.1.2, hk.2⟩, hk.1.2⟩)) hg hat); have n4_ := Aside0.mk (hb); have n5_ := Aside0.mk (ho); clear HO_11; clear HO_15; clear BK221; clear HO255; clear HB; clear HO_13; have HO_11 := n0_; have HO_15 := n1_; have BK221 := n2_; have HO255 := n3_; have HB := n4_; have HO259 := n5_; clear n0_ n1_ n2_ n3_ n4_ n5_; clear ho hb hg hat))
                                          go_roundg k4
                                          case measure => have := HJ10.out; have := HK2.out; have := HK3.out; have := HK4.out; omega
                                          case rel => exact ⟨(y257), (wrap64 (x14_3 + 1)), (by first | rfl | (simp; done) | (simp [*]; done) | (simp [*, Go.Proofs.Ytcfiobhebakhlaa.Str.bne_nil]; done)), H', ⟨by have := HJ10.out; have := HK2.out; have := HK3.out; have := HK4.out; omega⟩, ⟨by (with_reducible repeat (first | apply Kd.R_alloc | apply Kd.R_drewN | apply Kd.R_drew)); exact Kd.R_mono HO_11.out (fun _ hk => ⟨hk.2, hk.1.2⟩)⟩, ⟨by (with_reducible repeat (first | apply Kd.R_alloc | apply Kd.R_drewN | apply Kd.R_drew)); exact Kd.R_mono HO259.out (fun _ hk => ⟨hk.1, hk.2.2⟩)⟩, ⟨by (with_reducible repeat (first | refine blk_drewN ?_ _ | refine blk_drew ?_ | refine blk_alloc ?_ _)); exact BK221.out⟩, ⟨by repeat (first | (with_reducible first | exact HB.out | apply below_alloc | apply pw_below_drewN | apply below_drew1 | refine below_set ?_ GE221.out) | exact HB.out)⟩⟩
                                        · rw [if_neg c55] at H
                                          exact absurd H (by simp)
                                    · rw [if_neg c53] at H
                                      exact absurd H (by simp)
                                  · rw [if_neg c50] at H
                                    exact absurd H (by simp)
                                · rw [if_neg c49] at H
                                  exact absurd H (by simp)
                      · rw [if_neg c27] at H
                        have c27b0 : decide (x14_3 < (x11_2.length : Int)) = false := decide_eq_false c27
                        clear c27
                        have H' := Aside0.mk H
                        clear H
                        obtain ⟨Ao60, co60, eo60⟩ := Kd.R_slice HO_11.out
                        subst eo60
                        go_wp2
                        go_roundg k3
                        case measure => have := HJ10.out; have := HK2.out; have := HK3.out; omega
                        case rel => exact ⟨(x13_3), (wrap64 (x12_2 + 1)), (by first | rfl | (simp; done) | (simp [*]; done) | (simp [*, Go.Proofs.Ytcfiobhebakhlaa.Str.bne_nil]; done)), H', ⟨by have := HJ10.out; have := HK2.out; have := HK3.out; omega⟩, ⟨by (with_reducible repeat (first | apply Kd.R_alloc | apply Kd.R_drewN | apply Kd.R_drew)); exact Kd.R_mono HO_13.out (fun _ hk => hk.2)⟩, ⟨by (with_reducible repeat (first | refine blk_drewN ?_ _ | refine blk_drew ?_ | refine blk_alloc ?_ _)); exact BK221.out⟩, ⟨by repeat (first | (with_reducible first | exact HB.out | apply below_alloc | apply pw_below_drewN | apply below_drew1 | refine below_set ?_ GE221.out) | exact HB.out)⟩⟩
                · rw [if_neg c24] at H
                  have c24b0 : decide (x12_2 < t227) = false := decide_eq_false c24
                  clear c24
                  have H' := Aside0.mk H
                  clear H
                  go_wp2
                  go_loopg [19] k2 (fun kq v19 w' => ∃ (x19_3 : Int), v19 = .int .i64 x19_3 ∧ Aside0 (tidelinelaw07_CutsDeep.l3 kq l1 x11_2 x19_3 a0_0 a0_1 a0_2 = some r) ∧ Aside0 (kq ≤ k2) ∧ Aside0 (Kd.R k36 36 w' w.heap.size (fun k_ => k_ ≠ gb221) u11 x11_2) ∧ Aside0 (w'.heap[gb221]? = some (.cells #[.string a0_0, .string a0_1, .bool a0_2] 36 (0, 0))) ∧ Aside0 (Below w.heap.size w w'))
                  case atStart => exact ⟨(0), (by first | rfl | (simp; done) | (simp [*]; done) | (simp [*, Go.Proofs.Ytcfiobhebakhlaa.Str.bne_nil]; done)), H', ⟨Nat.le_refl _⟩, ⟨by (with_reducible repeat (first | apply Kd.R_alloc | apply Kd.R_drewN | apply Kd.R_drew)); exact HO_11.out⟩, ⟨by (with_reducible repeat (first | refine blk_drewN ?_ _ | refine blk_drew ?_ | refine blk_alloc ?_ _)); exact BK221.out⟩, ⟨by repeat (first | (with_reducible first | exact HB.out | apply below_alloc | apply pw_below_drewN | apply below_drew1 | refine below_set ?_ GE221.out) | exact HB.out)⟩⟩
                  case round =>
                    clear H'
                    try clear c1
                    try clear c2
                    try clear p2
                    try clear q2
                    try clear hx2
                    try clear c3
                    try clear c4
                    try clear c5
                    try clear p6
                    try clear c8
                    try clear c14
                    try clear c17
                    try clear c17b0
                    try clear c17b1
                    try clear c18
                    try clear c19
                    try clear c21
                    try clear c24
                    try clear c24b0
                    try clear p24
                    try clear q24
                    try clear hx24
                    try clear c25
                    try clear p25
                    try clear q25
                    try clear hx25
                    try clear c26
                    try clear c27
                    try clear c27b0
                    try clear c28
                    try clear c31
                    try clear c31b0
                    try clear c32
                    try clear c32b0
                    try clear c33
                    try clear c33b0
                    try clear c34
                    try clear c34b0
                    try clear c36
                    try clear c37
                    try clear c43
                    try clear c43b0
                    try clear c43b1
                    try clear c44
                    try clear c44b0
                    try clear c45
                    try clear c45b0
                    try clear c46
                    try clear c49
                    try clear c49b0
                    try clear c50
                    try clear c50b0
                    try clear c53
                    try clear c53b0
                    try clear c53b1
                    try clear c54
                    try clear c54b0
                    try clear c54b1
                    try clear c55
                    try clear hcz13_0
                    try clear hcz13_1
                    try clear hcz13_2
                    try clear hcz15_0
                    try clear hcz15_1
                    try clear hcz15_2
                    try clear hcz22_0
                    try clear hcz22_1
                    try clear hcz22_2
                    try clear hcz7_0
                    try clear hcz7_1
                    try clear hcz7_2
                    try clear hfz13_0
                    try clear hfz13_1
                    try clear hfz13_2
                    try clear hfz15_0
                    try clear hfz15_1
                    try clear hfz15_2
                    try clear hfz22_0
                    try clear hfz22_1
                    try clear hfz22_2
                    try clear hfz7_0
                    try clear hfz7_1
                    try clear hfz7_2
                    try clear hx241_0
                    try clear hx241_1
                    try clear hx241_2
                    try clear hx242_0
                    try clear hx244_0
                    try clear hx248_0
                    try clear hx248_1
                    try clear hx248_2
                    try clear hx252_0
                    try clear hx252_1
                    try clear hx252_2
                    try clear p2
                    try clear p241
                    try clear p242
                    try clear p244
                    try clear p248
                    try clear p252
                    try clear q241
                    try clear q242
                    try clear q244
                    try clear q248
                    try clear q252
                    obtain ⟨x19_3, rfl, HA, HK3, HO_11, BK221, HB⟩ := hrel
                    cases gk with
                    | zero => exact absurd HA.out (by simp [tidelinelaw07_CutsDeep.l3])
                    | succ k3 =>
                      have H := HA.out
                      clear HA
                      simp only [tidelinelaw07_CutsDeep.l3] at H
                      by_cases c61 : x19_3 < (x11_2.length : Int)
                      · rw [if_pos c61] at H
                        have c61b0 : decide (x19_3 < (x11_2.length : Int)) = true := decide_eq_true c61
                        clear c61
                        have H' := Aside0.mk H
                        clear H
                        obtain ⟨Ao62, co62, eo62⟩ := Kd.R_slice HO_11.out
                        subst eo62
                        go_wp2
                        go_loopg [20, 21] k3 (fun kq v20 v21 w' => ∃ (x20_4 : Int) (x21_4 : Int), v20 = .int .i64 x20_4 ∧ v21 = .int .i64 x21_4 ∧ Aside0 (tidelinelaw07_CutsDeep.l4 kq l1 x11_2 x19_3 x20_4 x21_4 a0_0 a0_1 a0_2 = some r) ∧ Aside0 (kq ≤ k3) ∧ Aside0 (Kd.R k36 36 w' w.heap.size (fun k_ => k_ ≠ gb221) (.slice Ao62 x11_2.length co62) x11_2) ∧ Aside0 (w'.heap[gb221]? = some (.cells #[.string a0_0, .string a0_1, .bool a0_2] 36 (0, 0))) ∧ Aside0 (Below w.heap.size w w'))
                        case atStart => exact ⟨(0), (0), (by first | rfl | (simp; done) | (simp [*]; done) | (simp [*, Go.Proofs.Ytcfiobhebakhlaa.Str.bne_nil]; done)), (by first | rfl | (simp; done) | (simp [*]; done) | (simp [*, Go.Proofs.Ytcfiobhebakhlaa.Str.bne_nil]; done)), H', ⟨Nat.le_refl _⟩, ⟨by (with_reducible repeat (first | apply Kd.R_alloc | apply Kd.R_drewN | apply Kd.R_drew)); exact HO_11.out⟩, ⟨by (with_reducible repeat (first | refine blk_drewN ?_ _ | refine blk_drew ?_ | refine blk_alloc ?_ _)); exact BK221.out⟩, ⟨by repeat (first | (with_reducible first | exact HB.out | apply below_alloc | apply pw_below_drewN | apply below_drew1 | refine below_set ?_ GE221.out) | exact HB.out)⟩⟩
                        case round =>
                          clear H'
                          try clear c1
                          try clear c2
                          try clear p2
                          try clear q2
                          try clear hx2
                          try clear c3
                          try clear c4
                          try clear c5
                          try clear c6
                          try clear p6
                          try clear c8
                          try clear c14
                          try clear c17
                          try clear c17b0
                          try clear c17b1
                          try clear c18
                          try clear c19
                          try clear c21
                          try clear c24
                          try clear c24b0
                          try clear p24
                          try clear q24
                          try clear hx24
                          try clear c25
                          try clear p25
                          try clear q25
                          try clear hx25
                          try clear c26
                          try clear c27
                          try clear c27b0
                          try clear c28
                          try clear c31
                          try clear c31b0
                          try clear c32
                          try clear c32b0
                          try clear c33
                          try clear c33b0
                          try clear c34
                          try clear c34b0
                          try clear c36
                          try clear c37
                          try clear c43
                          try clear c43b0
                          try clear c43b1
                          try clear c44
                          try clear c44b0
                          try clear c45
                          try clear c45b0
                          try clear c46
                          try clear c49
                          try clear c49b0
                          try clear c50
                          try clear c50b0
                          try clear c53
                          try clear c53b0
                          try clear c53b1
                          try clear c54
                          try clear c54b0
                          try clear c54b1
                          try clear c55
                          try clear c61
                          try clear c61b0
                          try clear hcz13_0
                          try clear hcz13_1
                          try clear hcz13_2
                          try clear hcz15_0
                          try clear hcz15_1
                          try clear hcz15_2
                          try clear hcz22_0
                          try clear hcz22_1
                          try clear hcz22_2
                          try clear hcz7_0
                          try clear hcz7_1
                          try clear hcz7_2
                          try clear hfz13_0
                          try clear hfz13_1
                          try clear hfz13_2
                          try clear hfz15_0
                          try clear hfz15_1
                          try clear hfz15_2
                          try clear hfz22_0
                          try clear hfz22_1
                          try clear hfz22_2
                          try clear hfz7_0
                          try clear hfz7_1
                          try clear hfz7_2
                          try clear hx241_0
                          try clear hx241_1
                          try clear hx241_2
                          try clear hx242_0
                          try clear hx244_0
                          try clear hx248_0
                          try clear hx248_1
                          try clear hx248_2
                          try clear hx252_0
                          try clear hx252_1
                          try clear hx252_2
                          try clear p2
                          try clear p24
                          try clear p241
                          try clear p242
                          try clear p244
                          try clear p248
                          try clear p25
                          try clear p252
                          try clear p6
                          try clear q2
                          try clear q24
                          try clear q241
                          try clear q242
                          try clear q244
                          try clear q248
                          try clear q25
                          try clear q252
                          obtain ⟨x20_4, x21_4, rfl, rfl, HA, HK4, HO_11, BK221, HB⟩ := hrel
                          cases gk with
                          | zero => exact absurd HA.out (by simp [tidelinelaw07_CutsDeep.l4])
                          | succ k4 =>
                            have H := HA.out
                            clear HA
                            simp only [tidelinelaw07_CutsDeep.l4] at H
                            by_cases c63 : x21_4 < (l1.length : Int)
                            · rw [if_pos c63] at H
                              have c63b0 : decide (x21_4 < (l1.length : Int)) = true := decide_eq_true c63
                              clear c63
                              by_cases c64 : 0 ≤ x19_3
                              · rw [if_pos c64] at H
                                have c64b0 : decide (0 ≤ x19_3) = true := decide_eq_true c64
                                clear c64
                                by_cases c65 : x19_3 < (x11_2.length : Int)
                                · rw [if_pos c65] at H
                                  have c65b0 : decide (x19_3 < (x11_2.length : Int)) = true := decide_eq_true c65
                                  clear c65
                                  by_cases c66 : 0 ≤ x21_4
                                  · rw [if_pos c66] at H
                                    have c66b0 : decide (0 ≤ x21_4) = true := decide_eq_true c66
                                    clear c66
                                    replace H := Option.bind_eq_some_iff.mp H
                                    obtain ⟨t263, A670, H⟩ := H
                                    replace H : (if t263 = true then (tidelinelaw07_CutsDeep.l4 k4 l1 x11_2 x19_3 (wrap64 (x20_4 + 1)) (wrap64 (x21_4 + 1)) a0_0 a0_1 a0_2) else (tidelinelaw07_CutsDeep.l4 k4 l1 x11_2 x19_3 x20_4 (wrap64 (x21_4 + 1)) a0_0 a0_1 a0_2)) = some r := H
                                    have A67 := Aside0.mk A670
                                    clear A670
                                    by_cases c68 : t263 = true
                                    · subst c68
                                      have H1 : (tidelinelaw07_CutsDeep.l4 k4 l1 x11_2 x19_3 (wrap64 (x20_4 + 1)) (wrap64 (x21_4 + 1)) a0_0 a0_1 a0_2) = some r := by rw [if_pos rfl] at H; exact H
                                      clear H
                                      have H := H1
                                      clear H1
                                      have H' := Aside0.mk H
                                      clear H
                                      try go_wp2
                                      have n0_ := Aside0.mk (Kd.R_drew HO_11.out)
                                      have n1_ := Aside0.mk (blk_drew BK221.out)
                                      have n2_ := Aside0.mk (below_drew1 HB.out)
                                      clear HO_11
                                      clear BK221
                                      clear HB
                                      have HO_11 := n0_
                                      have BK221 := n1_
                                      have HB := n2_
                                      clear n0_ n1_ n2_
                                      have p261 : 0 ≤ (x19_3 : Int) := of_decide_eq_true (by first | (with_reducible assumption) | assumption)
                                      have q261 : x19_3 < (x11_2.length : Int) := of_decide_eq_true (by first | (with_reducible assumption) | assumption)
                                      obtain ⟨ad261, e261, hx261_0, hx261_1, hx261_2⟩ := at_T36 (Kd.R_reads' HO_11.out).2.2 x19_3 p261 q261
                                      cases e261
                                      replace p261 := eq_true p261
                                      replace q261 := eq_true q261
                                      have p262 : 0 ≤ (x21_4 : Int) := of_decide_eq_true (by first | (with_reducible assumption) | assumption)
                                      have q262 : x21_4 < (l1.length : Int) := of_decide_eq_true (by first | (with_reducible assumption) | assumption)
                                      obtain ⟨ad262, e262, hx262_0⟩ := Kd.at_string HR1.out x21_4 p262 q262
                                      have hw262_0 := hx262_0
                                      cases e262
                                      replace hx262_0 := (HB.out.cell (World.block_lt_of_cell? w _ hx262_0)).trans hx262_0
                                      replace p262 := eq_true p262
                                      replace q262 := eq_true q262
                                      refine start_ (n := 9) (S := fun w' => w'.cell? (ad261.add ((x19_3).toNat * 3)) = some (.string ((rd_T36 x11_2 x19_3).f0)) ∧ w'.cell? ⟨(ad261.add ((x19_3).toNat * 3)).block, (ad261.add ((x19_3).toNat * 3)).off + 1, none⟩ = some (.string ((rd_T36 x11_2 x19_3).f1)) ∧ w'.cell? ⟨(ad261.add ((x19_3).toNat * 3)).block, (ad261.add ((x19_3).toNat * 3)).off + 2, none⟩ = some (.bool ((rd_T36 x11_2 x19_3).f2)) ∧ w'.cell? (ad262.add (x21_4).toNat) = some (.string (rdOf ByteArray.empty l1 x21_4))) (ds := []) #[false, false, false, false, false, false, false, false, false] (by kernel_rfl) rfl rfl ⟨hx261_0, hx261_1, hx261_2, ((HB.out.cell (World.block_lt_of_cell? w _ hw262_0)).trans hw262_0)⟩ (fun hHeld => ?_); refine with_tabW tidelinelaw07_CutsDeep.tab36 tidelinelaw07_CutsDeep.bits36 (fun HT_ HW_ => ?_)
                                      generalize wr.drew = w69 at HO_11 BK221 HB hx261_0 hx261_1 hx261_2 hx262_0 hHeld ⊢
                                      refine pure_ (i := 0) (N := some 128) (v := ?_) (a' := ?_) #[true, false, false, false, false, false, false, false, false] rfl rfl (any_of HT_.out (by kernel_rfl)) (fun _ _ _ h => h) (Or.inl ⟨by rfl, ?_⟩) ?_ ?_
                                      rotate_left
                                      · intro w'
                                        go_simp
                                        with_reducible rfl
                                      rotate_left
                                      · simp only [Act.put, List.setIfInBounds_toArray, List.set_cons_zero, List.set_cons_succ, i64_w, i32_w]
                                        rfl
                                      refine pure_ (i := 1) (N := some 129) (v := ?_) (a' := ?_) #[true, true, false, false, false, false, false, false, false] rfl rfl (any_of HT_.out (by kernel_rfl)) (fun _ _ _ h => h) (Or.inl ⟨by rfl, ?_⟩) ?_ ?_
                                      rotate_left
                                      · intro w'
                                        go_simp
                                        with_reducible rfl
                                      rotate_left
                                      · simp only [Act.put, List.setIfInBounds_toArray, List.set_cons_zero, List.set_cons_succ, i64_w, i32_w]
                                        rfl
                                      refine pure_ (i := 2) (N := some 130) (v := ?_) (a' := ?_) #[true, true, true, false, false, false, false, false, false] rfl rfl (any_of HT_.out (by kernel_rfl)) (fun _ _ _ h => h) (Or.inl ⟨by rfl, ?_⟩) ?_ ?_
                                      rotate_left
                                      · intro w'
                                        go_simp
                                        with_reducible rfl
                                      rotate_left
                                      · simp only [Act.put, List.setIfInBounds_toArray, List.set_cons_zero, List.set_cons_succ, i64_w, i32_w]
                                        rfl
                                      refine pure_ (i := 4) (N := some 132) (v := ?_) (a' := ?_) #[true, true, true, false, true, false, false, false, false] rfl rfl (any_of HT_.out (by kernel_rfl)) (fun _ _ _ h => h) (Or.inl ⟨by rfl, ?_⟩) ?_ ?_
                                      rotate_left
                                      · intro w'
                                        go_simp
                                        with_reducible rfl
                                      rotate_left
                                      · simp only [Act.put, List.setIfInBounds_toArray, List.set_cons_zero, List.set_cons_succ, i64_w, i32_w]
                                        rfl
                                      refine pure_ (i := 5) (N := some 133) (v := ?_) (a' := ?_) #[true, true, true, false, true, true, false, false, false] rfl rfl (any_of HT_.out (by kernel_rfl)) (fun _ _ _ h => h) (Or.inl ⟨by rfl, ?_⟩) ?_ ?_
                                      rotate_left
                                      · intro w'
                                        go_simp
                                        with_reducible rfl
                                      rotate_left
                                      · simp only [Act.put, List.setIfInBounds_toArray, List.set_cons_zero, List.set_cons_succ, i64_w, i32_w]
                                        rfl
                                      refine pure_ (i := 6) (N := some 134) (v := ?_) (a' := ?_) #[true, true, true, false, true, true, true, false, false] rfl rfl (any_of HT_.out (by kernel_rfl)) (fun _ _ _ h => h) (Or.inl ⟨by rfl, ?_⟩) ?_ ?_
                                      rotate_left
                                      · intro w'
                                        go_simp
                                        with_reducible rfl
                                      rotate_left
                                      · simp only [Act.put, List.setIfInBounds_toArray, List.set_cons_zero, List.set_cons_succ, i64_w, i32_w]
                                        rfl
                                      refine take_ (i := 3) (N := some 131) (v := ?_) (a' := ?_) #[true, true, true, true, true, true, true, false, false] rfl rfl (take_ofW HT_.out HW_.out (by kernel_rfl)) (fun _ _ _ h => h) (Or.inl ⟨by rfl, ?_⟩) hHeld ?_ ?_
                                      rotate_left
                                      · rintro w' ⟨s0, s1, s2, s3⟩
                                        go_simp
                                        with_reducible rfl
                                      rotate_left
                                      · simp only [Act.put, List.setIfInBounds_toArray, List.set_cons_zero, List.set_cons_succ, i64_w, i32_w]
                                        rfl
                                      refine take_ (i := 7) (N := some 135) (v := ?_) (a' := ?_) #[true, true, true, true, true, true, true, true, false] rfl rfl (take_ofW HT_.out HW_.out (by kernel_rfl)) (fun _ _ _ h => h) (Or.inl ⟨by rfl, ?_⟩) hHeld ?_ ?_
                                      rotate_left
                                      · rintro w' ⟨s0, s1, s2, s3⟩
                                        go_simp
                                        with_reducible rfl
                                      rotate_left
                                      · simp only [Act.put, List.setIfInBounds_toArray, List.set_cons_zero, List.set_cons_succ, i64_w, i32_w]
                                        rfl
                                      refine one_ (i := 8) (N := some 136) #[true, true, true, true, true, true, true, true, true] rfl rfl (one_of HT_.out (by kernel_rfl)) (by decide) (fun K hK => ?_)
                                      refine goes_ Try.func28 (by kernel_rfl) rfl #[.agg #[.string ((rd_T36 x11_2 x19_3).f0), .string ((rd_T36 x11_2 x19_3).f1), .bool ((rd_T36 x11_2 x19_3).f2)], .string (rdOf ByteArray.empty l1 x21_4)] (by rfl) rfl rfl (by (try simp only [List.map_toArray, List.map_cons, List.map_nil]); first | done | rfl | (simp only [List.length_drop, List.length_take]; rfl)) ?_
                                      with_reducible refine (span_Holds.calls k4 ((rd_T36 x11_2 x19_3).f0) ((rd_T36 x11_2 x19_3).f1) ((rd_T36 x11_2 x19_3).f2) (rdOf ByteArray.empty l1 x21_4) true _ A67.out).mono ?_
                                      rintro e w70 ⟨rfl, hb⟩
                                      have HS0_ := (hb.cell (World.block_lt_of_cell? _ _ (hHeld.1))).trans (hHeld.1)
                                      have HS1_ := (hb.cell (World.block_lt_of_cell? _ _ (hHeld.2.1))).trans (hHeld.2.1)
                                      have HS2_ := (hb.cell (World.block_lt_of_cell? _ _ (hHeld.2.2.1))).trans (hHeld.2.2.1)
                                      refine ⟨_, rfl, ?_⟩
                                      have n0_ := Aside0.mk (Kd.R_below (by (with_reducible repeat (first | apply Kd.R_alloc | apply Kd.R_drewN | apply Kd.R_drew)); exact HO_11.out) hb)
                                      have n1_ := Aside0.mk (blk_below (g := gb221) (o := .cells #[.string a0_0, .string a0_1, .bool a0_2] 36 (0, 0)) (by (with_reducible repeat (first | refine blk_drewN ?_ _ | refine blk_drew ?_ | refine blk_alloc ?_ _)); exact BK221.out) hb)
                                      have n2_ := Aside0.mk (below_step (by repeat (first | (with_reducible first | exact HB.out | apply below_alloc | apply pw_below_drewN | apply below_drew1 | refine below_set ?_ GE221.out) | exact HB.out)) hb)
                                      clear HO_11
                                      clear BK221
                                      clear HB
                                      have HO_11 := n0_
                                      have BK221 := n1_
                                      have HB := n2_
                                      clear n0_ n1_ n2_
                                      (try clear hb)
                                      (try clear hb2)
                                      (try clear hk)
                                      (try clear hi)
                                      refine hK.out _ _ ⟨HS0_, HS1_, HS2_, ((HB.out.cell (World.block_lt_of_cell? w _ hw262_0)).trans hw262_0)⟩ (fun hHeld => ?_)
                                      clear hK K
                                      refine norm_ (a' := ?_) ?_ ?_
                                      rotate_left
                                      · show Act.put _ (some 136) _ = _
                                        simp only [Act.put, List.setIfInBounds_toArray, List.set_cons_zero, List.set_cons_succ, i64_w, i32_w]
                                        rfl
                                      refine done_ (done_of HT_.out (by kernel_rfl)) ?_
                                      try go_wp2
                                      go_roundg k4
                                      case measure => have := HJ10.out; have := HK2.out; have := HK3.out; have := HK4.out; omega
                                      case rel => exact ⟨(wrap64 (x20_4 + 1)), (wrap64 (x21_4 + 1)), (by first | rfl | (simp; done) | (simp [*]; done) | (simp [*, Go.Proofs.Ytcfiobhebakhlaa.Str.bne_nil]; done)), (by first | rfl | (simp; done) | (simp [*]; done) | (simp [*, Go.Proofs.Ytcfiobhebakhlaa.Str.bne_nil]; done)), H', ⟨by have := HJ10.out; have := HK2.out; have := HK3.out; have := HK4.out; omega⟩, ⟨by (with_reducible repeat (first | apply Kd.R_alloc | apply Kd.R_drewN | apply Kd.R_drew)); exact HO_11.out⟩, ⟨by (with_reducible repeat (first | refine blk_drewN ?_ _ | refine blk_drew ?_ | refine blk_alloc ?_ _)); exact BK221.out⟩, ⟨by repeat (first | (with_reducible first | exact HB.out | apply below_alloc | apply pw_below_drewN | apply below_drew1 | refine below_set ?_ GE221.out) | exact HB.out)⟩⟩
                                    · replace c68 := Bool.eq_false_iff.mpr c68
                                      subst c68
                                      have H1 : (tidelinelaw07_CutsDeep.l4 k4 l1 x11_2 x19_3 x20_4 (wrap64 (x21_4 + 1)) a0_0 a0_1 a0_2) = some r := by rw [if_neg (show ¬ (false = true) by decide)] at H; exact H
                                      clear H
                                      have H := H1
                                      clear H1
                                      have H' := Aside0.mk H
                                      clear H
                                      try go_wp2
                                      have n0_ := Aside0.mk (Kd.R_drew HO_11.out)
                                      have n1_ := Aside0.mk (blk_drew BK221.out)
                                      have n2_ := Aside0.mk (below_drew1 HB.out)
                                      clear HO_11
                                      clear BK221
                                      clear HB
                                      have HO_11 := n0_
                                      have BK221 := n1_
                                      have HB := n2_
                                      clear n0_ n1_ n2_
                                      have p261 : 0 ≤ (x19_3 : Int) := of_decide_eq_true (by first | (with_reducible assumption) | assumption)
                                      have q261 : x19_3 < (x11_2.length : Int) := of_decide_eq_true (by first | (with_reducible assumption) | assumption)
                                      obtain ⟨ad261, e261, hx261_0, hx261_1, hx261_2⟩ := at_T36 (Kd.R_reads' HO_11.out).2.2 x19_3 p261 q261
                                      cases e261
                                      replace p261 := eq_true p261
                                      replace q261 := eq_true q261
                                      have p262 : 0 ≤ (x21_4 : Int) := of_decide_eq_true (by first | (with_reducible assumption) | assumption)
                                      have q262 : x21_4 < (l1.length : Int) := of_decide_eq_true (by first | (with_reducible assumption) | assumption)
                                      obtain ⟨ad262, e262, hx262_0⟩ := Kd.at_string HR1.out x21_4 p262 q262
                                      have hw262_0 := hx262_0
                                      cases e262
                                      replace hx262_0 := (HB.out.cell (World.block_lt_of_cell? w _ hx262_0)).trans hx262_0
                                      replace p262 := eq_true p262
                                      replace q262 := eq_true q262
                                      refine start_ (n := 9) (S := fun w' => w'.cell? (ad261.add ((x19_3).toNat * 3)) = some (.string ((rd_T36 x11_2 x19_3).f0)) ∧ w'.cell? ⟨(ad261.add ((x19_3).toNat * 3)).block, (ad261.add ((x19_3).toNat * 3)).off + 1, none⟩ = some (.string ((rd_T36 x11_2 x19_3).f1)) ∧ w'.cell? ⟨(ad261.add ((x19_3).toNat * 3)).block, (ad261.add ((x19_3).toNat * 3)).off + 2, none⟩ = some (.bool ((rd_T36 x11_2 x19_3).f2)) ∧ w'.cell? (ad262.add (x21_4).toNat) = some (.string (rdOf ByteArray.empty l1 x21_4))) (ds := []) #[false, false, false, false, false, false, false, false, false] (by kernel_rfl) rfl rfl ⟨hx261_0, hx261_1, hx261_2, ((HB.out.cell (World.block_lt_of_cell? w _ hw262_0)).trans hw262_0)⟩ (fun hHeld => ?_); refine with_tabW tidelinelaw07_CutsDeep.tab36 tidelinelaw07_CutsDeep.bits36 (fun HT_ HW_ => ?_)
                                      generalize wr.drew = w71 at HO_11 BK221 HB hx261_0 hx261_1 hx261_2 hx262_0 hHeld ⊢
                                      refine pure_ (i := 0) (N := some 128) (v := ?_) (a' := ?_) #[true, false, false, false, false, false, false, false, false] rfl rfl (any_of HT_.out (by kernel_rfl)) (fun _ _ _ h => h) (Or.inl ⟨by rfl, ?_⟩) ?_ ?_
                                      rotate_left
                                      · intro w'
                                        go_simp
                                        with_reducible rfl
                                      rotate_left
                                      · simp only [Act.put, List.setIfInBounds_toArray, List.set_cons_zero, List.set_cons_succ, i64_w, i32_w]
                                        rfl
                                      refine pure_ (i := 1) (N := some 129) (v := ?_) (a' := ?_) #[true, true, false, false, false, false, false, false, false] rfl rfl (any_of HT_.out (by kernel_rfl)) (fun _ _ _ h => h) (Or.inl ⟨by rfl, ?_⟩) ?_ ?_
                                      rotate_left
                                      · intro w'
                                        go_simp
                                        with_reducible rfl
                                      rotate_left
                                      · simp only [Act.put, List.setIfInBounds_toArray, List.set_cons_zero, List.set_cons_succ, i64_w, i32_w]
                                        rfl
                                      refine pure_ (i := 2) (N := some 130) (v := ?_) (a' := ?_) #[true, true, true, false, false, false, false, false, false] rfl rfl (any_of HT_.out (by kernel_rfl)) (fun _ _ _ h => h) (Or.inl ⟨by rfl, ?_⟩) ?_ ?_
                                      rotate_left
                                      · intro w'
                                        go_simp
                                        with_reducible rfl
                                      rotate_left
                                      · simp only [Act.put, List.setIfInBounds_toArray, List.set_cons_zero, List.set_cons_succ, i64_w, i32_w]
                                        rfl
                                      refine pure_ (i := 4) (N := some 132) (v := ?_) (a' := ?_) #[true, true, true, false, true, false, false, false, false] rfl rfl (any_of HT_.out (by kernel_rfl)) (fun _ _ _ h => h) (Or.inl ⟨by rfl, ?_⟩) ?_ ?_
                                      rotate_left
                                      · intro w'
                                        go_simp
                                        with_reducible rfl
                                      rotate_left
                                      · simp only [Act.put, List.setIfInBounds_toArray, List.set_cons_zero, List.set_cons_succ, i64_w, i32_w]
                                        rfl
                                      refine pure_ (i := 5) (N := some 133) (v := ?_) (a' := ?_) #[true, true, true, false, true, true, false, false, false] rfl rfl (any_of HT_.out (by kernel_rfl)) (fun _ _ _ h => h) (Or.inl ⟨by rfl, ?_⟩) ?_ ?_
                                      rotate_left
                                      · intro w'
                                        go_simp
                                        with_reducible rfl
                                      rotate_left
                                      · simp only [Act.put, List.setIfInBounds_toArray, List.set_cons_zero, List.set_cons_succ, i64_w, i32_w]
                                        rfl
                                      refine pure_ (i := 6) (N := some 134) (v := ?_) (a' := ?_) #[true, true, true, false, true, true, true, false, false] rfl rfl (any_of HT_.out (by kernel_rfl)) (fun _ _ _ h => h) (Or.inl ⟨by rfl, ?_⟩) ?_ ?_
                                      rotate_left
                                      · intro w'
                                        go_simp
                                        with_reducible rfl
                                      rotate_left
                                      · simp only [Act.put, List.setIfInBounds_toArray, List.set_cons_zero, List.set_cons_succ, i64_w, i32_w]
                                        rfl
                                      refine take_ (i := 3) (N := some 131) (v := ?_) (a' := ?_) #[true, true, true, true, true, true, true, false, false] rfl rfl (take_ofW HT_.out HW_.out (by kernel_rfl)) (fun _ _ _ h => h) (Or.inl ⟨by rfl, ?_⟩) hHeld ?_ ?_
                                      rotate_left
                                      · rintro w' ⟨s0, s1, s2, s3⟩
                                        go_simp
                                        with_reducible rfl
                                      rotate_left
                                      · simp only [Act.put, List.setIfInBounds_toArray, List.set_cons_zero, List.set_cons_succ, i64_w, i32_w]
                                        rfl
                                      refine take_ (i := 7) (N := some 135) (v := ?_) (a' := ?_) #[true, true, true, true, true, true, true, true, false] rfl rfl (take_ofW HT_.out HW_.out (by kernel_rfl)) (fun _ _ _ h => h) (Or.inl ⟨by rfl, ?_⟩) hHeld ?_ ?_
                                      rotate_left
                                      · rintro w' ⟨s0, s1, s2, s3⟩
                                        go_simp
                                        with_reducible rfl
                                      rotate_left
                                      · simp only [Act.put, List.setIfInBounds_toArray, List.set_cons_zero, List.set_cons_succ, i64_w, i32_w]
                                        rfl
                                      refine one_ (i := 8) (N := some 136) #[true, true, true, true, true, true, true, true, true] rfl rfl (one_of HT_.out (by kernel_rfl)) (by decide) (fun K hK => ?_)
                                      refine goes_ Try.func28 (by kernel_rfl) rfl #[.agg #[.string ((rd_T36 x11_2 x19_3).f0), .string ((rd_T36 x11_2 x19_3).f1), .bool ((rd_T36 x11_2 x19_3).f2)], .string (rdOf ByteArray.empty l1 x21_4)] (by rfl) rfl rfl (by (try simp only [List.map_toArray, List.map_cons, List.map_nil]); first | done | rfl | (simp only [List.length_drop, List.length_take]; rfl)) ?_
                                      with_reducible refine (span_Holds.calls k4 ((rd_T36 x11_2 x19_3).f0) ((rd_T36 x11_2 x19_3).f1) ((rd_T36 x11_2 x19_3).f2) (rdOf ByteArray.empty l1 x21_4) false _ A67.out).mono ?_
                                      rintro e w72 ⟨rfl, hb⟩
                                      have HS0_ := (hb.cell (World.block_lt_of_cell? _ _ (hHeld.1))).trans (hHeld.1)
                                      have HS1_ := (hb.cell (World.block_lt_of_cell? _ _ (hHeld.2.1))).trans (hHeld.2.1)
                                      have HS2_ := (hb.cell (World.block_lt_of_cell? _ _ (hHeld.2.2.1))).trans (hHeld.2.2.1)
                                      refine ⟨_, rfl, ?_⟩
                                      have n0_ := Aside0.mk (Kd.R_below (by (with_reducible repeat (first | apply Kd.R_alloc | apply Kd.R_drewN | apply Kd.R_drew)); exact HO_11.out) hb)
                                      have n1_ := Aside0.mk (blk_below (g := gb221) (o := .cells #[.string a0_0, .string a0_1, .bool a0_2] 36 (0, 0)) (by (with_reducible repeat (first | refine blk_drewN ?_ _ | refine blk_drew ?_ | refine blk_alloc ?_ _)); exact BK221.out) hb)
                                      have n2_ := Aside0.mk (below_step (by repeat (first | (with_reducible first | exact HB.out | apply below_alloc | apply pw_below_drewN | apply below_drew1 | refine below_set ?_ GE221.out) | exact HB.out)) hb)
                                      clear HO_11
                                      clear BK221
                                      clear HB
                                      have HO_11 := n0_
                                      have BK221 := n1_
                                      have HB := n2_
                                      clear n0_ n1_ n2_
                                      (try clear hb)
                                      (try clear hb2)
                                      (try clear hk)
                                      (try clear hi)
                                      refine hK.out _ _ ⟨HS0_, HS1_, HS2_, ((HB.out.cell (World.block_lt_of_cell? w _ hw262_0)).trans hw262_0)⟩ (fun hHeld => ?_)
                                      clear hK K
                                      refine norm_ (a' := ?_) ?_ ?_
                                      rotate_left
                                      · show Act.put _ (some 136) _ = _
                                        simp only [Act.put, List.setIfInBounds_toArray, List.set_cons_zero, List.set_cons_succ, i64_w, i32_w]
                                        rfl
                                      refine done_ (done_of HT_.out (by kernel_rfl)) ?_
                                      try go_wp2
                                      go_roundg k4
                                      case measure => have := HJ10.out; have := HK2.out; have := HK3.out; have := HK4.out; omega
                                      case rel => exact ⟨(x20_4), (wrap64 (x21_4 + 1)), (by first | rfl | (simp; done) | (simp [*]; done) | (simp [*, Go.Proofs.Ytcfiobhebakhlaa.Str.bne_nil]; done)), (by first | rfl | (simp; done) | (simp [*]; done) | (simp [*, Go.Proofs.Ytcfiobhebakhlaa.Str.bne_nil]; done)), H', ⟨by have := HJ10.out; have := HK2.out; have := HK3.out; have := HK4.out; omega⟩, ⟨by (with_reducible repeat (first | apply Kd.R_alloc | apply Kd.R_drewN | apply Kd.R_drew)); exact HO_11.out⟩, ⟨by (with_reducible repeat (first | refine blk_drewN ?_ _ | refine blk_drew ?_ | refine blk_alloc ?_ _)); exact BK221.out⟩, ⟨by repeat (first | (with_reducible first | exact HB.out | apply below_alloc | apply pw_below_drewN | apply below_drew1 | refine below_set ?_ GE221.out) | exact HB.out)⟩⟩
                                  · rw [if_neg c66] at H
                                    exact absurd H (by simp)
                                · rw [if_neg c65] at H
                                  exact absurd H (by simp)
                              · rw [if_neg c64] at H
                                exact absurd H (by simp)
                            · rw [if_neg c63] at H
                              have c63b0 : decide (x21_4 < (l1.length : Int)) = false := decide_eq_false c63
                              clear c63
                              by_cases c73 : x20_4 > 1
                              · rw [if_pos c73] at H
                                exact absurd H (by simp)
                              · rw [if_neg c73] at H
                                have c73b0 : decide (1 < x20_4) = false := decide_eq_false c73
                                clear c73
                                have H' := Aside0.mk H
                                clear H
                                go_wp2
                                go_roundg k4
                                case measure => have := HJ10.out; have := HK2.out; have := HK3.out; have := HK4.out; omega
                                case rel => exact ⟨(wrap64 (x19_3 + 1)), (by first | rfl | (simp; done) | (simp [*]; done) | (simp [*, Go.Proofs.Ytcfiobhebakhlaa.Str.bne_nil]; done)), H', ⟨by have := HJ10.out; have := HK2.out; have := HK3.out; have := HK4.out; omega⟩, ⟨by (with_reducible repeat (first | apply Kd.R_alloc | apply Kd.R_drewN | apply Kd.R_drew)); exact HO_11.out⟩, ⟨by (with_reducible repeat (first | refine blk_drewN ?_ _ | refine blk_drew ?_ | refine blk_alloc ?_ _)); exact BK221.out⟩, ⟨by repeat (first | (with_reducible first | exact HB.out | apply below_alloc | apply pw_below_drewN | apply below_drew1 | refine below_set ?_ GE221.out) | exact HB.out)⟩⟩
                      · rw [if_neg c61] at H
                        have c61b0 : decide (x19_3 < (x11_2.length : Int)) = false := decide_eq_false c61
                        clear c61
                        replace H := Option.bind_eq_some_iff.mp H
                        obtain ⟨t260, A740, H⟩ := H
                        replace H : (some t260) = some r := H
                        have A74 := Aside0.mk A740
                        clear A740
                        obtain rfl := Option.some.inj H
                        obtain ⟨Ao75, co75, eo75⟩ := Kd.R_slice HO_11.out
                        subst eo75
                        have hcz76_0 : wr.cell? ⟨gb221, 0, none⟩ = some (.string a0_0) := (blk_cell BK221.out 0).trans rfl
                        have hcz76_1 : wr.cell? ⟨gb221, 1, none⟩ = some (.string a0_1) := (blk_cell BK221.out 1).trans rfl
                        have hcz76_2 : wr.cell? ⟨gb221, 2, none⟩ = some (.bool a0_2) := (blk_cell BK221.out 2).trans rfl
                        have hfz76_0 := blk_frozen BK221.out 0
                        have hfz76_1 := blk_frozen BK221.out 1
                        have hfz76_2 := blk_frozen BK221.out 2
                        go_wp2_with (first | ((with_reducible refine gate_callee (f := 29) rfl ?_); refine goesL_ (some 143) rfl rfl Try.func29 (by kernel_rfl) rfl #[.slice Ao75 x11_2.length co75, .agg #[.string a0_0, .string a0_1, .bool a0_2]] rfl (by (try simp only [List.map_toArray, List.map_cons, List.map_nil]); first | done | rfl | (simp only [List.length_drop, List.length_take]; rfl)) ?_; (with_reducible refine (span_Tile.calls _ _ x11_2 a0_0 a0_1 a0_2 t260 _ ?side1 ?side2 A74.out).mono ?_); (case side1 => repeat (first | exact (Kd.R_reads' HO_11.out).2.2 | (with_reducible refine Kd.C_alloc ?_ _) | (with_reducible refine Kd.C_drewN ?_ _) | (with_reducible refine Kd.C_drew ?_))); (case side2 => exact (Kd.R_reads' HO_11.out).2.1); rintro e w77 ⟨rfl, hb⟩; refine ⟨_, rfl, ?_⟩; have n0_ := Aside0.mk (Kd.R_below (by (with_reducible repeat (first | apply Kd.R_alloc | apply Kd.R_drewN | apply Kd.R_drew)); exact HO_11.out) hb); have n1_ := Aside0.mk (blk_below (g := gb221) (o := .cells #[.string a0_0, .string a0_1, .bool a0_2] 36 (0, 0)) (by (with_reducible repeat (first | refine blk_drewN ?_ _ | refine blk_drew ?_ | refine blk_alloc ?_ _)); exact BK221.out) hb); have n2_ := Aside0.mk (below_step (by repeat (first | (with_reducible first | exact HB.out | apply below_alloc | apply pw_below_drewN | apply below_drew1 | refine below_set ?_ GE221.out) | exact HB.out)) hb); clear HO_11; clear BK221; clear HB; have HO_11 := n0_; have BK221 := n1_; have HB := n2_; clear n0_ n1_ n2_; (try clear hb); (try clear hb2); (try clear hk); (try clear hi)))
                        go_ret
                        exact ⟨by first | rfl | (simp [errW_none, errW_some] <;> rfl) | (simp [*, errW_none, errW_some] <;> rfl), by repeat (first | (with_reducible first | exact HB.out | apply below_alloc | apply pw_below_drewN | apply below_drew1 | refine below_set ?_ GE221.out) | exact HB.out)⟩
          · rw [if_neg c19] at H
            exact absurd H (by simp)

end Go.Proofs.Ytcfiobhebakhlaa.PAll
