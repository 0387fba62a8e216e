-- By wip/pr.py (a program of this session, over the kit's print): lines written by program. Not trusted: Lean checks them.
import Derived.Test.YtgdhgamolenfgaaPAllx0
import Derived.Test.YtgdhgamolenfgaaPAllx1
import Derived.Test.YtgdhgamolenfgaaPAllx2
import Derived.Test.YtgdhgamolenfgaaPAllx4
import Derived.Test.YtgdhgamolenfgaaPAllx5
namespace Go.Proofs.Ytgdhgamolenfgaa.PAll
open Go.RowKit Go.Proofs.YtgdhgamolenfgaaW.PrintWords Go.Proofs.YtgdhgamolenfgaaW.PrintLast Go.Proofs.YtgdhgamolenfgaaW.PrintMore
attribute [local go_sem] max2_int min2_int max_two min_two max_three min_three max_four min_four   -- for this text's walks alone
set_option linter.unusedVariables false
set_option linter.unusedSimpArgs false

attribute [local go_sem high] eqA23
/-! ### tidelinelaw02_SpanMeets: function 9 -/
mutual
def tidelinelaw02_SpanMeets.j0 : Nat → Bool → ByteArray → ByteArray → Bool → ByteArray → ByteArray → Bool → ByteArray → ByteArray → Bool → Option (Bool)
  | 0, _, _, _, _, _, _, _, _, _, _ => none
  | k + 1, x29, x198000, x198001, x198002, x199000, x199001, x199002, x200000, x200001, x200002 => if x29 = true then ((span_Within.f k x198000 x198001 x198002 x199000 x199001 x199002).bind fun t204 => (if t204 = true then ((span_Within.f k x199000 x199001 x199002 x200000 x200001 x200002).bind fun t205 => (if t205 = true then ((span_Within.f k x198000 x198001 x198002 x200000 x200001 x200002).bind fun t206 => (some (!t206))) else (some true))) else (some true))) else ((span_Meet.f k x198000 x198001 x198002 x199000 x199001 x199002).bind fun bt207 => ((span_Empty.f k x200000 x200001 x200002).bind fun t212 => (if t212 = true then (tidelinelaw02_SpanMeets.j1 k bt207.2.2.2 false x198000 x198001 x198002 x199000 x199001 x199002 x200000 x200001 x200002 bt207.1 bt207.2.1 bt207.2.2.1) else (if bt207.2.2.2 = true then ((span_Within.f k x200000 x200001 x200002 bt207.1 bt207.2.1 bt207.2.2.1).bind fun t213 => ((span_Within.f k x200000 x200001 x200002 x198000 x198001 x198002).bind fun t214 => (if t214 = true then ((span_Within.f k x200000 x200001 x200002 x199000 x199001 x199002).bind fun t215 => (tidelinelaw02_SpanMeets.j1 k bt207.2.2.2 (t213 != t215) x198000 x198001 x198002 x199000 x199001 x199002 x200000 x200001 x200002 bt207.1 bt207.2.1 bt207.2.2.1)) else (tidelinelaw02_SpanMeets.j1 k bt207.2.2.2 (t213 != false) x198000 x198001 x198002 x199000 x199001 x199002 x200000 x200001 x200002 bt207.1 bt207.2.1 bt207.2.2.1)))) else ((span_Within.f k x200000 x200001 x200002 x198000 x198001 x198002).bind fun t216 => (if t216 = true then ((span_Within.f k x200000 x200001 x200002 x199000 x199001 x199002).bind fun t217 => (tidelinelaw02_SpanMeets.j1 k bt207.2.2.2 (false != t217) x198000 x198001 x198002 x199000 x199001 x199002 x200000 x200001 x200002 bt207.1 bt207.2.1 bt207.2.2.1)) else (tidelinelaw02_SpanMeets.j1 k bt207.2.2.2 (false != false) x198000 x198001 x198002 x199000 x199001 x199002 x200000 x200001 x200002 bt207.1 bt207.2.1 bt207.2.2.1)))))))
def tidelinelaw02_SpanMeets.j1 : Nat → Bool → Bool → ByteArray → ByteArray → Bool → ByteArray → ByteArray → Bool → ByteArray → ByteArray → Bool → ByteArray → ByteArray → Bool → Option (Bool)
  | 0, _, _, _, _, _, _, _, _, _, _, _, _, _, _ => none
  | k + 1, x8, x71, x198000, x198001, x198002, x199000, x199001, x199002, x200000, x200001, x200002, x212000, x212001, x212002 => if x71 = true then (none) else ((span_Within.f k x198000 x198001 x198002 x199000 x199001 x199002).bind fun t218 => (if t218 = true then ((span_Within.f k x199000 x199001 x199002 x200000 x200001 x200002).bind fun t219 => (if t219 = true then ((span_Within.f k x198000 x198001 x198002 x200000 x200001 x200002).bind fun t220 => (if t220 = true then ((span_Within.f k x198000 x198001 x198002 x198000 x198001 x198002).bind fun t221 => (tidelinelaw02_SpanMeets.j2 k x8 (!t221) x198000 x198001 x198002 x199000 x199001 x199002 x200000 x200001 x200002 x212000 x212001 x212002)) else (tidelinelaw02_SpanMeets.j2 k x8 true x198000 x198001 x198002 x199000 x199001 x199002 x200000 x200001 x200002 x212000 x212001 x212002))) else ((span_Within.f k x198000 x198001 x198002 x198000 x198001 x198002).bind fun t222 => (tidelinelaw02_SpanMeets.j2 k x8 (!t222) x198000 x198001 x198002 x199000 x199001 x199002 x200000 x200001 x200002 x212000 x212001 x212002)))) else ((span_Within.f k x198000 x198001 x198002 x198000 x198001 x198002).bind fun t223 => (tidelinelaw02_SpanMeets.j2 k x8 (!t223) x198000 x198001 x198002 x199000 x199001 x199002 x200000 x200001 x200002 x212000 x212001 x212002))))
def tidelinelaw02_SpanMeets.j2 : Nat → Bool → Bool → ByteArray → ByteArray → Bool → ByteArray → ByteArray → Bool → ByteArray → ByteArray → Bool → ByteArray → ByteArray → Bool → Option (Bool)
  | 0, _, _, _, _, _, _, _, _, _, _, _, _, _, _ => none
  | k + 1, x8, x91, x198000, x198001, x198002, x199000, x199001, x199002, x200000, x200001, x200002, x212000, x212001, x212002 => if x91 = true then (none) else ((span_Within.f k x198000 x198001 x198002 x199000 x199001 x199002).bind fun t224 => (if t224 = true then ((span_Within.f k x199000 x199001 x199002 x198000 x198001 x198002).bind fun t225 => (if t225 = true then (if (!(x198000.toList == x199000.toList) || (!(x198001.toList == x199001.toList) || (!(x198002 == x199002)))) = true then ((span_Empty.f k x198000 x198001 x198002).bind fun t226 => (if t226 = true then ((span_Empty.f k x199000 x199001 x199002).bind fun t227 => (tidelinelaw02_SpanMeets.j3 k x8 (!t227) x198000 x198001 x198002 x199000 x199001 x199002 x200000 x200001 x200002 x212000 x212001 x212002)) else (tidelinelaw02_SpanMeets.j3 k x8 (!false) x198000 x198001 x198002 x199000 x199001 x199002 x200000 x200001 x200002 x212000 x212001 x212002))) else (tidelinelaw02_SpanMeets.j3 k x8 false x198000 x198001 x198002 x199000 x199001 x199002 x200000 x200001 x200002 x212000 x212001 x212002)) else (tidelinelaw02_SpanMeets.j3 k x8 false x198000 x198001 x198002 x199000 x199001 x199002 x200000 x200001 x200002 x212000 x212001 x212002))) else (tidelinelaw02_SpanMeets.j3 k x8 false x198000 x198001 x198002 x199000 x199001 x199002 x200000 x200001 x200002 x212000 x212001 x212002)))
def tidelinelaw02_SpanMeets.j3 : Nat → Bool → Bool → ByteArray → ByteArray → Bool → ByteArray → ByteArray → Bool → ByteArray → ByteArray → Bool → ByteArray → ByteArray → Bool → Option (Bool)
  | 0, _, _, _, _, _, _, _, _, _, _, _, _, _, _ => none
  | k + 1, x8, x113, x198000, x198001, x198002, x199000, x199001, x199002, x200000, x200001, x200002, x212000, x212001, x212002 => if x113 = true then (none) else ((span_Meet.f k x212000 x212001 x212002 x200000 x200001 x200002).bind fun bt228 => ((span_Meet.f k x199000 x199001 x199002 x200000 x200001 x200002).bind fun bt233 => ((span_Meet.f k x198000 x198001 x198002 bt233.1 bt233.2.1 bt233.2.2.1).bind fun bt238 => (if x8 = true then (if bt233.2.2.2 = true then (if (bt228.1.toList == bt238.1.toList && (bt228.2.1.toList == bt238.2.1.toList && (bt228.2.2.1 == bt238.2.2.1))) = true then (some (bt228.2.2.2 == bt238.2.2.2)) else (none)) else (some true)) else (some true)))))
end
def tidelinelaw02_SpanMeets.f (k : Nat) (a0_0 : ByteArray) (a0_1 : ByteArray) (a0_2 : Bool) (a1_0 : ByteArray) (a1_1 : ByteArray) (a1_2 : Bool) (a2_0 : ByteArray) (a2_1 : ByteArray) (a2_2 : Bool) : Option (Bool) := (tidelinelaw02_shown.f k).bind fun t200 => (if t200 = true then ((span_Check.f k a0_0 a0_1 a0_2).bind fun t201 => (if t201 = 0 then ((span_Check.f k a1_0 a1_1 a1_2).bind fun t202 => (if t202 = 0 then ((span_Check.f k a2_0 a2_1 a2_2).bind fun t203 => (tidelinelaw02_SpanMeets.j0 k (t203 != 0) a0_0 a0_1 a0_2 a1_0 a1_1 a1_2 a2_0 a2_1 a2_2)) else (tidelinelaw02_SpanMeets.j0 k true a0_0 a0_1 a0_2 a1_0 a1_1 a1_2 a2_0 a2_1 a2_2))) else (tidelinelaw02_SpanMeets.j0 k true a0_0 a0_1 a0_2 a1_0 a1_1 a1_2 a2_0 a2_1 a2_2))) else (none))
theorem tidelinelaw02_SpanMeets.mono_l : ∀ k, (∀ y0 y1 y2 y3 y4 y5 y6 y7 y8 y9, LeO (tidelinelaw02_SpanMeets.j0 k y0 y1 y2 y3 y4 y5 y6 y7 y8 y9) (tidelinelaw02_SpanMeets.j0 (k + 1) y0 y1 y2 y3 y4 y5 y6 y7 y8 y9)) ∧ (∀ y0 y1 y2 y3 y4 y5 y6 y7 y8 y9 y10 y11 y12 y13, LeO (tidelinelaw02_SpanMeets.j1 k y0 y1 y2 y3 y4 y5 y6 y7 y8 y9 y10 y11 y12 y13) (tidelinelaw02_SpanMeets.j1 (k + 1) y0 y1 y2 y3 y4 y5 y6 y7 y8 y9 y10 y11 y12 y13)) ∧ (∀ y0 y1 y2 y3 y4 y5 y6 y7 y8 y9 y10 y11 y12 y13, LeO (tidelinelaw02_SpanMeets.j2 k y0 y1 y2 y3 y4 y5 y6 y7 y8 y9 y10 y11 y12 y13) (tidelinelaw02_SpanMeets.j2 (k + 1) y0 y1 y2 y3 y4 y5 y6 y7 y8 y9 y10 y11 y12 y13)) ∧ (∀ y0 y1 y2 y3 y4 y5 y6 y7 y8 y9 y10 y11 y12 y13, LeO (tidelinelaw02_SpanMeets.j3 k y0 y1 y2 y3 y4 y5 y6 y7 y8 y9 y10 y11 y12 y13) (tidelinelaw02_SpanMeets.j3 (k + 1) y0 y1 y2 y3 y4 y5 y6 y7 y8 y9 y10 y11 y12 y13))
  | 0 => ⟨fun _ _ _ _ _ _ _ _ _ _ r h => by simp [tidelinelaw02_SpanMeets.j0] at h, fun _ _ _ _ _ _ _ _ _ _ _ _ _ _ r h => by simp [tidelinelaw02_SpanMeets.j1] at h, fun _ _ _ _ _ _ _ _ _ _ _ _ _ _ r h => by simp [tidelinelaw02_SpanMeets.j2] at h, fun _ _ _ _ _ _ _ _ _ _ _ _ _ _ r h => by simp [tidelinelaw02_SpanMeets.j3] at h⟩
  | k + 1 => by
    obtain ⟨ih0, ih1, ih2, ih3⟩ := tidelinelaw02_SpanMeets.mono_l k
    refine ⟨?_, ?_, ?_, ?_⟩
    · intro y0 y1 y2 y3 y4 y5 y6 y7 y8 y9
      unfold tidelinelaw02_SpanMeets.j0
      repeat' first
      | (with_reducible exact ih0 _ _ _ _ _ _ _ _ _ _)
      | (with_reducible exact ih1 _ _ _ _ _ _ _ _ _ _ _ _ _ _)
      | (with_reducible exact ih2 _ _ _ _ _ _ _ _ _ _ _ _ _ _)
      | (with_reducible exact ih3 _ _ _ _ _ _ _ _ _ _ _ _ _ _)
      | (with_reducible exact span_Check.mono _ _ _ _)
      | (with_reducible exact span_Empty.mono _ _ _ _)
      | (with_reducible exact span_Meet.mono _ _ _ _ _ _ _)
      | (with_reducible exact span_Within.mono _ _ _ _ _ _ _)
      | (with_reducible exact tidelinelaw02_shown.mono _)
      | (with_reducible exact LeO.refl _)
      | (with_reducible exact LeO.none _)
      | (with_reducible refine LeO.ite ?_ ?_)
      | (with_reducible refine LeO.bind ?_ (fun _ => ?_))
      | exact ih0 _ _ _ _ _ _ _ _ _ _
      | exact ih1 _ _ _ _ _ _ _ _ _ _ _ _ _ _
      | exact ih2 _ _ _ _ _ _ _ _ _ _ _ _ _ _
      | exact ih3 _ _ _ _ _ _ _ _ _ _ _ _ _ _
      | exact span_Check.mono _ _ _ _
      | exact span_Empty.mono _ _ _ _
      | exact span_Meet.mono _ _ _ _ _ _ _
      | exact span_Within.mono _ _ _ _ _ _ _
      | exact tidelinelaw02_shown.mono _
      | exact LeO.none _
      | refine LeO.ite ?_ ?_
      | refine LeO.bind ?_ (fun _ => ?_)
    · intro y0 y1 y2 y3 y4 y5 y6 y7 y8 y9 y10 y11 y12 y13
      unfold tidelinelaw02_SpanMeets.j1
      repeat' first
      | (with_reducible exact ih0 _ _ _ _ _ _ _ _ _ _)
      | (with_reducible exact ih1 _ _ _ _ _ _ _ _ _ _ _ _ _ _)
      | (with_reducible exact ih2 _ _ _ _ _ _ _ _ _ _ _ _ _ _)
      | (with_reducible exact ih3 _ _ _ _ _ _ _ _ _ _ _ _ _ _)
      | (with_reducible exact span_Check.mono _ _ _ _)
      | (with_reducible exact span_Empty.mono _ _ _ _)
      | (with_reducible exact span_Meet.mono _ _ _ _ _ _ _)
      | (with_reducible exact span_Within.mono _ _ _ _ _ _ _)
      | (with_reducible exact tidelinelaw02_shown.mono _)
      | (with_reducible exact LeO.refl _)
      | (with_reducible exact LeO.none _)
      | (with_reducible refine LeO.ite ?_ ?_)
      | (with_reducible refine LeO.bind ?_ (fun _ => ?_))
      | exact ih0 _ _ _ _ _ _ _ _ _ _
      | exact ih1 _ _ _ _ _ _ _ _ _ _ _ _ _ _
      | exact ih2 _ _ _ _ _ _ _ _ _ _ _ _ _ _
      | exact ih3 _ _ _ _ _ _ _ _ _ _ _ _ _ _
      | exact span_Check.mono _ _ _ _
      | exact span_Empty.mono _ _ _ _
      | exact span_Meet.mono _ _ _ _ _ _ _
      | exact span_Within.mono _ _ _ _ _ _ _
      | exact tidelinelaw02_shown.mono _
      | exact LeO.none _
      | refine LeO.ite ?_ ?_
      | refine LeO.bind ?_ (fun _ => ?_)
    · intro y0 y1 y2 y3 y4 y5 y6 y7 y8 y9 y10 y11 y12 y13
      unfold tidelinelaw02_SpanMeets.j2
      repeat' first
      | (with_reducible exact ih0 _ _ _ _ _ _ _ _ _ _)
      | (with_reducible exact ih1 _ _ _ _ _ _ _ _ _ _ _ _ _ _)
      | (with_reducible exact ih2 _ _ _ _ _ _ _ _ _ _ _ _ _ _)
      | (with_reducible exact ih3 _ _ _ _ _ _ _ _ _ _ _ _ _ _)
      | (with_reducible exact span_Check.mono _ _ _ _)
      | (with_reducible exact span_Empty.mono _ _ _ _)
      | (with_reducible exact span_Meet.mono _ _ _ _ _ _ _)
      | (with_reducible exact span_Within.mono _ _ _ _ _ _ _)
      | (with_reducible exact tidelinelaw02_shown.mono _)
      | (with_reducible exact LeO.refl _)
      | (with_reducible exact LeO.none _)
      | (with_reducible refine LeO.ite ?_ ?_)
      | (with_reducible refine LeO.bind ?_ (fun _ => ?_))
      | exact ih0 _ _ _ _ _ _ _ _ _ _
      | exact ih1 _ _ _ _ _ _ _ _ _ _ _ _ _ _
      | exact ih2 _ _ _ _ _ _ _ _ _ _ _ _ _ _
      | exact ih3 _ _ _ _ _ _ _ _ _ _ _ _ _ _
      | exact span_Check.mono _ _ _ _
      | exact span_Empty.mono _ _ _ _
      | exact span_Meet.mono _ _ _ _ _ _ _
      | exact span_Within.mono _ _ _ _ _ _ _
      | exact tidelinelaw02_shown.mono _
      | exact LeO.none _
      | refine LeO.ite ?_ ?_
      | refine LeO.bind ?_ (fun _ => ?_)
    · intro y0 y1 y2 y3 y4 y5 y6 y7 y8 y9 y10 y11 y12 y13
      unfold tidelinelaw02_SpanMeets.j3
      repeat' first
      | (with_reducible exact ih0 _ _ _ _ _ _ _ _ _ _)
      | (with_reducible exact ih1 _ _ _ _ _ _ _ _ _ _ _ _ _ _)
      | (with_reducible exact ih2 _ _ _ _ _ _ _ _ _ _ _ _ _ _)
      | (with_reducible exact ih3 _ _ _ _ _ _ _ _ _ _ _ _ _ _)
      | (with_reducible exact span_Check.mono _ _ _ _)
      | (with_reducible exact span_Empty.mono _ _ _ _)
      | (with_reducible exact span_Meet.mono _ _ _ _ _ _ _)
      | (with_reducible exact span_Within.mono _ _ _ _ _ _ _)
      | (with_reducible exact tidelinelaw02_shown.mono _)
      | (with_reducible exact LeO.refl _)
      | (with_reducible exact LeO.none _)
      | (with_reducible refine LeO.ite ?_ ?_)
      | (with_reducible refine LeO.bind ?_ (fun _ => ?_))
      | exact ih0 _ _ _ _ _ _ _ _ _ _
      | exact ih1 _ _ _ _ _ _ _ _ _ _ _ _ _ _
      | exact ih2 _ _ _ _ _ _ _ _ _ _ _ _ _ _
      | exact ih3 _ _ _ _ _ _ _ _ _ _ _ _ _ _
      | exact span_Check.mono _ _ _ _
      | exact span_Empty.mono _ _ _ _
      | exact span_Meet.mono _ _ _ _ _ _ _
      | exact span_Within.mono _ _ _ _ _ _ _
      | exact tidelinelaw02_shown.mono _
      | exact LeO.none _
      | refine LeO.ite ?_ ?_
      | refine LeO.bind ?_ (fun _ => ?_)
theorem tidelinelaw02_SpanMeets.mono : ∀ a0 a1 a2 a3 a4 a5 a6 a7 a8 k, LeO (tidelinelaw02_SpanMeets.f k a0 a1 a2 a3 a4 a5 a6 a7 a8) (tidelinelaw02_SpanMeets.f (k + 1) a0 a1 a2 a3 a4 a5 a6 a7 a8) := by
  intro a0 a1 a2 a3 a4 a5 a6 a7 a8 k
  obtain ⟨ih0, ih1, ih2, ih3⟩ := tidelinelaw02_SpanMeets.mono_l k
  unfold tidelinelaw02_SpanMeets.f
  repeat' first
      | (with_reducible exact ih0 _ _ _ _ _ _ _ _ _ _)
      | (with_reducible exact ih1 _ _ _ _ _ _ _ _ _ _ _ _ _ _)
      | (with_reducible exact ih2 _ _ _ _ _ _ _ _ _ _ _ _ _ _)
      | (with_reducible exact ih3 _ _ _ _ _ _ _ _ _ _ _ _ _ _)
      | (with_reducible exact span_Check.mono _ _ _ _)
      | (with_reducible exact span_Empty.mono _ _ _ _)
      | (with_reducible exact span_Meet.mono _ _ _ _ _ _ _)
      | (with_reducible exact span_Within.mono _ _ _ _ _ _ _)
      | (with_reducible exact tidelinelaw02_shown.mono _)
      | (with_reducible exact LeO.refl _)
      | (with_reducible exact LeO.none _)
      | (with_reducible refine LeO.ite ?_ ?_)
      | (with_reducible refine LeO.bind ?_ (fun _ => ?_))
      | exact ih0 _ _ _ _ _ _ _ _ _ _
      | exact ih1 _ _ _ _ _ _ _ _ _ _ _ _ _ _
      | exact ih2 _ _ _ _ _ _ _ _ _ _ _ _ _ _
      | exact ih3 _ _ _ _ _ _ _ _ _ _ _ _ _ _
      | exact span_Check.mono _ _ _ _
      | exact span_Empty.mono _ _ _ _
      | exact span_Meet.mono _ _ _ _ _ _ _
      | exact span_Within.mono _ _ _ _ _ _ _
      | exact tidelinelaw02_shown.mono _
      | exact LeO.none _
      | refine LeO.ite ?_ ?_
      | refine LeO.bind ?_ (fun _ => ?_)
def tidelinelaw02_SpanMeets.T6 : Bool × List (List Nat × List Nat) := (true, [([], []), ([0], [0]), ([1], [1]), ([2, 1], [2]), ([3], [3]), ([4, 3, 3], [3, 4]), ([5], [5]), ([5], [5]), ([6, 7, 5, 5], [5, 6, 7]), ([5, 8, 3], [3, 5, 8]), ([3], [3]), ([3], [3]), ([10, 11, 8, 3], [3, 10, 11]), ([12, 12, 3], [3, 12]), ([13], [13]), ([13], [13]), ([14, 15, 13, 13], [13, 14, 15]), ([13, 16, 3], [3, 13, 16]), ([9, 17, 3], [3, 9, 17]), ([3, 18], [3, 18])])
def tidelinelaw02_SpanMeets.B6 : List Nat := [0, 1, 3, 7, 15, 31, 63, 63, 255, 511, 15, 15, 3583, 7679, 15871, 15871, 65023, 130559, 262143, 524287]
theorem tidelinelaw02_SpanMeets.tab6 : rtab .any (opsOf Try.f9 6) = tidelinelaw02_SpanMeets.T6 := by kernel_rfl
theorem tidelinelaw02_SpanMeets.bits6 : waitsOk tidelinelaw02_SpanMeets.T6.2 tidelinelaw02_SpanMeets.B6 = true := by kernel_rfl

end Go.Proofs.Ytgdhgamolenfgaa.PAll
