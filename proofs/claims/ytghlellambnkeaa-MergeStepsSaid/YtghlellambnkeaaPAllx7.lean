-- By wip/pr.py (a program of this session, over the kit's print): lines written by program. Not trusted: Lean checks them.
import Derived.Test.YtghlellambnkeaaSBeyond
import Derived.Test.YtghlellambnkeaaSMergeM
import Derived.Test.YtghlellambnkeaaPAllx0
import Derived.Test.YtghlellambnkeaaPAllx3
import Derived.Test.YtghlellambnkeaaPAllx5
namespace Go.Proofs.Ytghlellambnkeaa.PAll
open Go.RowKit Go.Proofs.YtghlellambnkeaaW.PrintWords Go.Proofs.YtghlellambnkeaaW.PrintLast Go.Proofs.YtghlellambnkeaaW.PrintMore
attribute [local go_sem] max2_int min2_int max_two min_two max_three min_three max_four min_four   -- for this text's walks alone
set_option linter.unusedVariables false
set_option linter.unusedSimpArgs false

/-! ### tidelinelaw09_MergeSteps: function 6 -/
mutual
def tidelinelaw09_MergeSteps.j0 : Nat → List (S44) → List (S44) → List Int → Bool → Option (Bool)
  | 0, _, _, _, _ => none
  | k + 1, x0, x1, x2, x40 => if x40 = true then (some true) else ((some (([] : List (S44)) : List (S44))).bind fun y181 => (if y181.length + x0.length < 2513169434916 then ((some (y181 ++ x0 : List (S44))).bind fun y184 => (if y184.length + x1.length < 2513169434916 then (tidelinelaw09_MergeSteps.l0 k x0 x1 x2 (y184 ++ x1) (([] : List (S44))) 0) else (none))) else (none)))
def tidelinelaw09_MergeSteps.l0 : Nat → List (S44) → List (S44) → List Int → List (S44) → List (S44) → Int → Option (Bool)
  | 0, _, _, _, _, _, _ => none
  | k + 1, x0, x1, x2, x7, x8, x9 => if (x7.length : Int) > 0 then (if x9 < (x2.length : Int) then (if 0 ≤ x9 then (if (x7.length : Int) = 0 then (none) else (if 0 ≤ (Int.tmod (wrap64 ((Int.tmod (rd x2 x9) (x7.length : Int)) + (x7.length : Int))) (x7.length : Int)) then (if (Int.tmod (wrap64 ((Int.tmod (rd x2 x9) (x7.length : Int)) + (x7.length : Int))) (x7.length : Int)) < (x7.length : Int) then ((merge_Max.f k x8 (([(⟨(rd_T44 x7 (Int.tmod (wrap64 ((Int.tmod (rd x2 x9) (x7.length : Int)) + (x7.length : Int))) (x7.length : Int))).f0, (⟨(rd_T44 x7 (Int.tmod (wrap64 ((Int.tmod (rd x2 x9) (x7.length : Int)) + (x7.length : Int))) (x7.length : Int))).f1.f0, (rd_T44 x7 (Int.tmod (wrap64 ((Int.tmod (rd x2 x9) (x7.length : Int)) + (x7.length : Int))) (x7.length : Int))).f1.f1⟩ : S42), (rd_T44 x7 (Int.tmod (wrap64 ((Int.tmod (rd x2 x9) (x7.length : Int)) + (x7.length : Int))) (x7.length : Int))).f2, (rd_T44 x7 (Int.tmod (wrap64 ((Int.tmod (rd x2 x9) (x7.length : Int)) + (x7.length : Int))) (x7.length : Int))).f3⟩ : S44)] : List (S44)))).bind fun bt203 => (if bt203.2 = 0 then (if 0 ≤ (wrap64 ((x7.length : Int) - 1)) then (if (wrap64 ((x7.length : Int) - 1)) < (x7.length : Int) then (if (wrap64 ((x7.length : Int) - 1)) ≤ (x7.length : Int) then (tidelinelaw09_MergeSteps.l0 k x0 x1 x2 ((x7.set ((Int.tmod (wrap64 ((Int.tmod (rd x2 x9) (x7.length : Int)) + (x7.length : Int))) (x7.length : Int)) : Int).toNat (⟨(rd_T44 x7 (wrap64 ((x7.length : Int) - 1))).f0, (⟨(rd_T44 x7 (wrap64 ((x7.length : Int) - 1))).f1.f0, (rd_T44 x7 (wrap64 ((x7.length : Int) - 1))).f1.f1⟩ : S42), (rd_T44 x7 (wrap64 ((x7.length : Int) - 1))).f2, (rd_T44 x7 (wrap64 ((x7.length : Int) - 1))).f3⟩ : S44)).take ((wrap64 ((x7.length : Int) - 1)) : Int).toNat) bt203.1 (wrap64 (x9 + 1))) else (none)) else (none)) else (none)) else (none))) else (none)) else (none))) else (none)) else (if 0 < (x7.length : Int) then ((merge_Max.f k x8 (([(⟨(rd_T44 x7 0).f0, (⟨(rd_T44 x7 0).f1.f0, (rd_T44 x7 0).f1.f1⟩ : S42), (rd_T44 x7 0).f2, (rd_T44 x7 0).f3⟩ : S44)] : List (S44)))).bind fun bt216 => (if bt216.2 = 0 then (if 0 ≤ (wrap64 ((x7.length : Int) - 1)) then (if (wrap64 ((x7.length : Int) - 1)) < (x7.length : Int) then (if (wrap64 ((x7.length : Int) - 1)) ≤ (x7.length : Int) then (tidelinelaw09_MergeSteps.l0 k x0 x1 x2 ((x7.set (0 : Int).toNat (⟨(rd_T44 x7 (wrap64 ((x7.length : Int) - 1))).f0, (⟨(rd_T44 x7 (wrap64 ((x7.length : Int) - 1))).f1.f0, (rd_T44 x7 (wrap64 ((x7.length : Int) - 1))).f1.f1⟩ : S42), (rd_T44 x7 (wrap64 ((x7.length : Int) - 1))).f2, (rd_T44 x7 (wrap64 ((x7.length : Int) - 1))).f3⟩ : S44)).take ((wrap64 ((x7.length : Int) - 1)) : Int).toNat) bt216.1 (wrap64 (x9 + 1))) else (none)) else (none)) else (none)) else (none))) else (none))) else ((merge_Max.f k x0 x1).bind fun bt193 => (if bt193.2 = 0 then ((tidelinelaw09_same.f k x8 bt193.1).bind fun t197 => (if t197 = true then (some (decide ((bt193.1.length : Int) ≥ (mx (x0.length : Int) (x1.length : Int))))) else (none))) else (none)))
end
def tidelinelaw09_MergeSteps.f (k : Nat) (l0 : List (S44)) (l1 : List (S44)) (l2 : List Int) : Option (Bool) := (tidelinelaw09_beyond.f k [l0, l1]).bind fun t179 => (if t179 = true then (tidelinelaw09_MergeSteps.j0 k l0 l1 l2 true) else (if (l0.length : Int) > 512 then (tidelinelaw09_MergeSteps.j0 k l0 l1 l2 true) else (if (l1.length : Int) > 512 then (tidelinelaw09_MergeSteps.j0 k l0 l1 l2 true) else (if (l2.length : Int) > 1048576 then (tidelinelaw09_MergeSteps.j0 k l0 l1 l2 true) else ((tidelinelaw09_clean.f k l0 l1).bind fun t180 => (tidelinelaw09_MergeSteps.j0 k l0 l1 l2 (!t180)))))))
theorem tidelinelaw09_MergeSteps.mono_l : ∀ k, (∀ y0 y1 y2 y3, LeO (tidelinelaw09_MergeSteps.j0 k y0 y1 y2 y3) (tidelinelaw09_MergeSteps.j0 (k + 1) y0 y1 y2 y3)) ∧ (∀ y0 y1 y2 y3 y4 y5, LeO (tidelinelaw09_MergeSteps.l0 k y0 y1 y2 y3 y4 y5) (tidelinelaw09_MergeSteps.l0 (k + 1) y0 y1 y2 y3 y4 y5))
  | 0 => ⟨fun _ _ _ _ r h => by simp [tidelinelaw09_MergeSteps.j0] at h, fun _ _ _ _ _ _ r h => by simp [tidelinelaw09_MergeSteps.l0] at h⟩
  | k + 1 => by
    obtain ⟨ih0, ih1⟩ := tidelinelaw09_MergeSteps.mono_l k
    refine ⟨?_, ?_⟩
    · intro y0 y1 y2 y3
      unfold tidelinelaw09_MergeSteps.j0
      repeat' first
      | (with_reducible exact ih0 _ _ _ _)
      | (with_reducible exact ih1 _ _ _ _ _ _)
      | (with_reducible exact merge_Max.mono _ _ _)
      | (with_reducible exact tidelinelaw09_beyond.mono _ _)
      | (with_reducible exact tidelinelaw09_clean.mono _ _ _)
      | (with_reducible exact tidelinelaw09_same.mono _ _ _)
      | (with_reducible exact LeO.refl _)
      | (with_reducible exact LeO.none _)
      | (with_reducible refine LeO.ite ?_ ?_)
      | (with_reducible refine LeO.bind ?_ (fun _ => ?_))
      | exact ih0 _ _ _ _
      | exact ih1 _ _ _ _ _ _
      | exact merge_Max.mono _ _ _
      | exact tidelinelaw09_beyond.mono _ _
      | exact tidelinelaw09_clean.mono _ _ _
      | exact tidelinelaw09_same.mono _ _ _
      | exact LeO.none _
      | refine LeO.ite ?_ ?_
      | refine LeO.bind ?_ (fun _ => ?_)
    · intro y0 y1 y2 y3 y4 y5
      unfold tidelinelaw09_MergeSteps.l0
      repeat' first
      | (with_reducible exact ih0 _ _ _ _)
      | (with_reducible exact ih1 _ _ _ _ _ _)
      | (with_reducible exact merge_Max.mono _ _ _)
      | (with_reducible exact tidelinelaw09_beyond.mono _ _)
      | (with_reducible exact tidelinelaw09_clean.mono _ _ _)
      | (with_reducible exact tidelinelaw09_same.mono _ _ _)
      | (with_reducible exact LeO.refl _)
      | (with_reducible exact LeO.none _)
      | (with_reducible refine LeO.ite ?_ ?_)
      | (with_reducible refine LeO.bind ?_ (fun _ => ?_))
      | exact ih0 _ _ _ _
      | exact ih1 _ _ _ _ _ _
      | exact merge_Max.mono _ _ _
      | exact tidelinelaw09_beyond.mono _ _
      | exact tidelinelaw09_clean.mono _ _ _
      | exact tidelinelaw09_same.mono _ _ _
      | exact LeO.none _
      | refine LeO.ite ?_ ?_
      | refine LeO.bind ?_ (fun _ => ?_)
theorem tidelinelaw09_MergeSteps.mono : ∀ a0 a1 a2 k, LeO (tidelinelaw09_MergeSteps.f k a0 a1 a2) (tidelinelaw09_MergeSteps.f (k + 1) a0 a1 a2) := by
  intro a0 a1 a2 k
  obtain ⟨ih0, ih1⟩ := tidelinelaw09_MergeSteps.mono_l k
  unfold tidelinelaw09_MergeSteps.f
  repeat' first
      | (with_reducible exact ih0 _ _ _ _)
      | (with_reducible exact ih1 _ _ _ _ _ _)
      | (with_reducible exact merge_Max.mono _ _ _)
      | (with_reducible exact tidelinelaw09_beyond.mono _ _)
      | (with_reducible exact tidelinelaw09_clean.mono _ _ _)
      | (with_reducible exact tidelinelaw09_same.mono _ _ _)
      | (with_reducible exact LeO.refl _)
      | (with_reducible exact LeO.none _)
      | (with_reducible refine LeO.ite ?_ ?_)
      | (with_reducible refine LeO.bind ?_ (fun _ => ?_))
      | exact ih0 _ _ _ _
      | exact ih1 _ _ _ _ _ _
      | exact merge_Max.mono _ _ _
      | exact tidelinelaw09_beyond.mono _ _
      | exact tidelinelaw09_clean.mono _ _ _
      | exact tidelinelaw09_same.mono _ _ _
      | exact LeO.none _
      | refine LeO.ite ?_ ?_
      | refine LeO.bind ?_ (fun _ => ?_)
set_option maxHeartbeats 8000000 in
set_option maxRecDepth 100000 in
theorem tidelinelaw09_MergeSteps.calls (k : Nat) (A0 : Option Addr) (c0 : Nat) (l0 : List (S44)) (A1 : Option Addr) (c1 : Nat) (l1 : List (S44)) (A2 : Option Addr) (c2 : Nat) (l2 : List Int) (r : Bool) (w : World) (hr0 : Kd.C k44 w A0 l0.length l0) (hc0 : l0.length ≤ c0) (hr1 : Kd.C k44 w A1 l1.length l1) (hc1 : l1.length ≤ c1) (hr2 : Kd.C (Kd.int .i64) w A2 l2.length l2) (hc2 : l2.length ≤ c2) (h : tidelinelaw09_MergeSteps.f k l0 l1 l2 = some r) :
    Calls Try.prog 6 #[.slice A0 l0.length c0, .slice A1 l1.length c1, .slice A2 l2.length c2] w fun e w' => e = .returned (.bool r) ∧ Below w.heap.size w w' := by
 have hu44:=Try.underlying44
 have HR0:=Aside0.mk hr0
 have HC0:=Aside0.mk hc0
 clear hr0 hc0
 have HR1:=Aside0.mk hr1
 have HC1:=Aside0.mk hc1
 clear hr1 hc1
 have HR2:=Aside0.mk hr2
 have HC2:=Aside0.mk hc2
 clear hr2 hc2
 have HB:=Aside0.mk (Below.refl w.heap.size w)
 have H : ((tidelinelaw09_beyond.f k [l0,l1]).bind fun t179 => (if t179 = true then (tidelinelaw09_MergeSteps.j0 k l0 l1 l2 true) else (if (l0.length : Int) > 512 then (tidelinelaw09_MergeSteps.j0 k l0 l1 l2 true) else (if (l1.length : Int) > 512 then (tidelinelaw09_MergeSteps.j0 k l0 l1 l2 true) else (if (l2.length : Int) > 1048576 then (tidelinelaw09_MergeSteps.j0 k l0 l1 l2 true) else ((tidelinelaw09_clean.f k l0 l1).bind fun t180 => (tidelinelaw09_MergeSteps.j0 k l0 l1 l2 (!t180)))))))) = some r:=h
 clear h
 have HC4:=Aside0.mk H
 clear H
 go_enter Try.func6,Try.ntmps6
 go_upto_region 1 with (fail)
 go_cut [40] (fun v40 wc => ∃ (kq : Nat) (x40_3 : Bool),v40 = .bool x40_3 ∧ Aside0 (tidelinelaw09_MergeSteps.j0 kq l0 l1 l2 x40_3 = some r) ∧ Aside0 (kq ≤ k) ∧ Aside0 (Below w.heap.size w wc))
 case first =>
  have H:=HC4.out
  clear HC4
  replace H:=Option.bind_eq_some_iff.mp H
  obtain ⟨t179,A50,H⟩:=H
  replace H : (if t179 = true then (tidelinelaw09_MergeSteps.j0 k l0 l1 l2 true) else (if (l0.length : Int) > 512 then (tidelinelaw09_MergeSteps.j0 k l0 l1 l2 true) else (if (l1.length : Int) > 512 then (tidelinelaw09_MergeSteps.j0 k l0 l1 l2 true) else (if (l2.length : Int) > 1048576 then (tidelinelaw09_MergeSteps.j0 k l0 l1 l2 true) else ((tidelinelaw09_clean.f k l0 l1).bind fun t180 => (tidelinelaw09_MergeSteps.j0 k l0 l1 l2 (!t180))))))) = some r:=H
  have A5:=Aside0.mk A50
  clear A50
  by_cases c6 : t179 = true
  ·subst c6
   have H1 : (tidelinelaw09_MergeSteps.j0 k l0 l1 l2 true) = some r:=by rw [if_pos rfl] at H;exact H
   clear H
   have H:=H1
   clear H1
   have H':=Aside0.mk H
   clear H
   go_wp2_with (first|(go_at_call 12;(refine (tidelinelaw09_beyond2.callsL k _ _ l0 _ _ l1 true _ ?side1 ?side2 ?side3 ?side4 A5.out).mono ?_);(case side1 => repeat (first|exact (Kd.C_below HR0.out HB.out)|(with_reducible refine Kd.C_alloc ?_ _)|(with_reducible refine Kd.C_drewN ?_ _)|(with_reducible refine Kd.C_drew ?_)));(case side2 => exact HC0.out);(case side3 => repeat (first|exact (Kd.C_below HR1.out HB.out)|(with_reducible refine Kd.C_alloc ?_ _)|(with_reducible refine Kd.C_drewN ?_ _)|(with_reducible refine Kd.C_drew ?_)));(case side4 => exact HC1.out);rintro e w7 ⟨rfl,hb⟩;replace HB:=Aside0.mk (below_step (by repeat (first|(with_reducible first|exact HB.out|apply xA|apply xN|apply xD)|exact HB.out)) hb);(try clear hb);(try clear hb2);(try clear hk);(try clear hi)))
   go_meet
   case rel => exact ⟨_,(true),(by first|rfl|(simp;done)|(simp [*];done)|(simp [*,Go.Proofs.Ytghlellambnkeaa.Str.bne_nil];done)),H',⟨by first|omega|exact Nat.le_refl _⟩,⟨by repeat (first|(with_reducible first|exact HB.out|apply xA|apply xN|apply xD)|exact HB.out)⟩⟩
  ·replace c6:=Bool.eq_false_iff.mpr c6
   subst c6
   have H1 : (if (l0.length : Int) > 512 then (tidelinelaw09_MergeSteps.j0 k l0 l1 l2 true) else (if (l1.length : Int) > 512 then (tidelinelaw09_MergeSteps.j0 k l0 l1 l2 true) else (if (l2.length : Int) > 1048576 then (tidelinelaw09_MergeSteps.j0 k l0 l1 l2 true) else ((tidelinelaw09_clean.f k l0 l1).bind fun t180 => (tidelinelaw09_MergeSteps.j0 k l0 l1 l2 (!t180)))))) = some r:=by rw [if_neg (show ¬ (false = true) by decide)] at H;exact H
   clear H
   have H:=H1
   clear H1
   by_cases c8 : (l0.length : Int) > 512
   ·rw [if_pos c8] at H
    have c8b0 : decide (512 < (l0.length : Int)) = true:=decide_eq_true c8
    have c8b1 : decide (512 < l0.length) = true:=decide_eq_true (by omega)
    clear c8
    (first|rw [c8b0]|(simp only [i64_w,i32_w];rw [c8b0])|skip)
    have H':=Aside0.mk H
    clear H
    go_wp2_with (first|(go_at_call 12;(refine (tidelinelaw09_beyond2.callsL k _ _ l0 _ _ l1 false _ ?side1 ?side2 ?side3 ?side4 A5.out).mono ?_);(case side1 => repeat (first|exact (Kd.C_below HR0.out HB.out)|(with_reducible refine Kd.C_alloc ?_ _)|(with_reducible refine Kd.C_drewN ?_ _)|(with_reducible refine Kd.C_drew ?_)));(case side2 => exact HC0.out);(case side3 => repeat (first|exact (Kd.C_below HR1.out HB.out)|(with_reducible refine Kd.C_alloc ?_ _)|(with_reducible refine Kd.C_drewN ?_ _)|(with_reducible refine Kd.C_drew ?_)));(case side4 => exact HC1.out);rintro e w9 ⟨rfl,hb⟩;replace HB:=Aside0.mk (below_step (by repeat (first|(with_reducible first|exact HB.out|apply xA|apply xN|apply xD)|exact HB.out)) hb);(try clear hb);(try clear hb2);(try clear hk);(try clear hi)))
    go_meet
    case rel => exact ⟨_,(true),(by first|rfl|(simp;done)|(simp [*];done)|(simp [*,Go.Proofs.Ytghlellambnkeaa.Str.bne_nil];done)),H',⟨by first|omega|exact Nat.le_refl _⟩,⟨by repeat (first|(with_reducible first|exact HB.out|apply xA|apply xN|apply xD)|exact HB.out)⟩⟩
   ·rw [if_neg c8] at H
    have c8b0 : decide (512 < (l0.length : Int)) = false:=decide_eq_false c8
    have c8b1 : decide (512 < l0.length) = false:=decide_eq_false (by omega)
    clear c8
    (first|rw [c8b0]|(simp only [i64_w,i32_w];rw [c8b0])|skip)
    by_cases c10 : (l1.length : Int) > 512
    ·rw [if_pos c10] at H
     have c10b0 : decide (512 < (l1.length : Int)) = true:=decide_eq_true c10
     have c10b1 : decide (512 < l1.length) = true:=decide_eq_true (by omega)
     clear c10
     have H':=Aside0.mk H
     clear H
     go_wp2_with (first|(go_at_call 12;(refine (tidelinelaw09_beyond2.callsL k _ _ l0 _ _ l1 false _ ?side1 ?side2 ?side3 ?side4 A5.out).mono ?_);(case side1 => repeat (first|exact (Kd.C_below HR0.out HB.out)|(with_reducible refine Kd.C_alloc ?_ _)|(with_reducible refine Kd.C_drewN ?_ _)|(with_reducible refine Kd.C_drew ?_)));(case side2 => exact HC0.out);(case side3 => repeat (first|exact (Kd.C_below HR1.out HB.out)|(with_reducible refine Kd.C_alloc ?_ _)|(with_reducible refine Kd.C_drewN ?_ _)|(with_reducible refine Kd.C_drew ?_)));(case side4 => exact HC1.out);rintro e w11 ⟨rfl,hb⟩;replace HB:=Aside0.mk (below_step (by repeat (first|(with_reducible first|exact HB.out|apply xA|apply xN|apply xD)|exact HB.out)) hb);(try clear hb);(try clear hb2);(try clear hk);(try clear hi)))
     go_meet
     case rel => exact ⟨_,(true),(by first|rfl|(simp;done)|(simp [*];done)|(simp [*,Go.Proofs.Ytghlellambnkeaa.Str.bne_nil];done)),H',⟨by first|omega|exact Nat.le_refl _⟩,⟨by repeat (first|(with_reducible first|exact HB.out|apply xA|apply xN|apply xD)|exact HB.out)⟩⟩
    ·rw [if_neg c10] at H
     have c10b0 : decide (512 < (l1.length : Int)) = false:=decide_eq_false c10
     have c10b1 : decide (512 < l1.length) = false:=decide_eq_false (by omega)
     clear c10
     by_cases c12 : (l2.length : Int) > 1048576
     ·rw [if_pos c12] at H
      have c12b0 : decide (1048576 < (l2.length : Int)) = true:=decide_eq_true c12
      have c12b1 : decide (1048576 < l2.length) = true:=decide_eq_true (by omega)
      clear c12
      have H':=Aside0.mk H
      clear H
      go_wp2_with (first|(go_at_call 12;(refine (tidelinelaw09_beyond2.callsL k _ _ l0 _ _ l1 false _ ?side1 ?side2 ?side3 ?side4 A5.out).mono ?_);(case side1 => repeat (first|exact (Kd.C_below HR0.out HB.out)|(with_reducible refine Kd.C_alloc ?_ _)|(with_reducible refine Kd.C_drewN ?_ _)|(with_reducible refine Kd.C_drew ?_)));(case side2 => exact HC0.out);(case side3 => repeat (first|exact (Kd.C_below HR1.out HB.out)|(with_reducible refine Kd.C_alloc ?_ _)|(with_reducible refine Kd.C_drewN ?_ _)|(with_reducible refine Kd.C_drew ?_)));(case side4 => exact HC1.out);rintro e w13 ⟨rfl,hb⟩;replace HB:=Aside0.mk (below_step (by repeat (first|(with_reducible first|exact HB.out|apply xA|apply xN|apply xD)|exact HB.out)) hb);(try clear hb);(try clear hb2);(try clear hk);(try clear hi)))
      go_meet
      case rel => exact ⟨_,(true),(by first|rfl|(simp;done)|(simp [*];done)|(simp [*,Go.Proofs.Ytghlellambnkeaa.Str.bne_nil];done)),H',⟨by first|omega|exact Nat.le_refl _⟩,⟨by repeat (first|(with_reducible first|exact HB.out|apply xA|apply xN|apply xD)|exact HB.out)⟩⟩
     ·rw [if_neg c12] at H
      have c12b0 : decide (1048576 < (l2.length : Int)) = false:=decide_eq_false c12
      have c12b1 : decide (1048576 < l2.length) = false:=decide_eq_false (by omega)
      clear c12
      replace H:=Option.bind_eq_some_iff.mp H
      obtain ⟨t180,A140,H⟩:=H
      replace H : (tidelinelaw09_MergeSteps.j0 k l0 l1 l2 (!t180)) = some r:=H
      have A14:=Aside0.mk A140
      clear A140
      have H':=Aside0.mk H
      clear H
      go_wp2_with (first|(go_at_call 12;(refine (tidelinelaw09_beyond2.callsL k _ _ l0 _ _ l1 false _ ?side1 ?side2 ?side3 ?side4 A5.out).mono ?_);(case side1 => repeat (first|exact (Kd.C_below HR0.out HB.out)|(with_reducible refine Kd.C_alloc ?_ _)|(with_reducible refine Kd.C_drewN ?_ _)|(with_reducible refine Kd.C_drew ?_)));(case side2 => exact HC0.out);(case side3 => repeat (first|exact (Kd.C_below HR1.out HB.out)|(with_reducible refine Kd.C_alloc ?_ _)|(with_reducible refine Kd.C_drewN ?_ _)|(with_reducible refine Kd.C_drew ?_)));(case side4 => exact HC1.out);rintro e w15 ⟨rfl,hb⟩;replace HB:=Aside0.mk (below_step (by repeat (first|(with_reducible first|exact HB.out|apply xA|apply xN|apply xD)|exact HB.out)) hb);(try clear hb);(try clear hb2);(try clear hk);(try clear hi))|(go_at_call 24;(with_reducible refine (tidelinelaw09_clean.calls k _ _ l0 _ _ l1 t180 _ ?side1 ?side2 ?side3 ?side4 A14.out).mono ?_);(case side1 => repeat (first|exact (Kd.C_below HR0.out HB.out)|(with_reducible refine Kd.C_alloc ?_ _)|(with_reducible refine Kd.C_drewN ?_ _)|(with_reducible refine Kd.C_drew ?_)));(case side2 => exact HC0.out);(case side3 => repeat (first|exact (Kd.C_below HR1.out HB.out)|(with_reducible refine Kd.C_alloc ?_ _)|(with_reducible refine Kd.C_drewN ?_ _)|(with_reducible refine Kd.C_drew ?_)));(case side4 => exact HC1.out);rintro e w16 ⟨rfl,hb⟩;replace HB:=Aside0.mk (below_step (by repeat (first|(with_reducible first|exact HB.out|apply xA|apply xN|apply xD)|exact HB.out)) hb);(try clear hb);(try clear hb2);(try clear hk);(try clear hi)))
      go_meet
      case rel => exact ⟨_,(!t180),(by first|rfl|(simp;done)|(simp [*];done)|(simp [*,Go.Proofs.Ytghlellambnkeaa.Str.bne_nil];done)),H',⟨by first|omega|exact Nat.le_refl _⟩,⟨by repeat (first|(with_reducible first|exact HB.out|apply xA|apply xN|apply xD)|exact HB.out)⟩⟩
 case rest =>
  clear HC4
  try clear c1
  try clear c2
  try clear p2
  try clear c6
  try clear c8
  try clear c8b0
  try clear c8b1
  try clear c10
  try clear c10b0
  try clear c10b1
  try clear c12
  try clear c12b0
  try clear c12b1
  obtain ⟨kq,x40_3,rfl,HA,HJ3,HB⟩:=hcut
  cases kq with
 |zero => exact absurd HA.out (by simp [tidelinelaw09_MergeSteps.j0])
 |succ kj3 =>
   have H:=HA.out
   clear HA
   simp only [tidelinelaw09_MergeSteps.j0] at H
   by_cases c17 : x40_3 = true
   ·subst c17
    have H1 : (some true) = some r:=by rw [if_pos rfl] at H;exact H
    clear H
    have H:=H1
    clear H1
    obtain rfl:=Option.some.inj H
    go_wp2
    go_ret
    exact ⟨by first|rfl|(simp [errW_none,errW_some] <;> rfl)|(simp [*,errW_none,errW_some] <;> rfl),by repeat (first|(with_reducible first|exact HB.out|apply xA|apply xN|apply xD)|exact HB.out)⟩
   ·replace c17:=Bool.eq_false_iff.mpr c17
    subst c17
    have H1 : ((some (([] : List (S44)) : List (S44))).bind fun y181 => (if y181.length + l0.length < 2513169434916 then ((some (y181 ++ l0 : List (S44))).bind fun y184 => (if y184.length + l1.length < 2513169434916 then (tidelinelaw09_MergeSteps.l0 kj3 l0 l1 l2 (y184 ++ l1) (([] : List (S44))) 0) else (none))) else (none))) = some r:=by rw [if_neg (show ¬ (false = true) by decide)] at H;exact H
    clear H
    have H:=H1
    clear H1
    obtain ⟨y181,hy181⟩ : ∃ y_ : List (S44),y_ = (([] : List (S44))):=⟨_,rfl⟩
    replace H : (if y181.length + l0.length < 2513169434916 then ((some (y181 ++ l0 : List (S44))).bind fun y184 => (if y184.length + l1.length < 2513169434916 then (tidelinelaw09_MergeSteps.l0 kj3 l0 l1 l2 (y184 ++ l1) (([] : List (S44))) 0) else (none))) else (none)) = some r:=by first|(rw [hy181];with_reducible exact H)|(have H2_:=(Option.bind_some _ _).symm.trans H;rw [hy181];with_reducible exact H2_)|(have H2_:=(Option.bind_some _ _).symm.trans H;with_reducible exact H2_)|with_reducible exact H|(rw [hy181];exact H)|exact H
    have Ny181:=Aside0.mk hy181
    clear hy181
    by_cases c18 : y181.length + l0.length < 2513169434916
    ·rw [if_pos c18] at H
     have LMc18:=Aside0.mk c18
     clear c18
     obtain ⟨y184,hy184⟩ : ∃ y_ : List (S44),y_ = (y181 ++ l0):=⟨_,rfl⟩
     replace H : (if y184.length + l1.length < 2513169434916 then (tidelinelaw09_MergeSteps.l0 kj3 l0 l1 l2 (y184 ++ l1) (([] : List (S44))) 0) else (none)) = some r:=by first|(rw [hy184];with_reducible exact H)|(have H2_:=(Option.bind_some _ _).symm.trans H;rw [hy184];with_reducible exact H2_)|(have H2_:=(Option.bind_some _ _).symm.trans H;with_reducible exact H2_)|with_reducible exact H|(rw [hy184];exact H)|exact H
     have Ny184:=Aside0.mk hy184
     clear hy184
     by_cases c19 : y184.length + l1.length < 2513169434916
     ·rw [if_pos c19] at H
      have LMc19:=Aside0.mk c19
      clear c19
      obtain ⟨y187,hy187⟩ : ∃ y_ : List (S44),y_ = (y184 ++ l1):=⟨_,rfl⟩
      replace H : (tidelinelaw09_MergeSteps.l0 kj3 l0 l1 l2 y187 (([] : List (S44))) 0) = some r:=by first|(rw [hy187];with_reducible exact H)|(have H2_:=(Option.bind_some _ _).symm.trans H;rw [hy187];with_reducible exact H2_)|(have H2_:=(Option.bind_some _ _).symm.trans H;with_reducible exact H2_)|with_reducible exact H|(rw [hy187];exact H)|exact H
      have Ny187:=Aside0.mk hy187
      clear hy187
      obtain ⟨y190,hy190⟩ : ∃ y_ : List (S44),y_ = (([] : List (S44))):=⟨_,rfl⟩
      replace H : (tidelinelaw09_MergeSteps.l0 kj3 l0 l1 l2 y187 y190 0) = some r:=by first|(rw [hy190];with_reducible exact H)|(have H2_:=(Option.bind_some _ _).symm.trans H;rw [hy190];with_reducible exact H2_)|(have H2_:=(Option.bind_some _ _).symm.trans H;with_reducible exact H2_)|with_reducible exact H|(rw [hy190];exact H)|exact H
      have Ny190:=Aside0.mk hy190
      clear hy190
      have H':=Aside0.mk H
      clear H
      go_wp2_with (first|((with_reducible refine gate_dst (N:=41) rfl ?_);(try (refine gate_guard (by rfl) ?_;dsimp only));refine Kd.R_lit k44 _ 44 ?hg (N:=41) ?hd (xs:=([] : List (S44))) (inner:=[]) (ok:=fun _ => True) (okp:=fun _ => True) ?hr ?hp (fun _ hk => hk) trivial (Below.refl _ _) (Nat.le_refl _) (by simp) ?_;(case hd => rfl);(case hg => rfl);(case hr => first|(go_simp;done)|(go_simp;rfl));(case hp => exact (Reps.none _ _));intro v182 w20 ho21 hb hg_ hnew_;clear hg_ hnew_;(first|rw [← Ny181.out] at ho21|(simp only [Int.reduceToNat] at ho21;rw [← Ny181.out] at ho21));have n0_:=Aside0.mk (Kd.R_lower ho21 (below_size (by repeat (first|(with_reducible first|exact HB.out|apply xA|apply xN|apply xD)|exact HB.out))));have n1_:=Aside0.mk (below_step (by repeat (first|(with_reducible first|exact HB.out|apply xA|apply xN|apply xD)|exact HB.out)) hb);clear HB;have HO183:=n0_;have HB:=n1_;clear n0_ n1_;clear hb ho21)|((with_reducible refine gate_builtin (b:=.append) (xs:=#[.tmp 42,.tmp 43]) rfl ?_);(try (refine gate_guard (by rfl) ?_;dsimp only));at_builtin;refine Kd.R_append_rows k44 (w0:=w) w.heap.size rfl (.tmp 42) (.tmp 43) 22 44 (.agg #[(.string ⟨#[]⟩),(.int .i64 0),(.int .i64 0),(.string ⟨#[]⟩),(.bool false)]) 56 rfl Try.underlying22 info44 rfl (by decide) (by omega) v182 y181 l0 _ _ _ (fun _ => True) (fun _ => False) rfl rfl ?aO ?aR (fun _ _ h => h) (fun _ h => h.elim) ?aF ?aB ?aS ?aL ?_;(case aR => repeat (first|exact (Kd.C_below HR0.out HB.out)|(with_reducible refine Kd.C_alloc ?_ _)|(with_reducible refine Kd.C_drewN ?_ _)|(with_reducible refine Kd.C_drew ?_)));(case aB => exact (by repeat (first|(with_reducible first|exact HB.out|apply xA|apply xN|apply xD)|exact HB.out)));(case aF => exact (fun _ _ => trivial));(case aO => exact (by (with_reducible repeat (first|apply Kd.R_alloc|apply Kd.R_drewN|apply Kd.R_drew));exact HO183.out));(case aS => exact (below_size (by repeat (first|(with_reducible first|exact HB.out|apply xA|apply xN|apply xD)|exact HB.out))));(case aL => have:=LMc18.out;omega);intro v185 w22 ho hb hg hat;rw [← Ny184.out] at ho;have n0_:=Aside0.mk (hb);have n1_:=Aside0.mk (ho);clear HB;clear HO183;have HB:=n0_;have HO186:=n1_;clear n0_ n1_;clear ho hb hg hat)|((with_reducible refine gate_builtin (b:=.append) (xs:=#[.tmp 45,.tmp 46]) rfl ?_);(try (refine gate_guard (by rfl) ?_;dsimp only));at_builtin;refine Kd.R_append_rows k44 (w0:=w) w.heap.size rfl (.tmp 45) (.tmp 46) 22 44 (.agg #[(.string ⟨#[]⟩),(.int .i64 0),(.int .i64 0),(.string ⟨#[]⟩),(.bool false)]) 56 rfl Try.underlying22 info44 rfl (by decide) (by omega) v185 y184 l1 _ _ _ (fun _ => True) (fun _ => False) rfl rfl ?aO ?aR (fun _ _ h => h) (fun _ h => h.elim) ?aF ?aB ?aS ?aL ?_;(case aR => repeat (first|exact (Kd.C_below HR1.out HB.out)|(with_reducible refine Kd.C_alloc ?_ _)|(with_reducible refine Kd.C_drewN ?_ _)|(with_reducible refine Kd.C_drew ?_)));(case aB => exact (by repeat (first|(with_reducible first|exact HB.out|apply xA|apply xN|apply xD)|exact HB.out)));(case aF => exact (fun _ _ => trivial));(case aO => exact (by (with_reducible repeat (first|apply Kd.R_alloc|apply Kd.R_drewN|apply Kd.R_drew));exact HO186.out));(case aS => exact (below_size (by repeat (first|(with_reducible first|exact HB.out|apply xA|apply xN|apply xD)|exact HB.out))));(case aL => have:=LMc19.out;omega);intro v188 w23 ho hb hg hat;rw [← Ny187.out] at ho;have n0_:=Aside0.mk (hb);have n1_:=Aside0.mk (ho);clear HB;clear HO186;have HB:=n0_;have HO189:=n1_;clear n0_ n1_;clear ho hb hg hat)|((with_reducible refine gate_dst (N:=48) rfl ?_);(try (refine gate_guard (by rfl) ?_;dsimp only));refine Kd.R_lit k44 _ 44 ?hg (N:=48) ?hd (xs:=([] : List (S44))) (inner:=[]) (ok:=fun _ => True) (okp:=fun _ => True) ?hr ?hp (fun _ hk => hk) trivial (Below.refl _ _) (Nat.le_refl _) (by simp) ?_;(case hd => rfl);(case hg => rfl);(case hr => first|(go_simp;done)|(go_simp;rfl));(case hp => exact (Reps.none _ _));intro v191 w24 ho25 hb hg_ hnew_;clear hg_ hnew_;(first|rw [← Ny190.out] at ho25|(simp only [Int.reduceToNat] at ho25;rw [← Ny190.out] at ho25));have n0_:=Aside0.mk (Kd.R_elder' (by (with_reducible repeat (first|apply Kd.R_alloc|apply Kd.R_drewN|apply Kd.R_drew));exact HO189.out) (Kd.R_base ho25) hb);have n1_:=Aside0.mk (Kd.R_lower (Kd.R_new' ho25 (Kd.R_lt (by (with_reducible repeat (first|apply Kd.R_alloc|apply Kd.R_drewN|apply Kd.R_drew));exact HO189.out))) (below_size (by repeat (first|(with_reducible first|exact HB.out|apply xA|apply xN|apply xD)|exact HB.out))));have n2_:=Aside0.mk (below_step (by repeat (first|(with_reducible first|exact HB.out|apply xA|apply xN|apply xD)|exact HB.out)) hb);clear HO189;clear HB;have HO189:=n0_;have HO192:=n1_;have HB:=n2_;clear n0_ n1_ n2_;clear hb ho25))
      go_loopg [7,8,9] kj3 (fun kq v7 v8 v9 w' => ∃ (x7_2 : List (S44)) (x8_2 : List (S44)) (x9_2 : Int),v9 = .int .i64 x9_2 ∧ Aside0 (tidelinelaw09_MergeSteps.l0 kq l0 l1 l2 x7_2 x8_2 x9_2 = some r) ∧ Aside0 (kq ≤ kj3) ∧ Aside0 (Kd.R k44 44 w' w.heap.size (fun k_ => some k_ ≠ (v8 : Value).ownBlock) v7 x7_2) ∧ Aside0 (Kd.R k44 44 w' w.heap.size (fun k_ => some k_ ≠ (v7 : Value).ownBlock) v8 x8_2) ∧ Aside0 (Below w.heap.size w w'))
      case atStart => exact ⟨(y187),(y190),(0),(by first|rfl|(simp;done)|(simp [*];done)|(simp [*,Go.Proofs.Ytghlellambnkeaa.Str.bne_nil];done)),H',⟨Nat.le_refl _⟩,⟨by (with_reducible repeat (first|apply Kd.R_alloc|apply Kd.R_drewN|apply Kd.R_drew));exact Kd.R_mono HO189.out (fun _ hk => hk.2)⟩,⟨by (with_reducible repeat (first|apply Kd.R_alloc|apply Kd.R_drewN|apply Kd.R_drew));exact Kd.R_mono HO192.out (fun _ hk => hk.2)⟩,⟨by repeat (first|(with_reducible first|exact HB.out|apply xA|apply xN|apply xD)|exact HB.out)⟩⟩
      case round =>
       clear H'
       try clear c1
       try clear c2
       try clear p2
       try clear c6
       try clear c8
       try clear c8b0
       try clear c8b1
       try clear c10
       try clear c10b0
       try clear c10b1
       try clear c12
       try clear c12b0
       try clear c12b1
       try clear c17
       try clear c18
       try clear c19
       try clear p2
       obtain ⟨x7_2,x8_2,x9_2,rfl,HA,HK2,HO_7,HO_8,HB⟩:=hrel
       cases gk with
      |zero => exact absurd HA.out (by simp [tidelinelaw09_MergeSteps.l0])
      |succ k2 =>
        have H:=HA.out
        clear HA
        simp only [tidelinelaw09_MergeSteps.l0] at H
        by_cases c26 : (x7_2.length : Int) > 0
        ·rw [if_pos c26] at H
         have c26b0 : decide (0 < (x7_2.length : Int)) = true:=decide_eq_true c26
         have c26b1 : decide (0 < x7_2.length) = true:=decide_eq_true (by omega)
         clear c26
         by_cases c27 : x9_2 < (l2.length : Int)
         ·rw [if_pos c27] at H
          have c27b0 : decide (x9_2 < (l2.length : Int)) = true:=decide_eq_true c27
          clear c27
          by_cases c28 : 0 ≤ x9_2
          ·rw [if_pos c28] at H
           have c28b0 : decide (0 ≤ x9_2) = true:=decide_eq_true c28
           clear c28
           by_cases c29 : (x7_2.length : Int) = 0
           ·rw [if_pos c29] at H
            exact absurd H (by simp)
           ·rw [if_neg c29] at H
            have c29b0 : ((x7_2.length : Int) == 0) = false:=beq_eq_false_iff_ne.mpr c29
            have c29b1 : ((x7_2.length : Int) != 0) = true:=bne_iff_ne.mpr c29
            have c29b2 : ¬ (x7_2 = []):=fun h_ => c29 (by rw [h_];rfl)
            obtain ⟨ji30,hji30⟩ : ∃ j_ : Int,(Int.tmod (wrap64 ((Int.tmod (rd l2 x9_2) (x7_2.length : Int)) + (x7_2.length : Int))) (x7_2.length : Int)) = j_:=⟨_,rfl⟩
            replace H : (if 0 ≤ (ji30) then (if (ji30) < (x7_2.length : Int) then ((merge_Max.f k2 x8_2 (([(⟨(rd_T44 x7_2 (ji30)).f0,(⟨(rd_T44 x7_2 (ji30)).f1.f0,(rd_T44 x7_2 (ji30)).f1.f1⟩ : S42),(rd_T44 x7_2 (ji30)).f2,(rd_T44 x7_2 (ji30)).f3⟩ : S44)] : List (S44)))).bind fun bt203 => (if bt203.2 = 0 then (if 0 ≤ (wrap64 ((x7_2.length : Int) - 1)) then (if (wrap64 ((x7_2.length : Int) - 1)) < (x7_2.length : Int) then (if (wrap64 ((x7_2.length : Int) - 1)) ≤ (x7_2.length : Int) then (tidelinelaw09_MergeSteps.l0 k2 l0 l1 l2 ((x7_2.set ((ji30) : Int).toNat (⟨(rd_T44 x7_2 (wrap64 ((x7_2.length : Int) - 1))).f0,(⟨(rd_T44 x7_2 (wrap64 ((x7_2.length : Int) - 1))).f1.f0,(rd_T44 x7_2 (wrap64 ((x7_2.length : Int) - 1))).f1.f1⟩ : S42),(rd_T44 x7_2 (wrap64 ((x7_2.length : Int) - 1))).f2,(rd_T44 x7_2 (wrap64 ((x7_2.length : Int) - 1))).f3⟩ : S44)).take ((wrap64 ((x7_2.length : Int) - 1)) : Int).toNat) bt203.1 (wrap64 (x9_2 + 1))) else (none)) else (none)) else (none)) else (none))) else (none)) else (none)) = some r:=by first|(rw [hji30] at H;exact H)|(simp only [hji30] at H ⊢;exact H)
            by_cases c31 : 0 ≤ (ji30)
            ·rw [if_pos c31] at H
             have c31b0 : decide (0 ≤ (ji30)) = true:=decide_eq_true c31
             clear c31
             by_cases c32 : (ji30) < (x7_2.length : Int)
             ·rw [if_pos c32] at H
              have c32b0 : decide ((ji30) < (x7_2.length : Int)) = true:=decide_eq_true c32
              clear c32
              obtain ⟨y200,hy200⟩ : ∃ y_ : List (S44),y_ = (([(⟨(rd_T44 x7_2 (ji30)).f0,(⟨(rd_T44 x7_2 (ji30)).f1.f0,(rd_T44 x7_2 (ji30)).f1.f1⟩ : S42),(rd_T44 x7_2 (ji30)).f2,(rd_T44 x7_2 (ji30)).f3⟩ : S44)] : List (S44))):=⟨_,rfl⟩
              replace H : ((merge_Max.f k2 x8_2 y200).bind fun bt203 => (if bt203.2 = 0 then (if 0 ≤ (wrap64 ((x7_2.length : Int) - 1)) then (if (wrap64 ((x7_2.length : Int) - 1)) < (x7_2.length : Int) then (if (wrap64 ((x7_2.length : Int) - 1)) ≤ (x7_2.length : Int) then (tidelinelaw09_MergeSteps.l0 k2 l0 l1 l2 ((x7_2.set ((ji30) : Int).toNat (⟨(rd_T44 x7_2 (wrap64 ((x7_2.length : Int) - 1))).f0,(⟨(rd_T44 x7_2 (wrap64 ((x7_2.length : Int) - 1))).f1.f0,(rd_T44 x7_2 (wrap64 ((x7_2.length : Int) - 1))).f1.f1⟩ : S42),(rd_T44 x7_2 (wrap64 ((x7_2.length : Int) - 1))).f2,(rd_T44 x7_2 (wrap64 ((x7_2.length : Int) - 1))).f3⟩ : S44)).take ((wrap64 ((x7_2.length : Int) - 1)) : Int).toNat) bt203.1 (wrap64 (x9_2 + 1))) else (none)) else (none)) else (none)) else (none))) = some r:=by first|(rw [hy200];with_reducible exact H)|(have H2_:=(Option.bind_some _ _).symm.trans H;rw [hy200];with_reducible exact H2_)|(have H2_:=(Option.bind_some _ _).symm.trans H;with_reducible exact H2_)|with_reducible exact H|(rw [hy200];exact H)|exact H
              have Ny200:=Aside0.mk hy200
              clear hy200
              replace H:=Option.bind_eq_some_iff.mp H
              obtain ⟨⟨t203,t204⟩,A330,H⟩:=H
              replace H : (if t204 = 0 then (if 0 ≤ (wrap64 ((x7_2.length : Int) - 1)) then (if (wrap64 ((x7_2.length : Int) - 1)) < (x7_2.length : Int) then (if (wrap64 ((x7_2.length : Int) - 1)) ≤ (x7_2.length : Int) then (tidelinelaw09_MergeSteps.l0 k2 l0 l1 l2 ((x7_2.set ((ji30) : Int).toNat (⟨(rd_T44 x7_2 (wrap64 ((x7_2.length : Int) - 1))).f0,(⟨(rd_T44 x7_2 (wrap64 ((x7_2.length : Int) - 1))).f1.f0,(rd_T44 x7_2 (wrap64 ((x7_2.length : Int) - 1))).f1.f1⟩ : S42),(rd_T44 x7_2 (wrap64 ((x7_2.length : Int) - 1))).f2,(rd_T44 x7_2 (wrap64 ((x7_2.length : Int) - 1))).f3⟩ : S44)).take ((wrap64 ((x7_2.length : Int) - 1)) : Int).toNat) t203 (wrap64 (x9_2 + 1))) else (none)) else (none)) else (none)) else (none)) = some r:=H
              have A33:=Aside0.mk A330
              clear A330
              by_cases c34 : t204 = 0
              ·rw [if_pos c34] at H
               have c34b0 : (t204 == 0) = true:=beq_iff_eq.mpr c34
               have c34b1 : (t204 != 0) = false:=bne_eq_false_iff_eq.mpr c34
               clear c34
               obtain ⟨ji35,hji35⟩ : ∃ j_ : Int,(wrap64 ((x7_2.length : Int) - 1)) = j_:=⟨_,rfl⟩
               replace H : (if 0 ≤ (ji35) then (if (ji35) < (x7_2.length : Int) then (if (ji35) ≤ (x7_2.length : Int) then (tidelinelaw09_MergeSteps.l0 k2 l0 l1 l2 ((x7_2.set ((ji30) : Int).toNat (⟨(rd_T44 x7_2 (ji35)).f0,(⟨(rd_T44 x7_2 (ji35)).f1.f0,(rd_T44 x7_2 (ji35)).f1.f1⟩ : S42),(rd_T44 x7_2 (ji35)).f2,(rd_T44 x7_2 (ji35)).f3⟩ : S44)).take ((ji35) : Int).toNat) t203 (wrap64 (x9_2 + 1))) else (none)) else (none)) else (none)) = some r:=by first|(rw [hji35] at H;exact H)|(simp only [hji35] at H ⊢;exact H)
               (try rw [hji35] at A33)
               have hji35w : (IntKind.i64.wrap ((x7_2.length : Int) - 1)) = ji35:=(i64_w _).trans hji35
               by_cases c36 : 0 ≤ (ji35)
               ·rw [if_pos c36] at H
                have c36b0 : decide (0 ≤ (ji35)) = true:=decide_eq_true c36
                clear c36
                by_cases c37 : (ji35) < (x7_2.length : Int)
                ·rw [if_pos c37] at H
                 have c37b0 : decide ((ji35) < (x7_2.length : Int)) = true:=decide_eq_true c37
                 clear c37
                 obtain ⟨y208,hy208⟩ : ∃ y_ : List (S44),y_ = (x7_2.set ((ji30) : Int).toNat (⟨(rd_T44 x7_2 (ji35)).f0,(⟨(rd_T44 x7_2 (ji35)).f1.f0,(rd_T44 x7_2 (ji35)).f1.f1⟩ : S42),(rd_T44 x7_2 (ji35)).f2,(rd_T44 x7_2 (ji35)).f3⟩ : S44)):=⟨_,rfl⟩
                 replace H : (if (ji35) ≤ (x7_2.length : Int) then (tidelinelaw09_MergeSteps.l0 k2 l0 l1 l2 (y208.take ((ji35) : Int).toNat) t203 (wrap64 (x9_2 + 1))) else (none)) = some r:=by first|(rw [hy208];with_reducible exact H)|(have H2_:=(Option.bind_some _ _).symm.trans H;rw [hy208];with_reducible exact H2_)|(have H2_:=(Option.bind_some _ _).symm.trans H;with_reducible exact H2_)|with_reducible exact H|(rw [hy208];exact H)|exact H
                 have Ny208:=Aside0.mk hy208
                 clear hy208
                 by_cases c39 : (ji35) ≤ (x7_2.length : Int)
                 ·rw [if_pos c39] at H
                  have c39b0:=eq_true c39
                  have c39b1 : decide ((ji35) ≤ (x7_2.length : Int)) = true:=decide_eq_true c39
                  clear c39
                  obtain ⟨y209,hy209⟩ : ∃ y_ : List (S44),y_ = (y208.take ((ji35) : Int).toNat):=⟨_,rfl⟩
                  replace H : (tidelinelaw09_MergeSteps.l0 k2 l0 l1 l2 y209 t203 (wrap64 (x9_2 + 1))) = some r:=by first|(rw [hy209];with_reducible exact H)|(have H2_:=(Option.bind_some _ _).symm.trans H;rw [hy209];with_reducible exact H2_)|(have H2_:=(Option.bind_some _ _).symm.trans H;with_reducible exact H2_)|with_reducible exact H|(rw [hy209];exact H)|exact H
                  have Ny209:=Aside0.mk hy209
                  clear hy209
                  have H':=Aside0.mk H
                  clear H
                  obtain ⟨Ao40,co40,eo40⟩:=Kd.R_slice HO_7.out
                  subst eo40
                  have p198 : 0 ≤ (x9_2 : Int):=of_decide_eq_true (by first|(with_reducible assumption)|assumption)
                  have q198 : x9_2 < (l2.length : Int):=of_decide_eq_true (by first|(with_reducible assumption)|assumption)
                  obtain ⟨ad198,e198,hx198_0⟩:=Kd.at_int HR2.out x9_2 p198 q198
                  cases e198
                  replace hx198_0:=(HB.out.cell (World.block_lt_of_cell? w _ hx198_0)).trans hx198_0
                  replace p198:=eq_true p198
                  replace q198:=eq_true q198
                  have p199 : 0 ≤ ((ji30) : Int):=of_decide_eq_true (by first|(with_reducible assumption)|assumption)
                  have q199 : (ji30) < (x7_2.length : Int):=of_decide_eq_true (by first|(with_reducible assumption)|assumption)
                  obtain ⟨ad199,e199,hx199_0,hx199_1,hx199_2,hx199_3,hx199_4⟩:=at_T44 (Kd.R_reads' HO_7.out).2.2 (ji30) p199 q199
                  cases e199
                  replace p199:=eq_true p199
                  replace q199:=eq_true q199
                  go_wp2_with (first|((with_reducible refine gate_dst (N:=75) rfl ?_);(try (refine gate_guard (by rfl) ?_;dsimp only));refine Kd.R_lit k44 _ 44 ?hg (N:=75) ?hd (xs:=([(⟨(rd_T44 x7_2 (ji30)).f0,(⟨(rd_T44 x7_2 (ji30)).f1.f0,(rd_T44 x7_2 (ji30)).f1.f1⟩ : S42),(rd_T44 x7_2 (ji30)).f2,(rd_T44 x7_2 (ji30)).f3⟩ : S44)] : List (S44))) (inner:=[.string ((rd_T44 x7_2 (ji30)).f0),.int .i64 ((rd_T44 x7_2 (ji30)).f1.f0),.int .i64 ((rd_T44 x7_2 (ji30)).f1.f1),.string ((rd_T44 x7_2 (ji30)).f2),.bool ((rd_T44 x7_2 (ji30)).f3)]) (ok:=fun _ => True) (okp:=fun _ => True) ?hr ?hp (fun _ hk => hk) trivial (Below.refl _ _) (Nat.le_refl _) (by simp) ?_;(case hd => rfl);(case hg => rfl);(case hr => first|(go_simp;done)|(go_simp;rfl));(case hp => exact (Reps.c5 (show Kd.M k44 _ _ _ (⟨(rd_T44 x7_2 (ji30)).f0,(⟨(rd_T44 x7_2 (ji30)).f1.f0,(rd_T44 x7_2 (ji30)).f1.f1⟩ : S42),(rd_T44 x7_2 (ji30)).f2,(rd_T44 x7_2 (ji30)).f3⟩ : S44) [.string ((rd_T44 x7_2 (ji30)).f0),.int .i64 ((rd_T44 x7_2 (ji30)).f1.f0),.int .i64 ((rd_T44 x7_2 (ji30)).f1.f1),.string ((rd_T44 x7_2 (ji30)).f2),.bool ((rd_T44 x7_2 (ji30)).f3)] from (k44_mkM _ _ _ (⟨(rd_T44 x7_2 (ji30)).f0,(⟨(rd_T44 x7_2 (ji30)).f1.f0,(rd_T44 x7_2 (ji30)).f1.f1⟩ : S42),(rd_T44 x7_2 (ji30)).f2,(rd_T44 x7_2 (ji30)).f3⟩ : S44) )) (Reps.none _ _)));intro v201 w41 ho42 hb hg_ hnew_;clear hg_ hnew_;(first|rw [← Ny200.out] at ho42|(simp only [Int.reduceToNat] at ho42;rw [← Ny200.out] at ho42));have n0_:=Aside0.mk (Kd.R_elder' (by (with_reducible repeat (first|apply Kd.R_alloc|apply Kd.R_drewN|apply Kd.R_drew));exact HO_7.out) (Kd.R_base ho42) hb);have n1_:=Aside0.mk (Kd.R_elder' (by (with_reducible repeat (first|apply Kd.R_alloc|apply Kd.R_drewN|apply Kd.R_drew));exact HO_8.out) (Kd.R_base ho42) hb);have n2_:=Aside0.mk (Kd.R_lower (Kd.R_new' (Kd.R_new' ho42 (Kd.R_lt (by (with_reducible repeat (first|apply Kd.R_alloc|apply Kd.R_drewN|apply Kd.R_drew));exact HO_7.out))) (Kd.R_lt (by (with_reducible repeat (first|apply Kd.R_alloc|apply Kd.R_drewN|apply Kd.R_drew));exact HO_8.out))) (below_size (by repeat (first|(with_reducible first|exact HB.out|apply xA|apply xN|apply xD)|exact HB.out))));have n3_:=Aside0.mk (below_step (by repeat (first|(with_reducible first|exact HB.out|apply xA|apply xN|apply xD)|exact HB.out)) hb);clear HO_7;clear HO_8;clear HB;have HO_7:=n0_;have HO_8:=n1_;have HO202:=n2_;have HB:=n3_;clear n0_ n1_ n2_ n3_;clear hb ho42;obtain ⟨Ao43,co43,eo43⟩:=Kd.R_slice HO_8.out;subst eo43;obtain ⟨Ao44,co44,eo44⟩:=Kd.R_slice HO202.out;subst eo44)|((with_reducible refine gate_callee (f:=25) rfl ?_);refine goesL_ (some 79) rfl rfl Try.func25 (by kernel_rfl) rfl #[.slice Ao43 x8_2.length co43,.slice Ao44 y200.length co44] rfl (by (try simp only [List.map_toArray,List.map_cons,List.map_nil]);first|done|rfl|(simp only [List.length_drop,List.length_take];rfl)) ?_;(with_reducible refine (merge_Max.calls k2 _ _ x8_2 _ _ y200 t203 t204 _ ?side1 ?side2 ?side3 ?side4 A33.out).mono ?_);(case side1 => repeat (first|exact (Kd.R_reads' HO_8.out).2.2|(with_reducible refine Kd.C_alloc ?_ _)|(with_reducible refine Kd.C_drewN ?_ _)|(with_reducible refine Kd.C_drew ?_)));(case side2 => exact (Kd.R_reads' HO_8.out).2.1);(case side3 => repeat (first|exact (Kd.R_reads' HO202.out).2.2|(with_reducible refine Kd.C_alloc ?_ _)|(with_reducible refine Kd.C_drewN ?_ _)|(with_reducible refine Kd.C_drew ?_)));(case side4 => exact (Kd.R_reads' HO202.out).2.1);rintro e w45 ⟨v205,rfl,ho0,hb⟩;refine ⟨_,rfl,?_⟩;have n0_:=Aside0.mk (Kd.R_elder' (by (with_reducible repeat (first|apply Kd.R_alloc|apply Kd.R_drewN|apply Kd.R_drew));exact HO_7.out) (Kd.R_base ho0) hb);have n1_:=Aside0.mk (Kd.R_elder' (by (with_reducible repeat (first|apply Kd.R_alloc|apply Kd.R_drewN|apply Kd.R_drew));exact HO_8.out) (Kd.R_base ho0) hb);have n2_:=Aside0.mk (Kd.R_elder' (by (with_reducible repeat (first|apply Kd.R_alloc|apply Kd.R_drewN|apply Kd.R_drew));exact HO202.out) (Kd.R_base ho0) hb);have n3_:=Aside0.mk (Kd.R_lower (Kd.R_new' (Kd.R_new' (Kd.R_new' ho0 (Kd.R_lt (by (with_reducible repeat (first|apply Kd.R_alloc|apply Kd.R_drewN|apply Kd.R_drew));exact HO_7.out))) (Kd.R_lt (by (with_reducible repeat (first|apply Kd.R_alloc|apply Kd.R_drewN|apply Kd.R_drew));exact HO_8.out))) (Kd.R_lt (by (with_reducible repeat (first|apply Kd.R_alloc|apply Kd.R_drewN|apply Kd.R_drew));exact HO202.out))) (below_size (by repeat (first|(with_reducible first|exact HB.out|apply xA|apply xN|apply xD)|exact HB.out))));have n4_:=Aside0.mk (below_step (by repeat (first|(with_reducible first|exact HB.out|apply xA|apply xN|apply xD)|exact HB.out)) hb);clear HO_7;clear HO_8;clear HO202;clear HB;have HO_7:=n0_;have HO_8:=n1_;have HO202:=n2_;have HO206:=n3_;have HB:=n4_;clear n0_ n1_ n2_ n3_ n4_;(try clear hb);(try clear hb2);(try clear hk);(try clear hi);(try clear ho0);have p207 : 0 ≤ ((ji35) : Int):=of_decide_eq_true (by first|(with_reducible assumption)|assumption);have q207 : (ji35) < (x7_2.length : Int):=of_decide_eq_true (by first|(with_reducible assumption)|assumption);obtain ⟨ad207,e207,hx207_0,hx207_1,hx207_2,hx207_3,hx207_4⟩:=at_T44 (Kd.R_reads' HO_7.out).2.2 (ji35) p207 q207;obtain rfl : ad199 = ad207:=(by injection e207);replace p207:=eq_true p207;replace q207:=eq_true q207;have p38 : 0 ≤ ((ji30) : Int):=of_decide_eq_true (by first|(with_reducible assumption)|assumption);have q38 : ((ji30) : Int) < ((x7_2.length : Int) : Int):=of_decide_eq_true (by first|(with_reducible assumption)|assumption);obtain ⟨go38,co38,eo38,gb38,gl38,cl38,HG38⟩:=Kd.R_form HO_7.out (by omega);(first|cases eo38|(injection eo38 with ea_ en_ ec_;(first|subst ea_|(injection ea_ with ea_;subst ea_));subst ec_;clear en_));have GB38:=Aside0.mk gb38;have GG38:=Aside0.mk HG38;clear gb38 gl38 HG38;(first|simp only [add_plain] at hx199_0|skip);(first|simp only [add_plain] at hx199_1|skip);(first|simp only [add_plain] at hx199_2|skip);(first|simp only [add_plain] at hx199_3|skip);(first|simp only [add_plain] at hx199_4|skip);(first|simp only [add_plain] at hx207_0|skip);(first|simp only [add_plain] at hx207_1|skip);(first|simp only [add_plain] at hx207_2|skip);(first|simp only [add_plain] at hx207_3|skip);(first|simp only [add_plain] at hx207_4|skip);obtain ⟨ce38,hcl38,hM38,hcc38,hfr38⟩:=Kd.R_elem HO_7.out z44 ((ji30) : Int) p38 q38;obtain rfl:=k44_openM hM38;have hx38_0 : w45.cell? ⟨go38,((ji30) : Int).toNat * 5,none⟩ = some (.string ((rd_T44 x7_2 (ji30)).f0)):=hcc38 0 _ rfl;have hx38_1 : w45.cell? ⟨go38,((ji30) : Int).toNat * 5 + 1,none⟩ = some (.int .i64 ((rd_T44 x7_2 (ji30)).f1.f0)):=hcc38 1 _ rfl;have hx38_2 : w45.cell? ⟨go38,((ji30) : Int).toNat * 5 + 2,none⟩ = some (.int .i64 ((rd_T44 x7_2 (ji30)).f1.f1)):=hcc38 2 _ rfl;have hx38_3 : w45.cell? ⟨go38,((ji30) : Int).toNat * 5 + 3,none⟩ = some (.string ((rd_T44 x7_2 (ji30)).f2)):=hcc38 3 _ rfl;have hx38_4 : w45.cell? ⟨go38,((ji30) : Int).toNat * 5 + 4,none⟩ = some (.bool ((rd_T44 x7_2 (ji30)).f3)):=hcc38 4 _ rfl;have hf38_0 : w45.frozen? ⟨go38,((ji30) : Int).toNat * 5,none⟩ = false:=hfr38 0;have hf38_1 : w45.frozen? ⟨go38,((ji30) : Int).toNat * 5 + 1,none⟩ = false:=hfr38 1;have hf38_2 : w45.frozen? ⟨go38,((ji30) : Int).toNat * 5 + 2,none⟩ = false:=hfr38 2;have hf38_3 : w45.frozen? ⟨go38,((ji30) : Int).toNat * 5 + 3,none⟩ = false:=hfr38 3;have hf38_4 : w45.frozen? ⟨go38,((ji30) : Int).toNat * 5 + 4,none⟩ = false:=hfr38 4;clear hcl38 hcc38 hfr38 hM38;replace p38:=eq_true p38;replace q38:=eq_true q38;have n_:=Aside0.mk (Kd.R_mono (ok':=(fun k_ => some k_ ≠ (.slice Ao43 x8_2.length co43 : Value).ownBlock ∧ some k_ ≠ (.slice Ao44 y200.length co44 : Value).ownBlock ∧ some k_ ≠ (v205 : Value).ownBlock)) HO_7.out (fun k_ hk => ⟨hk.1.1,⟨hk.1.2,hk.2⟩⟩));clear HO_7;have HO_7:=n_;clear n_;have HX46:=Aside0.mk (show Kd.R k44 44 w45 w.heap.size (fun k_ => some k_ ≠ (.slice Ao43 x8_2.length co43 : Value).ownBlock ∧ some k_ ≠ (.slice Ao44 y200.length co44 : Value).ownBlock ∧ some k_ ≠ (v205 : Value).ownBlock) (.slice (some ⟨go38,0,none⟩) x7_2.length co40) x7_2 from (by (with_reducible repeat (first|apply Kd.R_alloc|apply Kd.R_drewN|apply Kd.R_drew));exact HO_7.out));obtain ⟨ce46,hcl46,hM46,hcc46,hfr46⟩:=Kd.R_elem HX46.out z44 ((ji30) : Int) (of_decide_eq_true (by first|(with_reducible assumption)|assumption)) (by have h_ : ((ji30) : Int) < ((x7_2.length : Int) : Int):=of_decide_eq_true (by first|(with_reducible assumption)|assumption);first|exact h_|(have e_:=(Kd.R_reads' HO_7.out).1;omega)|simpa using h_);obtain rfl:=k44_openM hM46;have HP46:=Kd.R_seg HX46.out ((ji30) : Int) (of_decide_eq_true (by first|(with_reducible assumption)|assumption)) (by have h_ : ((ji30) : Int) < ((x7_2.length : Int) : Int):=of_decide_eq_true (by first|(with_reducible assumption)|assumption);first|exact h_|(have e_:=(Kd.R_reads' HO_7.out).1;omega)|simpa using h_) (seg:=[.string ((rd_T44 x7_2 (ji35)).f0),.int .i64 ((rd_T44 x7_2 (ji35)).f1.f0),.int .i64 ((rd_T44 x7_2 (ji35)).f1.f1),.string ((rd_T44 x7_2 (ji35)).f2),.bool ((rd_T44 x7_2 (ji35)).f3)]) (j:=0) hcl46 hcc46 (show 5 ≤ 5 from by decide) (x':=(⟨(rd_T44 x7_2 (ji35)).f0,(⟨(rd_T44 x7_2 (ji35)).f1.f0,(rd_T44 x7_2 (ji35)).f1.f1⟩ : S42),(rd_T44 x7_2 (ji35)).f2,(rd_T44 x7_2 (ji35)).f3⟩ : S44)) (k44_mkM _ _ _ (⟨(rd_T44 x7_2 (ji35)).f0,(⟨(rd_T44 x7_2 (ji35)).f1.f0,(rd_T44 x7_2 (ji35)).f1.f1⟩ : S42),(rd_T44 x7_2 (ji35)).f2,(rd_T44 x7_2 (ji35)).f3⟩ : S44) ) (fun _ hk => hk);have hx46_0:=hcc46 0 _ rfl;(try simp only [show (k44).sz = 5 from rfl,Nat.mul_one,Nat.add_zero] at hx46_0);have hf46_0:=hfr46 0;(try simp only [show (k44).sz = 5 from rfl,Nat.mul_one,Nat.add_zero] at hf46_0);have hx46_1:=hcc46 1 _ rfl;(try simp only [show (k44).sz = 5 from rfl,Nat.mul_one,Nat.add_zero] at hx46_1);have hf46_1:=hfr46 1;(try simp only [show (k44).sz = 5 from rfl,Nat.mul_one,Nat.add_zero] at hf46_1);have hx46_2:=hcc46 2 _ rfl;(try simp only [show (k44).sz = 5 from rfl,Nat.mul_one,Nat.add_zero] at hx46_2);have hf46_2:=hfr46 2;(try simp only [show (k44).sz = 5 from rfl,Nat.mul_one,Nat.add_zero] at hf46_2);have hx46_3:=hcc46 3 _ rfl;(try simp only [show (k44).sz = 5 from rfl,Nat.mul_one,Nat.add_zero] at hx46_3);have hf46_3:=hfr46 3;(try simp only [show (k44).sz = 5 from rfl,Nat.mul_one,Nat.add_zero] at hf46_3);have hx46_4:=hcc46 4 _ rfl;(try simp only [show (k44).sz = 5 from rfl,Nat.mul_one,Nat.add_zero] at hx46_4);have hf46_4:=hfr46 4;(try simp only [show (k44).sz = 5 from rfl,Nat.mul_one,Nat.add_zero] at hf46_4);clear hcl46 hcc46 hfr46 hM46)|((with_reducible refine gate_store (t:=44) (p:=93) rfl ?_);refine store_event (t:=44) (p:=93) (v:=?vo_w47) (w1:=(((((w45.setCell ⟨go38,((ji30) : Int).toNat * 5,none⟩ (.string ((rd_T44 x7_2 (ji35)).f0))).setCell ⟨go38,((ji30) : Int).toNat * 5 + 1,none⟩ (.int .i64 ((rd_T44 x7_2 (ji35)).f1.f0))).setCell ⟨go38,((ji30) : Int).toNat * 5 + 2,none⟩ (.int .i64 ((rd_T44 x7_2 (ji35)).f1.f1))).setCell ⟨go38,((ji30) : Int).toNat * 5 + 3,none⟩ (.string ((rd_T44 x7_2 (ji35)).f2))).setCell ⟨go38,((ji30) : Int).toNat * 5 + 4,none⟩ (.bool ((rd_T44 x7_2 (ji35)).f3)))) ?hg ?ho ?hn ?hr ?_;(case ho => rfl);(case hg => rfl);(case hn => rfl);(case hr => first|(go_simp;done)|(go_simp;rfl));intro w47 hw;have hg : w45.grownBy w47 (some go38):=(by rw [hw];exact HP46.2);have hp_ : Kd.R k44 44 w47 w.heap.size (fun k_ => some k_ ≠ (.slice Ao43 x8_2.length co43 : Value).ownBlock ∧ some k_ ≠ (.slice Ao44 y200.length co44 : Value).ownBlock ∧ some k_ ≠ (v205 : Value).ownBlock) (.slice (some ⟨go38,0,none⟩) x7_2.length co40) y208:=(by rw [hw,Ny208.out];exact HP46.1);clear HP46;replace HO_7:=Aside0.mk (hp_);replace HO_8:=Aside0.mk (Kd.R_after (v:=(.slice (some ⟨go38,0,none⟩) x7_2.length co40)) (v1:=(.slice (some ⟨go38,0,none⟩) x7_2.length co40)) (ok:=(fun k_ => some k_ ≠ (.slice Ao44 y200.length co44 : Value).ownBlock ∧ some k_ ≠ (v205 : Value).ownBlock)) (by (with_reducible repeat (first|apply Kd.R_alloc|apply Kd.R_drewN|apply Kd.R_drew));exact Kd.R_mono HO_8.out (fun _ hk => ⟨⟨hk.1.2,hk.2⟩,hk.1.1⟩)) hg (.inl rfl));replace HO202:=Aside0.mk (Kd.R_after (v:=(.slice (some ⟨go38,0,none⟩) x7_2.length co40)) (v1:=(.slice (some ⟨go38,0,none⟩) x7_2.length co40)) (ok:=(fun k_ => some k_ ≠ (.slice Ao43 x8_2.length co43 : Value).ownBlock ∧ some k_ ≠ (v205 : Value).ownBlock)) (by (with_reducible repeat (first|apply Kd.R_alloc|apply Kd.R_drewN|apply Kd.R_drew));exact Kd.R_mono HO202.out (fun _ hk => ⟨⟨hk.1.2,hk.2⟩,hk.1.1.2⟩)) hg (.inl rfl));replace HO206:=Aside0.mk (Kd.R_after (v:=(.slice (some ⟨go38,0,none⟩) x7_2.length co40)) (v1:=(.slice (some ⟨go38,0,none⟩) x7_2.length co40)) (ok:=(fun k_ => some k_ ≠ (.slice Ao43 x8_2.length co43 : Value).ownBlock ∧ some k_ ≠ (.slice Ao44 y200.length co44 : Value).ownBlock)) (by (with_reducible repeat (first|apply Kd.R_alloc|apply Kd.R_drewN|apply Kd.R_drew));exact Kd.R_mono HO206.out (fun _ hk => ⟨⟨hk.1.2,hk.2⟩,hk.1.1.2⟩)) hg (.inl rfl));replace HB:=Aside0.mk ((by rw [hw];exact below_set (below_set (below_set (below_set (below_set (HB.out) GB38.out) GB38.out) GB38.out) GB38.out) GB38.out : Below w.heap.size w w47));clear hg hw hp_;have q48 : ((ji35) : Int) ≤ ((x7_2.length : Int) : Int):=of_decide_eq_true (by first|(with_reducible assumption)|assumption);obtain ⟨i048,hi048,_,hsz48,_⟩:=info_parts info44;have hcut48:=cut_to (P:=Try.prog) 22 44 .i64 Try.underlying22 hi048 (some ⟨go38,0,none⟩) x7_2.length co40 (ji35) (of_decide_eq_true (by first|(with_reducible assumption)|assumption)) q48 (Kd.R_reads' HO_7.out).2.1;have hl_:=congrArg List.length Ny208.out;rw [List.length_set] at hl_;have hr48:=Kd.R_take (m:=((ji35) : Int).toNat) HO_7.out (by omega);have hy48 : y209.length = ((ji35) : Int).toNat:=(by rw [Ny209.out,List.length_take];omega);clear hl_;rw [← Ny209.out] at hr48;rw [← hy48] at hr48 hcut48;clear hy48 hi048 hsz48 HO_7;have HO211:=Aside0.mk hr48;clear hr48;replace q48:=eq_true q48))
                  go_roundg k2
                  case measure => have:=HJ3.out;have:=HK2.out;omega
                  case rel => exact ⟨(y209),(t203),(wrap64 (x9_2 + 1)),(by first|rfl|(simp;done)|(simp [*];done)|(simp [*,Go.Proofs.Ytghlellambnkeaa.Str.bne_nil];done)),H',⟨by have:=HJ3.out;have:=HK2.out;omega⟩,⟨by (with_reducible repeat (first|apply Kd.R_alloc|apply Kd.R_drewN|apply Kd.R_drew));exact Kd.R_mono HO211.out (fun _ hk => hk.2.2)⟩,⟨by (with_reducible repeat (first|apply Kd.R_alloc|apply Kd.R_drewN|apply Kd.R_drew));exact Kd.R_mono HO206.out (fun _ hk => hk.2)⟩,⟨by repeat (first|(with_reducible first|exact HB.out|apply xA|apply xN|apply xD)|exact HB.out)⟩⟩
                 ·rw [if_neg c39] at H
                  exact absurd H (by simp)
                ·rw [if_neg c37] at H
                 exact absurd H (by simp)
               ·rw [if_neg c36] at H
                exact absurd H (by simp)
              ·rw [if_neg c34] at H
               exact absurd H (by simp)
             ·rw [if_neg c32] at H
              exact absurd H (by simp)
            ·rw [if_neg c31] at H
             exact absurd H (by simp)
          ·rw [if_neg c28] at H
           exact absurd H (by simp)
         ·rw [if_neg c27] at H
          have c27b0 : decide (x9_2 < (l2.length : Int)) = false:=decide_eq_false c27
          clear c27
          by_cases c49 : 0 < (x7_2.length : Int)
          ·rw [if_pos c49] at H
           have c49b0 : decide (0 < (x7_2.length : Int)) = true:=decide_eq_true c49
           have c49b1 : decide (0 < x7_2.length) = true:=decide_eq_true (by omega)
           clear c49
           obtain ⟨y213,hy213⟩ : ∃ y_ : List (S44),y_ = (([(⟨(rd_T44 x7_2 0).f0,(⟨(rd_T44 x7_2 0).f1.f0,(rd_T44 x7_2 0).f1.f1⟩ : S42),(rd_T44 x7_2 0).f2,(rd_T44 x7_2 0).f3⟩ : S44)] : List (S44))):=⟨_,rfl⟩
           replace H : ((merge_Max.f k2 x8_2 y213).bind fun bt216 => (if bt216.2 = 0 then (if 0 ≤ (wrap64 ((x7_2.length : Int) - 1)) then (if (wrap64 ((x7_2.length : Int) - 1)) < (x7_2.length : Int) then (if (wrap64 ((x7_2.length : Int) - 1)) ≤ (x7_2.length : Int) then (tidelinelaw09_MergeSteps.l0 k2 l0 l1 l2 ((x7_2.set (0 : Int).toNat (⟨(rd_T44 x7_2 (wrap64 ((x7_2.length : Int) - 1))).f0,(⟨(rd_T44 x7_2 (wrap64 ((x7_2.length : Int) - 1))).f1.f0,(rd_T44 x7_2 (wrap64 ((x7_2.length : Int) - 1))).f1.f1⟩ : S42),(rd_T44 x7_2 (wrap64 ((x7_2.length : Int) - 1))).f2,(rd_T44 x7_2 (wrap64 ((x7_2.length : Int) - 1))).f3⟩ : S44)).take ((wrap64 ((x7_2.length : Int) - 1)) : Int).toNat) bt216.1 (wrap64 (x9_2 + 1))) else (none)) else (none)) else (none)) else (none))) = some r:=by first|(rw [hy213];with_reducible exact H)|(have H2_:=(Option.bind_some _ _).symm.trans H;rw [hy213];with_reducible exact H2_)|(have H2_:=(Option.bind_some _ _).symm.trans H;with_reducible exact H2_)|with_reducible exact H|(rw [hy213];exact H)|exact H
           have Ny213:=Aside0.mk hy213
           clear hy213
           replace H:=Option.bind_eq_some_iff.mp H
           obtain ⟨⟨t216,t217⟩,A500,H⟩:=H
           replace H : (if t217 = 0 then (if 0 ≤ (wrap64 ((x7_2.length : Int) - 1)) then (if (wrap64 ((x7_2.length : Int) - 1)) < (x7_2.length : Int) then (if (wrap64 ((x7_2.length : Int) - 1)) ≤ (x7_2.length : Int) then (tidelinelaw09_MergeSteps.l0 k2 l0 l1 l2 ((x7_2.set (0 : Int).toNat (⟨(rd_T44 x7_2 (wrap64 ((x7_2.length : Int) - 1))).f0,(⟨(rd_T44 x7_2 (wrap64 ((x7_2.length : Int) - 1))).f1.f0,(rd_T44 x7_2 (wrap64 ((x7_2.length : Int) - 1))).f1.f1⟩ : S42),(rd_T44 x7_2 (wrap64 ((x7_2.length : Int) - 1))).f2,(rd_T44 x7_2 (wrap64 ((x7_2.length : Int) - 1))).f3⟩ : S44)).take ((wrap64 ((x7_2.length : Int) - 1)) : Int).toNat) t216 (wrap64 (x9_2 + 1))) else (none)) else (none)) else (none)) else (none)) = some r:=H
           have A50:=Aside0.mk A500
           clear A500
           by_cases c51 : t217 = 0
           ·rw [if_pos c51] at H
            have c51b0 : (t217 == 0) = true:=beq_iff_eq.mpr c51
            have c51b1 : (t217 != 0) = false:=bne_eq_false_iff_eq.mpr c51
            clear c51
            obtain ⟨ji52,hji52⟩ : ∃ j_ : Int,(wrap64 ((x7_2.length : Int) - 1)) = j_:=⟨_,rfl⟩
            replace H : (if 0 ≤ (ji52) then (if (ji52) < (x7_2.length : Int) then (if (ji52) ≤ (x7_2.length : Int) then (tidelinelaw09_MergeSteps.l0 k2 l0 l1 l2 ((x7_2.set (0 : Int).toNat (⟨(rd_T44 x7_2 (ji52)).f0,(⟨(rd_T44 x7_2 (ji52)).f1.f0,(rd_T44 x7_2 (ji52)).f1.f1⟩ : S42),(rd_T44 x7_2 (ji52)).f2,(rd_T44 x7_2 (ji52)).f3⟩ : S44)).take ((ji52) : Int).toNat) t216 (wrap64 (x9_2 + 1))) else (none)) else (none)) else (none)) = some r:=by first|(rw [hji52] at H;exact H)|(simp only [hji52] at H ⊢;exact H)
            (try rw [hji52] at A50)
            have hji52w : (IntKind.i64.wrap ((x7_2.length : Int) - 1)) = ji52:=(i64_w _).trans hji52
            by_cases c53 : 0 ≤ (ji52)
            ·rw [if_pos c53] at H
             have c53b0 : decide (0 ≤ (ji52)) = true:=decide_eq_true c53
             clear c53
             by_cases c54 : (ji52) < (x7_2.length : Int)
             ·rw [if_pos c54] at H
              have c54b0 : decide ((ji52) < (x7_2.length : Int)) = true:=decide_eq_true c54
              clear c54
              obtain ⟨y221,hy221⟩ : ∃ y_ : List (S44),y_ = (x7_2.set (0 : Int).toNat (⟨(rd_T44 x7_2 (ji52)).f0,(⟨(rd_T44 x7_2 (ji52)).f1.f0,(rd_T44 x7_2 (ji52)).f1.f1⟩ : S42),(rd_T44 x7_2 (ji52)).f2,(rd_T44 x7_2 (ji52)).f3⟩ : S44)):=⟨_,rfl⟩
              replace H : (if (ji52) ≤ (x7_2.length : Int) then (tidelinelaw09_MergeSteps.l0 k2 l0 l1 l2 (y221.take ((ji52) : Int).toNat) t216 (wrap64 (x9_2 + 1))) else (none)) = some r:=by first|(rw [hy221];with_reducible exact H)|(have H2_:=(Option.bind_some _ _).symm.trans H;rw [hy221];with_reducible exact H2_)|(have H2_:=(Option.bind_some _ _).symm.trans H;with_reducible exact H2_)|with_reducible exact H|(rw [hy221];exact H)|exact H
              have Ny221:=Aside0.mk hy221
              clear hy221
              by_cases c56 : (ji52) ≤ (x7_2.length : Int)
              ·rw [if_pos c56] at H
               have c56b0:=eq_true c56
               have c56b1 : decide ((ji52) ≤ (x7_2.length : Int)) = true:=decide_eq_true c56
               clear c56
               obtain ⟨y222,hy222⟩ : ∃ y_ : List (S44),y_ = (y221.take ((ji52) : Int).toNat):=⟨_,rfl⟩
               replace H : (tidelinelaw09_MergeSteps.l0 k2 l0 l1 l2 y222 t216 (wrap64 (x9_2 + 1))) = some r:=by first|(rw [hy222];with_reducible exact H)|(have H2_:=(Option.bind_some _ _).symm.trans H;rw [hy222];with_reducible exact H2_)|(have H2_:=(Option.bind_some _ _).symm.trans H;with_reducible exact H2_)|with_reducible exact H|(rw [hy222];exact H)|exact H
               have Ny222:=Aside0.mk hy222
               clear hy222
               have H':=Aside0.mk H
               clear H
               obtain ⟨Ao57,co57,eo57⟩:=Kd.R_slice HO_7.out
               subst eo57
               have p212 : 0 ≤ (0 : Int):=(by omega)
               have q212 : 0 < (x7_2.length : Int):=of_decide_eq_true (by first|(with_reducible assumption)|assumption)
               obtain ⟨ad212,e212,hx212_0,hx212_1,hx212_2,hx212_3,hx212_4⟩:=at_T44 (Kd.R_reads' HO_7.out).2.2 0 p212 q212
               cases e212
               have qi212 : (0 < x7_2.length) = True:=eq_true (by omega)
               (try rw [show ((0 : Int)).toNat = 0 from rfl] at hx212_0)
               (try rw [show 0 * 5 = 0 from rfl] at hx212_0)
               (try rw [Addr.add_zero'] at hx212_0)
               (try rw [show ((0 : Int)).toNat = 0 from rfl] at hx212_1)
               (try rw [show 0 * 5 = 0 from rfl] at hx212_1)
               (try rw [Addr.add_zero'] at hx212_1)
               (try rw [show ((0 : Int)).toNat = 0 from rfl] at hx212_2)
               (try rw [show 0 * 5 = 0 from rfl] at hx212_2)
               (try rw [Addr.add_zero'] at hx212_2)
               (try rw [show ((0 : Int)).toNat = 0 from rfl] at hx212_3)
               (try rw [show 0 * 5 = 0 from rfl] at hx212_3)
               (try rw [Addr.add_zero'] at hx212_3)
               (try rw [show ((0 : Int)).toNat = 0 from rfl] at hx212_4)
               (try rw [show 0 * 5 = 0 from rfl] at hx212_4)
               (try rw [Addr.add_zero'] at hx212_4)
               replace p212:=eq_true p212
               replace q212:=eq_true q212
               go_wp2_with (first|((with_reducible refine gate_dst (N:=75) rfl ?_);(try (refine gate_guard (by rfl) ?_;dsimp only));refine Kd.R_lit k44 _ 44 ?hg (N:=75) ?hd (xs:=([(⟨(rd_T44 x7_2 0).f0,(⟨(rd_T44 x7_2 0).f1.f0,(rd_T44 x7_2 0).f1.f1⟩ : S42),(rd_T44 x7_2 0).f2,(rd_T44 x7_2 0).f3⟩ : S44)] : List (S44))) (inner:=[.string ((rd_T44 x7_2 0).f0),.int .i64 ((rd_T44 x7_2 0).f1.f0),.int .i64 ((rd_T44 x7_2 0).f1.f1),.string ((rd_T44 x7_2 0).f2),.bool ((rd_T44 x7_2 0).f3)]) (ok:=fun _ => True) (okp:=fun _ => True) ?hr ?hp (fun _ hk => hk) trivial (Below.refl _ _) (Nat.le_refl _) (by simp) ?_;(case hd => rfl);(case hg => rfl);(case hr => first|(go_simp;done)|(go_simp;rfl));(case hp => exact (Reps.c5 (show Kd.M k44 _ _ _ (⟨(rd_T44 x7_2 0).f0,(⟨(rd_T44 x7_2 0).f1.f0,(rd_T44 x7_2 0).f1.f1⟩ : S42),(rd_T44 x7_2 0).f2,(rd_T44 x7_2 0).f3⟩ : S44) [.string ((rd_T44 x7_2 0).f0),.int .i64 ((rd_T44 x7_2 0).f1.f0),.int .i64 ((rd_T44 x7_2 0).f1.f1),.string ((rd_T44 x7_2 0).f2),.bool ((rd_T44 x7_2 0).f3)] from (k44_mkM _ _ _ (⟨(rd_T44 x7_2 0).f0,(⟨(rd_T44 x7_2 0).f1.f0,(rd_T44 x7_2 0).f1.f1⟩ : S42),(rd_T44 x7_2 0).f2,(rd_T44 x7_2 0).f3⟩ : S44) )) (Reps.none _ _)));intro v214 w58 ho59 hb hg_ hnew_;clear hg_ hnew_;(first|rw [← Ny213.out] at ho59|(simp only [Int.reduceToNat] at ho59;rw [← Ny213.out] at ho59));have n0_:=Aside0.mk (Kd.R_elder' (by (with_reducible repeat (first|apply Kd.R_alloc|apply Kd.R_drewN|apply Kd.R_drew));exact HO_7.out) (Kd.R_base ho59) hb);have n1_:=Aside0.mk (Kd.R_elder' (by (with_reducible repeat (first|apply Kd.R_alloc|apply Kd.R_drewN|apply Kd.R_drew));exact HO_8.out) (Kd.R_base ho59) hb);have n2_:=Aside0.mk (Kd.R_lower (Kd.R_new' (Kd.R_new' ho59 (Kd.R_lt (by (with_reducible repeat (first|apply Kd.R_alloc|apply Kd.R_drewN|apply Kd.R_drew));exact HO_7.out))) (Kd.R_lt (by (with_reducible repeat (first|apply Kd.R_alloc|apply Kd.R_drewN|apply Kd.R_drew));exact HO_8.out))) (below_size (by repeat (first|(with_reducible first|exact HB.out|apply xA|apply xN|apply xD)|exact HB.out))));have n3_:=Aside0.mk (below_step (by repeat (first|(with_reducible first|exact HB.out|apply xA|apply xN|apply xD)|exact HB.out)) hb);clear HO_7;clear HO_8;clear HB;have HO_7:=n0_;have HO_8:=n1_;have HO215:=n2_;have HB:=n3_;clear n0_ n1_ n2_ n3_;clear hb ho59;obtain ⟨Ao60,co60,eo60⟩:=Kd.R_slice HO_8.out;subst eo60;obtain ⟨Ao61,co61,eo61⟩:=Kd.R_slice HO215.out;subst eo61)|((with_reducible refine gate_callee (f:=25) rfl ?_);refine goesL_ (some 79) rfl rfl Try.func25 (by kernel_rfl) rfl #[.slice Ao60 x8_2.length co60,.slice Ao61 y213.length co61] rfl (by (try simp only [List.map_toArray,List.map_cons,List.map_nil]);first|done|rfl|(simp only [List.length_drop,List.length_take];rfl)) ?_;(with_reducible refine (merge_Max.calls k2 _ _ x8_2 _ _ y213 t216 t217 _ ?side1 ?side2 ?side3 ?side4 A50.out).mono ?_);(case side1 => repeat (first|exact (Kd.R_reads' HO_8.out).2.2|(with_reducible refine Kd.C_alloc ?_ _)|(with_reducible refine Kd.C_drewN ?_ _)|(with_reducible refine Kd.C_drew ?_)));(case side2 => exact (Kd.R_reads' HO_8.out).2.1);(case side3 => repeat (first|exact (Kd.R_reads' HO215.out).2.2|(with_reducible refine Kd.C_alloc ?_ _)|(with_reducible refine Kd.C_drewN ?_ _)|(with_reducible refine Kd.C_drew ?_)));(case side4 => exact (Kd.R_reads' HO215.out).2.1);rintro e w62 ⟨v218,rfl,ho0,hb⟩;refine ⟨_,rfl,?_⟩;have n0_:=Aside0.mk (Kd.R_elder' (by (with_reducible repeat (first|apply Kd.R_alloc|apply Kd.R_drewN|apply Kd.R_drew));exact HO_7.out) (Kd.R_base ho0) hb);have n1_:=Aside0.mk (Kd.R_elder' (by (with_reducible repeat (first|apply Kd.R_alloc|apply Kd.R_drewN|apply Kd.R_drew));exact HO_8.out) (Kd.R_base ho0) hb);have n2_:=Aside0.mk (Kd.R_elder' (by (with_reducible repeat (first|apply Kd.R_alloc|apply Kd.R_drewN|apply Kd.R_drew));exact HO215.out) (Kd.R_base ho0) hb);have n3_:=Aside0.mk (Kd.R_lower (Kd.R_new' (Kd.R_new' (Kd.R_new' ho0 (Kd.R_lt (by (with_reducible repeat (first|apply Kd.R_alloc|apply Kd.R_drewN|apply Kd.R_drew));exact HO_7.out))) (Kd.R_lt (by (with_reducible repeat (first|apply Kd.R_alloc|apply Kd.R_drewN|apply Kd.R_drew));exact HO_8.out))) (Kd.R_lt (by (with_reducible repeat (first|apply Kd.R_alloc|apply Kd.R_drewN|apply Kd.R_drew));exact HO215.out))) (below_size (by repeat (first|(with_reducible first|exact HB.out|apply xA|apply xN|apply xD)|exact HB.out))));have n4_:=Aside0.mk (below_step (by repeat (first|(with_reducible first|exact HB.out|apply xA|apply xN|apply xD)|exact HB.out)) hb);clear HO_7;clear HO_8;clear HO215;clear HB;have HO_7:=n0_;have HO_8:=n1_;have HO215:=n2_;have HO219:=n3_;have HB:=n4_;clear n0_ n1_ n2_ n3_ n4_;(try clear hb);(try clear hb2);(try clear hk);(try clear hi);(try clear ho0);have p220 : 0 ≤ ((ji52) : Int):=of_decide_eq_true (by first|(with_reducible assumption)|assumption);have q220 : (ji52) < (x7_2.length : Int):=of_decide_eq_true (by first|(with_reducible assumption)|assumption);obtain ⟨ad220,e220,hx220_0,hx220_1,hx220_2,hx220_3,hx220_4⟩:=at_T44 (Kd.R_reads' HO_7.out).2.2 (ji52) p220 q220;obtain rfl : ad212 = ad220:=(by injection e220);replace p220:=eq_true p220;replace q220:=eq_true q220;have p55 : 0 ≤ (0 : Int):=(by omega);have q55 : (0 : Int) < ((x7_2.length : Int) : Int):=of_decide_eq_true (by first|(with_reducible assumption)|assumption);have qi55 : (0 < x7_2.length) = True:=eq_true (by omega);obtain ⟨go55,co55,eo55,gb55,gl55,cl55,HG55⟩:=Kd.R_form HO_7.out (by omega);(first|cases eo55|(injection eo55 with ea_ en_ ec_;(first|subst ea_|(injection ea_ with ea_;subst ea_));subst ec_;clear en_));have GB55:=Aside0.mk gb55;have GG55:=Aside0.mk HG55;clear gb55 gl55 HG55;(first|simp only [add_plain] at hx212_0|skip);(first|simp only [add_plain] at hx212_1|skip);(first|simp only [add_plain] at hx212_2|skip);(first|simp only [add_plain] at hx212_3|skip);(first|simp only [add_plain] at hx212_4|skip);(first|simp only [add_plain] at hx220_0|skip);(first|simp only [add_plain] at hx220_1|skip);(first|simp only [add_plain] at hx220_2|skip);(first|simp only [add_plain] at hx220_3|skip);(first|simp only [add_plain] at hx220_4|skip);obtain ⟨ce55,hcl55,hM55,hcc55,hfr55⟩:=Kd.R_elem HO_7.out z44 (0 : Int) p55 q55;obtain rfl:=k44_openM hM55;have hx55_0 : w62.cell? ⟨go55,(0 : Int).toNat * 5,none⟩ = some (.string ((rd_T44 x7_2 0).f0)):=hcc55 0 _ rfl;have hx55_1 : w62.cell? ⟨go55,(0 : Int).toNat * 5 + 1,none⟩ = some (.int .i64 ((rd_T44 x7_2 0).f1.f0)):=hcc55 1 _ rfl;have hx55_2 : w62.cell? ⟨go55,(0 : Int).toNat * 5 + 2,none⟩ = some (.int .i64 ((rd_T44 x7_2 0).f1.f1)):=hcc55 2 _ rfl;have hx55_3 : w62.cell? ⟨go55,(0 : Int).toNat * 5 + 3,none⟩ = some (.string ((rd_T44 x7_2 0).f2)):=hcc55 3 _ rfl;have hx55_4 : w62.cell? ⟨go55,(0 : Int).toNat * 5 + 4,none⟩ = some (.bool ((rd_T44 x7_2 0).f3)):=hcc55 4 _ rfl;have hf55_0 : w62.frozen? ⟨go55,(0 : Int).toNat * 5,none⟩ = false:=hfr55 0;have hf55_1 : w62.frozen? ⟨go55,(0 : Int).toNat * 5 + 1,none⟩ = false:=hfr55 1;have hf55_2 : w62.frozen? ⟨go55,(0 : Int).toNat * 5 + 2,none⟩ = false:=hfr55 2;have hf55_3 : w62.frozen? ⟨go55,(0 : Int).toNat * 5 + 3,none⟩ = false:=hfr55 3;have hf55_4 : w62.frozen? ⟨go55,(0 : Int).toNat * 5 + 4,none⟩ = false:=hfr55 4;clear hcl55 hcc55 hfr55 hM55;(try rw [show ((0 : Int)).toNat = 0 from rfl] at hx55_0);(try simp only [Nat.reduceMul,Nat.zero_mul,Nat.zero_add,Nat.reduceAdd] at hx55_0);(try rw [show ((0 : Int)).toNat = 0 from rfl] at hf55_0);(try simp only [Nat.reduceMul,Nat.zero_mul,Nat.zero_add,Nat.reduceAdd] at hf55_0);(try rw [show ((0 : Int)).toNat = 0 from rfl] at hx55_1);(try simp only [Nat.reduceMul,Nat.zero_mul,Nat.zero_add,Nat.reduceAdd] at hx55_1);(try rw [show ((0 : Int)).toNat = 0 from rfl] at hf55_1);(try simp only [Nat.reduceMul,Nat.zero_mul,Nat.zero_add,Nat.reduceAdd] at hf55_1);(try rw [show ((0 : Int)).toNat = 0 from rfl] at hx55_2);(try simp only [Nat.reduceMul,Nat.zero_mul,Nat.zero_add,Nat.reduceAdd] at hx55_2);(try rw [show ((0 : Int)).toNat = 0 from rfl] at hf55_2);(try simp only [Nat.reduceMul,Nat.zero_mul,Nat.zero_add,Nat.reduceAdd] at hf55_2);(try rw [show ((0 : Int)).toNat = 0 from rfl] at hx55_3);(try simp only [Nat.reduceMul,Nat.zero_mul,Nat.zero_add,Nat.reduceAdd] at hx55_3);(try rw [show ((0 : Int)).toNat = 0 from rfl] at hf55_3);(try simp only [Nat.reduceMul,Nat.zero_mul,Nat.zero_add,Nat.reduceAdd] at hf55_3);(try rw [show ((0 : Int)).toNat = 0 from rfl] at hx55_4);(try simp only [Nat.reduceMul,Nat.zero_mul,Nat.zero_add,Nat.reduceAdd] at hx55_4);(try rw [show ((0 : Int)).toNat = 0 from rfl] at hf55_4);(try simp only [Nat.reduceMul,Nat.zero_mul,Nat.zero_add,Nat.reduceAdd] at hf55_4);replace p55:=eq_true p55;replace q55:=eq_true q55;have n_:=Aside0.mk (Kd.R_mono (ok':=(fun k_ => some k_ ≠ (.slice Ao60 x8_2.length co60 : Value).ownBlock ∧ some k_ ≠ (.slice Ao61 y213.length co61 : Value).ownBlock ∧ some k_ ≠ (v218 : Value).ownBlock)) HO_7.out (fun k_ hk => ⟨hk.1.1,⟨hk.1.2,hk.2⟩⟩));clear HO_7;have HO_7:=n_;clear n_;have HX63:=Aside0.mk (show Kd.R k44 44 w62 w.heap.size (fun k_ => some k_ ≠ (.slice Ao60 x8_2.length co60 : Value).ownBlock ∧ some k_ ≠ (.slice Ao61 y213.length co61 : Value).ownBlock ∧ some k_ ≠ (v218 : Value).ownBlock) (.slice (some ⟨go55,0,none⟩) x7_2.length co57) x7_2 from (by (with_reducible repeat (first|apply Kd.R_alloc|apply Kd.R_drewN|apply Kd.R_drew));exact HO_7.out));obtain ⟨ce63,hcl63,hM63,hcc63,hfr63⟩:=Kd.R_elem HX63.out z44 (0 : Int) (by omega) (by have h_ : (0 : Int) < ((x7_2.length : Int) : Int):=of_decide_eq_true (by first|(with_reducible assumption)|assumption);first|exact h_|(have e_:=(Kd.R_reads' HO_7.out).1;omega)|simpa using h_);obtain rfl:=k44_openM hM63;have HP63:=Kd.R_seg HX63.out (0 : Int) (by omega) (by have h_ : (0 : Int) < ((x7_2.length : Int) : Int):=of_decide_eq_true (by first|(with_reducible assumption)|assumption);first|exact h_|(have e_:=(Kd.R_reads' HO_7.out).1;omega)|simpa using h_) (seg:=[.string ((rd_T44 x7_2 (ji52)).f0),.int .i64 ((rd_T44 x7_2 (ji52)).f1.f0),.int .i64 ((rd_T44 x7_2 (ji52)).f1.f1),.string ((rd_T44 x7_2 (ji52)).f2),.bool ((rd_T44 x7_2 (ji52)).f3)]) (j:=0) hcl63 hcc63 (show 5 ≤ 5 from by decide) (x':=(⟨(rd_T44 x7_2 (ji52)).f0,(⟨(rd_T44 x7_2 (ji52)).f1.f0,(rd_T44 x7_2 (ji52)).f1.f1⟩ : S42),(rd_T44 x7_2 (ji52)).f2,(rd_T44 x7_2 (ji52)).f3⟩ : S44)) (k44_mkM _ _ _ (⟨(rd_T44 x7_2 (ji52)).f0,(⟨(rd_T44 x7_2 (ji52)).f1.f0,(rd_T44 x7_2 (ji52)).f1.f1⟩ : S42),(rd_T44 x7_2 (ji52)).f2,(rd_T44 x7_2 (ji52)).f3⟩ : S44) ) (fun _ hk => hk);have hx63_0:=hcc63 0 _ rfl;(try simp only [show (k44).sz = 5 from rfl,Nat.mul_one,Nat.add_zero] at hx63_0);(try rw [show ((0 : Int)).toNat = 0 from rfl] at hx63_0);(try simp only [Nat.reduceMul,Nat.zero_mul,Nat.zero_add,Nat.reduceAdd] at hx63_0);have hf63_0:=hfr63 0;(try simp only [show (k44).sz = 5 from rfl,Nat.mul_one,Nat.add_zero] at hf63_0);(try rw [show ((0 : Int)).toNat = 0 from rfl] at hf63_0);(try simp only [Nat.reduceMul,Nat.zero_mul,Nat.zero_add,Nat.reduceAdd] at hf63_0);have hx63_1:=hcc63 1 _ rfl;(try simp only [show (k44).sz = 5 from rfl,Nat.mul_one,Nat.add_zero] at hx63_1);(try rw [show ((0 : Int)).toNat = 0 from rfl] at hx63_1);(try simp only [Nat.reduceMul,Nat.zero_mul,Nat.zero_add,Nat.reduceAdd] at hx63_1);have hf63_1:=hfr63 1;(try simp only [show (k44).sz = 5 from rfl,Nat.mul_one,Nat.add_zero] at hf63_1);(try rw [show ((0 : Int)).toNat = 0 from rfl] at hf63_1);(try simp only [Nat.reduceMul,Nat.zero_mul,Nat.zero_add,Nat.reduceAdd] at hf63_1);have hx63_2:=hcc63 2 _ rfl;(try simp only [show (k44).sz = 5 from rfl,Nat.mul_one,Nat.add_zero] at hx63_2);(try rw [show ((0 : Int)).toNat = 0 from rfl] at hx63_2);(try simp only [Nat.reduceMul,Nat.zero_mul,Nat.zero_add,Nat.reduceAdd] at hx63_2);have hf63_2:=hfr63 2;(try simp only [show (k44).sz = 5 from rfl,Nat.mul_one,Nat.add_zero] at hf63_2);(try rw [show ((0 : Int)).toNat = 0 from rfl] at hf63_2);(try simp only [Nat.reduceMul,Nat.zero_mul,Nat.zero_add,Nat.reduceAdd] at hf63_2);have hx63_3:=hcc63 3 _ rfl;(try simp only [show (k44).sz = 5 from rfl,Nat.mul_one,Nat.add_zero] at hx63_3);(try rw [show ((0 : Int)).toNat = 0 from rfl] at hx63_3);(try simp only [Nat.reduceMul,Nat.zero_mul,Nat.zero_add,Nat.reduceAdd] at hx63_3);have hf63_3:=hfr63 3;(try simp only [show (k44).sz = 5 from rfl,Nat.mul_one,Nat.add_zero] at hf63_3);(try rw [show ((0 : Int)).toNat = 0 from rfl] at hf63_3);(try simp only [Nat.reduceMul,Nat.zero_mul,Nat.zero_add,Nat.reduceAdd] at hf63_3);have hx63_4:=hcc63 4 _ rfl;(try simp only [show (k44).sz = 5 from rfl,Nat.mul_one,Nat.add_zero] at hx63_4);(try rw [show ((0 : Int)).toNat = 0 from rfl] at hx63_4);(try simp only [Nat.reduceMul,Nat.zero_mul,Nat.zero_add,Nat.reduceAdd] at hx63_4);have hf63_4:=hfr63 4;(try simp only [show (k44).sz = 5 from rfl,Nat.mul_one,Nat.add_zero] at hf63_4);(try rw [show ((0 : Int)).toNat = 0 from rfl] at hf63_4);(try simp only [Nat.reduceMul,Nat.zero_mul,Nat.zero_add,Nat.reduceAdd] at hf63_4);clear hcl63 hcc63 hfr63 hM63)|((with_reducible refine gate_store (t:=44) (p:=93) rfl ?_);refine store_event (t:=44) (p:=93) (v:=?vo_w64) (w1:=(((((w62.setCell ⟨go55,0,none⟩ (.string ((rd_T44 x7_2 (ji52)).f0))).setCell ⟨go55,1,none⟩ (.int .i64 ((rd_T44 x7_2 (ji52)).f1.f0))).setCell ⟨go55,2,none⟩ (.int .i64 ((rd_T44 x7_2 (ji52)).f1.f1))).setCell ⟨go55,3,none⟩ (.string ((rd_T44 x7_2 (ji52)).f2))).setCell ⟨go55,4,none⟩ (.bool ((rd_T44 x7_2 (ji52)).f3)))) ?hg ?ho ?hn ?hr ?_;(case ho => rfl);(case hg => rfl);(case hn => rfl);(case hr => first|(go_simp;done)|(go_simp;rfl));intro w64 hw;have hg : w62.grownBy w64 (some go55):=(by rw [hw];exact HP63.2);have hp_ : Kd.R k44 44 w64 w.heap.size (fun k_ => some k_ ≠ (.slice Ao60 x8_2.length co60 : Value).ownBlock ∧ some k_ ≠ (.slice Ao61 y213.length co61 : Value).ownBlock ∧ some k_ ≠ (v218 : Value).ownBlock) (.slice (some ⟨go55,0,none⟩) x7_2.length co57) y221:=(by rw [hw,Ny221.out];exact HP63.1);clear HP63;replace HO_7:=Aside0.mk (hp_);replace HO_8:=Aside0.mk (Kd.R_after (v:=(.slice (some ⟨go55,0,none⟩) x7_2.length co57)) (v1:=(.slice (some ⟨go55,0,none⟩) x7_2.length co57)) (ok:=(fun k_ => some k_ ≠ (.slice Ao61 y213.length co61 : Value).ownBlock ∧ some k_ ≠ (v218 : Value).ownBlock)) (by (with_reducible repeat (first|apply Kd.R_alloc|apply Kd.R_drewN|apply Kd.R_drew));exact Kd.R_mono HO_8.out (fun _ hk => ⟨⟨hk.1.2,hk.2⟩,hk.1.1⟩)) hg (.inl rfl));replace HO215:=Aside0.mk (Kd.R_after (v:=(.slice (some ⟨go55,0,none⟩) x7_2.length co57)) (v1:=(.slice (some ⟨go55,0,none⟩) x7_2.length co57)) (ok:=(fun k_ => some k_ ≠ (.slice Ao60 x8_2.length co60 : Value).ownBlock ∧ some k_ ≠ (v218 : Value).ownBlock)) (by (with_reducible repeat (first|apply Kd.R_alloc|apply Kd.R_drewN|apply Kd.R_drew));exact Kd.R_mono HO215.out (fun _ hk => ⟨⟨hk.1.2,hk.2⟩,hk.1.1.2⟩)) hg (.inl rfl));replace HO219:=Aside0.mk (Kd.R_after (v:=(.slice (some ⟨go55,0,none⟩) x7_2.length co57)) (v1:=(.slice (some ⟨go55,0,none⟩) x7_2.length co57)) (ok:=(fun k_ => some k_ ≠ (.slice Ao60 x8_2.length co60 : Value).ownBlock ∧ some k_ ≠ (.slice Ao61 y213.length co61 : Value).ownBlock)) (by (with_reducible repeat (first|apply Kd.R_alloc|apply Kd.R_drewN|apply Kd.R_drew));exact Kd.R_mono HO219.out (fun _ hk => ⟨⟨hk.1.2,hk.2⟩,hk.1.1.2⟩)) hg (.inl rfl));replace HB:=Aside0.mk ((by rw [hw];exact below_set (below_set (below_set (below_set (below_set (HB.out) GB55.out) GB55.out) GB55.out) GB55.out) GB55.out : Below w.heap.size w w64));clear hg hw hp_;have q65 : ((ji52) : Int) ≤ ((x7_2.length : Int) : Int):=of_decide_eq_true (by first|(with_reducible assumption)|assumption);obtain ⟨i065,hi065,_,hsz65,_⟩:=info_parts info44;have hcut65:=cut_to (P:=Try.prog) 22 44 .i64 Try.underlying22 hi065 (some ⟨go55,0,none⟩) x7_2.length co57 (ji52) (of_decide_eq_true (by first|(with_reducible assumption)|assumption)) q65 (Kd.R_reads' HO_7.out).2.1;have hl_:=congrArg List.length Ny221.out;rw [List.length_set] at hl_;have hr65:=Kd.R_take (m:=((ji52) : Int).toNat) HO_7.out (by omega);have hy65 : y222.length = ((ji52) : Int).toNat:=(by rw [Ny222.out,List.length_take];omega);clear hl_;rw [← Ny222.out] at hr65;rw [← hy65] at hr65 hcut65;clear hy65 hi065 hsz65 HO_7;have HO224:=Aside0.mk hr65;clear hr65;replace q65:=eq_true q65))
               go_roundg k2
               case measure => have:=HJ3.out;have:=HK2.out;omega
               case rel => exact ⟨(y222),(t216),(wrap64 (x9_2 + 1)),(by first|rfl|(simp;done)|(simp [*];done)|(simp [*,Go.Proofs.Ytghlellambnkeaa.Str.bne_nil];done)),H',⟨by have:=HJ3.out;have:=HK2.out;omega⟩,⟨by (with_reducible repeat (first|apply Kd.R_alloc|apply Kd.R_drewN|apply Kd.R_drew));exact Kd.R_mono HO224.out (fun _ hk => hk.2.2)⟩,⟨by (with_reducible repeat (first|apply Kd.R_alloc|apply Kd.R_drewN|apply Kd.R_drew));exact Kd.R_mono HO219.out (fun _ hk => hk.2)⟩,⟨by repeat (first|(with_reducible first|exact HB.out|apply xA|apply xN|apply xD)|exact HB.out)⟩⟩
              ·rw [if_neg c56] at H
               exact absurd H (by simp)
             ·rw [if_neg c54] at H
              exact absurd H (by simp)
            ·rw [if_neg c53] at H
             exact absurd H (by simp)
           ·rw [if_neg c51] at H
            exact absurd H (by simp)
          ·rw [if_neg c49] at H
           exact absurd H (by simp)
        ·rw [if_neg c26] at H
         have c26b0 : decide (0 < (x7_2.length : Int)) = false:=decide_eq_false c26
         have c26b1 : decide (0 < x7_2.length) = false:=decide_eq_false (by omega)
         clear c26
         replace H:=Option.bind_eq_some_iff.mp H
         obtain ⟨⟨t193,t194⟩,A660,H⟩:=H
         replace H : (if t194 = 0 then ((tidelinelaw09_same.f k2 x8_2 t193).bind fun t197 => (if t197 = true then (some (decide ((t193.length : Int) ≥ (mx (l0.length : Int) (l1.length : Int))))) else (none))) else (none)) = some r:=H
         have A66:=Aside0.mk A660
         clear A660
         by_cases c67 : t194 = 0
         ·rw [if_pos c67] at H
          have c67b0 : (t194 == 0) = true:=beq_iff_eq.mpr c67
          have c67b1 : (t194 != 0) = false:=bne_eq_false_iff_eq.mpr c67
          clear c67
          replace H:=Option.bind_eq_some_iff.mp H
          obtain ⟨t197,A680,H⟩:=H
          replace H : (if t197 = true then (some (decide ((t193.length : Int) ≥ (mx (l0.length : Int) (l1.length : Int))))) else (none)) = some r:=H
          have A68:=Aside0.mk A680
          clear A680
          by_cases c69 : t197 = true
          ·subst c69
           have H1 : (some (decide ((t193.length : Int) ≥ (mx (l0.length : Int) (l1.length : Int))))) = some r:=by rw [if_pos rfl] at H;exact H
           clear H
           have H:=H1
           clear H1
           obtain ⟨ji70,hji70⟩ : ∃ j_ : Int,(mx (l0.length : Int) (l1.length : Int)) = j_:=⟨_,rfl⟩
           replace H : (some (decide ((t193.length : Int) ≥ (ji70)))) = some r:=by first|(rw [hji70] at H;exact H)|(simp only [hji70] at H ⊢;exact H)
           (try rw [hji70] at A66)
           (try rw [hji70] at A68)
           have hji70_ : (if (l0.length : Int) < (l1.length : Int) then (l1.length : Int) else (l0.length : Int)) = ji70:=hji70
           obtain rfl:=Option.some.inj H
           obtain ⟨Ao71,co71,eo71⟩:=Kd.R_slice HO_7.out
           subst eo71
           go_wp2_with (first|((with_reducible refine gate_callee (f:=25) rfl ?_);refine goesL_ (some 102) rfl rfl Try.func25 (by kernel_rfl) rfl #[.slice A0 l0.length c0,.slice A1 l1.length c1] rfl (by (try simp only [List.map_toArray,List.map_cons,List.map_nil]);first|done|rfl|(simp only [List.length_drop,List.length_take];rfl)) ?_;(with_reducible refine (merge_Max.calls k2 _ _ l0 _ _ l1 t193 t194 _ ?side1 ?side2 ?side3 ?side4 A66.out).mono ?_);(case side1 => repeat (first|exact (Kd.C_below HR0.out HB.out)|(with_reducible refine Kd.C_alloc ?_ _)|(with_reducible refine Kd.C_drewN ?_ _)|(with_reducible refine Kd.C_drew ?_)));(case side2 => exact HC0.out);(case side3 => repeat (first|exact (Kd.C_below HR1.out HB.out)|(with_reducible refine Kd.C_alloc ?_ _)|(with_reducible refine Kd.C_drewN ?_ _)|(with_reducible refine Kd.C_drew ?_)));(case side4 => exact HC1.out);rintro e w72 ⟨v195,rfl,ho0,hb⟩;refine ⟨_,rfl,?_⟩;have n0_:=Aside0.mk (Kd.R_elder' (by (with_reducible repeat (first|apply Kd.R_alloc|apply Kd.R_drewN|apply Kd.R_drew));exact HO_7.out) (Kd.R_base ho0) hb);have n1_:=Aside0.mk (Kd.R_elder' (by (with_reducible repeat (first|apply Kd.R_alloc|apply Kd.R_drewN|apply Kd.R_drew));exact HO_8.out) (Kd.R_base ho0) hb);have n2_:=Aside0.mk (Kd.R_lower (Kd.R_new' (Kd.R_new' ho0 (Kd.R_lt (by (with_reducible repeat (first|apply Kd.R_alloc|apply Kd.R_drewN|apply Kd.R_drew));exact HO_7.out))) (Kd.R_lt (by (with_reducible repeat (first|apply Kd.R_alloc|apply Kd.R_drewN|apply Kd.R_drew));exact HO_8.out))) (below_size (by repeat (first|(with_reducible first|exact HB.out|apply xA|apply xN|apply xD)|exact HB.out))));have n3_:=Aside0.mk (below_step (by repeat (first|(with_reducible first|exact HB.out|apply xA|apply xN|apply xD)|exact HB.out)) hb);clear HO_7;clear HO_8;clear HB;have HO_7:=n0_;have HO_8:=n1_;have HO196:=n2_;have HB:=n3_;clear n0_ n1_ n2_ n3_;(try clear hb);(try clear hb2);(try clear hk);(try clear hi);(try clear ho0);obtain ⟨Ao73,co73,eo73⟩:=Kd.R_slice HO_8.out;subst eo73;obtain ⟨Ao74,co74,eo74⟩:=Kd.R_slice HO196.out;subst eo74)|(go_at_call 20;(with_reducible refine (tidelinelaw09_same.calls k2 _ _ x8_2 _ _ t193 true _ ?side1 ?side2 ?side3 ?side4 A68.out).mono ?_);(case side1 => repeat (first|exact (Kd.R_reads' HO_8.out).2.2|(with_reducible refine Kd.C_alloc ?_ _)|(with_reducible refine Kd.C_drewN ?_ _)|(with_reducible refine Kd.C_drew ?_)));(case side2 => exact (Kd.R_reads' HO_8.out).2.1);(case side3 => repeat (first|exact (Kd.R_reads' HO196.out).2.2|(with_reducible refine Kd.C_alloc ?_ _)|(with_reducible refine Kd.C_drewN ?_ _)|(with_reducible refine Kd.C_drew ?_)));(case side4 => exact (Kd.R_reads' HO196.out).2.1);rintro e w' ⟨rfl,⟨nd,rfl⟩⟩))
           all_goals go_ret
           all_goals exact ⟨by first|rfl|(simp [errW_none,errW_some] <;> rfl)|(simp only [← hji70];first|rfl|(simp [errW_none,errW_some] <;> rfl))|(refine congrArg (fun b_ => Ending.returned (Value.bool b_)) (decide_eq_decide.2 ?_);have hq_:=hji70;unfold mx at hq_;split at hq_ <;> omega)|(simp [*,errW_none,errW_some] <;> rfl),by repeat (first|(with_reducible first|exact HB.out|apply xA|apply xN|apply xD)|exact HB.out)⟩
          ·replace c69:=Bool.eq_false_iff.mpr c69
           subst c69
           have H1 : (none) = some r:=by rw [if_neg (show ¬ (false = true) by decide)] at H;exact H
           clear H
           have H:=H1
           clear H1
           exact absurd H (by simp)
         ·rw [if_neg c67] at H
          exact absurd H (by simp)
     ·rw [if_neg c19] at H
      exact absurd H (by simp)
    ·rw [if_neg c18] at H
     exact absurd H (by simp)

end Go.Proofs.Ytghlellambnkeaa.PAll
