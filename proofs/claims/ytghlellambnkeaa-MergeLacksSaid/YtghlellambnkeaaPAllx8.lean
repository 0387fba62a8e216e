-- By wip/pr.py (a program of this session, over the kit's print): lines written by program. Not trusted: Lean checks them.
import Derived.Test.YtghlellambnkeaaSBeyond
import Derived.Test.YtghlellambnkeaaSMergeDf
import Derived.Test.YtghlellambnkeaaSMergeLa
import Derived.Test.YtghlellambnkeaaSMergeM
import Derived.Test.YtghlellambnkeaaPAllx0
import Derived.Test.YtghlellambnkeaaPAllx3
import Derived.Test.YtghlellambnkeaaPAllx5
import Derived.Test.YtghlellambnkeaaPAllx7
namespace Go.Proofs.Ytghlellambnkeaa.PAll
open Go.RowKit Go.Proofs.YtghlellambnkeaaW.PrintWords Go.Proofs.YtghlellambnkeaaW.PrintLast Go.Proofs.YtghlellambnkeaaW.PrintMore
attribute [local go_sem] max2_int min2_int max_two min_two max_three min_three max_four min_four   -- for this text's walks alone
set_option linter.unusedVariables false
set_option linter.unusedSimpArgs false

/-! ### tidelinelaw09_MergeLacks: function 9 -/
mutual
def tidelinelaw09_MergeLacks.j0 : Nat → List (S44) → List (S44) → Bool → Option (Bool)
  | 0, _, _, _ => none
  | k + 1, x0, x1, x29 => if x29 = true then (some true) else ((merge_Lacks.f k x0 x1).bind fun bt214 => ((merge_Lacks.f k x1 x0).bind fun bt218 => (if bt214.2 = 0 then (tidelinelaw09_MergeLacks.j1 k x0 x1 bt214.1 bt218.1 (bt218.2 != 0)) else (tidelinelaw09_MergeLacks.j1 k x0 x1 bt214.1 bt218.1 true))))
def tidelinelaw09_MergeLacks.j1 : Nat → List (S44) → List (S44) → List (S44) → List (S44) → Bool → Option (Bool)
  | 0, _, _, _, _, _ => none
  | k + 1, x0, x1, x5, x7, x47 => if x47 = true then (none) else ((merge_Max.f k x1 x5).bind fun bt222 => ((merge_Max.f k x1 x0).bind fun bt226 => ((merge_Differ.f k x0 x1).bind fun bt230 => ((merge_Max.f k x5 x7).bind fun bt234 => ((tidelineref09_Max.f k x1 x0).bind fun bt238 => ((tidelinelaw09_same.f k bt226.1 bt238.1).bind fun t242 => (if t242 = true then (if bt222.2 = 0 then (if bt226.2 = 0 then (if bt230.2 = 0 then (if bt234.2 = 0 then ((tidelinelaw09_same.f k bt222.1 bt226.1).bind fun t243 => (if t243 = true then (if (bt230.1.length : Int) = (bt234.1.length : Int) then (tidelinelaw09_MergeLacks.j2 k bt230.1 bt234.1 ((bt230.1.length : Int) != (wrap64 ((x5.length : Int) + (x7.length : Int))))) else (tidelinelaw09_MergeLacks.j2 k bt230.1 bt234.1 true)) else (tidelinelaw09_MergeLacks.j2 k bt230.1 bt234.1 true))) else (tidelinelaw09_MergeLacks.j2 k bt230.1 bt234.1 true)) else (tidelinelaw09_MergeLacks.j2 k bt230.1 bt234.1 true)) else (tidelinelaw09_MergeLacks.j2 k bt230.1 bt234.1 true)) else (tidelinelaw09_MergeLacks.j2 k bt230.1 bt234.1 true)) else (none))))))))
def tidelinelaw09_MergeLacks.j2 : Nat → List ByteArray → List (S44) → Bool → Option (Bool)
  | 0, _, _, _ => none
  | k + 1, x13, x15, x118 => if x118 = true then (none) else (tidelinelaw09_MergeLacks.l0 k x13 x15 0)
def tidelinelaw09_MergeLacks.l0 : Nat → List ByteArray → List (S44) → Int → Option (Bool)
  | 0, _, _, _ => none
  | k + 1, x13, x15, x19 => if x19 < (x13.length : Int) then (if 0 ≤ x19 then (if x19 < (x15.length : Int) then (if (rdOf ByteArray.empty x13 x19).toList = ((rd_T44 x15 x19).f0).toList then (tidelinelaw09_MergeLacks.l0 k x13 x15 (wrap64 (x19 + 1))) else (none)) else (none)) else (none)) else (some true)
end
def tidelinelaw09_MergeLacks.f (k : Nat) (l0 : List (S44)) (l1 : List (S44)) : Option (Bool) := (tidelinelaw09_beyond.f k [l0, l1]).bind fun t212 => (if t212 = true then (tidelinelaw09_MergeLacks.j0 k l0 l1 true) else ((tidelinelaw09_clean.f k l0 l1).bind fun t213 => (tidelinelaw09_MergeLacks.j0 k l0 l1 (!t213))))
theorem tidelinelaw09_MergeLacks.mono_l : ∀ k, (∀ y0 y1 y2, LeO (tidelinelaw09_MergeLacks.j0 k y0 y1 y2) (tidelinelaw09_MergeLacks.j0 (k + 1) y0 y1 y2)) ∧ (∀ y0 y1 y2 y3 y4, LeO (tidelinelaw09_MergeLacks.j1 k y0 y1 y2 y3 y4) (tidelinelaw09_MergeLacks.j1 (k + 1) y0 y1 y2 y3 y4)) ∧ (∀ y0 y1 y2, LeO (tidelinelaw09_MergeLacks.j2 k y0 y1 y2) (tidelinelaw09_MergeLacks.j2 (k + 1) y0 y1 y2)) ∧ (∀ y0 y1 y2, LeO (tidelinelaw09_MergeLacks.l0 k y0 y1 y2) (tidelinelaw09_MergeLacks.l0 (k + 1) y0 y1 y2))
  | 0 => ⟨fun _ _ _ r h => by simp [tidelinelaw09_MergeLacks.j0] at h, fun _ _ _ _ _ r h => by simp [tidelinelaw09_MergeLacks.j1] at h, fun _ _ _ r h => by simp [tidelinelaw09_MergeLacks.j2] at h, fun _ _ _ r h => by simp [tidelinelaw09_MergeLacks.l0] at h⟩
  | k + 1 => by
    obtain ⟨ih0, ih1, ih2, ih3⟩ := tidelinelaw09_MergeLacks.mono_l k
    refine ⟨?_, ?_, ?_, ?_⟩
    · intro y0 y1 y2
      unfold tidelinelaw09_MergeLacks.j0
      repeat' first
      | (with_reducible exact ih0 _ _ _)
      | (with_reducible exact ih1 _ _ _ _ _)
      | (with_reducible exact ih2 _ _ _)
      | (with_reducible exact ih3 _ _ _)
      | (with_reducible exact merge_Differ.mono _ _ _)
      | (with_reducible exact merge_Lacks.mono _ _ _)
      | (with_reducible exact merge_Max.mono _ _ _)
      | (with_reducible exact tidelinelaw09_beyond.mono _ _)
      | (with_reducible exact tidelinelaw09_clean.mono _ _ _)
      | (with_reducible exact tidelinelaw09_same.mono _ _ _)
      | (with_reducible exact tidelineref09_Max.mono _ _ _)
      | (with_reducible exact LeO.refl _)
      | (with_reducible exact LeO.none _)
      | (with_reducible refine LeO.ite ?_ ?_)
      | (with_reducible refine LeO.bind ?_ (fun _ => ?_))
      | exact ih0 _ _ _
      | exact ih1 _ _ _ _ _
      | exact ih2 _ _ _
      | exact ih3 _ _ _
      | exact merge_Differ.mono _ _ _
      | exact merge_Lacks.mono _ _ _
      | exact merge_Max.mono _ _ _
      | exact tidelinelaw09_beyond.mono _ _
      | exact tidelinelaw09_clean.mono _ _ _
      | exact tidelinelaw09_same.mono _ _ _
      | exact tidelineref09_Max.mono _ _ _
      | exact LeO.none _
      | refine LeO.ite ?_ ?_
      | refine LeO.bind ?_ (fun _ => ?_)
    · intro y0 y1 y2 y3 y4
      unfold tidelinelaw09_MergeLacks.j1
      repeat' first
      | (with_reducible exact ih0 _ _ _)
      | (with_reducible exact ih1 _ _ _ _ _)
      | (with_reducible exact ih2 _ _ _)
      | (with_reducible exact ih3 _ _ _)
      | (with_reducible exact merge_Differ.mono _ _ _)
      | (with_reducible exact merge_Lacks.mono _ _ _)
      | (with_reducible exact merge_Max.mono _ _ _)
      | (with_reducible exact tidelinelaw09_beyond.mono _ _)
      | (with_reducible exact tidelinelaw09_clean.mono _ _ _)
      | (with_reducible exact tidelinelaw09_same.mono _ _ _)
      | (with_reducible exact tidelineref09_Max.mono _ _ _)
      | (with_reducible exact LeO.refl _)
      | (with_reducible exact LeO.none _)
      | (with_reducible refine LeO.ite ?_ ?_)
      | (with_reducible refine LeO.bind ?_ (fun _ => ?_))
      | exact ih0 _ _ _
      | exact ih1 _ _ _ _ _
      | exact ih2 _ _ _
      | exact ih3 _ _ _
      | exact merge_Differ.mono _ _ _
      | exact merge_Lacks.mono _ _ _
      | exact merge_Max.mono _ _ _
      | exact tidelinelaw09_beyond.mono _ _
      | exact tidelinelaw09_clean.mono _ _ _
      | exact tidelinelaw09_same.mono _ _ _
      | exact tidelineref09_Max.mono _ _ _
      | exact LeO.none _
      | refine LeO.ite ?_ ?_
      | refine LeO.bind ?_ (fun _ => ?_)
    · intro y0 y1 y2
      unfold tidelinelaw09_MergeLacks.j2
      repeat' first
      | (with_reducible exact ih0 _ _ _)
      | (with_reducible exact ih1 _ _ _ _ _)
      | (with_reducible exact ih2 _ _ _)
      | (with_reducible exact ih3 _ _ _)
      | (with_reducible exact merge_Differ.mono _ _ _)
      | (with_reducible exact merge_Lacks.mono _ _ _)
      | (with_reducible exact merge_Max.mono _ _ _)
      | (with_reducible exact tidelinelaw09_beyond.mono _ _)
      | (with_reducible exact tidelinelaw09_clean.mono _ _ _)
      | (with_reducible exact tidelinelaw09_same.mono _ _ _)
      | (with_reducible exact tidelineref09_Max.mono _ _ _)
      | (with_reducible exact LeO.refl _)
      | (with_reducible exact LeO.none _)
      | (with_reducible refine LeO.ite ?_ ?_)
      | (with_reducible refine LeO.bind ?_ (fun _ => ?_))
      | exact ih0 _ _ _
      | exact ih1 _ _ _ _ _
      | exact ih2 _ _ _
      | exact ih3 _ _ _
      | exact merge_Differ.mono _ _ _
      | exact merge_Lacks.mono _ _ _
      | exact merge_Max.mono _ _ _
      | exact tidelinelaw09_beyond.mono _ _
      | exact tidelinelaw09_clean.mono _ _ _
      | exact tidelinelaw09_same.mono _ _ _
      | exact tidelineref09_Max.mono _ _ _
      | exact LeO.none _
      | refine LeO.ite ?_ ?_
      | refine LeO.bind ?_ (fun _ => ?_)
    · intro y0 y1 y2
      unfold tidelinelaw09_MergeLacks.l0
      repeat' first
      | (with_reducible exact ih0 _ _ _)
      | (with_reducible exact ih1 _ _ _ _ _)
      | (with_reducible exact ih2 _ _ _)
      | (with_reducible exact ih3 _ _ _)
      | (with_reducible exact merge_Differ.mono _ _ _)
      | (with_reducible exact merge_Lacks.mono _ _ _)
      | (with_reducible exact merge_Max.mono _ _ _)
      | (with_reducible exact tidelinelaw09_beyond.mono _ _)
      | (with_reducible exact tidelinelaw09_clean.mono _ _ _)
      | (with_reducible exact tidelinelaw09_same.mono _ _ _)
      | (with_reducible exact tidelineref09_Max.mono _ _ _)
      | (with_reducible exact LeO.refl _)
      | (with_reducible exact LeO.none _)
      | (with_reducible refine LeO.ite ?_ ?_)
      | (with_reducible refine LeO.bind ?_ (fun _ => ?_))
      | exact ih0 _ _ _
      | exact ih1 _ _ _ _ _
      | exact ih2 _ _ _
      | exact ih3 _ _ _
      | exact merge_Differ.mono _ _ _
      | exact merge_Lacks.mono _ _ _
      | exact merge_Max.mono _ _ _
      | exact tidelinelaw09_beyond.mono _ _
      | exact tidelinelaw09_clean.mono _ _ _
      | exact tidelinelaw09_same.mono _ _ _
      | exact tidelineref09_Max.mono _ _ _
      | exact LeO.none _
      | refine LeO.ite ?_ ?_
      | refine LeO.bind ?_ (fun _ => ?_)
theorem tidelinelaw09_MergeLacks.mono : ∀ a0 a1 k, LeO (tidelinelaw09_MergeLacks.f k a0 a1) (tidelinelaw09_MergeLacks.f (k + 1) a0 a1) := by
  intro a0 a1 k
  obtain ⟨ih0, ih1, ih2, ih3⟩ := tidelinelaw09_MergeLacks.mono_l k
  unfold tidelinelaw09_MergeLacks.f
  repeat' first
      | (with_reducible exact ih0 _ _ _)
      | (with_reducible exact ih1 _ _ _ _ _)
      | (with_reducible exact ih2 _ _ _)
      | (with_reducible exact ih3 _ _ _)
      | (with_reducible exact merge_Differ.mono _ _ _)
      | (with_reducible exact merge_Lacks.mono _ _ _)
      | (with_reducible exact merge_Max.mono _ _ _)
      | (with_reducible exact tidelinelaw09_beyond.mono _ _)
      | (with_reducible exact tidelinelaw09_clean.mono _ _ _)
      | (with_reducible exact tidelinelaw09_same.mono _ _ _)
      | (with_reducible exact tidelineref09_Max.mono _ _ _)
      | (with_reducible exact LeO.refl _)
      | (with_reducible exact LeO.none _)
      | (with_reducible refine LeO.ite ?_ ?_)
      | (with_reducible refine LeO.bind ?_ (fun _ => ?_))
      | exact ih0 _ _ _
      | exact ih1 _ _ _ _ _
      | exact ih2 _ _ _
      | exact ih3 _ _ _
      | exact merge_Differ.mono _ _ _
      | exact merge_Lacks.mono _ _ _
      | exact merge_Max.mono _ _ _
      | exact tidelinelaw09_beyond.mono _ _
      | exact tidelinelaw09_clean.mono _ _ _
      | exact tidelinelaw09_same.mono _ _ _
      | exact tidelineref09_Max.mono _ _ _
      | exact LeO.none _
      | refine LeO.ite ?_ ?_
      | refine LeO.bind ?_ (fun _ => ?_)
set_option maxHeartbeats 8000000 in
set_option maxRecDepth 100000 in
theorem tidelinelaw09_MergeLacks.calls (k : Nat) (A0 : Option Addr) (c0 : Nat) (l0 : List (S44)) (A1 : Option Addr) (c1 : Nat) (l1 : List (S44)) (r : Bool) (w : World) (hr0 : Kd.C k44 w A0 l0.length l0) (hc0 : l0.length ≤ c0) (hr1 : Kd.C k44 w A1 l1.length l1) (hc1 : l1.length ≤ c1) (h : tidelinelaw09_MergeLacks.f k l0 l1 = some r) :
    Calls Try.prog 9 #[.slice A0 l0.length c0, .slice A1 l1.length c1] w fun e w' => e = .returned (.bool r) ∧ Below w.heap.size w w' := by
 have HR0:=Aside0.mk hr0
 have HC0:=Aside0.mk hc0
 clear hr0 hc0
 have HR1:=Aside0.mk hr1
 have HC1:=Aside0.mk hc1
 clear hr1 hc1
 have HB:=Aside0.mk (Below.refl w.heap.size w)
 have H : ((tidelinelaw09_beyond.f k [l0,l1]).bind fun t212 => (if t212 = true then (tidelinelaw09_MergeLacks.j0 k l0 l1 true) else ((tidelinelaw09_clean.f k l0 l1).bind fun t213 => (tidelinelaw09_MergeLacks.j0 k l0 l1 (!t213))))) = some r:=h
 clear h
 have HC3:=Aside0.mk H
 clear H
 go_enter Try.func9,Try.ntmps9
 go_upto_region 1 with (fail)
 repeat (go_quiet (fail);go_upto_region 1 with (fail))
 go_cut [29] (fun v29 wc => ∃ (kq : Nat) (x29_2 : Bool),v29 = .bool x29_2 ∧ Aside0 (tidelinelaw09_MergeLacks.j0 kq l0 l1 x29_2 = some r) ∧ Aside0 (kq ≤ k) ∧ Aside0 (Below w.heap.size w wc))
 case first =>
  have H:=HC3.out
  clear HC3
  replace H:=Option.bind_eq_some_iff.mp H
  obtain ⟨t212,A40,H⟩:=H
  replace H : (if t212 = true then (tidelinelaw09_MergeLacks.j0 k l0 l1 true) else ((tidelinelaw09_clean.f k l0 l1).bind fun t213 => (tidelinelaw09_MergeLacks.j0 k l0 l1 (!t213)))) = some r:=H
  have A4:=Aside0.mk A40
  clear A40
  by_cases c5 : t212 = true
  ·subst c5
   have H1 : (tidelinelaw09_MergeLacks.j0 k l0 l1 true) = some r:=by rw [if_pos rfl] at H;exact H
   clear H
   have H:=H1
   clear H1
   have H':=Aside0.mk H
   clear H
   go_wp2_with (first|(go_at_call 12;(refine (tidelinelaw09_beyond2.callsL k _ _ l0 _ _ l1 true _ ?side1 ?side2 ?side3 ?side4 A4.out).mono ?_);(case side1 => repeat (first|exact (Kd.C_below HR0.out HB.out)|(with_reducible refine Kd.C_alloc ?_ _)|(with_reducible refine Kd.C_drewN ?_ _)|(with_reducible refine Kd.C_drew ?_)));(case side2 => exact HC0.out);(case side3 => repeat (first|exact (Kd.C_below HR1.out HB.out)|(with_reducible refine Kd.C_alloc ?_ _)|(with_reducible refine Kd.C_drewN ?_ _)|(with_reducible refine Kd.C_drew ?_)));(case side4 => exact HC1.out);rintro e w6 ⟨rfl,hb⟩;replace HB:=Aside0.mk (below_step (by repeat (first|(with_reducible first|exact HB.out|apply xA|apply xN|apply xD)|exact HB.out)) hb);(try clear hb);(try clear hb2);(try clear hk);(try clear hi)))
   repeat (go_quiet (first|(go_at_call 12;(refine (tidelinelaw09_beyond2.callsL k _ _ l0 _ _ l1 true _ ?side1 ?side2 ?side3 ?side4 A4.out).mono ?_);(case side1 => repeat (first|exact (Kd.C_below HR0.out HB.out)|(with_reducible refine Kd.C_alloc ?_ _)|(with_reducible refine Kd.C_drewN ?_ _)|(with_reducible refine Kd.C_drew ?_)));(case side2 => exact HC0.out);(case side3 => repeat (first|exact (Kd.C_below HR1.out HB.out)|(with_reducible refine Kd.C_alloc ?_ _)|(with_reducible refine Kd.C_drewN ?_ _)|(with_reducible refine Kd.C_drew ?_)));(case side4 => exact HC1.out);rintro e w6 ⟨rfl,hb⟩;replace HB:=Aside0.mk (below_step (by repeat (first|(with_reducible first|exact HB.out|apply xA|apply xN|apply xD)|exact HB.out)) hb);(try clear hb);(try clear hb2);(try clear hk);(try clear hi)));try go_wp2_with (first|(go_at_call 12;(refine (tidelinelaw09_beyond2.callsL k _ _ l0 _ _ l1 true _ ?side1 ?side2 ?side3 ?side4 A4.out).mono ?_);(case side1 => repeat (first|exact (Kd.C_below HR0.out HB.out)|(with_reducible refine Kd.C_alloc ?_ _)|(with_reducible refine Kd.C_drewN ?_ _)|(with_reducible refine Kd.C_drew ?_)));(case side2 => exact HC0.out);(case side3 => repeat (first|exact (Kd.C_below HR1.out HB.out)|(with_reducible refine Kd.C_alloc ?_ _)|(with_reducible refine Kd.C_drewN ?_ _)|(with_reducible refine Kd.C_drew ?_)));(case side4 => exact HC1.out);rintro e w6 ⟨rfl,hb⟩;replace HB:=Aside0.mk (below_step (by repeat (first|(with_reducible first|exact HB.out|apply xA|apply xN|apply xD)|exact HB.out)) hb);(try clear hb);(try clear hb2);(try clear hk);(try clear hi))))
   go_meet
   case rel => exact ⟨_,(true),(by first|rfl|(simp;done)|(simp [*];done)|(simp [*,Go.Proofs.Ytghlellambnkeaa.Str.bne_nil];done)),H',⟨by first|omega|exact Nat.le_refl _⟩,⟨by repeat (first|(with_reducible first|exact HB.out|apply xA|apply xN|apply xD)|exact HB.out)⟩⟩
  ·replace c5:=Bool.eq_false_iff.mpr c5
   subst c5
   have H1 : ((tidelinelaw09_clean.f k l0 l1).bind fun t213 => (tidelinelaw09_MergeLacks.j0 k l0 l1 (!t213))) = some r:=by rw [if_neg (show ¬ (false = true) by decide)] at H;exact H
   clear H
   have H:=H1
   clear H1
   replace H:=Option.bind_eq_some_iff.mp H
   obtain ⟨t213,A70,H⟩:=H
   replace H : (tidelinelaw09_MergeLacks.j0 k l0 l1 (!t213)) = some r:=H
   have A7:=Aside0.mk A70
   clear A70
   have H':=Aside0.mk H
   clear H
   go_wp2_with (first|(go_at_call 12;(refine (tidelinelaw09_beyond2.callsL k _ _ l0 _ _ l1 false _ ?side1 ?side2 ?side3 ?side4 A4.out).mono ?_);(case side1 => repeat (first|exact (Kd.C_below HR0.out HB.out)|(with_reducible refine Kd.C_alloc ?_ _)|(with_reducible refine Kd.C_drewN ?_ _)|(with_reducible refine Kd.C_drew ?_)));(case side2 => exact HC0.out);(case side3 => repeat (first|exact (Kd.C_below HR1.out HB.out)|(with_reducible refine Kd.C_alloc ?_ _)|(with_reducible refine Kd.C_drewN ?_ _)|(with_reducible refine Kd.C_drew ?_)));(case side4 => exact HC1.out);rintro e w8 ⟨rfl,hb⟩;replace HB:=Aside0.mk (below_step (by repeat (first|(with_reducible first|exact HB.out|apply xA|apply xN|apply xD)|exact HB.out)) hb);(try clear hb);(try clear hb2);(try clear hk);(try clear hi))|(go_at_call 24;(with_reducible refine (tidelinelaw09_clean.calls k _ _ l0 _ _ l1 t213 _ ?side1 ?side2 ?side3 ?side4 A7.out).mono ?_);(case side1 => repeat (first|exact (Kd.C_below HR0.out HB.out)|(with_reducible refine Kd.C_alloc ?_ _)|(with_reducible refine Kd.C_drewN ?_ _)|(with_reducible refine Kd.C_drew ?_)));(case side2 => exact HC0.out);(case side3 => repeat (first|exact (Kd.C_below HR1.out HB.out)|(with_reducible refine Kd.C_alloc ?_ _)|(with_reducible refine Kd.C_drewN ?_ _)|(with_reducible refine Kd.C_drew ?_)));(case side4 => exact HC1.out);rintro e w9 ⟨rfl,hb⟩;replace HB:=Aside0.mk (below_step (by repeat (first|(with_reducible first|exact HB.out|apply xA|apply xN|apply xD)|exact HB.out)) hb);(try clear hb);(try clear hb2);(try clear hk);(try clear hi)))
   repeat (go_quiet (first|(go_at_call 12;(refine (tidelinelaw09_beyond2.callsL k _ _ l0 _ _ l1 false _ ?side1 ?side2 ?side3 ?side4 A4.out).mono ?_);(case side1 => repeat (first|exact (Kd.C_below HR0.out HB.out)|(with_reducible refine Kd.C_alloc ?_ _)|(with_reducible refine Kd.C_drewN ?_ _)|(with_reducible refine Kd.C_drew ?_)));(case side2 => exact HC0.out);(case side3 => repeat (first|exact (Kd.C_below HR1.out HB.out)|(with_reducible refine Kd.C_alloc ?_ _)|(with_reducible refine Kd.C_drewN ?_ _)|(with_reducible refine Kd.C_drew ?_)));(case side4 => exact HC1.out);rintro e w8 ⟨rfl,hb⟩;replace HB:=Aside0.mk (below_step (by repeat (first|(with_reducible first|exact HB.out|apply xA|apply xN|apply xD)|exact HB.out)) hb);(try clear hb);(try clear hb2);(try clear hk);(try clear hi))|(go_at_call 24;(with_reducible refine (tidelinelaw09_clean.calls k _ _ l0 _ _ l1 t213 _ ?side1 ?side2 ?side3 ?side4 A7.out).mono ?_);(case side1 => repeat (first|exact (Kd.C_below HR0.out HB.out)|(with_reducible refine Kd.C_alloc ?_ _)|(with_reducible refine Kd.C_drewN ?_ _)|(with_reducible refine Kd.C_drew ?_)));(case side2 => exact HC0.out);(case side3 => repeat (first|exact (Kd.C_below HR1.out HB.out)|(with_reducible refine Kd.C_alloc ?_ _)|(with_reducible refine Kd.C_drewN ?_ _)|(with_reducible refine Kd.C_drew ?_)));(case side4 => exact HC1.out);rintro e w9 ⟨rfl,hb⟩;replace HB:=Aside0.mk (below_step (by repeat (first|(with_reducible first|exact HB.out|apply xA|apply xN|apply xD)|exact HB.out)) hb);(try clear hb);(try clear hb2);(try clear hk);(try clear hi)));try go_wp2_with (first|(go_at_call 12;(refine (tidelinelaw09_beyond2.callsL k _ _ l0 _ _ l1 false _ ?side1 ?side2 ?side3 ?side4 A4.out).mono ?_);(case side1 => repeat (first|exact (Kd.C_below HR0.out HB.out)|(with_reducible refine Kd.C_alloc ?_ _)|(with_reducible refine Kd.C_drewN ?_ _)|(with_reducible refine Kd.C_drew ?_)));(case side2 => exact HC0.out);(case side3 => repeat (first|exact (Kd.C_below HR1.out HB.out)|(with_reducible refine Kd.C_alloc ?_ _)|(with_reducible refine Kd.C_drewN ?_ _)|(with_reducible refine Kd.C_drew ?_)));(case side4 => exact HC1.out);rintro e w8 ⟨rfl,hb⟩;replace HB:=Aside0.mk (below_step (by repeat (first|(with_reducible first|exact HB.out|apply xA|apply xN|apply xD)|exact HB.out)) hb);(try clear hb);(try clear hb2);(try clear hk);(try clear hi))|(go_at_call 24;(with_reducible refine (tidelinelaw09_clean.calls k _ _ l0 _ _ l1 t213 _ ?side1 ?side2 ?side3 ?side4 A7.out).mono ?_);(case side1 => repeat (first|exact (Kd.C_below HR0.out HB.out)|(with_reducible refine Kd.C_alloc ?_ _)|(with_reducible refine Kd.C_drewN ?_ _)|(with_reducible refine Kd.C_drew ?_)));(case side2 => exact HC0.out);(case side3 => repeat (first|exact (Kd.C_below HR1.out HB.out)|(with_reducible refine Kd.C_alloc ?_ _)|(with_reducible refine Kd.C_drewN ?_ _)|(with_reducible refine Kd.C_drew ?_)));(case side4 => exact HC1.out);rintro e w9 ⟨rfl,hb⟩;replace HB:=Aside0.mk (below_step (by repeat (first|(with_reducible first|exact HB.out|apply xA|apply xN|apply xD)|exact HB.out)) hb);(try clear hb);(try clear hb2);(try clear hk);(try clear hi))))
   go_meet
   case rel => exact ⟨_,(!t213),(by first|rfl|(simp;done)|(simp [*];done)|(simp [*,Go.Proofs.Ytghlellambnkeaa.Str.bne_nil];done)),H',⟨by first|omega|exact Nat.le_refl _⟩,⟨by repeat (first|(with_reducible first|exact HB.out|apply xA|apply xN|apply xD)|exact HB.out)⟩⟩
 case rest =>
  clear HC3
  try clear c1
  try clear p2
  try clear c5
  try clear c9
  obtain ⟨kq,x29_2,rfl,HA,HJ2,HB⟩:=hcut
  cases kq with
 |zero => exact absurd HA.out (by simp [tidelinelaw09_MergeLacks.j0])
 |succ kj2 =>
   have H:=HA.out
   clear HA
   simp only [tidelinelaw09_MergeLacks.j0] at H
   by_cases c10 : x29_2 = true
   ·subst c10
    have H1 : (some true) = some r:=by rw [if_pos rfl] at H;exact H
    clear H
    have H:=H1
    clear H1
    obtain rfl:=Option.some.inj H
    go_wp2
    repeat (go_quiet (fail);try go_wp2)
    go_ret
    exact ⟨by first|rfl|(simp [errW_none,errW_some] <;> rfl)|(simp [*,errW_none,errW_some] <;> rfl),by repeat (first|(with_reducible first|exact HB.out|apply xA|apply xN|apply xD)|exact HB.out)⟩
   ·replace c10:=Bool.eq_false_iff.mpr c10
    subst c10
    have H1 : ((merge_Lacks.f kj2 l0 l1).bind fun bt214 => ((merge_Lacks.f kj2 l1 l0).bind fun bt218 => (if bt214.2 = 0 then (tidelinelaw09_MergeLacks.j1 kj2 l0 l1 bt214.1 bt218.1 (bt218.2 != 0)) else (tidelinelaw09_MergeLacks.j1 kj2 l0 l1 bt214.1 bt218.1 true)))) = some r:=by rw [if_neg (show ¬ (false = true) by decide)] at H;exact H
    clear H
    have H:=H1
    clear H1
    replace H:=Option.bind_eq_some_iff.mp H
    obtain ⟨⟨t214,t215⟩,A110,H⟩:=H
    replace H : ((merge_Lacks.f kj2 l1 l0).bind fun bt218 => (if t215 = 0 then (tidelinelaw09_MergeLacks.j1 kj2 l0 l1 t214 bt218.1 (bt218.2 != 0)) else (tidelinelaw09_MergeLacks.j1 kj2 l0 l1 t214 bt218.1 true))) = some r:=H
    have A11:=Aside0.mk A110
    clear A110
    replace H:=Option.bind_eq_some_iff.mp H
    obtain ⟨⟨t218,t219⟩,A120,H⟩:=H
    replace H : (if t215 = 0 then (tidelinelaw09_MergeLacks.j1 kj2 l0 l1 t214 t218 (t219 != 0)) else (tidelinelaw09_MergeLacks.j1 kj2 l0 l1 t214 t218 true)) = some r:=H
    have A12:=Aside0.mk A120
    clear A120
    have HC13:=Aside0.mk H
    clear H
    go_upto_region 5 with (first|(go_at_call 28;(with_reducible refine (merge_Lacks.calls kj2 _ _ l0 _ _ l1 t214 t215 _ ?side1 ?side2 ?side3 ?side4 A11.out).mono ?_);(case side1 => repeat (first|exact (Kd.C_below HR0.out HB.out)|(with_reducible refine Kd.C_alloc ?_ _)|(with_reducible refine Kd.C_drewN ?_ _)|(with_reducible refine Kd.C_drew ?_)));(case side2 => exact HC0.out);(case side3 => repeat (first|exact (Kd.C_below HR1.out HB.out)|(with_reducible refine Kd.C_alloc ?_ _)|(with_reducible refine Kd.C_drewN ?_ _)|(with_reducible refine Kd.C_drew ?_)));(case side4 => exact HC1.out);rintro e w14 ⟨v216,rfl,ho0,hb⟩;have n0_:=Aside0.mk (Kd.R_lower ho0 (below_size (by repeat (first|(with_reducible first|exact HB.out|apply xA|apply xN|apply xD)|exact HB.out))));have n1_:=Aside0.mk (below_step (by repeat (first|(with_reducible first|exact HB.out|apply xA|apply xN|apply xD)|exact HB.out)) hb);clear HB;have HO217:=n0_;have HB:=n1_;clear n0_ n1_;(try clear hb);(try clear hb2);(try clear hk);(try clear hi);(try clear ho0))|(go_at_call 28;(with_reducible refine (merge_Lacks.calls kj2 _ _ l1 _ _ l0 t218 t219 _ ?side1 ?side2 ?side3 ?side4 A12.out).mono ?_);(case side1 => repeat (first|exact (Kd.C_below HR1.out HB.out)|(with_reducible refine Kd.C_alloc ?_ _)|(with_reducible refine Kd.C_drewN ?_ _)|(with_reducible refine Kd.C_drew ?_)));(case side2 => exact HC1.out);(case side3 => repeat (first|exact (Kd.C_below HR0.out HB.out)|(with_reducible refine Kd.C_alloc ?_ _)|(with_reducible refine Kd.C_drewN ?_ _)|(with_reducible refine Kd.C_drew ?_)));(case side4 => exact HC0.out);rintro e w15 ⟨v220,rfl,ho0,hb⟩;have n0_:=Aside0.mk (Kd.R_elder' (by (with_reducible repeat (first|apply Kd.R_alloc|apply Kd.R_drewN|apply Kd.R_drew));exact HO217.out) (Kd.R_base ho0) hb);have n1_:=Aside0.mk (Kd.R_lower (Kd.R_new' ho0 (Kd.R_lt (by (with_reducible repeat (first|apply Kd.R_alloc|apply Kd.R_drewN|apply Kd.R_drew));exact HO217.out))) (below_size (by repeat (first|(with_reducible first|exact HB.out|apply xA|apply xN|apply xD)|exact HB.out))));have n2_:=Aside0.mk (below_step (by repeat (first|(with_reducible first|exact HB.out|apply xA|apply xN|apply xD)|exact HB.out)) hb);clear HO217;clear HB;have HO217:=n0_;have HO221:=n1_;have HB:=n2_;clear n0_ n1_ n2_;(try clear hb);(try clear hb2);(try clear hk);(try clear hi);(try clear ho0)))
    repeat (go_quiet (first|(go_at_call 28;(with_reducible refine (merge_Lacks.calls kj2 _ _ l0 _ _ l1 t214 t215 _ ?side1 ?side2 ?side3 ?side4 A11.out).mono ?_);(case side1 => repeat (first|exact (Kd.C_below HR0.out HB.out)|(with_reducible refine Kd.C_alloc ?_ _)|(with_reducible refine Kd.C_drewN ?_ _)|(with_reducible refine Kd.C_drew ?_)));(case side2 => exact HC0.out);(case side3 => repeat (first|exact (Kd.C_below HR1.out HB.out)|(with_reducible refine Kd.C_alloc ?_ _)|(with_reducible refine Kd.C_drewN ?_ _)|(with_reducible refine Kd.C_drew ?_)));(case side4 => exact HC1.out);rintro e w14 ⟨v216,rfl,ho0,hb⟩;have n0_:=Aside0.mk (Kd.R_lower ho0 (below_size (by repeat (first|(with_reducible first|exact HB.out|apply xA|apply xN|apply xD)|exact HB.out))));have n1_:=Aside0.mk (below_step (by repeat (first|(with_reducible first|exact HB.out|apply xA|apply xN|apply xD)|exact HB.out)) hb);clear HB;have HO217:=n0_;have HB:=n1_;clear n0_ n1_;(try clear hb);(try clear hb2);(try clear hk);(try clear hi);(try clear ho0))|(go_at_call 28;(with_reducible refine (merge_Lacks.calls kj2 _ _ l1 _ _ l0 t218 t219 _ ?side1 ?side2 ?side3 ?side4 A12.out).mono ?_);(case side1 => repeat (first|exact (Kd.C_below HR1.out HB.out)|(with_reducible refine Kd.C_alloc ?_ _)|(with_reducible refine Kd.C_drewN ?_ _)|(with_reducible refine Kd.C_drew ?_)));(case side2 => exact HC1.out);(case side3 => repeat (first|exact (Kd.C_below HR0.out HB.out)|(with_reducible refine Kd.C_alloc ?_ _)|(with_reducible refine Kd.C_drewN ?_ _)|(with_reducible refine Kd.C_drew ?_)));(case side4 => exact HC0.out);rintro e w15 ⟨v220,rfl,ho0,hb⟩;have n0_:=Aside0.mk (Kd.R_elder' (by (with_reducible repeat (first|apply Kd.R_alloc|apply Kd.R_drewN|apply Kd.R_drew));exact HO217.out) (Kd.R_base ho0) hb);have n1_:=Aside0.mk (Kd.R_lower (Kd.R_new' ho0 (Kd.R_lt (by (with_reducible repeat (first|apply Kd.R_alloc|apply Kd.R_drewN|apply Kd.R_drew));exact HO217.out))) (below_size (by repeat (first|(with_reducible first|exact HB.out|apply xA|apply xN|apply xD)|exact HB.out))));have n2_:=Aside0.mk (below_step (by repeat (first|(with_reducible first|exact HB.out|apply xA|apply xN|apply xD)|exact HB.out)) hb);clear HO217;clear HB;have HO217:=n0_;have HO221:=n1_;have HB:=n2_;clear n0_ n1_ n2_;(try clear hb);(try clear hb2);(try clear hk);(try clear hi);(try clear ho0)));go_upto_region 5 with (first|(go_at_call 28;(with_reducible refine (merge_Lacks.calls kj2 _ _ l0 _ _ l1 t214 t215 _ ?side1 ?side2 ?side3 ?side4 A11.out).mono ?_);(case side1 => repeat (first|exact (Kd.C_below HR0.out HB.out)|(with_reducible refine Kd.C_alloc ?_ _)|(with_reducible refine Kd.C_drewN ?_ _)|(with_reducible refine Kd.C_drew ?_)));(case side2 => exact HC0.out);(case side3 => repeat (first|exact (Kd.C_below HR1.out HB.out)|(with_reducible refine Kd.C_alloc ?_ _)|(with_reducible refine Kd.C_drewN ?_ _)|(with_reducible refine Kd.C_drew ?_)));(case side4 => exact HC1.out);rintro e w14 ⟨v216,rfl,ho0,hb⟩;have n0_:=Aside0.mk (Kd.R_lower ho0 (below_size (by repeat (first|(with_reducible first|exact HB.out|apply xA|apply xN|apply xD)|exact HB.out))));have n1_:=Aside0.mk (below_step (by repeat (first|(with_reducible first|exact HB.out|apply xA|apply xN|apply xD)|exact HB.out)) hb);clear HB;have HO217:=n0_;have HB:=n1_;clear n0_ n1_;(try clear hb);(try clear hb2);(try clear hk);(try clear hi);(try clear ho0))|(go_at_call 28;(with_reducible refine (merge_Lacks.calls kj2 _ _ l1 _ _ l0 t218 t219 _ ?side1 ?side2 ?side3 ?side4 A12.out).mono ?_);(case side1 => repeat (first|exact (Kd.C_below HR1.out HB.out)|(with_reducible refine Kd.C_alloc ?_ _)|(with_reducible refine Kd.C_drewN ?_ _)|(with_reducible refine Kd.C_drew ?_)));(case side2 => exact HC1.out);(case side3 => repeat (first|exact (Kd.C_below HR0.out HB.out)|(with_reducible refine Kd.C_alloc ?_ _)|(with_reducible refine Kd.C_drewN ?_ _)|(with_reducible refine Kd.C_drew ?_)));(case side4 => exact HC0.out);rintro e w15 ⟨v220,rfl,ho0,hb⟩;have n0_:=Aside0.mk (Kd.R_elder' (by (with_reducible repeat (first|apply Kd.R_alloc|apply Kd.R_drewN|apply Kd.R_drew));exact HO217.out) (Kd.R_base ho0) hb);have n1_:=Aside0.mk (Kd.R_lower (Kd.R_new' ho0 (Kd.R_lt (by (with_reducible repeat (first|apply Kd.R_alloc|apply Kd.R_drewN|apply Kd.R_drew));exact HO217.out))) (below_size (by repeat (first|(with_reducible first|exact HB.out|apply xA|apply xN|apply xD)|exact HB.out))));have n2_:=Aside0.mk (below_step (by repeat (first|(with_reducible first|exact HB.out|apply xA|apply xN|apply xD)|exact HB.out)) hb);clear HO217;clear HB;have HO217:=n0_;have HO221:=n1_;have HB:=n2_;clear n0_ n1_ n2_;(try clear hb);(try clear hb2);(try clear hk);(try clear hi);(try clear ho0))))
    (try simp only [Act.put,List.setIfInBounds_toArray,List.set_cons_zero,List.set_cons_succ])
    go_cut [47] (fun v47 wc => ∃ (kq : Nat) (x47_12 : Bool),v47 = .bool x47_12 ∧ Aside0 (tidelinelaw09_MergeLacks.j1 kq l0 l1 t214 t218 x47_12 = some r) ∧ Aside0 (kq ≤ kj2) ∧ Aside0 (Kd.R k44 44 wc w.heap.size (fun k_ => some k_ ≠ (v220 : Value).ownBlock) v216 t214) ∧ Aside0 (Kd.R k44 44 wc w.heap.size (fun k_ => some k_ ≠ (v216 : Value).ownBlock) v220 t218) ∧ Aside0 (Below w.heap.size w wc))
    case first =>
     have H:=HC13.out
     clear HC13
     by_cases c16 : t215 = 0
     ·rw [if_pos c16] at H
      have c16b0 : (t215 == 0) = true:=beq_iff_eq.mpr c16
      have c16b1 : (t215 != 0) = false:=bne_eq_false_iff_eq.mpr c16
      clear c16
      (first|rw [c16b0]|(simp only [i64_w,i32_w];rw [c16b0])|skip)
      have H':=Aside0.mk H
      clear H
      go_wp2
      repeat (go_quiet (fail);try go_wp2)
      go_meet
      case rel => exact ⟨_,((t219 != 0)),(by first|rfl|(simp;done)|(simp [*];done)|(simp [*,Go.Proofs.Ytghlellambnkeaa.Str.bne_nil];done)),H',⟨by have:=HJ2.out;first|omega|exact Nat.le_refl _⟩,⟨by (with_reducible repeat (first|apply Kd.R_alloc|apply Kd.R_drewN|apply Kd.R_drew));exact Kd.R_mono HO217.out (fun _ hk => hk.2)⟩,⟨by (with_reducible repeat (first|apply Kd.R_alloc|apply Kd.R_drewN|apply Kd.R_drew));exact Kd.R_mono HO221.out (fun _ hk => hk.2)⟩,⟨by repeat (first|(with_reducible first|exact HB.out|apply xA|apply xN|apply xD)|exact HB.out)⟩⟩
     ·rw [if_neg c16] at H
      have c16b0 : (t215 == 0) = false:=beq_eq_false_iff_ne.mpr c16
      have c16b1 : (t215 != 0) = true:=bne_iff_ne.mpr c16
      (first|rw [c16b0]|(simp only [i64_w,i32_w];rw [c16b0])|skip)
      have H':=Aside0.mk H
      clear H
      go_wp2
      repeat (go_quiet (fail);try go_wp2)
      go_meet
      case rel => exact ⟨_,(true),(by first|rfl|(simp;done)|(simp [*];done)|(simp [*,Go.Proofs.Ytghlellambnkeaa.Str.bne_nil];done)),H',⟨by have:=HJ2.out;first|omega|exact Nat.le_refl _⟩,⟨by (with_reducible repeat (first|apply Kd.R_alloc|apply Kd.R_drewN|apply Kd.R_drew));exact Kd.R_mono HO217.out (fun _ hk => hk.2)⟩,⟨by (with_reducible repeat (first|apply Kd.R_alloc|apply Kd.R_drewN|apply Kd.R_drew));exact Kd.R_mono HO221.out (fun _ hk => hk.2)⟩,⟨by repeat (first|(with_reducible first|exact HB.out|apply xA|apply xN|apply xD)|exact HB.out)⟩⟩
    case rest =>
     clear HC13
     try clear c1
     try clear p2
     try clear c5
     try clear c9
     try clear c10
     try clear c16
     try clear c16b0
     try clear c16b1
     try clear p2
     obtain ⟨kq,x47_12,rfl,HA,HJ12,HO_5,HO_7,HB⟩:=hcut
     cases kq with
    |zero => exact absurd HA.out (by simp [tidelinelaw09_MergeLacks.j1])
    |succ kj12 =>
      have H:=HA.out
      clear HA
      simp only [tidelinelaw09_MergeLacks.j1] at H
      by_cases c17 : x47_12 = true
      ·subst c17
       have H1 : (none) = some r:=by rw [if_pos rfl] at H;exact H
       clear H
       have H:=H1
       clear H1
       exact absurd H (by simp)
      ·replace c17:=Bool.eq_false_iff.mpr c17
       subst c17
       have H1 : ((merge_Max.f kj12 l1 t214).bind fun bt222 => ((merge_Max.f kj12 l1 l0).bind fun bt226 => ((merge_Differ.f kj12 l0 l1).bind fun bt230 => ((merge_Max.f kj12 t214 t218).bind fun bt234 => ((tidelineref09_Max.f kj12 l1 l0).bind fun bt238 => ((tidelinelaw09_same.f kj12 bt226.1 bt238.1).bind fun t242 => (if t242 = true then (if bt222.2 = 0 then (if bt226.2 = 0 then (if bt230.2 = 0 then (if bt234.2 = 0 then ((tidelinelaw09_same.f kj12 bt222.1 bt226.1).bind fun t243 => (if t243 = true then (if (bt230.1.length : Int) = (bt234.1.length : Int) then (tidelinelaw09_MergeLacks.j2 kj12 bt230.1 bt234.1 ((bt230.1.length : Int) != (wrap64 ((t214.length : Int) + (t218.length : Int))))) else (tidelinelaw09_MergeLacks.j2 kj12 bt230.1 bt234.1 true)) else (tidelinelaw09_MergeLacks.j2 kj12 bt230.1 bt234.1 true))) else (tidelinelaw09_MergeLacks.j2 kj12 bt230.1 bt234.1 true)) else (tidelinelaw09_MergeLacks.j2 kj12 bt230.1 bt234.1 true)) else (tidelinelaw09_MergeLacks.j2 kj12 bt230.1 bt234.1 true)) else (tidelinelaw09_MergeLacks.j2 kj12 bt230.1 bt234.1 true)) else (none)))))))) = some r:=by rw [if_neg (show ¬ (false = true) by decide)] at H;exact H
       clear H
       have H:=H1
       clear H1
       replace H:=Option.bind_eq_some_iff.mp H
       obtain ⟨⟨t222,t223⟩,A180,H⟩:=H
       replace H : ((merge_Max.f kj12 l1 l0).bind fun bt226 => ((merge_Differ.f kj12 l0 l1).bind fun bt230 => ((merge_Max.f kj12 t214 t218).bind fun bt234 => ((tidelineref09_Max.f kj12 l1 l0).bind fun bt238 => ((tidelinelaw09_same.f kj12 bt226.1 bt238.1).bind fun t242 => (if t242 = true then (if t223 = 0 then (if bt226.2 = 0 then (if bt230.2 = 0 then (if bt234.2 = 0 then ((tidelinelaw09_same.f kj12 t222 bt226.1).bind fun t243 => (if t243 = true then (if (bt230.1.length : Int) = (bt234.1.length : Int) then (tidelinelaw09_MergeLacks.j2 kj12 bt230.1 bt234.1 ((bt230.1.length : Int) != (wrap64 ((t214.length : Int) + (t218.length : Int))))) else (tidelinelaw09_MergeLacks.j2 kj12 bt230.1 bt234.1 true)) else (tidelinelaw09_MergeLacks.j2 kj12 bt230.1 bt234.1 true))) else (tidelinelaw09_MergeLacks.j2 kj12 bt230.1 bt234.1 true)) else (tidelinelaw09_MergeLacks.j2 kj12 bt230.1 bt234.1 true)) else (tidelinelaw09_MergeLacks.j2 kj12 bt230.1 bt234.1 true)) else (tidelinelaw09_MergeLacks.j2 kj12 bt230.1 bt234.1 true)) else (none))))))) = some r:=H
       have A18:=Aside0.mk A180
       clear A180
       replace H:=Option.bind_eq_some_iff.mp H
       obtain ⟨⟨t226,t227⟩,A190,H⟩:=H
       replace H : ((merge_Differ.f kj12 l0 l1).bind fun bt230 => ((merge_Max.f kj12 t214 t218).bind fun bt234 => ((tidelineref09_Max.f kj12 l1 l0).bind fun bt238 => ((tidelinelaw09_same.f kj12 t226 bt238.1).bind fun t242 => (if t242 = true then (if t223 = 0 then (if t227 = 0 then (if bt230.2 = 0 then (if bt234.2 = 0 then ((tidelinelaw09_same.f kj12 t222 t226).bind fun t243 => (if t243 = true then (if (bt230.1.length : Int) = (bt234.1.length : Int) then (tidelinelaw09_MergeLacks.j2 kj12 bt230.1 bt234.1 ((bt230.1.length : Int) != (wrap64 ((t214.length : Int) + (t218.length : Int))))) else (tidelinelaw09_MergeLacks.j2 kj12 bt230.1 bt234.1 true)) else (tidelinelaw09_MergeLacks.j2 kj12 bt230.1 bt234.1 true))) else (tidelinelaw09_MergeLacks.j2 kj12 bt230.1 bt234.1 true)) else (tidelinelaw09_MergeLacks.j2 kj12 bt230.1 bt234.1 true)) else (tidelinelaw09_MergeLacks.j2 kj12 bt230.1 bt234.1 true)) else (tidelinelaw09_MergeLacks.j2 kj12 bt230.1 bt234.1 true)) else (none)))))) = some r:=H
       have A19:=Aside0.mk A190
       clear A190
       replace H:=Option.bind_eq_some_iff.mp H
       obtain ⟨⟨t230,t231⟩,A200,H⟩:=H
       replace H : ((merge_Max.f kj12 t214 t218).bind fun bt234 => ((tidelineref09_Max.f kj12 l1 l0).bind fun bt238 => ((tidelinelaw09_same.f kj12 t226 bt238.1).bind fun t242 => (if t242 = true then (if t223 = 0 then (if t227 = 0 then (if t231 = 0 then (if bt234.2 = 0 then ((tidelinelaw09_same.f kj12 t222 t226).bind fun t243 => (if t243 = true then (if (t230.length : Int) = (bt234.1.length : Int) then (tidelinelaw09_MergeLacks.j2 kj12 t230 bt234.1 ((t230.length : Int) != (wrap64 ((t214.length : Int) + (t218.length : Int))))) else (tidelinelaw09_MergeLacks.j2 kj12 t230 bt234.1 true)) else (tidelinelaw09_MergeLacks.j2 kj12 t230 bt234.1 true))) else (tidelinelaw09_MergeLacks.j2 kj12 t230 bt234.1 true)) else (tidelinelaw09_MergeLacks.j2 kj12 t230 bt234.1 true)) else (tidelinelaw09_MergeLacks.j2 kj12 t230 bt234.1 true)) else (tidelinelaw09_MergeLacks.j2 kj12 t230 bt234.1 true)) else (none))))) = some r:=H
       have A20:=Aside0.mk A200
       clear A200
       replace H:=Option.bind_eq_some_iff.mp H
       obtain ⟨⟨t234,t235⟩,A210,H⟩:=H
       replace H : ((tidelineref09_Max.f kj12 l1 l0).bind fun bt238 => ((tidelinelaw09_same.f kj12 t226 bt238.1).bind fun t242 => (if t242 = true then (if t223 = 0 then (if t227 = 0 then (if t231 = 0 then (if t235 = 0 then ((tidelinelaw09_same.f kj12 t222 t226).bind fun t243 => (if t243 = true then (if (t230.length : Int) = (t234.length : Int) then (tidelinelaw09_MergeLacks.j2 kj12 t230 t234 ((t230.length : Int) != (wrap64 ((t214.length : Int) + (t218.length : Int))))) else (tidelinelaw09_MergeLacks.j2 kj12 t230 t234 true)) else (tidelinelaw09_MergeLacks.j2 kj12 t230 t234 true))) else (tidelinelaw09_MergeLacks.j2 kj12 t230 t234 true)) else (tidelinelaw09_MergeLacks.j2 kj12 t230 t234 true)) else (tidelinelaw09_MergeLacks.j2 kj12 t230 t234 true)) else (tidelinelaw09_MergeLacks.j2 kj12 t230 t234 true)) else (none)))) = some r:=H
       have A21:=Aside0.mk A210
       clear A210
       replace H:=Option.bind_eq_some_iff.mp H
       obtain ⟨⟨t238,t239⟩,A220,H⟩:=H
       replace H : ((tidelinelaw09_same.f kj12 t226 t238).bind fun t242 => (if t242 = true then (if t223 = 0 then (if t227 = 0 then (if t231 = 0 then (if t235 = 0 then ((tidelinelaw09_same.f kj12 t222 t226).bind fun t243 => (if t243 = true then (if (t230.length : Int) = (t234.length : Int) then (tidelinelaw09_MergeLacks.j2 kj12 t230 t234 ((t230.length : Int) != (wrap64 ((t214.length : Int) + (t218.length : Int))))) else (tidelinelaw09_MergeLacks.j2 kj12 t230 t234 true)) else (tidelinelaw09_MergeLacks.j2 kj12 t230 t234 true))) else (tidelinelaw09_MergeLacks.j2 kj12 t230 t234 true)) else (tidelinelaw09_MergeLacks.j2 kj12 t230 t234 true)) else (tidelinelaw09_MergeLacks.j2 kj12 t230 t234 true)) else (tidelinelaw09_MergeLacks.j2 kj12 t230 t234 true)) else (none))) = some r:=H
       have A22:=Aside0.mk A220
       clear A220
       replace H:=Option.bind_eq_some_iff.mp H
       obtain ⟨t242,A230,H⟩:=H
       replace H : (if t242 = true then (if t223 = 0 then (if t227 = 0 then (if t231 = 0 then (if t235 = 0 then ((tidelinelaw09_same.f kj12 t222 t226).bind fun t243 => (if t243 = true then (if (t230.length : Int) = (t234.length : Int) then (tidelinelaw09_MergeLacks.j2 kj12 t230 t234 ((t230.length : Int) != (wrap64 ((t214.length : Int) + (t218.length : Int))))) else (tidelinelaw09_MergeLacks.j2 kj12 t230 t234 true)) else (tidelinelaw09_MergeLacks.j2 kj12 t230 t234 true))) else (tidelinelaw09_MergeLacks.j2 kj12 t230 t234 true)) else (tidelinelaw09_MergeLacks.j2 kj12 t230 t234 true)) else (tidelinelaw09_MergeLacks.j2 kj12 t230 t234 true)) else (tidelinelaw09_MergeLacks.j2 kj12 t230 t234 true)) else (none)) = some r:=H
       have A23:=Aside0.mk A230
       clear A230
       by_cases c24 : t242 = true
       ·subst c24
        have H1 : (if t223 = 0 then (if t227 = 0 then (if t231 = 0 then (if t235 = 0 then ((tidelinelaw09_same.f kj12 t222 t226).bind fun t243 => (if t243 = true then (if (t230.length : Int) = (t234.length : Int) then (tidelinelaw09_MergeLacks.j2 kj12 t230 t234 ((t230.length : Int) != (wrap64 ((t214.length : Int) + (t218.length : Int))))) else (tidelinelaw09_MergeLacks.j2 kj12 t230 t234 true)) else (tidelinelaw09_MergeLacks.j2 kj12 t230 t234 true))) else (tidelinelaw09_MergeLacks.j2 kj12 t230 t234 true)) else (tidelinelaw09_MergeLacks.j2 kj12 t230 t234 true)) else (tidelinelaw09_MergeLacks.j2 kj12 t230 t234 true)) else (tidelinelaw09_MergeLacks.j2 kj12 t230 t234 true)) = some r:=by rw [if_pos rfl] at H;exact H
        clear H
        have H:=H1
        clear H1
        have HC25:=Aside0.mk H
        clear H
        obtain ⟨Ao26,co26,eo26⟩:=Kd.R_slice HO_5.out
        subst eo26
        go_upto_region 14 with (first|(go_at_call 25;(with_reducible refine (merge_Max.calls kj12 _ _ l1 _ _ t214 t222 t223 _ ?side1 ?side2 ?side3 ?side4 A18.out).mono ?_);(case side1 => repeat (first|exact (Kd.C_below HR1.out HB.out)|(with_reducible refine Kd.C_alloc ?_ _)|(with_reducible refine Kd.C_drewN ?_ _)|(with_reducible refine Kd.C_drew ?_)));(case side2 => exact HC1.out);(case side3 => repeat (first|exact (Kd.R_reads' HO_5.out).2.2|(with_reducible refine Kd.C_alloc ?_ _)|(with_reducible refine Kd.C_drewN ?_ _)|(with_reducible refine Kd.C_drew ?_)));(case side4 => exact (Kd.R_reads' HO_5.out).2.1);rintro e w27 ⟨v224,rfl,ho0,hb⟩;have n0_:=Aside0.mk (Kd.R_elder' (by (with_reducible repeat (first|apply Kd.R_alloc|apply Kd.R_drewN|apply Kd.R_drew));exact HO_5.out) (Kd.R_base ho0) hb);have n1_:=Aside0.mk (Kd.R_elder' (by (with_reducible repeat (first|apply Kd.R_alloc|apply Kd.R_drewN|apply Kd.R_drew));exact HO_7.out) (Kd.R_base ho0) hb);have n2_:=Aside0.mk (Kd.R_lower (Kd.R_new' (Kd.R_new' ho0 (Kd.R_lt (by (with_reducible repeat (first|apply Kd.R_alloc|apply Kd.R_drewN|apply Kd.R_drew));exact HO_5.out))) (Kd.R_lt (by (with_reducible repeat (first|apply Kd.R_alloc|apply Kd.R_drewN|apply Kd.R_drew));exact HO_7.out))) (below_size (by repeat (first|(with_reducible first|exact HB.out|apply xA|apply xN|apply xD)|exact HB.out))));have n3_:=Aside0.mk (below_step (by repeat (first|(with_reducible first|exact HB.out|apply xA|apply xN|apply xD)|exact HB.out)) hb);clear HO_5;clear HO_7;clear HB;have HO_5:=n0_;have HO_7:=n1_;have HO225:=n2_;have HB:=n3_;clear n0_ n1_ n2_ n3_;(try clear hb);(try clear hb2);(try clear hk);(try clear hi);(try clear ho0))|(go_at_call 25;(with_reducible refine (merge_Max.calls kj12 _ _ l1 _ _ l0 t226 t227 _ ?side1 ?side2 ?side3 ?side4 A19.out).mono ?_);(case side1 => repeat (first|exact (Kd.C_below HR1.out HB.out)|(with_reducible refine Kd.C_alloc ?_ _)|(with_reducible refine Kd.C_drewN ?_ _)|(with_reducible refine Kd.C_drew ?_)));(case side2 => exact HC1.out);(case side3 => repeat (first|exact (Kd.C_below HR0.out HB.out)|(with_reducible refine Kd.C_alloc ?_ _)|(with_reducible refine Kd.C_drewN ?_ _)|(with_reducible refine Kd.C_drew ?_)));(case side4 => exact HC0.out);rintro e w28 ⟨v228,rfl,ho0,hb⟩;have n0_:=Aside0.mk (Kd.R_elder' (by (with_reducible repeat (first|apply Kd.R_alloc|apply Kd.R_drewN|apply Kd.R_drew));exact HO_5.out) (Kd.R_base ho0) hb);have n1_:=Aside0.mk (Kd.R_elder' (by (with_reducible repeat (first|apply Kd.R_alloc|apply Kd.R_drewN|apply Kd.R_drew));exact HO_7.out) (Kd.R_base ho0) hb);have n2_:=Aside0.mk (Kd.R_elder' (by (with_reducible repeat (first|apply Kd.R_alloc|apply Kd.R_drewN|apply Kd.R_drew));exact HO225.out) (Kd.R_base ho0) hb);have n3_:=Aside0.mk (Kd.R_lower (Kd.R_new' (Kd.R_new' (Kd.R_new' ho0 (Kd.R_lt (by (with_reducible repeat (first|apply Kd.R_alloc|apply Kd.R_drewN|apply Kd.R_drew));exact HO_5.out))) (Kd.R_lt (by (with_reducible repeat (first|apply Kd.R_alloc|apply Kd.R_drewN|apply Kd.R_drew));exact HO_7.out))) (Kd.R_lt (by (with_reducible repeat (first|apply Kd.R_alloc|apply Kd.R_drewN|apply Kd.R_drew));exact HO225.out))) (below_size (by repeat (first|(with_reducible first|exact HB.out|apply xA|apply xN|apply xD)|exact HB.out))));have n4_:=Aside0.mk (below_step (by repeat (first|(with_reducible first|exact HB.out|apply xA|apply xN|apply xD)|exact HB.out)) hb);clear HO_5;clear HO_7;clear HO225;clear HB;have HO_5:=n0_;have HO_7:=n1_;have HO225:=n2_;have HO229:=n3_;have HB:=n4_;clear n0_ n1_ n2_ n3_ n4_;(try clear hb);(try clear hb2);(try clear hk);(try clear hi);(try clear ho0))|(go_at_call 27;(with_reducible refine (merge_Differ.calls kj12 _ _ l0 _ _ l1 t230 t231 _ ?side1 ?side2 ?side3 ?side4 A20.out).mono ?_);(case side1 => repeat (first|exact (Kd.C_below HR0.out HB.out)|(with_reducible refine Kd.C_alloc ?_ _)|(with_reducible refine Kd.C_drewN ?_ _)|(with_reducible refine Kd.C_drew ?_)));(case side2 => exact HC0.out);(case side3 => repeat (first|exact (Kd.C_below HR1.out HB.out)|(with_reducible refine Kd.C_alloc ?_ _)|(with_reducible refine Kd.C_drewN ?_ _)|(with_reducible refine Kd.C_drew ?_)));(case side4 => exact HC1.out);rintro e w29 ⟨v232,rfl,ho0,hb⟩;have n0_:=Aside0.mk (Kd.R_below (by (with_reducible repeat (first|apply Kd.R_alloc|apply Kd.R_drewN|apply Kd.R_drew));exact HO_5.out) hb);have n1_:=Aside0.mk (Kd.R_below (by (with_reducible repeat (first|apply Kd.R_alloc|apply Kd.R_drewN|apply Kd.R_drew));exact HO_7.out) hb);have n2_:=Aside0.mk (Kd.R_below (by (with_reducible repeat (first|apply Kd.R_alloc|apply Kd.R_drewN|apply Kd.R_drew));exact HO225.out) hb);have n3_:=Aside0.mk (Kd.R_below (by (with_reducible repeat (first|apply Kd.R_alloc|apply Kd.R_drewN|apply Kd.R_drew));exact HO229.out) hb);have n4_:=Aside0.mk (Kd.R_lower ho0 (below_size (by repeat (first|(with_reducible first|exact HB.out|apply xA|apply xN|apply xD)|exact HB.out))));have n5_:=Aside0.mk (below_step (by repeat (first|(with_reducible first|exact HB.out|apply xA|apply xN|apply xD)|exact HB.out)) hb);clear HO_5;clear HO_7;clear HO225;clear HO229;clear HB;have HO_5:=n0_;have HO_7:=n1_;have HO225:=n2_;have HO229:=n3_;have HO233:=n4_;have HB:=n5_;clear n0_ n1_ n2_ n3_ n4_ n5_;(try clear hb);(try clear hb2);(try clear hk);(try clear hi);(try clear ho0);obtain ⟨Ao30,co30,eo30⟩:=Kd.R_slice HO_7.out;subst eo30)|(go_at_call 25;(with_reducible refine (merge_Max.calls kj12 _ _ t214 _ _ t218 t234 t235 _ ?side1 ?side2 ?side3 ?side4 A21.out).mono ?_);(case side1 => repeat (first|exact (Kd.R_reads' HO_5.out).2.2|(with_reducible refine Kd.C_alloc ?_ _)|(with_reducible refine Kd.C_drewN ?_ _)|(with_reducible refine Kd.C_drew ?_)));(case side2 => exact (Kd.R_reads' HO_5.out).2.1);(case side3 => repeat (first|exact (Kd.R_reads' HO_7.out).2.2|(with_reducible refine Kd.C_alloc ?_ _)|(with_reducible refine Kd.C_drewN ?_ _)|(with_reducible refine Kd.C_drew ?_)));(case side4 => exact (Kd.R_reads' HO_7.out).2.1);rintro e w31 ⟨v236,rfl,ho0,hb⟩;have n0_:=Aside0.mk (Kd.R_elder' (by (with_reducible repeat (first|apply Kd.R_alloc|apply Kd.R_drewN|apply Kd.R_drew));exact HO_5.out) (Kd.R_base ho0) hb);have n1_:=Aside0.mk (Kd.R_elder' (by (with_reducible repeat (first|apply Kd.R_alloc|apply Kd.R_drewN|apply Kd.R_drew));exact HO_7.out) (Kd.R_base ho0) hb);have n2_:=Aside0.mk (Kd.R_elder' (by (with_reducible repeat (first|apply Kd.R_alloc|apply Kd.R_drewN|apply Kd.R_drew));exact HO225.out) (Kd.R_base ho0) hb);have n3_:=Aside0.mk (Kd.R_elder' (by (with_reducible repeat (first|apply Kd.R_alloc|apply Kd.R_drewN|apply Kd.R_drew));exact HO229.out) (Kd.R_base ho0) hb);have n4_:=Aside0.mk (Kd.R_below (by (with_reducible repeat (first|apply Kd.R_alloc|apply Kd.R_drewN|apply Kd.R_drew));exact HO233.out) hb);have n5_:=Aside0.mk (Kd.R_lower (Kd.R_new' (Kd.R_new' (Kd.R_new' (Kd.R_new' ho0 (Kd.R_lt (by (with_reducible repeat (first|apply Kd.R_alloc|apply Kd.R_drewN|apply Kd.R_drew));exact HO_5.out))) (Kd.R_lt (by (with_reducible repeat (first|apply Kd.R_alloc|apply Kd.R_drewN|apply Kd.R_drew));exact HO_7.out))) (Kd.R_lt (by (with_reducible repeat (first|apply Kd.R_alloc|apply Kd.R_drewN|apply Kd.R_drew));exact HO225.out))) (Kd.R_lt (by (with_reducible repeat (first|apply Kd.R_alloc|apply Kd.R_drewN|apply Kd.R_drew));exact HO229.out))) (below_size (by repeat (first|(with_reducible first|exact HB.out|apply xA|apply xN|apply xD)|exact HB.out))));have n6_:=Aside0.mk (below_step (by repeat (first|(with_reducible first|exact HB.out|apply xA|apply xN|apply xD)|exact HB.out)) hb);clear HO_5;clear HO_7;clear HO225;clear HO229;clear HO233;clear HB;have HO_5:=n0_;have HO_7:=n1_;have HO225:=n2_;have HO229:=n3_;have HO233:=n4_;have HO237:=n5_;have HB:=n6_;clear n0_ n1_ n2_ n3_ n4_ n5_ n6_;(try clear hb);(try clear hb2);(try clear hk);(try clear hi);(try clear ho0))|(go_at_call 29;(with_reducible refine (tidelineref09_Max.calls kj12 _ _ l1 _ _ l0 t238 t239 _ ?side1 ?side2 ?side3 ?side4 A22.out).mono ?_);(case side1 => repeat (first|exact (Kd.C_below HR1.out HB.out)|(with_reducible refine Kd.C_alloc ?_ _)|(with_reducible refine Kd.C_drewN ?_ _)|(with_reducible refine Kd.C_drew ?_)));(case side2 => exact HC1.out);(case side3 => repeat (first|exact (Kd.C_below HR0.out HB.out)|(with_reducible refine Kd.C_alloc ?_ _)|(with_reducible refine Kd.C_drewN ?_ _)|(with_reducible refine Kd.C_drew ?_)));(case side4 => exact HC0.out);rintro e w32 ⟨v240,rfl,ho0,hb⟩;have n0_:=Aside0.mk (Kd.R_elder' (by (with_reducible repeat (first|apply Kd.R_alloc|apply Kd.R_drewN|apply Kd.R_drew));exact HO_5.out) (Kd.R_base ho0) hb);have n1_:=Aside0.mk (Kd.R_elder' (by (with_reducible repeat (first|apply Kd.R_alloc|apply Kd.R_drewN|apply Kd.R_drew));exact HO_7.out) (Kd.R_base ho0) hb);have n2_:=Aside0.mk (Kd.R_elder' (by (with_reducible repeat (first|apply Kd.R_alloc|apply Kd.R_drewN|apply Kd.R_drew));exact HO225.out) (Kd.R_base ho0) hb);have n3_:=Aside0.mk (Kd.R_elder' (by (with_reducible repeat (first|apply Kd.R_alloc|apply Kd.R_drewN|apply Kd.R_drew));exact HO229.out) (Kd.R_base ho0) hb);have n4_:=Aside0.mk (Kd.R_below (by (with_reducible repeat (first|apply Kd.R_alloc|apply Kd.R_drewN|apply Kd.R_drew));exact HO233.out) hb);have n5_:=Aside0.mk (Kd.R_elder' (by (with_reducible repeat (first|apply Kd.R_alloc|apply Kd.R_drewN|apply Kd.R_drew));exact HO237.out) (Kd.R_base ho0) hb);have n6_:=Aside0.mk (Kd.R_lower (Kd.R_new' (Kd.R_new' (Kd.R_new' (Kd.R_new' (Kd.R_new' ho0 (Kd.R_lt (by (with_reducible repeat (first|apply Kd.R_alloc|apply Kd.R_drewN|apply Kd.R_drew));exact HO_5.out))) (Kd.R_lt (by (with_reducible repeat (first|apply Kd.R_alloc|apply Kd.R_drewN|apply Kd.R_drew));exact HO_7.out))) (Kd.R_lt (by (with_reducible repeat (first|apply Kd.R_alloc|apply Kd.R_drewN|apply Kd.R_drew));exact HO225.out))) (Kd.R_lt (by (with_reducible repeat (first|apply Kd.R_alloc|apply Kd.R_drewN|apply Kd.R_drew));exact HO229.out))) (Kd.R_lt (by (with_reducible repeat (first|apply Kd.R_alloc|apply Kd.R_drewN|apply Kd.R_drew));exact HO237.out))) (below_size (by repeat (first|(with_reducible first|exact HB.out|apply xA|apply xN|apply xD)|exact HB.out))));have n7_:=Aside0.mk (below_step (by repeat (first|(with_reducible first|exact HB.out|apply xA|apply xN|apply xD)|exact HB.out)) hb);clear HO_5;clear HO_7;clear HO225;clear HO229;clear HO233;clear HO237;clear HB;have HO_5:=n0_;have HO_7:=n1_;have HO225:=n2_;have HO229:=n3_;have HO233:=n4_;have HO237:=n5_;have HO241:=n6_;have HB:=n7_;clear n0_ n1_ n2_ n3_ n4_ n5_ n6_ n7_;(try clear hb);(try clear hb2);(try clear hk);(try clear hi);(try clear ho0);obtain ⟨Ao33,co33,eo33⟩:=Kd.R_slice HO229.out;subst eo33;obtain ⟨Ao34,co34,eo34⟩:=Kd.R_slice HO241.out;subst eo34)|(go_at_call 20;(with_reducible refine (tidelinelaw09_same.calls kj12 _ _ t226 _ _ t238 true _ ?side1 ?side2 ?side3 ?side4 A23.out).mono ?_);(case side1 => repeat (first|exact (Kd.R_reads' HO229.out).2.2|(with_reducible refine Kd.C_alloc ?_ _)|(with_reducible refine Kd.C_drewN ?_ _)|(with_reducible refine Kd.C_drew ?_)));(case side2 => exact (Kd.R_reads' HO229.out).2.1);(case side3 => repeat (first|exact (Kd.R_reads' HO241.out).2.2|(with_reducible refine Kd.C_alloc ?_ _)|(with_reducible refine Kd.C_drewN ?_ _)|(with_reducible refine Kd.C_drew ?_)));(case side4 => exact (Kd.R_reads' HO241.out).2.1);rintro e w' ⟨rfl,⟨nd,rfl⟩⟩;(try first|exact ⟨rfl,_,World.drewN_drewN _ _ _⟩|exact ⟨rfl,_,Eq.trans (World.drewN_drewN _ _ _) (congrArg (World.drewN _) (Nat.add_assoc _ _ _))⟩)))
        repeat (go_quiet (first|(go_at_call 25;(with_reducible refine (merge_Max.calls kj12 _ _ l1 _ _ t214 t222 t223 _ ?side1 ?side2 ?side3 ?side4 A18.out).mono ?_);(case side1 => repeat (first|exact (Kd.C_below HR1.out HB.out)|(with_reducible refine Kd.C_alloc ?_ _)|(with_reducible refine Kd.C_drewN ?_ _)|(with_reducible refine Kd.C_drew ?_)));(case side2 => exact HC1.out);(case side3 => repeat (first|exact (Kd.R_reads' HO_5.out).2.2|(with_reducible refine Kd.C_alloc ?_ _)|(with_reducible refine Kd.C_drewN ?_ _)|(with_reducible refine Kd.C_drew ?_)));(case side4 => exact (Kd.R_reads' HO_5.out).2.1);rintro e w27 ⟨v224,rfl,ho0,hb⟩;have n0_:=Aside0.mk (Kd.R_elder' (by (with_reducible repeat (first|apply Kd.R_alloc|apply Kd.R_drewN|apply Kd.R_drew));exact HO_5.out) (Kd.R_base ho0) hb);have n1_:=Aside0.mk (Kd.R_elder' (by (with_reducible repeat (first|apply Kd.R_alloc|apply Kd.R_drewN|apply Kd.R_drew));exact HO_7.out) (Kd.R_base ho0) hb);have n2_:=Aside0.mk (Kd.R_lower (Kd.R_new' (Kd.R_new' ho0 (Kd.R_lt (by (with_reducible repeat (first|apply Kd.R_alloc|apply Kd.R_drewN|apply Kd.R_drew));exact HO_5.out))) (Kd.R_lt (by (with_reducible repeat (first|apply Kd.R_alloc|apply Kd.R_drewN|apply Kd.R_drew));exact HO_7.out))) (below_size (by repeat (first|(with_reducible first|exact HB.out|apply xA|apply xN|apply xD)|exact HB.out))));have n3_:=Aside0.mk (below_step (by repeat (first|(with_reducible first|exact HB.out|apply xA|apply xN|apply xD)|exact HB.out)) hb);clear HO_5;clear HO_7;clear HB;have HO_5:=n0_;have HO_7:=n1_;have HO225:=n2_;have HB:=n3_;clear n0_ n1_ n2_ n3_;(try clear hb);(try clear hb2);(try clear hk);(try clear hi);(try clear ho0))|(go_at_call 25;(with_reducible refine (merge_Max.calls kj12 _ _ l1 _ _ l0 t226 t227 _ ?side1 ?side2 ?side3 ?side4 A19.out).mono ?_);(case side1 => repeat (first|exact (Kd.C_below HR1.out HB.out)|(with_reducible refine Kd.C_alloc ?_ _)|(with_reducible refine Kd.C_drewN ?_ _)|(with_reducible refine Kd.C_drew ?_)));(case side2 => exact HC1.out);(case side3 => repeat (first|exact (Kd.C_below HR0.out HB.out)|(with_reducible refine Kd.C_alloc ?_ _)|(with_reducible refine Kd.C_drewN ?_ _)|(with_reducible refine Kd.C_drew ?_)));(case side4 => exact HC0.out);rintro e w28 ⟨v228,rfl,ho0,hb⟩;have n0_:=Aside0.mk (Kd.R_elder' (by (with_reducible repeat (first|apply Kd.R_alloc|apply Kd.R_drewN|apply Kd.R_drew));exact HO_5.out) (Kd.R_base ho0) hb);have n1_:=Aside0.mk (Kd.R_elder' (by (with_reducible repeat (first|apply Kd.R_alloc|apply Kd.R_drewN|apply Kd.R_drew));exact HO_7.out) (Kd.R_base ho0) hb);have n2_:=Aside0.mk (Kd.R_elder' (by (with_reducible repeat (first|apply Kd.R_alloc|apply Kd.R_drewN|apply Kd.R_drew));exact HO225.out) (Kd.R_base ho0) hb);have n3_:=Aside0.mk (Kd.R_lower (Kd.R_new' (Kd.R_new' (Kd.R_new' ho0 (Kd.R_lt (by (with_reducible repeat (first|apply Kd.R_alloc|apply Kd.R_drewN|apply Kd.R_drew));exact HO_5.out))) (Kd.R_lt (by (with_reducible repeat (first|apply Kd.R_alloc|apply Kd.R_drewN|apply Kd.R_drew));exact HO_7.out))) (Kd.R_lt (by (with_reducible repeat (first|apply Kd.R_alloc|apply Kd.R_drewN|apply Kd.R_drew));exact HO225.out))) (below_size (by repeat (first|(with_reducible first|exact HB.out|apply xA|apply xN|apply xD)|exact HB.out))));have n4_:=Aside0.mk (below_step (by repeat (first|(with_reducible first|exact HB.out|apply xA|apply xN|apply xD)|exact HB.out)) hb);clear HO_5;clear HO_7;clear HO225;clear HB;have HO_5:=n0_;have HO_7:=n1_;have HO225:=n2_;have HO229:=n3_;have HB:=n4_;clear n0_ n1_ n2_ n3_ n4_;(try clear hb);(try clear hb2);(try clear hk);(try clear hi);(try clear ho0))|(go_at_call 27;(with_reducible refine (merge_Differ.calls kj12 _ _ l0 _ _ l1 t230 t231 _ ?side1 ?side2 ?side3 ?side4 A20.out).mono ?_);(case side1 => repeat (first|exact (Kd.C_below HR0.out HB.out)|(with_reducible refine Kd.C_alloc ?_ _)|(with_reducible refine Kd.C_drewN ?_ _)|(with_reducible refine Kd.C_drew ?_)));(case side2 => exact HC0.out);(case side3 => repeat (first|exact (Kd.C_below HR1.out HB.out)|(with_reducible refine Kd.C_alloc ?_ _)|(with_reducible refine Kd.C_drewN ?_ _)|(with_reducible refine Kd.C_drew ?_)));(case side4 => exact HC1.out);rintro e w29 ⟨v232,rfl,ho0,hb⟩;have n0_:=Aside0.mk (Kd.R_below (by (with_reducible repeat (first|apply Kd.R_alloc|apply Kd.R_drewN|apply Kd.R_drew));exact HO_5.out) hb);have n1_:=Aside0.mk (Kd.R_below (by (with_reducible repeat (first|apply Kd.R_alloc|apply Kd.R_drewN|apply Kd.R_drew));exact HO_7.out) hb);have n2_:=Aside0.mk (Kd.R_below (by (with_reducible repeat (first|apply Kd.R_alloc|apply Kd.R_drewN|apply Kd.R_drew));exact HO225.out) hb);have n3_:=Aside0.mk (Kd.R_below (by (with_reducible repeat (first|apply Kd.R_alloc|apply Kd.R_drewN|apply Kd.R_drew));exact HO229.out) hb);have n4_:=Aside0.mk (Kd.R_lower ho0 (below_size (by repeat (first|(with_reducible first|exact HB.out|apply xA|apply xN|apply xD)|exact HB.out))));have n5_:=Aside0.mk (below_step (by repeat (first|(with_reducible first|exact HB.out|apply xA|apply xN|apply xD)|exact HB.out)) hb);clear HO_5;clear HO_7;clear HO225;clear HO229;clear HB;have HO_5:=n0_;have HO_7:=n1_;have HO225:=n2_;have HO229:=n3_;have HO233:=n4_;have HB:=n5_;clear n0_ n1_ n2_ n3_ n4_ n5_;(try clear hb);(try clear hb2);(try clear hk);(try clear hi);(try clear ho0);obtain ⟨Ao30,co30,eo30⟩:=Kd.R_slice HO_7.out;subst eo30)|(go_at_call 25;(with_reducible refine (merge_Max.calls kj12 _ _ t214 _ _ t218 t234 t235 _ ?side1 ?side2 ?side3 ?side4 A21.out).mono ?_);(case side1 => repeat (first|exact (Kd.R_reads' HO_5.out).2.2|(with_reducible refine Kd.C_alloc ?_ _)|(with_reducible refine Kd.C_drewN ?_ _)|(with_reducible refine Kd.C_drew ?_)));(case side2 => exact (Kd.R_reads' HO_5.out).2.1);(case side3 => repeat (first|exact (Kd.R_reads' HO_7.out).2.2|(with_reducible refine Kd.C_alloc ?_ _)|(with_reducible refine Kd.C_drewN ?_ _)|(with_reducible refine Kd.C_drew ?_)));(case side4 => exact (Kd.R_reads' HO_7.out).2.1);rintro e w31 ⟨v236,rfl,ho0,hb⟩;have n0_:=Aside0.mk (Kd.R_elder' (by (with_reducible repeat (first|apply Kd.R_alloc|apply Kd.R_drewN|apply Kd.R_drew));exact HO_5.out) (Kd.R_base ho0) hb);have n1_:=Aside0.mk (Kd.R_elder' (by (with_reducible repeat (first|apply Kd.R_alloc|apply Kd.R_drewN|apply Kd.R_drew));exact HO_7.out) (Kd.R_base ho0) hb);have n2_:=Aside0.mk (Kd.R_elder' (by (with_reducible repeat (first|apply Kd.R_alloc|apply Kd.R_drewN|apply Kd.R_drew));exact HO225.out) (Kd.R_base ho0) hb);have n3_:=Aside0.mk (Kd.R_elder' (by (with_reducible repeat (first|apply Kd.R_alloc|apply Kd.R_drewN|apply Kd.R_drew));exact HO229.out) (Kd.R_base ho0) hb);have n4_:=Aside0.mk (Kd.R_below (by (with_reducible repeat (first|apply Kd.R_alloc|apply Kd.R_drewN|apply Kd.R_drew));exact HO233.out) hb);have n5_:=Aside0.mk (Kd.R_lower (Kd.R_new' (Kd.R_new' (Kd.R_new' (Kd.R_new' ho0 (Kd.R_lt (by (with_reducible repeat (first|apply Kd.R_alloc|apply Kd.R_drewN|apply Kd.R_drew));exact HO_5.out))) (Kd.R_lt (by (with_reducible repeat (first|apply Kd.R_alloc|apply Kd.R_drewN|apply Kd.R_drew));exact HO_7.out))) (Kd.R_lt (by (with_reducible repeat (first|apply Kd.R_alloc|apply Kd.R_drewN|apply Kd.R_drew));exact HO225.out))) (Kd.R_lt (by (with_reducible repeat (first|apply Kd.R_alloc|apply Kd.R_drewN|apply Kd.R_drew));exact HO229.out))) (below_size (by repeat (first|(with_reducible first|exact HB.out|apply xA|apply xN|apply xD)|exact HB.out))));have n6_:=Aside0.mk (below_step (by repeat (first|(with_reducible first|exact HB.out|apply xA|apply xN|apply xD)|exact HB.out)) hb);clear HO_5;clear HO_7;clear HO225;clear HO229;clear HO233;clear HB;have HO_5:=n0_;have HO_7:=n1_;have HO225:=n2_;have HO229:=n3_;have HO233:=n4_;have HO237:=n5_;have HB:=n6_;clear n0_ n1_ n2_ n3_ n4_ n5_ n6_;(try clear hb);(try clear hb2);(try clear hk);(try clear hi);(try clear ho0))|(go_at_call 29;(with_reducible refine (tidelineref09_Max.calls kj12 _ _ l1 _ _ l0 t238 t239 _ ?side1 ?side2 ?side3 ?side4 A22.out).mono ?_);(case side1 => repeat (first|exact (Kd.C_below HR1.out HB.out)|(with_reducible refine Kd.C_alloc ?_ _)|(with_reducible refine Kd.C_drewN ?_ _)|(with_reducible refine Kd.C_drew ?_)));(case side2 => exact HC1.out);(case side3 => repeat (first|exact (Kd.C_below HR0.out HB.out)|(with_reducible refine Kd.C_alloc ?_ _)|(with_reducible refine Kd.C_drewN ?_ _)|(with_reducible refine Kd.C_drew ?_)));(case side4 => exact HC0.out);rintro e w32 ⟨v240,rfl,ho0,hb⟩;have n0_:=Aside0.mk (Kd.R_elder' (by (with_reducible repeat (first|apply Kd.R_alloc|apply Kd.R_drewN|apply Kd.R_drew));exact HO_5.out) (Kd.R_base ho0) hb);have n1_:=Aside0.mk (Kd.R_elder' (by (with_reducible repeat (first|apply Kd.R_alloc|apply Kd.R_drewN|apply Kd.R_drew));exact HO_7.out) (Kd.R_base ho0) hb);have n2_:=Aside0.mk (Kd.R_elder' (by (with_reducible repeat (first|apply Kd.R_alloc|apply Kd.R_drewN|apply Kd.R_drew));exact HO225.out) (Kd.R_base ho0) hb);have n3_:=Aside0.mk (Kd.R_elder' (by (with_reducible repeat (first|apply Kd.R_alloc|apply Kd.R_drewN|apply Kd.R_drew));exact HO229.out) (Kd.R_base ho0) hb);have n4_:=Aside0.mk (Kd.R_below (by (with_reducible repeat (first|apply Kd.R_alloc|apply Kd.R_drewN|apply Kd.R_drew));exact HO233.out) hb);have n5_:=Aside0.mk (Kd.R_elder' (by (with_reducible repeat (first|apply Kd.R_alloc|apply Kd.R_drewN|apply Kd.R_drew));exact HO237.out) (Kd.R_base ho0) hb);have n6_:=Aside0.mk (Kd.R_lower (Kd.R_new' (Kd.R_new' (Kd.R_new' (Kd.R_new' (Kd.R_new' ho0 (Kd.R_lt (by (with_reducible repeat (first|apply Kd.R_alloc|apply Kd.R_drewN|apply Kd.R_drew));exact HO_5.out))) (Kd.R_lt (by (with_reducible repeat (first|apply Kd.R_alloc|apply Kd.R_drewN|apply Kd.R_drew));exact HO_7.out))) (Kd.R_lt (by (with_reducible repeat (first|apply Kd.R_alloc|apply Kd.R_drewN|apply Kd.R_drew));exact HO225.out))) (Kd.R_lt (by (with_reducible repeat (first|apply Kd.R_alloc|apply Kd.R_drewN|apply Kd.R_drew));exact HO229.out))) (Kd.R_lt (by (with_reducible repeat (first|apply Kd.R_alloc|apply Kd.R_drewN|apply Kd.R_drew));exact HO237.out))) (below_size (by repeat (first|(with_reducible first|exact HB.out|apply xA|apply xN|apply xD)|exact HB.out))));have n7_:=Aside0.mk (below_step (by repeat (first|(with_reducible first|exact HB.out|apply xA|apply xN|apply xD)|exact HB.out)) hb);clear HO_5;clear HO_7;clear HO225;clear HO229;clear HO233;clear HO237;clear HB;have HO_5:=n0_;have HO_7:=n1_;have HO225:=n2_;have HO229:=n3_;have HO233:=n4_;have HO237:=n5_;have HO241:=n6_;have HB:=n7_;clear n0_ n1_ n2_ n3_ n4_ n5_ n6_ n7_;(try clear hb);(try clear hb2);(try clear hk);(try clear hi);(try clear ho0);obtain ⟨Ao33,co33,eo33⟩:=Kd.R_slice HO229.out;subst eo33;obtain ⟨Ao34,co34,eo34⟩:=Kd.R_slice HO241.out;subst eo34)|(go_at_call 20;(with_reducible refine (tidelinelaw09_same.calls kj12 _ _ t226 _ _ t238 true _ ?side1 ?side2 ?side3 ?side4 A23.out).mono ?_);(case side1 => repeat (first|exact (Kd.R_reads' HO229.out).2.2|(with_reducible refine Kd.C_alloc ?_ _)|(with_reducible refine Kd.C_drewN ?_ _)|(with_reducible refine Kd.C_drew ?_)));(case side2 => exact (Kd.R_reads' HO229.out).2.1);(case side3 => repeat (first|exact (Kd.R_reads' HO241.out).2.2|(with_reducible refine Kd.C_alloc ?_ _)|(with_reducible refine Kd.C_drewN ?_ _)|(with_reducible refine Kd.C_drew ?_)));(case side4 => exact (Kd.R_reads' HO241.out).2.1);rintro e w' ⟨rfl,⟨nd,rfl⟩⟩;(try first|exact ⟨rfl,_,World.drewN_drewN _ _ _⟩|exact ⟨rfl,_,Eq.trans (World.drewN_drewN _ _ _) (congrArg (World.drewN _) (Nat.add_assoc _ _ _))⟩)));go_upto_region 14 with (first|(go_at_call 25;(with_reducible refine (merge_Max.calls kj12 _ _ l1 _ _ t214 t222 t223 _ ?side1 ?side2 ?side3 ?side4 A18.out).mono ?_);(case side1 => repeat (first|exact (Kd.C_below HR1.out HB.out)|(with_reducible refine Kd.C_alloc ?_ _)|(with_reducible refine Kd.C_drewN ?_ _)|(with_reducible refine Kd.C_drew ?_)));(case side2 => exact HC1.out);(case side3 => repeat (first|exact (Kd.R_reads' HO_5.out).2.2|(with_reducible refine Kd.C_alloc ?_ _)|(with_reducible refine Kd.C_drewN ?_ _)|(with_reducible refine Kd.C_drew ?_)));(case side4 => exact (Kd.R_reads' HO_5.out).2.1);rintro e w27 ⟨v224,rfl,ho0,hb⟩;have n0_:=Aside0.mk (Kd.R_elder' (by (with_reducible repeat (first|apply Kd.R_alloc|apply Kd.R_drewN|apply Kd.R_drew));exact HO_5.out) (Kd.R_base ho0) hb);have n1_:=Aside0.mk (Kd.R_elder' (by (with_reducible repeat (first|apply Kd.R_alloc|apply Kd.R_drewN|apply Kd.R_drew));exact HO_7.out) (Kd.R_base ho0) hb);have n2_:=Aside0.mk (Kd.R_lower (Kd.R_new' (Kd.R_new' ho0 (Kd.R_lt (by (with_reducible repeat (first|apply Kd.R_alloc|apply Kd.R_drewN|apply Kd.R_drew));exact HO_5.out))) (Kd.R_lt (by (with_reducible repeat (first|apply Kd.R_alloc|apply Kd.R_drewN|apply Kd.R_drew));exact HO_7.out))) (below_size (by repeat (first|(with_reducible first|exact HB.out|apply xA|apply xN|apply xD)|exact HB.out))));have n3_:=Aside0.mk (below_step (by repeat (first|(with_reducible first|exact HB.out|apply xA|apply xN|apply xD)|exact HB.out)) hb);clear HO_5;clear HO_7;clear HB;have HO_5:=n0_;have HO_7:=n1_;have HO225:=n2_;have HB:=n3_;clear n0_ n1_ n2_ n3_;(try clear hb);(try clear hb2);(try clear hk);(try clear hi);(try clear ho0))|(go_at_call 25;(with_reducible refine (merge_Max.calls kj12 _ _ l1 _ _ l0 t226 t227 _ ?side1 ?side2 ?side3 ?side4 A19.out).mono ?_);(case side1 => repeat (first|exact (Kd.C_below HR1.out HB.out)|(with_reducible refine Kd.C_alloc ?_ _)|(with_reducible refine Kd.C_drewN ?_ _)|(with_reducible refine Kd.C_drew ?_)));(case side2 => exact HC1.out);(case side3 => repeat (first|exact (Kd.C_below HR0.out HB.out)|(with_reducible refine Kd.C_alloc ?_ _)|(with_reducible refine Kd.C_drewN ?_ _)|(with_reducible refine Kd.C_drew ?_)));(case side4 => exact HC0.out);rintro e w28 ⟨v228,rfl,ho0,hb⟩;have n0_:=Aside0.mk (Kd.R_elder' (by (with_reducible repeat (first|apply Kd.R_alloc|apply Kd.R_drewN|apply Kd.R_drew));exact HO_5.out) (Kd.R_base ho0) hb);have n1_:=Aside0.mk (Kd.R_elder' (by (with_reducible repeat (first|apply Kd.R_alloc|apply Kd.R_drewN|apply Kd.R_drew));exact HO_7.out) (Kd.R_base ho0) hb);have n2_:=Aside0.mk (Kd.R_elder' (by (with_reducible repeat (first|apply Kd.R_alloc|apply Kd.R_drewN|apply Kd.R_drew));exact HO225.out) (Kd.R_base ho0) hb);have n3_:=Aside0.mk (Kd.R_lower (Kd.R_new' (Kd.R_new' (Kd.R_new' ho0 (Kd.R_lt (by (with_reducible repeat (first|apply Kd.R_alloc|apply Kd.R_drewN|apply Kd.R_drew));exact HO_5.out))) (Kd.R_lt (by (with_reducible repeat (first|apply Kd.R_alloc|apply Kd.R_drewN|apply Kd.R_drew));exact HO_7.out))) (Kd.R_lt (by (with_reducible repeat (first|apply Kd.R_alloc|apply Kd.R_drewN|apply Kd.R_drew));exact HO225.out))) (below_size (by repeat (first|(with_reducible first|exact HB.out|apply xA|apply xN|apply xD)|exact HB.out))));have n4_:=Aside0.mk (below_step (by repeat (first|(with_reducible first|exact HB.out|apply xA|apply xN|apply xD)|exact HB.out)) hb);clear HO_5;clear HO_7;clear HO225;clear HB;have HO_5:=n0_;have HO_7:=n1_;have HO225:=n2_;have HO229:=n3_;have HB:=n4_;clear n0_ n1_ n2_ n3_ n4_;(try clear hb);(try clear hb2);(try clear hk);(try clear hi);(try clear ho0))|(go_at_call 27;(with_reducible refine (merge_Differ.calls kj12 _ _ l0 _ _ l1 t230 t231 _ ?side1 ?side2 ?side3 ?side4 A20.out).mono ?_);(case side1 => repeat (first|exact (Kd.C_below HR0.out HB.out)|(with_reducible refine Kd.C_alloc ?_ _)|(with_reducible refine Kd.C_drewN ?_ _)|(with_reducible refine Kd.C_drew ?_)));(case side2 => exact HC0.out);(case side3 => repeat (first|exact (Kd.C_below HR1.out HB.out)|(with_reducible refine Kd.C_alloc ?_ _)|(with_reducible refine Kd.C_drewN ?_ _)|(with_reducible refine Kd.C_drew ?_)));(case side4 => exact HC1.out);rintro e w29 ⟨v232,rfl,ho0,hb⟩;have n0_:=Aside0.mk (Kd.R_below (by (with_reducible repeat (first|apply Kd.R_alloc|apply Kd.R_drewN|apply Kd.R_drew));exact HO_5.out) hb);have n1_:=Aside0.mk (Kd.R_below (by (with_reducible repeat (first|apply Kd.R_alloc|apply Kd.R_drewN|apply Kd.R_drew));exact HO_7.out) hb);have n2_:=Aside0.mk (Kd.R_below (by (with_reducible repeat (first|apply Kd.R_alloc|apply Kd.R_drewN|apply Kd.R_drew));exact HO225.out) hb);have n3_:=Aside0.mk (Kd.R_below (by (with_reducible repeat (first|apply Kd.R_alloc|apply Kd.R_drewN|apply Kd.R_drew));exact HO229.out) hb);have n4_:=Aside0.mk (Kd.R_lower ho0 (below_size (by repeat (first|(with_reducible first|exact HB.out|apply xA|apply xN|apply xD)|exact HB.out))));have n5_:=Aside0.mk (below_step (by repeat (first|(with_reducible first|exact HB.out|apply xA|apply xN|apply xD)|exact HB.out)) hb);clear HO_5;clear HO_7;clear HO225;clear HO229;clear HB;have HO_5:=n0_;have HO_7:=n1_;have HO225:=n2_;have HO229:=n3_;have HO233:=n4_;have HB:=n5_;clear n0_ n1_ n2_ n3_ n4_ n5_;(try clear hb);(try clear hb2);(try clear hk);(try clear hi);(try clear ho0);obtain ⟨Ao30,co30,eo30⟩:=Kd.R_slice HO_7.out;subst eo30)|(go_at_call 25;(with_reducible refine (merge_Max.calls kj12 _ _ t214 _ _ t218 t234 t235 _ ?side1 ?side2 ?side3 ?side4 A21.out).mono ?_);(case side1 => repeat (first|exact (Kd.R_reads' HO_5.out).2.2|(with_reducible refine Kd.C_alloc ?_ _)|(with_reducible refine Kd.C_drewN ?_ _)|(with_reducible refine Kd.C_drew ?_)));(case side2 => exact (Kd.R_reads' HO_5.out).2.1);(case side3 => repeat (first|exact (Kd.R_reads' HO_7.out).2.2|(with_reducible refine Kd.C_alloc ?_ _)|(with_reducible refine Kd.C_drewN ?_ _)|(with_reducible refine Kd.C_drew ?_)));(case side4 => exact (Kd.R_reads' HO_7.out).2.1);rintro e w31 ⟨v236,rfl,ho0,hb⟩;have n0_:=Aside0.mk (Kd.R_elder' (by (with_reducible repeat (first|apply Kd.R_alloc|apply Kd.R_drewN|apply Kd.R_drew));exact HO_5.out) (Kd.R_base ho0) hb);have n1_:=Aside0.mk (Kd.R_elder' (by (with_reducible repeat (first|apply Kd.R_alloc|apply Kd.R_drewN|apply Kd.R_drew));exact HO_7.out) (Kd.R_base ho0) hb);have n2_:=Aside0.mk (Kd.R_elder' (by (with_reducible repeat (first|apply Kd.R_alloc|apply Kd.R_drewN|apply Kd.R_drew));exact HO225.out) (Kd.R_base ho0) hb);have n3_:=Aside0.mk (Kd.R_elder' (by (with_reducible repeat (first|apply Kd.R_alloc|apply Kd.R_drewN|apply Kd.R_drew));exact HO229.out) (Kd.R_base ho0) hb);have n4_:=Aside0.mk (Kd.R_below (by (with_reducible repeat (first|apply Kd.R_alloc|apply Kd.R_drewN|apply Kd.R_drew));exact HO233.out) hb);have n5_:=Aside0.mk (Kd.R_lower (Kd.R_new' (Kd.R_new' (Kd.R_new' (Kd.R_new' ho0 (Kd.R_lt (by (with_reducible repeat (first|apply Kd.R_alloc|apply Kd.R_drewN|apply Kd.R_drew));exact HO_5.out))) (Kd.R_lt (by (with_reducible repeat (first|apply Kd.R_alloc|apply Kd.R_drewN|apply Kd.R_drew));exact HO_7.out))) (Kd.R_lt (by (with_reducible repeat (first|apply Kd.R_alloc|apply Kd.R_drewN|apply Kd.R_drew));exact HO225.out))) (Kd.R_lt (by (with_reducible repeat (first|apply Kd.R_alloc|apply Kd.R_drewN|apply Kd.R_drew));exact HO229.out))) (below_size (by repeat (first|(with_reducible first|exact HB.out|apply xA|apply xN|apply xD)|exact HB.out))));have n6_:=Aside0.mk (below_step (by repeat (first|(with_reducible first|exact HB.out|apply xA|apply xN|apply xD)|exact HB.out)) hb);clear HO_5;clear HO_7;clear HO225;clear HO229;clear HO233;clear HB;have HO_5:=n0_;have HO_7:=n1_;have HO225:=n2_;have HO229:=n3_;have HO233:=n4_;have HO237:=n5_;have HB:=n6_;clear n0_ n1_ n2_ n3_ n4_ n5_ n6_;(try clear hb);(try clear hb2);(try clear hk);(try clear hi);(try clear ho0))|(go_at_call 29;(with_reducible refine (tidelineref09_Max.calls kj12 _ _ l1 _ _ l0 t238 t239 _ ?side1 ?side2 ?side3 ?side4 A22.out).mono ?_);(case side1 => repeat (first|exact (Kd.C_below HR1.out HB.out)|(with_reducible refine Kd.C_alloc ?_ _)|(with_reducible refine Kd.C_drewN ?_ _)|(with_reducible refine Kd.C_drew ?_)));(case side2 => exact HC1.out);(case side3 => repeat (first|exact (Kd.C_below HR0.out HB.out)|(with_reducible refine Kd.C_alloc ?_ _)|(with_reducible refine Kd.C_drewN ?_ _)|(with_reducible refine Kd.C_drew ?_)));(case side4 => exact HC0.out);rintro e w32 ⟨v240,rfl,ho0,hb⟩;have n0_:=Aside0.mk (Kd.R_elder' (by (with_reducible repeat (first|apply Kd.R_alloc|apply Kd.R_drewN|apply Kd.R_drew));exact HO_5.out) (Kd.R_base ho0) hb);have n1_:=Aside0.mk (Kd.R_elder' (by (with_reducible repeat (first|apply Kd.R_alloc|apply Kd.R_drewN|apply Kd.R_drew));exact HO_7.out) (Kd.R_base ho0) hb);have n2_:=Aside0.mk (Kd.R_elder' (by (with_reducible repeat (first|apply Kd.R_alloc|apply Kd.R_drewN|apply Kd.R_drew));exact HO225.out) (Kd.R_base ho0) hb);have n3_:=Aside0.mk (Kd.R_elder' (by (with_reducible repeat (first|apply Kd.R_alloc|apply Kd.R_drewN|apply Kd.R_drew));exact HO229.out) (Kd.R_base ho0) hb);have n4_:=Aside0.mk (Kd.R_below (by (with_reducible repeat (first|apply Kd.R_alloc|apply Kd.R_drewN|apply Kd.R_drew));exact HO233.out) hb);have n5_:=Aside0.mk (Kd.R_elder' (by (with_reducible repeat (first|apply Kd.R_alloc|apply Kd.R_drewN|apply Kd.R_drew));exact HO237.out) (Kd.R_base ho0) hb);have n6_:=Aside0.mk (Kd.R_lower (Kd.R_new' (Kd.R_new' (Kd.R_new' (Kd.R_new' (Kd.R_new' ho0 (Kd.R_lt (by (with_reducible repeat (first|apply Kd.R_alloc|apply Kd.R_drewN|apply Kd.R_drew));exact HO_5.out))) (Kd.R_lt (by (with_reducible repeat (first|apply Kd.R_alloc|apply Kd.R_drewN|apply Kd.R_drew));exact HO_7.out))) (Kd.R_lt (by (with_reducible repeat (first|apply Kd.R_alloc|apply Kd.R_drewN|apply Kd.R_drew));exact HO225.out))) (Kd.R_lt (by (with_reducible repeat (first|apply Kd.R_alloc|apply Kd.R_drewN|apply Kd.R_drew));exact HO229.out))) (Kd.R_lt (by (with_reducible repeat (first|apply Kd.R_alloc|apply Kd.R_drewN|apply Kd.R_drew));exact HO237.out))) (below_size (by repeat (first|(with_reducible first|exact HB.out|apply xA|apply xN|apply xD)|exact HB.out))));have n7_:=Aside0.mk (below_step (by repeat (first|(with_reducible first|exact HB.out|apply xA|apply xN|apply xD)|exact HB.out)) hb);clear HO_5;clear HO_7;clear HO225;clear HO229;clear HO233;clear HO237;clear HB;have HO_5:=n0_;have HO_7:=n1_;have HO225:=n2_;have HO229:=n3_;have HO233:=n4_;have HO237:=n5_;have HO241:=n6_;have HB:=n7_;clear n0_ n1_ n2_ n3_ n4_ n5_ n6_ n7_;(try clear hb);(try clear hb2);(try clear hk);(try clear hi);(try clear ho0);obtain ⟨Ao33,co33,eo33⟩:=Kd.R_slice HO229.out;subst eo33;obtain ⟨Ao34,co34,eo34⟩:=Kd.R_slice HO241.out;subst eo34)|(go_at_call 20;(with_reducible refine (tidelinelaw09_same.calls kj12 _ _ t226 _ _ t238 true _ ?side1 ?side2 ?side3 ?side4 A23.out).mono ?_);(case side1 => repeat (first|exact (Kd.R_reads' HO229.out).2.2|(with_reducible refine Kd.C_alloc ?_ _)|(with_reducible refine Kd.C_drewN ?_ _)|(with_reducible refine Kd.C_drew ?_)));(case side2 => exact (Kd.R_reads' HO229.out).2.1);(case side3 => repeat (first|exact (Kd.R_reads' HO241.out).2.2|(with_reducible refine Kd.C_alloc ?_ _)|(with_reducible refine Kd.C_drewN ?_ _)|(with_reducible refine Kd.C_drew ?_)));(case side4 => exact (Kd.R_reads' HO241.out).2.1);rintro e w' ⟨rfl,⟨nd,rfl⟩⟩;(try first|exact ⟨rfl,_,World.drewN_drewN _ _ _⟩|exact ⟨rfl,_,Eq.trans (World.drewN_drewN _ _ _) (congrArg (World.drewN _) (Nat.add_assoc _ _ _))⟩))))
        (try simp only [Act.put,List.setIfInBounds_toArray,List.set_cons_zero,List.set_cons_succ])
        go_cut [118] (fun v118 wc => ∃ (kq : Nat) (x118_24 : Bool),v118 = .bool x118_24 ∧ Aside0 (tidelinelaw09_MergeLacks.j2 kq t230 t234 x118_24 = some r) ∧ Aside0 (kq ≤ kj12) ∧ Aside0 (Kd.R Kd.string 9 wc w.heap.size (fun _ => True) v232 t230) ∧ Aside0 (Kd.R k44 44 wc w.heap.size (fun _ => True) v236 t234) ∧ Aside0 (Below w.heap.size w wc))
        case first =>
         have H:=HC25.out
         clear HC25
         by_cases c35 : t223 = 0
         ·rw [if_pos c35] at H
          have c35b0 : (t223 == 0) = true:=beq_iff_eq.mpr c35
          have c35b1 : (t223 != 0) = false:=bne_eq_false_iff_eq.mpr c35
          clear c35
          (first|rw [c35b0]|(simp only [i64_w,i32_w];rw [c35b0])|skip)
          by_cases c36 : t227 = 0
          ·rw [if_pos c36] at H
           have c36b0 : (t227 == 0) = true:=beq_iff_eq.mpr c36
           have c36b1 : (t227 != 0) = false:=bne_eq_false_iff_eq.mpr c36
           clear c36
           by_cases c37 : t231 = 0
           ·rw [if_pos c37] at H
            have c37b0 : (t231 == 0) = true:=beq_iff_eq.mpr c37
            have c37b1 : (t231 != 0) = false:=bne_eq_false_iff_eq.mpr c37
            clear c37
            by_cases c38 : t235 = 0
            ·rw [if_pos c38] at H
             have c38b0 : (t235 == 0) = true:=beq_iff_eq.mpr c38
             have c38b1 : (t235 != 0) = false:=bne_eq_false_iff_eq.mpr c38
             clear c38
             replace H:=Option.bind_eq_some_iff.mp H
             obtain ⟨t243,A390,H⟩:=H
             replace H : (if t243 = true then (if (t230.length : Int) = (t234.length : Int) then (tidelinelaw09_MergeLacks.j2 kj12 t230 t234 ((t230.length : Int) != (wrap64 ((t214.length : Int) + (t218.length : Int))))) else (tidelinelaw09_MergeLacks.j2 kj12 t230 t234 true)) else (tidelinelaw09_MergeLacks.j2 kj12 t230 t234 true)) = some r:=H
             have A39:=Aside0.mk A390
             clear A390
             by_cases c40 : t243 = true
             ·subst c40
              have H1 : (if (t230.length : Int) = (t234.length : Int) then (tidelinelaw09_MergeLacks.j2 kj12 t230 t234 ((t230.length : Int) != (wrap64 ((t214.length : Int) + (t218.length : Int))))) else (tidelinelaw09_MergeLacks.j2 kj12 t230 t234 true)) = some r:=by rw [if_pos rfl] at H;exact H
              clear H
              have H:=H1
              clear H1
              by_cases c41 : (t230.length : Int) = (t234.length : Int)
              ·rw [if_pos c41] at H
               have c41b0 : ((t230.length : Int) == (t234.length : Int)) = true:=beq_iff_eq.mpr c41
               have c41b1 : ((t230.length : Int) != (t234.length : Int)) = false:=bne_eq_false_iff_eq.mpr c41
               have c41b2 : (t230.length == t234.length) = true:=by first|simpa using c41|(simp at c41 ⊢;omega)
               clear c41
               have H':=Aside0.mk H
               clear H
               obtain ⟨Ao42,co42,eo42⟩:=Kd.R_slice HO225.out
               subst eo42
               go_wp2_with (first|(go_at_call 20;(with_reducible refine (tidelinelaw09_same.calls kj12 _ _ t222 _ _ t226 true _ ?side1 ?side2 ?side3 ?side4 A39.out).mono ?_);(case side1 => repeat (first|exact (Kd.R_reads' HO225.out).2.2|(with_reducible refine Kd.C_alloc ?_ _)|(with_reducible refine Kd.C_drewN ?_ _)|(with_reducible refine Kd.C_drew ?_)));(case side2 => exact (Kd.R_reads' HO225.out).2.1);(case side3 => repeat (first|exact (Kd.R_reads' HO229.out).2.2|(with_reducible refine Kd.C_alloc ?_ _)|(with_reducible refine Kd.C_drewN ?_ _)|(with_reducible refine Kd.C_drew ?_)));(case side4 => exact (Kd.R_reads' HO229.out).2.1);rintro e w' ⟨rfl,⟨nd,rfl⟩⟩;(try first|exact ⟨rfl,_,World.drewN_drewN _ _ _⟩|exact ⟨rfl,_,Eq.trans (World.drewN_drewN _ _ _) (congrArg (World.drewN _) (Nat.add_assoc _ _ _))⟩);obtain ⟨Ao43,co43,eo43⟩:=Kd.R_slice HO233.out;subst eo43;obtain ⟨Ao44,co44,eo44⟩:=Kd.R_slice HO237.out;subst eo44))
               repeat (go_quiet (first|(go_at_call 20;(with_reducible refine (tidelinelaw09_same.calls kj12 _ _ t222 _ _ t226 true _ ?side1 ?side2 ?side3 ?side4 A39.out).mono ?_);(case side1 => repeat (first|exact (Kd.R_reads' HO225.out).2.2|(with_reducible refine Kd.C_alloc ?_ _)|(with_reducible refine Kd.C_drewN ?_ _)|(with_reducible refine Kd.C_drew ?_)));(case side2 => exact (Kd.R_reads' HO225.out).2.1);(case side3 => repeat (first|exact (Kd.R_reads' HO229.out).2.2|(with_reducible refine Kd.C_alloc ?_ _)|(with_reducible refine Kd.C_drewN ?_ _)|(with_reducible refine Kd.C_drew ?_)));(case side4 => exact (Kd.R_reads' HO229.out).2.1);rintro e w' ⟨rfl,⟨nd,rfl⟩⟩;(try first|exact ⟨rfl,_,World.drewN_drewN _ _ _⟩|exact ⟨rfl,_,Eq.trans (World.drewN_drewN _ _ _) (congrArg (World.drewN _) (Nat.add_assoc _ _ _))⟩);obtain ⟨Ao43,co43,eo43⟩:=Kd.R_slice HO233.out;subst eo43;obtain ⟨Ao44,co44,eo44⟩:=Kd.R_slice HO237.out;subst eo44));try go_wp2_with (first|(go_at_call 20;(with_reducible refine (tidelinelaw09_same.calls kj12 _ _ t222 _ _ t226 true _ ?side1 ?side2 ?side3 ?side4 A39.out).mono ?_);(case side1 => repeat (first|exact (Kd.R_reads' HO225.out).2.2|(with_reducible refine Kd.C_alloc ?_ _)|(with_reducible refine Kd.C_drewN ?_ _)|(with_reducible refine Kd.C_drew ?_)));(case side2 => exact (Kd.R_reads' HO225.out).2.1);(case side3 => repeat (first|exact (Kd.R_reads' HO229.out).2.2|(with_reducible refine Kd.C_alloc ?_ _)|(with_reducible refine Kd.C_drewN ?_ _)|(with_reducible refine Kd.C_drew ?_)));(case side4 => exact (Kd.R_reads' HO229.out).2.1);rintro e w' ⟨rfl,⟨nd,rfl⟩⟩;(try first|exact ⟨rfl,_,World.drewN_drewN _ _ _⟩|exact ⟨rfl,_,Eq.trans (World.drewN_drewN _ _ _) (congrArg (World.drewN _) (Nat.add_assoc _ _ _))⟩);obtain ⟨Ao43,co43,eo43⟩:=Kd.R_slice HO233.out;subst eo43;obtain ⟨Ao44,co44,eo44⟩:=Kd.R_slice HO237.out;subst eo44)))
               go_meet
               case rel => exact ⟨_,(((t230.length : Int) != (wrap64 ((t214.length : Int) + (t218.length : Int))))),(by first|rfl|(simp;done)|(simp [*];done)|(simp [*,Go.Proofs.Ytghlellambnkeaa.Str.bne_nil];done)),H',⟨by have:=HJ2.out;have:=HJ12.out;first|omega|exact Nat.le_refl _⟩,⟨by (with_reducible repeat (first|apply Kd.R_alloc|apply Kd.R_drewN|apply Kd.R_drew));exact HO233.out⟩,⟨by (with_reducible repeat (first|apply Kd.R_alloc|apply Kd.R_drewN|apply Kd.R_drew));exact Kd.R_mono HO237.out (fun _ hk => trivial)⟩,⟨by repeat (first|(with_reducible first|exact HB.out|apply xA|apply xN|apply xD)|exact HB.out)⟩⟩
              ·rw [if_neg c41] at H
               have c41b0 : ((t230.length : Int) == (t234.length : Int)) = false:=beq_eq_false_iff_ne.mpr c41
               have c41b1 : ((t230.length : Int) != (t234.length : Int)) = true:=bne_iff_ne.mpr c41
               have c41b2 : (t230.length == t234.length) = false:=by first|simpa using c41|(simp at c41 ⊢;omega)
               have H':=Aside0.mk H
               clear H
               obtain ⟨Ao45,co45,eo45⟩:=Kd.R_slice HO225.out
               subst eo45
               go_wp2_with (first|(go_at_call 20;(with_reducible refine (tidelinelaw09_same.calls kj12 _ _ t222 _ _ t226 true _ ?side1 ?side2 ?side3 ?side4 A39.out).mono ?_);(case side1 => repeat (first|exact (Kd.R_reads' HO225.out).2.2|(with_reducible refine Kd.C_alloc ?_ _)|(with_reducible refine Kd.C_drewN ?_ _)|(with_reducible refine Kd.C_drew ?_)));(case side2 => exact (Kd.R_reads' HO225.out).2.1);(case side3 => repeat (first|exact (Kd.R_reads' HO229.out).2.2|(with_reducible refine Kd.C_alloc ?_ _)|(with_reducible refine Kd.C_drewN ?_ _)|(with_reducible refine Kd.C_drew ?_)));(case side4 => exact (Kd.R_reads' HO229.out).2.1);rintro e w' ⟨rfl,⟨nd,rfl⟩⟩;(try first|exact ⟨rfl,_,World.drewN_drewN _ _ _⟩|exact ⟨rfl,_,Eq.trans (World.drewN_drewN _ _ _) (congrArg (World.drewN _) (Nat.add_assoc _ _ _))⟩);obtain ⟨Ao46,co46,eo46⟩:=Kd.R_slice HO233.out;subst eo46;obtain ⟨Ao47,co47,eo47⟩:=Kd.R_slice HO237.out;subst eo47))
               repeat (go_quiet (first|(go_at_call 20;(with_reducible refine (tidelinelaw09_same.calls kj12 _ _ t222 _ _ t226 true _ ?side1 ?side2 ?side3 ?side4 A39.out).mono ?_);(case side1 => repeat (first|exact (Kd.R_reads' HO225.out).2.2|(with_reducible refine Kd.C_alloc ?_ _)|(with_reducible refine Kd.C_drewN ?_ _)|(with_reducible refine Kd.C_drew ?_)));(case side2 => exact (Kd.R_reads' HO225.out).2.1);(case side3 => repeat (first|exact (Kd.R_reads' HO229.out).2.2|(with_reducible refine Kd.C_alloc ?_ _)|(with_reducible refine Kd.C_drewN ?_ _)|(with_reducible refine Kd.C_drew ?_)));(case side4 => exact (Kd.R_reads' HO229.out).2.1);rintro e w' ⟨rfl,⟨nd,rfl⟩⟩;(try first|exact ⟨rfl,_,World.drewN_drewN _ _ _⟩|exact ⟨rfl,_,Eq.trans (World.drewN_drewN _ _ _) (congrArg (World.drewN _) (Nat.add_assoc _ _ _))⟩);obtain ⟨Ao46,co46,eo46⟩:=Kd.R_slice HO233.out;subst eo46;obtain ⟨Ao47,co47,eo47⟩:=Kd.R_slice HO237.out;subst eo47));try go_wp2_with (first|(go_at_call 20;(with_reducible refine (tidelinelaw09_same.calls kj12 _ _ t222 _ _ t226 true _ ?side1 ?side2 ?side3 ?side4 A39.out).mono ?_);(case side1 => repeat (first|exact (Kd.R_reads' HO225.out).2.2|(with_reducible refine Kd.C_alloc ?_ _)|(with_reducible refine Kd.C_drewN ?_ _)|(with_reducible refine Kd.C_drew ?_)));(case side2 => exact (Kd.R_reads' HO225.out).2.1);(case side3 => repeat (first|exact (Kd.R_reads' HO229.out).2.2|(with_reducible refine Kd.C_alloc ?_ _)|(with_reducible refine Kd.C_drewN ?_ _)|(with_reducible refine Kd.C_drew ?_)));(case side4 => exact (Kd.R_reads' HO229.out).2.1);rintro e w' ⟨rfl,⟨nd,rfl⟩⟩;(try first|exact ⟨rfl,_,World.drewN_drewN _ _ _⟩|exact ⟨rfl,_,Eq.trans (World.drewN_drewN _ _ _) (congrArg (World.drewN _) (Nat.add_assoc _ _ _))⟩);obtain ⟨Ao46,co46,eo46⟩:=Kd.R_slice HO233.out;subst eo46;obtain ⟨Ao47,co47,eo47⟩:=Kd.R_slice HO237.out;subst eo47)))
               go_meet
               case rel => exact ⟨_,(true),(by first|rfl|(simp;done)|(simp [*];done)|(simp [*,Go.Proofs.Ytghlellambnkeaa.Str.bne_nil];done)),H',⟨by have:=HJ2.out;have:=HJ12.out;first|omega|exact Nat.le_refl _⟩,⟨by (with_reducible repeat (first|apply Kd.R_alloc|apply Kd.R_drewN|apply Kd.R_drew));exact HO233.out⟩,⟨by (with_reducible repeat (first|apply Kd.R_alloc|apply Kd.R_drewN|apply Kd.R_drew));exact Kd.R_mono HO237.out (fun _ hk => trivial)⟩,⟨by repeat (first|(with_reducible first|exact HB.out|apply xA|apply xN|apply xD)|exact HB.out)⟩⟩
             ·replace c40:=Bool.eq_false_iff.mpr c40
              subst c40
              have H1 : (tidelinelaw09_MergeLacks.j2 kj12 t230 t234 true) = some r:=by rw [if_neg (show ¬ (false = true) by decide)] at H;exact H
              clear H
              have H:=H1
              clear H1
              have H':=Aside0.mk H
              clear H
              obtain ⟨Ao48,co48,eo48⟩:=Kd.R_slice HO225.out
              subst eo48
              go_wp2_with (first|(go_at_call 20;(with_reducible refine (tidelinelaw09_same.calls kj12 _ _ t222 _ _ t226 false _ ?side1 ?side2 ?side3 ?side4 A39.out).mono ?_);(case side1 => repeat (first|exact (Kd.R_reads' HO225.out).2.2|(with_reducible refine Kd.C_alloc ?_ _)|(with_reducible refine Kd.C_drewN ?_ _)|(with_reducible refine Kd.C_drew ?_)));(case side2 => exact (Kd.R_reads' HO225.out).2.1);(case side3 => repeat (first|exact (Kd.R_reads' HO229.out).2.2|(with_reducible refine Kd.C_alloc ?_ _)|(with_reducible refine Kd.C_drewN ?_ _)|(with_reducible refine Kd.C_drew ?_)));(case side4 => exact (Kd.R_reads' HO229.out).2.1);rintro e w' ⟨rfl,⟨nd,rfl⟩⟩;(try first|exact ⟨rfl,_,World.drewN_drewN _ _ _⟩|exact ⟨rfl,_,Eq.trans (World.drewN_drewN _ _ _) (congrArg (World.drewN _) (Nat.add_assoc _ _ _))⟩)))
              repeat (go_quiet (first|(go_at_call 20;(with_reducible refine (tidelinelaw09_same.calls kj12 _ _ t222 _ _ t226 false _ ?side1 ?side2 ?side3 ?side4 A39.out).mono ?_);(case side1 => repeat (first|exact (Kd.R_reads' HO225.out).2.2|(with_reducible refine Kd.C_alloc ?_ _)|(with_reducible refine Kd.C_drewN ?_ _)|(with_reducible refine Kd.C_drew ?_)));(case side2 => exact (Kd.R_reads' HO225.out).2.1);(case side3 => repeat (first|exact (Kd.R_reads' HO229.out).2.2|(with_reducible refine Kd.C_alloc ?_ _)|(with_reducible refine Kd.C_drewN ?_ _)|(with_reducible refine Kd.C_drew ?_)));(case side4 => exact (Kd.R_reads' HO229.out).2.1);rintro e w' ⟨rfl,⟨nd,rfl⟩⟩;(try first|exact ⟨rfl,_,World.drewN_drewN _ _ _⟩|exact ⟨rfl,_,Eq.trans (World.drewN_drewN _ _ _) (congrArg (World.drewN _) (Nat.add_assoc _ _ _))⟩)));try go_wp2_with (first|(go_at_call 20;(with_reducible refine (tidelinelaw09_same.calls kj12 _ _ t222 _ _ t226 false _ ?side1 ?side2 ?side3 ?side4 A39.out).mono ?_);(case side1 => repeat (first|exact (Kd.R_reads' HO225.out).2.2|(with_reducible refine Kd.C_alloc ?_ _)|(with_reducible refine Kd.C_drewN ?_ _)|(with_reducible refine Kd.C_drew ?_)));(case side2 => exact (Kd.R_reads' HO225.out).2.1);(case side3 => repeat (first|exact (Kd.R_reads' HO229.out).2.2|(with_reducible refine Kd.C_alloc ?_ _)|(with_reducible refine Kd.C_drewN ?_ _)|(with_reducible refine Kd.C_drew ?_)));(case side4 => exact (Kd.R_reads' HO229.out).2.1);rintro e w' ⟨rfl,⟨nd,rfl⟩⟩;(try first|exact ⟨rfl,_,World.drewN_drewN _ _ _⟩|exact ⟨rfl,_,Eq.trans (World.drewN_drewN _ _ _) (congrArg (World.drewN _) (Nat.add_assoc _ _ _))⟩))))
              go_meet
              case rel => exact ⟨_,(true),(by first|rfl|(simp;done)|(simp [*];done)|(simp [*,Go.Proofs.Ytghlellambnkeaa.Str.bne_nil];done)),H',⟨by have:=HJ2.out;have:=HJ12.out;first|omega|exact Nat.le_refl _⟩,⟨by (with_reducible repeat (first|apply Kd.R_alloc|apply Kd.R_drewN|apply Kd.R_drew));exact HO233.out⟩,⟨by (with_reducible repeat (first|apply Kd.R_alloc|apply Kd.R_drewN|apply Kd.R_drew));exact Kd.R_mono HO237.out (fun _ hk => trivial)⟩,⟨by repeat (first|(with_reducible first|exact HB.out|apply xA|apply xN|apply xD)|exact HB.out)⟩⟩
            ·rw [if_neg c38] at H
             have c38b0 : (t235 == 0) = false:=beq_eq_false_iff_ne.mpr c38
             have c38b1 : (t235 != 0) = true:=bne_iff_ne.mpr c38
             have H':=Aside0.mk H
             clear H
             go_wp2
             repeat (go_quiet (fail);try go_wp2)
             go_meet
             case rel => exact ⟨_,(true),(by first|rfl|(simp;done)|(simp [*];done)|(simp [*,Go.Proofs.Ytghlellambnkeaa.Str.bne_nil];done)),H',⟨by have:=HJ2.out;have:=HJ12.out;first|omega|exact Nat.le_refl _⟩,⟨by (with_reducible repeat (first|apply Kd.R_alloc|apply Kd.R_drewN|apply Kd.R_drew));exact HO233.out⟩,⟨by (with_reducible repeat (first|apply Kd.R_alloc|apply Kd.R_drewN|apply Kd.R_drew));exact Kd.R_mono HO237.out (fun _ hk => trivial)⟩,⟨by repeat (first|(with_reducible first|exact HB.out|apply xA|apply xN|apply xD)|exact HB.out)⟩⟩
           ·rw [if_neg c37] at H
            have c37b0 : (t231 == 0) = false:=beq_eq_false_iff_ne.mpr c37
            have c37b1 : (t231 != 0) = true:=bne_iff_ne.mpr c37
            have H':=Aside0.mk H
            clear H
            go_wp2
            repeat (go_quiet (fail);try go_wp2)
            go_meet
            case rel => exact ⟨_,(true),(by first|rfl|(simp;done)|(simp [*];done)|(simp [*,Go.Proofs.Ytghlellambnkeaa.Str.bne_nil];done)),H',⟨by have:=HJ2.out;have:=HJ12.out;first|omega|exact Nat.le_refl _⟩,⟨by (with_reducible repeat (first|apply Kd.R_alloc|apply Kd.R_drewN|apply Kd.R_drew));exact HO233.out⟩,⟨by (with_reducible repeat (first|apply Kd.R_alloc|apply Kd.R_drewN|apply Kd.R_drew));exact Kd.R_mono HO237.out (fun _ hk => trivial)⟩,⟨by repeat (first|(with_reducible first|exact HB.out|apply xA|apply xN|apply xD)|exact HB.out)⟩⟩
          ·rw [if_neg c36] at H
           have c36b0 : (t227 == 0) = false:=beq_eq_false_iff_ne.mpr c36
           have c36b1 : (t227 != 0) = true:=bne_iff_ne.mpr c36
           have H':=Aside0.mk H
           clear H
           go_wp2
           repeat (go_quiet (fail);try go_wp2)
           go_meet
           case rel => exact ⟨_,(true),(by first|rfl|(simp;done)|(simp [*];done)|(simp [*,Go.Proofs.Ytghlellambnkeaa.Str.bne_nil];done)),H',⟨by have:=HJ2.out;have:=HJ12.out;first|omega|exact Nat.le_refl _⟩,⟨by (with_reducible repeat (first|apply Kd.R_alloc|apply Kd.R_drewN|apply Kd.R_drew));exact HO233.out⟩,⟨by (with_reducible repeat (first|apply Kd.R_alloc|apply Kd.R_drewN|apply Kd.R_drew));exact Kd.R_mono HO237.out (fun _ hk => trivial)⟩,⟨by repeat (first|(with_reducible first|exact HB.out|apply xA|apply xN|apply xD)|exact HB.out)⟩⟩
         ·rw [if_neg c35] at H
          have c35b0 : (t223 == 0) = false:=beq_eq_false_iff_ne.mpr c35
          have c35b1 : (t223 != 0) = true:=bne_iff_ne.mpr c35
          (first|rw [c35b0]|(simp only [i64_w,i32_w];rw [c35b0])|skip)
          have H':=Aside0.mk H
          clear H
          go_wp2
          repeat (go_quiet (fail);try go_wp2)
          go_meet
          case rel => exact ⟨_,(true),(by first|rfl|(simp;done)|(simp [*];done)|(simp [*,Go.Proofs.Ytghlellambnkeaa.Str.bne_nil];done)),H',⟨by have:=HJ2.out;have:=HJ12.out;first|omega|exact Nat.le_refl _⟩,⟨by (with_reducible repeat (first|apply Kd.R_alloc|apply Kd.R_drewN|apply Kd.R_drew));exact HO233.out⟩,⟨by (with_reducible repeat (first|apply Kd.R_alloc|apply Kd.R_drewN|apply Kd.R_drew));exact Kd.R_mono HO237.out (fun _ hk => trivial)⟩,⟨by repeat (first|(with_reducible first|exact HB.out|apply xA|apply xN|apply xD)|exact HB.out)⟩⟩
        case rest =>
         clear HC25
         try clear c1
         try clear c2
         try clear p2
         try clear c3
         try clear c4
         try clear c5
         try clear p6
         try clear c9
         try clear c10
         try clear c16
         try clear c16b0
         try clear c16b1
         try clear c17
         try clear c24
         try clear c35
         try clear c35b0
         try clear c35b1
         try clear c36
         try clear c36b0
         try clear c36b1
         try clear c37
         try clear c37b0
         try clear c37b1
         try clear c38
         try clear c38b0
         try clear c38b1
         try clear c40
         try clear c41
         try clear c41b0
         try clear c41b1
         try clear c41b2
         try clear p2
         obtain ⟨kq,x118_24,rfl,HA,HJ24,HO_13,HO_15,HB⟩:=hcut
         cases kq with
        |zero => exact absurd HA.out (by simp [tidelinelaw09_MergeLacks.j2])
        |succ kj24 =>
          have H:=HA.out
          clear HA
          simp only [tidelinelaw09_MergeLacks.j2] at H
          by_cases c49 : x118_24 = true
          ·subst c49
           have H1 : (none) = some r:=by rw [if_pos rfl] at H;exact H
           clear H
           have H:=H1
           clear H1
           exact absurd H (by simp)
          ·replace c49:=Bool.eq_false_iff.mpr c49
           subst c49
           have H1 : (tidelinelaw09_MergeLacks.l0 kj24 t230 t234 0) = some r:=by rw [if_neg (show ¬ (false = true) by decide)] at H;exact H
           clear H
           have H:=H1
           clear H1
           have H':=Aside0.mk H
           clear H
           go_wp2
           repeat (go_quiet (fail);try go_wp2)
           go_loopg [19] kj24 (fun kq v19 w' => ∃ (x19_4 : Int),v19 = .int .i64 x19_4 ∧ Aside0 (tidelinelaw09_MergeLacks.l0 kq t230 t234 x19_4 = some r) ∧ Aside0 (kq ≤ kj24) ∧ Aside0 (Kd.R Kd.string 9 w' w.heap.size (fun _ => True) v232 t230) ∧ Aside0 (Kd.R k44 44 w' w.heap.size (fun _ => True) v236 t234) ∧ Aside0 (Below w.heap.size w w'))
           case atStart => exact ⟨(0),(by first|rfl|(simp;done)|(simp [*];done)|(simp [*,Go.Proofs.Ytghlellambnkeaa.Str.bne_nil];done)),H',⟨Nat.le_refl _⟩,⟨by (with_reducible repeat (first|apply Kd.R_alloc|apply Kd.R_drewN|apply Kd.R_drew));exact HO_13.out⟩,⟨by (with_reducible repeat (first|apply Kd.R_alloc|apply Kd.R_drewN|apply Kd.R_drew));exact HO_15.out⟩,⟨by repeat (first|(with_reducible first|exact HB.out|apply xA|apply xN|apply xD)|exact HB.out)⟩⟩
           case round =>
            clear H'
            try clear c1
            try clear c2
            try clear p2
            try clear c3
            try clear c4
            try clear c5
            try clear p6
            try clear c9
            try clear c10
            try clear c16
            try clear c16b0
            try clear c16b1
            try clear c17
            try clear c24
            try clear c35
            try clear c35b0
            try clear c35b1
            try clear c36
            try clear c36b0
            try clear c36b1
            try clear c37
            try clear c37b0
            try clear c37b1
            try clear c38
            try clear c38b0
            try clear c38b1
            try clear c40
            try clear c41
            try clear c41b0
            try clear c41b1
            try clear c41b2
            try clear c49
            try clear p2
            try clear p6
            obtain ⟨x19_4,rfl,HA,HK4,HO_13,HO_15,HB⟩:=hrel
            cases gk with
           |zero => exact absurd HA.out (by simp [tidelinelaw09_MergeLacks.l0])
           |succ k4 =>
             have H:=HA.out
             clear HA
             simp only [tidelinelaw09_MergeLacks.l0] at H
             by_cases c50 : x19_4 < (t230.length : Int)
             ·rw [if_pos c50] at H
              have c50b0 : decide (x19_4 < (t230.length : Int)) = true:=decide_eq_true c50
              clear c50
              by_cases c51 : 0 ≤ x19_4
              ·rw [if_pos c51] at H
               have c51b0 : decide (0 ≤ x19_4) = true:=decide_eq_true c51
               clear c51
               by_cases c52 : x19_4 < (t234.length : Int)
               ·rw [if_pos c52] at H
                have c52b0 : decide (x19_4 < (t234.length : Int)) = true:=decide_eq_true c52
                clear c52
                by_cases c53 : (rdOf ByteArray.empty t230 x19_4).toList = ((rd_T44 t234 x19_4).f0).toList
                ·rw [if_pos c53] at H
                 have c53b0 : ((rdOf ByteArray.empty t230 x19_4).toList == ((rd_T44 t234 x19_4).f0).toList) = true:=beq_iff_eq.mpr c53
                 have c53b1 : ((rdOf ByteArray.empty t230 x19_4).toList != ((rd_T44 t234 x19_4).f0).toList) = false:=bne_eq_false_iff_eq.mpr c53
                 clear c53
                 have H':=Aside0.mk H
                 clear H
                 obtain ⟨Ao54,co54,eo54⟩:=Kd.R_slice HO_13.out
                 subst eo54
                 have p244 : 0 ≤ (x19_4 : Int):=of_decide_eq_true (by first|(with_reducible assumption)|assumption)
                 have q244 : x19_4 < (t230.length : Int):=of_decide_eq_true (by first|(with_reducible assumption)|assumption)
                 obtain ⟨ad244,e244,hx244_0⟩:=Kd.at_string (Kd.R_reads' HO_13.out).2.2 x19_4 p244 q244
                 cases e244
                 replace p244:=eq_true p244
                 replace q244:=eq_true q244
                 obtain ⟨Ao55,co55,eo55⟩:=Kd.R_slice HO_15.out
                 subst eo55
                 have p245 : 0 ≤ (x19_4 : Int):=of_decide_eq_true (by first|(with_reducible assumption)|assumption)
                 have q245 : x19_4 < (t234.length : Int):=of_decide_eq_true (by first|(with_reducible assumption)|assumption)
                 obtain ⟨ad245,e245,hx245_0,hx245_1,hx245_2,hx245_3,hx245_4⟩:=at_T44 (Kd.R_reads' HO_15.out).2.2 x19_4 p245 q245
                 cases e245
                 replace p245:=eq_true p245
                 replace q245:=eq_true q245
                 go_wp2
                 repeat (go_quiet (fail);try go_wp2)
                 go_roundg k4
                 case measure => have:=HJ2.out;have:=HJ12.out;have:=HJ24.out;have:=HK4.out;omega
                 case rel => exact ⟨(wrap64 (x19_4 + 1)),(by first|rfl|(simp;done)|(simp [*];done)|(simp [*,Go.Proofs.Ytghlellambnkeaa.Str.bne_nil];done)),H',⟨by have:=HJ2.out;have:=HJ12.out;have:=HJ24.out;have:=HK4.out;omega⟩,⟨by (with_reducible repeat (first|apply Kd.R_alloc|apply Kd.R_drewN|apply Kd.R_drew));exact HO_13.out⟩,⟨by (with_reducible repeat (first|apply Kd.R_alloc|apply Kd.R_drewN|apply Kd.R_drew));exact HO_15.out⟩,⟨by repeat (first|(with_reducible first|exact HB.out|apply xA|apply xN|apply xD)|exact HB.out)⟩⟩
                ·rw [if_neg c53] at H
                 exact absurd H (by simp)
               ·rw [if_neg c52] at H
                exact absurd H (by simp)
              ·rw [if_neg c51] at H
               exact absurd H (by simp)
             ·rw [if_neg c50] at H
              have c50b0 : decide (x19_4 < (t230.length : Int)) = false:=decide_eq_false c50
              clear c50
              obtain rfl:=Option.some.inj H
              obtain ⟨Ao56,co56,eo56⟩:=Kd.R_slice HO_13.out
              subst eo56
              go_wp2
              repeat (go_quiet (fail);try go_wp2)
              go_ret
              exact ⟨by first|rfl|(simp [errW_none,errW_some] <;> rfl)|(simp [*,errW_none,errW_some] <;> rfl),by repeat (first|(with_reducible first|exact HB.out|apply xA|apply xN|apply xD)|exact HB.out)⟩
       ·replace c24:=Bool.eq_false_iff.mpr c24
        subst c24
        have H1 : (none) = some r:=by rw [if_neg (show ¬ (false = true) by decide)] at H;exact H
        clear H
        have H:=H1
        clear H1
        exact absurd H (by simp)

end Go.Proofs.Ytghlellambnkeaa.PAll
