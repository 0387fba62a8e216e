-- By wip/pr.py (a program of this session, over the kit's print): lines written by program. Not trusted: Lean checks them.
import Derived.Test.YtghlellambnkeaaSBeyond
import Derived.Test.YtghlellambnkeaaSMerge
import Derived.Test.YtghlellambnkeaaSMergeM
import Derived.Test.YtghlellambnkeaaPAllx0
import Derived.Test.YtghlellambnkeaaPAllx3
import Derived.Test.YtghlellambnkeaaPAllx5
namespace Go.Proofs.Ytghlellambnkeaa.PAll
open Go.RowKit Go.Proofs.YtghlellambnkeaaW.PrintWords Go.Proofs.YtghlellambnkeaaW.PrintLast Go.Proofs.YtghlellambnkeaaW.PrintMore
attribute [local go_sem] max2_int min2_int max_two min_two max_three min_three max_four min_four   -- for this text's walks alone
set_option linter.unusedVariables false
set_option linter.unusedSimpArgs false

/-! ### tidelinelaw09_MergeNewest: function 8 -/
mutual
def tidelinelaw09_MergeNewest.j0 : Nat → List (S44) → List (S44) → List (S44) → Bool → Option (Bool)
  | 0, _, _, _, _ => none
  | k + 1, x0, x1, x2, x45 => if x45 = true then (some true) else ((merge_Max.f k x0 x1).bind fun bt183 => ((merge_Max.f k x1 x0).bind fun bt187 => ((merge_Max.f k x1 x2).bind fun bt191 => ((merge_Max.f k x0 x0).bind fun bt195 => (if bt183.2 = 0 then (if bt187.2 = 0 then (if bt191.2 = 0 then (if bt195.2 = 0 then ((tidelinelaw09_same.f k bt183.1 bt187.1).bind fun t199 => (if t199 = true then ((tidelinelaw09_same.f k bt195.1 x0).bind fun t200 => (tidelinelaw09_MergeNewest.j1 k x0 x1 x2 bt183.1 bt191.1 (!t200))) else (tidelinelaw09_MergeNewest.j1 k x0 x1 x2 bt183.1 bt191.1 true))) else (tidelinelaw09_MergeNewest.j1 k x0 x1 x2 bt183.1 bt191.1 true)) else (tidelinelaw09_MergeNewest.j1 k x0 x1 x2 bt183.1 bt191.1 true)) else (tidelinelaw09_MergeNewest.j1 k x0 x1 x2 bt183.1 bt191.1 true)) else (tidelinelaw09_MergeNewest.j1 k x0 x1 x2 bt183.1 bt191.1 true))))))
def tidelinelaw09_MergeNewest.j1 : Nat → List (S44) → List (S44) → List (S44) → List (S44) → List (S44) → Bool → Option (Bool)
  | 0, _, _, _, _, _, _ => none
  | k + 1, x0, x1, x2, x7, x11, x95 => if x95 = true then (none) else ((merge_Max.f k x7 x2).bind fun bt201 => ((merge_Max.f k x0 x11).bind fun bt205 => (if bt201.2 = 0 then (if bt205.2 = 0 then ((tidelinelaw09_same.f k bt201.1 bt205.1).bind fun t209 => (tidelinelaw09_MergeNewest.j2 k x0 x1 x7 (!t209))) else (tidelinelaw09_MergeNewest.j2 k x0 x1 x7 true)) else (tidelinelaw09_MergeNewest.j2 k x0 x1 x7 true))))
def tidelinelaw09_MergeNewest.j2 : Nat → List (S44) → List (S44) → List (S44) → Bool → Option (Bool)
  | 0, _, _, _, _ => none
  | k + 1, x0, x1, x7, x119 => if x119 = true then (none) else ((merge_Above.f k x7 x0).bind fun bt210 => ((merge_Above.f k x7 x1).bind fun bt212 => (if bt210.2 = 0 then (if bt212.2 = 0 then (if bt210.1 = true then (some bt212.1) else (none)) else (none)) else (none))))
end
def tidelinelaw09_MergeNewest.f (k : Nat) (l0 : List (S44)) (l1 : List (S44)) (l2 : List (S44)) : Option (Bool) := (tidelinelaw09_beyond.f k [l0, l1, l2]).bind fun t179 => (if t179 = true then (tidelinelaw09_MergeNewest.j0 k l0 l1 l2 true) else ((tidelinelaw09_clean.f k l0 l1).bind fun t180 => (if t180 = true then ((tidelinelaw09_clean.f k l1 l2).bind fun t181 => (if t181 = true then ((tidelinelaw09_clean.f k l0 l2).bind fun t182 => (tidelinelaw09_MergeNewest.j0 k l0 l1 l2 (!t182))) else (tidelinelaw09_MergeNewest.j0 k l0 l1 l2 true))) else (tidelinelaw09_MergeNewest.j0 k l0 l1 l2 true))))
theorem tidelinelaw09_MergeNewest.mono_l : ∀ k, (∀ y0 y1 y2 y3, LeO (tidelinelaw09_MergeNewest.j0 k y0 y1 y2 y3) (tidelinelaw09_MergeNewest.j0 (k + 1) y0 y1 y2 y3)) ∧ (∀ y0 y1 y2 y3 y4 y5, LeO (tidelinelaw09_MergeNewest.j1 k y0 y1 y2 y3 y4 y5) (tidelinelaw09_MergeNewest.j1 (k + 1) y0 y1 y2 y3 y4 y5)) ∧ (∀ y0 y1 y2 y3, LeO (tidelinelaw09_MergeNewest.j2 k y0 y1 y2 y3) (tidelinelaw09_MergeNewest.j2 (k + 1) y0 y1 y2 y3))
  | 0 => ⟨fun _ _ _ _ r h => by simp [tidelinelaw09_MergeNewest.j0] at h, fun _ _ _ _ _ _ r h => by simp [tidelinelaw09_MergeNewest.j1] at h, fun _ _ _ _ r h => by simp [tidelinelaw09_MergeNewest.j2] at h⟩
  | k + 1 => by
    obtain ⟨ih0, ih1, ih2⟩ := tidelinelaw09_MergeNewest.mono_l k
    refine ⟨?_, ?_, ?_⟩
    · intro y0 y1 y2 y3
      unfold tidelinelaw09_MergeNewest.j0
      repeat' first
      | (with_reducible exact ih0 _ _ _ _)
      | (with_reducible exact ih1 _ _ _ _ _ _)
      | (with_reducible exact ih2 _ _ _ _)
      | (with_reducible exact merge_Above.mono _ _ _)
      | (with_reducible exact merge_Max.mono _ _ _)
      | (with_reducible exact tidelinelaw09_beyond.mono _ _)
      | (with_reducible exact tidelinelaw09_clean.mono _ _ _)
      | (with_reducible exact tidelinelaw09_same.mono _ _ _)
      | (with_reducible exact LeO.refl _)
      | (with_reducible exact LeO.none _)
      | (with_reducible refine LeO.ite ?_ ?_)
      | (with_reducible refine LeO.bind ?_ (fun _ => ?_))
      | exact ih0 _ _ _ _
      | exact ih1 _ _ _ _ _ _
      | exact ih2 _ _ _ _
      | exact merge_Above.mono _ _ _
      | exact merge_Max.mono _ _ _
      | exact tidelinelaw09_beyond.mono _ _
      | exact tidelinelaw09_clean.mono _ _ _
      | exact tidelinelaw09_same.mono _ _ _
      | exact LeO.none _
      | refine LeO.ite ?_ ?_
      | refine LeO.bind ?_ (fun _ => ?_)
    · intro y0 y1 y2 y3 y4 y5
      unfold tidelinelaw09_MergeNewest.j1
      repeat' first
      | (with_reducible exact ih0 _ _ _ _)
      | (with_reducible exact ih1 _ _ _ _ _ _)
      | (with_reducible exact ih2 _ _ _ _)
      | (with_reducible exact merge_Above.mono _ _ _)
      | (with_reducible exact merge_Max.mono _ _ _)
      | (with_reducible exact tidelinelaw09_beyond.mono _ _)
      | (with_reducible exact tidelinelaw09_clean.mono _ _ _)
      | (with_reducible exact tidelinelaw09_same.mono _ _ _)
      | (with_reducible exact LeO.refl _)
      | (with_reducible exact LeO.none _)
      | (with_reducible refine LeO.ite ?_ ?_)
      | (with_reducible refine LeO.bind ?_ (fun _ => ?_))
      | exact ih0 _ _ _ _
      | exact ih1 _ _ _ _ _ _
      | exact ih2 _ _ _ _
      | exact merge_Above.mono _ _ _
      | exact merge_Max.mono _ _ _
      | exact tidelinelaw09_beyond.mono _ _
      | exact tidelinelaw09_clean.mono _ _ _
      | exact tidelinelaw09_same.mono _ _ _
      | exact LeO.none _
      | refine LeO.ite ?_ ?_
      | refine LeO.bind ?_ (fun _ => ?_)
    · intro y0 y1 y2 y3
      unfold tidelinelaw09_MergeNewest.j2
      repeat' first
      | (with_reducible exact ih0 _ _ _ _)
      | (with_reducible exact ih1 _ _ _ _ _ _)
      | (with_reducible exact ih2 _ _ _ _)
      | (with_reducible exact merge_Above.mono _ _ _)
      | (with_reducible exact merge_Max.mono _ _ _)
      | (with_reducible exact tidelinelaw09_beyond.mono _ _)
      | (with_reducible exact tidelinelaw09_clean.mono _ _ _)
      | (with_reducible exact tidelinelaw09_same.mono _ _ _)
      | (with_reducible exact LeO.refl _)
      | (with_reducible exact LeO.none _)
      | (with_reducible refine LeO.ite ?_ ?_)
      | (with_reducible refine LeO.bind ?_ (fun _ => ?_))
      | exact ih0 _ _ _ _
      | exact ih1 _ _ _ _ _ _
      | exact ih2 _ _ _ _
      | exact merge_Above.mono _ _ _
      | exact merge_Max.mono _ _ _
      | exact tidelinelaw09_beyond.mono _ _
      | exact tidelinelaw09_clean.mono _ _ _
      | exact tidelinelaw09_same.mono _ _ _
      | exact LeO.none _
      | refine LeO.ite ?_ ?_
      | refine LeO.bind ?_ (fun _ => ?_)
theorem tidelinelaw09_MergeNewest.mono : ∀ a0 a1 a2 k, LeO (tidelinelaw09_MergeNewest.f k a0 a1 a2) (tidelinelaw09_MergeNewest.f (k + 1) a0 a1 a2) := by
  intro a0 a1 a2 k
  obtain ⟨ih0, ih1, ih2⟩ := tidelinelaw09_MergeNewest.mono_l k
  unfold tidelinelaw09_MergeNewest.f
  repeat' first
      | (with_reducible exact ih0 _ _ _ _)
      | (with_reducible exact ih1 _ _ _ _ _ _)
      | (with_reducible exact ih2 _ _ _ _)
      | (with_reducible exact merge_Above.mono _ _ _)
      | (with_reducible exact merge_Max.mono _ _ _)
      | (with_reducible exact tidelinelaw09_beyond.mono _ _)
      | (with_reducible exact tidelinelaw09_clean.mono _ _ _)
      | (with_reducible exact tidelinelaw09_same.mono _ _ _)
      | (with_reducible exact LeO.refl _)
      | (with_reducible exact LeO.none _)
      | (with_reducible refine LeO.ite ?_ ?_)
      | (with_reducible refine LeO.bind ?_ (fun _ => ?_))
      | exact ih0 _ _ _ _
      | exact ih1 _ _ _ _ _ _
      | exact ih2 _ _ _ _
      | exact merge_Above.mono _ _ _
      | exact merge_Max.mono _ _ _
      | exact tidelinelaw09_beyond.mono _ _
      | exact tidelinelaw09_clean.mono _ _ _
      | exact tidelinelaw09_same.mono _ _ _
      | exact LeO.none _
      | refine LeO.ite ?_ ?_
      | refine LeO.bind ?_ (fun _ => ?_)
set_option maxHeartbeats 8000000 in
set_option maxRecDepth 100000 in
theorem tidelinelaw09_MergeNewest.calls (k : Nat) (A0 : Option Addr) (c0 : Nat) (l0 : List (S44)) (A1 : Option Addr) (c1 : Nat) (l1 : List (S44)) (A2 : Option Addr) (c2 : Nat) (l2 : List (S44)) (r : Bool) (w : World) (hr0 : Kd.C k44 w A0 l0.length l0) (hc0 : l0.length ≤ c0) (hr1 : Kd.C k44 w A1 l1.length l1) (hc1 : l1.length ≤ c1) (hr2 : Kd.C k44 w A2 l2.length l2) (hc2 : l2.length ≤ c2) (h : tidelinelaw09_MergeNewest.f k l0 l1 l2 = some r) :
    Calls Try.prog 8 #[.slice A0 l0.length c0, .slice A1 l1.length c1, .slice A2 l2.length c2] w fun e w' => e = .returned (.bool r) ∧ Below w.heap.size w w' := by
  have HR0 := Aside0.mk hr0
  have HC0 := Aside0.mk hc0
  clear hr0 hc0
  have HR1 := Aside0.mk hr1
  have HC1 := Aside0.mk hc1
  clear hr1 hc1
  have HR2 := Aside0.mk hr2
  have HC2 := Aside0.mk hc2
  clear hr2 hc2
  have HB := Aside0.mk (Below.refl w.heap.size w)
  have H : ((tidelinelaw09_beyond.f k [l0, l1, l2]).bind fun t179 => (if t179 = true then (tidelinelaw09_MergeNewest.j0 k l0 l1 l2 true) else ((tidelinelaw09_clean.f k l0 l1).bind fun t180 => (if t180 = true then ((tidelinelaw09_clean.f k l1 l2).bind fun t181 => (if t181 = true then ((tidelinelaw09_clean.f k l0 l2).bind fun t182 => (tidelinelaw09_MergeNewest.j0 k l0 l1 l2 (!t182))) else (tidelinelaw09_MergeNewest.j0 k l0 l1 l2 true))) else (tidelinelaw09_MergeNewest.j0 k l0 l1 l2 true))))) = some r := h
  clear h
  have HC4 := Aside0.mk H
  clear H
  go_enter Try.func8, Try.ntmps8
  go_upto_region 1 with (fail)
  go_cut [45] (fun v45 wc => ∃ (kq : Nat) (x45_3 : Bool), v45 = .bool x45_3 ∧ Aside0 (tidelinelaw09_MergeNewest.j0 kq l0 l1 l2 x45_3 = some r) ∧ Aside0 (kq ≤ k) ∧ Aside0 (Below w.heap.size w wc))
  case first =>
    have H := HC4.out
    clear HC4
    replace H := Option.bind_eq_some_iff.mp H
    obtain ⟨t179, A50, H⟩ := H
    replace H : (if t179 = true then (tidelinelaw09_MergeNewest.j0 k l0 l1 l2 true) else ((tidelinelaw09_clean.f k l0 l1).bind fun t180 => (if t180 = true then ((tidelinelaw09_clean.f k l1 l2).bind fun t181 => (if t181 = true then ((tidelinelaw09_clean.f k l0 l2).bind fun t182 => (tidelinelaw09_MergeNewest.j0 k l0 l1 l2 (!t182))) else (tidelinelaw09_MergeNewest.j0 k l0 l1 l2 true))) else (tidelinelaw09_MergeNewest.j0 k l0 l1 l2 true)))) = some r := H
    have A5 := Aside0.mk A50
    clear A50
    by_cases c6 : t179 = true
    · subst c6
      have H1 : (tidelinelaw09_MergeNewest.j0 k l0 l1 l2 true) = some r := by rw [if_pos rfl] at H; exact H
      clear H
      have H := H1
      clear H1
      have H' := Aside0.mk H
      clear H
      go_wp2_with (first | (go_at_call 12; (refine (tidelinelaw09_beyond3.callsL k _ _ l0 _ _ l1 _ _ l2 true _ ?side1 ?side2 ?side3 ?side4 ?side5 ?side6 A5.out).mono ?_); (case side1 => repeat (first | exact (Kd.C_below HR0.out HB.out) | (with_reducible refine Kd.C_alloc ?_ _) | (with_reducible refine Kd.C_drewN ?_ _) | (with_reducible refine Kd.C_drew ?_))); (case side2 => exact HC0.out); (case side3 => repeat (first | exact (Kd.C_below HR1.out HB.out) | (with_reducible refine Kd.C_alloc ?_ _) | (with_reducible refine Kd.C_drewN ?_ _) | (with_reducible refine Kd.C_drew ?_))); (case side4 => exact HC1.out); (case side5 => repeat (first | exact (Kd.C_below HR2.out HB.out) | (with_reducible refine Kd.C_alloc ?_ _) | (with_reducible refine Kd.C_drewN ?_ _) | (with_reducible refine Kd.C_drew ?_))); (case side6 => exact HC2.out); rintro e w7 ⟨rfl, hb⟩; have n0_ := Aside0.mk (below_step (by repeat (first | (with_reducible first | exact HB.out | apply below_alloc | apply pw_below_drewN | apply below_drew1) | exact HB.out)) hb); clear HB; have HB := n0_; clear n0_; (try clear hb); (try clear hb2); (try clear hk); (try clear hi)))
      go_meet
      case rel => exact ⟨_, (true), (by first | rfl | (simp; done) | (simp [*]; done) | (simp [*, Go.Proofs.Ytghlellambnkeaa.Str.bne_nil]; done)), H', ⟨by first | omega | exact Nat.le_refl _⟩, ⟨by repeat (first | (with_reducible first | exact HB.out | apply below_alloc | apply pw_below_drewN | apply below_drew1) | exact HB.out)⟩⟩
    · replace c6 := Bool.eq_false_iff.mpr c6
      subst c6
      have H1 : ((tidelinelaw09_clean.f k l0 l1).bind fun t180 => (if t180 = true then ((tidelinelaw09_clean.f k l1 l2).bind fun t181 => (if t181 = true then ((tidelinelaw09_clean.f k l0 l2).bind fun t182 => (tidelinelaw09_MergeNewest.j0 k l0 l1 l2 (!t182))) else (tidelinelaw09_MergeNewest.j0 k l0 l1 l2 true))) else (tidelinelaw09_MergeNewest.j0 k l0 l1 l2 true))) = some r := by rw [if_neg (show ¬ (false = true) by decide)] at H; exact H
      clear H
      have H := H1
      clear H1
      replace H := Option.bind_eq_some_iff.mp H
      obtain ⟨t180, A80, H⟩ := H
      replace H : (if t180 = true then ((tidelinelaw09_clean.f k l1 l2).bind fun t181 => (if t181 = true then ((tidelinelaw09_clean.f k l0 l2).bind fun t182 => (tidelinelaw09_MergeNewest.j0 k l0 l1 l2 (!t182))) else (tidelinelaw09_MergeNewest.j0 k l0 l1 l2 true))) else (tidelinelaw09_MergeNewest.j0 k l0 l1 l2 true)) = some r := H
      have A8 := Aside0.mk A80
      clear A80
      by_cases c9 : t180 = true
      · subst c9
        have H1 : ((tidelinelaw09_clean.f k l1 l2).bind fun t181 => (if t181 = true then ((tidelinelaw09_clean.f k l0 l2).bind fun t182 => (tidelinelaw09_MergeNewest.j0 k l0 l1 l2 (!t182))) else (tidelinelaw09_MergeNewest.j0 k l0 l1 l2 true))) = some r := by rw [if_pos rfl] at H; exact H
        clear H
        have H := H1
        clear H1
        replace H := Option.bind_eq_some_iff.mp H
        obtain ⟨t181, A100, H⟩ := H
        replace H : (if t181 = true then ((tidelinelaw09_clean.f k l0 l2).bind fun t182 => (tidelinelaw09_MergeNewest.j0 k l0 l1 l2 (!t182))) else (tidelinelaw09_MergeNewest.j0 k l0 l1 l2 true)) = some r := H
        have A10 := Aside0.mk A100
        clear A100
        by_cases c11 : t181 = true
        · subst c11
          have H1 : ((tidelinelaw09_clean.f k l0 l2).bind fun t182 => (tidelinelaw09_MergeNewest.j0 k l0 l1 l2 (!t182))) = some r := by rw [if_pos rfl] at H; exact H
          clear H
          have H := H1
          clear H1
          replace H := Option.bind_eq_some_iff.mp H
          obtain ⟨t182, A120, H⟩ := H
          replace H : (tidelinelaw09_MergeNewest.j0 k l0 l1 l2 (!t182)) = some r := H
          have A12 := Aside0.mk A120
          clear A120
          have H' := Aside0.mk H
          clear H
          go_wp2_with (first | (go_at_call 12; (refine (tidelinelaw09_beyond3.callsL k _ _ l0 _ _ l1 _ _ l2 false _ ?side1 ?side2 ?side3 ?side4 ?side5 ?side6 A5.out).mono ?_); (case side1 => repeat (first | exact (Kd.C_below HR0.out HB.out) | (with_reducible refine Kd.C_alloc ?_ _) | (with_reducible refine Kd.C_drewN ?_ _) | (with_reducible refine Kd.C_drew ?_))); (case side2 => exact HC0.out); (case side3 => repeat (first | exact (Kd.C_below HR1.out HB.out) | (with_reducible refine Kd.C_alloc ?_ _) | (with_reducible refine Kd.C_drewN ?_ _) | (with_reducible refine Kd.C_drew ?_))); (case side4 => exact HC1.out); (case side5 => repeat (first | exact (Kd.C_below HR2.out HB.out) | (with_reducible refine Kd.C_alloc ?_ _) | (with_reducible refine Kd.C_drewN ?_ _) | (with_reducible refine Kd.C_drew ?_))); (case side6 => exact HC2.out); rintro e w13 ⟨rfl, hb⟩; have n0_ := Aside0.mk (below_step (by repeat (first | (with_reducible first | exact HB.out | apply below_alloc | apply pw_below_drewN | apply below_drew1) | exact HB.out)) hb); clear HB; have HB := n0_; clear n0_; (try clear hb); (try clear hb2); (try clear hk); (try clear hi)) | (go_at_call 24; (with_reducible refine (tidelinelaw09_clean.calls k _ _ l0 _ _ l1 true _ ?side1 ?side2 ?side3 ?side4 A8.out).mono ?_); (case side1 => repeat (first | exact (Kd.C_below HR0.out HB.out) | (with_reducible refine Kd.C_alloc ?_ _) | (with_reducible refine Kd.C_drewN ?_ _) | (with_reducible refine Kd.C_drew ?_))); (case side2 => exact HC0.out); (case side3 => repeat (first | exact (Kd.C_below HR1.out HB.out) | (with_reducible refine Kd.C_alloc ?_ _) | (with_reducible refine Kd.C_drewN ?_ _) | (with_reducible refine Kd.C_drew ?_))); (case side4 => exact HC1.out); rintro e w14 ⟨rfl, hb⟩; have n0_ := Aside0.mk (below_step (by repeat (first | (with_reducible first | exact HB.out | apply below_alloc | apply pw_below_drewN | apply below_drew1) | exact HB.out)) hb); clear HB; have HB := n0_; clear n0_; (try clear hb); (try clear hb2); (try clear hk); (try clear hi)) | (go_at_call 24; (with_reducible refine (tidelinelaw09_clean.calls k _ _ l1 _ _ l2 true _ ?side1 ?side2 ?side3 ?side4 A10.out).mono ?_); (case side1 => repeat (first | exact (Kd.C_below HR1.out HB.out) | (with_reducible refine Kd.C_alloc ?_ _) | (with_reducible refine Kd.C_drewN ?_ _) | (with_reducible refine Kd.C_drew ?_))); (case side2 => exact HC1.out); (case side3 => repeat (first | exact (Kd.C_below HR2.out HB.out) | (with_reducible refine Kd.C_alloc ?_ _) | (with_reducible refine Kd.C_drewN ?_ _) | (with_reducible refine Kd.C_drew ?_))); (case side4 => exact HC2.out); rintro e w15 ⟨rfl, hb⟩; have n0_ := Aside0.mk (below_step (by repeat (first | (with_reducible first | exact HB.out | apply below_alloc | apply pw_below_drewN | apply below_drew1) | exact HB.out)) hb); clear HB; have HB := n0_; clear n0_; (try clear hb); (try clear hb2); (try clear hk); (try clear hi)) | (go_at_call 24; (with_reducible refine (tidelinelaw09_clean.calls k _ _ l0 _ _ l2 t182 _ ?side1 ?side2 ?side3 ?side4 A12.out).mono ?_); (case side1 => repeat (first | exact (Kd.C_below HR0.out HB.out) | (with_reducible refine Kd.C_alloc ?_ _) | (with_reducible refine Kd.C_drewN ?_ _) | (with_reducible refine Kd.C_drew ?_))); (case side2 => exact HC0.out); (case side3 => repeat (first | exact (Kd.C_below HR2.out HB.out) | (with_reducible refine Kd.C_alloc ?_ _) | (with_reducible refine Kd.C_drewN ?_ _) | (with_reducible refine Kd.C_drew ?_))); (case side4 => exact HC2.out); rintro e w16 ⟨rfl, hb⟩; have n0_ := Aside0.mk (below_step (by repeat (first | (with_reducible first | exact HB.out | apply below_alloc | apply pw_below_drewN | apply below_drew1) | exact HB.out)) hb); clear HB; have HB := n0_; clear n0_; (try clear hb); (try clear hb2); (try clear hk); (try clear hi)))
          go_meet
          case rel => exact ⟨_, (!t182), (by first | rfl | (simp; done) | (simp [*]; done) | (simp [*, Go.Proofs.Ytghlellambnkeaa.Str.bne_nil]; done)), H', ⟨by first | omega | exact Nat.le_refl _⟩, ⟨by repeat (first | (with_reducible first | exact HB.out | apply below_alloc | apply pw_below_drewN | apply below_drew1) | exact HB.out)⟩⟩
        · replace c11 := Bool.eq_false_iff.mpr c11
          subst c11
          have H1 : (tidelinelaw09_MergeNewest.j0 k l0 l1 l2 true) = some r := by rw [if_neg (show ¬ (false = true) by decide)] at H; exact H
          clear H
          have H := H1
          clear H1
          have H' := Aside0.mk H
          clear H
          go_wp2_with (first | (go_at_call 12; (refine (tidelinelaw09_beyond3.callsL k _ _ l0 _ _ l1 _ _ l2 false _ ?side1 ?side2 ?side3 ?side4 ?side5 ?side6 A5.out).mono ?_); (case side1 => repeat (first | exact (Kd.C_below HR0.out HB.out) | (with_reducible refine Kd.C_alloc ?_ _) | (with_reducible refine Kd.C_drewN ?_ _) | (with_reducible refine Kd.C_drew ?_))); (case side2 => exact HC0.out); (case side3 => repeat (first | exact (Kd.C_below HR1.out HB.out) | (with_reducible refine Kd.C_alloc ?_ _) | (with_reducible refine Kd.C_drewN ?_ _) | (with_reducible refine Kd.C_drew ?_))); (case side4 => exact HC1.out); (case side5 => repeat (first | exact (Kd.C_below HR2.out HB.out) | (with_reducible refine Kd.C_alloc ?_ _) | (with_reducible refine Kd.C_drewN ?_ _) | (with_reducible refine Kd.C_drew ?_))); (case side6 => exact HC2.out); rintro e w17 ⟨rfl, hb⟩; have n0_ := Aside0.mk (below_step (by repeat (first | (with_reducible first | exact HB.out | apply below_alloc | apply pw_below_drewN | apply below_drew1) | exact HB.out)) hb); clear HB; have HB := n0_; clear n0_; (try clear hb); (try clear hb2); (try clear hk); (try clear hi)) | (go_at_call 24; (with_reducible refine (tidelinelaw09_clean.calls k _ _ l0 _ _ l1 true _ ?side1 ?side2 ?side3 ?side4 A8.out).mono ?_); (case side1 => repeat (first | exact (Kd.C_below HR0.out HB.out) | (with_reducible refine Kd.C_alloc ?_ _) | (with_reducible refine Kd.C_drewN ?_ _) | (with_reducible refine Kd.C_drew ?_))); (case side2 => exact HC0.out); (case side3 => repeat (first | exact (Kd.C_below HR1.out HB.out) | (with_reducible refine Kd.C_alloc ?_ _) | (with_reducible refine Kd.C_drewN ?_ _) | (with_reducible refine Kd.C_drew ?_))); (case side4 => exact HC1.out); rintro e w18 ⟨rfl, hb⟩; have n0_ := Aside0.mk (below_step (by repeat (first | (with_reducible first | exact HB.out | apply below_alloc | apply pw_below_drewN | apply below_drew1) | exact HB.out)) hb); clear HB; have HB := n0_; clear n0_; (try clear hb); (try clear hb2); (try clear hk); (try clear hi)) | (go_at_call 24; (with_reducible refine (tidelinelaw09_clean.calls k _ _ l1 _ _ l2 false _ ?side1 ?side2 ?side3 ?side4 A10.out).mono ?_); (case side1 => repeat (first | exact (Kd.C_below HR1.out HB.out) | (with_reducible refine Kd.C_alloc ?_ _) | (with_reducible refine Kd.C_drewN ?_ _) | (with_reducible refine Kd.C_drew ?_))); (case side2 => exact HC1.out); (case side3 => repeat (first | exact (Kd.C_below HR2.out HB.out) | (with_reducible refine Kd.C_alloc ?_ _) | (with_reducible refine Kd.C_drewN ?_ _) | (with_reducible refine Kd.C_drew ?_))); (case side4 => exact HC2.out); rintro e w19 ⟨rfl, hb⟩; have n0_ := Aside0.mk (below_step (by repeat (first | (with_reducible first | exact HB.out | apply below_alloc | apply pw_below_drewN | apply below_drew1) | exact HB.out)) hb); clear HB; have HB := n0_; clear n0_; (try clear hb); (try clear hb2); (try clear hk); (try clear hi)))
          go_meet
          case rel => exact ⟨_, (true), (by first | rfl | (simp; done) | (simp [*]; done) | (simp [*, Go.Proofs.Ytghlellambnkeaa.Str.bne_nil]; done)), H', ⟨by first | omega | exact Nat.le_refl _⟩, ⟨by repeat (first | (with_reducible first | exact HB.out | apply below_alloc | apply pw_below_drewN | apply below_drew1) | exact HB.out)⟩⟩
      · replace c9 := Bool.eq_false_iff.mpr c9
        subst c9
        have H1 : (tidelinelaw09_MergeNewest.j0 k l0 l1 l2 true) = some r := by rw [if_neg (show ¬ (false = true) by decide)] at H; exact H
        clear H
        have H := H1
        clear H1
        have H' := Aside0.mk H
        clear H
        go_wp2_with (first | (go_at_call 12; (refine (tidelinelaw09_beyond3.callsL k _ _ l0 _ _ l1 _ _ l2 false _ ?side1 ?side2 ?side3 ?side4 ?side5 ?side6 A5.out).mono ?_); (case side1 => repeat (first | exact (Kd.C_below HR0.out HB.out) | (with_reducible refine Kd.C_alloc ?_ _) | (with_reducible refine Kd.C_drewN ?_ _) | (with_reducible refine Kd.C_drew ?_))); (case side2 => exact HC0.out); (case side3 => repeat (first | exact (Kd.C_below HR1.out HB.out) | (with_reducible refine Kd.C_alloc ?_ _) | (with_reducible refine Kd.C_drewN ?_ _) | (with_reducible refine Kd.C_drew ?_))); (case side4 => exact HC1.out); (case side5 => repeat (first | exact (Kd.C_below HR2.out HB.out) | (with_reducible refine Kd.C_alloc ?_ _) | (with_reducible refine Kd.C_drewN ?_ _) | (with_reducible refine Kd.C_drew ?_))); (case side6 => exact HC2.out); rintro e w20 ⟨rfl, hb⟩; have n0_ := Aside0.mk (below_step (by repeat (first | (with_reducible first | exact HB.out | apply below_alloc | apply pw_below_drewN | apply below_drew1) | exact HB.out)) hb); clear HB; have HB := n0_; clear n0_; (try clear hb); (try clear hb2); (try clear hk); (try clear hi)) | (go_at_call 24; (with_reducible refine (tidelinelaw09_clean.calls k _ _ l0 _ _ l1 false _ ?side1 ?side2 ?side3 ?side4 A8.out).mono ?_); (case side1 => repeat (first | exact (Kd.C_below HR0.out HB.out) | (with_reducible refine Kd.C_alloc ?_ _) | (with_reducible refine Kd.C_drewN ?_ _) | (with_reducible refine Kd.C_drew ?_))); (case side2 => exact HC0.out); (case side3 => repeat (first | exact (Kd.C_below HR1.out HB.out) | (with_reducible refine Kd.C_alloc ?_ _) | (with_reducible refine Kd.C_drewN ?_ _) | (with_reducible refine Kd.C_drew ?_))); (case side4 => exact HC1.out); rintro e w21 ⟨rfl, hb⟩; have n0_ := Aside0.mk (below_step (by repeat (first | (with_reducible first | exact HB.out | apply below_alloc | apply pw_below_drewN | apply below_drew1) | exact HB.out)) hb); clear HB; have HB := n0_; clear n0_; (try clear hb); (try clear hb2); (try clear hk); (try clear hi)))
        go_meet
        case rel => exact ⟨_, (true), (by first | rfl | (simp; done) | (simp [*]; done) | (simp [*, Go.Proofs.Ytghlellambnkeaa.Str.bne_nil]; done)), H', ⟨by first | omega | exact Nat.le_refl _⟩, ⟨by repeat (first | (with_reducible first | exact HB.out | apply below_alloc | apply pw_below_drewN | apply below_drew1) | exact HB.out)⟩⟩
  case rest =>
    clear HC4
    try clear c1
    try clear c2
    try clear p2
    try clear c6
    try clear c8
    try clear c9
    try clear c11
    obtain ⟨kq, x45_3, rfl, HA, HJ3, HB⟩ := hcut
    cases kq with
    | zero => exact absurd HA.out (by simp [tidelinelaw09_MergeNewest.j0])
    | succ kj3 =>
      have H := HA.out
      clear HA
      simp only [tidelinelaw09_MergeNewest.j0] at H
      by_cases c22 : x45_3 = true
      · subst c22
        have H1 : (some true) = some r := by rw [if_pos rfl] at H; exact H
        clear H
        have H := H1
        clear H1
        obtain rfl := Option.some.inj H
        go_wp2
        go_ret
        exact ⟨by first | rfl | (simp [errW_none, errW_some] <;> rfl) | (simp [*, errW_none, errW_some] <;> rfl), by repeat (first | (with_reducible first | exact HB.out | apply below_alloc | apply pw_below_drewN | apply below_drew1) | exact HB.out)⟩
      · replace c22 := Bool.eq_false_iff.mpr c22
        subst c22
        have H1 : ((merge_Max.f kj3 l0 l1).bind fun bt183 => ((merge_Max.f kj3 l1 l0).bind fun bt187 => ((merge_Max.f kj3 l1 l2).bind fun bt191 => ((merge_Max.f kj3 l0 l0).bind fun bt195 => (if bt183.2 = 0 then (if bt187.2 = 0 then (if bt191.2 = 0 then (if bt195.2 = 0 then ((tidelinelaw09_same.f kj3 bt183.1 bt187.1).bind fun t199 => (if t199 = true then ((tidelinelaw09_same.f kj3 bt195.1 l0).bind fun t200 => (tidelinelaw09_MergeNewest.j1 kj3 l0 l1 l2 bt183.1 bt191.1 (!t200))) else (tidelinelaw09_MergeNewest.j1 kj3 l0 l1 l2 bt183.1 bt191.1 true))) else (tidelinelaw09_MergeNewest.j1 kj3 l0 l1 l2 bt183.1 bt191.1 true)) else (tidelinelaw09_MergeNewest.j1 kj3 l0 l1 l2 bt183.1 bt191.1 true)) else (tidelinelaw09_MergeNewest.j1 kj3 l0 l1 l2 bt183.1 bt191.1 true)) else (tidelinelaw09_MergeNewest.j1 kj3 l0 l1 l2 bt183.1 bt191.1 true)))))) = some r := by rw [if_neg (show ¬ (false = true) by decide)] at H; exact H
        clear H
        have H := H1
        clear H1
        replace H := Option.bind_eq_some_iff.mp H
        obtain ⟨⟨t183, t184⟩, A230, H⟩ := H
        replace H : ((merge_Max.f kj3 l1 l0).bind fun bt187 => ((merge_Max.f kj3 l1 l2).bind fun bt191 => ((merge_Max.f kj3 l0 l0).bind fun bt195 => (if t184 = 0 then (if bt187.2 = 0 then (if bt191.2 = 0 then (if bt195.2 = 0 then ((tidelinelaw09_same.f kj3 t183 bt187.1).bind fun t199 => (if t199 = true then ((tidelinelaw09_same.f kj3 bt195.1 l0).bind fun t200 => (tidelinelaw09_MergeNewest.j1 kj3 l0 l1 l2 t183 bt191.1 (!t200))) else (tidelinelaw09_MergeNewest.j1 kj3 l0 l1 l2 t183 bt191.1 true))) else (tidelinelaw09_MergeNewest.j1 kj3 l0 l1 l2 t183 bt191.1 true)) else (tidelinelaw09_MergeNewest.j1 kj3 l0 l1 l2 t183 bt191.1 true)) else (tidelinelaw09_MergeNewest.j1 kj3 l0 l1 l2 t183 bt191.1 true)) else (tidelinelaw09_MergeNewest.j1 kj3 l0 l1 l2 t183 bt191.1 true))))) = some r := H
        have A23 := Aside0.mk A230
        clear A230
        replace H := Option.bind_eq_some_iff.mp H
        obtain ⟨⟨t187, t188⟩, A240, H⟩ := H
        replace H : ((merge_Max.f kj3 l1 l2).bind fun bt191 => ((merge_Max.f kj3 l0 l0).bind fun bt195 => (if t184 = 0 then (if t188 = 0 then (if bt191.2 = 0 then (if bt195.2 = 0 then ((tidelinelaw09_same.f kj3 t183 t187).bind fun t199 => (if t199 = true then ((tidelinelaw09_same.f kj3 bt195.1 l0).bind fun t200 => (tidelinelaw09_MergeNewest.j1 kj3 l0 l1 l2 t183 bt191.1 (!t200))) else (tidelinelaw09_MergeNewest.j1 kj3 l0 l1 l2 t183 bt191.1 true))) else (tidelinelaw09_MergeNewest.j1 kj3 l0 l1 l2 t183 bt191.1 true)) else (tidelinelaw09_MergeNewest.j1 kj3 l0 l1 l2 t183 bt191.1 true)) else (tidelinelaw09_MergeNewest.j1 kj3 l0 l1 l2 t183 bt191.1 true)) else (tidelinelaw09_MergeNewest.j1 kj3 l0 l1 l2 t183 bt191.1 true)))) = some r := H
        have A24 := Aside0.mk A240
        clear A240
        replace H := Option.bind_eq_some_iff.mp H
        obtain ⟨⟨t191, t192⟩, A250, H⟩ := H
        replace H : ((merge_Max.f kj3 l0 l0).bind fun bt195 => (if t184 = 0 then (if t188 = 0 then (if t192 = 0 then (if bt195.2 = 0 then ((tidelinelaw09_same.f kj3 t183 t187).bind fun t199 => (if t199 = true then ((tidelinelaw09_same.f kj3 bt195.1 l0).bind fun t200 => (tidelinelaw09_MergeNewest.j1 kj3 l0 l1 l2 t183 t191 (!t200))) else (tidelinelaw09_MergeNewest.j1 kj3 l0 l1 l2 t183 t191 true))) else (tidelinelaw09_MergeNewest.j1 kj3 l0 l1 l2 t183 t191 true)) else (tidelinelaw09_MergeNewest.j1 kj3 l0 l1 l2 t183 t191 true)) else (tidelinelaw09_MergeNewest.j1 kj3 l0 l1 l2 t183 t191 true)) else (tidelinelaw09_MergeNewest.j1 kj3 l0 l1 l2 t183 t191 true))) = some r := H
        have A25 := Aside0.mk A250
        clear A250
        replace H := Option.bind_eq_some_iff.mp H
        obtain ⟨⟨t195, t196⟩, A260, H⟩ := H
        replace H : (if t184 = 0 then (if t188 = 0 then (if t192 = 0 then (if t196 = 0 then ((tidelinelaw09_same.f kj3 t183 t187).bind fun t199 => (if t199 = true then ((tidelinelaw09_same.f kj3 t195 l0).bind fun t200 => (tidelinelaw09_MergeNewest.j1 kj3 l0 l1 l2 t183 t191 (!t200))) else (tidelinelaw09_MergeNewest.j1 kj3 l0 l1 l2 t183 t191 true))) else (tidelinelaw09_MergeNewest.j1 kj3 l0 l1 l2 t183 t191 true)) else (tidelinelaw09_MergeNewest.j1 kj3 l0 l1 l2 t183 t191 true)) else (tidelinelaw09_MergeNewest.j1 kj3 l0 l1 l2 t183 t191 true)) else (tidelinelaw09_MergeNewest.j1 kj3 l0 l1 l2 t183 t191 true)) = some r := H
        have A26 := Aside0.mk A260
        clear A260
        have HC27 := Aside0.mk H
        clear H
        go_upto_region 7 with (first | ((with_reducible refine gate_callee (f := 25) rfl ?_); refine goesL_ (some 49) rfl rfl Try.func25 (by kernel_rfl) rfl #[.slice A0 l0.length c0, .slice A1 l1.length c1] rfl (by (try simp only [List.map_toArray, List.map_cons, List.map_nil]); first | done | rfl | (simp only [List.length_drop, List.length_take]; rfl)) ?_; (with_reducible refine (merge_Max.calls kj3 _ _ l0 _ _ l1 t183 t184 _ ?side1 ?side2 ?side3 ?side4 A23.out).mono ?_); (case side1 => repeat (first | exact (Kd.C_below HR0.out HB.out) | (with_reducible refine Kd.C_alloc ?_ _) | (with_reducible refine Kd.C_drewN ?_ _) | (with_reducible refine Kd.C_drew ?_))); (case side2 => exact HC0.out); (case side3 => repeat (first | exact (Kd.C_below HR1.out HB.out) | (with_reducible refine Kd.C_alloc ?_ _) | (with_reducible refine Kd.C_drewN ?_ _) | (with_reducible refine Kd.C_drew ?_))); (case side4 => exact HC1.out); rintro e w28 ⟨v185, rfl, ho0, hb⟩; refine ⟨_, rfl, ?_⟩; have n0_ := Aside0.mk (Kd.R_lower ho0 (below_size (by repeat (first | (with_reducible first | exact HB.out | apply below_alloc | apply pw_below_drewN | apply below_drew1) | exact HB.out)))); have n1_ := Aside0.mk (below_step (by repeat (first | (with_reducible first | exact HB.out | apply below_alloc | apply pw_below_drewN | apply below_drew1) | exact HB.out)) hb); clear HB; have HO186 := n0_; have HB := n1_; clear n0_ n1_; (try clear hb); (try clear hb2); (try clear hk); (try clear hi); (try clear ho0)) | ((with_reducible refine gate_callee (f := 25) rfl ?_); refine goesL_ (some 55) rfl rfl Try.func25 (by kernel_rfl) rfl #[.slice A1 l1.length c1, .slice A0 l0.length c0] rfl (by (try simp only [List.map_toArray, List.map_cons, List.map_nil]); first | done | rfl | (simp only [List.length_drop, List.length_take]; rfl)) ?_; (with_reducible refine (merge_Max.calls kj3 _ _ l1 _ _ l0 t187 t188 _ ?side1 ?side2 ?side3 ?side4 A24.out).mono ?_); (case side1 => repeat (first | exact (Kd.C_below HR1.out HB.out) | (with_reducible refine Kd.C_alloc ?_ _) | (with_reducible refine Kd.C_drewN ?_ _) | (with_reducible refine Kd.C_drew ?_))); (case side2 => exact HC1.out); (case side3 => repeat (first | exact (Kd.C_below HR0.out HB.out) | (with_reducible refine Kd.C_alloc ?_ _) | (with_reducible refine Kd.C_drewN ?_ _) | (with_reducible refine Kd.C_drew ?_))); (case side4 => exact HC0.out); rintro e w29 ⟨v189, rfl, ho0, hb⟩; refine ⟨_, rfl, ?_⟩; have n0_ := Aside0.mk (Kd.R_elder' (by (with_reducible repeat (first | apply Kd.R_alloc | apply Kd.R_drewN | apply Kd.R_drew)); exact HO186.out) (Kd.R_base ho0) hb); have n1_ := Aside0.mk (Kd.R_lower (Kd.R_new' ho0 (Kd.R_lt (by (with_reducible repeat (first | apply Kd.R_alloc | apply Kd.R_drewN | apply Kd.R_drew)); exact HO186.out))) (below_size (by repeat (first | (with_reducible first | exact HB.out | apply below_alloc | apply pw_below_drewN | apply below_drew1) | exact HB.out)))); have n2_ := Aside0.mk (below_step (by repeat (first | (with_reducible first | exact HB.out | apply below_alloc | apply pw_below_drewN | apply below_drew1) | exact HB.out)) hb); clear HO186; clear HB; have HO186 := n0_; have HO190 := n1_; have HB := n2_; clear n0_ n1_ n2_; (try clear hb); (try clear hb2); (try clear hk); (try clear hi); (try clear ho0)) | ((with_reducible refine gate_callee (f := 25) rfl ?_); refine goesL_ (some 61) rfl rfl Try.func25 (by kernel_rfl) rfl #[.slice A1 l1.length c1, .slice A2 l2.length c2] rfl (by (try simp only [List.map_toArray, List.map_cons, List.map_nil]); first | done | rfl | (simp only [List.length_drop, List.length_take]; rfl)) ?_; (with_reducible refine (merge_Max.calls kj3 _ _ l1 _ _ l2 t191 t192 _ ?side1 ?side2 ?side3 ?side4 A25.out).mono ?_); (case side1 => repeat (first | exact (Kd.C_below HR1.out HB.out) | (with_reducible refine Kd.C_alloc ?_ _) | (with_reducible refine Kd.C_drewN ?_ _) | (with_reducible refine Kd.C_drew ?_))); (case side2 => exact HC1.out); (case side3 => repeat (first | exact (Kd.C_below HR2.out HB.out) | (with_reducible refine Kd.C_alloc ?_ _) | (with_reducible refine Kd.C_drewN ?_ _) | (with_reducible refine Kd.C_drew ?_))); (case side4 => exact HC2.out); rintro e w30 ⟨v193, rfl, ho0, hb⟩; refine ⟨_, rfl, ?_⟩; have n0_ := Aside0.mk (Kd.R_elder' (by (with_reducible repeat (first | apply Kd.R_alloc | apply Kd.R_drewN | apply Kd.R_drew)); exact HO186.out) (Kd.R_base ho0) hb); have n1_ := Aside0.mk (Kd.R_elder' (by (with_reducible repeat (first | apply Kd.R_alloc | apply Kd.R_drewN | apply Kd.R_drew)); exact HO190.out) (Kd.R_base ho0) hb); have n2_ := Aside0.mk (Kd.R_lower (Kd.R_new' (Kd.R_new' ho0 (Kd.R_lt (by (with_reducible repeat (first | apply Kd.R_alloc | apply Kd.R_drewN | apply Kd.R_drew)); exact HO186.out))) (Kd.R_lt (by (with_reducible repeat (first | apply Kd.R_alloc | apply Kd.R_drewN | apply Kd.R_drew)); exact HO190.out))) (below_size (by repeat (first | (with_reducible first | exact HB.out | apply below_alloc | apply pw_below_drewN | apply below_drew1) | exact HB.out)))); have n3_ := Aside0.mk (below_step (by repeat (first | (with_reducible first | exact HB.out | apply below_alloc | apply pw_below_drewN | apply below_drew1) | exact HB.out)) hb); clear HO186; clear HO190; clear HB; have HO186 := n0_; have HO190 := n1_; have HO194 := n2_; have HB := n3_; clear n0_ n1_ n2_ n3_; (try clear hb); (try clear hb2); (try clear hk); (try clear hi); (try clear ho0)) | ((with_reducible refine gate_callee (f := 25) rfl ?_); refine goesL_ (some 67) rfl rfl Try.func25 (by kernel_rfl) rfl #[.slice A0 l0.length c0, .slice A0 l0.length c0] rfl (by (try simp only [List.map_toArray, List.map_cons, List.map_nil]); first | done | rfl | (simp only [List.length_drop, List.length_take]; rfl)) ?_; (with_reducible refine (merge_Max.calls kj3 _ _ l0 _ _ l0 t195 t196 _ ?side1 ?side2 ?side3 ?side4 A26.out).mono ?_); (case side1 => repeat (first | exact (Kd.C_below HR0.out HB.out) | (with_reducible refine Kd.C_alloc ?_ _) | (with_reducible refine Kd.C_drewN ?_ _) | (with_reducible refine Kd.C_drew ?_))); (case side2 => exact HC0.out); (case side3 => repeat (first | exact (Kd.C_below HR0.out HB.out) | (with_reducible refine Kd.C_alloc ?_ _) | (with_reducible refine Kd.C_drewN ?_ _) | (with_reducible refine Kd.C_drew ?_))); (case side4 => exact HC0.out); rintro e w31 ⟨v197, rfl, ho0, hb⟩; refine ⟨_, rfl, ?_⟩; have n0_ := Aside0.mk (Kd.R_elder' (by (with_reducible repeat (first | apply Kd.R_alloc | apply Kd.R_drewN | apply Kd.R_drew)); exact HO186.out) (Kd.R_base ho0) hb); have n1_ := Aside0.mk (Kd.R_elder' (by (with_reducible repeat (first | apply Kd.R_alloc | apply Kd.R_drewN | apply Kd.R_drew)); exact HO190.out) (Kd.R_base ho0) hb); have n2_ := Aside0.mk (Kd.R_elder' (by (with_reducible repeat (first | apply Kd.R_alloc | apply Kd.R_drewN | apply Kd.R_drew)); exact HO194.out) (Kd.R_base ho0) hb); have n3_ := Aside0.mk (Kd.R_lower (Kd.R_new' (Kd.R_new' (Kd.R_new' ho0 (Kd.R_lt (by (with_reducible repeat (first | apply Kd.R_alloc | apply Kd.R_drewN | apply Kd.R_drew)); exact HO186.out))) (Kd.R_lt (by (with_reducible repeat (first | apply Kd.R_alloc | apply Kd.R_drewN | apply Kd.R_drew)); exact HO190.out))) (Kd.R_lt (by (with_reducible repeat (first | apply Kd.R_alloc | apply Kd.R_drewN | apply Kd.R_drew)); exact HO194.out))) (below_size (by repeat (first | (with_reducible first | exact HB.out | apply below_alloc | apply pw_below_drewN | apply below_drew1) | exact HB.out)))); have n4_ := Aside0.mk (below_step (by repeat (first | (with_reducible first | exact HB.out | apply below_alloc | apply pw_below_drewN | apply below_drew1) | exact HB.out)) hb); clear HO186; clear HO190; clear HO194; clear HB; have HO186 := n0_; have HO190 := n1_; have HO194 := n2_; have HO198 := n3_; have HB := n4_; clear n0_ n1_ n2_ n3_ n4_; (try clear hb); (try clear hb2); (try clear hk); (try clear hi); (try clear ho0)))
        (try simp only [Act.put, List.setIfInBounds_toArray, List.set_cons_zero, List.set_cons_succ])
        go_cut [95] (fun v95 wc => ∃ (kq : Nat) (x95_26 : Bool), v95 = .bool x95_26 ∧ Aside0 (tidelinelaw09_MergeNewest.j1 kq l0 l1 l2 t183 t191 x95_26 = some r) ∧ Aside0 (kq ≤ kj3) ∧ Aside0 (Kd.R k44 44 wc w.heap.size (fun k_ => some k_ ≠ (v193 : Value).ownBlock) v185 t183) ∧ Aside0 (Kd.R k44 44 wc w.heap.size (fun k_ => some k_ ≠ (v185 : Value).ownBlock) v193 t191) ∧ Aside0 (Below w.heap.size w wc))
        case first =>
          have H := HC27.out
          clear HC27
          by_cases c32 : t184 = 0
          · rw [if_pos c32] at H
            have c32b0 : (t184 == 0) = true := beq_iff_eq.mpr c32
            have c32b1 : (t184 != 0) = false := bne_eq_false_iff_eq.mpr c32
            clear c32
            (first | rw [c32b0] | (simp only [i64_w, i32_w]; rw [c32b0]) | skip)
            by_cases c33 : t188 = 0
            · rw [if_pos c33] at H
              have c33b0 : (t188 == 0) = true := beq_iff_eq.mpr c33
              have c33b1 : (t188 != 0) = false := bne_eq_false_iff_eq.mpr c33
              clear c33
              by_cases c34 : t192 = 0
              · rw [if_pos c34] at H
                have c34b0 : (t192 == 0) = true := beq_iff_eq.mpr c34
                have c34b1 : (t192 != 0) = false := bne_eq_false_iff_eq.mpr c34
                clear c34
                by_cases c35 : t196 = 0
                · rw [if_pos c35] at H
                  have c35b0 : (t196 == 0) = true := beq_iff_eq.mpr c35
                  have c35b1 : (t196 != 0) = false := bne_eq_false_iff_eq.mpr c35
                  clear c35
                  replace H := Option.bind_eq_some_iff.mp H
                  obtain ⟨t199, A360, H⟩ := H
                  replace H : (if t199 = true then ((tidelinelaw09_same.f kj3 t195 l0).bind fun t200 => (tidelinelaw09_MergeNewest.j1 kj3 l0 l1 l2 t183 t191 (!t200))) else (tidelinelaw09_MergeNewest.j1 kj3 l0 l1 l2 t183 t191 true)) = some r := H
                  have A36 := Aside0.mk A360
                  clear A360
                  by_cases c37 : t199 = true
                  · subst c37
                    have H1 : ((tidelinelaw09_same.f kj3 t195 l0).bind fun t200 => (tidelinelaw09_MergeNewest.j1 kj3 l0 l1 l2 t183 t191 (!t200))) = some r := by rw [if_pos rfl] at H; exact H
                    clear H
                    have H := H1
                    clear H1
                    replace H := Option.bind_eq_some_iff.mp H
                    obtain ⟨t200, A380, H⟩ := H
                    replace H : (tidelinelaw09_MergeNewest.j1 kj3 l0 l1 l2 t183 t191 (!t200)) = some r := H
                    have A38 := Aside0.mk A380
                    clear A380
                    have H' := Aside0.mk H
                    clear H
                    obtain ⟨Ao39, co39, eo39⟩ := Kd.R_slice HO186.out
                    subst eo39
                    obtain ⟨Ao40, co40, eo40⟩ := Kd.R_slice HO190.out
                    subst eo40
                    go_wp2_with (first | (go_at_call 20; (with_reducible refine (tidelinelaw09_same.calls kj3 _ _ t183 _ _ t187 true _ ?side1 ?side2 ?side3 ?side4 A36.out).mono ?_); (case side1 => repeat (first | exact (Kd.R_reads' HO186.out).2.2 | (with_reducible refine Kd.C_alloc ?_ _) | (with_reducible refine Kd.C_drewN ?_ _) | (with_reducible refine Kd.C_drew ?_))); (case side2 => exact (Kd.R_reads' HO186.out).2.1); (case side3 => repeat (first | exact (Kd.R_reads' HO190.out).2.2 | (with_reducible refine Kd.C_alloc ?_ _) | (with_reducible refine Kd.C_drewN ?_ _) | (with_reducible refine Kd.C_drew ?_))); (case side4 => exact (Kd.R_reads' HO190.out).2.1); rintro e w' ⟨rfl, ⟨nd, rfl⟩⟩; obtain ⟨Ao41, co41, eo41⟩ := Kd.R_slice HO198.out; subst eo41) | (go_at_call 20; (with_reducible refine (tidelinelaw09_same.calls kj3 _ _ t195 _ _ l0 t200 _ ?side1 ?side2 ?side3 ?side4 A38.out).mono ?_); (case side1 => repeat (first | exact (Kd.R_reads' HO198.out).2.2 | (with_reducible refine Kd.C_alloc ?_ _) | (with_reducible refine Kd.C_drewN ?_ _) | (with_reducible refine Kd.C_drew ?_))); (case side2 => exact (Kd.R_reads' HO198.out).2.1); (case side3 => repeat (first | exact (Kd.C_below HR0.out (by repeat (first | (with_reducible first | exact HB.out | apply below_alloc | apply pw_below_drewN | apply below_drew1) | exact HB.out))) | (with_reducible refine Kd.C_alloc ?_ _) | (with_reducible refine Kd.C_drewN ?_ _) | (with_reducible refine Kd.C_drew ?_))); (case side4 => exact HC0.out); rintro e w' ⟨rfl, ⟨nd, rfl⟩⟩))
                    go_meet
                    case rel => exact ⟨_, (!t200), (by first | rfl | (simp; done) | (simp [*]; done) | (simp [*, Go.Proofs.Ytghlellambnkeaa.Str.bne_nil]; done)), H', ⟨by have := HJ3.out; first | omega | exact Nat.le_refl _⟩, ⟨by (with_reducible repeat (first | apply Kd.R_alloc | apply Kd.R_drewN | apply Kd.R_drew)); exact Kd.R_mono HO186.out (fun _ hk => hk.1.2)⟩, ⟨by (with_reducible repeat (first | apply Kd.R_alloc | apply Kd.R_drewN | apply Kd.R_drew)); exact Kd.R_mono HO194.out (fun _ hk => hk.1.1.2)⟩, ⟨by repeat (first | (with_reducible first | exact HB.out | apply below_alloc | apply pw_below_drewN | apply below_drew1) | exact HB.out)⟩⟩
                  · replace c37 := Bool.eq_false_iff.mpr c37
                    subst c37
                    have H1 : (tidelinelaw09_MergeNewest.j1 kj3 l0 l1 l2 t183 t191 true) = some r := by rw [if_neg (show ¬ (false = true) by decide)] at H; exact H
                    clear H
                    have H := H1
                    clear H1
                    have H' := Aside0.mk H
                    clear H
                    obtain ⟨Ao42, co42, eo42⟩ := Kd.R_slice HO186.out
                    subst eo42
                    obtain ⟨Ao43, co43, eo43⟩ := Kd.R_slice HO190.out
                    subst eo43
                    go_wp2_with (first | (go_at_call 20; (with_reducible refine (tidelinelaw09_same.calls kj3 _ _ t183 _ _ t187 false _ ?side1 ?side2 ?side3 ?side4 A36.out).mono ?_); (case side1 => repeat (first | exact (Kd.R_reads' HO186.out).2.2 | (with_reducible refine Kd.C_alloc ?_ _) | (with_reducible refine Kd.C_drewN ?_ _) | (with_reducible refine Kd.C_drew ?_))); (case side2 => exact (Kd.R_reads' HO186.out).2.1); (case side3 => repeat (first | exact (Kd.R_reads' HO190.out).2.2 | (with_reducible refine Kd.C_alloc ?_ _) | (with_reducible refine Kd.C_drewN ?_ _) | (with_reducible refine Kd.C_drew ?_))); (case side4 => exact (Kd.R_reads' HO190.out).2.1); rintro e w' ⟨rfl, ⟨nd, rfl⟩⟩))
                    go_meet
                    case rel => exact ⟨_, (true), (by first | rfl | (simp; done) | (simp [*]; done) | (simp [*, Go.Proofs.Ytghlellambnkeaa.Str.bne_nil]; done)), H', ⟨by have := HJ3.out; first | omega | exact Nat.le_refl _⟩, ⟨by (with_reducible repeat (first | apply Kd.R_alloc | apply Kd.R_drewN | apply Kd.R_drew)); exact Kd.R_mono HO186.out (fun _ hk => hk.1.2)⟩, ⟨by (with_reducible repeat (first | apply Kd.R_alloc | apply Kd.R_drewN | apply Kd.R_drew)); exact Kd.R_mono HO194.out (fun _ hk => hk.1.1.2)⟩, ⟨by repeat (first | (with_reducible first | exact HB.out | apply below_alloc | apply pw_below_drewN | apply below_drew1) | exact HB.out)⟩⟩
                · rw [if_neg c35] at H
                  have c35b0 : (t196 == 0) = false := beq_eq_false_iff_ne.mpr c35
                  have c35b1 : (t196 != 0) = true := bne_iff_ne.mpr c35
                  have H' := Aside0.mk H
                  clear H
                  go_wp2
                  go_meet
                  case rel => exact ⟨_, (true), (by first | rfl | (simp; done) | (simp [*]; done) | (simp [*, Go.Proofs.Ytghlellambnkeaa.Str.bne_nil]; done)), H', ⟨by have := HJ3.out; first | omega | exact Nat.le_refl _⟩, ⟨by (with_reducible repeat (first | apply Kd.R_alloc | apply Kd.R_drewN | apply Kd.R_drew)); exact Kd.R_mono HO186.out (fun _ hk => hk.1.2)⟩, ⟨by (with_reducible repeat (first | apply Kd.R_alloc | apply Kd.R_drewN | apply Kd.R_drew)); exact Kd.R_mono HO194.out (fun _ hk => hk.1.1.2)⟩, ⟨by repeat (first | (with_reducible first | exact HB.out | apply below_alloc | apply pw_below_drewN | apply below_drew1) | exact HB.out)⟩⟩
              · rw [if_neg c34] at H
                have c34b0 : (t192 == 0) = false := beq_eq_false_iff_ne.mpr c34
                have c34b1 : (t192 != 0) = true := bne_iff_ne.mpr c34
                have H' := Aside0.mk H
                clear H
                go_wp2
                go_meet
                case rel => exact ⟨_, (true), (by first | rfl | (simp; done) | (simp [*]; done) | (simp [*, Go.Proofs.Ytghlellambnkeaa.Str.bne_nil]; done)), H', ⟨by have := HJ3.out; first | omega | exact Nat.le_refl _⟩, ⟨by (with_reducible repeat (first | apply Kd.R_alloc | apply Kd.R_drewN | apply Kd.R_drew)); exact Kd.R_mono HO186.out (fun _ hk => hk.1.2)⟩, ⟨by (with_reducible repeat (first | apply Kd.R_alloc | apply Kd.R_drewN | apply Kd.R_drew)); exact Kd.R_mono HO194.out (fun _ hk => hk.1.1.2)⟩, ⟨by repeat (first | (with_reducible first | exact HB.out | apply below_alloc | apply pw_below_drewN | apply below_drew1) | exact HB.out)⟩⟩
            · rw [if_neg c33] at H
              have c33b0 : (t188 == 0) = false := beq_eq_false_iff_ne.mpr c33
              have c33b1 : (t188 != 0) = true := bne_iff_ne.mpr c33
              have H' := Aside0.mk H
              clear H
              go_wp2
              go_meet
              case rel => exact ⟨_, (true), (by first | rfl | (simp; done) | (simp [*]; done) | (simp [*, Go.Proofs.Ytghlellambnkeaa.Str.bne_nil]; done)), H', ⟨by have := HJ3.out; first | omega | exact Nat.le_refl _⟩, ⟨by (with_reducible repeat (first | apply Kd.R_alloc | apply Kd.R_drewN | apply Kd.R_drew)); exact Kd.R_mono HO186.out (fun _ hk => hk.1.2)⟩, ⟨by (with_reducible repeat (first | apply Kd.R_alloc | apply Kd.R_drewN | apply Kd.R_drew)); exact Kd.R_mono HO194.out (fun _ hk => hk.1.1.2)⟩, ⟨by repeat (first | (with_reducible first | exact HB.out | apply below_alloc | apply pw_below_drewN | apply below_drew1) | exact HB.out)⟩⟩
          · rw [if_neg c32] at H
            have c32b0 : (t184 == 0) = false := beq_eq_false_iff_ne.mpr c32
            have c32b1 : (t184 != 0) = true := bne_iff_ne.mpr c32
            (first | rw [c32b0] | (simp only [i64_w, i32_w]; rw [c32b0]) | skip)
            have H' := Aside0.mk H
            clear H
            go_wp2
            go_meet
            case rel => exact ⟨_, (true), (by first | rfl | (simp; done) | (simp [*]; done) | (simp [*, Go.Proofs.Ytghlellambnkeaa.Str.bne_nil]; done)), H', ⟨by have := HJ3.out; first | omega | exact Nat.le_refl _⟩, ⟨by (with_reducible repeat (first | apply Kd.R_alloc | apply Kd.R_drewN | apply Kd.R_drew)); exact Kd.R_mono HO186.out (fun _ hk => hk.1.2)⟩, ⟨by (with_reducible repeat (first | apply Kd.R_alloc | apply Kd.R_drewN | apply Kd.R_drew)); exact Kd.R_mono HO194.out (fun _ hk => hk.1.1.2)⟩, ⟨by repeat (first | (with_reducible first | exact HB.out | apply below_alloc | apply pw_below_drewN | apply below_drew1) | exact HB.out)⟩⟩
        case rest =>
          clear HC27
          try clear c1
          try clear c2
          try clear p2
          try clear c3
          try clear c6
          try clear c8
          try clear c9
          try clear c11
          try clear c22
          try clear c25
          try clear c32
          try clear c32b0
          try clear c32b1
          try clear c33
          try clear c33b0
          try clear c33b1
          try clear c34
          try clear c34b0
          try clear c34b1
          try clear c35
          try clear c35b0
          try clear c35b1
          try clear c37
          try clear p2
          obtain ⟨kq, x95_26, rfl, HA, HJ26, HO_7, HO_11, HB⟩ := hcut
          cases kq with
          | zero => exact absurd HA.out (by simp [tidelinelaw09_MergeNewest.j1])
          | succ kj26 =>
            have H := HA.out
            clear HA
            simp only [tidelinelaw09_MergeNewest.j1] at H
            by_cases c44 : x95_26 = true
            · subst c44
              have H1 : (none) = some r := by rw [if_pos rfl] at H; exact H
              clear H
              have H := H1
              clear H1
              exact absurd H (by simp)
            · replace c44 := Bool.eq_false_iff.mpr c44
              subst c44
              have H1 : ((merge_Max.f kj26 t183 l2).bind fun bt201 => ((merge_Max.f kj26 l0 t191).bind fun bt205 => (if bt201.2 = 0 then (if bt205.2 = 0 then ((tidelinelaw09_same.f kj26 bt201.1 bt205.1).bind fun t209 => (tidelinelaw09_MergeNewest.j2 kj26 l0 l1 t183 (!t209))) else (tidelinelaw09_MergeNewest.j2 kj26 l0 l1 t183 true)) else (tidelinelaw09_MergeNewest.j2 kj26 l0 l1 t183 true)))) = some r := by rw [if_neg (show ¬ (false = true) by decide)] at H; exact H
              clear H
              have H := H1
              clear H1
              replace H := Option.bind_eq_some_iff.mp H
              obtain ⟨⟨t201, t202⟩, A450, H⟩ := H
              replace H : ((merge_Max.f kj26 l0 t191).bind fun bt205 => (if t202 = 0 then (if bt205.2 = 0 then ((tidelinelaw09_same.f kj26 t201 bt205.1).bind fun t209 => (tidelinelaw09_MergeNewest.j2 kj26 l0 l1 t183 (!t209))) else (tidelinelaw09_MergeNewest.j2 kj26 l0 l1 t183 true)) else (tidelinelaw09_MergeNewest.j2 kj26 l0 l1 t183 true))) = some r := H
              have A45 := Aside0.mk A450
              clear A450
              replace H := Option.bind_eq_some_iff.mp H
              obtain ⟨⟨t205, t206⟩, A460, H⟩ := H
              replace H : (if t202 = 0 then (if t206 = 0 then ((tidelinelaw09_same.f kj26 t201 t205).bind fun t209 => (tidelinelaw09_MergeNewest.j2 kj26 l0 l1 t183 (!t209))) else (tidelinelaw09_MergeNewest.j2 kj26 l0 l1 t183 true)) else (tidelinelaw09_MergeNewest.j2 kj26 l0 l1 t183 true)) = some r := H
              have A46 := Aside0.mk A460
              clear A460
              have HC47 := Aside0.mk H
              clear H
              obtain ⟨Ao48, co48, eo48⟩ := Kd.R_slice HO_7.out
              subst eo48
              go_upto_region 11 with (first | ((with_reducible refine gate_callee (f := 25) rfl ?_); refine goesL_ (some 99) rfl rfl Try.func25 (by kernel_rfl) rfl #[.slice Ao48 t183.length co48, .slice A2 l2.length c2] rfl (by (try simp only [List.map_toArray, List.map_cons, List.map_nil]); first | done | rfl | (simp only [List.length_drop, List.length_take]; rfl)) ?_; (with_reducible refine (merge_Max.calls kj26 _ _ t183 _ _ l2 t201 t202 _ ?side1 ?side2 ?side3 ?side4 A45.out).mono ?_); (case side1 => repeat (first | exact (Kd.R_reads' HO_7.out).2.2 | (with_reducible refine Kd.C_alloc ?_ _) | (with_reducible refine Kd.C_drewN ?_ _) | (with_reducible refine Kd.C_drew ?_))); (case side2 => exact (Kd.R_reads' HO_7.out).2.1); (case side3 => repeat (first | exact (Kd.C_below HR2.out HB.out) | (with_reducible refine Kd.C_alloc ?_ _) | (with_reducible refine Kd.C_drewN ?_ _) | (with_reducible refine Kd.C_drew ?_))); (case side4 => exact HC2.out); rintro e w49 ⟨v203, rfl, ho0, hb⟩; refine ⟨_, rfl, ?_⟩; have n0_ := Aside0.mk (Kd.R_elder' (by (with_reducible repeat (first | apply Kd.R_alloc | apply Kd.R_drewN | apply Kd.R_drew)); exact HO_7.out) (Kd.R_base ho0) hb); have n1_ := Aside0.mk (Kd.R_elder' (by (with_reducible repeat (first | apply Kd.R_alloc | apply Kd.R_drewN | apply Kd.R_drew)); exact HO_11.out) (Kd.R_base ho0) hb); have n2_ := Aside0.mk (Kd.R_lower (Kd.R_new' (Kd.R_new' ho0 (Kd.R_lt (by (with_reducible repeat (first | apply Kd.R_alloc | apply Kd.R_drewN | apply Kd.R_drew)); exact HO_7.out))) (Kd.R_lt (by (with_reducible repeat (first | apply Kd.R_alloc | apply Kd.R_drewN | apply Kd.R_drew)); exact HO_11.out))) (below_size (by repeat (first | (with_reducible first | exact HB.out | apply below_alloc | apply pw_below_drewN | apply below_drew1) | exact HB.out)))); have n3_ := Aside0.mk (below_step (by repeat (first | (with_reducible first | exact HB.out | apply below_alloc | apply pw_below_drewN | apply below_drew1) | exact HB.out)) hb); clear HO_7; clear HO_11; clear HB; have HO_7 := n0_; have HO_11 := n1_; have HO204 := n2_; have HB := n3_; clear n0_ n1_ n2_ n3_; (try clear hb); (try clear hb2); (try clear hk); (try clear hi); (try clear ho0); obtain ⟨Ao50, co50, eo50⟩ := Kd.R_slice HO_11.out; subst eo50) | ((with_reducible refine gate_callee (f := 25) rfl ?_); refine goesL_ (some 105) rfl rfl Try.func25 (by kernel_rfl) rfl #[.slice A0 l0.length c0, .slice Ao50 t191.length co50] rfl (by (try simp only [List.map_toArray, List.map_cons, List.map_nil]); first | done | rfl | (simp only [List.length_drop, List.length_take]; rfl)) ?_; (with_reducible refine (merge_Max.calls kj26 _ _ l0 _ _ t191 t205 t206 _ ?side1 ?side2 ?side3 ?side4 A46.out).mono ?_); (case side1 => repeat (first | exact (Kd.C_below HR0.out HB.out) | (with_reducible refine Kd.C_alloc ?_ _) | (with_reducible refine Kd.C_drewN ?_ _) | (with_reducible refine Kd.C_drew ?_))); (case side2 => exact HC0.out); (case side3 => repeat (first | exact (Kd.R_reads' HO_11.out).2.2 | (with_reducible refine Kd.C_alloc ?_ _) | (with_reducible refine Kd.C_drewN ?_ _) | (with_reducible refine Kd.C_drew ?_))); (case side4 => exact (Kd.R_reads' HO_11.out).2.1); rintro e w51 ⟨v207, rfl, ho0, hb⟩; refine ⟨_, rfl, ?_⟩; have n0_ := Aside0.mk (Kd.R_elder' (by (with_reducible repeat (first | apply Kd.R_alloc | apply Kd.R_drewN | apply Kd.R_drew)); exact HO_7.out) (Kd.R_base ho0) hb); have n1_ := Aside0.mk (Kd.R_elder' (by (with_reducible repeat (first | apply Kd.R_alloc | apply Kd.R_drewN | apply Kd.R_drew)); exact HO_11.out) (Kd.R_base ho0) hb); have n2_ := Aside0.mk (Kd.R_elder' (by (with_reducible repeat (first | apply Kd.R_alloc | apply Kd.R_drewN | apply Kd.R_drew)); exact HO204.out) (Kd.R_base ho0) hb); have n3_ := Aside0.mk (Kd.R_lower (Kd.R_new' (Kd.R_new' (Kd.R_new' ho0 (Kd.R_lt (by (with_reducible repeat (first | apply Kd.R_alloc | apply Kd.R_drewN | apply Kd.R_drew)); exact HO_7.out))) (Kd.R_lt (by (with_reducible repeat (first | apply Kd.R_alloc | apply Kd.R_drewN | apply Kd.R_drew)); exact HO_11.out))) (Kd.R_lt (by (with_reducible repeat (first | apply Kd.R_alloc | apply Kd.R_drewN | apply Kd.R_drew)); exact HO204.out))) (below_size (by repeat (first | (with_reducible first | exact HB.out | apply below_alloc | apply pw_below_drewN | apply below_drew1) | exact HB.out)))); have n4_ := Aside0.mk (below_step (by repeat (first | (with_reducible first | exact HB.out | apply below_alloc | apply pw_below_drewN | apply below_drew1) | exact HB.out)) hb); clear HO_7; clear HO_11; clear HO204; clear HB; have HO_7 := n0_; have HO_11 := n1_; have HO204 := n2_; have HO208 := n3_; have HB := n4_; clear n0_ n1_ n2_ n3_ n4_; (try clear hb); (try clear hb2); (try clear hk); (try clear hi); (try clear ho0)))
              (try simp only [Act.put, List.setIfInBounds_toArray, List.set_cons_zero, List.set_cons_succ])
              go_cut [119] (fun v119 wc => ∃ (kq : Nat) (x119_46 : Bool), v119 = .bool x119_46 ∧ Aside0 (tidelinelaw09_MergeNewest.j2 kq l0 l1 t183 x119_46 = some r) ∧ Aside0 (kq ≤ kj26) ∧ Aside0 (Kd.R k44 44 wc w.heap.size (fun _ => True) (.slice Ao48 t183.length co48) t183) ∧ Aside0 (Below w.heap.size w wc))
              case first =>
                have H := HC47.out
                clear HC47
                by_cases c52 : t202 = 0
                · rw [if_pos c52] at H
                  have c52b0 : (t202 == 0) = true := beq_iff_eq.mpr c52
                  have c52b1 : (t202 != 0) = false := bne_eq_false_iff_eq.mpr c52
                  clear c52
                  (first | rw [c52b0] | (simp only [i64_w, i32_w]; rw [c52b0]) | skip)
                  by_cases c53 : t206 = 0
                  · rw [if_pos c53] at H
                    have c53b0 : (t206 == 0) = true := beq_iff_eq.mpr c53
                    have c53b1 : (t206 != 0) = false := bne_eq_false_iff_eq.mpr c53
                    clear c53
                    replace H := Option.bind_eq_some_iff.mp H
                    obtain ⟨t209, A540, H⟩ := H
                    replace H : (tidelinelaw09_MergeNewest.j2 kj26 l0 l1 t183 (!t209)) = some r := H
                    have A54 := Aside0.mk A540
                    clear A540
                    have H' := Aside0.mk H
                    clear H
                    obtain ⟨Ao55, co55, eo55⟩ := Kd.R_slice HO204.out
                    subst eo55
                    obtain ⟨Ao56, co56, eo56⟩ := Kd.R_slice HO208.out
                    subst eo56
                    go_wp2_with (first | (go_at_call 20; (with_reducible refine (tidelinelaw09_same.calls kj26 _ _ t201 _ _ t205 t209 _ ?side1 ?side2 ?side3 ?side4 A54.out).mono ?_); (case side1 => repeat (first | exact (Kd.R_reads' HO204.out).2.2 | (with_reducible refine Kd.C_alloc ?_ _) | (with_reducible refine Kd.C_drewN ?_ _) | (with_reducible refine Kd.C_drew ?_))); (case side2 => exact (Kd.R_reads' HO204.out).2.1); (case side3 => repeat (first | exact (Kd.R_reads' HO208.out).2.2 | (with_reducible refine Kd.C_alloc ?_ _) | (with_reducible refine Kd.C_drewN ?_ _) | (with_reducible refine Kd.C_drew ?_))); (case side4 => exact (Kd.R_reads' HO208.out).2.1); rintro e w' ⟨rfl, ⟨nd, rfl⟩⟩))
                    go_meet
                    case rel => exact ⟨_, (!t209), (by first | rfl | (simp; done) | (simp [*]; done) | (simp [*, Go.Proofs.Ytghlellambnkeaa.Str.bne_nil]; done)), H', ⟨by have := HJ3.out; have := HJ26.out; first | omega | exact Nat.le_refl _⟩, ⟨by (with_reducible repeat (first | apply Kd.R_alloc | apply Kd.R_drewN | apply Kd.R_drew)); exact Kd.R_mono HO_7.out (fun _ hk => trivial)⟩, ⟨by repeat (first | (with_reducible first | exact HB.out | apply below_alloc | apply pw_below_drewN | apply below_drew1) | exact HB.out)⟩⟩
                  · rw [if_neg c53] at H
                    have c53b0 : (t206 == 0) = false := beq_eq_false_iff_ne.mpr c53
                    have c53b1 : (t206 != 0) = true := bne_iff_ne.mpr c53
                    have H' := Aside0.mk H
                    clear H
                    go_wp2
                    go_meet
                    case rel => exact ⟨_, (true), (by first | rfl | (simp; done) | (simp [*]; done) | (simp [*, Go.Proofs.Ytghlellambnkeaa.Str.bne_nil]; done)), H', ⟨by have := HJ3.out; have := HJ26.out; first | omega | exact Nat.le_refl _⟩, ⟨by (with_reducible repeat (first | apply Kd.R_alloc | apply Kd.R_drewN | apply Kd.R_drew)); exact Kd.R_mono HO_7.out (fun _ hk => trivial)⟩, ⟨by repeat (first | (with_reducible first | exact HB.out | apply below_alloc | apply pw_below_drewN | apply below_drew1) | exact HB.out)⟩⟩
                · rw [if_neg c52] at H
                  have c52b0 : (t202 == 0) = false := beq_eq_false_iff_ne.mpr c52
                  have c52b1 : (t202 != 0) = true := bne_iff_ne.mpr c52
                  (first | rw [c52b0] | (simp only [i64_w, i32_w]; rw [c52b0]) | skip)
                  have H' := Aside0.mk H
                  clear H
                  go_wp2
                  go_meet
                  case rel => exact ⟨_, (true), (by first | rfl | (simp; done) | (simp [*]; done) | (simp [*, Go.Proofs.Ytghlellambnkeaa.Str.bne_nil]; done)), H', ⟨by have := HJ3.out; have := HJ26.out; first | omega | exact Nat.le_refl _⟩, ⟨by (with_reducible repeat (first | apply Kd.R_alloc | apply Kd.R_drewN | apply Kd.R_drew)); exact Kd.R_mono HO_7.out (fun _ hk => trivial)⟩, ⟨by repeat (first | (with_reducible first | exact HB.out | apply below_alloc | apply pw_below_drewN | apply below_drew1) | exact HB.out)⟩⟩
              case rest =>
                clear HC47
                try clear c1
                try clear c2
                try clear p2
                try clear c3
                try clear c4
                try clear c5
                try clear c6
                try clear c8
                try clear c9
                try clear c11
                try clear c22
                try clear c25
                try clear c32
                try clear c32b0
                try clear c32b1
                try clear c33
                try clear c33b0
                try clear c33b1
                try clear c34
                try clear c34b0
                try clear c34b1
                try clear c35
                try clear c35b0
                try clear c35b1
                try clear c37
                try clear c44
                try clear c52
                try clear c52b0
                try clear c52b1
                try clear c53
                try clear c53b0
                try clear c53b1
                try clear p2
                obtain ⟨kq, x119_46, rfl, HA, HJ46, HO_7, HB⟩ := hcut
                cases kq with
                | zero => exact absurd HA.out (by simp [tidelinelaw09_MergeNewest.j2])
                | succ kj46 =>
                  have H := HA.out
                  clear HA
                  simp only [tidelinelaw09_MergeNewest.j2] at H
                  by_cases c57 : x119_46 = true
                  · subst c57
                    have H1 : (none) = some r := by rw [if_pos rfl] at H; exact H
                    clear H
                    have H := H1
                    clear H1
                    exact absurd H (by simp)
                  · replace c57 := Bool.eq_false_iff.mpr c57
                    subst c57
                    have H1 : ((merge_Above.f kj46 t183 l0).bind fun bt210 => ((merge_Above.f kj46 t183 l1).bind fun bt212 => (if bt210.2 = 0 then (if bt212.2 = 0 then (if bt210.1 = true then (some bt212.1) else (none)) else (none)) else (none)))) = some r := by rw [if_neg (show ¬ (false = true) by decide)] at H; exact H
                    clear H
                    have H := H1
                    clear H1
                    replace H := Option.bind_eq_some_iff.mp H
                    obtain ⟨⟨t210, t211⟩, A580, H⟩ := H
                    replace H : ((merge_Above.f kj46 t183 l1).bind fun bt212 => (if t211 = 0 then (if bt212.2 = 0 then (if t210 = true then (some bt212.1) else (none)) else (none)) else (none))) = some r := H
                    have A58 := Aside0.mk A580
                    clear A580
                    replace H := Option.bind_eq_some_iff.mp H
                    obtain ⟨⟨t212, t213⟩, A590, H⟩ := H
                    replace H : (if t211 = 0 then (if t213 = 0 then (if t210 = true then (some t212) else (none)) else (none)) else (none)) = some r := H
                    have A59 := Aside0.mk A590
                    clear A590
                    by_cases c60 : t211 = 0
                    · rw [if_pos c60] at H
                      have c60b0 : (t211 == 0) = true := beq_iff_eq.mpr c60
                      have c60b1 : (t211 != 0) = false := bne_eq_false_iff_eq.mpr c60
                      clear c60
                      by_cases c61 : t213 = 0
                      · rw [if_pos c61] at H
                        have c61b0 : (t213 == 0) = true := beq_iff_eq.mpr c61
                        have c61b1 : (t213 != 0) = false := bne_eq_false_iff_eq.mpr c61
                        clear c61
                        by_cases c62 : t210 = true
                        · subst c62
                          have H1 : (some t212) = some r := by rw [if_pos rfl] at H; exact H
                          clear H
                          have H := H1
                          clear H1
                          obtain rfl := Option.some.inj H
                          go_wp2_with (first | ((with_reducible refine gate_callee (f := 26) rfl ?_); refine goesL_ (some 123) rfl rfl Try.func26 (by kernel_rfl) rfl #[.slice Ao48 t183.length co48, .slice A0 l0.length c0] rfl (by (try simp only [List.map_toArray, List.map_cons, List.map_nil]); first | done | rfl | (simp only [List.length_drop, List.length_take]; rfl)) ?_; (with_reducible refine (merge_Above.calls kj46 _ _ t183 _ _ l0 true t211 _ ?side1 ?side2 ?side3 ?side4 A58.out).mono ?_); (case side1 => repeat (first | exact (Kd.R_reads' HO_7.out).2.2 | (with_reducible refine Kd.C_alloc ?_ _) | (with_reducible refine Kd.C_drewN ?_ _) | (with_reducible refine Kd.C_drew ?_))); (case side2 => exact (Kd.R_reads' HO_7.out).2.1); (case side3 => repeat (first | exact (Kd.C_below HR0.out HB.out) | (with_reducible refine Kd.C_alloc ?_ _) | (with_reducible refine Kd.C_drewN ?_ _) | (with_reducible refine Kd.C_drew ?_))); (case side4 => exact HC0.out); rintro e w63 ⟨rfl, hb⟩; refine ⟨_, rfl, ?_⟩; have n0_ := Aside0.mk (Kd.R_below (by (with_reducible repeat (first | apply Kd.R_alloc | apply Kd.R_drewN | apply Kd.R_drew)); exact HO_7.out) hb); have n1_ := Aside0.mk (below_step (by repeat (first | (with_reducible first | exact HB.out | apply below_alloc | apply pw_below_drewN | apply below_drew1) | exact HB.out)) hb); clear HO_7; clear HB; have HO_7 := n0_; have HB := n1_; clear n0_ n1_; (try clear hb); (try clear hb2); (try clear hk); (try clear hi)) | ((with_reducible refine gate_callee (f := 26) rfl ?_); refine goesL_ (some 129) rfl rfl Try.func26 (by kernel_rfl) rfl #[.slice Ao48 t183.length co48, .slice A1 l1.length c1] rfl (by (try simp only [List.map_toArray, List.map_cons, List.map_nil]); first | done | rfl | (simp only [List.length_drop, List.length_take]; rfl)) ?_; (with_reducible refine (merge_Above.calls kj46 _ _ t183 _ _ l1 t212 t213 _ ?side1 ?side2 ?side3 ?side4 A59.out).mono ?_); (case side1 => repeat (first | exact (Kd.R_reads' HO_7.out).2.2 | (with_reducible refine Kd.C_alloc ?_ _) | (with_reducible refine Kd.C_drewN ?_ _) | (with_reducible refine Kd.C_drew ?_))); (case side2 => exact (Kd.R_reads' HO_7.out).2.1); (case side3 => repeat (first | exact (Kd.C_below HR1.out HB.out) | (with_reducible refine Kd.C_alloc ?_ _) | (with_reducible refine Kd.C_drewN ?_ _) | (with_reducible refine Kd.C_drew ?_))); (case side4 => exact HC1.out); rintro e w64 ⟨rfl, hb⟩; refine ⟨_, rfl, ?_⟩; have n0_ := Aside0.mk (Kd.R_below (by (with_reducible repeat (first | apply Kd.R_alloc | apply Kd.R_drewN | apply Kd.R_drew)); exact HO_7.out) hb); have n1_ := Aside0.mk (below_step (by repeat (first | (with_reducible first | exact HB.out | apply below_alloc | apply pw_below_drewN | apply below_drew1) | exact HB.out)) hb); clear HO_7; clear HB; have HO_7 := n0_; have HB := n1_; clear n0_ n1_; (try clear hb); (try clear hb2); (try clear hk); (try clear hi)))
                          go_ret
                          exact ⟨by first | rfl | (simp [errW_none, errW_some] <;> rfl) | (simp [*, errW_none, errW_some] <;> rfl), by repeat (first | (with_reducible first | exact HB.out | apply below_alloc | apply pw_below_drewN | apply below_drew1) | exact HB.out)⟩
                        · replace c62 := Bool.eq_false_iff.mpr c62
                          subst c62
                          have H1 : (none) = some r := by rw [if_neg (show ¬ (false = true) by decide)] at H; exact H
                          clear H
                          have H := H1
                          clear H1
                          exact absurd H (by simp)
                      · rw [if_neg c61] at H
                        exact absurd H (by simp)
                    · rw [if_neg c60] at H
                      exact absurd H (by simp)

end Go.Proofs.Ytghlellambnkeaa.PAll
