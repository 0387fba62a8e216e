-- By wip/pr.py (a program of this session, over the kit's print): lines written by program. Not trusted: Lean checks them.
import Derived.Test.YtghlellambnkeaaPAllx0
import Derived.Test.YtghlellambnkeaaPAllx1
import Derived.Test.YtghlellambnkeaaPAllx2
import Derived.Test.YtghlellambnkeaaPAllx3
import Derived.Test.YtghlellambnkeaaPAllx4
namespace Go.Proofs.Ytghlellambnkeaa.PAll
open Go.RowKit Go.Proofs.YtghlellambnkeaaW.PrintWords Go.Proofs.YtghlellambnkeaaW.PrintLast Go.Proofs.YtghlellambnkeaaW.PrintMore
attribute [local go_sem] max2_int min2_int max_two min_two max_three min_three max_four min_four   -- for this text's walks alone
set_option linter.unusedVariables false
set_option linter.unusedSimpArgs false

attribute [local go_sem high] eqA42 eqA44
/-! ### tidelinelaw09_clean: function 24 -/
mutual
def tidelinelaw09_clean.j0 : Nat → List (S44) → List (S44) → Bool → Option (Bool)
  | 0, _, _, _ => none
  | k + 1, x0, x1, x14 => if x14 = true then (some false) else ((tidelineref09_Pairs.f k x0 x1).bind fun t144 => (tidelinelaw09_clean.l0 k t144 0))
def tidelinelaw09_clean.l0 : Nat → List (S46) → Int → Option (Bool)
  | 0, _, _ => none
  | k + 1, x5, x6 => if x6 < (x5.length : Int) then (if 0 ≤ x6 then (if (((rd_T46 x5 x6).f0.f1.f0) == ((rd_T46 x5 x6).f1.f1.f0) && (((rd_T46 x5 x6).f0.f1.f1) == ((rd_T46 x5 x6).f1.f1.f1))) = true then (if (!((((rd_T46 x5 x6).f0.f0).toList) == (((rd_T46 x5 x6).f1.f0).toList)) || ((!(((rd_T46 x5 x6).f0.f1.f0) == ((rd_T46 x5 x6).f1.f1.f0)) || (!(((rd_T46 x5 x6).f0.f1.f1) == ((rd_T46 x5 x6).f1.f1.f1)))) || (!((((rd_T46 x5 x6).f0.f2).toList) == (((rd_T46 x5 x6).f1.f2).toList)) || (!(((rd_T46 x5 x6).f0.f3) == ((rd_T46 x5 x6).f1.f3)))))) = true then (some false) else (tidelinelaw09_clean.l0 k x5 (wrap64 (x6 + 1)))) else (tidelinelaw09_clean.l0 k x5 (wrap64 (x6 + 1)))) else (none)) else (some true)
end
def tidelinelaw09_clean.f (k : Nat) (l0 : List (S44)) (l1 : List (S44)) : Option (Bool) := (tidelineref09_Check.f k l0).bind fun t142 => (if t142 = 0 then ((tidelineref09_Check.f k l1).bind fun t143 => (tidelinelaw09_clean.j0 k l0 l1 (t143 != 0))) else (tidelinelaw09_clean.j0 k l0 l1 true))
theorem tidelinelaw09_clean.mono_l : ∀ k, (∀ y0 y1 y2, LeO (tidelinelaw09_clean.j0 k y0 y1 y2) (tidelinelaw09_clean.j0 (k + 1) y0 y1 y2)) ∧ (∀ y0 y1, LeO (tidelinelaw09_clean.l0 k y0 y1) (tidelinelaw09_clean.l0 (k + 1) y0 y1))
  | 0 => ⟨fun _ _ _ r h => by simp [tidelinelaw09_clean.j0] at h, fun _ _ r h => by simp [tidelinelaw09_clean.l0] at h⟩
  | k + 1 => by
    obtain ⟨ih0, ih1⟩ := tidelinelaw09_clean.mono_l k
    refine ⟨?_, ?_⟩
    · intro y0 y1 y2
      unfold tidelinelaw09_clean.j0
      repeat' first
      | (with_reducible exact ih0 _ _ _)
      | (with_reducible exact ih1 _ _)
      | (with_reducible exact tidelineref09_Check.mono _ _)
      | (with_reducible exact tidelineref09_Pairs.mono _ _ _)
      | (with_reducible exact LeO.refl _)
      | (with_reducible exact LeO.none _)
      | (with_reducible refine LeO.ite ?_ ?_)
      | (with_reducible refine LeO.bind ?_ (fun _ => ?_))
      | exact ih0 _ _ _
      | exact ih1 _ _
      | exact tidelineref09_Check.mono _ _
      | exact tidelineref09_Pairs.mono _ _ _
      | exact LeO.none _
      | refine LeO.ite ?_ ?_
      | refine LeO.bind ?_ (fun _ => ?_)
    · intro y0 y1
      unfold tidelinelaw09_clean.l0
      repeat' first
      | (with_reducible exact ih0 _ _ _)
      | (with_reducible exact ih1 _ _)
      | (with_reducible exact tidelineref09_Check.mono _ _)
      | (with_reducible exact tidelineref09_Pairs.mono _ _ _)
      | (with_reducible exact LeO.refl _)
      | (with_reducible exact LeO.none _)
      | (with_reducible refine LeO.ite ?_ ?_)
      | (with_reducible refine LeO.bind ?_ (fun _ => ?_))
      | exact ih0 _ _ _
      | exact ih1 _ _
      | exact tidelineref09_Check.mono _ _
      | exact tidelineref09_Pairs.mono _ _ _
      | exact LeO.none _
      | refine LeO.ite ?_ ?_
      | refine LeO.bind ?_ (fun _ => ?_)
theorem tidelinelaw09_clean.mono : ∀ a0 a1 k, LeO (tidelinelaw09_clean.f k a0 a1) (tidelinelaw09_clean.f (k + 1) a0 a1) := by
  intro a0 a1 k
  obtain ⟨ih0, ih1⟩ := tidelinelaw09_clean.mono_l k
  unfold tidelinelaw09_clean.f
  repeat' first
      | (with_reducible exact ih0 _ _ _)
      | (with_reducible exact ih1 _ _)
      | (with_reducible exact tidelineref09_Check.mono _ _)
      | (with_reducible exact tidelineref09_Pairs.mono _ _ _)
      | (with_reducible exact LeO.refl _)
      | (with_reducible exact LeO.none _)
      | (with_reducible refine LeO.ite ?_ ?_)
      | (with_reducible refine LeO.bind ?_ (fun _ => ?_))
      | exact ih0 _ _ _
      | exact ih1 _ _
      | exact tidelineref09_Check.mono _ _
      | exact tidelineref09_Pairs.mono _ _ _
      | exact LeO.none _
      | refine LeO.ite ?_ ?_
      | refine LeO.bind ?_ (fun _ => ?_)
set_option maxHeartbeats 8000000 in
set_option maxRecDepth 100000 in
theorem tidelinelaw09_clean.calls (k : Nat) (A0 : Option Addr) (c0 : Nat) (l0 : List (S44)) (A1 : Option Addr) (c1 : Nat) (l1 : List (S44)) (r : Bool) (w : World) (hr0 : Kd.C k44 w A0 l0.length l0) (hc0 : l0.length ≤ c0) (hr1 : Kd.C k44 w A1 l1.length l1) (hc1 : l1.length ≤ c1) (h : tidelinelaw09_clean.f k l0 l1 = some r) :
    Calls Try.prog 24 #[.slice A0 l0.length c0, .slice A1 l1.length c1] w fun e w' => e = .returned (.bool r) ∧ Below w.heap.size w w' := by
 have hu42 := Try.underlying42
 have hu44 := Try.underlying44
 have HR0 := Aside0.mk hr0
 have HC0 := Aside0.mk hc0
 clear hr0 hc0
 have HR1 := Aside0.mk hr1
 have HC1 := Aside0.mk hc1
 clear hr1 hc1
 have HB := Aside0.mk (Below.refl w.heap.size w)
 have H : ((tidelineref09_Check.f k l0).bind fun t142 => (if t142 = 0 then ((tidelineref09_Check.f k l1).bind fun t143 => (tidelinelaw09_clean.j0 k l0 l1 (t143 != 0))) else (tidelinelaw09_clean.j0 k l0 l1 true))) = some r := h
 clear h
 have HC3 := Aside0.mk H
 clear H
 go_enter Try.func24, Try.ntmps24
 go_upto_region 1 with (fail)
 repeat (go_quiet (fail); go_upto_region 1 with (fail))
 go_cut [14] (fun v14 wc => ∃ (kq : Nat) (x14_2 : Bool), v14 = .bool x14_2 ∧ Aside0 (tidelinelaw09_clean.j0 kq l0 l1 x14_2 = some r) ∧ Aside0 (kq ≤ k) ∧ Aside0 (Below w.heap.size w wc))
 case first =>
  have H := HC3.out
  clear HC3
  replace H := Option.bind_eq_some_iff.mp H
  obtain ⟨t142, A40, H⟩ := H
  replace H : (if t142 = 0 then ((tidelineref09_Check.f k l1).bind fun t143 => (tidelinelaw09_clean.j0 k l0 l1 (t143 != 0))) else (tidelinelaw09_clean.j0 k l0 l1 true)) = some r := H
  have A4 := Aside0.mk A40
  clear A40
  by_cases c5 : t142 = 0
  ·rw [if_pos c5] at H
   have c5b0 : (t142 == 0) = true := beq_iff_eq.mpr c5
   have c5b1 : (t142 != 0) = false := bne_eq_false_iff_eq.mpr c5
   clear c5
   (first | rw [c5b0] | (simp only [i64_w, i32_w]; rw [c5b0]) | skip)
   replace H := Option.bind_eq_some_iff.mp H
   obtain ⟨t143, A60, H⟩ := H
   replace H : (tidelinelaw09_clean.j0 k l0 l1 (t143 != 0)) = some r := H
   have A6 := Aside0.mk A60
   clear A60
   have H' := Aside0.mk H
   clear H
   go_wp2_with (first | (go_at_call 15; (with_reducible refine (tidelineref09_Check.calls k _ _ l0 t142 _ ?side1 ?side2 A4.out).mono ?_); (case side1 => repeat (first | exact (Kd.C_below HR0.out HB.out) | (with_reducible refine Kd.C_alloc ?_ _) | (with_reducible refine Kd.C_drewN ?_ _) | (with_reducible refine Kd.C_drew ?_))); (case side2 => exact HC0.out); rintro e w7 ⟨rfl, hb⟩; have n0_ := Aside0.mk (below_step (by repeat (first | (with_reducible first | exact HB.out | apply below_alloc | apply pw_below_drewN | apply below_drew1) | exact HB.out)) hb); clear HB; have HB := n0_; clear n0_; (try clear hb); (try clear hb2); (try clear hk); (try clear hi)) | (go_at_call 15; (with_reducible refine (tidelineref09_Check.calls k _ _ l1 t143 _ ?side1 ?side2 A6.out).mono ?_); (case side1 => repeat (first | exact (Kd.C_below HR1.out HB.out) | (with_reducible refine Kd.C_alloc ?_ _) | (with_reducible refine Kd.C_drewN ?_ _) | (with_reducible refine Kd.C_drew ?_))); (case side2 => exact HC1.out); rintro e w8 ⟨rfl, hb⟩; have n0_ := Aside0.mk (below_step (by repeat (first | (with_reducible first | exact HB.out | apply below_alloc | apply pw_below_drewN | apply below_drew1) | exact HB.out)) hb); clear HB; have HB := n0_; clear n0_; (try clear hb); (try clear hb2); (try clear hk); (try clear hi)))
   repeat (go_quiet (first | (go_at_call 15; (with_reducible refine (tidelineref09_Check.calls k _ _ l0 t142 _ ?side1 ?side2 A4.out).mono ?_); (case side1 => repeat (first | exact (Kd.C_below HR0.out HB.out) | (with_reducible refine Kd.C_alloc ?_ _) | (with_reducible refine Kd.C_drewN ?_ _) | (with_reducible refine Kd.C_drew ?_))); (case side2 => exact HC0.out); rintro e w7 ⟨rfl, hb⟩; have n0_ := Aside0.mk (below_step (by repeat (first | (with_reducible first | exact HB.out | apply below_alloc | apply pw_below_drewN | apply below_drew1) | exact HB.out)) hb); clear HB; have HB := n0_; clear n0_; (try clear hb); (try clear hb2); (try clear hk); (try clear hi)) | (go_at_call 15; (with_reducible refine (tidelineref09_Check.calls k _ _ l1 t143 _ ?side1 ?side2 A6.out).mono ?_); (case side1 => repeat (first | exact (Kd.C_below HR1.out HB.out) | (with_reducible refine Kd.C_alloc ?_ _) | (with_reducible refine Kd.C_drewN ?_ _) | (with_reducible refine Kd.C_drew ?_))); (case side2 => exact HC1.out); rintro e w8 ⟨rfl, hb⟩; have n0_ := Aside0.mk (below_step (by repeat (first | (with_reducible first | exact HB.out | apply below_alloc | apply pw_below_drewN | apply below_drew1) | exact HB.out)) hb); clear HB; have HB := n0_; clear n0_; (try clear hb); (try clear hb2); (try clear hk); (try clear hi))); try go_wp2_with (first | (go_at_call 15; (with_reducible refine (tidelineref09_Check.calls k _ _ l0 t142 _ ?side1 ?side2 A4.out).mono ?_); (case side1 => repeat (first | exact (Kd.C_below HR0.out HB.out) | (with_reducible refine Kd.C_alloc ?_ _) | (with_reducible refine Kd.C_drewN ?_ _) | (with_reducible refine Kd.C_drew ?_))); (case side2 => exact HC0.out); rintro e w7 ⟨rfl, hb⟩; have n0_ := Aside0.mk (below_step (by repeat (first | (with_reducible first | exact HB.out | apply below_alloc | apply pw_below_drewN | apply below_drew1) | exact HB.out)) hb); clear HB; have HB := n0_; clear n0_; (try clear hb); (try clear hb2); (try clear hk); (try clear hi)) | (go_at_call 15; (with_reducible refine (tidelineref09_Check.calls k _ _ l1 t143 _ ?side1 ?side2 A6.out).mono ?_); (case side1 => repeat (first | exact (Kd.C_below HR1.out HB.out) | (with_reducible refine Kd.C_alloc ?_ _) | (with_reducible refine Kd.C_drewN ?_ _) | (with_reducible refine Kd.C_drew ?_))); (case side2 => exact HC1.out); rintro e w8 ⟨rfl, hb⟩; have n0_ := Aside0.mk (below_step (by repeat (first | (with_reducible first | exact HB.out | apply below_alloc | apply pw_below_drewN | apply below_drew1) | exact HB.out)) hb); clear HB; have HB := n0_; clear n0_; (try clear hb); (try clear hb2); (try clear hk); (try clear hi))))
   go_meet
   case rel => exact ⟨_, ((t143 != 0)), (by first | rfl | (simp; done) | (simp [*]; done) | (simp [*, Go.Proofs.Ytghlellambnkeaa.Str.bne_nil]; done)), H', ⟨by first | omega | exact Nat.le_refl _⟩, ⟨by repeat (first | (with_reducible first | exact HB.out | apply below_alloc | apply pw_below_drewN | apply below_drew1) | exact HB.out)⟩⟩
  ·rw [if_neg c5] at H
   have c5b0 : (t142 == 0) = false := beq_eq_false_iff_ne.mpr c5
   have c5b1 : (t142 != 0) = true := bne_iff_ne.mpr c5
   (first | rw [c5b0] | (simp only [i64_w, i32_w]; rw [c5b0]) | skip)
   have H' := Aside0.mk H
   clear H
   go_wp2_with (first | (go_at_call 15; (with_reducible refine (tidelineref09_Check.calls k _ _ l0 t142 _ ?side1 ?side2 A4.out).mono ?_); (case side1 => repeat (first | exact (Kd.C_below HR0.out HB.out) | (with_reducible refine Kd.C_alloc ?_ _) | (with_reducible refine Kd.C_drewN ?_ _) | (with_reducible refine Kd.C_drew ?_))); (case side2 => exact HC0.out); rintro e w9 ⟨rfl, hb⟩; have n0_ := Aside0.mk (below_step (by repeat (first | (with_reducible first | exact HB.out | apply below_alloc | apply pw_below_drewN | apply below_drew1) | exact HB.out)) hb); clear HB; have HB := n0_; clear n0_; (try clear hb); (try clear hb2); (try clear hk); (try clear hi)))
   repeat (go_quiet (first | (go_at_call 15; (with_reducible refine (tidelineref09_Check.calls k _ _ l0 t142 _ ?side1 ?side2 A4.out).mono ?_); (case side1 => repeat (first | exact (Kd.C_below HR0.out HB.out) | (with_reducible refine Kd.C_alloc ?_ _) | (with_reducible refine Kd.C_drewN ?_ _) | (with_reducible refine Kd.C_drew ?_))); (case side2 => exact HC0.out); rintro e w9 ⟨rfl, hb⟩; have n0_ := Aside0.mk (below_step (by repeat (first | (with_reducible first | exact HB.out | apply below_alloc | apply pw_below_drewN | apply below_drew1) | exact HB.out)) hb); clear HB; have HB := n0_; clear n0_; (try clear hb); (try clear hb2); (try clear hk); (try clear hi))); try go_wp2_with (first | (go_at_call 15; (with_reducible refine (tidelineref09_Check.calls k _ _ l0 t142 _ ?side1 ?side2 A4.out).mono ?_); (case side1 => repeat (first | exact (Kd.C_below HR0.out HB.out) | (with_reducible refine Kd.C_alloc ?_ _) | (with_reducible refine Kd.C_drewN ?_ _) | (with_reducible refine Kd.C_drew ?_))); (case side2 => exact HC0.out); rintro e w9 ⟨rfl, hb⟩; have n0_ := Aside0.mk (below_step (by repeat (first | (with_reducible first | exact HB.out | apply below_alloc | apply pw_below_drewN | apply below_drew1) | exact HB.out)) hb); clear HB; have HB := n0_; clear n0_; (try clear hb); (try clear hb2); (try clear hk); (try clear hi))))
   go_meet
   case rel => exact ⟨_, (true), (by first | rfl | (simp; done) | (simp [*]; done) | (simp [*, Go.Proofs.Ytghlellambnkeaa.Str.bne_nil]; done)), H', ⟨by first | omega | exact Nat.le_refl _⟩, ⟨by repeat (first | (with_reducible first | exact HB.out | apply below_alloc | apply pw_below_drewN | apply below_drew1) | exact HB.out)⟩⟩
 case rest =>
  clear HC3
  try clear c1
  try clear c2
  try clear p2
  try clear c5
  try clear c5b0
  try clear c5b1
  obtain ⟨kq, x14_2, rfl, HA, HJ2, HB⟩ := hcut
  cases kq with
  | zero => exact absurd HA.out (by simp [tidelinelaw09_clean.j0])
  | succ kj2 =>
   have H := HA.out
   clear HA
   simp only [tidelinelaw09_clean.j0] at H
   by_cases c10 : x14_2 = true
   ·subst c10
    have H1 : (some false) = some r := by rw [if_pos rfl] at H; exact H
    clear H
    have H := H1
    clear H1
    obtain rfl := Option.some.inj H
    go_wp2
    repeat (go_quiet (fail); try go_wp2)
    all_goals first | (exfalso; simp_all; done) | (go_ret; exact ⟨by first | rfl | (simp [errW_none, errW_some] <;> rfl) | (simp [*, errW_none, errW_some] <;> rfl), by repeat (first | (with_reducible first | exact HB.out | apply below_alloc | apply pw_below_drewN | apply below_drew1) | exact HB.out)⟩)
   ·replace c10 := Bool.eq_false_iff.mpr c10
    subst c10
    have H1 : ((tidelineref09_Pairs.f kj2 l0 l1).bind fun t144 => (tidelinelaw09_clean.l0 kj2 t144 0)) = some r := by rw [if_neg (show ¬ (false = true) by decide)] at H; exact H
    clear H
    have H := H1
    clear H1
    replace H := Option.bind_eq_some_iff.mp H
    obtain ⟨t144, A110, H⟩ := H
    replace H : (tidelinelaw09_clean.l0 kj2 t144 0) = some r := H
    have A11 := Aside0.mk A110
    clear A110
    have H' := Aside0.mk H
    clear H
    go_wp2_with (first | (go_at_call 22; (with_reducible refine (tidelineref09_Pairs.calls kj2 _ _ l0 _ _ l1 t144 _ ?side1 ?side2 ?side3 ?side4 A11.out).mono ?_); (case side1 => repeat (first | exact (Kd.C_below HR0.out HB.out) | (with_reducible refine Kd.C_alloc ?_ _) | (with_reducible refine Kd.C_drewN ?_ _) | (with_reducible refine Kd.C_drew ?_))); (case side2 => exact HC0.out); (case side3 => repeat (first | exact (Kd.C_below HR1.out HB.out) | (with_reducible refine Kd.C_alloc ?_ _) | (with_reducible refine Kd.C_drewN ?_ _) | (with_reducible refine Kd.C_drew ?_))); (case side4 => exact HC1.out); rintro e w12 ⟨v145, rfl, ho0, hb⟩; have n0_ := Aside0.mk (Kd.R_lower ho0 (below_size (by repeat (first | (with_reducible first | exact HB.out | apply below_alloc | apply pw_below_drewN | apply below_drew1) | exact HB.out)))); have n1_ := Aside0.mk (below_step (by repeat (first | (with_reducible first | exact HB.out | apply below_alloc | apply pw_below_drewN | apply below_drew1) | exact HB.out)) hb); clear HB; have HO146 := n0_; have HB := n1_; clear n0_ n1_; (try clear hb); (try clear hb2); (try clear hk); (try clear hi); (try clear ho0)))
    repeat (go_quiet (first | (go_at_call 22; (with_reducible refine (tidelineref09_Pairs.calls kj2 _ _ l0 _ _ l1 t144 _ ?side1 ?side2 ?side3 ?side4 A11.out).mono ?_); (case side1 => repeat (first | exact (Kd.C_below HR0.out HB.out) | (with_reducible refine Kd.C_alloc ?_ _) | (with_reducible refine Kd.C_drewN ?_ _) | (with_reducible refine Kd.C_drew ?_))); (case side2 => exact HC0.out); (case side3 => repeat (first | exact (Kd.C_below HR1.out HB.out) | (with_reducible refine Kd.C_alloc ?_ _) | (with_reducible refine Kd.C_drewN ?_ _) | (with_reducible refine Kd.C_drew ?_))); (case side4 => exact HC1.out); rintro e w12 ⟨v145, rfl, ho0, hb⟩; have n0_ := Aside0.mk (Kd.R_lower ho0 (below_size (by repeat (first | (with_reducible first | exact HB.out | apply below_alloc | apply pw_below_drewN | apply below_drew1) | exact HB.out)))); have n1_ := Aside0.mk (below_step (by repeat (first | (with_reducible first | exact HB.out | apply below_alloc | apply pw_below_drewN | apply below_drew1) | exact HB.out)) hb); clear HB; have HO146 := n0_; have HB := n1_; clear n0_ n1_; (try clear hb); (try clear hb2); (try clear hk); (try clear hi); (try clear ho0))); try go_wp2_with (first | (go_at_call 22; (with_reducible refine (tidelineref09_Pairs.calls kj2 _ _ l0 _ _ l1 t144 _ ?side1 ?side2 ?side3 ?side4 A11.out).mono ?_); (case side1 => repeat (first | exact (Kd.C_below HR0.out HB.out) | (with_reducible refine Kd.C_alloc ?_ _) | (with_reducible refine Kd.C_drewN ?_ _) | (with_reducible refine Kd.C_drew ?_))); (case side2 => exact HC0.out); (case side3 => repeat (first | exact (Kd.C_below HR1.out HB.out) | (with_reducible refine Kd.C_alloc ?_ _) | (with_reducible refine Kd.C_drewN ?_ _) | (with_reducible refine Kd.C_drew ?_))); (case side4 => exact HC1.out); rintro e w12 ⟨v145, rfl, ho0, hb⟩; have n0_ := Aside0.mk (Kd.R_lower ho0 (below_size (by repeat (first | (with_reducible first | exact HB.out | apply below_alloc | apply pw_below_drewN | apply below_drew1) | exact HB.out)))); have n1_ := Aside0.mk (below_step (by repeat (first | (with_reducible first | exact HB.out | apply below_alloc | apply pw_below_drewN | apply below_drew1) | exact HB.out)) hb); clear HB; have HO146 := n0_; have HB := n1_; clear n0_ n1_; (try clear hb); (try clear hb2); (try clear hk); (try clear hi); (try clear ho0))))
    go_loopg [6] kj2 (fun kq v6 w' => ∃ (x6_2 : Int), v6 = .int .i64 x6_2 ∧ Aside0 (tidelinelaw09_clean.l0 kq t144 x6_2 = some r) ∧ Aside0 (kq ≤ kj2) ∧ Aside0 (Kd.R k46 46 w' w.heap.size (fun _ => True) v145 t144) ∧ Aside0 (Below w.heap.size w w'))
    case atStart => exact ⟨(0), (by first | rfl | (simp; done) | (simp [*]; done) | (simp [*, Go.Proofs.Ytghlellambnkeaa.Str.bne_nil]; done)), H', ⟨Nat.le_refl _⟩, ⟨by (with_reducible repeat (first | apply Kd.R_alloc | apply Kd.R_drewN | apply Kd.R_drew)); exact HO146.out⟩, ⟨by repeat (first | (with_reducible first | exact HB.out | apply below_alloc | apply pw_below_drewN | apply below_drew1) | exact HB.out)⟩⟩
    case round =>
     clear H'
     try clear c1
     try clear c2
     try clear p2
     try clear c5
     try clear c5b0
     try clear c5b1
     try clear c10
     try clear p2
     obtain ⟨x6_2, rfl, HA, HK2, HO_5, HB⟩ := hrel
     cases gk with
     | zero => exact absurd HA.out (by simp [tidelinelaw09_clean.l0])
     | succ k2 =>
      have H := HA.out
      clear HA
      simp only [tidelinelaw09_clean.l0] at H
      by_cases c13 : x6_2 < (t144.length : Int)
      ·rw [if_pos c13] at H
       have c13b0 : decide (x6_2 < (t144.length : Int)) = true := decide_eq_true c13
       clear c13
       by_cases c14 : 0 ≤ x6_2
       ·rw [if_pos c14] at H
        have c14b0 : decide (0 ≤ x6_2) = true := decide_eq_true c14
        clear c14
        by_cases c15 : (((rd_T46 t144 x6_2).f0.f1.f0) == ((rd_T46 t144 x6_2).f1.f1.f0) && (((rd_T46 t144 x6_2).f0.f1.f1) == ((rd_T46 t144 x6_2).f1.f1.f1))) = true
        ·rw [if_pos c15] at H
         have c15b0 : (((rd_T46 t144 x6_2).f0.f1.f0) == ((rd_T46 t144 x6_2).f1.f1.f0) && (((rd_T46 t144 x6_2).f0.f1.f1) == ((rd_T46 t144 x6_2).f1.f1.f1))) = true := c15
         (try (have c15b1 : decide (((rd_T46 t144 x6_2).f0.f1.f0) = ((rd_T46 t144 x6_2).f1.f1.f0) && (((rd_T46 t144 x6_2).f0.f1.f1) == ((rd_T46 t144 x6_2).f1.f1.f1))) = true := by simpa using c15))
         (try (have c15b2 : (((rd_T46 t144 x6_2).f0.f1.f0) == ((rd_T46 t144 x6_2).f1.f1.f0) && (((rd_T46 t144 x6_2).f0.f1.f1) == ((rd_T46 t144 x6_2).f1.f1.f1))) = true := by simpa using c15))
         clear c15
         by_cases c16 : (!((((rd_T46 t144 x6_2).f0.f0).toList) == (((rd_T46 t144 x6_2).f1.f0).toList)) || ((!(((rd_T46 t144 x6_2).f0.f1.f0) == ((rd_T46 t144 x6_2).f1.f1.f0)) || (!(((rd_T46 t144 x6_2).f0.f1.f1) == ((rd_T46 t144 x6_2).f1.f1.f1)))) || (!((((rd_T46 t144 x6_2).f0.f2).toList) == (((rd_T46 t144 x6_2).f1.f2).toList)) || (!(((rd_T46 t144 x6_2).f0.f3) == ((rd_T46 t144 x6_2).f1.f3)))))) = true
         ·rw [if_pos c16] at H
          have c16b0 : (!((((rd_T46 t144 x6_2).f0.f0).toList) == (((rd_T46 t144 x6_2).f1.f0).toList)) || ((!(((rd_T46 t144 x6_2).f0.f1.f0) == ((rd_T46 t144 x6_2).f1.f1.f0)) || (!(((rd_T46 t144 x6_2).f0.f1.f1) == ((rd_T46 t144 x6_2).f1.f1.f1)))) || (!((((rd_T46 t144 x6_2).f0.f2).toList) == (((rd_T46 t144 x6_2).f1.f2).toList)) || (!(((rd_T46 t144 x6_2).f0.f3) == ((rd_T46 t144 x6_2).f1.f3)))))) = true := c16
          clear c16
          obtain rfl := Option.some.inj H
          obtain ⟨Ao17, co17, eo17⟩ := Kd.R_slice HO_5.out
          subst eo17
          have p147 : 0 ≤ (x6_2 : Int) := of_decide_eq_true (by first | (with_reducible assumption) | assumption)
          have q147 : x6_2 < (t144.length : Int) := of_decide_eq_true (by first | (with_reducible assumption) | assumption)
          obtain ⟨ad147, e147, hx147_0, hx147_1, hx147_2, hx147_3, hx147_4, hx147_5, hx147_6, hx147_7, hx147_8, hx147_9⟩ := at_T46 (Kd.R_reads' HO_5.out).2.2 x6_2 p147 q147
          cases e147
          replace p147 := eq_true p147
          replace q147 := eq_true q147
          have p148 : 0 ≤ (x6_2 : Int) := of_decide_eq_true (by first | (with_reducible assumption) | assumption)
          have q148 : x6_2 < (t144.length : Int) := of_decide_eq_true (by first | (with_reducible assumption) | assumption)
          obtain ⟨ad148, e148, hx148_0, hx148_1, hx148_2, hx148_3, hx148_4, hx148_5, hx148_6, hx148_7, hx148_8, hx148_9⟩ := at_T46 (Kd.R_reads' HO_5.out).2.2 x6_2 p148 q148
          obtain rfl : ad147 = ad148 := (by injection e148)
          replace p148 := eq_true p148
          replace q148 := eq_true q148
          have p149 : 0 ≤ (x6_2 : Int) := of_decide_eq_true (by first | (with_reducible assumption) | assumption)
          have q149 : x6_2 < (t144.length : Int) := of_decide_eq_true (by first | (with_reducible assumption) | assumption)
          obtain ⟨ad149, e149, hx149_0, hx149_1, hx149_2, hx149_3, hx149_4, hx149_5, hx149_6, hx149_7, hx149_8, hx149_9⟩ := at_T46 (Kd.R_reads' HO_5.out).2.2 x6_2 p149 q149
          obtain rfl : ad147 = ad149 := (by injection e149)
          replace p149 := eq_true p149
          replace q149 := eq_true q149
          have p150 : 0 ≤ (x6_2 : Int) := of_decide_eq_true (by first | (with_reducible assumption) | assumption)
          have q150 : x6_2 < (t144.length : Int) := of_decide_eq_true (by first | (with_reducible assumption) | assumption)
          obtain ⟨ad150, e150, hx150_0, hx150_1, hx150_2, hx150_3, hx150_4, hx150_5, hx150_6, hx150_7, hx150_8, hx150_9⟩ := at_T46 (Kd.R_reads' HO_5.out).2.2 x6_2 p150 q150
          obtain rfl : ad147 = ad150 := (by injection e150)
          replace p150 := eq_true p150
          replace q150 := eq_true q150
          go_wp2
          repeat (go_quiet (fail); try go_wp2)
          all_goals first | (exfalso; simp_all; done) | (go_ret; exact ⟨by first | rfl | (simp [errW_none, errW_some] <;> rfl) | (simp [*, errW_none, errW_some] <;> rfl), by repeat (first | (with_reducible first | exact HB.out | apply below_alloc | apply pw_below_drewN | apply below_drew1) | exact HB.out)⟩)
         ·rw [if_neg c16] at H
          have c16b0 : (!((((rd_T46 t144 x6_2).f0.f0).toList) == (((rd_T46 t144 x6_2).f1.f0).toList)) || ((!(((rd_T46 t144 x6_2).f0.f1.f0) == ((rd_T46 t144 x6_2).f1.f1.f0)) || (!(((rd_T46 t144 x6_2).f0.f1.f1) == ((rd_T46 t144 x6_2).f1.f1.f1)))) || (!((((rd_T46 t144 x6_2).f0.f2).toList) == (((rd_T46 t144 x6_2).f1.f2).toList)) || (!(((rd_T46 t144 x6_2).f0.f3) == ((rd_T46 t144 x6_2).f1.f3)))))) = false := by simpa using c16
          clear c16
          have H' := Aside0.mk H
          clear H
          obtain ⟨Ao18, co18, eo18⟩ := Kd.R_slice HO_5.out
          subst eo18
          have p147 : 0 ≤ (x6_2 : Int) := of_decide_eq_true (by first | (with_reducible assumption) | assumption)
          have q147 : x6_2 < (t144.length : Int) := of_decide_eq_true (by first | (with_reducible assumption) | assumption)
          obtain ⟨ad147, e147, hx147_0, hx147_1, hx147_2, hx147_3, hx147_4, hx147_5, hx147_6, hx147_7, hx147_8, hx147_9⟩ := at_T46 (Kd.R_reads' HO_5.out).2.2 x6_2 p147 q147
          cases e147
          replace p147 := eq_true p147
          replace q147 := eq_true q147
          have p148 : 0 ≤ (x6_2 : Int) := of_decide_eq_true (by first | (with_reducible assumption) | assumption)
          have q148 : x6_2 < (t144.length : Int) := of_decide_eq_true (by first | (with_reducible assumption) | assumption)
          obtain ⟨ad148, e148, hx148_0, hx148_1, hx148_2, hx148_3, hx148_4, hx148_5, hx148_6, hx148_7, hx148_8, hx148_9⟩ := at_T46 (Kd.R_reads' HO_5.out).2.2 x6_2 p148 q148
          obtain rfl : ad147 = ad148 := (by injection e148)
          replace p148 := eq_true p148
          replace q148 := eq_true q148
          have p149 : 0 ≤ (x6_2 : Int) := of_decide_eq_true (by first | (with_reducible assumption) | assumption)
          have q149 : x6_2 < (t144.length : Int) := of_decide_eq_true (by first | (with_reducible assumption) | assumption)
          obtain ⟨ad149, e149, hx149_0, hx149_1, hx149_2, hx149_3, hx149_4, hx149_5, hx149_6, hx149_7, hx149_8, hx149_9⟩ := at_T46 (Kd.R_reads' HO_5.out).2.2 x6_2 p149 q149
          obtain rfl : ad147 = ad149 := (by injection e149)
          replace p149 := eq_true p149
          replace q149 := eq_true q149
          have p150 : 0 ≤ (x6_2 : Int) := of_decide_eq_true (by first | (with_reducible assumption) | assumption)
          have q150 : x6_2 < (t144.length : Int) := of_decide_eq_true (by first | (with_reducible assumption) | assumption)
          obtain ⟨ad150, e150, hx150_0, hx150_1, hx150_2, hx150_3, hx150_4, hx150_5, hx150_6, hx150_7, hx150_8, hx150_9⟩ := at_T46 (Kd.R_reads' HO_5.out).2.2 x6_2 p150 q150
          obtain rfl : ad147 = ad150 := (by injection e150)
          replace p150 := eq_true p150
          replace q150 := eq_true q150
          go_wp2
          repeat (go_quiet (fail); try go_wp2)
          all_goals first | (exfalso; simp_all; done) | (go_roundg k2; (case measure => have := HJ2.out; have := HK2.out; omega); (case rel => exact ⟨(wrap64 (x6_2 + 1)), (by first | rfl | (simp; done) | (simp [*]; done) | (simp [*, Go.Proofs.Ytghlellambnkeaa.Str.bne_nil]; done)), H', ⟨by have := HJ2.out; have := HK2.out; omega⟩, ⟨by (with_reducible repeat (first | apply Kd.R_alloc | apply Kd.R_drewN | apply Kd.R_drew)); exact HO_5.out⟩, ⟨by repeat (first | (with_reducible first | exact HB.out | apply below_alloc | apply pw_below_drewN | apply below_drew1) | exact HB.out)⟩⟩))
        ·rw [if_neg c15] at H
         have c15b0 : (((rd_T46 t144 x6_2).f0.f1.f0) == ((rd_T46 t144 x6_2).f1.f1.f0) && (((rd_T46 t144 x6_2).f0.f1.f1) == ((rd_T46 t144 x6_2).f1.f1.f1))) = false := by simpa using c15
         (try (have c15b1 : decide (((rd_T46 t144 x6_2).f0.f1.f0) = ((rd_T46 t144 x6_2).f1.f1.f0) && (((rd_T46 t144 x6_2).f0.f1.f1) == ((rd_T46 t144 x6_2).f1.f1.f1))) = false := by simpa using c15))
         (try (have c15b2 : (((rd_T46 t144 x6_2).f0.f1.f0) == ((rd_T46 t144 x6_2).f1.f1.f0) && (((rd_T46 t144 x6_2).f0.f1.f1) == ((rd_T46 t144 x6_2).f1.f1.f1))) = false := by simpa using c15))
         (try (have c15b3 : ¬ (((rd_T46 t144 x6_2).f0.f1.f0) = ((rd_T46 t144 x6_2).f1.f1.f0) && (((rd_T46 t144 x6_2).f0.f1.f1) == ((rd_T46 t144 x6_2).f1.f1.f1))) := by simpa using c15))
         clear c15
         have H' := Aside0.mk H
         clear H
         obtain ⟨Ao19, co19, eo19⟩ := Kd.R_slice HO_5.out
         subst eo19
         have p147 : 0 ≤ (x6_2 : Int) := of_decide_eq_true (by first | (with_reducible assumption) | assumption)
         have q147 : x6_2 < (t144.length : Int) := of_decide_eq_true (by first | (with_reducible assumption) | assumption)
         obtain ⟨ad147, e147, hx147_0, hx147_1, hx147_2, hx147_3, hx147_4, hx147_5, hx147_6, hx147_7, hx147_8, hx147_9⟩ := at_T46 (Kd.R_reads' HO_5.out).2.2 x6_2 p147 q147
         cases e147
         replace p147 := eq_true p147
         replace q147 := eq_true q147
         have p148 : 0 ≤ (x6_2 : Int) := of_decide_eq_true (by first | (with_reducible assumption) | assumption)
         have q148 : x6_2 < (t144.length : Int) := of_decide_eq_true (by first | (with_reducible assumption) | assumption)
         obtain ⟨ad148, e148, hx148_0, hx148_1, hx148_2, hx148_3, hx148_4, hx148_5, hx148_6, hx148_7, hx148_8, hx148_9⟩ := at_T46 (Kd.R_reads' HO_5.out).2.2 x6_2 p148 q148
         obtain rfl : ad147 = ad148 := (by injection e148)
         replace p148 := eq_true p148
         replace q148 := eq_true q148
         go_wp2
         repeat (go_quiet (fail); try go_wp2)
         all_goals first | (exfalso; simp_all; done) | (go_roundg k2; (case measure => have := HJ2.out; have := HK2.out; omega); (case rel => exact ⟨(wrap64 (x6_2 + 1)), (by first | rfl | (simp; done) | (simp [*]; done) | (simp [*, Go.Proofs.Ytghlellambnkeaa.Str.bne_nil]; done)), H', ⟨by have := HJ2.out; have := HK2.out; omega⟩, ⟨by (with_reducible repeat (first | apply Kd.R_alloc | apply Kd.R_drewN | apply Kd.R_drew)); exact HO_5.out⟩, ⟨by repeat (first | (with_reducible first | exact HB.out | apply below_alloc | apply pw_below_drewN | apply below_drew1) | exact HB.out)⟩⟩))
       ·rw [if_neg c14] at H
        exact absurd H (by simp)
      ·rw [if_neg c13] at H
       have c13b0 : decide (x6_2 < (t144.length : Int)) = false := decide_eq_false c13
       clear c13
       obtain rfl := Option.some.inj H
       obtain ⟨Ao20, co20, eo20⟩ := Kd.R_slice HO_5.out
       subst eo20
       go_wp2
       repeat (go_quiet (fail); try go_wp2)
       all_goals first | (exfalso; simp_all; done) | (go_ret; exact ⟨by first | rfl | (simp [errW_none, errW_some] <;> rfl) | (simp [*, errW_none, errW_some] <;> rfl), by repeat (first | (with_reducible first | exact HB.out | apply below_alloc | apply pw_below_drewN | apply below_drew1) | exact HB.out)⟩)

/-! ### item_CheckVersion: function 50 -/
def item_CheckVersion.f (a0_0 : Int) (a0_1 : Int) : Option (Int) := if 1 ≤ a0_0 then (if a0_0 ≤ 1099511627776 then (if 0 ≤ a0_1 then (if a0_1 < 8 then (some 0) else (some 30)) else (some 30)) else (some 30)) else (some 30)
set_option maxHeartbeats 8000000 in
set_option maxRecDepth 100000 in
theorem item_CheckVersion.calls (a0_0 : Int) (a0_1 : Int) (r : Int) (w : World) (h : item_CheckVersion.f a0_0 a0_1 = some r) :
    Calls Try.prog 50 #[.agg #[.int .i64 a0_0, .int .i64 a0_1]] w fun e w' => e = .returned (.int .i64 r) ∧ Below w.heap.size w w' := by
 have hu42 := Try.underlying42
 have HB := Aside0.mk (Below.refl w.heap.size w)
 have H : (if 1 ≤ a0_0 then (if a0_0 ≤ 1099511627776 then (if 0 ≤ a0_1 then (if a0_1 < 8 then (some 0) else (some 30)) else (some 30)) else (some 30)) else (some 30)) = some r := h
 clear h
 by_cases c2 : 1 ≤ a0_0
 ·rw [if_pos c2] at H
  have c2b0 : decide (1 ≤ a0_0) = true := decide_eq_true c2
  clear c2
  by_cases c3 : a0_0 ≤ 1099511627776
  ·rw [if_pos c3] at H
   have c3b0 : decide (a0_0 ≤ 1099511627776) = true := decide_eq_true c3
   clear c3
   by_cases c4 : 0 ≤ a0_1
   ·rw [if_pos c4] at H
    have c4b0 : decide (0 ≤ a0_1) = true := decide_eq_true c4
    clear c4
    by_cases c5 : a0_1 < 8
    ·rw [if_pos c5] at H
     have c5b0 : decide (a0_1 < 8) = true := decide_eq_true c5
     clear c5
     obtain rfl := Option.some.inj H
     go_enter Try.func50, Try.ntmps50
     go_wp2_with (first | ((with_reducible refine gate_dst (N := 1) rfl ?_); refine box_event ?hg (N := 1) ?hd (cs := #[.int .i64 a0_0, .int .i64 a0_1]) (t := 42) ?hr ?_; (case hd => rfl); (case hg => rfl); (case hr => first | (go_simp; done) | (go_simp; rfl)); intro gb151 hg w6 hbox hb; have n0_ := Aside0.mk (below_step (by repeat (first | (with_reducible first | exact HB.out | apply below_alloc | apply pw_below_drewN | apply below_drew1) | exact HB.out)) hb); have n1_ := Aside0.mk (hbox); have n2_ := Aside0.mk ((by rw [hg]; exact (below_size (by repeat (first | (with_reducible first | exact HB.out | apply below_alloc | apply pw_below_drewN | apply below_drew1) | exact HB.out))) : w.heap.size ≤ gb151)); have n3_ := Aside0.mk ((by rw [hg]; exact (below_size (by repeat (first | (with_reducible first | exact HB.out | apply below_alloc | apply pw_below_drewN | apply below_drew1) | exact HB.out))) : w.heap.size ≤ gb151)); clear HB; have HB := n0_; have BK151 := n1_; have GW151 := n2_; have GE151 := n3_; clear n0_ n1_ n2_ n3_; clear hb hbox hg; have hcz7_0 : w6.cell? ⟨gb151, 0, none⟩ = some (.int .i64 a0_0) := (blk_cell BK151.out 0).trans rfl; have hcz7_1 : w6.cell? ⟨gb151, 1, none⟩ = some (.int .i64 a0_1) := (blk_cell BK151.out 1).trans rfl; have hfz7_0 := blk_frozen BK151.out 0; have hfz7_1 := blk_frozen BK151.out 1))
     go_ret
     exact ⟨by first | rfl | (simp [errW_none, errW_some] <;> rfl) | (simp [*, errW_none, errW_some] <;> rfl), by repeat (first | (with_reducible first | exact HB.out | apply below_alloc | apply pw_below_drewN | apply below_drew1 | refine below_set ?_ GE151.out) | exact HB.out)⟩
    ·rw [if_neg c5] at H
     have c5b0 : decide (a0_1 < 8) = false := decide_eq_false c5
     clear c5
     obtain rfl := Option.some.inj H
     go_enter Try.func50, Try.ntmps50
     go_wp2_with (first | ((with_reducible refine gate_dst (N := 1) rfl ?_); refine box_event ?hg (N := 1) ?hd (cs := #[.int .i64 a0_0, .int .i64 a0_1]) (t := 42) ?hr ?_; (case hd => rfl); (case hg => rfl); (case hr => first | (go_simp; done) | (go_simp; rfl)); intro gb151 hg w8 hbox hb; have n0_ := Aside0.mk (below_step (by repeat (first | (with_reducible first | exact HB.out | apply below_alloc | apply pw_below_drewN | apply below_drew1) | exact HB.out)) hb); have n1_ := Aside0.mk (hbox); have n2_ := Aside0.mk ((by rw [hg]; exact (below_size (by repeat (first | (with_reducible first | exact HB.out | apply below_alloc | apply pw_below_drewN | apply below_drew1) | exact HB.out))) : w.heap.size ≤ gb151)); have n3_ := Aside0.mk ((by rw [hg]; exact (below_size (by repeat (first | (with_reducible first | exact HB.out | apply below_alloc | apply pw_below_drewN | apply below_drew1) | exact HB.out))) : w.heap.size ≤ gb151)); clear HB; have HB := n0_; have BK151 := n1_; have GW151 := n2_; have GE151 := n3_; clear n0_ n1_ n2_ n3_; clear hb hbox hg; have hcz9_0 : w8.cell? ⟨gb151, 0, none⟩ = some (.int .i64 a0_0) := (blk_cell BK151.out 0).trans rfl; have hcz9_1 : w8.cell? ⟨gb151, 1, none⟩ = some (.int .i64 a0_1) := (blk_cell BK151.out 1).trans rfl; have hfz9_0 := blk_frozen BK151.out 0; have hfz9_1 := blk_frozen BK151.out 1))
     go_ret
     exact ⟨by first | rfl | (simp [errW_none, errW_some] <;> rfl) | (simp [*, errW_none, errW_some] <;> rfl), by repeat (first | (with_reducible first | exact HB.out | apply below_alloc | apply pw_below_drewN | apply below_drew1 | refine below_set ?_ GE151.out) | exact HB.out)⟩
   ·rw [if_neg c4] at H
    have c4b0 : decide (0 ≤ a0_1) = false := decide_eq_false c4
    clear c4
    obtain rfl := Option.some.inj H
    go_enter Try.func50, Try.ntmps50
    go_wp2_with (first | ((with_reducible refine gate_dst (N := 1) rfl ?_); refine box_event ?hg (N := 1) ?hd (cs := #[.int .i64 a0_0, .int .i64 a0_1]) (t := 42) ?hr ?_; (case hd => rfl); (case hg => rfl); (case hr => first | (go_simp; done) | (go_simp; rfl)); intro gb151 hg w10 hbox hb; have n0_ := Aside0.mk (below_step (by repeat (first | (with_reducible first | exact HB.out | apply below_alloc | apply pw_below_drewN | apply below_drew1) | exact HB.out)) hb); have n1_ := Aside0.mk (hbox); have n2_ := Aside0.mk ((by rw [hg]; exact (below_size (by repeat (first | (with_reducible first | exact HB.out | apply below_alloc | apply pw_below_drewN | apply below_drew1) | exact HB.out))) : w.heap.size ≤ gb151)); have n3_ := Aside0.mk ((by rw [hg]; exact (below_size (by repeat (first | (with_reducible first | exact HB.out | apply below_alloc | apply pw_below_drewN | apply below_drew1) | exact HB.out))) : w.heap.size ≤ gb151)); clear HB; have HB := n0_; have BK151 := n1_; have GW151 := n2_; have GE151 := n3_; clear n0_ n1_ n2_ n3_; clear hb hbox hg; have hcz11_0 : w10.cell? ⟨gb151, 0, none⟩ = some (.int .i64 a0_0) := (blk_cell BK151.out 0).trans rfl; have hcz11_1 : w10.cell? ⟨gb151, 1, none⟩ = some (.int .i64 a0_1) := (blk_cell BK151.out 1).trans rfl; have hfz11_0 := blk_frozen BK151.out 0; have hfz11_1 := blk_frozen BK151.out 1))
    go_ret
    exact ⟨by first | rfl | (simp [errW_none, errW_some] <;> rfl) | (simp [*, errW_none, errW_some] <;> rfl), by repeat (first | (with_reducible first | exact HB.out | apply below_alloc | apply pw_below_drewN | apply below_drew1 | refine below_set ?_ GE151.out) | exact HB.out)⟩
  ·rw [if_neg c3] at H
   have c3b0 : decide (a0_0 ≤ 1099511627776) = false := decide_eq_false c3
   clear c3
   obtain rfl := Option.some.inj H
   go_enter Try.func50, Try.ntmps50
   go_wp2_with (first | ((with_reducible refine gate_dst (N := 1) rfl ?_); refine box_event ?hg (N := 1) ?hd (cs := #[.int .i64 a0_0, .int .i64 a0_1]) (t := 42) ?hr ?_; (case hd => rfl); (case hg => rfl); (case hr => first | (go_simp; done) | (go_simp; rfl)); intro gb151 hg w12 hbox hb; have n0_ := Aside0.mk (below_step (by repeat (first | (with_reducible first | exact HB.out | apply below_alloc | apply pw_below_drewN | apply below_drew1) | exact HB.out)) hb); have n1_ := Aside0.mk (hbox); have n2_ := Aside0.mk ((by rw [hg]; exact (below_size (by repeat (first | (with_reducible first | exact HB.out | apply below_alloc | apply pw_below_drewN | apply below_drew1) | exact HB.out))) : w.heap.size ≤ gb151)); have n3_ := Aside0.mk ((by rw [hg]; exact (below_size (by repeat (first | (with_reducible first | exact HB.out | apply below_alloc | apply pw_below_drewN | apply below_drew1) | exact HB.out))) : w.heap.size ≤ gb151)); clear HB; have HB := n0_; have BK151 := n1_; have GW151 := n2_; have GE151 := n3_; clear n0_ n1_ n2_ n3_; clear hb hbox hg; have hcz13_0 : w12.cell? ⟨gb151, 0, none⟩ = some (.int .i64 a0_0) := (blk_cell BK151.out 0).trans rfl; have hcz13_1 : w12.cell? ⟨gb151, 1, none⟩ = some (.int .i64 a0_1) := (blk_cell BK151.out 1).trans rfl; have hfz13_0 := blk_frozen BK151.out 0; have hfz13_1 := blk_frozen BK151.out 1))
   go_ret
   exact ⟨by first | rfl | (simp [errW_none, errW_some] <;> rfl) | (simp [*, errW_none, errW_some] <;> rfl), by repeat (first | (with_reducible first | exact HB.out | apply below_alloc | apply pw_below_drewN | apply below_drew1 | refine below_set ?_ GE151.out) | exact HB.out)⟩
 ·rw [if_neg c2] at H
  have c2b0 : decide (1 ≤ a0_0) = false := decide_eq_false c2
  clear c2
  obtain rfl := Option.some.inj H
  go_enter Try.func50, Try.ntmps50
  go_wp2_with (first | ((with_reducible refine gate_dst (N := 1) rfl ?_); refine box_event ?hg (N := 1) ?hd (cs := #[.int .i64 a0_0, .int .i64 a0_1]) (t := 42) ?hr ?_; (case hd => rfl); (case hg => rfl); (case hr => first | (go_simp; done) | (go_simp; rfl)); intro gb151 hg w14 hbox hb; have n0_ := Aside0.mk (below_step (by repeat (first | (with_reducible first | exact HB.out | apply below_alloc | apply pw_below_drewN | apply below_drew1) | exact HB.out)) hb); have n1_ := Aside0.mk (hbox); have n2_ := Aside0.mk ((by rw [hg]; exact (below_size (by repeat (first | (with_reducible first | exact HB.out | apply below_alloc | apply pw_below_drewN | apply below_drew1) | exact HB.out))) : w.heap.size ≤ gb151)); have n3_ := Aside0.mk ((by rw [hg]; exact (below_size (by repeat (first | (with_reducible first | exact HB.out | apply below_alloc | apply pw_below_drewN | apply below_drew1) | exact HB.out))) : w.heap.size ≤ gb151)); clear HB; have HB := n0_; have BK151 := n1_; have GW151 := n2_; have GE151 := n3_; clear n0_ n1_ n2_ n3_; clear hb hbox hg; have hcz15_0 : w14.cell? ⟨gb151, 0, none⟩ = some (.int .i64 a0_0) := (blk_cell BK151.out 0).trans rfl; have hcz15_1 : w14.cell? ⟨gb151, 1, none⟩ = some (.int .i64 a0_1) := (blk_cell BK151.out 1).trans rfl; have hfz15_0 := blk_frozen BK151.out 0; have hfz15_1 := blk_frozen BK151.out 1))
  go_ret
  exact ⟨by first | rfl | (simp [errW_none, errW_some] <;> rfl) | (simp [*, errW_none, errW_some] <;> rfl), by repeat (first | (with_reducible first | exact HB.out | apply below_alloc | apply pw_below_drewN | apply below_drew1 | refine below_set ?_ GE151.out) | exact HB.out)⟩

/-! ### item_Check: function 34 -/
def item_Check.f (a0_0 : ByteArray) (a0_1 : Int) (a0_2 : Int) (a0_3 : ByteArray) (a0_4 : Bool) : Option (Int) := if (a0_0.size : Int) > 16 then (some 20) else ((item_CheckVersion.f a0_1 a0_2).bind fun t153 => (if t153 = 0 then (if (a0_3.size : Int) > 32 then (some 31) else (if a0_4 = true then (if a0_3.toList = ([] : List UInt8) then (some 0) else (some 32)) else (some 0))) else (some 30)))
set_option maxHeartbeats 8000000 in
set_option maxRecDepth 100000 in
theorem item_Check.calls (a0_0 : ByteArray) (a0_1 : Int) (a0_2 : Int) (a0_3 : ByteArray) (a0_4 : Bool) (r : Int) (w : World) (h : item_Check.f a0_0 a0_1 a0_2 a0_3 a0_4 = some r) :
    Calls Try.prog 34 #[.agg #[.string a0_0, .int .i64 a0_1, .int .i64 a0_2, .string a0_3, .bool a0_4]] w fun e w' => e = .returned (.int .i64 r) ∧ Below w.heap.size w w' := by
 have hu44 := Try.underlying44
 have hu42 := Try.underlying42
 have HB := Aside0.mk (Below.refl w.heap.size w)
 have H : (if (a0_0.size : Int) > 16 then (some 20) else ((item_CheckVersion.f a0_1 a0_2).bind fun t153 => (if t153 = 0 then (if (a0_3.size : Int) > 32 then (some 31) else (if a0_4 = true then (if a0_3.toList = ([] : List UInt8) then (some 0) else (some 32)) else (some 0))) else (some 30)))) = some r := h
 clear h
 by_cases c2 : (a0_0.size : Int) > 16
 ·rw [if_pos c2] at H
  have c2b0 : decide (16 < (a0_0.size : Int)) = true := decide_eq_true c2
  have c2b1 : decide (16 < a0_0.size) = true := decide_eq_true (by omega)
  clear c2
  obtain rfl := Option.some.inj H
  go_enter Try.func34, Try.ntmps34
  go_wp2_with (first | ((with_reducible refine gate_dst (N := 1) rfl ?_); refine box_event ?hg (N := 1) ?hd (cs := #[.string a0_0, .int .i64 a0_1, .int .i64 a0_2, .string a0_3, .bool a0_4]) (t := 44) ?hr ?_; (case hd => rfl); (case hg => rfl); (case hr => first | (go_simp; done) | (go_simp; rfl)); intro gb152 hg w3 hbox hb; have n0_ := Aside0.mk (below_step (by repeat (first | (with_reducible first | exact HB.out | apply below_alloc | apply pw_below_drewN | apply below_drew1) | exact HB.out)) hb); have n1_ := Aside0.mk (hbox); have n2_ := Aside0.mk ((by rw [hg]; exact (below_size (by repeat (first | (with_reducible first | exact HB.out | apply below_alloc | apply pw_below_drewN | apply below_drew1) | exact HB.out))) : w.heap.size ≤ gb152)); have n3_ := Aside0.mk ((by rw [hg]; exact (below_size (by repeat (first | (with_reducible first | exact HB.out | apply below_alloc | apply pw_below_drewN | apply below_drew1) | exact HB.out))) : w.heap.size ≤ gb152)); clear HB; have HB := n0_; have BK152 := n1_; have GW152 := n2_; have GE152 := n3_; clear n0_ n1_ n2_ n3_; clear hb hbox hg; have hcz4_0 : w3.cell? ⟨gb152, 0, none⟩ = some (.string a0_0) := (blk_cell BK152.out 0).trans rfl; have hcz4_1 : w3.cell? ⟨gb152, 1, none⟩ = some (.int .i64 a0_1) := (blk_cell BK152.out 1).trans rfl; have hcz4_2 : w3.cell? ⟨gb152, 2, none⟩ = some (.int .i64 a0_2) := (blk_cell BK152.out 2).trans rfl; have hcz4_3 : w3.cell? ⟨gb152, 3, none⟩ = some (.string a0_3) := (blk_cell BK152.out 3).trans rfl; have hcz4_4 : w3.cell? ⟨gb152, 4, none⟩ = some (.bool a0_4) := (blk_cell BK152.out 4).trans rfl; have hfz4_0 := blk_frozen BK152.out 0; have hfz4_1 := blk_frozen BK152.out 1; have hfz4_2 := blk_frozen BK152.out 2; have hfz4_3 := blk_frozen BK152.out 3; have hfz4_4 := blk_frozen BK152.out 4))
  go_ret
  exact ⟨by first | rfl | (simp [errW_none, errW_some] <;> rfl) | (simp [*, errW_none, errW_some] <;> rfl), by repeat (first | (with_reducible first | exact HB.out | apply below_alloc | apply pw_below_drewN | apply below_drew1 | refine below_set ?_ GE152.out) | exact HB.out)⟩
 ·rw [if_neg c2] at H
  have c2b0 : decide (16 < (a0_0.size : Int)) = false := decide_eq_false c2
  have c2b1 : decide (16 < a0_0.size) = false := decide_eq_false (by omega)
  clear c2
  replace H := Option.bind_eq_some_iff.mp H
  obtain ⟨t153, A50, H⟩ := H
  replace H : (if t153 = 0 then (if (a0_3.size : Int) > 32 then (some 31) else (if a0_4 = true then (if a0_3.toList = ([] : List UInt8) then (some 0) else (some 32)) else (some 0))) else (some 30)) = some r := H
  have A5 := Aside0.mk A50
  clear A50
  by_cases c6 : t153 = 0
  ·rw [if_pos c6] at H
   have c6b0 : (t153 == 0) = true := beq_iff_eq.mpr c6
   have c6b1 : (t153 != 0) = false := bne_eq_false_iff_eq.mpr c6
   clear c6
   by_cases c7 : (a0_3.size : Int) > 32
   ·rw [if_pos c7] at H
    have c7b0 : decide (32 < (a0_3.size : Int)) = true := decide_eq_true c7
    have c7b1 : decide (32 < a0_3.size) = true := decide_eq_true (by omega)
    clear c7
    obtain rfl := Option.some.inj H
    go_enter Try.func34, Try.ntmps34
    go_wp2_with (first | ((with_reducible refine gate_dst (N := 1) rfl ?_); refine box_event ?hg (N := 1) ?hd (cs := #[.string a0_0, .int .i64 a0_1, .int .i64 a0_2, .string a0_3, .bool a0_4]) (t := 44) ?hr ?_; (case hd => rfl); (case hg => rfl); (case hr => first | (go_simp; done) | (go_simp; rfl)); intro gb152 hg w8 hbox hb; have n0_ := Aside0.mk (below_step (by repeat (first | (with_reducible first | exact HB.out | apply below_alloc | apply pw_below_drewN | apply below_drew1) | exact HB.out)) hb); have n1_ := Aside0.mk (hbox); have n2_ := Aside0.mk ((by rw [hg]; exact (below_size (by repeat (first | (with_reducible first | exact HB.out | apply below_alloc | apply pw_below_drewN | apply below_drew1) | exact HB.out))) : w.heap.size ≤ gb152)); have n3_ := Aside0.mk ((by rw [hg]; exact (below_size (by repeat (first | (with_reducible first | exact HB.out | apply below_alloc | apply pw_below_drewN | apply below_drew1) | exact HB.out))) : w.heap.size ≤ gb152)); clear HB; have HB := n0_; have BK152 := n1_; have GW152 := n2_; have GE152 := n3_; clear n0_ n1_ n2_ n3_; clear hb hbox hg; have hcz9_0 : w8.cell? ⟨gb152, 0, none⟩ = some (.string a0_0) := (blk_cell BK152.out 0).trans rfl; have hcz9_1 : w8.cell? ⟨gb152, 1, none⟩ = some (.int .i64 a0_1) := (blk_cell BK152.out 1).trans rfl; have hcz9_2 : w8.cell? ⟨gb152, 2, none⟩ = some (.int .i64 a0_2) := (blk_cell BK152.out 2).trans rfl; have hcz9_3 : w8.cell? ⟨gb152, 3, none⟩ = some (.string a0_3) := (blk_cell BK152.out 3).trans rfl; have hcz9_4 : w8.cell? ⟨gb152, 4, none⟩ = some (.bool a0_4) := (blk_cell BK152.out 4).trans rfl; have hfz9_0 := blk_frozen BK152.out 0; have hfz9_1 := blk_frozen BK152.out 1; have hfz9_2 := blk_frozen BK152.out 2; have hfz9_3 := blk_frozen BK152.out 3; have hfz9_4 := blk_frozen BK152.out 4) | ((with_reducible refine gate_callee (f := 50) rfl ?_); refine goesL_ (some 11) rfl rfl Try.func50 (by kernel_rfl) rfl #[.agg #[.int .i64 a0_1, .int .i64 a0_2]] rfl (by (try simp only [List.map_toArray, List.map_cons, List.map_nil]); first | done | rfl | (simp only [List.length_drop, List.length_take]; rfl)) ?_; (with_reducible refine (item_CheckVersion.calls a0_1 a0_2 t153 _ A5.out).mono ?_); rintro e w10 ⟨rfl, hb⟩; refine ⟨_, rfl, ?_⟩; have n0_ := Aside0.mk (blk_below (g := gb152) (o := .cells #[.string a0_0, .int .i64 a0_1, .int .i64 a0_2, .string a0_3, .bool a0_4] 44 (0, 0)) (by (with_reducible repeat (first | refine blk_drewN ?_ _ | refine blk_drew ?_ | refine blk_alloc ?_ _)); exact BK152.out) hb); have n1_ := Aside0.mk (below_step (by repeat (first | (with_reducible first | exact HB.out | apply below_alloc | apply pw_below_drewN | apply below_drew1 | refine below_set ?_ GE152.out) | exact HB.out)) hb); clear BK152; clear HB; have BK152 := n0_; have HB := n1_; clear n0_ n1_; (try clear hb); (try clear hb2); (try clear hk); (try clear hi); have hcz11_0 : w10.cell? ⟨gb152, 0, none⟩ = some (.string a0_0) := (blk_cell BK152.out 0).trans rfl; have hcz11_1 : w10.cell? ⟨gb152, 1, none⟩ = some (.int .i64 a0_1) := (blk_cell BK152.out 1).trans rfl; have hcz11_2 : w10.cell? ⟨gb152, 2, none⟩ = some (.int .i64 a0_2) := (blk_cell BK152.out 2).trans rfl; have hcz11_3 : w10.cell? ⟨gb152, 3, none⟩ = some (.string a0_3) := (blk_cell BK152.out 3).trans rfl; have hcz11_4 : w10.cell? ⟨gb152, 4, none⟩ = some (.bool a0_4) := (blk_cell BK152.out 4).trans rfl; have hfz11_0 := blk_frozen BK152.out 0; have hfz11_1 := blk_frozen BK152.out 1; have hfz11_2 := blk_frozen BK152.out 2; have hfz11_3 := blk_frozen BK152.out 3; have hfz11_4 := blk_frozen BK152.out 4))
    go_ret
    exact ⟨by first | rfl | (simp [errW_none, errW_some] <;> rfl) | (simp [*, errW_none, errW_some] <;> rfl), by repeat (first | (with_reducible first | exact HB.out | apply below_alloc | apply pw_below_drewN | apply below_drew1 | refine below_set ?_ GE152.out) | exact HB.out)⟩
   ·rw [if_neg c7] at H
    have c7b0 : decide (32 < (a0_3.size : Int)) = false := decide_eq_false c7
    have c7b1 : decide (32 < a0_3.size) = false := decide_eq_false (by omega)
    clear c7
    by_cases c12 : a0_4 = true
    ·subst c12
     have H1 : (if a0_3.toList = ([] : List UInt8) then (some 0) else (some 32)) = some r := by rw [if_pos rfl] at H; exact H
     clear H
     have H := H1
     clear H1
     by_cases c13 : a0_3.toList = ([] : List UInt8)
     ·rw [if_pos c13] at H
      have c13b0 : (a0_3.toList == ([] : List UInt8)) = true := beq_iff_eq.mpr c13
      (try (have c13b8 := c13b0; simp only [List.beq_nil_eq] at c13b8))
      have c13b1 : (a0_3.toList != ([] : List UInt8)) = false := bne_eq_false_iff_eq.mpr c13
      clear c13
      obtain rfl := Option.some.inj H
      go_enter Try.func34, Try.ntmps34
      go_wp2_with (first | ((with_reducible refine gate_dst (N := 1) rfl ?_); refine box_event ?hg (N := 1) ?hd (cs := #[.string a0_0, .int .i64 a0_1, .int .i64 a0_2, .string a0_3, .bool true]) (t := 44) ?hr ?_; (case hd => rfl); (case hg => rfl); (case hr => first | (go_simp; done) | (go_simp; rfl)); intro gb152 hg w14 hbox hb; have n0_ := Aside0.mk (below_step (by repeat (first | (with_reducible first | exact HB.out | apply below_alloc | apply pw_below_drewN | apply below_drew1) | exact HB.out)) hb); have n1_ := Aside0.mk (hbox); have n2_ := Aside0.mk ((by rw [hg]; exact (below_size (by repeat (first | (with_reducible first | exact HB.out | apply below_alloc | apply pw_below_drewN | apply below_drew1) | exact HB.out))) : w.heap.size ≤ gb152)); have n3_ := Aside0.mk ((by rw [hg]; exact (below_size (by repeat (first | (with_reducible first | exact HB.out | apply below_alloc | apply pw_below_drewN | apply below_drew1) | exact HB.out))) : w.heap.size ≤ gb152)); clear HB; have HB := n0_; have BK152 := n1_; have GW152 := n2_; have GE152 := n3_; clear n0_ n1_ n2_ n3_; clear hb hbox hg; have hcz15_0 : w14.cell? ⟨gb152, 0, none⟩ = some (.string a0_0) := (blk_cell BK152.out 0).trans rfl; have hcz15_1 : w14.cell? ⟨gb152, 1, none⟩ = some (.int .i64 a0_1) := (blk_cell BK152.out 1).trans rfl; have hcz15_2 : w14.cell? ⟨gb152, 2, none⟩ = some (.int .i64 a0_2) := (blk_cell BK152.out 2).trans rfl; have hcz15_3 : w14.cell? ⟨gb152, 3, none⟩ = some (.string a0_3) := (blk_cell BK152.out 3).trans rfl; have hcz15_4 : w14.cell? ⟨gb152, 4, none⟩ = some (.bool true) := (blk_cell BK152.out 4).trans rfl; have hfz15_0 := blk_frozen BK152.out 0; have hfz15_1 := blk_frozen BK152.out 1; have hfz15_2 := blk_frozen BK152.out 2; have hfz15_3 := blk_frozen BK152.out 3; have hfz15_4 := blk_frozen BK152.out 4) | ((with_reducible refine gate_callee (f := 50) rfl ?_); refine goesL_ (some 11) rfl rfl Try.func50 (by kernel_rfl) rfl #[.agg #[.int .i64 a0_1, .int .i64 a0_2]] rfl (by (try simp only [List.map_toArray, List.map_cons, List.map_nil]); first | done | rfl | (simp only [List.length_drop, List.length_take]; rfl)) ?_; (with_reducible refine (item_CheckVersion.calls a0_1 a0_2 t153 _ A5.out).mono ?_); rintro e w16 ⟨rfl, hb⟩; refine ⟨_, rfl, ?_⟩; have n0_ := Aside0.mk (blk_below (g := gb152) (o := .cells #[.string a0_0, .int .i64 a0_1, .int .i64 a0_2, .string a0_3, .bool true] 44 (0, 0)) (by (with_reducible repeat (first | refine blk_drewN ?_ _ | refine blk_drew ?_ | refine blk_alloc ?_ _)); exact BK152.out) hb); have n1_ := Aside0.mk (below_step (by repeat (first | (with_reducible first | exact HB.out | apply below_alloc | apply pw_below_drewN | apply below_drew1 | refine below_set ?_ GE152.out) | exact HB.out)) hb); clear BK152; clear HB; have BK152 := n0_; have HB := n1_; clear n0_ n1_; (try clear hb); (try clear hb2); (try clear hk); (try clear hi); have hcz17_0 : w16.cell? ⟨gb152, 0, none⟩ = some (.string a0_0) := (blk_cell BK152.out 0).trans rfl; have hcz17_1 : w16.cell? ⟨gb152, 1, none⟩ = some (.int .i64 a0_1) := (blk_cell BK152.out 1).trans rfl; have hcz17_2 : w16.cell? ⟨gb152, 2, none⟩ = some (.int .i64 a0_2) := (blk_cell BK152.out 2).trans rfl; have hcz17_3 : w16.cell? ⟨gb152, 3, none⟩ = some (.string a0_3) := (blk_cell BK152.out 3).trans rfl; have hcz17_4 : w16.cell? ⟨gb152, 4, none⟩ = some (.bool true) := (blk_cell BK152.out 4).trans rfl; have hfz17_0 := blk_frozen BK152.out 0; have hfz17_1 := blk_frozen BK152.out 1; have hfz17_2 := blk_frozen BK152.out 2; have hfz17_3 := blk_frozen BK152.out 3; have hfz17_4 := blk_frozen BK152.out 4))
      go_ret
      exact ⟨by first | rfl | (simp [errW_none, errW_some] <;> rfl) | (simp [*, errW_none, errW_some] <;> rfl), by repeat (first | (with_reducible first | exact HB.out | apply below_alloc | apply pw_below_drewN | apply below_drew1 | refine below_set ?_ GE152.out) | exact HB.out)⟩
     ·rw [if_neg c13] at H
      have c13b0 : (a0_3.toList == ([] : List UInt8)) = false := beq_eq_false_iff_ne.mpr c13
      (try (have c13b8 := c13b0; simp only [List.beq_nil_eq] at c13b8))
      have c13b1 : (a0_3.toList != ([] : List UInt8)) = true := bne_iff_ne.mpr c13
      obtain rfl := Option.some.inj H
      go_enter Try.func34, Try.ntmps34
      go_wp2_with (first | ((with_reducible refine gate_dst (N := 1) rfl ?_); refine box_event ?hg (N := 1) ?hd (cs := #[.string a0_0, .int .i64 a0_1, .int .i64 a0_2, .string a0_3, .bool true]) (t := 44) ?hr ?_; (case hd => rfl); (case hg => rfl); (case hr => first | (go_simp; done) | (go_simp; rfl)); intro gb152 hg w18 hbox hb; have n0_ := Aside0.mk (below_step (by repeat (first | (with_reducible first | exact HB.out | apply below_alloc | apply pw_below_drewN | apply below_drew1) | exact HB.out)) hb); have n1_ := Aside0.mk (hbox); have n2_ := Aside0.mk ((by rw [hg]; exact (below_size (by repeat (first | (with_reducible first | exact HB.out | apply below_alloc | apply pw_below_drewN | apply below_drew1) | exact HB.out))) : w.heap.size ≤ gb152)); have n3_ := Aside0.mk ((by rw [hg]; exact (below_size (by repeat (first | (with_reducible first | exact HB.out | apply below_alloc | apply pw_below_drewN | apply below_drew1) | exact HB.out))) : w.heap.size ≤ gb152)); clear HB; have HB := n0_; have BK152 := n1_; have GW152 := n2_; have GE152 := n3_; clear n0_ n1_ n2_ n3_; clear hb hbox hg; have hcz19_0 : w18.cell? ⟨gb152, 0, none⟩ = some (.string a0_0) := (blk_cell BK152.out 0).trans rfl; have hcz19_1 : w18.cell? ⟨gb152, 1, none⟩ = some (.int .i64 a0_1) := (blk_cell BK152.out 1).trans rfl; have hcz19_2 : w18.cell? ⟨gb152, 2, none⟩ = some (.int .i64 a0_2) := (blk_cell BK152.out 2).trans rfl; have hcz19_3 : w18.cell? ⟨gb152, 3, none⟩ = some (.string a0_3) := (blk_cell BK152.out 3).trans rfl; have hcz19_4 : w18.cell? ⟨gb152, 4, none⟩ = some (.bool true) := (blk_cell BK152.out 4).trans rfl; have hfz19_0 := blk_frozen BK152.out 0; have hfz19_1 := blk_frozen BK152.out 1; have hfz19_2 := blk_frozen BK152.out 2; have hfz19_3 := blk_frozen BK152.out 3; have hfz19_4 := blk_frozen BK152.out 4) | ((with_reducible refine gate_callee (f := 50) rfl ?_); refine goesL_ (some 11) rfl rfl Try.func50 (by kernel_rfl) rfl #[.agg #[.int .i64 a0_1, .int .i64 a0_2]] rfl (by (try simp only [List.map_toArray, List.map_cons, List.map_nil]); first | done | rfl | (simp only [List.length_drop, List.length_take]; rfl)) ?_; (with_reducible refine (item_CheckVersion.calls a0_1 a0_2 t153 _ A5.out).mono ?_); rintro e w20 ⟨rfl, hb⟩; refine ⟨_, rfl, ?_⟩; have n0_ := Aside0.mk (blk_below (g := gb152) (o := .cells #[.string a0_0, .int .i64 a0_1, .int .i64 a0_2, .string a0_3, .bool true] 44 (0, 0)) (by (with_reducible repeat (first | refine blk_drewN ?_ _ | refine blk_drew ?_ | refine blk_alloc ?_ _)); exact BK152.out) hb); have n1_ := Aside0.mk (below_step (by repeat (first | (with_reducible first | exact HB.out | apply below_alloc | apply pw_below_drewN | apply below_drew1 | refine below_set ?_ GE152.out) | exact HB.out)) hb); clear BK152; clear HB; have BK152 := n0_; have HB := n1_; clear n0_ n1_; (try clear hb); (try clear hb2); (try clear hk); (try clear hi); have hcz21_0 : w20.cell? ⟨gb152, 0, none⟩ = some (.string a0_0) := (blk_cell BK152.out 0).trans rfl; have hcz21_1 : w20.cell? ⟨gb152, 1, none⟩ = some (.int .i64 a0_1) := (blk_cell BK152.out 1).trans rfl; have hcz21_2 : w20.cell? ⟨gb152, 2, none⟩ = some (.int .i64 a0_2) := (blk_cell BK152.out 2).trans rfl; have hcz21_3 : w20.cell? ⟨gb152, 3, none⟩ = some (.string a0_3) := (blk_cell BK152.out 3).trans rfl; have hcz21_4 : w20.cell? ⟨gb152, 4, none⟩ = some (.bool true) := (blk_cell BK152.out 4).trans rfl; have hfz21_0 := blk_frozen BK152.out 0; have hfz21_1 := blk_frozen BK152.out 1; have hfz21_2 := blk_frozen BK152.out 2; have hfz21_3 := blk_frozen BK152.out 3; have hfz21_4 := blk_frozen BK152.out 4))
      go_ret
      exact ⟨by first | rfl | (simp [errW_none, errW_some] <;> rfl) | (simp [*, errW_none, errW_some] <;> rfl), by repeat (first | (with_reducible first | exact HB.out | apply below_alloc | apply pw_below_drewN | apply below_drew1 | refine below_set ?_ GE152.out) | exact HB.out)⟩
    ·replace c12 := Bool.eq_false_iff.mpr c12
     subst c12
     have H1 : (some 0) = some r := by rw [if_neg (show ¬ (false = true) by decide)] at H; exact H
     clear H
     have H := H1
     clear H1
     obtain rfl := Option.some.inj H
     go_enter Try.func34, Try.ntmps34
     go_wp2_with (first | ((with_reducible refine gate_dst (N := 1) rfl ?_); refine box_event ?hg (N := 1) ?hd (cs := #[.string a0_0, .int .i64 a0_1, .int .i64 a0_2, .string a0_3, .bool false]) (t := 44) ?hr ?_; (case hd => rfl); (case hg => rfl); (case hr => first | (go_simp; done) | (go_simp; rfl)); intro gb152 hg w22 hbox hb; have n0_ := Aside0.mk (below_step (by repeat (first | (with_reducible first | exact HB.out | apply below_alloc | apply pw_below_drewN | apply below_drew1) | exact HB.out)) hb); have n1_ := Aside0.mk (hbox); have n2_ := Aside0.mk ((by rw [hg]; exact (below_size (by repeat (first | (with_reducible first | exact HB.out | apply below_alloc | apply pw_below_drewN | apply below_drew1) | exact HB.out))) : w.heap.size ≤ gb152)); have n3_ := Aside0.mk ((by rw [hg]; exact (below_size (by repeat (first | (with_reducible first | exact HB.out | apply below_alloc | apply pw_below_drewN | apply below_drew1) | exact HB.out))) : w.heap.size ≤ gb152)); clear HB; have HB := n0_; have BK152 := n1_; have GW152 := n2_; have GE152 := n3_; clear n0_ n1_ n2_ n3_; clear hb hbox hg; have hcz23_0 : w22.cell? ⟨gb152, 0, none⟩ = some (.string a0_0) := (blk_cell BK152.out 0).trans rfl; have hcz23_1 : w22.cell? ⟨gb152, 1, none⟩ = some (.int .i64 a0_1) := (blk_cell BK152.out 1).trans rfl; have hcz23_2 : w22.cell? ⟨gb152, 2, none⟩ = some (.int .i64 a0_2) := (blk_cell BK152.out 2).trans rfl; have hcz23_3 : w22.cell? ⟨gb152, 3, none⟩ = some (.string a0_3) := (blk_cell BK152.out 3).trans rfl; have hcz23_4 : w22.cell? ⟨gb152, 4, none⟩ = some (.bool false) := (blk_cell BK152.out 4).trans rfl; have hfz23_0 := blk_frozen BK152.out 0; have hfz23_1 := blk_frozen BK152.out 1; have hfz23_2 := blk_frozen BK152.out 2; have hfz23_3 := blk_frozen BK152.out 3; have hfz23_4 := blk_frozen BK152.out 4) | ((with_reducible refine gate_callee (f := 50) rfl ?_); refine goesL_ (some 11) rfl rfl Try.func50 (by kernel_rfl) rfl #[.agg #[.int .i64 a0_1, .int .i64 a0_2]] rfl (by (try simp only [List.map_toArray, List.map_cons, List.map_nil]); first | done | rfl | (simp only [List.length_drop, List.length_take]; rfl)) ?_; (with_reducible refine (item_CheckVersion.calls a0_1 a0_2 t153 _ A5.out).mono ?_); rintro e w24 ⟨rfl, hb⟩; refine ⟨_, rfl, ?_⟩; have n0_ := Aside0.mk (blk_below (g := gb152) (o := .cells #[.string a0_0, .int .i64 a0_1, .int .i64 a0_2, .string a0_3, .bool false] 44 (0, 0)) (by (with_reducible repeat (first | refine blk_drewN ?_ _ | refine blk_drew ?_ | refine blk_alloc ?_ _)); exact BK152.out) hb); have n1_ := Aside0.mk (below_step (by repeat (first | (with_reducible first | exact HB.out | apply below_alloc | apply pw_below_drewN | apply below_drew1 | refine below_set ?_ GE152.out) | exact HB.out)) hb); clear BK152; clear HB; have BK152 := n0_; have HB := n1_; clear n0_ n1_; (try clear hb); (try clear hb2); (try clear hk); (try clear hi); have hcz25_0 : w24.cell? ⟨gb152, 0, none⟩ = some (.string a0_0) := (blk_cell BK152.out 0).trans rfl; have hcz25_1 : w24.cell? ⟨gb152, 1, none⟩ = some (.int .i64 a0_1) := (blk_cell BK152.out 1).trans rfl; have hcz25_2 : w24.cell? ⟨gb152, 2, none⟩ = some (.int .i64 a0_2) := (blk_cell BK152.out 2).trans rfl; have hcz25_3 : w24.cell? ⟨gb152, 3, none⟩ = some (.string a0_3) := (blk_cell BK152.out 3).trans rfl; have hcz25_4 : w24.cell? ⟨gb152, 4, none⟩ = some (.bool false) := (blk_cell BK152.out 4).trans rfl; have hfz25_0 := blk_frozen BK152.out 0; have hfz25_1 := blk_frozen BK152.out 1; have hfz25_2 := blk_frozen BK152.out 2; have hfz25_3 := blk_frozen BK152.out 3; have hfz25_4 := blk_frozen BK152.out 4))
     go_ret
     exact ⟨by first | rfl | (simp [errW_none, errW_some] <;> rfl) | (simp [*, errW_none, errW_some] <;> rfl), by repeat (first | (with_reducible first | exact HB.out | apply below_alloc | apply pw_below_drewN | apply below_drew1 | refine below_set ?_ GE152.out) | exact HB.out)⟩
  ·rw [if_neg c6] at H
   have c6b0 : (t153 == 0) = false := beq_eq_false_iff_ne.mpr c6
   have c6b1 : (t153 != 0) = true := bne_iff_ne.mpr c6
   obtain rfl := Option.some.inj H
   go_enter Try.func34, Try.ntmps34
   go_wp2_with (first | ((with_reducible refine gate_dst (N := 1) rfl ?_); refine box_event ?hg (N := 1) ?hd (cs := #[.string a0_0, .int .i64 a0_1, .int .i64 a0_2, .string a0_3, .bool a0_4]) (t := 44) ?hr ?_; (case hd => rfl); (case hg => rfl); (case hr => first | (go_simp; done) | (go_simp; rfl)); intro gb152 hg w26 hbox hb; have n0_ := Aside0.mk (below_step (by repeat (first | (with_reducible first | exact HB.out | apply below_alloc | apply pw_below_drewN | apply below_drew1) | exact HB.out)) hb); have n1_ := Aside0.mk (hbox); have n2_ := Aside0.mk ((by rw [hg]; exact (below_size (by repeat (first | (with_reducible first | exact HB.out | apply below_alloc | apply pw_below_drewN | apply below_drew1) | exact HB.out))) : w.heap.size ≤ gb152)); have n3_ := Aside0.mk ((by rw [hg]; exact (below_size (by repeat (first | (with_reducible first | exact HB.out | apply below_alloc | apply pw_below_drewN | apply below_drew1) | exact HB.out))) : w.heap.size ≤ gb152)); clear HB; have HB := n0_; have BK152 := n1_; have GW152 := n2_; have GE152 := n3_; clear n0_ n1_ n2_ n3_; clear hb hbox hg; have hcz27_0 : w26.cell? ⟨gb152, 0, none⟩ = some (.string a0_0) := (blk_cell BK152.out 0).trans rfl; have hcz27_1 : w26.cell? ⟨gb152, 1, none⟩ = some (.int .i64 a0_1) := (blk_cell BK152.out 1).trans rfl; have hcz27_2 : w26.cell? ⟨gb152, 2, none⟩ = some (.int .i64 a0_2) := (blk_cell BK152.out 2).trans rfl; have hcz27_3 : w26.cell? ⟨gb152, 3, none⟩ = some (.string a0_3) := (blk_cell BK152.out 3).trans rfl; have hcz27_4 : w26.cell? ⟨gb152, 4, none⟩ = some (.bool a0_4) := (blk_cell BK152.out 4).trans rfl; have hfz27_0 := blk_frozen BK152.out 0; have hfz27_1 := blk_frozen BK152.out 1; have hfz27_2 := blk_frozen BK152.out 2; have hfz27_3 := blk_frozen BK152.out 3; have hfz27_4 := blk_frozen BK152.out 4) | ((with_reducible refine gate_callee (f := 50) rfl ?_); refine goesL_ (some 11) rfl rfl Try.func50 (by kernel_rfl) rfl #[.agg #[.int .i64 a0_1, .int .i64 a0_2]] rfl (by (try simp only [List.map_toArray, List.map_cons, List.map_nil]); first | done | rfl | (simp only [List.length_drop, List.length_take]; rfl)) ?_; (with_reducible refine (item_CheckVersion.calls a0_1 a0_2 t153 _ A5.out).mono ?_); rintro e w28 ⟨rfl, hb⟩; refine ⟨_, rfl, ?_⟩; have n0_ := Aside0.mk (blk_below (g := gb152) (o := .cells #[.string a0_0, .int .i64 a0_1, .int .i64 a0_2, .string a0_3, .bool a0_4] 44 (0, 0)) (by (with_reducible repeat (first | refine blk_drewN ?_ _ | refine blk_drew ?_ | refine blk_alloc ?_ _)); exact BK152.out) hb); have n1_ := Aside0.mk (below_step (by repeat (first | (with_reducible first | exact HB.out | apply below_alloc | apply pw_below_drewN | apply below_drew1 | refine below_set ?_ GE152.out) | exact HB.out)) hb); clear BK152; clear HB; have BK152 := n0_; have HB := n1_; clear n0_ n1_; (try clear hb); (try clear hb2); (try clear hk); (try clear hi)))
   go_ret
   exact ⟨by first | rfl | (simp [errW_none, errW_some] <;> rfl) | (simp [*, errW_none, errW_some] <;> rfl), by repeat (first | (with_reducible first | exact HB.out | apply below_alloc | apply pw_below_drewN | apply below_drew1 | refine below_set ?_ GE152.out) | exact HB.out)⟩

/-! ### merge_Check: function 14 -/
def merge_Check.l0 : Nat → List (S44) → List (S44) → Int → Int → Option (Int)
  | 0, _, _, _, _ => none
  | k + 1, x0, x6, x7, x8 => if x8 < x7 then (if 0 ≤ x8 then (if x8 < (x6.length : Int) then ((item_Check.f ((rd_T44 x6 x8).f0) ((rd_T44 x6 x8).f1.f0) ((rd_T44 x6 x8).f1.f1) ((rd_T44 x6 x8).f2) ((rd_T44 x6 x8).f3)).bind fun t156 => (if t156 = 0 then (if x8 > 0 then (if 0 ≤ (wrap64 (x8 - 1)) then (if (wrap64 (x8 - 1)) < (x0.length : Int) then (if ((Op.bytesLess (((rd_T44 x0 (wrap64 (x8 - 1))).f0).toList) (((rd_T44 x6 x8).f0).toList)) = true) then (merge_Check.l0 k x0 x6 x7 (wrap64 (x8 + 1))) else (some 90)) else (none)) else (none)) else (merge_Check.l0 k x0 x6 x7 (wrap64 (x8 + 1)))) else (some t156))) else (none)) else (none)) else (some 0)
def merge_Check.f (k : Nat) (l0 : List (S44)) : Option (Int) := merge_Check.l0 k l0 l0 (l0.length : Int) 0
theorem merge_Check.mono_l : ∀ k, (∀ y0 y1 y2 y3, LeO (merge_Check.l0 k y0 y1 y2 y3) (merge_Check.l0 (k + 1) y0 y1 y2 y3))
  | 0 => fun _ _ _ _ r h => by simp [merge_Check.l0] at h
  | k + 1 => by
    have ih0 := merge_Check.mono_l k
    · intro y0 y1 y2 y3
      unfold merge_Check.l0
      repeat' first
      | (with_reducible exact ih0 _ _ _ _)
      | (with_reducible exact LeO.refl _)
      | (with_reducible exact LeO.none _)
      | (with_reducible refine LeO.ite ?_ ?_)
      | (with_reducible refine LeO.bind ?_ (fun _ => ?_))
      | exact ih0 _ _ _ _
      | exact LeO.none _
      | refine LeO.ite ?_ ?_
      | refine LeO.bind ?_ (fun _ => ?_)
theorem merge_Check.mono : ∀ a0 k, LeO (merge_Check.f k a0) (merge_Check.f (k + 1) a0) := by
  intro a0 k
  have ih0 := merge_Check.mono_l k
  unfold merge_Check.f
  repeat' first
      | (with_reducible exact ih0 _ _ _ _)
      | (with_reducible exact LeO.refl _)
      | (with_reducible exact LeO.none _)
      | (with_reducible refine LeO.ite ?_ ?_)
      | (with_reducible refine LeO.bind ?_ (fun _ => ?_))
      | exact ih0 _ _ _ _
      | exact LeO.none _
      | refine LeO.ite ?_ ?_
      | refine LeO.bind ?_ (fun _ => ?_)
set_option maxHeartbeats 8000000 in
set_option maxRecDepth 100000 in
theorem merge_Check.calls (k : Nat) (A0 : Option Addr) (c0 : Nat) (l0 : List (S44)) (r : Int) (w : World) (hr0 : Kd.C k44 w A0 l0.length l0) (hc0 : l0.length ≤ c0) (h : merge_Check.f k l0 = some r) :
    Calls Try.prog 14 #[.slice A0 l0.length c0] w fun e w' => e = .returned (.int .i64 r) ∧ Below w.heap.size w w' := by
 have hu44:=Try.underlying44
 have HR0:=Aside0.mk hr0
 have HC0:=Aside0.mk hc0
 clear hr0 hc0
 have HB:=Aside0.mk (Below.refl w.heap.size w)
 have H : (merge_Check.l0 k l0 l0 (l0.length : Int) 0) = some r:=h
 clear h
 have H':=Aside0.mk H
 clear H
 go_enter Try.func14,Try.ntmps14
 go_wp2
 repeat (go_quiet (fail);try go_wp2)
 go_loopg [8] k (fun kq v8 w' => ∃ (x8_1 : Int),v8 = .int .i64 x8_1 ∧ Aside0 (merge_Check.l0 kq l0 l0 (l0.length : Int) x8_1 = some r) ∧ Aside0 (kq ≤ k) ∧ Aside0 (Below w.heap.size w w'))
 case atStart => exact ⟨(0),(by first|rfl|(simp;done)|(simp [*];done)|(simp [*,Go.Proofs.Ytghlellambnkeaa.Str.bne_nil];done)),H',⟨Nat.le_refl _⟩,⟨by repeat (first|(with_reducible first|exact HB.out|apply xA|apply xN|apply xD)|exact HB.out)⟩⟩
 case round =>
  clear H'
  try clear c1
  obtain ⟨x8_1,rfl,HA,HK1,HB⟩:=hrel
  cases gk with
 |zero => exact absurd HA.out (by simp [merge_Check.l0])
 |succ k1 =>
   have H:=HA.out
   clear HA
   simp only [merge_Check.l0] at H
   by_cases c2 : x8_1 < (l0.length : Int)
   ·rw [if_pos c2] at H
    have c2b0 : decide (x8_1 < (l0.length : Int)) = true:=decide_eq_true c2
    clear c2
    by_cases c3 : 0 ≤ x8_1
    ·rw [if_pos c3] at H
     have c3b0 : decide (0 ≤ x8_1) = true:=decide_eq_true c3
     clear c3
     by_cases c4 : x8_1 < (l0.length : Int)
     ·rw [if_pos c4] at H
      have c4b0 : decide (x8_1 < (l0.length : Int)) = true:=decide_eq_true c4
      clear c4
      replace H:=Option.bind_eq_some_iff.mp H
      obtain ⟨t156,A50,H⟩:=H
      replace H : (if t156 = 0 then (if x8_1 > 0 then (if 0 ≤ (wrap64 (x8_1 - 1)) then (if (wrap64 (x8_1 - 1)) < (l0.length : Int) then (if ((Op.bytesLess (((rd_T44 l0 (wrap64 (x8_1 - 1))).f0).toList) (((rd_T44 l0 x8_1).f0).toList)) = true) then (merge_Check.l0 k1 l0 l0 (l0.length : Int) (wrap64 (x8_1 + 1))) else (some 90)) else (none)) else (none)) else (merge_Check.l0 k1 l0 l0 (l0.length : Int) (wrap64 (x8_1 + 1)))) else (some t156)) = some r:=H
      have A5:=Aside0.mk A50
      clear A50
      by_cases c6 : t156 = 0
      ·rw [if_pos c6] at H
       have c6b0 : (t156 == 0) = true:=beq_iff_eq.mpr c6
       have c6b1 : (t156 != 0) = false:=bne_eq_false_iff_eq.mpr c6
       clear c6
       by_cases c7 : x8_1 > 0
       ·rw [if_pos c7] at H
        have c7b0 : decide (0 < x8_1) = true:=decide_eq_true c7
        clear c7
        obtain ⟨ji8,hji8⟩ : ∃ j_ : Int,(wrap64 (x8_1 - 1)) = j_:=⟨_,rfl⟩
        replace H : (if 0 ≤ (ji8) then (if (ji8) < (l0.length : Int) then (if ((Op.bytesLess (((rd_T44 l0 (ji8)).f0).toList) (((rd_T44 l0 x8_1).f0).toList)) = true) then (merge_Check.l0 k1 l0 l0 (l0.length : Int) (wrap64 (x8_1 + 1))) else (some 90)) else (none)) else (none)) = some r:=by first|(rw [hji8] at H;exact H)|(simp only [hji8] at H ⊢;exact H)
        (try rw [hji8] at A5)
        have hji8w : (IntKind.i64.wrap (x8_1 - 1)) = ji8:=(i64_w _).trans hji8
        by_cases c9 : 0 ≤ (ji8)
        ·rw [if_pos c9] at H
         have c9b0 : decide (0 ≤ (ji8)) = true:=decide_eq_true c9
         clear c9
         by_cases c10 : (ji8) < (l0.length : Int)
         ·rw [if_pos c10] at H
          have c10b0 : decide ((ji8) < (l0.length : Int)) = true:=decide_eq_true c10
          clear c10
          by_cases c11 : ((Op.bytesLess (((rd_T44 l0 (ji8)).f0).toList) (((rd_T44 l0 x8_1).f0).toList)) = true)
          ·rw [if_pos c11] at H
           have c11b0 : (Op.bytesLess (((rd_T44 l0 (ji8)).f0).toList) (((rd_T44 l0 x8_1).f0).toList)) = true:=c11
           clear c11
           have H':=Aside0.mk H
           clear H
           have p154 : 0 ≤ (x8_1 : Int):=of_decide_eq_true (by first|(with_reducible assumption)|assumption)
           have q154 : x8_1 < (l0.length : Int):=of_decide_eq_true (by first|(with_reducible assumption)|assumption)
           obtain ⟨ad154,e154,hx154_0,hx154_1,hx154_2,hx154_3,hx154_4⟩:=at_T44 HR0.out x8_1 p154 q154
           cases e154
           replace hx154_0:=(HB.out.cell (World.block_lt_of_cell? w _ hx154_0)).trans hx154_0
           replace hx154_1:=(HB.out.cell (World.block_lt_of_cell? w _ hx154_1)).trans hx154_1
           replace hx154_2:=(HB.out.cell (World.block_lt_of_cell? w _ hx154_2)).trans hx154_2
           replace hx154_3:=(HB.out.cell (World.block_lt_of_cell? w _ hx154_3)).trans hx154_3
           replace hx154_4:=(HB.out.cell (World.block_lt_of_cell? w _ hx154_4)).trans hx154_4
           replace p154:=eq_true p154
           replace q154:=eq_true q154
           go_wp2_with (first|((with_reducible refine gate_dst (N:=4) rfl ?_);refine box_event ?hg (N:=4) ?hd (cs:=#[.string (⟨#[]⟩ : ByteArray),.int .i64 0,.int .i64 0,.string (⟨#[]⟩ : ByteArray),.bool false]) (t:=44) ?hr ?_;(case hd => rfl);(case hg => rfl);(case hr => first|(go_simp;done)|(go_simp;rfl));intro gb155 hg w12 hbox hb;have n0_:=Aside0.mk (below_step (by repeat (first|(with_reducible first|exact HB.out|apply xA|apply xN|apply xD)|exact HB.out)) hb);have n1_:=Aside0.mk (hbox);have n2_:=Aside0.mk ((by rw [hg];exact (below_size (by repeat (first|(with_reducible first|exact HB.out|apply xA|apply xN|apply xD)|exact HB.out))) : w.heap.size ≤ gb155));have n3_:=Aside0.mk ((by rw [hg];exact (below_size (by repeat (first|(with_reducible first|exact HB.out|apply xA|apply xN|apply xD)|exact HB.out))) : w.heap.size ≤ gb155));clear HB;have HB:=n0_;have BK155:=n1_;have GW155:=n2_;have GE155:=n3_;clear n0_ n1_ n2_ n3_;clear hb hbox hg;have hcz13_0 : w12.cell? ⟨gb155,0,none⟩ = some (.string (⟨#[]⟩ : ByteArray)):=(blk_cell BK155.out 0).trans rfl;have hcz13_1 : w12.cell? ⟨gb155,1,none⟩ = some (.int .i64 0):=(blk_cell BK155.out 1).trans rfl;have hcz13_2 : w12.cell? ⟨gb155,2,none⟩ = some (.int .i64 0):=(blk_cell BK155.out 2).trans rfl;have hcz13_3 : w12.cell? ⟨gb155,3,none⟩ = some (.string (⟨#[]⟩ : ByteArray)):=(blk_cell BK155.out 3).trans rfl;have hcz13_4 : w12.cell? ⟨gb155,4,none⟩ = some (.bool false):=(blk_cell BK155.out 4).trans rfl;obtain ⟨hfz13_0,hfz13_1,hfz13_2⟩:=f3 BK155.out;have hfz13_3:=blk_frozen BK155.out 3;have hfz13_4:=blk_frozen BK155.out 4)|(go_at_call 34;(with_reducible refine (item_Check.calls ((rd_T44 l0 x8_1).f0) ((rd_T44 l0 x8_1).f1.f0) ((rd_T44 l0 x8_1).f1.f1) ((rd_T44 l0 x8_1).f2) ((rd_T44 l0 x8_1).f3) t156 _ A5.out).mono ?_);rintro e w14 ⟨rfl,hb⟩;replace BK155:=Aside0.mk (blk_below (g:=gb155) (o:=.cells #[.string ((rd_T44 l0 x8_1).f0),.int .i64 ((rd_T44 l0 x8_1).f1.f0),.int .i64 ((rd_T44 l0 x8_1).f1.f1),.string ((rd_T44 l0 x8_1).f2),.bool ((rd_T44 l0 x8_1).f3)] 44 (0,0)) (by (with_reducible repeat first|apply bN|apply bD|apply bA);refine blk_put (cs:=#[.string ((rd_T44 l0 x8_1).f0),.int .i64 ((rd_T44 l0 x8_1).f1.f0),.int .i64 ((rd_T44 l0 x8_1).f1.f1),.string ((rd_T44 l0 x8_1).f2),.bool false]) ?_ 4 _ rfl;(with_reducible repeat first|apply bN|apply bD|apply bA);refine blk_put (cs:=#[.string ((rd_T44 l0 x8_1).f0),.int .i64 ((rd_T44 l0 x8_1).f1.f0),.int .i64 ((rd_T44 l0 x8_1).f1.f1),.string (⟨#[]⟩ : ByteArray),.bool false]) ?_ 3 _ rfl;(with_reducible repeat first|apply bN|apply bD|apply bA);refine blk_put (cs:=#[.string ((rd_T44 l0 x8_1).f0),.int .i64 ((rd_T44 l0 x8_1).f1.f0),.int .i64 0,.string (⟨#[]⟩ : ByteArray),.bool false]) ?_ 2 _ rfl;(with_reducible repeat first|apply bN|apply bD|apply bA);refine blk_put (cs:=#[.string ((rd_T44 l0 x8_1).f0),.int .i64 0,.int .i64 0,.string (⟨#[]⟩ : ByteArray),.bool false]) ?_ 1 _ rfl;(with_reducible repeat first|apply bN|apply bD|apply bA);refine blk_put (cs:=#[.string (⟨#[]⟩ : ByteArray),.int .i64 0,.int .i64 0,.string (⟨#[]⟩ : ByteArray),.bool false]) ?_ 0 _ rfl;(with_reducible repeat first|apply bN|apply bD|apply bA);exact BK155.out) hb);replace HB:=Aside0.mk (below_step (by repeat (first|(with_reducible first|exact HB.out|apply xA|apply xN|apply xD|refine xS ?_ GE155.out)|exact HB.out)) hb);(try clear hb);(try clear hb2);(try clear hk);(try clear hi);have p157 : 0 ≤ ((ji8) : Int):=of_decide_eq_true (by first|(with_reducible assumption)|assumption);have q157 : (ji8) < (l0.length : Int):=of_decide_eq_true (by first|(with_reducible assumption)|assumption);obtain ⟨ad157,e157,hx157_0,hx157_1,hx157_2,hx157_3,hx157_4⟩:=at_T44 HR0.out (ji8) p157 q157;obtain rfl : ad154 = ad157:=(by injection e157);replace hx157_0:=(HB.out.cell (World.block_lt_of_cell? w _ hx157_0)).trans hx157_0;replace hx157_1:=(HB.out.cell (World.block_lt_of_cell? w _ hx157_1)).trans hx157_1;replace hx157_2:=(HB.out.cell (World.block_lt_of_cell? w _ hx157_2)).trans hx157_2;replace hx157_3:=(HB.out.cell (World.block_lt_of_cell? w _ hx157_3)).trans hx157_3;replace hx157_4:=(HB.out.cell (World.block_lt_of_cell? w _ hx157_4)).trans hx157_4;replace p157:=eq_true p157;replace q157:=eq_true q157;have hcz15_0 : w14.cell? ⟨gb155,0,none⟩ = some (.string ((rd_T44 l0 x8_1).f0)):=(blk_cell BK155.out 0).trans rfl;have hcz15_1 : w14.cell? ⟨gb155,1,none⟩ = some (.int .i64 ((rd_T44 l0 x8_1).f1.f0)):=(blk_cell BK155.out 1).trans rfl;have hcz15_2 : w14.cell? ⟨gb155,2,none⟩ = some (.int .i64 ((rd_T44 l0 x8_1).f1.f1)):=(blk_cell BK155.out 2).trans rfl;have hcz15_3 : w14.cell? ⟨gb155,3,none⟩ = some (.string ((rd_T44 l0 x8_1).f2)):=(blk_cell BK155.out 3).trans rfl;have hcz15_4 : w14.cell? ⟨gb155,4,none⟩ = some (.bool ((rd_T44 l0 x8_1).f3)):=(blk_cell BK155.out 4).trans rfl;obtain ⟨hfz15_0,hfz15_1,hfz15_2⟩:=f3 BK155.out;have hfz15_3:=blk_frozen BK155.out 3;have hfz15_4:=blk_frozen BK155.out 4))
           repeat (go_quiet (first|((with_reducible refine gate_dst (N:=4) rfl ?_);refine box_event ?hg (N:=4) ?hd (cs:=#[.string (⟨#[]⟩ : ByteArray),.int .i64 0,.int .i64 0,.string (⟨#[]⟩ : ByteArray),.bool false]) (t:=44) ?hr ?_;(case hd => rfl);(case hg => rfl);(case hr => first|(go_simp;done)|(go_simp;rfl));intro gb155 hg w12 hbox hb;have n0_:=Aside0.mk (below_step (by repeat (first|(with_reducible first|exact HB.out|apply xA|apply xN|apply xD)|exact HB.out)) hb);have n1_:=Aside0.mk (hbox);have n2_:=Aside0.mk ((by rw [hg];exact (below_size (by repeat (first|(with_reducible first|exact HB.out|apply xA|apply xN|apply xD)|exact HB.out))) : w.heap.size ≤ gb155));have n3_:=Aside0.mk ((by rw [hg];exact (below_size (by repeat (first|(with_reducible first|exact HB.out|apply xA|apply xN|apply xD)|exact HB.out))) : w.heap.size ≤ gb155));clear HB;have HB:=n0_;have BK155:=n1_;have GW155:=n2_;have GE155:=n3_;clear n0_ n1_ n2_ n3_;clear hb hbox hg;have hcz13_0 : w12.cell? ⟨gb155,0,none⟩ = some (.string (⟨#[]⟩ : ByteArray)):=(blk_cell BK155.out 0).trans rfl;have hcz13_1 : w12.cell? ⟨gb155,1,none⟩ = some (.int .i64 0):=(blk_cell BK155.out 1).trans rfl;have hcz13_2 : w12.cell? ⟨gb155,2,none⟩ = some (.int .i64 0):=(blk_cell BK155.out 2).trans rfl;have hcz13_3 : w12.cell? ⟨gb155,3,none⟩ = some (.string (⟨#[]⟩ : ByteArray)):=(blk_cell BK155.out 3).trans rfl;have hcz13_4 : w12.cell? ⟨gb155,4,none⟩ = some (.bool false):=(blk_cell BK155.out 4).trans rfl;obtain ⟨hfz13_0,hfz13_1,hfz13_2⟩:=f3 BK155.out;have hfz13_3:=blk_frozen BK155.out 3;have hfz13_4:=blk_frozen BK155.out 4)|(go_at_call 34;(with_reducible refine (item_Check.calls ((rd_T44 l0 x8_1).f0) ((rd_T44 l0 x8_1).f1.f0) ((rd_T44 l0 x8_1).f1.f1) ((rd_T44 l0 x8_1).f2) ((rd_T44 l0 x8_1).f3) t156 _ A5.out).mono ?_);rintro e w14 ⟨rfl,hb⟩;replace BK155:=Aside0.mk (blk_below (g:=gb155) (o:=.cells #[.string ((rd_T44 l0 x8_1).f0),.int .i64 ((rd_T44 l0 x8_1).f1.f0),.int .i64 ((rd_T44 l0 x8_1).f1.f1),.string ((rd_T44 l0 x8_1).f2),.bool ((rd_T44 l0 x8_1).f3)] 44 (0,0)) (by (with_reducible repeat first|apply bN|apply bD|apply bA);refine blk_put (cs:=#[.string ((rd_T44 l0 x8_1).f0),.int .i64 ((rd_T44 l0 x8_1).f1.f0),.int .i64 ((rd_T44 l0 x8_1).f1.f1),.string ((rd_T44 l0 x8_1).f2),.bool false]) ?_ 4 _ rfl;(with_reducible repeat first|apply bN|apply bD|apply bA);refine blk_put (cs:=#[.string ((rd_T44 l0 x8_1).f0),.int .i64 ((rd_T44 l0 x8_1).f1.f0),.int .i64 ((rd_T44 l0 x8_1).f1.f1),.string (⟨#[]⟩ : ByteArray),.bool false]) ?_ 3 _ rfl;(with_reducible repeat first|apply bN|apply bD|apply bA);refine blk_put (cs:=#[.string ((rd_T44 l0 x8_1).f0),.int .i64 ((rd_T44 l0 x8_1).f1.f0),.int .i64 0,.string (⟨#[]⟩ : ByteArray),.bool false]) ?_ 2 _ rfl;(with_reducible repeat first|apply bN|apply bD|apply bA);refine blk_put (cs:=#[.string ((rd_T44 l0 x8_1).f0),.int .i64 0,.int .i64 0,.string (⟨#[]⟩ : ByteArray),.bool false]) ?_ 1 _ rfl;(with_reducible repeat first|apply bN|apply bD|apply bA);refine blk_put (cs:=#[.string (⟨#[]⟩ : ByteArray),.int .i64 0,.int .i64 0,.string (⟨#[]⟩ : ByteArray),.bool false]) ?_ 0 _ rfl;(with_reducible repeat first|apply bN|apply bD|apply bA);exact BK155.out) hb);replace HB:=Aside0.mk (below_step (by repeat (first|(with_reducible first|exact HB.out|apply xA|apply xN|apply xD|refine xS ?_ GE155.out)|exact HB.out)) hb);(try clear hb);(try clear hb2);(try clear hk);(try clear hi);have p157 : 0 ≤ ((ji8) : Int):=of_decide_eq_true (by first|(with_reducible assumption)|assumption);have q157 : (ji8) < (l0.length : Int):=of_decide_eq_true (by first|(with_reducible assumption)|assumption);obtain ⟨ad157,e157,hx157_0,hx157_1,hx157_2,hx157_3,hx157_4⟩:=at_T44 HR0.out (ji8) p157 q157;obtain rfl : ad154 = ad157:=(by injection e157);replace hx157_0:=(HB.out.cell (World.block_lt_of_cell? w _ hx157_0)).trans hx157_0;replace hx157_1:=(HB.out.cell (World.block_lt_of_cell? w _ hx157_1)).trans hx157_1;replace hx157_2:=(HB.out.cell (World.block_lt_of_cell? w _ hx157_2)).trans hx157_2;replace hx157_3:=(HB.out.cell (World.block_lt_of_cell? w _ hx157_3)).trans hx157_3;replace hx157_4:=(HB.out.cell (World.block_lt_of_cell? w _ hx157_4)).trans hx157_4;replace p157:=eq_true p157;replace q157:=eq_true q157;have hcz15_0 : w14.cell? ⟨gb155,0,none⟩ = some (.string ((rd_T44 l0 x8_1).f0)):=(blk_cell BK155.out 0).trans rfl;have hcz15_1 : w14.cell? ⟨gb155,1,none⟩ = some (.int .i64 ((rd_T44 l0 x8_1).f1.f0)):=(blk_cell BK155.out 1).trans rfl;have hcz15_2 : w14.cell? ⟨gb155,2,none⟩ = some (.int .i64 ((rd_T44 l0 x8_1).f1.f1)):=(blk_cell BK155.out 2).trans rfl;have hcz15_3 : w14.cell? ⟨gb155,3,none⟩ = some (.string ((rd_T44 l0 x8_1).f2)):=(blk_cell BK155.out 3).trans rfl;have hcz15_4 : w14.cell? ⟨gb155,4,none⟩ = some (.bool ((rd_T44 l0 x8_1).f3)):=(blk_cell BK155.out 4).trans rfl;obtain ⟨hfz15_0,hfz15_1,hfz15_2⟩:=f3 BK155.out;have hfz15_3:=blk_frozen BK155.out 3;have hfz15_4:=blk_frozen BK155.out 4));try go_wp2_with (first|((with_reducible refine gate_dst (N:=4) rfl ?_);refine box_event ?hg (N:=4) ?hd (cs:=#[.string (⟨#[]⟩ : ByteArray),.int .i64 0,.int .i64 0,.string (⟨#[]⟩ : ByteArray),.bool false]) (t:=44) ?hr ?_;(case hd => rfl);(case hg => rfl);(case hr => first|(go_simp;done)|(go_simp;rfl));intro gb155 hg w12 hbox hb;have n0_:=Aside0.mk (below_step (by repeat (first|(with_reducible first|exact HB.out|apply xA|apply xN|apply xD)|exact HB.out)) hb);have n1_:=Aside0.mk (hbox);have n2_:=Aside0.mk ((by rw [hg];exact (below_size (by repeat (first|(with_reducible first|exact HB.out|apply xA|apply xN|apply xD)|exact HB.out))) : w.heap.size ≤ gb155));have n3_:=Aside0.mk ((by rw [hg];exact (below_size (by repeat (first|(with_reducible first|exact HB.out|apply xA|apply xN|apply xD)|exact HB.out))) : w.heap.size ≤ gb155));clear HB;have HB:=n0_;have BK155:=n1_;have GW155:=n2_;have GE155:=n3_;clear n0_ n1_ n2_ n3_;clear hb hbox hg;have hcz13_0 : w12.cell? ⟨gb155,0,none⟩ = some (.string (⟨#[]⟩ : ByteArray)):=(blk_cell BK155.out 0).trans rfl;have hcz13_1 : w12.cell? ⟨gb155,1,none⟩ = some (.int .i64 0):=(blk_cell BK155.out 1).trans rfl;have hcz13_2 : w12.cell? ⟨gb155,2,none⟩ = some (.int .i64 0):=(blk_cell BK155.out 2).trans rfl;have hcz13_3 : w12.cell? ⟨gb155,3,none⟩ = some (.string (⟨#[]⟩ : ByteArray)):=(blk_cell BK155.out 3).trans rfl;have hcz13_4 : w12.cell? ⟨gb155,4,none⟩ = some (.bool false):=(blk_cell BK155.out 4).trans rfl;obtain ⟨hfz13_0,hfz13_1,hfz13_2⟩:=f3 BK155.out;have hfz13_3:=blk_frozen BK155.out 3;have hfz13_4:=blk_frozen BK155.out 4)|(go_at_call 34;(with_reducible refine (item_Check.calls ((rd_T44 l0 x8_1).f0) ((rd_T44 l0 x8_1).f1.f0) ((rd_T44 l0 x8_1).f1.f1) ((rd_T44 l0 x8_1).f2) ((rd_T44 l0 x8_1).f3) t156 _ A5.out).mono ?_);rintro e w14 ⟨rfl,hb⟩;replace BK155:=Aside0.mk (blk_below (g:=gb155) (o:=.cells #[.string ((rd_T44 l0 x8_1).f0),.int .i64 ((rd_T44 l0 x8_1).f1.f0),.int .i64 ((rd_T44 l0 x8_1).f1.f1),.string ((rd_T44 l0 x8_1).f2),.bool ((rd_T44 l0 x8_1).f3)] 44 (0,0)) (by (with_reducible repeat first|apply bN|apply bD|apply bA);refine blk_put (cs:=#[.string ((rd_T44 l0 x8_1).f0),.int .i64 ((rd_T44 l0 x8_1).f1.f0),.int .i64 ((rd_T44 l0 x8_1).f1.f1),.string ((rd_T44 l0 x8_1).f2),.bool false]) ?_ 4 _ rfl;(with_reducible repeat first|apply bN|apply bD|apply bA);refine blk_put (cs:=#[.string ((rd_T44 l0 x8_1).f0),.int .i64 ((rd_T44 l0 x8_1).f1.f0),.int .i64 ((rd_T44 l0 x8_1).f1.f1),.string (⟨#[]⟩ : ByteArray),.bool false]) ?_ 3 _ rfl;(with_reducible repeat first|apply bN|apply bD|apply bA);refine blk_put (cs:=#[.string ((rd_T44 l0 x8_1).f0),.int .i64 ((rd_T44 l0 x8_1).f1.f0),.int .i64 0,.string (⟨#[]⟩ : ByteArray),.bool false]) ?_ 2 _ rfl;(with_reducible repeat first|apply bN|apply bD|apply bA);refine blk_put (cs:=#[.string ((rd_T44 l0 x8_1).f0),.int .i64 0,.int .i64 0,.string (⟨#[]⟩ : ByteArray),.bool false]) ?_ 1 _ rfl;(with_reducible repeat first|apply bN|apply bD|apply bA);refine blk_put (cs:=#[.string (⟨#[]⟩ : ByteArray),.int .i64 0,.int .i64 0,.string (⟨#[]⟩ : ByteArray),.bool false]) ?_ 0 _ rfl;(with_reducible repeat first|apply bN|apply bD|apply bA);exact BK155.out) hb);replace HB:=Aside0.mk (below_step (by repeat (first|(with_reducible first|exact HB.out|apply xA|apply xN|apply xD|refine xS ?_ GE155.out)|exact HB.out)) hb);(try clear hb);(try clear hb2);(try clear hk);(try clear hi);have p157 : 0 ≤ ((ji8) : Int):=of_decide_eq_true (by first|(with_reducible assumption)|assumption);have q157 : (ji8) < (l0.length : Int):=of_decide_eq_true (by first|(with_reducible assumption)|assumption);obtain ⟨ad157,e157,hx157_0,hx157_1,hx157_2,hx157_3,hx157_4⟩:=at_T44 HR0.out (ji8) p157 q157;obtain rfl : ad154 = ad157:=(by injection e157);replace hx157_0:=(HB.out.cell (World.block_lt_of_cell? w _ hx157_0)).trans hx157_0;replace hx157_1:=(HB.out.cell (World.block_lt_of_cell? w _ hx157_1)).trans hx157_1;replace hx157_2:=(HB.out.cell (World.block_lt_of_cell? w _ hx157_2)).trans hx157_2;replace hx157_3:=(HB.out.cell (World.block_lt_of_cell? w _ hx157_3)).trans hx157_3;replace hx157_4:=(HB.out.cell (World.block_lt_of_cell? w _ hx157_4)).trans hx157_4;replace p157:=eq_true p157;replace q157:=eq_true q157;have hcz15_0 : w14.cell? ⟨gb155,0,none⟩ = some (.string ((rd_T44 l0 x8_1).f0)):=(blk_cell BK155.out 0).trans rfl;have hcz15_1 : w14.cell? ⟨gb155,1,none⟩ = some (.int .i64 ((rd_T44 l0 x8_1).f1.f0)):=(blk_cell BK155.out 1).trans rfl;have hcz15_2 : w14.cell? ⟨gb155,2,none⟩ = some (.int .i64 ((rd_T44 l0 x8_1).f1.f1)):=(blk_cell BK155.out 2).trans rfl;have hcz15_3 : w14.cell? ⟨gb155,3,none⟩ = some (.string ((rd_T44 l0 x8_1).f2)):=(blk_cell BK155.out 3).trans rfl;have hcz15_4 : w14.cell? ⟨gb155,4,none⟩ = some (.bool ((rd_T44 l0 x8_1).f3)):=(blk_cell BK155.out 4).trans rfl;obtain ⟨hfz15_0,hfz15_1,hfz15_2⟩:=f3 BK155.out;have hfz15_3:=blk_frozen BK155.out 3;have hfz15_4:=blk_frozen BK155.out 4)))
           go_roundg k1
           case measure => have:=HK1.out;omega
           case rel => exact ⟨(wrap64 (x8_1 + 1)),(by first|rfl|(simp;done)|(simp [*];done)|(simp [*,Go.Proofs.Ytghlellambnkeaa.Str.bne_nil];done)),H',⟨by have:=HK1.out;omega⟩,⟨by repeat (first|(with_reducible first|exact HB.out|apply xA|apply xN|apply xD|refine xS ?_ GE155.out)|exact HB.out)⟩⟩
          ·rw [if_neg c11] at H
           have c11b0 : (Op.bytesLess (((rd_T44 l0 (ji8)).f0).toList) (((rd_T44 l0 x8_1).f0).toList)) = false:=by simpa using c11
           clear c11
           obtain rfl:=Option.some.inj H
           have p154 : 0 ≤ (x8_1 : Int):=of_decide_eq_true (by first|(with_reducible assumption)|assumption)
           have q154 : x8_1 < (l0.length : Int):=of_decide_eq_true (by first|(with_reducible assumption)|assumption)
           obtain ⟨ad154,e154,hx154_0,hx154_1,hx154_2,hx154_3,hx154_4⟩:=at_T44 HR0.out x8_1 p154 q154
           cases e154
           replace hx154_0:=(HB.out.cell (World.block_lt_of_cell? w _ hx154_0)).trans hx154_0
           replace hx154_1:=(HB.out.cell (World.block_lt_of_cell? w _ hx154_1)).trans hx154_1
           replace hx154_2:=(HB.out.cell (World.block_lt_of_cell? w _ hx154_2)).trans hx154_2
           replace hx154_3:=(HB.out.cell (World.block_lt_of_cell? w _ hx154_3)).trans hx154_3
           replace hx154_4:=(HB.out.cell (World.block_lt_of_cell? w _ hx154_4)).trans hx154_4
           replace p154:=eq_true p154
           replace q154:=eq_true q154
           go_wp2_with (first|((with_reducible refine gate_dst (N:=4) rfl ?_);refine box_event ?hg (N:=4) ?hd (cs:=#[.string (⟨#[]⟩ : ByteArray),.int .i64 0,.int .i64 0,.string (⟨#[]⟩ : ByteArray),.bool false]) (t:=44) ?hr ?_;(case hd => rfl);(case hg => rfl);(case hr => first|(go_simp;done)|(go_simp;rfl));intro gb155 hg w16 hbox hb;have n0_:=Aside0.mk (below_step (by repeat (first|(with_reducible first|exact HB.out|apply xA|apply xN|apply xD)|exact HB.out)) hb);have n1_:=Aside0.mk (hbox);have n2_:=Aside0.mk ((by rw [hg];exact (below_size (by repeat (first|(with_reducible first|exact HB.out|apply xA|apply xN|apply xD)|exact HB.out))) : w.heap.size ≤ gb155));have n3_:=Aside0.mk ((by rw [hg];exact (below_size (by repeat (first|(with_reducible first|exact HB.out|apply xA|apply xN|apply xD)|exact HB.out))) : w.heap.size ≤ gb155));clear HB;have HB:=n0_;have BK155:=n1_;have GW155:=n2_;have GE155:=n3_;clear n0_ n1_ n2_ n3_;clear hb hbox hg;have hcz17_0 : w16.cell? ⟨gb155,0,none⟩ = some (.string (⟨#[]⟩ : ByteArray)):=(blk_cell BK155.out 0).trans rfl;have hcz17_1 : w16.cell? ⟨gb155,1,none⟩ = some (.int .i64 0):=(blk_cell BK155.out 1).trans rfl;have hcz17_2 : w16.cell? ⟨gb155,2,none⟩ = some (.int .i64 0):=(blk_cell BK155.out 2).trans rfl;have hcz17_3 : w16.cell? ⟨gb155,3,none⟩ = some (.string (⟨#[]⟩ : ByteArray)):=(blk_cell BK155.out 3).trans rfl;have hcz17_4 : w16.cell? ⟨gb155,4,none⟩ = some (.bool false):=(blk_cell BK155.out 4).trans rfl;obtain ⟨hfz17_0,hfz17_1,hfz17_2⟩:=f3 BK155.out;have hfz17_3:=blk_frozen BK155.out 3;have hfz17_4:=blk_frozen BK155.out 4)|(go_at_call 34;(with_reducible refine (item_Check.calls ((rd_T44 l0 x8_1).f0) ((rd_T44 l0 x8_1).f1.f0) ((rd_T44 l0 x8_1).f1.f1) ((rd_T44 l0 x8_1).f2) ((rd_T44 l0 x8_1).f3) t156 _ A5.out).mono ?_);rintro e w18 ⟨rfl,hb⟩;replace BK155:=Aside0.mk (blk_below (g:=gb155) (o:=.cells #[.string ((rd_T44 l0 x8_1).f0),.int .i64 ((rd_T44 l0 x8_1).f1.f0),.int .i64 ((rd_T44 l0 x8_1).f1.f1),.string ((rd_T44 l0 x8_1).f2),.bool ((rd_T44 l0 x8_1).f3)] 44 (0,0)) (by (with_reducible repeat first|apply bN|apply bD|apply bA);refine blk_put (cs:=#[.string ((rd_T44 l0 x8_1).f0),.int .i64 ((rd_T44 l0 x8_1).f1.f0),.int .i64 ((rd_T44 l0 x8_1).f1.f1),.string ((rd_T44 l0 x8_1).f2),.bool false]) ?_ 4 _ rfl;(with_reducible repeat first|apply bN|apply bD|apply bA);refine blk_put (cs:=#[.string ((rd_T44 l0 x8_1).f0),.int .i64 ((rd_T44 l0 x8_1).f1.f0),.int .i64 ((rd_T44 l0 x8_1).f1.f1),.string (⟨#[]⟩ : ByteArray),.bool false]) ?_ 3 _ rfl;(with_reducible repeat first|apply bN|apply bD|apply bA);refine blk_put (cs:=#[.string ((rd_T44 l0 x8_1).f0),.int .i64 ((rd_T44 l0 x8_1).f1.f0),.int .i64 0,.string (⟨#[]⟩ : ByteArray),.bool false]) ?_ 2 _ rfl;(with_reducible repeat first|apply bN|apply bD|apply bA);refine blk_put (cs:=#[.string ((rd_T44 l0 x8_1).f0),.int .i64 0,.int .i64 0,.string (⟨#[]⟩ : ByteArray),.bool false]) ?_ 1 _ rfl;(with_reducible repeat first|apply bN|apply bD|apply bA);refine blk_put (cs:=#[.string (⟨#[]⟩ : ByteArray),.int .i64 0,.int .i64 0,.string (⟨#[]⟩ : ByteArray),.bool false]) ?_ 0 _ rfl;(with_reducible repeat first|apply bN|apply bD|apply bA);exact BK155.out) hb);replace HB:=Aside0.mk (below_step (by repeat (first|(with_reducible first|exact HB.out|apply xA|apply xN|apply xD|refine xS ?_ GE155.out)|exact HB.out)) hb);(try clear hb);(try clear hb2);(try clear hk);(try clear hi);have p157 : 0 ≤ ((ji8) : Int):=of_decide_eq_true (by first|(with_reducible assumption)|assumption);have q157 : (ji8) < (l0.length : Int):=of_decide_eq_true (by first|(with_reducible assumption)|assumption);obtain ⟨ad157,e157,hx157_0,hx157_1,hx157_2,hx157_3,hx157_4⟩:=at_T44 HR0.out (ji8) p157 q157;obtain rfl : ad154 = ad157:=(by injection e157);replace hx157_0:=(HB.out.cell (World.block_lt_of_cell? w _ hx157_0)).trans hx157_0;replace hx157_1:=(HB.out.cell (World.block_lt_of_cell? w _ hx157_1)).trans hx157_1;replace hx157_2:=(HB.out.cell (World.block_lt_of_cell? w _ hx157_2)).trans hx157_2;replace hx157_3:=(HB.out.cell (World.block_lt_of_cell? w _ hx157_3)).trans hx157_3;replace hx157_4:=(HB.out.cell (World.block_lt_of_cell? w _ hx157_4)).trans hx157_4;replace p157:=eq_true p157;replace q157:=eq_true q157;have hcz19_0 : w18.cell? ⟨gb155,0,none⟩ = some (.string ((rd_T44 l0 x8_1).f0)):=(blk_cell BK155.out 0).trans rfl;have hcz19_1 : w18.cell? ⟨gb155,1,none⟩ = some (.int .i64 ((rd_T44 l0 x8_1).f1.f0)):=(blk_cell BK155.out 1).trans rfl;have hcz19_2 : w18.cell? ⟨gb155,2,none⟩ = some (.int .i64 ((rd_T44 l0 x8_1).f1.f1)):=(blk_cell BK155.out 2).trans rfl;have hcz19_3 : w18.cell? ⟨gb155,3,none⟩ = some (.string ((rd_T44 l0 x8_1).f2)):=(blk_cell BK155.out 3).trans rfl;have hcz19_4 : w18.cell? ⟨gb155,4,none⟩ = some (.bool ((rd_T44 l0 x8_1).f3)):=(blk_cell BK155.out 4).trans rfl;obtain ⟨hfz19_0,hfz19_1,hfz19_2⟩:=f3 BK155.out;have hfz19_3:=blk_frozen BK155.out 3;have hfz19_4:=blk_frozen BK155.out 4))
           repeat (go_quiet (first|((with_reducible refine gate_dst (N:=4) rfl ?_);refine box_event ?hg (N:=4) ?hd (cs:=#[.string (⟨#[]⟩ : ByteArray),.int .i64 0,.int .i64 0,.string (⟨#[]⟩ : ByteArray),.bool false]) (t:=44) ?hr ?_;(case hd => rfl);(case hg => rfl);(case hr => first|(go_simp;done)|(go_simp;rfl));intro gb155 hg w16 hbox hb;have n0_:=Aside0.mk (below_step (by repeat (first|(with_reducible first|exact HB.out|apply xA|apply xN|apply xD)|exact HB.out)) hb);have n1_:=Aside0.mk (hbox);have n2_:=Aside0.mk ((by rw [hg];exact (below_size (by repeat (first|(with_reducible first|exact HB.out|apply xA|apply xN|apply xD)|exact HB.out))) : w.heap.size ≤ gb155));have n3_:=Aside0.mk ((by rw [hg];exact (below_size (by repeat (first|(with_reducible first|exact HB.out|apply xA|apply xN|apply xD)|exact HB.out))) : w.heap.size ≤ gb155));clear HB;have HB:=n0_;have BK155:=n1_;have GW155:=n2_;have GE155:=n3_;clear n0_ n1_ n2_ n3_;clear hb hbox hg;have hcz17_0 : w16.cell? ⟨gb155,0,none⟩ = some (.string (⟨#[]⟩ : ByteArray)):=(blk_cell BK155.out 0).trans rfl;have hcz17_1 : w16.cell? ⟨gb155,1,none⟩ = some (.int .i64 0):=(blk_cell BK155.out 1).trans rfl;have hcz17_2 : w16.cell? ⟨gb155,2,none⟩ = some (.int .i64 0):=(blk_cell BK155.out 2).trans rfl;have hcz17_3 : w16.cell? ⟨gb155,3,none⟩ = some (.string (⟨#[]⟩ : ByteArray)):=(blk_cell BK155.out 3).trans rfl;have hcz17_4 : w16.cell? ⟨gb155,4,none⟩ = some (.bool false):=(blk_cell BK155.out 4).trans rfl;obtain ⟨hfz17_0,hfz17_1,hfz17_2⟩:=f3 BK155.out;have hfz17_3:=blk_frozen BK155.out 3;have hfz17_4:=blk_frozen BK155.out 4)|(go_at_call 34;(with_reducible refine (item_Check.calls ((rd_T44 l0 x8_1).f0) ((rd_T44 l0 x8_1).f1.f0) ((rd_T44 l0 x8_1).f1.f1) ((rd_T44 l0 x8_1).f2) ((rd_T44 l0 x8_1).f3) t156 _ A5.out).mono ?_);rintro e w18 ⟨rfl,hb⟩;replace BK155:=Aside0.mk (blk_below (g:=gb155) (o:=.cells #[.string ((rd_T44 l0 x8_1).f0),.int .i64 ((rd_T44 l0 x8_1).f1.f0),.int .i64 ((rd_T44 l0 x8_1).f1.f1),.string ((rd_T44 l0 x8_1).f2),.bool ((rd_T44 l0 x8_1).f3)] 44 (0,0)) (by (with_reducible repeat first|apply bN|apply bD|apply bA);refine blk_put (cs:=#[.string ((rd_T44 l0 x8_1).f0),.int .i64 ((rd_T44 l0 x8_1).f1.f0),.int .i64 ((rd_T44 l0 x8_1).f1.f1),.string ((rd_T44 l0 x8_1).f2),.bool false]) ?_ 4 _ rfl;(with_reducible repeat first|apply bN|apply bD|apply bA);refine blk_put (cs:=#[.string ((rd_T44 l0 x8_1).f0),.int .i64 ((rd_T44 l0 x8_1).f1.f0),.int .i64 ((rd_T44 l0 x8_1).f1.f1),.string (⟨#[]⟩ : ByteArray),.bool false]) ?_ 3 _ rfl;(with_reducible repeat first|apply bN|apply bD|apply bA);refine blk_put (cs:=#[.string ((rd_T44 l0 x8_1).f0),.int .i64 ((rd_T44 l0 x8_1).f1.f0),.int .i64 0,.string (⟨#[]⟩ : ByteArray),.bool false]) ?_ 2 _ rfl;(with_reducible repeat first|apply bN|apply bD|apply bA);refine blk_put (cs:=#[.string ((rd_T44 l0 x8_1).f0),.int .i64 0,.int .i64 0,.string (⟨#[]⟩ : ByteArray),.bool false]) ?_ 1 _ rfl;(with_reducible repeat first|apply bN|apply bD|apply bA);refine blk_put (cs:=#[.string (⟨#[]⟩ : ByteArray),.int .i64 0,.int .i64 0,.string (⟨#[]⟩ : ByteArray),.bool false]) ?_ 0 _ rfl;(with_reducible repeat first|apply bN|apply bD|apply bA);exact BK155.out) hb);replace HB:=Aside0.mk (below_step (by repeat (first|(with_reducible first|exact HB.out|apply xA|apply xN|apply xD|refine xS ?_ GE155.out)|exact HB.out)) hb);(try clear hb);(try clear hb2);(try clear hk);(try clear hi);have p157 : 0 ≤ ((ji8) : Int):=of_decide_eq_true (by first|(with_reducible assumption)|assumption);have q157 : (ji8) < (l0.length : Int):=of_decide_eq_true (by first|(with_reducible assumption)|assumption);obtain ⟨ad157,e157,hx157_0,hx157_1,hx157_2,hx157_3,hx157_4⟩:=at_T44 HR0.out (ji8) p157 q157;obtain rfl : ad154 = ad157:=(by injection e157);replace hx157_0:=(HB.out.cell (World.block_lt_of_cell? w _ hx157_0)).trans hx157_0;replace hx157_1:=(HB.out.cell (World.block_lt_of_cell? w _ hx157_1)).trans hx157_1;replace hx157_2:=(HB.out.cell (World.block_lt_of_cell? w _ hx157_2)).trans hx157_2;replace hx157_3:=(HB.out.cell (World.block_lt_of_cell? w _ hx157_3)).trans hx157_3;replace hx157_4:=(HB.out.cell (World.block_lt_of_cell? w _ hx157_4)).trans hx157_4;replace p157:=eq_true p157;replace q157:=eq_true q157;have hcz19_0 : w18.cell? ⟨gb155,0,none⟩ = some (.string ((rd_T44 l0 x8_1).f0)):=(blk_cell BK155.out 0).trans rfl;have hcz19_1 : w18.cell? ⟨gb155,1,none⟩ = some (.int .i64 ((rd_T44 l0 x8_1).f1.f0)):=(blk_cell BK155.out 1).trans rfl;have hcz19_2 : w18.cell? ⟨gb155,2,none⟩ = some (.int .i64 ((rd_T44 l0 x8_1).f1.f1)):=(blk_cell BK155.out 2).trans rfl;have hcz19_3 : w18.cell? ⟨gb155,3,none⟩ = some (.string ((rd_T44 l0 x8_1).f2)):=(blk_cell BK155.out 3).trans rfl;have hcz19_4 : w18.cell? ⟨gb155,4,none⟩ = some (.bool ((rd_T44 l0 x8_1).f3)):=(blk_cell BK155.out 4).trans rfl;obtain ⟨hfz19_0,hfz19_1,hfz19_2⟩:=f3 BK155.out;have hfz19_3:=blk_frozen BK155.out 3;have hfz19_4:=blk_frozen BK155.out 4));try go_wp2_with (first|((with_reducible refine gate_dst (N:=4) rfl ?_);refine box_event ?hg (N:=4) ?hd (cs:=#[.string (⟨#[]⟩ : ByteArray),.int .i64 0,.int .i64 0,.string (⟨#[]⟩ : ByteArray),.bool false]) (t:=44) ?hr ?_;(case hd => rfl);(case hg => rfl);(case hr => first|(go_simp;done)|(go_simp;rfl));intro gb155 hg w16 hbox hb;have n0_:=Aside0.mk (below_step (by repeat (first|(with_reducible first|exact HB.out|apply xA|apply xN|apply xD)|exact HB.out)) hb);have n1_:=Aside0.mk (hbox);have n2_:=Aside0.mk ((by rw [hg];exact (below_size (by repeat (first|(with_reducible first|exact HB.out|apply xA|apply xN|apply xD)|exact HB.out))) : w.heap.size ≤ gb155));have n3_:=Aside0.mk ((by rw [hg];exact (below_size (by repeat (first|(with_reducible first|exact HB.out|apply xA|apply xN|apply xD)|exact HB.out))) : w.heap.size ≤ gb155));clear HB;have HB:=n0_;have BK155:=n1_;have GW155:=n2_;have GE155:=n3_;clear n0_ n1_ n2_ n3_;clear hb hbox hg;have hcz17_0 : w16.cell? ⟨gb155,0,none⟩ = some (.string (⟨#[]⟩ : ByteArray)):=(blk_cell BK155.out 0).trans rfl;have hcz17_1 : w16.cell? ⟨gb155,1,none⟩ = some (.int .i64 0):=(blk_cell BK155.out 1).trans rfl;have hcz17_2 : w16.cell? ⟨gb155,2,none⟩ = some (.int .i64 0):=(blk_cell BK155.out 2).trans rfl;have hcz17_3 : w16.cell? ⟨gb155,3,none⟩ = some (.string (⟨#[]⟩ : ByteArray)):=(blk_cell BK155.out 3).trans rfl;have hcz17_4 : w16.cell? ⟨gb155,4,none⟩ = some (.bool false):=(blk_cell BK155.out 4).trans rfl;obtain ⟨hfz17_0,hfz17_1,hfz17_2⟩:=f3 BK155.out;have hfz17_3:=blk_frozen BK155.out 3;have hfz17_4:=blk_frozen BK155.out 4)|(go_at_call 34;(with_reducible refine (item_Check.calls ((rd_T44 l0 x8_1).f0) ((rd_T44 l0 x8_1).f1.f0) ((rd_T44 l0 x8_1).f1.f1) ((rd_T44 l0 x8_1).f2) ((rd_T44 l0 x8_1).f3) t156 _ A5.out).mono ?_);rintro e w18 ⟨rfl,hb⟩;replace BK155:=Aside0.mk (blk_below (g:=gb155) (o:=.cells #[.string ((rd_T44 l0 x8_1).f0),.int .i64 ((rd_T44 l0 x8_1).f1.f0),.int .i64 ((rd_T44 l0 x8_1).f1.f1),.string ((rd_T44 l0 x8_1).f2),.bool ((rd_T44 l0 x8_1).f3)] 44 (0,0)) (by (with_reducible repeat first|apply bN|apply bD|apply bA);refine blk_put (cs:=#[.string ((rd_T44 l0 x8_1).f0),.int .i64 ((rd_T44 l0 x8_1).f1.f0),.int .i64 ((rd_T44 l0 x8_1).f1.f1),.string ((rd_T44 l0 x8_1).f2),.bool false]) ?_ 4 _ rfl;(with_reducible repeat first|apply bN|apply bD|apply bA);refine blk_put (cs:=#[.string ((rd_T44 l0 x8_1).f0),.int .i64 ((rd_T44 l0 x8_1).f1.f0),.int .i64 ((rd_T44 l0 x8_1).f1.f1),.string (⟨#[]⟩ : ByteArray),.bool false]) ?_ 3 _ rfl;(with_reducible repeat first|apply bN|apply bD|apply bA);refine blk_put (cs:=#[.string ((rd_T44 l0 x8_1).f0),.int .i64 ((rd_T44 l0 x8_1).f1.f0),.int .i64 0,.string (⟨#[]⟩ : ByteArray),.bool false]) ?_ 2 _ rfl;(with_reducible repeat first|apply bN|apply bD|apply bA);refine blk_put (cs:=#[.string ((rd_T44 l0 x8_1).f0),.int .i64 0,.int .i64 0,.string (⟨#[]⟩ : ByteArray),.bool false]) ?_ 1 _ rfl;(with_reducible repeat first|apply bN|apply bD|apply bA);refine blk_put (cs:=#[.string (⟨#[]⟩ : ByteArray),.int .i64 0,.int .i64 0,.string (⟨#[]⟩ : ByteArray),.bool false]) ?_ 0 _ rfl;(with_reducible repeat first|apply bN|apply bD|apply bA);exact BK155.out) hb);replace HB:=Aside0.mk (below_step (by repeat (first|(with_reducible first|exact HB.out|apply xA|apply xN|apply xD|refine xS ?_ GE155.out)|exact HB.out)) hb);(try clear hb);(try clear hb2);(try clear hk);(try clear hi);have p157 : 0 ≤ ((ji8) : Int):=of_decide_eq_true (by first|(with_reducible assumption)|assumption);have q157 : (ji8) < (l0.length : Int):=of_decide_eq_true (by first|(with_reducible assumption)|assumption);obtain ⟨ad157,e157,hx157_0,hx157_1,hx157_2,hx157_3,hx157_4⟩:=at_T44 HR0.out (ji8) p157 q157;obtain rfl : ad154 = ad157:=(by injection e157);replace hx157_0:=(HB.out.cell (World.block_lt_of_cell? w _ hx157_0)).trans hx157_0;replace hx157_1:=(HB.out.cell (World.block_lt_of_cell? w _ hx157_1)).trans hx157_1;replace hx157_2:=(HB.out.cell (World.block_lt_of_cell? w _ hx157_2)).trans hx157_2;replace hx157_3:=(HB.out.cell (World.block_lt_of_cell? w _ hx157_3)).trans hx157_3;replace hx157_4:=(HB.out.cell (World.block_lt_of_cell? w _ hx157_4)).trans hx157_4;replace p157:=eq_true p157;replace q157:=eq_true q157;have hcz19_0 : w18.cell? ⟨gb155,0,none⟩ = some (.string ((rd_T44 l0 x8_1).f0)):=(blk_cell BK155.out 0).trans rfl;have hcz19_1 : w18.cell? ⟨gb155,1,none⟩ = some (.int .i64 ((rd_T44 l0 x8_1).f1.f0)):=(blk_cell BK155.out 1).trans rfl;have hcz19_2 : w18.cell? ⟨gb155,2,none⟩ = some (.int .i64 ((rd_T44 l0 x8_1).f1.f1)):=(blk_cell BK155.out 2).trans rfl;have hcz19_3 : w18.cell? ⟨gb155,3,none⟩ = some (.string ((rd_T44 l0 x8_1).f2)):=(blk_cell BK155.out 3).trans rfl;have hcz19_4 : w18.cell? ⟨gb155,4,none⟩ = some (.bool ((rd_T44 l0 x8_1).f3)):=(blk_cell BK155.out 4).trans rfl;obtain ⟨hfz19_0,hfz19_1,hfz19_2⟩:=f3 BK155.out;have hfz19_3:=blk_frozen BK155.out 3;have hfz19_4:=blk_frozen BK155.out 4)))
           go_ret
           exact ⟨by first|rfl|(simp [errW_none,errW_some] <;> rfl)|(simp only [← hji8];first|rfl|(simp [errW_none,errW_some] <;> rfl))|(simp [*,errW_none,errW_some] <;> rfl),by repeat (first|(with_reducible first|exact HB.out|apply xA|apply xN|apply xD|refine xS ?_ GE155.out)|exact HB.out)⟩
         ·rw [if_neg c10] at H
          exact absurd H (by simp)
        ·rw [if_neg c9] at H
         exact absurd H (by simp)
       ·rw [if_neg c7] at H
        have c7b0 : decide (0 < x8_1) = false:=decide_eq_false c7
        clear c7
        have H':=Aside0.mk H
        clear H
        have p154 : 0 ≤ (x8_1 : Int):=of_decide_eq_true (by first|(with_reducible assumption)|assumption)
        have q154 : x8_1 < (l0.length : Int):=of_decide_eq_true (by first|(with_reducible assumption)|assumption)
        obtain ⟨ad154,e154,hx154_0,hx154_1,hx154_2,hx154_3,hx154_4⟩:=at_T44 HR0.out x8_1 p154 q154
        cases e154
        replace hx154_0:=(HB.out.cell (World.block_lt_of_cell? w _ hx154_0)).trans hx154_0
        replace hx154_1:=(HB.out.cell (World.block_lt_of_cell? w _ hx154_1)).trans hx154_1
        replace hx154_2:=(HB.out.cell (World.block_lt_of_cell? w _ hx154_2)).trans hx154_2
        replace hx154_3:=(HB.out.cell (World.block_lt_of_cell? w _ hx154_3)).trans hx154_3
        replace hx154_4:=(HB.out.cell (World.block_lt_of_cell? w _ hx154_4)).trans hx154_4
        replace p154:=eq_true p154
        replace q154:=eq_true q154
        go_wp2_with (first|((with_reducible refine gate_dst (N:=4) rfl ?_);refine box_event ?hg (N:=4) ?hd (cs:=#[.string (⟨#[]⟩ : ByteArray),.int .i64 0,.int .i64 0,.string (⟨#[]⟩ : ByteArray),.bool false]) (t:=44) ?hr ?_;(case hd => rfl);(case hg => rfl);(case hr => first|(go_simp;done)|(go_simp;rfl));intro gb155 hg w20 hbox hb;have n0_:=Aside0.mk (below_step (by repeat (first|(with_reducible first|exact HB.out|apply xA|apply xN|apply xD)|exact HB.out)) hb);have n1_:=Aside0.mk (hbox);have n2_:=Aside0.mk ((by rw [hg];exact (below_size (by repeat (first|(with_reducible first|exact HB.out|apply xA|apply xN|apply xD)|exact HB.out))) : w.heap.size ≤ gb155));have n3_:=Aside0.mk ((by rw [hg];exact (below_size (by repeat (first|(with_reducible first|exact HB.out|apply xA|apply xN|apply xD)|exact HB.out))) : w.heap.size ≤ gb155));clear HB;have HB:=n0_;have BK155:=n1_;have GW155:=n2_;have GE155:=n3_;clear n0_ n1_ n2_ n3_;clear hb hbox hg;have hcz21_0 : w20.cell? ⟨gb155,0,none⟩ = some (.string (⟨#[]⟩ : ByteArray)):=(blk_cell BK155.out 0).trans rfl;have hcz21_1 : w20.cell? ⟨gb155,1,none⟩ = some (.int .i64 0):=(blk_cell BK155.out 1).trans rfl;have hcz21_2 : w20.cell? ⟨gb155,2,none⟩ = some (.int .i64 0):=(blk_cell BK155.out 2).trans rfl;have hcz21_3 : w20.cell? ⟨gb155,3,none⟩ = some (.string (⟨#[]⟩ : ByteArray)):=(blk_cell BK155.out 3).trans rfl;have hcz21_4 : w20.cell? ⟨gb155,4,none⟩ = some (.bool false):=(blk_cell BK155.out 4).trans rfl;obtain ⟨hfz21_0,hfz21_1,hfz21_2⟩:=f3 BK155.out;have hfz21_3:=blk_frozen BK155.out 3;have hfz21_4:=blk_frozen BK155.out 4)|(go_at_call 34;(with_reducible refine (item_Check.calls ((rd_T44 l0 x8_1).f0) ((rd_T44 l0 x8_1).f1.f0) ((rd_T44 l0 x8_1).f1.f1) ((rd_T44 l0 x8_1).f2) ((rd_T44 l0 x8_1).f3) t156 _ A5.out).mono ?_);rintro e w22 ⟨rfl,hb⟩;replace BK155:=Aside0.mk (blk_below (g:=gb155) (o:=.cells #[.string ((rd_T44 l0 x8_1).f0),.int .i64 ((rd_T44 l0 x8_1).f1.f0),.int .i64 ((rd_T44 l0 x8_1).f1.f1),.string ((rd_T44 l0 x8_1).f2),.bool ((rd_T44 l0 x8_1).f3)] 44 (0,0)) (by (with_reducible repeat first|apply bN|apply bD|apply bA);refine blk_put (cs:=#[.string ((rd_T44 l0 x8_1).f0),.int .i64 ((rd_T44 l0 x8_1).f1.f0),.int .i64 ((rd_T44 l0 x8_1).f1.f1),.string ((rd_T44 l0 x8_1).f2),.bool false]) ?_ 4 _ rfl;(with_reducible repeat first|apply bN|apply bD|apply bA);refine blk_put (cs:=#[.string ((rd_T44 l0 x8_1).f0),.int .i64 ((rd_T44 l0 x8_1).f1.f0),.int .i64 ((rd_T44 l0 x8_1).f1.f1),.string (⟨#[]⟩ : ByteArray),.bool false]) ?_ 3 _ rfl;(with_reducible repeat first|apply bN|apply bD|apply bA);refine blk_put (cs:=#[.string ((rd_T44 l0 x8_1).f0),.int .i64 ((rd_T44 l0 x8_1).f1.f0),.int .i64 0,.string (⟨#[]⟩ : ByteArray),.bool false]) ?_ 2 _ rfl;(with_reducible repeat first|apply bN|apply bD|apply bA);refine blk_put (cs:=#[.string ((rd_T44 l0 x8_1).f0),.int .i64 0,.int .i64 0,.string (⟨#[]⟩ : ByteArray),.bool false]) ?_ 1 _ rfl;(with_reducible repeat first|apply bN|apply bD|apply bA);refine blk_put (cs:=#[.string (⟨#[]⟩ : ByteArray),.int .i64 0,.int .i64 0,.string (⟨#[]⟩ : ByteArray),.bool false]) ?_ 0 _ rfl;(with_reducible repeat first|apply bN|apply bD|apply bA);exact BK155.out) hb);replace HB:=Aside0.mk (below_step (by repeat (first|(with_reducible first|exact HB.out|apply xA|apply xN|apply xD|refine xS ?_ GE155.out)|exact HB.out)) hb);(try clear hb);(try clear hb2);(try clear hk);(try clear hi)))
        repeat (go_quiet (first|((with_reducible refine gate_dst (N:=4) rfl ?_);refine box_event ?hg (N:=4) ?hd (cs:=#[.string (⟨#[]⟩ : ByteArray),.int .i64 0,.int .i64 0,.string (⟨#[]⟩ : ByteArray),.bool false]) (t:=44) ?hr ?_;(case hd => rfl);(case hg => rfl);(case hr => first|(go_simp;done)|(go_simp;rfl));intro gb155 hg w20 hbox hb;have n0_:=Aside0.mk (below_step (by repeat (first|(with_reducible first|exact HB.out|apply xA|apply xN|apply xD)|exact HB.out)) hb);have n1_:=Aside0.mk (hbox);have n2_:=Aside0.mk ((by rw [hg];exact (below_size (by repeat (first|(with_reducible first|exact HB.out|apply xA|apply xN|apply xD)|exact HB.out))) : w.heap.size ≤ gb155));have n3_:=Aside0.mk ((by rw [hg];exact (below_size (by repeat (first|(with_reducible first|exact HB.out|apply xA|apply xN|apply xD)|exact HB.out))) : w.heap.size ≤ gb155));clear HB;have HB:=n0_;have BK155:=n1_;have GW155:=n2_;have GE155:=n3_;clear n0_ n1_ n2_ n3_;clear hb hbox hg;have hcz21_0 : w20.cell? ⟨gb155,0,none⟩ = some (.string (⟨#[]⟩ : ByteArray)):=(blk_cell BK155.out 0).trans rfl;have hcz21_1 : w20.cell? ⟨gb155,1,none⟩ = some (.int .i64 0):=(blk_cell BK155.out 1).trans rfl;have hcz21_2 : w20.cell? ⟨gb155,2,none⟩ = some (.int .i64 0):=(blk_cell BK155.out 2).trans rfl;have hcz21_3 : w20.cell? ⟨gb155,3,none⟩ = some (.string (⟨#[]⟩ : ByteArray)):=(blk_cell BK155.out 3).trans rfl;have hcz21_4 : w20.cell? ⟨gb155,4,none⟩ = some (.bool false):=(blk_cell BK155.out 4).trans rfl;obtain ⟨hfz21_0,hfz21_1,hfz21_2⟩:=f3 BK155.out;have hfz21_3:=blk_frozen BK155.out 3;have hfz21_4:=blk_frozen BK155.out 4)|(go_at_call 34;(with_reducible refine (item_Check.calls ((rd_T44 l0 x8_1).f0) ((rd_T44 l0 x8_1).f1.f0) ((rd_T44 l0 x8_1).f1.f1) ((rd_T44 l0 x8_1).f2) ((rd_T44 l0 x8_1).f3) t156 _ A5.out).mono ?_);rintro e w22 ⟨rfl,hb⟩;replace BK155:=Aside0.mk (blk_below (g:=gb155) (o:=.cells #[.string ((rd_T44 l0 x8_1).f0),.int .i64 ((rd_T44 l0 x8_1).f1.f0),.int .i64 ((rd_T44 l0 x8_1).f1.f1),.string ((rd_T44 l0 x8_1).f2),.bool ((rd_T44 l0 x8_1).f3)] 44 (0,0)) (by (with_reducible repeat first|apply bN|apply bD|apply bA);refine blk_put (cs:=#[.string ((rd_T44 l0 x8_1).f0),.int .i64 ((rd_T44 l0 x8_1).f1.f0),.int .i64 ((rd_T44 l0 x8_1).f1.f1),.string ((rd_T44 l0 x8_1).f2),.bool false]) ?_ 4 _ rfl;(with_reducible repeat first|apply bN|apply bD|apply bA);refine blk_put (cs:=#[.string ((rd_T44 l0 x8_1).f0),.int .i64 ((rd_T44 l0 x8_1).f1.f0),.int .i64 ((rd_T44 l0 x8_1).f1.f1),.string (⟨#[]⟩ : ByteArray),.bool false]) ?_ 3 _ rfl;(with_reducible repeat first|apply bN|apply bD|apply bA);refine blk_put (cs:=#[.string ((rd_T44 l0 x8_1).f0),.int .i64 ((rd_T44 l0 x8_1).f1.f0),.int .i64 0,.string (⟨#[]⟩ : ByteArray),.bool false]) ?_ 2 _ rfl;(with_reducible repeat first|apply bN|apply bD|apply bA);refine blk_put (cs:=#[.string ((rd_T44 l0 x8_1).f0),.int .i64 0,.int .i64 0,.string (⟨#[]⟩ : ByteArray),.bool false]) ?_ 1 _ rfl;(with_reducible repeat first|apply bN|apply bD|apply bA);refine blk_put (cs:=#[.string (⟨#[]⟩ : ByteArray),.int .i64 0,.int .i64 0,.string (⟨#[]⟩ : ByteArray),.bool false]) ?_ 0 _ rfl;(with_reducible repeat first|apply bN|apply bD|apply bA);exact BK155.out) hb);replace HB:=Aside0.mk (below_step (by repeat (first|(with_reducible first|exact HB.out|apply xA|apply xN|apply xD|refine xS ?_ GE155.out)|exact HB.out)) hb);(try clear hb);(try clear hb2);(try clear hk);(try clear hi)));try go_wp2_with (first|((with_reducible refine gate_dst (N:=4) rfl ?_);refine box_event ?hg (N:=4) ?hd (cs:=#[.string (⟨#[]⟩ : ByteArray),.int .i64 0,.int .i64 0,.string (⟨#[]⟩ : ByteArray),.bool false]) (t:=44) ?hr ?_;(case hd => rfl);(case hg => rfl);(case hr => first|(go_simp;done)|(go_simp;rfl));intro gb155 hg w20 hbox hb;have n0_:=Aside0.mk (below_step (by repeat (first|(with_reducible first|exact HB.out|apply xA|apply xN|apply xD)|exact HB.out)) hb);have n1_:=Aside0.mk (hbox);have n2_:=Aside0.mk ((by rw [hg];exact (below_size (by repeat (first|(with_reducible first|exact HB.out|apply xA|apply xN|apply xD)|exact HB.out))) : w.heap.size ≤ gb155));have n3_:=Aside0.mk ((by rw [hg];exact (below_size (by repeat (first|(with_reducible first|exact HB.out|apply xA|apply xN|apply xD)|exact HB.out))) : w.heap.size ≤ gb155));clear HB;have HB:=n0_;have BK155:=n1_;have GW155:=n2_;have GE155:=n3_;clear n0_ n1_ n2_ n3_;clear hb hbox hg;have hcz21_0 : w20.cell? ⟨gb155,0,none⟩ = some (.string (⟨#[]⟩ : ByteArray)):=(blk_cell BK155.out 0).trans rfl;have hcz21_1 : w20.cell? ⟨gb155,1,none⟩ = some (.int .i64 0):=(blk_cell BK155.out 1).trans rfl;have hcz21_2 : w20.cell? ⟨gb155,2,none⟩ = some (.int .i64 0):=(blk_cell BK155.out 2).trans rfl;have hcz21_3 : w20.cell? ⟨gb155,3,none⟩ = some (.string (⟨#[]⟩ : ByteArray)):=(blk_cell BK155.out 3).trans rfl;have hcz21_4 : w20.cell? ⟨gb155,4,none⟩ = some (.bool false):=(blk_cell BK155.out 4).trans rfl;obtain ⟨hfz21_0,hfz21_1,hfz21_2⟩:=f3 BK155.out;have hfz21_3:=blk_frozen BK155.out 3;have hfz21_4:=blk_frozen BK155.out 4)|(go_at_call 34;(with_reducible refine (item_Check.calls ((rd_T44 l0 x8_1).f0) ((rd_T44 l0 x8_1).f1.f0) ((rd_T44 l0 x8_1).f1.f1) ((rd_T44 l0 x8_1).f2) ((rd_T44 l0 x8_1).f3) t156 _ A5.out).mono ?_);rintro e w22 ⟨rfl,hb⟩;replace BK155:=Aside0.mk (blk_below (g:=gb155) (o:=.cells #[.string ((rd_T44 l0 x8_1).f0),.int .i64 ((rd_T44 l0 x8_1).f1.f0),.int .i64 ((rd_T44 l0 x8_1).f1.f1),.string ((rd_T44 l0 x8_1).f2),.bool ((rd_T44 l0 x8_1).f3)] 44 (0,0)) (by (with_reducible repeat first|apply bN|apply bD|apply bA);refine blk_put (cs:=#[.string ((rd_T44 l0 x8_1).f0),.int .i64 ((rd_T44 l0 x8_1).f1.f0),.int .i64 ((rd_T44 l0 x8_1).f1.f1),.string ((rd_T44 l0 x8_1).f2),.bool false]) ?_ 4 _ rfl;(with_reducible repeat first|apply bN|apply bD|apply bA);refine blk_put (cs:=#[.string ((rd_T44 l0 x8_1).f0),.int .i64 ((rd_T44 l0 x8_1).f1.f0),.int .i64 ((rd_T44 l0 x8_1).f1.f1),.string (⟨#[]⟩ : ByteArray),.bool false]) ?_ 3 _ rfl;(with_reducible repeat first|apply bN|apply bD|apply bA);refine blk_put (cs:=#[.string ((rd_T44 l0 x8_1).f0),.int .i64 ((rd_T44 l0 x8_1).f1.f0),.int .i64 0,.string (⟨#[]⟩ : ByteArray),.bool false]) ?_ 2 _ rfl;(with_reducible repeat first|apply bN|apply bD|apply bA);refine blk_put (cs:=#[.string ((rd_T44 l0 x8_1).f0),.int .i64 0,.int .i64 0,.string (⟨#[]⟩ : ByteArray),.bool false]) ?_ 1 _ rfl;(with_reducible repeat first|apply bN|apply bD|apply bA);refine blk_put (cs:=#[.string (⟨#[]⟩ : ByteArray),.int .i64 0,.int .i64 0,.string (⟨#[]⟩ : ByteArray),.bool false]) ?_ 0 _ rfl;(with_reducible repeat first|apply bN|apply bD|apply bA);exact BK155.out) hb);replace HB:=Aside0.mk (below_step (by repeat (first|(with_reducible first|exact HB.out|apply xA|apply xN|apply xD|refine xS ?_ GE155.out)|exact HB.out)) hb);(try clear hb);(try clear hb2);(try clear hk);(try clear hi))))
        go_roundg k1
        case measure => have:=HK1.out;omega
        case rel => exact ⟨(wrap64 (x8_1 + 1)),(by first|rfl|(simp;done)|(simp [*];done)|(simp [*,Go.Proofs.Ytghlellambnkeaa.Str.bne_nil];done)),H',⟨by have:=HK1.out;omega⟩,⟨by repeat (first|(with_reducible first|exact HB.out|apply xA|apply xN|apply xD|refine xS ?_ GE155.out)|exact HB.out)⟩⟩
      ·rw [if_neg c6] at H
       have c6b0 : (t156 == 0) = false:=beq_eq_false_iff_ne.mpr c6
       have c6b1 : (t156 != 0) = true:=bne_iff_ne.mpr c6
       obtain rfl:=Option.some.inj H
       have p154 : 0 ≤ (x8_1 : Int):=of_decide_eq_true (by first|(with_reducible assumption)|assumption)
       have q154 : x8_1 < (l0.length : Int):=of_decide_eq_true (by first|(with_reducible assumption)|assumption)
       obtain ⟨ad154,e154,hx154_0,hx154_1,hx154_2,hx154_3,hx154_4⟩:=at_T44 HR0.out x8_1 p154 q154
       cases e154
       replace hx154_0:=(HB.out.cell (World.block_lt_of_cell? w _ hx154_0)).trans hx154_0
       replace hx154_1:=(HB.out.cell (World.block_lt_of_cell? w _ hx154_1)).trans hx154_1
       replace hx154_2:=(HB.out.cell (World.block_lt_of_cell? w _ hx154_2)).trans hx154_2
       replace hx154_3:=(HB.out.cell (World.block_lt_of_cell? w _ hx154_3)).trans hx154_3
       replace hx154_4:=(HB.out.cell (World.block_lt_of_cell? w _ hx154_4)).trans hx154_4
       replace p154:=eq_true p154
       replace q154:=eq_true q154
       go_wp2_with (first|((with_reducible refine gate_dst (N:=4) rfl ?_);refine box_event ?hg (N:=4) ?hd (cs:=#[.string (⟨#[]⟩ : ByteArray),.int .i64 0,.int .i64 0,.string (⟨#[]⟩ : ByteArray),.bool false]) (t:=44) ?hr ?_;(case hd => rfl);(case hg => rfl);(case hr => first|(go_simp;done)|(go_simp;rfl));intro gb155 hg w23 hbox hb;have n0_:=Aside0.mk (below_step (by repeat (first|(with_reducible first|exact HB.out|apply xA|apply xN|apply xD)|exact HB.out)) hb);have n1_:=Aside0.mk (hbox);have n2_:=Aside0.mk ((by rw [hg];exact (below_size (by repeat (first|(with_reducible first|exact HB.out|apply xA|apply xN|apply xD)|exact HB.out))) : w.heap.size ≤ gb155));have n3_:=Aside0.mk ((by rw [hg];exact (below_size (by repeat (first|(with_reducible first|exact HB.out|apply xA|apply xN|apply xD)|exact HB.out))) : w.heap.size ≤ gb155));clear HB;have HB:=n0_;have BK155:=n1_;have GW155:=n2_;have GE155:=n3_;clear n0_ n1_ n2_ n3_;clear hb hbox hg;have hcz24_0 : w23.cell? ⟨gb155,0,none⟩ = some (.string (⟨#[]⟩ : ByteArray)):=(blk_cell BK155.out 0).trans rfl;have hcz24_1 : w23.cell? ⟨gb155,1,none⟩ = some (.int .i64 0):=(blk_cell BK155.out 1).trans rfl;have hcz24_2 : w23.cell? ⟨gb155,2,none⟩ = some (.int .i64 0):=(blk_cell BK155.out 2).trans rfl;have hcz24_3 : w23.cell? ⟨gb155,3,none⟩ = some (.string (⟨#[]⟩ : ByteArray)):=(blk_cell BK155.out 3).trans rfl;have hcz24_4 : w23.cell? ⟨gb155,4,none⟩ = some (.bool false):=(blk_cell BK155.out 4).trans rfl;obtain ⟨hfz24_0,hfz24_1,hfz24_2⟩:=f3 BK155.out;have hfz24_3:=blk_frozen BK155.out 3;have hfz24_4:=blk_frozen BK155.out 4)|(go_at_call 34;(with_reducible refine (item_Check.calls ((rd_T44 l0 x8_1).f0) ((rd_T44 l0 x8_1).f1.f0) ((rd_T44 l0 x8_1).f1.f1) ((rd_T44 l0 x8_1).f2) ((rd_T44 l0 x8_1).f3) t156 _ A5.out).mono ?_);rintro e w25 ⟨rfl,hb⟩;replace BK155:=Aside0.mk (blk_below (g:=gb155) (o:=.cells #[.string ((rd_T44 l0 x8_1).f0),.int .i64 ((rd_T44 l0 x8_1).f1.f0),.int .i64 ((rd_T44 l0 x8_1).f1.f1),.string ((rd_T44 l0 x8_1).f2),.bool ((rd_T44 l0 x8_1).f3)] 44 (0,0)) (by (with_reducible repeat first|apply bN|apply bD|apply bA);refine blk_put (cs:=#[.string ((rd_T44 l0 x8_1).f0),.int .i64 ((rd_T44 l0 x8_1).f1.f0),.int .i64 ((rd_T44 l0 x8_1).f1.f1),.string ((rd_T44 l0 x8_1).f2),.bool false]) ?_ 4 _ rfl;(with_reducible repeat first|apply bN|apply bD|apply bA);refine blk_put (cs:=#[.string ((rd_T44 l0 x8_1).f0),.int .i64 ((rd_T44 l0 x8_1).f1.f0),.int .i64 ((rd_T44 l0 x8_1).f1.f1),.string (⟨#[]⟩ : ByteArray),.bool false]) ?_ 3 _ rfl;(with_reducible repeat first|apply bN|apply bD|apply bA);refine blk_put (cs:=#[.string ((rd_T44 l0 x8_1).f0),.int .i64 ((rd_T44 l0 x8_1).f1.f0),.int .i64 0,.string (⟨#[]⟩ : ByteArray),.bool false]) ?_ 2 _ rfl;(with_reducible repeat first|apply bN|apply bD|apply bA);refine blk_put (cs:=#[.string ((rd_T44 l0 x8_1).f0),.int .i64 0,.int .i64 0,.string (⟨#[]⟩ : ByteArray),.bool false]) ?_ 1 _ rfl;(with_reducible repeat first|apply bN|apply bD|apply bA);refine blk_put (cs:=#[.string (⟨#[]⟩ : ByteArray),.int .i64 0,.int .i64 0,.string (⟨#[]⟩ : ByteArray),.bool false]) ?_ 0 _ rfl;(with_reducible repeat first|apply bN|apply bD|apply bA);exact BK155.out) hb);replace HB:=Aside0.mk (below_step (by repeat (first|(with_reducible first|exact HB.out|apply xA|apply xN|apply xD|refine xS ?_ GE155.out)|exact HB.out)) hb);(try clear hb);(try clear hb2);(try clear hk);(try clear hi)))
       repeat (go_quiet (first|((with_reducible refine gate_dst (N:=4) rfl ?_);refine box_event ?hg (N:=4) ?hd (cs:=#[.string (⟨#[]⟩ : ByteArray),.int .i64 0,.int .i64 0,.string (⟨#[]⟩ : ByteArray),.bool false]) (t:=44) ?hr ?_;(case hd => rfl);(case hg => rfl);(case hr => first|(go_simp;done)|(go_simp;rfl));intro gb155 hg w23 hbox hb;have n0_:=Aside0.mk (below_step (by repeat (first|(with_reducible first|exact HB.out|apply xA|apply xN|apply xD)|exact HB.out)) hb);have n1_:=Aside0.mk (hbox);have n2_:=Aside0.mk ((by rw [hg];exact (below_size (by repeat (first|(with_reducible first|exact HB.out|apply xA|apply xN|apply xD)|exact HB.out))) : w.heap.size ≤ gb155));have n3_:=Aside0.mk ((by rw [hg];exact (below_size (by repeat (first|(with_reducible first|exact HB.out|apply xA|apply xN|apply xD)|exact HB.out))) : w.heap.size ≤ gb155));clear HB;have HB:=n0_;have BK155:=n1_;have GW155:=n2_;have GE155:=n3_;clear n0_ n1_ n2_ n3_;clear hb hbox hg;have hcz24_0 : w23.cell? ⟨gb155,0,none⟩ = some (.string (⟨#[]⟩ : ByteArray)):=(blk_cell BK155.out 0).trans rfl;have hcz24_1 : w23.cell? ⟨gb155,1,none⟩ = some (.int .i64 0):=(blk_cell BK155.out 1).trans rfl;have hcz24_2 : w23.cell? ⟨gb155,2,none⟩ = some (.int .i64 0):=(blk_cell BK155.out 2).trans rfl;have hcz24_3 : w23.cell? ⟨gb155,3,none⟩ = some (.string (⟨#[]⟩ : ByteArray)):=(blk_cell BK155.out 3).trans rfl;have hcz24_4 : w23.cell? ⟨gb155,4,none⟩ = some (.bool false):=(blk_cell BK155.out 4).trans rfl;obtain ⟨hfz24_0,hfz24_1,hfz24_2⟩:=f3 BK155.out;have hfz24_3:=blk_frozen BK155.out 3;have hfz24_4:=blk_frozen BK155.out 4)|(go_at_call 34;(with_reducible refine (item_Check.calls ((rd_T44 l0 x8_1).f0) ((rd_T44 l0 x8_1).f1.f0) ((rd_T44 l0 x8_1).f1.f1) ((rd_T44 l0 x8_1).f2) ((rd_T44 l0 x8_1).f3) t156 _ A5.out).mono ?_);rintro e w25 ⟨rfl,hb⟩;replace BK155:=Aside0.mk (blk_below (g:=gb155) (o:=.cells #[.string ((rd_T44 l0 x8_1).f0),.int .i64 ((rd_T44 l0 x8_1).f1.f0),.int .i64 ((rd_T44 l0 x8_1).f1.f1),.string ((rd_T44 l0 x8_1).f2),.bool ((rd_T44 l0 x8_1).f3)] 44 (0,0)) (by (with_reducible repeat first|apply bN|apply bD|apply bA);refine blk_put (cs:=#[.string ((rd_T44 l0 x8_1).f0),.int .i64 ((rd_T44 l0 x8_1).f1.f0),.int .i64 ((rd_T44 l0 x8_1).f1.f1),.string ((rd_T44 l0 x8_1).f2),.bool false]) ?_ 4 _ rfl;(with_reducible repeat first|apply bN|apply bD|apply bA);refine blk_put (cs:=#[.string ((rd_T44 l0 x8_1).f0),.int .i64 ((rd_T44 l0 x8_1).f1.f0),.int .i64 ((rd_T44 l0 x8_1).f1.f1),.string (⟨#[]⟩ : ByteArray),.bool false]) ?_ 3 _ rfl;(with_reducible repeat first|apply bN|apply bD|apply bA);refine blk_put (cs:=#[.string ((rd_T44 l0 x8_1).f0),.int .i64 ((rd_T44 l0 x8_1).f1.f0),.int .i64 0,.string (⟨#[]⟩ : ByteArray),.bool false]) ?_ 2 _ rfl;(with_reducible repeat first|apply bN|apply bD|apply bA);refine blk_put (cs:=#[.string ((rd_T44 l0 x8_1).f0),.int .i64 0,.int .i64 0,.string (⟨#[]⟩ : ByteArray),.bool false]) ?_ 1 _ rfl;(with_reducible repeat first|apply bN|apply bD|apply bA);refine blk_put (cs:=#[.string (⟨#[]⟩ : ByteArray),.int .i64 0,.int .i64 0,.string (⟨#[]⟩ : ByteArray),.bool false]) ?_ 0 _ rfl;(with_reducible repeat first|apply bN|apply bD|apply bA);exact BK155.out) hb);replace HB:=Aside0.mk (below_step (by repeat (first|(with_reducible first|exact HB.out|apply xA|apply xN|apply xD|refine xS ?_ GE155.out)|exact HB.out)) hb);(try clear hb);(try clear hb2);(try clear hk);(try clear hi)));try go_wp2_with (first|((with_reducible refine gate_dst (N:=4) rfl ?_);refine box_event ?hg (N:=4) ?hd (cs:=#[.string (⟨#[]⟩ : ByteArray),.int .i64 0,.int .i64 0,.string (⟨#[]⟩ : ByteArray),.bool false]) (t:=44) ?hr ?_;(case hd => rfl);(case hg => rfl);(case hr => first|(go_simp;done)|(go_simp;rfl));intro gb155 hg w23 hbox hb;have n0_:=Aside0.mk (below_step (by repeat (first|(with_reducible first|exact HB.out|apply xA|apply xN|apply xD)|exact HB.out)) hb);have n1_:=Aside0.mk (hbox);have n2_:=Aside0.mk ((by rw [hg];exact (below_size (by repeat (first|(with_reducible first|exact HB.out|apply xA|apply xN|apply xD)|exact HB.out))) : w.heap.size ≤ gb155));have n3_:=Aside0.mk ((by rw [hg];exact (below_size (by repeat (first|(with_reducible first|exact HB.out|apply xA|apply xN|apply xD)|exact HB.out))) : w.heap.size ≤ gb155));clear HB;have HB:=n0_;have BK155:=n1_;have GW155:=n2_;have GE155:=n3_;clear n0_ n1_ n2_ n3_;clear hb hbox hg;have hcz24_0 : w23.cell? ⟨gb155,0,none⟩ = some (.string (⟨#[]⟩ : ByteArray)):=(blk_cell BK155.out 0).trans rfl;have hcz24_1 : w23.cell? ⟨gb155,1,none⟩ = some (.int .i64 0):=(blk_cell BK155.out 1).trans rfl;have hcz24_2 : w23.cell? ⟨gb155,2,none⟩ = some (.int .i64 0):=(blk_cell BK155.out 2).trans rfl;have hcz24_3 : w23.cell? ⟨gb155,3,none⟩ = some (.string (⟨#[]⟩ : ByteArray)):=(blk_cell BK155.out 3).trans rfl;have hcz24_4 : w23.cell? ⟨gb155,4,none⟩ = some (.bool false):=(blk_cell BK155.out 4).trans rfl;obtain ⟨hfz24_0,hfz24_1,hfz24_2⟩:=f3 BK155.out;have hfz24_3:=blk_frozen BK155.out 3;have hfz24_4:=blk_frozen BK155.out 4)|(go_at_call 34;(with_reducible refine (item_Check.calls ((rd_T44 l0 x8_1).f0) ((rd_T44 l0 x8_1).f1.f0) ((rd_T44 l0 x8_1).f1.f1) ((rd_T44 l0 x8_1).f2) ((rd_T44 l0 x8_1).f3) t156 _ A5.out).mono ?_);rintro e w25 ⟨rfl,hb⟩;replace BK155:=Aside0.mk (blk_below (g:=gb155) (o:=.cells #[.string ((rd_T44 l0 x8_1).f0),.int .i64 ((rd_T44 l0 x8_1).f1.f0),.int .i64 ((rd_T44 l0 x8_1).f1.f1),.string ((rd_T44 l0 x8_1).f2),.bool ((rd_T44 l0 x8_1).f3)] 44 (0,0)) (by (with_reducible repeat first|apply bN|apply bD|apply bA);refine blk_put (cs:=#[.string ((rd_T44 l0 x8_1).f0),.int .i64 ((rd_T44 l0 x8_1).f1.f0),.int .i64 ((rd_T44 l0 x8_1).f1.f1),.string ((rd_T44 l0 x8_1).f2),.bool false]) ?_ 4 _ rfl;(with_reducible repeat first|apply bN|apply bD|apply bA);refine blk_put (cs:=#[.string ((rd_T44 l0 x8_1).f0),.int .i64 ((rd_T44 l0 x8_1).f1.f0),.int .i64 ((rd_T44 l0 x8_1).f1.f1),.string (⟨#[]⟩ : ByteArray),.bool false]) ?_ 3 _ rfl;(with_reducible repeat first|apply bN|apply bD|apply bA);refine blk_put (cs:=#[.string ((rd_T44 l0 x8_1).f0),.int .i64 ((rd_T44 l0 x8_1).f1.f0),.int .i64 0,.string (⟨#[]⟩ : ByteArray),.bool false]) ?_ 2 _ rfl;(with_reducible repeat first|apply bN|apply bD|apply bA);refine blk_put (cs:=#[.string ((rd_T44 l0 x8_1).f0),.int .i64 0,.int .i64 0,.string (⟨#[]⟩ : ByteArray),.bool false]) ?_ 1 _ rfl;(with_reducible repeat first|apply bN|apply bD|apply bA);refine blk_put (cs:=#[.string (⟨#[]⟩ : ByteArray),.int .i64 0,.int .i64 0,.string (⟨#[]⟩ : ByteArray),.bool false]) ?_ 0 _ rfl;(with_reducible repeat first|apply bN|apply bD|apply bA);exact BK155.out) hb);replace HB:=Aside0.mk (below_step (by repeat (first|(with_reducible first|exact HB.out|apply xA|apply xN|apply xD|refine xS ?_ GE155.out)|exact HB.out)) hb);(try clear hb);(try clear hb2);(try clear hk);(try clear hi))))
       go_ret
       exact ⟨by first|rfl|(simp [errW_none,errW_some] <;> rfl)|(simp [*,errW_none,errW_some] <;> rfl),by repeat (first|(with_reducible first|exact HB.out|apply xA|apply xN|apply xD|refine xS ?_ GE155.out)|exact HB.out)⟩
     ·rw [if_neg c4] at H
      exact absurd H (by simp)
    ·rw [if_neg c3] at H
     exact absurd H (by simp)
   ·rw [if_neg c2] at H
    have c2b0 : decide (x8_1 < (l0.length : Int)) = false:=decide_eq_false c2
    clear c2
    obtain rfl:=Option.some.inj H
    go_wp2
    repeat (go_quiet (fail);try go_wp2)
    go_ret
    exact ⟨by first|rfl|(simp [errW_none,errW_some] <;> rfl)|(simp [*,errW_none,errW_some] <;> rfl),by repeat (first|(with_reducible first|exact HB.out|apply xA|apply xN|apply xD)|exact HB.out)⟩

/-! ### merge_check: function 41 -/
def merge_check.f (k : Nat) (l0 : List (S44)) (l1 : List (S44)) : Option (Int) := (merge_Check.f k l0).bind fun t158 => (if t158 = 0 then ((merge_Check.f k l1).bind fun t159 => (some t159)) else (some t158))
theorem merge_check.mono : ∀ a0 a1 k, LeO (merge_check.f k a0 a1) (merge_check.f (k + 1) a0 a1) := by
  intro a0 a1 k
  unfold merge_check.f
  repeat' first
      | (with_reducible exact merge_Check.mono _ _)
      | (with_reducible exact LeO.refl _)
      | (with_reducible exact LeO.none _)
      | (with_reducible refine LeO.ite ?_ ?_)
      | (with_reducible refine LeO.bind ?_ (fun _ => ?_))
      | exact merge_Check.mono _ _
      | exact LeO.none _
      | refine LeO.ite ?_ ?_
      | refine LeO.bind ?_ (fun _ => ?_)
set_option maxHeartbeats 8000000 in
set_option maxRecDepth 100000 in
theorem merge_check.calls (k : Nat) (A0 : Option Addr) (c0 : Nat) (l0 : List (S44)) (A1 : Option Addr) (c1 : Nat) (l1 : List (S44)) (r : Int) (w : World) (hr0 : Kd.C k44 w A0 l0.length l0) (hc0 : l0.length ≤ c0) (hr1 : Kd.C k44 w A1 l1.length l1) (hc1 : l1.length ≤ c1) (h : merge_check.f k l0 l1 = some r) :
    Calls Try.prog 41 #[.slice A0 l0.length c0, .slice A1 l1.length c1] w fun e w' => e = .returned (.int .i64 r) ∧ Below w.heap.size w w' := by
 have HR0 := Aside0.mk hr0
 have HC0 := Aside0.mk hc0
 clear hr0 hc0
 have HR1 := Aside0.mk hr1
 have HC1 := Aside0.mk hc1
 clear hr1 hc1
 have HB := Aside0.mk (Below.refl w.heap.size w)
 have H : ((merge_Check.f k l0).bind fun t158 => (if t158 = 0 then ((merge_Check.f k l1).bind fun t159 => (some t159)) else (some t158))) = some r := h
 clear h
 replace H := Option.bind_eq_some_iff.mp H
 obtain ⟨t158, A30, H⟩ := H
 replace H : (if t158 = 0 then ((merge_Check.f k l1).bind fun t159 => (some t159)) else (some t158)) = some r := H
 have A3 := Aside0.mk A30
 clear A30
 by_cases c4 : t158 = 0
 ·rw [if_pos c4] at H
  have c4b0 : (t158 == 0) = true := beq_iff_eq.mpr c4
  have c4b1 : (t158 != 0) = false := bne_eq_false_iff_eq.mpr c4
  clear c4
  replace H := Option.bind_eq_some_iff.mp H
  obtain ⟨t159, A50, H⟩ := H
  replace H : (some t159) = some r := H
  have A5 := Aside0.mk A50
  clear A50
  obtain rfl := Option.some.inj H
  go_enter Try.func41, Try.ntmps41
  go_wp2_with (first | ((with_reducible refine gate_callee (f := 14) rfl ?_); refine goesL_ (some 7) rfl rfl Try.func14 (by kernel_rfl) rfl #[.slice A0 l0.length c0] rfl (by (try simp only [List.map_toArray, List.map_cons, List.map_nil]); first | done | rfl | (simp only [List.length_drop, List.length_take]; rfl)) ?_; (with_reducible refine (merge_Check.calls k _ _ l0 t158 _ ?side1 ?side2 A3.out).mono ?_); (case side1 => repeat (first | exact HR0.out | (with_reducible refine Kd.C_alloc ?_ _) | (with_reducible refine Kd.C_drewN ?_ _) | (with_reducible refine Kd.C_drew ?_))); (case side2 => exact HC0.out); rintro e w6 ⟨rfl, hb⟩; refine ⟨_, rfl, ?_⟩; have n0_ := Aside0.mk (below_step (by repeat (first | (with_reducible first | exact HB.out | apply below_alloc | apply pw_below_drewN | apply below_drew1) | exact HB.out)) hb); clear HB; have HB := n0_; clear n0_; (try clear hb); (try clear hb2); (try clear hk); (try clear hi)) | ((with_reducible refine gate_callee (f := 14) rfl ?_); refine goesL_ (some 12) rfl rfl Try.func14 (by kernel_rfl) rfl #[.slice A1 l1.length c1] rfl (by (try simp only [List.map_toArray, List.map_cons, List.map_nil]); first | done | rfl | (simp only [List.length_drop, List.length_take]; rfl)) ?_; (with_reducible refine (merge_Check.calls k _ _ l1 t159 _ ?side1 ?side2 A5.out).mono ?_); (case side1 => repeat (first | exact (Kd.C_below HR1.out HB.out) | (with_reducible refine Kd.C_alloc ?_ _) | (with_reducible refine Kd.C_drewN ?_ _) | (with_reducible refine Kd.C_drew ?_))); (case side2 => exact HC1.out); rintro e w7 ⟨rfl, hb⟩; refine ⟨_, rfl, ?_⟩; have n0_ := Aside0.mk (below_step (by repeat (first | (with_reducible first | exact HB.out | apply below_alloc | apply pw_below_drewN | apply below_drew1) | exact HB.out)) hb); clear HB; have HB := n0_; clear n0_; (try clear hb); (try clear hb2); (try clear hk); (try clear hi)))
  go_ret
  exact ⟨by first | rfl | (simp [errW_none, errW_some] <;> rfl) | (simp [*, errW_none, errW_some] <;> rfl), by repeat (first | (with_reducible first | exact HB.out | apply below_alloc | apply pw_below_drewN | apply below_drew1) | exact HB.out)⟩
 ·rw [if_neg c4] at H
  have c4b0 : (t158 == 0) = false := beq_eq_false_iff_ne.mpr c4
  have c4b1 : (t158 != 0) = true := bne_iff_ne.mpr c4
  obtain rfl := Option.some.inj H
  go_enter Try.func41, Try.ntmps41
  go_wp2_with (first | ((with_reducible refine gate_callee (f := 14) rfl ?_); refine goesL_ (some 7) rfl rfl Try.func14 (by kernel_rfl) rfl #[.slice A0 l0.length c0] rfl (by (try simp only [List.map_toArray, List.map_cons, List.map_nil]); first | done | rfl | (simp only [List.length_drop, List.length_take]; rfl)) ?_; (with_reducible refine (merge_Check.calls k _ _ l0 t158 _ ?side1 ?side2 A3.out).mono ?_); (case side1 => repeat (first | exact HR0.out | (with_reducible refine Kd.C_alloc ?_ _) | (with_reducible refine Kd.C_drewN ?_ _) | (with_reducible refine Kd.C_drew ?_))); (case side2 => exact HC0.out); rintro e w8 ⟨rfl, hb⟩; refine ⟨_, rfl, ?_⟩; have n0_ := Aside0.mk (below_step (by repeat (first | (with_reducible first | exact HB.out | apply below_alloc | apply pw_below_drewN | apply below_drew1) | exact HB.out)) hb); clear HB; have HB := n0_; clear n0_; (try clear hb); (try clear hb2); (try clear hk); (try clear hi)))
  go_ret
  exact ⟨by first | rfl | (simp [errW_none, errW_some] <;> rfl) | (simp [*, errW_none, errW_some] <;> rfl), by repeat (first | (with_reducible first | exact HB.out | apply below_alloc | apply pw_below_drewN | apply below_drew1) | exact HB.out)⟩

-- NOT PRINTED: function 42 (merge_pairs)

/-! ### merge_there: function 44 -/
def merge_there.f (a0_0 : ByteArray) (a0_1 : Int) (a0_2 : Int) (a0_3 : ByteArray) (a0_4 : Bool) : Option (Bool) := some (!(a0_1 == 0) || (!(a0_2 == 0)))
set_option maxHeartbeats 8000000 in
set_option maxRecDepth 100000 in
theorem merge_there.calls (a0_0 : ByteArray) (a0_1 : Int) (a0_2 : Int) (a0_3 : ByteArray) (a0_4 : Bool) (r : Bool) (w : World) (h : merge_there.f a0_0 a0_1 a0_2 a0_3 a0_4 = some r) :
    Calls Try.prog 44 #[.agg #[.string a0_0, .int .i64 a0_1, .int .i64 a0_2, .string a0_3, .bool a0_4]] w fun e w' => e = .returned (.bool r) ∧ Below w.heap.size w w' := by
 have hu44 := Try.underlying44
 have hu42 := Try.underlying42
 have HB := Aside0.mk (Below.refl w.heap.size w)
 have H : (some (!(a0_1 == 0) || (!(a0_2 == 0)))) = some r := h
 clear h
 obtain rfl := Option.some.inj H
 go_enter Try.func44, Try.ntmps44
 go_wp2_with (first | ((with_reducible refine gate_dst (N := 1) rfl ?_); refine box_event ?hg (N := 1) ?hd (cs := #[.string a0_0, .int .i64 a0_1, .int .i64 a0_2, .string a0_3, .bool a0_4]) (t := 44) ?hr ?_; (case hd => rfl); (case hg => rfl); (case hr => first | (go_simp; done) | (go_simp; rfl)); intro gb160 hg w2 hbox hb; have n0_ := Aside0.mk (below_step (by repeat (first | (with_reducible first | exact HB.out | apply below_alloc | apply pw_below_drewN | apply below_drew1) | exact HB.out)) hb); have n1_ := Aside0.mk (hbox); have n2_ := Aside0.mk ((by rw [hg]; exact (below_size (by repeat (first | (with_reducible first | exact HB.out | apply below_alloc | apply pw_below_drewN | apply below_drew1) | exact HB.out))) : w.heap.size ≤ gb160)); have n3_ := Aside0.mk ((by rw [hg]; exact (below_size (by repeat (first | (with_reducible first | exact HB.out | apply below_alloc | apply pw_below_drewN | apply below_drew1) | exact HB.out))) : w.heap.size ≤ gb160)); clear HB; have HB := n0_; have BK160 := n1_; have GW160 := n2_; have GE160 := n3_; clear n0_ n1_ n2_ n3_; clear hb hbox hg; have hcz3_0 : w2.cell? ⟨gb160, 0, none⟩ = some (.string a0_0) := (blk_cell BK160.out 0).trans rfl; have hcz3_1 : w2.cell? ⟨gb160, 1, none⟩ = some (.int .i64 a0_1) := (blk_cell BK160.out 1).trans rfl; have hcz3_2 : w2.cell? ⟨gb160, 2, none⟩ = some (.int .i64 a0_2) := (blk_cell BK160.out 2).trans rfl; have hcz3_3 : w2.cell? ⟨gb160, 3, none⟩ = some (.string a0_3) := (blk_cell BK160.out 3).trans rfl; have hcz3_4 : w2.cell? ⟨gb160, 4, none⟩ = some (.bool a0_4) := (blk_cell BK160.out 4).trans rfl; have hfz3_0 := blk_frozen BK160.out 0; have hfz3_1 := blk_frozen BK160.out 1; have hfz3_2 := blk_frozen BK160.out 2; have hfz3_3 := blk_frozen BK160.out 3; have hfz3_4 := blk_frozen BK160.out 4))
 go_ret
 exact ⟨by first | rfl | (simp [errW_none, errW_some] <;> rfl) | (simp [*, errW_none, errW_some] <;> rfl), by repeat (first | (with_reducible first | exact HB.out | apply below_alloc | apply pw_below_drewN | apply below_drew1 | refine below_set ?_ GE160.out) | exact HB.out)⟩

/-! ### cmp_Or_int: function 56 -/
def cmp_Or_int.l0 : Nat → Int → List Int → Int → Int → Option (Int)
  | 0, _, _, _, _ => none
  | k + 1, x3, x6, x7, x8 => if x8 < x7 then (if 0 ≤ x8 then (if x8 < (x6.length : Int) then (if (rd x6 x8) = x3 then (cmp_Or_int.l0 k x3 x6 x7 (wrap64 (x8 + 1))) else (some (rd x6 x8))) else (none)) else (none)) else (some x3)
def cmp_Or_int.f (k : Nat) (l0 : List Int) : Option (Int) := cmp_Or_int.l0 k 0 l0 (l0.length : Int) 0
theorem cmp_Or_int.mono_l : ∀ k, (∀ y0 y1 y2 y3, LeO (cmp_Or_int.l0 k y0 y1 y2 y3) (cmp_Or_int.l0 (k + 1) y0 y1 y2 y3))
  | 0 => fun _ _ _ _ r h => by simp [cmp_Or_int.l0] at h
  | k + 1 => by
    have ih0 := cmp_Or_int.mono_l k
    · intro y0 y1 y2 y3
      unfold cmp_Or_int.l0
      repeat' first
      | (with_reducible exact ih0 _ _ _ _)
      | (with_reducible exact LeO.refl _)
      | (with_reducible exact LeO.none _)
      | (with_reducible refine LeO.ite ?_ ?_)
      | (with_reducible refine LeO.bind ?_ (fun _ => ?_))
      | exact ih0 _ _ _ _
      | exact LeO.none _
      | refine LeO.ite ?_ ?_
      | refine LeO.bind ?_ (fun _ => ?_)
theorem cmp_Or_int.mono : ∀ a0 k, LeO (cmp_Or_int.f k a0) (cmp_Or_int.f (k + 1) a0) := by
  intro a0 k
  have ih0 := cmp_Or_int.mono_l k
  unfold cmp_Or_int.f
  repeat' first
      | (with_reducible exact ih0 _ _ _ _)
      | (with_reducible exact LeO.refl _)
      | (with_reducible exact LeO.none _)
      | (with_reducible refine LeO.ite ?_ ?_)
      | (with_reducible refine LeO.bind ?_ (fun _ => ?_))
      | exact ih0 _ _ _ _
      | exact LeO.none _
      | refine LeO.ite ?_ ?_
      | refine LeO.bind ?_ (fun _ => ?_)
set_option maxHeartbeats 8000000 in
set_option maxRecDepth 100000 in
theorem cmp_Or_int.calls (k : Nat) (A0 : Option Addr) (c0 : Nat) (l0 : List Int) (r : Int) (w : World) (hr0 : Kd.C (Kd.int .i64) w A0 l0.length l0) (hc0 : l0.length ≤ c0) (h : cmp_Or_int.f k l0 = some r) :
    Calls Try.prog 56 #[.slice A0 l0.length c0] w fun e w' => e = .returned (.int .i64 r) ∧ Drawn0 w w' := by
 have HR0 := Aside0.mk hr0
 have HC0 := Aside0.mk hc0
 clear hr0 hc0
 have H : (cmp_Or_int.l0 k 0 l0 (l0.length : Int) 0) = some r := h
 clear h
 have H' := Aside0.mk H
 clear H
 go_enter Try.func56, Try.ntmps56
 go_wp2
 go_loopg [8] k (fun kq v8 w' => ∃ (x8_1 : Int), v8 = .int .i64 x8_1 ∧ Aside0 (cmp_Or_int.l0 kq 0 l0 (l0.length : Int) x8_1 = some r) ∧ Aside0 (kq ≤ k) ∧ Drawn0 w w')
 case atStart => exact ⟨(0), (by first | rfl | (simp; done) | (simp [*]; done) | (simp [*, Go.Proofs.Ytghlellambnkeaa.Str.bne_nil]; done)), H', ⟨Nat.le_refl _⟩, by repeat (first | exact Drawn0.refl _ | apply Drawn0.step)⟩
 case round =>
  clear H'
  obtain ⟨x8_1, rfl, HA, HK1, ⟨m1, rfl⟩⟩ := hrel
  cases gk with
  | zero => exact absurd HA.out (by simp [cmp_Or_int.l0])
  | succ k1 =>
   have H := HA.out
   clear HA
   simp only [cmp_Or_int.l0] at H
   by_cases c2 : x8_1 < (l0.length : Int)
   ·rw [if_pos c2] at H
    have c2b0 : decide (x8_1 < (l0.length : Int)) = true := decide_eq_true c2
    clear c2
    by_cases c3 : 0 ≤ x8_1
    ·rw [if_pos c3] at H
     have c3b0 : decide (0 ≤ x8_1) = true := decide_eq_true c3
     clear c3
     by_cases c4 : x8_1 < (l0.length : Int)
     ·rw [if_pos c4] at H
      have c4b0 : decide (x8_1 < (l0.length : Int)) = true := decide_eq_true c4
      clear c4
      by_cases c5 : (rd l0 x8_1) = 0
      ·rw [if_pos c5] at H
       have c5b0 : ((rd l0 x8_1) == 0) = true := beq_iff_eq.mpr c5
       have c5b1 : ((rd l0 x8_1) != 0) = false := bne_eq_false_iff_eq.mpr c5
       clear c5
       have H' := Aside0.mk H
       clear H
       have p161 : 0 ≤ (x8_1 : Int) := of_decide_eq_true (by first | (with_reducible assumption) | assumption)
       have q161 : x8_1 < (l0.length : Int) := of_decide_eq_true (by first | (with_reducible assumption) | assumption)
       obtain ⟨ad161, e161, hx161_0⟩ := Kd.at_int HR0.out x8_1 p161 q161
       cases e161
       replace p161 := eq_true p161
       replace q161 := eq_true q161
       go_wp2
       go_roundg k1
       case measure => have := HK1.out; omega
       case rel => exact ⟨(wrap64 (x8_1 + 1)), (by first | rfl | (simp; done) | (simp [*]; done) | (simp [*, Go.Proofs.Ytghlellambnkeaa.Str.bne_nil]; done)), H', ⟨by have := HK1.out; omega⟩, by repeat (first | exact Drawn0.refl _ | apply Drawn0.step)⟩
      ·rw [if_neg c5] at H
       have c5b0 : ((rd l0 x8_1) == 0) = false := beq_eq_false_iff_ne.mpr c5
       have c5b1 : ((rd l0 x8_1) != 0) = true := bne_iff_ne.mpr c5
       obtain rfl := Option.some.inj H
       have p161 : 0 ≤ (x8_1 : Int) := of_decide_eq_true (by first | (with_reducible assumption) | assumption)
       have q161 : x8_1 < (l0.length : Int) := of_decide_eq_true (by first | (with_reducible assumption) | assumption)
       obtain ⟨ad161, e161, hx161_0⟩ := Kd.at_int HR0.out x8_1 p161 q161
       cases e161
       replace p161 := eq_true p161
       replace q161 := eq_true q161
       go_wp2
       go_ret
       exact ⟨by first | rfl | (simp; done) | (simp [*]; done) | (simp [*, Go.Proofs.Ytghlellambnkeaa.Str.bne_nil]; done), by repeat (first | exact Drawn0.refl _ | apply Drawn0.step)⟩
     ·rw [if_neg c4] at H
      exact absurd H (by simp)
    ·rw [if_neg c3] at H
     exact absurd H (by simp)
   ·rw [if_neg c2] at H
    have c2b0 : decide (x8_1 < (l0.length : Int)) = false := decide_eq_false c2
    clear c2
    obtain rfl := Option.some.inj H
    go_wp2
    go_ret
    exact ⟨by first | rfl | (simp; done) | (simp [*]; done) | (simp [*, Go.Proofs.Ytghlellambnkeaa.Str.bne_nil]; done), by repeat (first | exact Drawn0.refl _ | apply Drawn0.step)⟩

/-! ### cmp_isNaN_int: function 58 -/
def cmp_isNaN_int.f (a0 : Int) : Option (Bool) := some (a0 != a0)
set_option maxHeartbeats 8000000 in
set_option maxRecDepth 100000 in
theorem cmp_isNaN_int.calls (a0 : Int) (r : Bool) (w : World) (h : cmp_isNaN_int.f a0 = some r) :
    Calls Try.prog 58 #[.int .i64 a0] w fun e w' => e = .returned (.bool r) ∧ Drawn0 w w' := by
 have H : (some (a0 != a0)) = some r := h
 clear h
 obtain rfl := Option.some.inj H
 go_enter Try.func58, Try.ntmps58
 go_wp2
 go_ret
 exact ⟨by first | rfl | (simp; done) | (simp [*]; done) | (simp [*, Go.Proofs.Ytghlellambnkeaa.Str.bne_nil]; done), by repeat (first | exact Drawn0.refl _ | apply Drawn0.step)⟩

/-! ### cmp_Compare_int: function 57 -/
def cmp_Compare_int.f (a0 : Int) (a1 : Int) : Option (Int) := (cmp_isNaN_int.f a0).bind fun t162 => ((cmp_isNaN_int.f a1).bind fun t163 => (if t162 = true then (if t163 = true then (some 0) else (some (-1))) else (if t163 = true then (some 1) else (if a0 < a1 then (some (-1)) else (if a0 > a1 then (some 1) else (some 0))))))
set_option maxHeartbeats 8000000 in
set_option maxRecDepth 100000 in
theorem cmp_Compare_int.calls (a0 : Int) (a1 : Int) (r : Int) (w : World) (h : cmp_Compare_int.f a0 a1 = some r) :
    Calls Try.prog 57 #[.int .i64 a0, .int .i64 a1] w fun e w' => e = .returned (.int .i64 r) ∧ Drawn0 w w' := by
 have H : ((cmp_isNaN_int.f a0).bind fun t162 => ((cmp_isNaN_int.f a1).bind fun t163 => (if t162 = true then (if t163 = true then (some 0) else (some (-1))) else (if t163 = true then (some 1) else (if a0 < a1 then (some (-1)) else (if a0 > a1 then (some 1) else (some 0))))))) = some r := h
 clear h
 replace H := Option.bind_eq_some_iff.mp H
 obtain ⟨t162, A30, H⟩ := H
 replace H : ((cmp_isNaN_int.f a1).bind fun t163 => (if t162 = true then (if t163 = true then (some 0) else (some (-1))) else (if t163 = true then (some 1) else (if a0 < a1 then (some (-1)) else (if a0 > a1 then (some 1) else (some 0)))))) = some r := H
 have A3 := Aside0.mk A30
 clear A30
 replace H := Option.bind_eq_some_iff.mp H
 obtain ⟨t163, A40, H⟩ := H
 replace H : (if t162 = true then (if t163 = true then (some 0) else (some (-1))) else (if t163 = true then (some 1) else (if a0 < a1 then (some (-1)) else (if a0 > a1 then (some 1) else (some 0))))) = some r := H
 have A4 := Aside0.mk A40
 clear A40
 by_cases c5 : t162 = true
 ·subst c5
  have H1 : (if t163 = true then (some 0) else (some (-1))) = some r := by rw [if_pos rfl] at H; exact H
  clear H
  have H := H1
  clear H1
  by_cases c6 : t163 = true
  ·subst c6
   have H1 : (some 0) = some r := by rw [if_pos rfl] at H; exact H
   clear H
   have H := H1
   clear H1
   obtain rfl := Option.some.inj H
   go_enter Try.func57, Try.ntmps57
   go_wp2_with (first | ((with_reducible refine gate_callee (f := 58) rfl ?_); refine goesL_ (some 8) rfl rfl Try.func58 (by kernel_rfl) rfl #[.int .i64 a0] rfl (by (try simp only [List.map_toArray, List.map_cons, List.map_nil]); first | done | rfl | (simp only [List.length_drop, List.length_take]; rfl)) ?_; (with_reducible refine (cmp_isNaN_int.calls a0 true _ A3.out).mono ?_); rintro e w' ⟨rfl, ⟨nd, rfl⟩⟩; refine ⟨_, rfl, ?_⟩) | ((with_reducible refine gate_callee (f := 58) rfl ?_); refine goesL_ (some 10) rfl rfl Try.func58 (by kernel_rfl) rfl #[.int .i64 a1] rfl (by (try simp only [List.map_toArray, List.map_cons, List.map_nil]); first | done | rfl | (simp only [List.length_drop, List.length_take]; rfl)) ?_; (with_reducible refine (cmp_isNaN_int.calls a1 true _ A4.out).mono ?_); rintro e w' ⟨rfl, ⟨nd, rfl⟩⟩; refine ⟨_, rfl, ?_⟩))
   go_ret
   exact ⟨by first | rfl | (simp; done) | (simp [*]; done) | (simp [*, Go.Proofs.Ytghlellambnkeaa.Str.bne_nil]; done), by repeat (first | exact Drawn0.refl _ | apply Drawn0.step)⟩
  ·replace c6 := Bool.eq_false_iff.mpr c6
   subst c6
   have H1 : (some (-1)) = some r := by rw [if_neg (show ¬ (false = true) by decide)] at H; exact H
   clear H
   have H := H1
   clear H1
   obtain rfl := Option.some.inj H
   go_enter Try.func57, Try.ntmps57
   go_wp2_with (first | ((with_reducible refine gate_callee (f := 58) rfl ?_); refine goesL_ (some 8) rfl rfl Try.func58 (by kernel_rfl) rfl #[.int .i64 a0] rfl (by (try simp only [List.map_toArray, List.map_cons, List.map_nil]); first | done | rfl | (simp only [List.length_drop, List.length_take]; rfl)) ?_; (with_reducible refine (cmp_isNaN_int.calls a0 true _ A3.out).mono ?_); rintro e w' ⟨rfl, ⟨nd, rfl⟩⟩; refine ⟨_, rfl, ?_⟩) | ((with_reducible refine gate_callee (f := 58) rfl ?_); refine goesL_ (some 10) rfl rfl Try.func58 (by kernel_rfl) rfl #[.int .i64 a1] rfl (by (try simp only [List.map_toArray, List.map_cons, List.map_nil]); first | done | rfl | (simp only [List.length_drop, List.length_take]; rfl)) ?_; (with_reducible refine (cmp_isNaN_int.calls a1 false _ A4.out).mono ?_); rintro e w' ⟨rfl, ⟨nd, rfl⟩⟩; refine ⟨_, rfl, ?_⟩))
   go_ret
   exact ⟨by first | rfl | (simp; done) | (simp [*]; done) | (simp [*, Go.Proofs.Ytghlellambnkeaa.Str.bne_nil]; done), by repeat (first | exact Drawn0.refl _ | apply Drawn0.step)⟩
 ·replace c5 := Bool.eq_false_iff.mpr c5
  subst c5
  have H1 : (if t163 = true then (some 1) else (if a0 < a1 then (some (-1)) else (if a0 > a1 then (some 1) else (some 0)))) = some r := by rw [if_neg (show ¬ (false = true) by decide)] at H; exact H
  clear H
  have H := H1
  clear H1
  by_cases c7 : t163 = true
  ·subst c7
   have H1 : (some 1) = some r := by rw [if_pos rfl] at H; exact H
   clear H
   have H := H1
   clear H1
   obtain rfl := Option.some.inj H
   go_enter Try.func57, Try.ntmps57
   go_wp2_with (first | ((with_reducible refine gate_callee (f := 58) rfl ?_); refine goesL_ (some 8) rfl rfl Try.func58 (by kernel_rfl) rfl #[.int .i64 a0] rfl (by (try simp only [List.map_toArray, List.map_cons, List.map_nil]); first | done | rfl | (simp only [List.length_drop, List.length_take]; rfl)) ?_; (with_reducible refine (cmp_isNaN_int.calls a0 false _ A3.out).mono ?_); rintro e w' ⟨rfl, ⟨nd, rfl⟩⟩; refine ⟨_, rfl, ?_⟩) | ((with_reducible refine gate_callee (f := 58) rfl ?_); refine goesL_ (some 10) rfl rfl Try.func58 (by kernel_rfl) rfl #[.int .i64 a1] rfl (by (try simp only [List.map_toArray, List.map_cons, List.map_nil]); first | done | rfl | (simp only [List.length_drop, List.length_take]; rfl)) ?_; (with_reducible refine (cmp_isNaN_int.calls a1 true _ A4.out).mono ?_); rintro e w' ⟨rfl, ⟨nd, rfl⟩⟩; refine ⟨_, rfl, ?_⟩))
   go_ret
   exact ⟨by first | rfl | (simp; done) | (simp [*]; done) | (simp [*, Go.Proofs.Ytghlellambnkeaa.Str.bne_nil]; done), by repeat (first | exact Drawn0.refl _ | apply Drawn0.step)⟩
  ·replace c7 := Bool.eq_false_iff.mpr c7
   subst c7
   have H1 : (if a0 < a1 then (some (-1)) else (if a0 > a1 then (some 1) else (some 0))) = some r := by rw [if_neg (show ¬ (false = true) by decide)] at H; exact H
   clear H
   have H := H1
   clear H1
   by_cases c8 : a0 < a1
   ·rw [if_pos c8] at H
    have c8b0 : decide (a0 < a1) = true := decide_eq_true c8
    clear c8
    obtain rfl := Option.some.inj H
    go_enter Try.func57, Try.ntmps57
    go_wp2_with (first | ((with_reducible refine gate_callee (f := 58) rfl ?_); refine goesL_ (some 8) rfl rfl Try.func58 (by kernel_rfl) rfl #[.int .i64 a0] rfl (by (try simp only [List.map_toArray, List.map_cons, List.map_nil]); first | done | rfl | (simp only [List.length_drop, List.length_take]; rfl)) ?_; (with_reducible refine (cmp_isNaN_int.calls a0 false _ A3.out).mono ?_); rintro e w' ⟨rfl, ⟨nd, rfl⟩⟩; refine ⟨_, rfl, ?_⟩) | ((with_reducible refine gate_callee (f := 58) rfl ?_); refine goesL_ (some 10) rfl rfl Try.func58 (by kernel_rfl) rfl #[.int .i64 a1] rfl (by (try simp only [List.map_toArray, List.map_cons, List.map_nil]); first | done | rfl | (simp only [List.length_drop, List.length_take]; rfl)) ?_; (with_reducible refine (cmp_isNaN_int.calls a1 false _ A4.out).mono ?_); rintro e w' ⟨rfl, ⟨nd, rfl⟩⟩; refine ⟨_, rfl, ?_⟩))
    go_ret
    exact ⟨by first | rfl | (simp; done) | (simp [*]; done) | (simp [*, Go.Proofs.Ytghlellambnkeaa.Str.bne_nil]; done), by repeat (first | exact Drawn0.refl _ | apply Drawn0.step)⟩
   ·rw [if_neg c8] at H
    have c8b0 : decide (a0 < a1) = false := decide_eq_false c8
    clear c8
    by_cases c9 : a0 > a1
    ·rw [if_pos c9] at H
     have c9b0 : decide (a1 < a0) = true := decide_eq_true c9
     clear c9
     obtain rfl := Option.some.inj H
     go_enter Try.func57, Try.ntmps57
     go_wp2_with (first | ((with_reducible refine gate_callee (f := 58) rfl ?_); refine goesL_ (some 8) rfl rfl Try.func58 (by kernel_rfl) rfl #[.int .i64 a0] rfl (by (try simp only [List.map_toArray, List.map_cons, List.map_nil]); first | done | rfl | (simp only [List.length_drop, List.length_take]; rfl)) ?_; (with_reducible refine (cmp_isNaN_int.calls a0 false _ A3.out).mono ?_); rintro e w' ⟨rfl, ⟨nd, rfl⟩⟩; refine ⟨_, rfl, ?_⟩) | ((with_reducible refine gate_callee (f := 58) rfl ?_); refine goesL_ (some 10) rfl rfl Try.func58 (by kernel_rfl) rfl #[.int .i64 a1] rfl (by (try simp only [List.map_toArray, List.map_cons, List.map_nil]); first | done | rfl | (simp only [List.length_drop, List.length_take]; rfl)) ?_; (with_reducible refine (cmp_isNaN_int.calls a1 false _ A4.out).mono ?_); rintro e w' ⟨rfl, ⟨nd, rfl⟩⟩; refine ⟨_, rfl, ?_⟩))
     go_ret
     exact ⟨by first | rfl | (simp; done) | (simp [*]; done) | (simp [*, Go.Proofs.Ytghlellambnkeaa.Str.bne_nil]; done), by repeat (first | exact Drawn0.refl _ | apply Drawn0.step)⟩
    ·rw [if_neg c9] at H
     have c9b0 : decide (a1 < a0) = false := decide_eq_false c9
     clear c9
     obtain rfl := Option.some.inj H
     go_enter Try.func57, Try.ntmps57
     go_wp2_with (first | ((with_reducible refine gate_callee (f := 58) rfl ?_); refine goesL_ (some 8) rfl rfl Try.func58 (by kernel_rfl) rfl #[.int .i64 a0] rfl (by (try simp only [List.map_toArray, List.map_cons, List.map_nil]); first | done | rfl | (simp only [List.length_drop, List.length_take]; rfl)) ?_; (with_reducible refine (cmp_isNaN_int.calls a0 false _ A3.out).mono ?_); rintro e w' ⟨rfl, ⟨nd, rfl⟩⟩; refine ⟨_, rfl, ?_⟩) | ((with_reducible refine gate_callee (f := 58) rfl ?_); refine goesL_ (some 10) rfl rfl Try.func58 (by kernel_rfl) rfl #[.int .i64 a1] rfl (by (try simp only [List.map_toArray, List.map_cons, List.map_nil]); first | done | rfl | (simp only [List.length_drop, List.length_take]; rfl)) ?_; (with_reducible refine (cmp_isNaN_int.calls a1 false _ A4.out).mono ?_); rintro e w' ⟨rfl, ⟨nd, rfl⟩⟩; refine ⟨_, rfl, ?_⟩))
     go_ret
     exact ⟨by first | rfl | (simp; done) | (simp [*]; done) | (simp [*, Go.Proofs.Ytghlellambnkeaa.Str.bne_nil]; done), by repeat (first | exact Drawn0.refl _ | apply Drawn0.step)⟩

end Go.Proofs.Ytghlellambnkeaa.PAll
