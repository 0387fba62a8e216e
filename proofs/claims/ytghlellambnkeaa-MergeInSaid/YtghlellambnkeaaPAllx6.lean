-- By wip/pr.py (a program of this session, over the kit's print): lines written by program. Not trusted: Lean checks them.
import Derived.Test.YtghlellambnkeaaPAllx0
import Derived.Test.YtghlellambnkeaaPAllx3
import Derived.Test.YtghlellambnkeaaPAllx5
namespace Go.Proofs.Ytghlellambnkeaa.PAll
open Go.RowKit Go.Proofs.YtghlellambnkeaaW.PrintWords Go.Proofs.YtghlellambnkeaaW.PrintLast Go.Proofs.YtghlellambnkeaaW.PrintMore
attribute [local go_sem] max2_int min2_int max_two min_two max_three min_three max_four min_four   -- for this text's walks alone
set_option linter.unusedVariables false
set_option linter.unusedSimpArgs false

/-! ### tidelineref09_In: function 19 -/
def tidelineref09_In.l0 : Nat → List (S44) → List (S44) → Int → ByteArray → ByteArray → Bool → Option ((List (S44)) × Int)
  | 0, _, _, _, _, _, _ => none
  | k + 1, x0, x7, x8, x151000, x151001, x151002 => if x8 < (x0.length : Int) then (if 0 ≤ x8 then ((tidelineref02_Holds.f k x151000 x151001 x151002 ((rd_T44 x0 x8).f0)).bind fun t157 => (if t157 = true then (if x7.length < 2513169434916 then (tidelineref09_In.l0 k x0 (x7 ++ [(⟨(rd_T44 x0 x8).f0, (⟨(rd_T44 x0 x8).f1.f0, (rd_T44 x0 x8).f1.f1⟩ : S42), (rd_T44 x0 x8).f2, (rd_T44 x0 x8).f3⟩ : S44)]) (wrap64 (x8 + 1)) x151000 x151001 x151002) else (none)) else (tidelineref09_In.l0 k x0 x7 (wrap64 (x8 + 1)) x151000 x151001 x151002))) else (none)) else (some (x7, 0))
def tidelineref09_In.f (k : Nat) (l0 : List (S44)) (a1_0 : ByteArray) (a1_1 : ByteArray) (a1_2 : Bool) : Option ((List (S44)) × Int) := (tidelineref09_Check.f k l0).bind fun t151 => (if t151 = 0 then ((tidelineref02_Check.f k a1_0 a1_1 a1_2).bind fun t152 => (if t152 = 0 then (tidelineref09_In.l0 k l0 (([] : List (S44))) 0 a1_0 a1_1 a1_2) else (some (([] : List (S44)), t152)))) else (some (([] : List (S44)), t151)))
theorem tidelineref09_In.mono_l : ∀ k, (∀ y0 y1 y2 y3 y4 y5, LeO (tidelineref09_In.l0 k y0 y1 y2 y3 y4 y5) (tidelineref09_In.l0 (k + 1) y0 y1 y2 y3 y4 y5))
  | 0 => fun _ _ _ _ _ _ r h => by simp [tidelineref09_In.l0] at h
  | k + 1 => by
    have ih0 := tidelineref09_In.mono_l k
    · intro y0 y1 y2 y3 y4 y5
      unfold tidelineref09_In.l0
      repeat' first
      | (with_reducible exact ih0 _ _ _ _ _ _)
      | (with_reducible exact tidelineref02_Check.mono _ _ _ _)
      | (with_reducible exact tidelineref02_Holds.mono _ _ _ _ _)
      | (with_reducible exact tidelineref09_Check.mono _ _)
      | (with_reducible exact LeO.refl _)
      | (with_reducible exact LeO.none _)
      | (with_reducible refine LeO.ite ?_ ?_)
      | (with_reducible refine LeO.bind ?_ (fun _ => ?_))
      | exact ih0 _ _ _ _ _ _
      | exact tidelineref02_Check.mono _ _ _ _
      | exact tidelineref02_Holds.mono _ _ _ _ _
      | exact tidelineref09_Check.mono _ _
      | exact LeO.none _
      | refine LeO.ite ?_ ?_
      | refine LeO.bind ?_ (fun _ => ?_)
theorem tidelineref09_In.mono : ∀ a0 a1 a2 a3 k, LeO (tidelineref09_In.f k a0 a1 a2 a3) (tidelineref09_In.f (k + 1) a0 a1 a2 a3) := by
  intro a0 a1 a2 a3 k
  have ih0 := tidelineref09_In.mono_l k
  unfold tidelineref09_In.f
  repeat' first
      | (with_reducible exact ih0 _ _ _ _ _ _)
      | (with_reducible exact tidelineref02_Check.mono _ _ _ _)
      | (with_reducible exact tidelineref02_Holds.mono _ _ _ _ _)
      | (with_reducible exact tidelineref09_Check.mono _ _)
      | (with_reducible exact LeO.refl _)
      | (with_reducible exact LeO.none _)
      | (with_reducible refine LeO.ite ?_ ?_)
      | (with_reducible refine LeO.bind ?_ (fun _ => ?_))
      | exact ih0 _ _ _ _ _ _
      | exact tidelineref02_Check.mono _ _ _ _
      | exact tidelineref02_Holds.mono _ _ _ _ _
      | exact tidelineref09_Check.mono _ _
      | exact LeO.none _
      | refine LeO.ite ?_ ?_
      | refine LeO.bind ?_ (fun _ => ?_)
set_option maxHeartbeats 8000000 in
set_option maxRecDepth 100000 in
theorem tidelineref09_In.calls (k : Nat) (A0 : Option Addr) (c0 : Nat) (l0 : List (S44)) (a1_0 : ByteArray) (a1_1 : ByteArray) (a1_2 : Bool) (r1 : List (S44)) (r2 : Int) (w : World) (hr0 : Kd.C k44 w A0 l0.length l0) (hc0 : l0.length ≤ c0) (h : tidelineref09_In.f k l0 a1_0 a1_1 a1_2 = some (r1, r2)) :
    Calls Try.prog 19 #[.slice A0 l0.length c0, .agg #[.string a1_0, .string a1_1, .bool a1_2]] w fun e w' => ∃ v0_ : Value, e = .returned (.tuple #[v0_, .int .i64 r2]) ∧ Kd.R k44 44 w' w.heap.size (fun _ => True) v0_ r1 ∧ Below w.heap.size w w' := by
 have hu30 := Try.underlying30
 have hu44 := Try.underlying44
 have HR0 := Aside0.mk hr0
 have HC0 := Aside0.mk hc0
 clear hr0 hc0
 have HB := Aside0.mk (Below.refl w.heap.size w)
 have H : ((tidelineref09_Check.f k l0).bind fun t151 => (if t151 = 0 then ((tidelineref02_Check.f k a1_0 a1_1 a1_2).bind fun t152 => (if t152 = 0 then (tidelineref09_In.l0 k l0 (([] : List (S44))) 0 a1_0 a1_1 a1_2) else (some (([] : List (S44)), t152)))) else (some (([] : List (S44)), t151)))) = some (r1, r2) := h
 clear h
 replace H := Option.bind_eq_some_iff.mp H
 obtain ⟨t151, A30, H⟩ := H
 replace H : (if t151 = 0 then ((tidelineref02_Check.f k a1_0 a1_1 a1_2).bind fun t152 => (if t152 = 0 then (tidelineref09_In.l0 k l0 (([] : List (S44))) 0 a1_0 a1_1 a1_2) else (some (([] : List (S44)), t152)))) else (some (([] : List (S44)), t151))) = some (r1, r2) := H
 have A3 := Aside0.mk A30
 clear A30
 by_cases c4 : t151 = 0
 ·rw [if_pos c4] at H
  have c4b0 : (t151 == 0) = true := beq_iff_eq.mpr c4
  have c4b1 : (t151 != 0) = false := bne_eq_false_iff_eq.mpr c4
  clear c4
  replace H := Option.bind_eq_some_iff.mp H
  obtain ⟨t152, A50, H⟩ := H
  replace H : (if t152 = 0 then (tidelineref09_In.l0 k l0 (([] : List (S44))) 0 a1_0 a1_1 a1_2) else (some (([] : List (S44)), t152))) = some (r1, r2) := H
  have A5 := Aside0.mk A50
  clear A50
  by_cases c6 : t152 = 0
  ·rw [if_pos c6] at H
   have c6b0 : (t152 == 0) = true := beq_iff_eq.mpr c6
   have c6b1 : (t152 != 0) = false := bne_eq_false_iff_eq.mpr c6
   clear c6
   obtain ⟨y153, hy153⟩ : ∃ y_ : List (S44), y_ = (([] : List (S44))) := ⟨_, rfl⟩
   replace H : (tidelineref09_In.l0 k l0 y153 0 a1_0 a1_1 a1_2) = some (r1, r2) := by first | (rw [hy153]; with_reducible exact H) | (have H2_ := (Option.bind_some _ _).symm.trans H; rw [hy153]; with_reducible exact H2_) | (have H2_ := (Option.bind_some _ _).symm.trans H; with_reducible exact H2_) | with_reducible exact H | (rw [hy153]; exact H) | exact H
   have Ny153 := Aside0.mk hy153
   clear hy153
   have H' := Aside0.mk H
   clear H
   go_enter Try.func19, Try.ntmps19
   go_wp2_with (first | ((with_reducible refine gate_dst (N := 3) rfl ?_); refine box_event ?hg (N := 3) ?hd (cs := #[.string a1_0, .string a1_1, .bool a1_2]) (t := 30) ?hr ?_; (case hd => rfl); (case hg => rfl); (case hr => first | (go_simp; done) | (go_simp; rfl)); intro gb150 hg w7 hbox hb; have n0_ := Aside0.mk (below_step (by repeat (first | (with_reducible first | exact HB.out | apply below_alloc | apply pw_below_drewN | apply below_drew1) | exact HB.out)) hb); have n1_ := Aside0.mk (hbox); have n2_ := Aside0.mk ((by rw [hg]; exact (below_size (by repeat (first | (with_reducible first | exact HB.out | apply below_alloc | apply pw_below_drewN | apply below_drew1) | exact HB.out))) : w.heap.size ≤ gb150)); have n3_ := Aside0.mk ((by rw [hg]; exact (below_size (by repeat (first | (with_reducible first | exact HB.out | apply below_alloc | apply pw_below_drewN | apply below_drew1) | exact HB.out))) : w.heap.size ≤ gb150)); clear HB; have HB := n0_; have BK150 := n1_; have GW150 := n2_; have GE150 := n3_; clear n0_ n1_ n2_ n3_; clear hb hbox hg) | ((with_reducible refine gate_callee (f := 15) rfl ?_); refine goesL_ (some 10) rfl rfl Try.func15 (by kernel_rfl) rfl #[.slice A0 l0.length c0] rfl (by (try simp only [List.map_toArray, List.map_cons, List.map_nil]); first | done | rfl | (simp only [List.length_drop, List.length_take]; rfl)) ?_; (with_reducible refine (tidelineref09_Check.calls k _ _ l0 t151 _ ?side1 ?side2 A3.out).mono ?_); (case side1 => repeat (first | exact (Kd.C_below HR0.out HB.out) | (with_reducible refine Kd.C_alloc ?_ _) | (with_reducible refine Kd.C_drewN ?_ _) | (with_reducible refine Kd.C_drew ?_))); (case side2 => exact HC0.out); rintro e w8 ⟨rfl, hb⟩; refine ⟨_, rfl, ?_⟩; have n0_ := Aside0.mk (blk_below (g := gb150) (o := .cells #[.string a1_0, .string a1_1, .bool a1_2] 30 (0, 0)) (by (with_reducible repeat (first | refine blk_drewN ?_ _ | refine blk_drew ?_ | refine blk_alloc ?_ _)); exact BK150.out) hb); have n1_ := Aside0.mk (below_step (by repeat (first | (with_reducible first | exact HB.out | apply below_alloc | apply pw_below_drewN | apply below_drew1 | refine below_set ?_ GE150.out) | exact HB.out)) hb); clear BK150; clear HB; have BK150 := n0_; have HB := n1_; clear n0_ n1_; (try clear hb); (try clear hb2); (try clear hk); (try clear hi); have hcz9_0 : w8.cell? ⟨gb150, 0, none⟩ = some (.string a1_0) := (blk_cell BK150.out 0).trans rfl; have hcz9_1 : w8.cell? ⟨gb150, 1, none⟩ = some (.string a1_1) := (blk_cell BK150.out 1).trans rfl; have hcz9_2 : w8.cell? ⟨gb150, 2, none⟩ = some (.bool a1_2) := (blk_cell BK150.out 2).trans rfl; have hfz9_0 := blk_frozen BK150.out 0; have hfz9_1 := blk_frozen BK150.out 1; have hfz9_2 := blk_frozen BK150.out 2) | ((with_reducible refine gate_callee (f := 38) rfl ?_); refine goesL_ (some 15) rfl rfl Try.func38 (by kernel_rfl) rfl #[.agg #[.string a1_0, .string a1_1, .bool a1_2]] rfl (by (try simp only [List.map_toArray, List.map_cons, List.map_nil]); first | done | rfl | (simp only [List.length_drop, List.length_take]; rfl)) ?_; (with_reducible refine (tidelineref02_Check.calls k a1_0 a1_1 a1_2 t152 _ A5.out).mono ?_); rintro e w10 ⟨rfl, hb⟩; refine ⟨_, rfl, ?_⟩; have n0_ := Aside0.mk (blk_below (g := gb150) (o := .cells #[.string a1_0, .string a1_1, .bool a1_2] 30 (0, 0)) (by (with_reducible repeat (first | refine blk_drewN ?_ _ | refine blk_drew ?_ | refine blk_alloc ?_ _)); exact BK150.out) hb); have n1_ := Aside0.mk (below_step (by repeat (first | (with_reducible first | exact HB.out | apply below_alloc | apply pw_below_drewN | apply below_drew1 | refine below_set ?_ GE150.out) | exact HB.out)) hb); clear BK150; clear HB; have BK150 := n0_; have HB := n1_; clear n0_ n1_; (try clear hb); (try clear hb2); (try clear hk); (try clear hi)) | ((with_reducible refine gate_dst (N := 19) rfl ?_); refine Kd.R_lit k44 _ 44 ?hg (N := 19) ?hd (xs := ([] : List (S44))) (inner := []) (ok := fun _ => True) (okp := fun _ => True) ?hr ?hp (fun _ hk => hk) trivial (Below.refl _ _) (Nat.le_refl _) (by simp) ?_; (case hd => rfl); (case hg => rfl); (case hr => first | (go_simp; done) | (go_simp; rfl)); (case hp => exact (Reps.none _ _)); intro v154 w11 ho12 hb hg_ hnew_; clear hg_ hnew_; (first | rw [← Ny153.out] at ho12 | (simp only [Int.reduceToNat] at ho12; rw [← Ny153.out] at ho12)); have n0_ := Aside0.mk (Kd.R_lower ho12 (below_size (by repeat (first | (with_reducible first | exact HB.out | apply below_alloc | apply pw_below_drewN | apply below_drew1 | refine below_set ?_ GE150.out) | exact HB.out)))); have n1_ := Aside0.mk (blk_below (g := gb150) (o := .cells #[.string a1_0, .string a1_1, .bool a1_2] 30 (0, 0)) (by (with_reducible repeat (first | refine blk_drewN ?_ _ | refine blk_drew ?_ | refine blk_alloc ?_ _)); exact BK150.out) hb); have n2_ := Aside0.mk (below_step (by repeat (first | (with_reducible first | exact HB.out | apply below_alloc | apply pw_below_drewN | apply below_drew1 | refine below_set ?_ GE150.out) | exact HB.out)) hb); clear BK150; clear HB; have HO155 := n0_; have BK150 := n1_; have HB := n2_; clear n0_ n1_ n2_; clear hb ho12))
   go_loopg [7, 8] k (fun kq v7 v8 w' => ∃ (x7_1 : List (S44)) (x8_1 : Int), v8 = .int .i64 x8_1 ∧ Aside0 (tidelineref09_In.l0 kq l0 x7_1 x8_1 a1_0 a1_1 a1_2 = some (r1, r2)) ∧ Aside0 (kq ≤ k) ∧ Aside0 (Kd.R k44 44 w' w.heap.size (fun _ => True) v7 x7_1) ∧ Aside0 (w'.heap[gb150]? = some (.cells #[.string a1_0, .string a1_1, .bool a1_2] 30 (0, 0))) ∧ Aside0 (Below w.heap.size w w'))
   case atStart => exact ⟨(y153), (0), (by first | rfl | (simp; done) | (simp [*]; done) | (simp [*, Go.Proofs.Ytghlellambnkeaa.Str.bne_nil]; done)), H', ⟨Nat.le_refl _⟩, ⟨by (with_reducible repeat (first | apply Kd.R_alloc | apply Kd.R_drewN | apply Kd.R_drew)); exact HO155.out⟩, ⟨by (with_reducible repeat (first | refine blk_drewN ?_ _ | refine blk_drew ?_ | refine blk_alloc ?_ _)); exact BK150.out⟩, ⟨by repeat (first | (with_reducible first | exact HB.out | apply below_alloc | apply pw_below_drewN | apply below_drew1 | refine below_set ?_ GE150.out) | exact HB.out)⟩⟩
   case round =>
    clear H'
    try clear c1
    try clear p2
    try clear c3
    try clear c4
    try clear c4b0
    try clear c4b1
    try clear c6
    try clear c6b0
    try clear c6b1
    try clear hcz9_0
    try clear hcz9_1
    try clear hcz9_2
    try clear hfz9_0
    try clear hfz9_1
    try clear hfz9_2
    obtain ⟨x7_1, x8_1, rfl, HA, HK1, HO_7, BK150, HB⟩ := hrel
    cases gk with
    | zero => exact absurd HA.out (by simp [tidelineref09_In.l0])
    | succ k1 =>
     have H := HA.out
     clear HA
     simp only [tidelineref09_In.l0] at H
     by_cases c13 : x8_1 < (l0.length : Int)
     ·rw [if_pos c13] at H
      have c13b0 : decide (x8_1 < (l0.length : Int)) = true := decide_eq_true c13
      clear c13
      by_cases c14 : 0 ≤ x8_1
      ·rw [if_pos c14] at H
       have c14b0 : decide (0 ≤ x8_1) = true := decide_eq_true c14
       clear c14
       replace H := Option.bind_eq_some_iff.mp H
       obtain ⟨t157, A150, H⟩ := H
       replace H : (if t157 = true then (if x7_1.length < 2513169434916 then (tidelineref09_In.l0 k1 l0 (x7_1 ++ [(⟨(rd_T44 l0 x8_1).f0, (⟨(rd_T44 l0 x8_1).f1.f0, (rd_T44 l0 x8_1).f1.f1⟩ : S42), (rd_T44 l0 x8_1).f2, (rd_T44 l0 x8_1).f3⟩ : S44)]) (wrap64 (x8_1 + 1)) a1_0 a1_1 a1_2) else (none)) else (tidelineref09_In.l0 k1 l0 x7_1 (wrap64 (x8_1 + 1)) a1_0 a1_1 a1_2)) = some (r1, r2) := H
       have A15 := Aside0.mk A150
       clear A150
       by_cases c16 : t157 = true
       ·subst c16
        have H1 : (if x7_1.length < 2513169434916 then (tidelineref09_In.l0 k1 l0 (x7_1 ++ [(⟨(rd_T44 l0 x8_1).f0, (⟨(rd_T44 l0 x8_1).f1.f0, (rd_T44 l0 x8_1).f1.f1⟩ : S42), (rd_T44 l0 x8_1).f2, (rd_T44 l0 x8_1).f3⟩ : S44)]) (wrap64 (x8_1 + 1)) a1_0 a1_1 a1_2) else (none)) = some (r1, r2) := by rw [if_pos rfl] at H; exact H
        clear H
        have H := H1
        clear H1
        by_cases c17 : x7_1.length < 2513169434916
        ·rw [if_pos c17] at H
         have LMc17 := Aside0.mk c17
         clear c17
         obtain ⟨y159, hy159⟩ : ∃ y_ : List (S44), y_ = (x7_1 ++ [(⟨(rd_T44 l0 x8_1).f0, (⟨(rd_T44 l0 x8_1).f1.f0, (rd_T44 l0 x8_1).f1.f1⟩ : S42), (rd_T44 l0 x8_1).f2, (rd_T44 l0 x8_1).f3⟩ : S44)]) := ⟨_, rfl⟩
         replace H : (tidelineref09_In.l0 k1 l0 y159 (wrap64 (x8_1 + 1)) a1_0 a1_1 a1_2) = some (r1, r2) := by first | (rw [hy159]; with_reducible exact H) | (have H2_ := (Option.bind_some _ _).symm.trans H; rw [hy159]; with_reducible exact H2_) | (have H2_ := (Option.bind_some _ _).symm.trans H; with_reducible exact H2_) | with_reducible exact H | (rw [hy159]; exact H) | exact H
         have Ny159 := Aside0.mk hy159
         clear hy159
         have H' := Aside0.mk H
         clear H
         try go_wp2
         have n0_ := Aside0.mk (Kd.R_drew HO_7.out)
         have n1_ := Aside0.mk (blk_drew BK150.out)
         have n2_ := Aside0.mk (below_drew1 HB.out)
         clear HO_7
         clear BK150
         clear HB
         have HO_7 := n0_
         have BK150 := n1_
         have HB := n2_
         clear n0_ n1_ n2_
         have p156 : 0 ≤ (x8_1 : Int) := of_decide_eq_true (by first | (with_reducible assumption) | assumption)
         have q156 : x8_1 < (l0.length : Int) := of_decide_eq_true (by first | (with_reducible assumption) | assumption)
         obtain ⟨ad156, e156, hx156_0, hx156_1, hx156_2, hx156_3, hx156_4⟩ := at_T44 HR0.out x8_1 p156 q156
         have hw156_4 := hx156_4
         have hw156_3 := hx156_3
         have hw156_2 := hx156_2
         have hw156_1 := hx156_1
         have hw156_0 := hx156_0
         cases e156
         replace hx156_0 := (HB.out.cell (World.block_lt_of_cell? w _ hx156_0)).trans hx156_0
         replace hx156_1 := (HB.out.cell (World.block_lt_of_cell? w _ hx156_1)).trans hx156_1
         replace hx156_2 := (HB.out.cell (World.block_lt_of_cell? w _ hx156_2)).trans hx156_2
         replace hx156_3 := (HB.out.cell (World.block_lt_of_cell? w _ hx156_3)).trans hx156_3
         replace hx156_4 := (HB.out.cell (World.block_lt_of_cell? w _ hx156_4)).trans hx156_4
         replace p156 := eq_true p156
         replace q156 := eq_true q156
         refine start_ (n := 7) (S := fun w' => w'.cell? ⟨gb150, 0, none⟩ = some (.string a1_0) ∧ w'.cell? ⟨gb150, 1, none⟩ = some (.string a1_1) ∧ w'.cell? ⟨gb150, 2, none⟩ = some (.bool a1_2) ∧ w'.cell? (ad156.add ((x8_1).toNat * 5)) = some (.string ((rd_T44 l0 x8_1).f0)) ∧ w'.cell? ⟨(ad156.add ((x8_1).toNat * 5)).block, (ad156.add ((x8_1).toNat * 5)).off + 1, none⟩ = some (.int .i64 ((rd_T44 l0 x8_1).f1.f0)) ∧ w'.cell? ⟨(ad156.add ((x8_1).toNat * 5)).block, (ad156.add ((x8_1).toNat * 5)).off + 2, none⟩ = some (.int .i64 ((rd_T44 l0 x8_1).f1.f1)) ∧ w'.cell? ⟨(ad156.add ((x8_1).toNat * 5)).block, (ad156.add ((x8_1).toNat * 5)).off + 3, none⟩ = some (.string ((rd_T44 l0 x8_1).f2)) ∧ w'.cell? ⟨(ad156.add ((x8_1).toNat * 5)).block, (ad156.add ((x8_1).toNat * 5)).off + 4, none⟩ = some (.bool ((rd_T44 l0 x8_1).f3))) (ds := []) #[false, false, false, false, false, false, false] (by kernel_rfl) rfl rfl ⟨(blk_cell BK150.out 0).trans rfl, (blk_cell BK150.out 1).trans rfl, (blk_cell BK150.out 2).trans rfl, ((HB.out.cell (World.block_lt_of_cell? w _ hw156_0)).trans hw156_0), ((HB.out.cell (World.block_lt_of_cell? w _ hw156_1)).trans hw156_1), ((HB.out.cell (World.block_lt_of_cell? w _ hw156_2)).trans hw156_2), ((HB.out.cell (World.block_lt_of_cell? w _ hw156_3)).trans hw156_3), ((HB.out.cell (World.block_lt_of_cell? w _ hw156_4)).trans hw156_4)⟩ (fun hHeld => ?_)
         generalize wr.drew = w18 at HO_7 BK150 HB hx156_0 hx156_1 hx156_2 hx156_3 hx156_4 hHeld ⊢
         refine pure_ (i := 1) (N := some 27) (v := ?_) (a' := ?_) #[false, true, false, false, false, false, false] rfl rfl (by kernel_rfl) (fun _ _ _ h => h) (Or.inl ⟨by rfl, ?_⟩) ?_ ?_
         rotate_left
         ·intro w'
          go_simp
          with_reducible rfl
         rotate_left
         ·simp only [Act.put, List.setIfInBounds_toArray, List.set_cons_zero, List.set_cons_succ, i64_w, i32_w]
          rfl
         refine pure_ (i := 2) (N := some 28) (v := ?_) (a' := ?_) #[false, true, true, false, false, false, false] rfl rfl (by kernel_rfl) (fun _ _ _ h => h) (Or.inl ⟨by rfl, ?_⟩) ?_ ?_
         rotate_left
         ·intro w'
          go_simp
          with_reducible rfl
         rotate_left
         ·simp only [Act.put, List.setIfInBounds_toArray, List.set_cons_zero, List.set_cons_succ, i64_w, i32_w]
          rfl
         refine pure_ (i := 3) (N := some 29) (v := ?_) (a' := ?_) #[false, true, true, true, false, false, false] rfl rfl (by kernel_rfl) (fun _ _ _ h => h) (Or.inl ⟨by rfl, ?_⟩) ?_ ?_
         rotate_left
         ·intro w'
          go_simp
          with_reducible rfl
         rotate_left
         ·simp only [Act.put, List.setIfInBounds_toArray, List.set_cons_zero, List.set_cons_succ, i64_w, i32_w]
          rfl
         refine pure_ (i := 4) (N := some 30) (v := ?_) (a' := ?_) #[false, true, true, true, true, false, false] rfl rfl (by kernel_rfl) (fun _ _ _ h => h) (Or.inl ⟨by rfl, ?_⟩) ?_ ?_
         rotate_left
         ·intro w'
          go_simp
          with_reducible rfl
         rotate_left
         ·simp only [Act.put, List.setIfInBounds_toArray, List.set_cons_zero, List.set_cons_succ, i64_w, i32_w]
          rfl
         refine take_ (i := 0) (N := some 26) (v := ?_) (a' := ?_) #[true, true, true, true, true, false, false] rfl rfl (by kernel_rfl) (fun _ _ _ h => h) (Or.inl ⟨by rfl, ?_⟩) hHeld ?_ ?_
         rotate_left
         ·rintro w' ⟨s0, s1, s2, s3, s4, s5, s6, s7⟩
          go_simp
          with_reducible rfl
         rotate_left
         ·simp only [Act.put, List.setIfInBounds_toArray, List.set_cons_zero, List.set_cons_succ, i64_w, i32_w]
          rfl
         refine take_ (i := 5) (N := some 31) (v := ?_) (a' := ?_) #[true, true, true, true, true, true, false] rfl rfl (by kernel_rfl) (fun _ _ _ h => h) (Or.inl ⟨by rfl, ?_⟩) hHeld ?_ ?_
         rotate_left
         ·rintro w' ⟨s0, s1, s2, s3, s4, s5, s6, s7⟩
          go_simp
          with_reducible rfl
         rotate_left
         ·simp only [Act.put, List.setIfInBounds_toArray, List.set_cons_zero, List.set_cons_succ, i64_w, i32_w]
          rfl
         refine one_ (i := 6) (N := some 32) #[true, true, true, true, true, true, true] rfl rfl (by kernel_rfl) (by decide) (fun K hK => ?_)
         refine goes_ Try.func39 (by kernel_rfl) rfl #[.agg #[.string a1_0, .string a1_1, .bool a1_2], .string ((rd_T44 l0 x8_1).f0)] (by rfl) rfl rfl (by (try simp only [List.map_toArray, List.map_cons, List.map_nil]); first | done | rfl | (simp only [List.length_drop, List.length_take]; rfl)) ?_
         with_reducible refine (tidelineref02_Holds.calls k1 a1_0 a1_1 a1_2 ((rd_T44 l0 x8_1).f0) true _ A15.out).mono ?_
         rintro e w19 ⟨rfl, hb⟩
         refine ⟨_, rfl, ?_⟩
         have n0_ := Aside0.mk (Kd.R_below (by (with_reducible repeat (first | apply Kd.R_alloc | apply Kd.R_drewN | apply Kd.R_drew)); exact HO_7.out) hb)
         have n1_ := Aside0.mk (blk_below (g := gb150) (o := .cells #[.string a1_0, .string a1_1, .bool a1_2] 30 (0, 0)) (by (with_reducible repeat (first | refine blk_drewN ?_ _ | refine blk_drew ?_ | refine blk_alloc ?_ _)); exact BK150.out) hb)
         have n2_ := Aside0.mk (below_step (by repeat (first | (with_reducible first | exact HB.out | apply below_alloc | apply pw_below_drewN | apply below_drew1 | refine below_set ?_ GE150.out) | exact HB.out)) hb)
         clear HO_7
         clear BK150
         clear HB
         have HO_7 := n0_
         have BK150 := n1_
         have HB := n2_
         clear n0_ n1_ n2_
         (try clear hb)
         (try clear hb2)
         (try clear hk)
         (try clear hi)
         refine hK.out _ _ ⟨(blk_cell BK150.out 0).trans rfl, (blk_cell BK150.out 1).trans rfl, (blk_cell BK150.out 2).trans rfl, ((HB.out.cell (World.block_lt_of_cell? w _ hw156_0)).trans hw156_0), ((HB.out.cell (World.block_lt_of_cell? w _ hw156_1)).trans hw156_1), ((HB.out.cell (World.block_lt_of_cell? w _ hw156_2)).trans hw156_2), ((HB.out.cell (World.block_lt_of_cell? w _ hw156_3)).trans hw156_3), ((HB.out.cell (World.block_lt_of_cell? w _ hw156_4)).trans hw156_4)⟩ (fun hHeld => ?_)
         clear hK K
         refine norm_ (a' := ?_) ?_ ?_
         rotate_left
         ·show Act.put _ (some 32) _ = _
          simp only [Act.put, List.setIfInBounds_toArray, List.set_cons_zero, List.set_cons_succ, i64_w, i32_w]
          rfl
         refine done_ (by kernel_rfl) ?_
         have p158 : 0 ≤ (x8_1 : Int) := of_decide_eq_true (by first | (with_reducible assumption) | assumption)
         have q158 : x8_1 < (l0.length : Int) := of_decide_eq_true (by first | (with_reducible assumption) | assumption)
         obtain ⟨ad158, e158, hx158_0, hx158_1, hx158_2, hx158_3, hx158_4⟩ := at_T44 HR0.out x8_1 p158 q158
         obtain rfl : ad156 = ad158 := (by injection e158)
         replace hx158_0 := (HB.out.cell (World.block_lt_of_cell? w _ hx158_0)).trans hx158_0
         replace hx158_1 := (HB.out.cell (World.block_lt_of_cell? w _ hx158_1)).trans hx158_1
         replace hx158_2 := (HB.out.cell (World.block_lt_of_cell? w _ hx158_2)).trans hx158_2
         replace hx158_3 := (HB.out.cell (World.block_lt_of_cell? w _ hx158_3)).trans hx158_3
         replace hx158_4 := (HB.out.cell (World.block_lt_of_cell? w _ hx158_4)).trans hx158_4
         replace p158 := eq_true p158
         replace q158 := eq_true q158
         try go_wp2_with (first | ((with_reducible refine gate_builtin (b := .append) (xs := #[.tmp 33, .tmp 38]) rfl ?_); at_builtin; refine Kd.R_append k44 (w0 := w) w.heap.size rfl (.tmp 33) (.tmp 38) 22 44 (.agg #[(.string ⟨#[]⟩), (.int .i64 0), (.int .i64 0), (.string ⟨#[]⟩), (.bool false)]) 56 rfl Try.underlying22 info44 rfl (by decide) (by omega) u7 x7_1 (⟨(rd_T44 l0 x8_1).f0, (⟨(rd_T44 l0 x8_1).f1.f0, (rd_T44 l0 x8_1).f1.f1⟩ : S42), (rd_T44 l0 x8_1).f2, (rd_T44 l0 x8_1).f3⟩ : S44) [.string ((rd_T44 l0 x8_1).f0), .int .i64 ((rd_T44 l0 x8_1).f1.f0), .int .i64 ((rd_T44 l0 x8_1).f1.f1), .string ((rd_T44 l0 x8_1).f2), .bool ((rd_T44 l0 x8_1).f3)] (fun _ => True) (fun _ => False) rfl rfl ?aP (fun _ hk => hk.elim) ?aF ?aO ?aB ?aS ?aL ?_; (case aP => exact k44_mkM _ _ _ (⟨(rd_T44 l0 x8_1).f0, (⟨(rd_T44 l0 x8_1).f1.f0, (rd_T44 l0 x8_1).f1.f1⟩ : S42), (rd_T44 l0 x8_1).f2, (rd_T44 l0 x8_1).f3⟩ : S44)); (case aB => exact (by repeat (first | (with_reducible first | exact HB.out | apply below_alloc | apply pw_below_drewN | apply below_drew1 | refine below_set ?_ GE150.out) | exact HB.out))); (case aF => exact (fun _ _ => trivial)); (case aO => exact (by (with_reducible repeat (first | apply Kd.R_alloc | apply Kd.R_drewN | apply Kd.R_drew)); exact HO_7.out)); (case aS => exact (below_size (by repeat (first | (with_reducible first | exact HB.out | apply below_alloc | apply pw_below_drewN | apply below_drew1 | refine below_set ?_ GE150.out) | exact HB.out)))); (case aL => have := LMc17.out; omega); intro v160 w20 ho hb hg hat; rw [← Ny159.out] at ho; have n0_ := Aside0.mk (blk_grown (g := gb150) (o := .cells #[.string a1_0, .string a1_1, .bool a1_2] 30 (0, 0)) (by (with_reducible repeat (first | refine blk_drewN ?_ _ | refine blk_drew ?_ | refine blk_alloc ?_ _)); exact BK150.out) hg (Kd.R_ne HO_7.out BK150.out (by decide))); have n1_ := Aside0.mk (hb); have n2_ := Aside0.mk (ho); clear BK150; clear HB; clear HO_7; have BK150 := n0_; have HB := n1_; have HO161 := n2_; clear n0_ n1_ n2_; clear ho hb hg hat))
         go_roundg k1
         case measure => have := HK1.out; omega
         case rel => exact ⟨(y159), (wrap64 (x8_1 + 1)), (by first | rfl | (simp; done) | (simp [*]; done) | (simp [*, Go.Proofs.Ytghlellambnkeaa.Str.bne_nil]; done)), H', ⟨by have := HK1.out; omega⟩, ⟨by (with_reducible repeat (first | apply Kd.R_alloc | apply Kd.R_drewN | apply Kd.R_drew)); exact HO161.out⟩, ⟨by (with_reducible repeat (first | refine blk_drewN ?_ _ | refine blk_drew ?_ | refine blk_alloc ?_ _)); exact BK150.out⟩, ⟨by repeat (first | (with_reducible first | exact HB.out | apply below_alloc | apply pw_below_drewN | apply below_drew1 | refine below_set ?_ GE150.out) | exact HB.out)⟩⟩
        ·rw [if_neg c17] at H
         exact absurd H (by simp)
       ·replace c16 := Bool.eq_false_iff.mpr c16
        subst c16
        have H1 : (tidelineref09_In.l0 k1 l0 x7_1 (wrap64 (x8_1 + 1)) a1_0 a1_1 a1_2) = some (r1, r2) := by rw [if_neg (show ¬ (false = true) by decide)] at H; exact H
        clear H
        have H := H1
        clear H1
        have H' := Aside0.mk H
        clear H
        try go_wp2
        have n0_ := Aside0.mk (Kd.R_drew HO_7.out)
        have n1_ := Aside0.mk (blk_drew BK150.out)
        have n2_ := Aside0.mk (below_drew1 HB.out)
        clear HO_7
        clear BK150
        clear HB
        have HO_7 := n0_
        have BK150 := n1_
        have HB := n2_
        clear n0_ n1_ n2_
        have p156 : 0 ≤ (x8_1 : Int) := of_decide_eq_true (by first | (with_reducible assumption) | assumption)
        have q156 : x8_1 < (l0.length : Int) := of_decide_eq_true (by first | (with_reducible assumption) | assumption)
        obtain ⟨ad156, e156, hx156_0, hx156_1, hx156_2, hx156_3, hx156_4⟩ := at_T44 HR0.out x8_1 p156 q156
        have hw156_4 := hx156_4
        have hw156_3 := hx156_3
        have hw156_2 := hx156_2
        have hw156_1 := hx156_1
        have hw156_0 := hx156_0
        cases e156
        replace hx156_0 := (HB.out.cell (World.block_lt_of_cell? w _ hx156_0)).trans hx156_0
        replace hx156_1 := (HB.out.cell (World.block_lt_of_cell? w _ hx156_1)).trans hx156_1
        replace hx156_2 := (HB.out.cell (World.block_lt_of_cell? w _ hx156_2)).trans hx156_2
        replace hx156_3 := (HB.out.cell (World.block_lt_of_cell? w _ hx156_3)).trans hx156_3
        replace hx156_4 := (HB.out.cell (World.block_lt_of_cell? w _ hx156_4)).trans hx156_4
        replace p156 := eq_true p156
        replace q156 := eq_true q156
        refine start_ (n := 7) (S := fun w' => w'.cell? ⟨gb150, 0, none⟩ = some (.string a1_0) ∧ w'.cell? ⟨gb150, 1, none⟩ = some (.string a1_1) ∧ w'.cell? ⟨gb150, 2, none⟩ = some (.bool a1_2) ∧ w'.cell? (ad156.add ((x8_1).toNat * 5)) = some (.string ((rd_T44 l0 x8_1).f0)) ∧ w'.cell? ⟨(ad156.add ((x8_1).toNat * 5)).block, (ad156.add ((x8_1).toNat * 5)).off + 1, none⟩ = some (.int .i64 ((rd_T44 l0 x8_1).f1.f0)) ∧ w'.cell? ⟨(ad156.add ((x8_1).toNat * 5)).block, (ad156.add ((x8_1).toNat * 5)).off + 2, none⟩ = some (.int .i64 ((rd_T44 l0 x8_1).f1.f1)) ∧ w'.cell? ⟨(ad156.add ((x8_1).toNat * 5)).block, (ad156.add ((x8_1).toNat * 5)).off + 3, none⟩ = some (.string ((rd_T44 l0 x8_1).f2)) ∧ w'.cell? ⟨(ad156.add ((x8_1).toNat * 5)).block, (ad156.add ((x8_1).toNat * 5)).off + 4, none⟩ = some (.bool ((rd_T44 l0 x8_1).f3))) (ds := []) #[false, false, false, false, false, false, false] (by kernel_rfl) rfl rfl ⟨(blk_cell BK150.out 0).trans rfl, (blk_cell BK150.out 1).trans rfl, (blk_cell BK150.out 2).trans rfl, ((HB.out.cell (World.block_lt_of_cell? w _ hw156_0)).trans hw156_0), ((HB.out.cell (World.block_lt_of_cell? w _ hw156_1)).trans hw156_1), ((HB.out.cell (World.block_lt_of_cell? w _ hw156_2)).trans hw156_2), ((HB.out.cell (World.block_lt_of_cell? w _ hw156_3)).trans hw156_3), ((HB.out.cell (World.block_lt_of_cell? w _ hw156_4)).trans hw156_4)⟩ (fun hHeld => ?_)
        generalize wr.drew = w21 at HO_7 BK150 HB hx156_0 hx156_1 hx156_2 hx156_3 hx156_4 hHeld ⊢
        refine pure_ (i := 1) (N := some 27) (v := ?_) (a' := ?_) #[false, true, false, false, false, false, false] rfl rfl (by kernel_rfl) (fun _ _ _ h => h) (Or.inl ⟨by rfl, ?_⟩) ?_ ?_
        rotate_left
        ·intro w'
         go_simp
         with_reducible rfl
        rotate_left
        ·simp only [Act.put, List.setIfInBounds_toArray, List.set_cons_zero, List.set_cons_succ, i64_w, i32_w]
         rfl
        refine pure_ (i := 2) (N := some 28) (v := ?_) (a' := ?_) #[false, true, true, false, false, false, false] rfl rfl (by kernel_rfl) (fun _ _ _ h => h) (Or.inl ⟨by rfl, ?_⟩) ?_ ?_
        rotate_left
        ·intro w'
         go_simp
         with_reducible rfl
        rotate_left
        ·simp only [Act.put, List.setIfInBounds_toArray, List.set_cons_zero, List.set_cons_succ, i64_w, i32_w]
         rfl
        refine pure_ (i := 3) (N := some 29) (v := ?_) (a' := ?_) #[false, true, true, true, false, false, false] rfl rfl (by kernel_rfl) (fun _ _ _ h => h) (Or.inl ⟨by rfl, ?_⟩) ?_ ?_
        rotate_left
        ·intro w'
         go_simp
         with_reducible rfl
        rotate_left
        ·simp only [Act.put, List.setIfInBounds_toArray, List.set_cons_zero, List.set_cons_succ, i64_w, i32_w]
         rfl
        refine pure_ (i := 4) (N := some 30) (v := ?_) (a' := ?_) #[false, true, true, true, true, false, false] rfl rfl (by kernel_rfl) (fun _ _ _ h => h) (Or.inl ⟨by rfl, ?_⟩) ?_ ?_
        rotate_left
        ·intro w'
         go_simp
         with_reducible rfl
        rotate_left
        ·simp only [Act.put, List.setIfInBounds_toArray, List.set_cons_zero, List.set_cons_succ, i64_w, i32_w]
         rfl
        refine take_ (i := 0) (N := some 26) (v := ?_) (a' := ?_) #[true, true, true, true, true, false, false] rfl rfl (by kernel_rfl) (fun _ _ _ h => h) (Or.inl ⟨by rfl, ?_⟩) hHeld ?_ ?_
        rotate_left
        ·rintro w' ⟨s0, s1, s2, s3, s4, s5, s6, s7⟩
         go_simp
         with_reducible rfl
        rotate_left
        ·simp only [Act.put, List.setIfInBounds_toArray, List.set_cons_zero, List.set_cons_succ, i64_w, i32_w]
         rfl
        refine take_ (i := 5) (N := some 31) (v := ?_) (a' := ?_) #[true, true, true, true, true, true, false] rfl rfl (by kernel_rfl) (fun _ _ _ h => h) (Or.inl ⟨by rfl, ?_⟩) hHeld ?_ ?_
        rotate_left
        ·rintro w' ⟨s0, s1, s2, s3, s4, s5, s6, s7⟩
         go_simp
         with_reducible rfl
        rotate_left
        ·simp only [Act.put, List.setIfInBounds_toArray, List.set_cons_zero, List.set_cons_succ, i64_w, i32_w]
         rfl
        refine one_ (i := 6) (N := some 32) #[true, true, true, true, true, true, true] rfl rfl (by kernel_rfl) (by decide) (fun K hK => ?_)
        refine goes_ Try.func39 (by kernel_rfl) rfl #[.agg #[.string a1_0, .string a1_1, .bool a1_2], .string ((rd_T44 l0 x8_1).f0)] (by rfl) rfl rfl (by (try simp only [List.map_toArray, List.map_cons, List.map_nil]); first | done | rfl | (simp only [List.length_drop, List.length_take]; rfl)) ?_
        with_reducible refine (tidelineref02_Holds.calls k1 a1_0 a1_1 a1_2 ((rd_T44 l0 x8_1).f0) false _ A15.out).mono ?_
        rintro e w22 ⟨rfl, hb⟩
        refine ⟨_, rfl, ?_⟩
        have n0_ := Aside0.mk (Kd.R_below (by (with_reducible repeat (first | apply Kd.R_alloc | apply Kd.R_drewN | apply Kd.R_drew)); exact HO_7.out) hb)
        have n1_ := Aside0.mk (blk_below (g := gb150) (o := .cells #[.string a1_0, .string a1_1, .bool a1_2] 30 (0, 0)) (by (with_reducible repeat (first | refine blk_drewN ?_ _ | refine blk_drew ?_ | refine blk_alloc ?_ _)); exact BK150.out) hb)
        have n2_ := Aside0.mk (below_step (by repeat (first | (with_reducible first | exact HB.out | apply below_alloc | apply pw_below_drewN | apply below_drew1 | refine below_set ?_ GE150.out) | exact HB.out)) hb)
        clear HO_7
        clear BK150
        clear HB
        have HO_7 := n0_
        have BK150 := n1_
        have HB := n2_
        clear n0_ n1_ n2_
        (try clear hb)
        (try clear hb2)
        (try clear hk)
        (try clear hi)
        refine hK.out _ _ ⟨(blk_cell BK150.out 0).trans rfl, (blk_cell BK150.out 1).trans rfl, (blk_cell BK150.out 2).trans rfl, ((HB.out.cell (World.block_lt_of_cell? w _ hw156_0)).trans hw156_0), ((HB.out.cell (World.block_lt_of_cell? w _ hw156_1)).trans hw156_1), ((HB.out.cell (World.block_lt_of_cell? w _ hw156_2)).trans hw156_2), ((HB.out.cell (World.block_lt_of_cell? w _ hw156_3)).trans hw156_3), ((HB.out.cell (World.block_lt_of_cell? w _ hw156_4)).trans hw156_4)⟩ (fun hHeld => ?_)
        clear hK K
        refine norm_ (a' := ?_) ?_ ?_
        rotate_left
        ·show Act.put _ (some 32) _ = _
         simp only [Act.put, List.setIfInBounds_toArray, List.set_cons_zero, List.set_cons_succ, i64_w, i32_w]
         rfl
        refine done_ (by kernel_rfl) ?_
        try go_wp2
        go_roundg k1
        case measure => have := HK1.out; omega
        case rel => exact ⟨(x7_1), (wrap64 (x8_1 + 1)), (by first | rfl | (simp; done) | (simp [*]; done) | (simp [*, Go.Proofs.Ytghlellambnkeaa.Str.bne_nil]; done)), H', ⟨by have := HK1.out; omega⟩, ⟨by (with_reducible repeat (first | apply Kd.R_alloc | apply Kd.R_drewN | apply Kd.R_drew)); exact HO_7.out⟩, ⟨by (with_reducible repeat (first | refine blk_drewN ?_ _ | refine blk_drew ?_ | refine blk_alloc ?_ _)); exact BK150.out⟩, ⟨by repeat (first | (with_reducible first | exact HB.out | apply below_alloc | apply pw_below_drewN | apply below_drew1 | refine below_set ?_ GE150.out) | exact HB.out)⟩⟩
      ·rw [if_neg c14] at H
       exact absurd H (by simp)
     ·rw [if_neg c13] at H
      have c13b0 : decide (x8_1 < (l0.length : Int)) = false := decide_eq_false c13
      clear c13
      simp only [Option.some.injEq, Prod.mk.injEq] at H
      obtain ⟨rfl, rfl⟩ := H
      go_wp2
      go_ret2
      exact ⟨_, by first | rfl | (simp [errW_none, errW_some] <;> rfl) | (simp [*, errW_none, errW_some] <;> rfl), by (with_reducible repeat (first | apply Kd.R_alloc | apply Kd.R_drewN | apply Kd.R_drew)); exact HO_7.out, by repeat (first | (with_reducible first | exact HB.out | apply below_alloc | apply pw_below_drewN | apply below_drew1 | refine below_set ?_ GE150.out) | exact HB.out)⟩
  ·rw [if_neg c6] at H
   have c6b0 : (t152 == 0) = false := beq_eq_false_iff_ne.mpr c6
   have c6b1 : (t152 != 0) = true := bne_iff_ne.mpr c6
   simp only [Option.some.injEq, Prod.mk.injEq] at H
   obtain ⟨rfl, rfl⟩ := H
   go_enter Try.func19, Try.ntmps19
   go_wp2_with (first | ((with_reducible refine gate_dst (N := 3) rfl ?_); refine box_event ?hg (N := 3) ?hd (cs := #[.string a1_0, .string a1_1, .bool a1_2]) (t := 30) ?hr ?_; (case hd => rfl); (case hg => rfl); (case hr => first | (go_simp; done) | (go_simp; rfl)); intro gb150 hg w23 hbox hb; have n0_ := Aside0.mk (below_step (by repeat (first | (with_reducible first | exact HB.out | apply below_alloc | apply pw_below_drewN | apply below_drew1) | exact HB.out)) hb); have n1_ := Aside0.mk (hbox); have n2_ := Aside0.mk ((by rw [hg]; exact (below_size (by repeat (first | (with_reducible first | exact HB.out | apply below_alloc | apply pw_below_drewN | apply below_drew1) | exact HB.out))) : w.heap.size ≤ gb150)); have n3_ := Aside0.mk ((by rw [hg]; exact (below_size (by repeat (first | (with_reducible first | exact HB.out | apply below_alloc | apply pw_below_drewN | apply below_drew1) | exact HB.out))) : w.heap.size ≤ gb150)); clear HB; have HB := n0_; have BK150 := n1_; have GW150 := n2_; have GE150 := n3_; clear n0_ n1_ n2_ n3_; clear hb hbox hg) | ((with_reducible refine gate_callee (f := 15) rfl ?_); refine goesL_ (some 10) rfl rfl Try.func15 (by kernel_rfl) rfl #[.slice A0 l0.length c0] rfl (by (try simp only [List.map_toArray, List.map_cons, List.map_nil]); first | done | rfl | (simp only [List.length_drop, List.length_take]; rfl)) ?_; (with_reducible refine (tidelineref09_Check.calls k _ _ l0 t151 _ ?side1 ?side2 A3.out).mono ?_); (case side1 => repeat (first | exact (Kd.C_below HR0.out HB.out) | (with_reducible refine Kd.C_alloc ?_ _) | (with_reducible refine Kd.C_drewN ?_ _) | (with_reducible refine Kd.C_drew ?_))); (case side2 => exact HC0.out); rintro e w24 ⟨rfl, hb⟩; refine ⟨_, rfl, ?_⟩; have n0_ := Aside0.mk (blk_below (g := gb150) (o := .cells #[.string a1_0, .string a1_1, .bool a1_2] 30 (0, 0)) (by (with_reducible repeat (first | refine blk_drewN ?_ _ | refine blk_drew ?_ | refine blk_alloc ?_ _)); exact BK150.out) hb); have n1_ := Aside0.mk (below_step (by repeat (first | (with_reducible first | exact HB.out | apply below_alloc | apply pw_below_drewN | apply below_drew1 | refine below_set ?_ GE150.out) | exact HB.out)) hb); clear BK150; clear HB; have BK150 := n0_; have HB := n1_; clear n0_ n1_; (try clear hb); (try clear hb2); (try clear hk); (try clear hi); have hcz25_0 : w24.cell? ⟨gb150, 0, none⟩ = some (.string a1_0) := (blk_cell BK150.out 0).trans rfl; have hcz25_1 : w24.cell? ⟨gb150, 1, none⟩ = some (.string a1_1) := (blk_cell BK150.out 1).trans rfl; have hcz25_2 : w24.cell? ⟨gb150, 2, none⟩ = some (.bool a1_2) := (blk_cell BK150.out 2).trans rfl; have hfz25_0 := blk_frozen BK150.out 0; have hfz25_1 := blk_frozen BK150.out 1; have hfz25_2 := blk_frozen BK150.out 2) | ((with_reducible refine gate_callee (f := 38) rfl ?_); refine goesL_ (some 15) rfl rfl Try.func38 (by kernel_rfl) rfl #[.agg #[.string a1_0, .string a1_1, .bool a1_2]] rfl (by (try simp only [List.map_toArray, List.map_cons, List.map_nil]); first | done | rfl | (simp only [List.length_drop, List.length_take]; rfl)) ?_; (with_reducible refine (tidelineref02_Check.calls k a1_0 a1_1 a1_2 t152 _ A5.out).mono ?_); rintro e w26 ⟨rfl, hb⟩; refine ⟨_, rfl, ?_⟩; have n0_ := Aside0.mk (blk_below (g := gb150) (o := .cells #[.string a1_0, .string a1_1, .bool a1_2] 30 (0, 0)) (by (with_reducible repeat (first | refine blk_drewN ?_ _ | refine blk_drew ?_ | refine blk_alloc ?_ _)); exact BK150.out) hb); have n1_ := Aside0.mk (below_step (by repeat (first | (with_reducible first | exact HB.out | apply below_alloc | apply pw_below_drewN | apply below_drew1 | refine below_set ?_ GE150.out) | exact HB.out)) hb); clear BK150; clear HB; have BK150 := n0_; have HB := n1_; clear n0_ n1_; (try clear hb); (try clear hb2); (try clear hk); (try clear hi)))
   go_ret2
   exact ⟨_, by first | rfl | (simp [errW_none, errW_some] <;> rfl) | (simp [*, errW_none, errW_some] <;> rfl), by first | exact Kd.R_nil _ _ _ _ _ | exact Kd.N_nil _ _ _ _ _ | exact Kd.V_nil _ _ _ _ _ | exact Kd.Q_nil _ _ _ _ _ | exact Kd.S_nil _ _ _ _ _, by repeat (first | (with_reducible first | exact HB.out | apply below_alloc | apply pw_below_drewN | apply below_drew1 | refine below_set ?_ GE150.out) | exact HB.out)⟩
 ·rw [if_neg c4] at H
  have c4b0 : (t151 == 0) = false := beq_eq_false_iff_ne.mpr c4
  have c4b1 : (t151 != 0) = true := bne_iff_ne.mpr c4
  simp only [Option.some.injEq, Prod.mk.injEq] at H
  obtain ⟨rfl, rfl⟩ := H
  go_enter Try.func19, Try.ntmps19
  go_wp2_with (first | ((with_reducible refine gate_dst (N := 3) rfl ?_); refine box_event ?hg (N := 3) ?hd (cs := #[.string a1_0, .string a1_1, .bool a1_2]) (t := 30) ?hr ?_; (case hd => rfl); (case hg => rfl); (case hr => first | (go_simp; done) | (go_simp; rfl)); intro gb150 hg w27 hbox hb; have n0_ := Aside0.mk (below_step (by repeat (first | (with_reducible first | exact HB.out | apply below_alloc | apply pw_below_drewN | apply below_drew1) | exact HB.out)) hb); have n1_ := Aside0.mk (hbox); have n2_ := Aside0.mk ((by rw [hg]; exact (below_size (by repeat (first | (with_reducible first | exact HB.out | apply below_alloc | apply pw_below_drewN | apply below_drew1) | exact HB.out))) : w.heap.size ≤ gb150)); have n3_ := Aside0.mk ((by rw [hg]; exact (below_size (by repeat (first | (with_reducible first | exact HB.out | apply below_alloc | apply pw_below_drewN | apply below_drew1) | exact HB.out))) : w.heap.size ≤ gb150)); clear HB; have HB := n0_; have BK150 := n1_; have GW150 := n2_; have GE150 := n3_; clear n0_ n1_ n2_ n3_; clear hb hbox hg) | ((with_reducible refine gate_callee (f := 15) rfl ?_); refine goesL_ (some 10) rfl rfl Try.func15 (by kernel_rfl) rfl #[.slice A0 l0.length c0] rfl (by (try simp only [List.map_toArray, List.map_cons, List.map_nil]); first | done | rfl | (simp only [List.length_drop, List.length_take]; rfl)) ?_; (with_reducible refine (tidelineref09_Check.calls k _ _ l0 t151 _ ?side1 ?side2 A3.out).mono ?_); (case side1 => repeat (first | exact (Kd.C_below HR0.out HB.out) | (with_reducible refine Kd.C_alloc ?_ _) | (with_reducible refine Kd.C_drewN ?_ _) | (with_reducible refine Kd.C_drew ?_))); (case side2 => exact HC0.out); rintro e w28 ⟨rfl, hb⟩; refine ⟨_, rfl, ?_⟩; have n0_ := Aside0.mk (blk_below (g := gb150) (o := .cells #[.string a1_0, .string a1_1, .bool a1_2] 30 (0, 0)) (by (with_reducible repeat (first | refine blk_drewN ?_ _ | refine blk_drew ?_ | refine blk_alloc ?_ _)); exact BK150.out) hb); have n1_ := Aside0.mk (below_step (by repeat (first | (with_reducible first | exact HB.out | apply below_alloc | apply pw_below_drewN | apply below_drew1 | refine below_set ?_ GE150.out) | exact HB.out)) hb); clear BK150; clear HB; have BK150 := n0_; have HB := n1_; clear n0_ n1_; (try clear hb); (try clear hb2); (try clear hk); (try clear hi)))
  go_ret2
  exact ⟨_, by first | rfl | (simp [errW_none, errW_some] <;> rfl) | (simp [*, errW_none, errW_some] <;> rfl), by first | exact Kd.R_nil _ _ _ _ _ | exact Kd.N_nil _ _ _ _ _ | exact Kd.V_nil _ _ _ _ _ | exact Kd.Q_nil _ _ _ _ _ | exact Kd.S_nil _ _ _ _ _, by repeat (first | (with_reducible first | exact HB.out | apply below_alloc | apply pw_below_drewN | apply below_drew1 | refine below_set ?_ GE150.out) | exact HB.out)⟩

/-! ### tidelinelaw09_spoil: function 21 -/
mutual
def tidelinelaw09_spoil.l0 : Nat → List (S44) → Int → Option (Unit)
  | 0, _, _ => none
  | k + 1, x0, x2 => if x2 < (x0.length : Int) then (if 0 ≤ x2 then (tidelinelaw09_spoil.l0 k (x0.set (x2 : Int).toNat (⟨(⟨#[115, 112, 111, 105, 108, 116]⟩ : ByteArray), (⟨0, 0⟩ : S42), (⟨#[]⟩ : ByteArray), false⟩ : S44)) (wrap64 (x2 + 1))) else (none)) else (tidelinelaw09_spoil.l1 k x0 0)
def tidelinelaw09_spoil.l1 : Nat → List (S44) → Int → Option (Unit)
  | 0, _, _ => none
  | k + 1, x0, x3 => if x3 < 12 then (if x0.length < 2513169434916 then (tidelinelaw09_spoil.l1 k (x0 ++ [(⟨(⟨#[103, 114, 111, 119, 110]⟩ : ByteArray), (⟨0, 0⟩ : S42), (⟨#[]⟩ : ByteArray), false⟩ : S44)]) (wrap64 (x3 + 1))) else (none)) else (some ())
end
def tidelinelaw09_spoil.f (k : Nat) (l0 : List (S44)) : Option (Unit) := tidelinelaw09_spoil.l0 k l0 0
theorem tidelinelaw09_spoil.mono_l : ∀ k, (∀ y0 y1, LeO (tidelinelaw09_spoil.l0 k y0 y1) (tidelinelaw09_spoil.l0 (k + 1) y0 y1)) ∧ (∀ y0 y1, LeO (tidelinelaw09_spoil.l1 k y0 y1) (tidelinelaw09_spoil.l1 (k + 1) y0 y1))
  | 0 => ⟨fun _ _ r h => by simp [tidelinelaw09_spoil.l0] at h, fun _ _ r h => by simp [tidelinelaw09_spoil.l1] at h⟩
  | k + 1 => by
    obtain ⟨ih0, ih1⟩ := tidelinelaw09_spoil.mono_l k
    refine ⟨?_, ?_⟩
    · intro y0 y1
      unfold tidelinelaw09_spoil.l0
      repeat' first
      | (with_reducible exact ih0 _ _)
      | (with_reducible exact ih1 _ _)
      | (with_reducible exact LeO.refl _)
      | (with_reducible exact LeO.none _)
      | (with_reducible refine LeO.ite ?_ ?_)
      | (with_reducible refine LeO.bind ?_ (fun _ => ?_))
      | exact ih0 _ _
      | exact ih1 _ _
      | exact LeO.none _
      | refine LeO.ite ?_ ?_
      | refine LeO.bind ?_ (fun _ => ?_)
    · intro y0 y1
      unfold tidelinelaw09_spoil.l1
      repeat' first
      | (with_reducible exact ih0 _ _)
      | (with_reducible exact ih1 _ _)
      | (with_reducible exact LeO.refl _)
      | (with_reducible exact LeO.none _)
      | (with_reducible refine LeO.ite ?_ ?_)
      | (with_reducible refine LeO.bind ?_ (fun _ => ?_))
      | exact ih0 _ _
      | exact ih1 _ _
      | exact LeO.none _
      | refine LeO.ite ?_ ?_
      | refine LeO.bind ?_ (fun _ => ?_)
theorem tidelinelaw09_spoil.mono : ∀ a0 k, LeO (tidelinelaw09_spoil.f k a0) (tidelinelaw09_spoil.f (k + 1) a0) := by
  intro a0 k
  obtain ⟨ih0, ih1⟩ := tidelinelaw09_spoil.mono_l k
  unfold tidelinelaw09_spoil.f
  repeat' first
      | (with_reducible exact ih0 _ _)
      | (with_reducible exact ih1 _ _)
      | (with_reducible exact LeO.refl _)
      | (with_reducible exact LeO.none _)
      | (with_reducible refine LeO.ite ?_ ?_)
      | (with_reducible refine LeO.bind ?_ (fun _ => ?_))
      | exact ih0 _ _
      | exact ih1 _ _
      | exact LeO.none _
      | refine LeO.ite ?_ ?_
      | refine LeO.bind ?_ (fun _ => ?_)
set_option maxHeartbeats 8000000 in
set_option maxRecDepth 100000 in
theorem tidelinelaw09_spoil.calls (k : Nat) (P0_ : Nat → Prop) (u9000_ : Value) (l0 : List (S44)) (w0 w : World) (hB : Below w0.heap.size w0 w) (ho0 : Kd.R k44 44 w w0.heap.size P0_ u9000_ l0) (h : tidelinelaw09_spoil.f k l0 = some ()) :
    Calls Try.prog 21 #[u9000_] w fun e w' => e = .returned (.tuple #[]) ∧ Below w0.heap.size w0 w' ∧ Kept w w' (fun k_ => P0_ k_) := by
 have hu44 := Try.underlying44
 have HO0 := Aside0.mk (show Kd.R k44 44 w w0.heap.size (fun k_ => (P0_ k_ ∨ w.heap.size ≤ k_)) u9000_ l0 from Kd.R_mono ho0 (fun k_ hk => (.inl hk)))
 have HK := Aside0.mk (Kept.refl w (fun k_ => P0_ k_))
 have HW0 := Aside0.mk hB.size
 have HB := Aside0.mk hB
 clear hB
 have H : (tidelinelaw09_spoil.l0 k l0 0) = some () := h
 clear h
 have H' := Aside0.mk H
 clear H
 go_enter Try.func21, Try.ntmps21
 go_wp2
 go_loopg [2] k (fun kq v2 w' => ∃ (x0_1 : List (S44)) (x2_1 : Int), v2 = .int .i64 x2_1 ∧ Aside0 (tidelinelaw09_spoil.l0 kq x0_1 x2_1 = some ()) ∧ Aside0 (kq ≤ k) ∧ Aside0 (Kd.R k44 44 w' w0.heap.size (fun k_ => (P0_ k_ ∨ w.heap.size ≤ k_)) u9000_ x0_1) ∧ Aside0 (Kept w w' (fun k_ => P0_ k_)) ∧ Aside0 (Below w0.heap.size w0 w'))
 case atStart => exact ⟨(l0), (0), (by first | rfl | (simp; done) | (simp [*]; done) | (simp [*, Go.Proofs.Ytghlellambnkeaa.Str.bne_nil]; done)), H', ⟨Nat.le_refl _⟩, ⟨by (with_reducible repeat (first | apply Kd.R_alloc | apply Kd.R_drewN | apply Kd.R_drew)); exact HO0.out⟩, ⟨by repeat (first | (with_reducible first | exact HK.out | apply Kept.alloc | apply Kept.drewN | apply Kept.drew) | exact HK.out)⟩, ⟨by repeat (first | (with_reducible first | exact HB.out | apply below_alloc | apply pw_below_drewN | apply below_drew1) | exact HB.out)⟩⟩
 case round =>
  clear H'
  obtain ⟨x0_1, x2_1, rfl, HA, HK1, HO_0, HK, HB⟩ := hrel
  cases gk with
  | zero => exact absurd HA.out (by simp [tidelinelaw09_spoil.l0])
  | succ k1 =>
   have H := HA.out
   clear HA
   simp only [tidelinelaw09_spoil.l0] at H
   by_cases c2 : x2_1 < (x0_1.length : Int)
   ·rw [if_pos c2] at H
    have c2b0 : decide (x2_1 < (x0_1.length : Int)) = true := decide_eq_true c2
    clear c2
    by_cases c3 : 0 ≤ x2_1
    ·rw [if_pos c3] at H
     have c3b0 : decide (0 ≤ x2_1) = true := decide_eq_true c3
     clear c3
     obtain ⟨y162, hy162⟩ : ∃ y_ : List (S44), y_ = (x0_1.set (x2_1 : Int).toNat (⟨(⟨#[115, 112, 111, 105, 108, 116]⟩ : ByteArray), (⟨0, 0⟩ : S42), (⟨#[]⟩ : ByteArray), false⟩ : S44)) := ⟨_, rfl⟩
     replace H : (tidelinelaw09_spoil.l0 k1 y162 (wrap64 (x2_1 + 1))) = some () := by first | (rw [hy162]; with_reducible exact H) | (have H2_ := (Option.bind_some _ _).symm.trans H; rw [hy162]; with_reducible exact H2_) | (have H2_ := (Option.bind_some _ _).symm.trans H; with_reducible exact H2_) | with_reducible exact H | (rw [hy162]; exact H) | exact H
     have Ny162 := Aside0.mk hy162
     clear hy162
     have H' := Aside0.mk H
     clear H
     obtain ⟨Ao5, co5, eo5⟩ := Kd.R_slice HO_0.out
     subst eo5
     have p4 : 0 ≤ (x2_1 : Int) := of_decide_eq_true (by first | (with_reducible assumption) | assumption)
     have q4 : (x2_1 : Int) < ((x0_1.length : Int) : Int) := of_decide_eq_true (by first | (with_reducible assumption) | assumption)
     obtain ⟨go4, co4, eo4, gb4, gl4, cl4, HG4⟩ := Kd.R_form HO_0.out (by omega)
     (first | cases eo4 | (injection eo4 with ea_ en_ ec_; (first | subst ea_ | (injection ea_ with ea_; subst ea_)); subst ec_; clear en_))
     have GB4 := Aside0.mk gb4
     have GG4 := Aside0.mk HG4
     clear gb4 gl4 HG4
     have HMgo4 := Aside0.mk (show (P0_ go4 ∨ w.heap.size ≤ go4) from (HO_0.out.1 _ rfl))
     obtain ⟨ce4, hcl4, hM4, hcc4, hfr4⟩ := Kd.R_elem HO_0.out z44 (x2_1 : Int) p4 q4
     obtain rfl := k44_openM hM4
     have hx4_0 : wr.cell? ⟨go4, (x2_1 : Int).toNat * 5, none⟩ = some (.string ((rd_T44 x0_1 x2_1).f0)) := hcc4 0 _ rfl
     have hx4_1 : wr.cell? ⟨go4, (x2_1 : Int).toNat * 5 + 1, none⟩ = some (.int .i64 ((rd_T44 x0_1 x2_1).f1.f0)) := hcc4 1 _ rfl
     have hx4_2 : wr.cell? ⟨go4, (x2_1 : Int).toNat * 5 + 2, none⟩ = some (.int .i64 ((rd_T44 x0_1 x2_1).f1.f1)) := hcc4 2 _ rfl
     have hx4_3 : wr.cell? ⟨go4, (x2_1 : Int).toNat * 5 + 3, none⟩ = some (.string ((rd_T44 x0_1 x2_1).f2)) := hcc4 3 _ rfl
     have hx4_4 : wr.cell? ⟨go4, (x2_1 : Int).toNat * 5 + 4, none⟩ = some (.bool ((rd_T44 x0_1 x2_1).f3)) := hcc4 4 _ rfl
     have hf4_0 : wr.frozen? ⟨go4, (x2_1 : Int).toNat * 5, none⟩ = false := hfr4 0
     have hf4_1 : wr.frozen? ⟨go4, (x2_1 : Int).toNat * 5 + 1, none⟩ = false := hfr4 1
     have hf4_2 : wr.frozen? ⟨go4, (x2_1 : Int).toNat * 5 + 2, none⟩ = false := hfr4 2
     have hf4_3 : wr.frozen? ⟨go4, (x2_1 : Int).toNat * 5 + 3, none⟩ = false := hfr4 3
     have hf4_4 : wr.frozen? ⟨go4, (x2_1 : Int).toNat * 5 + 4, none⟩ = false := hfr4 4
     clear hcl4 hcc4 hfr4 hM4
     replace p4 := eq_true p4
     replace q4 := eq_true q4
     have HX6 := Aside0.mk (show Kd.R k44 44 wr w0.heap.size (fun k_ => (P0_ k_ ∨ w.heap.size ≤ k_)) (.slice (some ⟨go4, 0, none⟩) x0_1.length co5) x0_1 from (by (with_reducible repeat (first | apply Kd.R_alloc | apply Kd.R_drewN | apply Kd.R_drew)); exact HO_0.out))
     obtain ⟨ce6, hcl6, hM6, hcc6, hfr6⟩ := Kd.R_elem HX6.out z44 (x2_1 : Int) (of_decide_eq_true (by first | (with_reducible assumption) | assumption)) (by have h_ : (x2_1 : Int) < ((x0_1.length : Int) : Int) := of_decide_eq_true (by first | (with_reducible assumption) | assumption); first | exact h_ | (have e_ := (Kd.R_reads' HO_0.out).1; omega) | simpa using h_)
     obtain rfl := k44_openM hM6
     have HP6 := Kd.R_seg HX6.out (x2_1 : Int) (of_decide_eq_true (by first | (with_reducible assumption) | assumption)) (by have h_ : (x2_1 : Int) < ((x0_1.length : Int) : Int) := of_decide_eq_true (by first | (with_reducible assumption) | assumption); first | exact h_ | (have e_ := (Kd.R_reads' HO_0.out).1; omega) | simpa using h_) (seg := [.string (⟨#[115, 112, 111, 105, 108, 116]⟩ : ByteArray), .int .i64 0, .int .i64 0, .string (⟨#[]⟩ : ByteArray), .bool false]) (j := 0) hcl6 hcc6 (show 5 ≤ 5 from by decide) (x' := (⟨(⟨#[115, 112, 111, 105, 108, 116]⟩ : ByteArray), (⟨0, 0⟩ : S42), (⟨#[]⟩ : ByteArray), false⟩ : S44)) (k44_mkM _ _ _ (⟨(⟨#[115, 112, 111, 105, 108, 116]⟩ : ByteArray), (⟨0, 0⟩ : S42), (⟨#[]⟩ : ByteArray), false⟩ : S44) ) (fun _ hk => hk)
     have hx6_0 := hcc6 0 _ rfl
     (try simp only [show (k44).sz = 5 from rfl, Nat.mul_one, Nat.add_zero] at hx6_0)
     have hf6_0 := hfr6 0
     (try simp only [show (k44).sz = 5 from rfl, Nat.mul_one, Nat.add_zero] at hf6_0)
     have hx6_1 := hcc6 1 _ rfl
     (try simp only [show (k44).sz = 5 from rfl, Nat.mul_one, Nat.add_zero] at hx6_1)
     have hf6_1 := hfr6 1
     (try simp only [show (k44).sz = 5 from rfl, Nat.mul_one, Nat.add_zero] at hf6_1)
     have hx6_2 := hcc6 2 _ rfl
     (try simp only [show (k44).sz = 5 from rfl, Nat.mul_one, Nat.add_zero] at hx6_2)
     have hf6_2 := hfr6 2
     (try simp only [show (k44).sz = 5 from rfl, Nat.mul_one, Nat.add_zero] at hf6_2)
     have hx6_3 := hcc6 3 _ rfl
     (try simp only [show (k44).sz = 5 from rfl, Nat.mul_one, Nat.add_zero] at hx6_3)
     have hf6_3 := hfr6 3
     (try simp only [show (k44).sz = 5 from rfl, Nat.mul_one, Nat.add_zero] at hf6_3)
     have hx6_4 := hcc6 4 _ rfl
     (try simp only [show (k44).sz = 5 from rfl, Nat.mul_one, Nat.add_zero] at hx6_4)
     have hf6_4 := hfr6 4
     (try simp only [show (k44).sz = 5 from rfl, Nat.mul_one, Nat.add_zero] at hf6_4)
     clear hcl6 hcc6 hfr6 hM6
     go_wp2_with (first | ((with_reducible refine gate_store (t := 44) (p := 13) rfl ?_); refine store_event (t := 44) (p := 13) (v := ?vo_w7) (w1 := (((((wr.setCell ⟨go4, (x2_1 : Int).toNat * 5, none⟩ (.string (⟨#[115, 112, 111, 105, 108, 116]⟩ : ByteArray))).setCell ⟨go4, (x2_1 : Int).toNat * 5 + 1, none⟩ (.int .i64 0)).setCell ⟨go4, (x2_1 : Int).toNat * 5 + 2, none⟩ (.int .i64 0)).setCell ⟨go4, (x2_1 : Int).toNat * 5 + 3, none⟩ (.string (⟨#[]⟩ : ByteArray))).setCell ⟨go4, (x2_1 : Int).toNat * 5 + 4, none⟩ (.bool false))) ?hg ?ho ?hn ?hr ?_; (case ho => rfl); (case hg => rfl); (case hn => rfl); (case hr => first | (go_simp; done) | (go_simp; rfl)); intro w7 hw; have hg : wr.grownBy w7 (some go4) := (by rw [hw]; exact HP6.2); have hp_ : Kd.R k44 44 w7 w0.heap.size (fun k_ => (P0_ k_ ∨ w.heap.size ≤ k_)) (.slice (some ⟨go4, 0, none⟩) x0_1.length co5) y162 := (by rw [hw, Ny162.out]; exact HP6.1); clear HP6; have n0_ := Aside0.mk (hp_); have n1_ := Aside0.mk ((by rw [hw]; exact below_set (below_set (below_set (below_set (below_set (HB.out) GB4.out) GB4.out) GB4.out) GB4.out) GB4.out : Below w0.heap.size w0 w7)); have n2_ := Aside0.mk (Kept.of_grown (S := (fun k_ => P0_ k_)) hg (by repeat (first | (with_reducible first | exact HK.out | apply Kept.alloc | apply Kept.drewN | apply Kept.drew) | exact HK.out)) (fun k_ e_ => (HO_0.out.1 k_ e_))); clear HO_0; clear HB; clear HK; have HO_0 := n0_; have HB := n1_; have HK := n2_; clear n0_ n1_ n2_; clear hg hw hp_))
     go_roundg k1
     case measure => have := HK1.out; omega
     case rel => exact ⟨(y162), (wrap64 (x2_1 + 1)), (by first | rfl | (simp; done) | (simp [*]; done) | (simp [*, Go.Proofs.Ytghlellambnkeaa.Str.bne_nil]; done)), H', ⟨by have := HK1.out; omega⟩, ⟨by (with_reducible repeat (first | apply Kd.R_alloc | apply Kd.R_drewN | apply Kd.R_drew)); exact HO_0.out⟩, ⟨by repeat (first | (with_reducible first | exact HK.out | apply Kept.alloc | apply Kept.drewN | apply Kept.drew) | exact HK.out)⟩, ⟨by repeat (first | (with_reducible first | exact HB.out | apply below_alloc | apply pw_below_drewN | apply below_drew1) | exact HB.out)⟩⟩
    ·rw [if_neg c3] at H
     exact absurd H (by simp)
   ·rw [if_neg c2] at H
    have c2b0 : decide (x2_1 < (x0_1.length : Int)) = false := decide_eq_false c2
    clear c2
    have H' := Aside0.mk H
    clear H
    obtain ⟨Ao8, co8, eo8⟩ := Kd.R_slice HO_0.out
    subst eo8
    go_wp2
    go_loopg [0, 3] k1 (fun kq v0 v3 w' => ∃ (x0_2 : List (S44)) (x3_2 : Int), v3 = .int .i64 x3_2 ∧ Aside0 (tidelinelaw09_spoil.l1 kq x0_2 x3_2 = some ()) ∧ Aside0 (kq ≤ k1) ∧ Aside0 (Kd.R k44 44 w' w0.heap.size (fun k_ => (P0_ k_ ∨ w.heap.size ≤ k_)) v0 x0_2) ∧ Aside0 (Kept w w' (fun k_ => P0_ k_)) ∧ Aside0 (Below w0.heap.size w0 w'))
    case atStart => exact ⟨(x0_1), (0), (by first | rfl | (simp; done) | (simp [*]; done) | (simp [*, Go.Proofs.Ytghlellambnkeaa.Str.bne_nil]; done)), H', ⟨Nat.le_refl _⟩, ⟨by (with_reducible repeat (first | apply Kd.R_alloc | apply Kd.R_drewN | apply Kd.R_drew)); exact HO_0.out⟩, ⟨by repeat (first | (with_reducible first | exact HK.out | apply Kept.alloc | apply Kept.drewN | apply Kept.drew) | exact HK.out)⟩, ⟨by repeat (first | (with_reducible first | exact HB.out | apply below_alloc | apply pw_below_drewN | apply below_drew1) | exact HB.out)⟩⟩
    case round =>
     clear H'
     try clear c2
     try clear c2b0
     try clear p2
     try clear c3
     try clear c3b0
     try clear c4
     try clear p4
     try clear q4
     try clear hx4
     try clear hf4
     try clear c6
     try clear p6
     try clear hx6
     try clear hf6
     try clear hx4_0
     try clear hx4_1
     try clear hx4_2
     try clear hx4_3
     try clear hx4_4
     try clear hx6_0
     try clear hx6_1
     try clear hx6_2
     try clear hx6_3
     try clear hx6_4
     try clear p4
     try clear q4
     obtain ⟨x0_2, x3_2, rfl, HA, HK2, HO_0, HK, HB⟩ := hrel
     cases gk with
     | zero => exact absurd HA.out (by simp [tidelinelaw09_spoil.l1])
     | succ k2 =>
      have H := HA.out
      clear HA
      simp only [tidelinelaw09_spoil.l1] at H
      by_cases c9 : x3_2 < 12
      ·rw [if_pos c9] at H
       have c9b0 : decide (x3_2 < 12) = true := decide_eq_true c9
       clear c9
       by_cases c10 : x0_2.length < 2513169434916
       ·rw [if_pos c10] at H
        have LMc10 := Aside0.mk c10
        clear c10
        obtain ⟨y163, hy163⟩ : ∃ y_ : List (S44), y_ = (x0_2 ++ [(⟨(⟨#[103, 114, 111, 119, 110]⟩ : ByteArray), (⟨0, 0⟩ : S42), (⟨#[]⟩ : ByteArray), false⟩ : S44)]) := ⟨_, rfl⟩
        replace H : (tidelinelaw09_spoil.l1 k2 y163 (wrap64 (x3_2 + 1))) = some () := by first | (rw [hy163]; with_reducible exact H) | (have H2_ := (Option.bind_some _ _).symm.trans H; rw [hy163]; with_reducible exact H2_) | (have H2_ := (Option.bind_some _ _).symm.trans H; with_reducible exact H2_) | with_reducible exact H | (rw [hy163]; exact H) | exact H
        have Ny163 := Aside0.mk hy163
        clear hy163
        have H' := Aside0.mk H
        clear H
        go_wp2_with (first | ((with_reducible refine gate_builtin (b := .append) (xs := #[.tmp 18, .tmp 20]) rfl ?_); at_builtin; refine Kd.R_append k44 (w0 := w0) w0.heap.size rfl (.tmp 18) (.tmp 20) 22 44 (.agg #[(.string ⟨#[]⟩), (.int .i64 0), (.int .i64 0), (.string ⟨#[]⟩), (.bool false)]) 56 rfl Try.underlying22 info44 rfl (by decide) (by omega) u0 x0_2 (⟨(⟨#[103, 114, 111, 119, 110]⟩ : ByteArray), (⟨0, 0⟩ : S42), (⟨#[]⟩ : ByteArray), false⟩ : S44) [.string (⟨#[103, 114, 111, 119, 110]⟩ : ByteArray), .int .i64 0, .int .i64 0, .string (⟨#[]⟩ : ByteArray), .bool false] (fun k_ => (P0_ k_ ∨ w.heap.size ≤ k_)) (fun _ => False) rfl rfl ?aP (fun _ hk => hk.elim) ?aF ?aO ?aB ?aS ?aL ?_; (case aP => exact k44_mkM _ _ _ (⟨(⟨#[103, 114, 111, 119, 110]⟩ : ByteArray), (⟨0, 0⟩ : S42), (⟨#[]⟩ : ByteArray), false⟩ : S44)); (case aB => exact (by repeat (first | (with_reducible first | exact HB.out | apply below_alloc | apply pw_below_drewN | apply below_drew1) | exact HB.out))); (case aF => exact (fun k_ hk => (.inr (Nat.le_trans (by first | exact HK.out.1 | exact (show Kept w _ (fun k_ => P0_ k_) from by repeat (first | (with_reducible first | exact HK.out | apply Kept.alloc | apply Kept.drewN | apply Kept.drew) | exact HK.out)).1) hk)))); (case aO => exact (by (with_reducible repeat (first | apply Kd.R_alloc | apply Kd.R_drewN | apply Kd.R_drew)); exact HO_0.out)); (case aS => exact (below_size (by repeat (first | (with_reducible first | exact HB.out | apply below_alloc | apply pw_below_drewN | apply below_drew1) | exact HB.out)))); (case aL => have := LMc10.out; omega); intro v164 w11 ho hb hg hat; rw [← Ny163.out] at ho; have n0_ := Aside0.mk (hb); have n1_ := Aside0.mk (Kept.of_grown (S := (fun k_ => P0_ k_)) hg (by repeat (first | (with_reducible first | exact HK.out | apply Kept.alloc | apply Kept.drewN | apply Kept.drew) | exact HK.out)) (fun k_ e_ => (HO_0.out.1 k_ e_))); have n2_ := Aside0.mk (ho); clear HB; clear HK; clear HO_0; have HB := n0_; have HK := n1_; have HO165 := n2_; clear n0_ n1_ n2_; clear ho hb hg hat))
        go_roundg k2
        case measure => have := HK1.out; have := HK2.out; omega
        case rel => exact ⟨(y163), (wrap64 (x3_2 + 1)), (by first | rfl | (simp; done) | (simp [*]; done) | (simp [*, Go.Proofs.Ytghlellambnkeaa.Str.bne_nil]; done)), H', ⟨by have := HK1.out; have := HK2.out; omega⟩, ⟨by (with_reducible repeat (first | apply Kd.R_alloc | apply Kd.R_drewN | apply Kd.R_drew)); exact HO165.out⟩, ⟨by repeat (first | (with_reducible first | exact HK.out | apply Kept.alloc | apply Kept.drewN | apply Kept.drew) | exact HK.out)⟩, ⟨by repeat (first | (with_reducible first | exact HB.out | apply below_alloc | apply pw_below_drewN | apply below_drew1) | exact HB.out)⟩⟩
       ·rw [if_neg c10] at H
        exact absurd H (by simp)
      ·rw [if_neg c9] at H
       have c9b0 : decide (x3_2 < 12) = false := decide_eq_false c9
       clear c9
       go_wp2
       first | go_end0 | ((try simp only [Exit.inBlock, Exit.then]); refine bodyPost_ret (results_none rfl _ _ _) rfl ?_)
       exact ⟨by first | rfl | (simp [errW_none, errW_some] <;> rfl) | (simp [*, errW_none, errW_some] <;> rfl), by repeat (first | (with_reducible first | exact HB.out | apply below_alloc | apply pw_below_drewN | apply below_drew1) | exact HB.out), by repeat (first | (with_reducible first | exact HK.out | apply Kept.alloc | apply Kept.drewN | apply Kept.drew) | exact HK.out)⟩

end Go.Proofs.Ytghlellambnkeaa.PAll
