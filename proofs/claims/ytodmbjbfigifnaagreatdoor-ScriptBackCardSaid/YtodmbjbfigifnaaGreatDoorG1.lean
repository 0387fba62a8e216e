import Derived.Test.YtodmbjbfigifnaaGreatDoorG0
namespace Go.Proofs.YtodmbjbfigifnaaGreatDoor.PAll
open Go.RowKit Go.Proofs.YtodmbjbfigifnaaGreatDoorW.PrintWords Go.Proofs.YtodmbjbfigifnaaGreatDoorW.PrintLast Go.Proofs.YtodmbjbfigifnaaGreatDoorW.PrintMore
attribute [local go_sem] max2_int min2_int max_two min_two max_three min_three max_four min_four   -- for this text's walks alone
set_option linter.unusedVariables false
set_option linter.unusedSimpArgs false
def nums_Hex.l0 : Nat → List Int → List Int → Int → Int → Option (ByteArray)
  | 0, _, _, _, _ => none
  | k + 1, x3, x11, x12, x13 => if x13 < x12 then (if 0 ≤ x13 then (if x13 < (x11.length : Int) then (if 0 ≤ ((rd x11 x13) / 16) then (if ((rd x11 x13) / 16) < 16 then (if 0 ≤ (Go.bits .and .u8 (rd x11 x13) 15) then (if (Go.bits .and .u8 (rd x11 x13) 15) < 16 then ((some (([bt (⟨#[48, 49, 50, 51, 52, 53, 54, 55, 56, 57, 97, 98, 99, 100, 101, 102]⟩ : ByteArray) ((rd x11 x13) / 16), bt (⟨#[48, 49, 50, 51, 52, 53, 54, 55, 56, 57, 97, 98, 99, 100, 101, 102]⟩ : ByteArray) (Go.bits .and .u8 (rd x11 x13) 15)] : List Int) : List Int)).bind fun y129 => (if x3.length + y129.length < 140737488355328 then (nums_Hex.l0 k (x3 ++ y129) x11 x12 (wrap64 (x13 + 1))) else (none))) else (none)) else (none)) else (none)) else (none)) else (none)) else (none)) else (some (strOfNums x3))
def nums_Hex.f (k : Nat) (a0 : ByteArray) : Option (ByteArray) := if 0 ≤ (wrap64 (2 * (a0.size : Int))) then (if (wrap64 (2 * (a0.size : Int)) : Int).toNat ≤ 281474976710656 then (if a0.size ≤ 9223372036854775807 then ((some (bytesOf a0 : List Int)).bind fun y125 => (nums_Hex.l0 k (([] : List Int)) y125 (y125.length : Int) 0)) else (none)) else (none)) else (none)
theorem nums_Hex.mono_l : ∀ k, (∀ y0 y1 y2 y3, LeO (nums_Hex.l0 k y0 y1 y2 y3) (nums_Hex.l0 (k + 1) y0 y1 y2 y3))
  | 0 => fun _ _ _ _ r h => by simp [nums_Hex.l0] at h
  | k + 1 => by
    have ih0 := nums_Hex.mono_l k
    · intro y0 y1 y2 y3
      unfold nums_Hex.l0
      repeat' first
      | (with_reducible exact ih0 _ _ _ _)
      | (with_reducible exact LeO.refl _)
      | (with_reducible exact LeO.none _)
      | (with_reducible refine LeO.ite ?_ ?_)
      | (with_reducible refine LeO.bind ?_ (fun _ => ?_))
      | exact ih0 _ _ _ _
      | exact LeO.none _
      | refine LeO.ite ?_ ?_
      | refine LeO.bind ?_ (fun _ => ?_)
theorem nums_Hex.mono : ∀ a0 k, LeO (nums_Hex.f k a0) (nums_Hex.f (k + 1) a0) := by
  intro a0 k
  have ih0 := nums_Hex.mono_l k
  unfold nums_Hex.f
  repeat' first
      | (with_reducible exact ih0 _ _ _ _)
      | (with_reducible exact LeO.refl _)
      | (with_reducible exact LeO.none _)
      | (with_reducible refine LeO.ite ?_ ?_)
      | (with_reducible refine LeO.bind ?_ (fun _ => ?_))
      | exact ih0 _ _ _ _
      | exact LeO.none _
      | refine LeO.ite ?_ ?_
      | refine LeO.bind ?_ (fun _ => ?_)
def nums_Hex.T5 : Bool × List (List Nat × List Nat) := (true, [([], []), ([], []), ([1], [1]), ([2], [2]), ([], []), ([4], [4]), ([5], [5]), ([3, 6], [3, 6]), ([0, 7], [0, 7]), ([8, 8, 0, 1, 2, 3, 4, 5, 6, 7, 8], [0, 8])])
def nums_Hex.B5 : List Nat := [0, 0, 2, 6, 0, 16, 48, 126, 255, 511]
theorem nums_Hex.tab5 : rtab .any (opsOf Tryz.f26 5) = nums_Hex.T5 := by kernel_rfl
theorem nums_Hex.bits5 : waitsOk nums_Hex.T5.2 nums_Hex.B5 = true := by kernel_rfl
set_option maxHeartbeats 8000000 in
set_option maxRecDepth 100000 in
theorem nums_Hex.calls (k : Nat) (a0 : ByteArray) (r : ByteArray) (w : World) (h : nums_Hex.f k a0 = some r) :
    Calls Tryz.prog 26 #[.string a0] w fun e w' => e = .returned (.string r) ∧ Below w.heap.size w w' := by
  have HB := Aside0.mk (Below.refl w.heap.size w)
  have H : (if 0 ≤ (wrap64 (2 * (a0.size : Int))) then (if (wrap64 (2 * (a0.size : Int)) : Int).toNat ≤ 281474976710656 then (if a0.size ≤ 9223372036854775807 then ((some (bytesOf a0 : List Int)).bind fun y125 => (nums_Hex.l0 k (([] : List Int)) y125 (y125.length : Int) 0)) else (none)) else (none)) else (none)) = some r := h
  clear h
  obtain ⟨ji2, hji2⟩ : ∃ j_ : Int, (wrap64 (2 * (a0.size : Int))) = j_ := ⟨_, rfl⟩
  replace H : (if 0 ≤ (ji2) then (if (ji2 : Int).toNat ≤ 281474976710656 then (if a0.size ≤ 9223372036854775807 then ((some (bytesOf a0 : List Int)).bind fun y125 => (nums_Hex.l0 k (([] : List Int)) y125 (y125.length : Int) 0)) else (none)) else (none)) else (none)) = some r := by first | (rw [hji2] at H; exact H) | (simp only [hji2] at H ⊢; exact H)
  have hji2w : (IntKind.i64.wrap (2 * (a0.size : Int))) = ji2 := (i64_w _).trans hji2
  by_cases c3 : 0 ≤ (ji2)
  · rw [if_pos c3] at H
    have c3b0 := eq_true c3
    have c3b1 : decide (0 ≤ (ji2)) = true := decide_eq_true c3
    clear c3
    by_cases c4 : (ji2 : Int).toNat ≤ 281474976710656
    · rw [if_pos c4] at H
      have c4b0 := eq_true c4
      have c4b1 : decide ((ji2 : Int).toNat ≤ 281474976710656) = true := decide_eq_true c4
      clear c4
      obtain ⟨y122, hy122⟩ : ∃ y_ : List Int, y_ = (([] : List Int)) := ⟨_, rfl⟩
      replace H : (if a0.size ≤ 9223372036854775807 then ((some (bytesOf a0 : List Int)).bind fun y125 => (nums_Hex.l0 k y122 y125 (y125.length : Int) 0)) else (none)) = some r := by first | (rw [hy122]; with_reducible exact H) | (have H2_ := (Option.bind_some _ _).symm.trans H; rw [hy122]; with_reducible exact H2_) | (have H2_ := (Option.bind_some _ _).symm.trans H; with_reducible exact H2_) | with_reducible exact H | (rw [hy122]; exact H) | exact H
      have Ny122 := Aside0.mk hy122
      clear hy122
      by_cases c5 : a0.size ≤ 9223372036854775807
      · rw [if_pos c5] at H
        have c5b0 := eq_true c5
        have c5b1 : decide (a0.size ≤ 9223372036854775807) = true := decide_eq_true c5
        try have c5b2 : (9223372036854775807 < a0.size) = False := eq_false (Nat.not_lt.2 c5)
        clear c5
        obtain ⟨y125, hy125⟩ : ∃ y_ : List Int, y_ = (bytesOf a0) := ⟨_, rfl⟩
        replace H : (nums_Hex.l0 k y122 y125 (y125.length : Int) 0) = some r := by first | (rw [hy125]; with_reducible exact H) | (have H2_ := (Option.bind_some _ _).symm.trans H; rw [hy125]; with_reducible exact H2_) | (have H2_ := (Option.bind_some _ _).symm.trans H; with_reducible exact H2_) | with_reducible exact H | (rw [hy125]; exact H) | exact H
        have Ny125 := Aside0.mk hy125
        clear hy125
        have H' := Aside0.mk H
        clear H
        go_enter Tryz.func26, Tryz.ntmps26
        go_wp2_with (first | ((with_reducible refine gate_dst (N := 9) rfl ?_); refine Kd.R_makec (Kd.int .u8) _ 5 rfl (N := 9) rfl 64 _ _ rfl ji2 rfl rfl Tryz.underlying64 (.int .u8 0) 1 info5 rfl (by decide) (by omega) 0 (ok := fun _ => True) (okp := fun _ => True) rfl (fun _ hk => hk) trivial (of_decide_eq_true (by first | (with_reducible assumption) | assumption)) (Nat.le_trans (Nat.mul_le_mul_right _ (of_decide_eq_true (by first | (with_reducible assumption) | assumption) : ji2.toNat ≤ 281474976710656)) (by omega)) (Below.refl _ _) (Nat.le_refl _) ?_; intro v123 w6 ho7 hb hg_ hnew_; clear hg_ hnew_; (first | rw [← Ny122.out] at ho7 | (simp only [Int.reduceToNat] at ho7; rw [← Ny122.out] at ho7)); have n0_ := Aside0.mk (Kd.R_lower ho7 (below_size (by repeat (first | (with_reducible first | exact HB.out | apply below_alloc | apply pw_below_drewN | apply below_drew1) | exact HB.out)))); have n1_ := Aside0.mk (below_step (by repeat (first | (with_reducible first | exact HB.out | apply below_alloc | apply pw_below_drewN | apply below_drew1) | exact HB.out)) hb); clear HB; have HO124 := n0_; have HB := n1_; clear n0_ n1_; clear hb ho7) | ((with_reducible refine gate_dst (N := 11) rfl ?_); refine Kd.V_conv _ 5 rfl (N := 11) rfl 9 64 _ rfl a0 rfl Tryz.underlying9 Tryz.underlying64 Tryz.underlying5 (ok := fun k_ => w6.heap.size ≤ k_) (Nat.le_refl _) (of_decide_eq_true (by first | (with_reducible assumption) | assumption)) (Below.refl _ _) (Nat.le_refl _) ?_; intro v126 w8 ho9 hb hg_ hnew_; clear hg_ hnew_; (first | rw [← Ny125.out] at ho9 | (simp only [Int.reduceToNat] at ho9; rw [← Ny125.out] at ho9)); have n0_ := Aside0.mk (Kd.R_below (by (with_reducible repeat (first | apply Kd.R_alloc | apply Kd.R_drewN | apply Kd.R_drew)); exact HO124.out) hb); have n1_ := Aside0.mk (Kd.V_lower (Kd.V_mono (ok' := fun k_ => some k_ ≠ (v123 : Value).ownBlock) ho9 (fun k_ hk_ => (Kd.fresh' (Kd.R_lt (by (with_reducible repeat (first | apply Kd.R_alloc | apply Kd.R_drewN | apply Kd.R_drew)); exact HO124.out)) k_ hk_))) (below_size (by repeat (first | (with_reducible first | exact HB.out | apply below_alloc | apply pw_below_drewN | apply below_drew1) | exact HB.out)))); have n2_ := Aside0.mk (below_step (by repeat (first | (with_reducible first | exact HB.out | apply below_alloc | apply pw_below_drewN | apply below_drew1) | exact HB.out)) hb); clear HO124; clear HB; have HO124 := n0_; have HO127 := n1_; have HB := n2_; clear n0_ n1_ n2_; clear hb ho9; obtain ⟨Ao10, co10, eo10⟩ := Kd.V_slice HO127.out; subst eo10))
        go_loopg [3, 13] k (fun kq v3 v13 w' => ∃ (x3_1 : List Int) (x13_1 : Int), v13 = .int .i64 x13_1 ∧ Aside0 (nums_Hex.l0 kq x3_1 y125 (y125.length : Int) x13_1 = some r) ∧ Aside0 (kq ≤ k) ∧ Aside0 (Kd.R (Kd.int .u8) 5 w' w.heap.size (fun _ => True) v3 x3_1) ∧ Aside0 (Kd.V (Kd.int .u8) 5 w' w.heap.size (fun k_ => some k_ ≠ (v3 : Value).ownBlock) (.slice Ao10 y125.length co10) y125) ∧ Aside0 (Below w.heap.size w w'))
        case atStart => exact ⟨(y122), (0), (by first | rfl | (simp; done) | (simp [*]; done) | (simp [*, Go.Proofs.YtodmbjbfigifnaaGreatDoor.Str.bne_nil]; done)), H', ⟨Nat.le_refl _⟩, ⟨by (with_reducible repeat (first | apply Kd.R_alloc | apply Kd.R_drewN | apply Kd.R_drew)); exact HO124.out⟩, ⟨by (with_reducible repeat (first | apply Kd.V_alloc | apply Kd.V_drewN | apply Kd.V_drew)); exact HO127.out⟩, ⟨by repeat (first | (with_reducible first | exact HB.out | apply below_alloc | apply pw_below_drewN | apply below_drew1) | exact HB.out)⟩⟩
        case round =>
          clear H'
          try clear c2
          try clear p2
          try clear c3
          try clear c3b0
          try clear c3b1
          try clear c4
          try clear c4b0
          try clear c4b1
          try clear c5
          try clear c5b0
          try clear c5b1
          try clear c5b2
          try clear p6
          obtain ⟨x3_1, x13_1, rfl, HA, HK1, HO_3, HO_11, HB⟩ := hrel
          cases gk with
          | zero => exact absurd HA.out (by simp [nums_Hex.l0])
          | succ k1 =>
            have H := HA.out
            clear HA
            simp only [nums_Hex.l0] at H
            by_cases c11 : x13_1 < (y125.length : Int)
            · rw [if_pos c11] at H
              have c11b0 : decide (x13_1 < (y125.length : Int)) = true := decide_eq_true c11
              clear c11
              by_cases c12 : 0 ≤ x13_1
              · rw [if_pos c12] at H
                have c12b0 : decide (0 ≤ x13_1) = true := decide_eq_true c12
                clear c12
                by_cases c13 : x13_1 < (y125.length : Int)
                · rw [if_pos c13] at H
                  have c13b0 : decide (x13_1 < (y125.length : Int)) = true := decide_eq_true c13
                  clear c13
                  obtain ⟨ji14, hji14⟩ : ∃ j_ : Int, ((rd y125 x13_1) / 16) = j_ := ⟨_, rfl⟩
                  replace H : (if 0 ≤ (ji14) then (if (ji14) < 16 then (if 0 ≤ (Go.bits .and .u8 (rd y125 x13_1) 15) then (if (Go.bits .and .u8 (rd y125 x13_1) 15) < 16 then ((some (([bt (⟨#[48, 49, 50, 51, 52, 53, 54, 55, 56, 57, 97, 98, 99, 100, 101, 102]⟩ : ByteArray) (ji14), bt (⟨#[48, 49, 50, 51, 52, 53, 54, 55, 56, 57, 97, 98, 99, 100, 101, 102]⟩ : ByteArray) (Go.bits .and .u8 (rd y125 x13_1) 15)] : List Int) : List Int)).bind fun y129 => (if x3_1.length + y129.length < 140737488355328 then (nums_Hex.l0 k1 (x3_1 ++ y129) y125 (y125.length : Int) (wrap64 (x13_1 + 1))) else (none))) else (none)) else (none)) else (none)) else (none)) = some r := by first | (rw [hji14] at H; exact H) | (simp only [hji14] at H ⊢; exact H)
                  by_cases c15 : 0 ≤ (ji14)
                  · rw [if_pos c15] at H
                    have c15b0 : decide (0 ≤ (ji14)) = true := decide_eq_true c15
                    clear c15
                    by_cases c16 : (ji14) < 16
                    · rw [if_pos c16] at H
                      have c16b0 : decide ((ji14) < 16) = true := decide_eq_true c16
                      clear c16
                      by_cases c18 : 0 ≤ (Go.bits .and .u8 (rd y125 x13_1) 15)
                      · rw [if_pos c18] at H
                        have c18b0 : decide (0 ≤ (Go.bits .and .u8 (rd y125 x13_1) 15)) = true := decide_eq_true c18
                        clear c18
                        by_cases c19 : (Go.bits .and .u8 (rd y125 x13_1) 15) < 16
                        · rw [if_pos c19] at H
                          have c19b0 : decide ((Go.bits .and .u8 (rd y125 x13_1) 15) < 16) = true := decide_eq_true c19
                          clear c19
                          obtain ⟨y129, hy129⟩ : ∃ y_ : List Int, y_ = (([bt (⟨#[48, 49, 50, 51, 52, 53, 54, 55, 56, 57, 97, 98, 99, 100, 101, 102]⟩ : ByteArray) (ji14), bt (⟨#[48, 49, 50, 51, 52, 53, 54, 55, 56, 57, 97, 98, 99, 100, 101, 102]⟩ : ByteArray) (Go.bits .and .u8 (rd y125 x13_1) 15)] : List Int)) := ⟨_, rfl⟩
                          replace H : (if x3_1.length + y129.length < 140737488355328 then (nums_Hex.l0 k1 (x3_1 ++ y129) y125 (y125.length : Int) (wrap64 (x13_1 + 1))) else (none)) = some r := by first | (rw [hy129]; with_reducible exact H) | (have H2_ := (Option.bind_some _ _).symm.trans H; rw [hy129]; with_reducible exact H2_) | (have H2_ := (Option.bind_some _ _).symm.trans H; with_reducible exact H2_) | with_reducible exact H | (rw [hy129]; exact H) | exact H
                          have Ny129 := Aside0.mk hy129
                          clear hy129
                          by_cases c21 : x3_1.length + y129.length < 140737488355328
                          · rw [if_pos c21] at H
                            have LMc21 := Aside0.mk c21
                            clear c21
                            obtain ⟨y132, hy132⟩ : ∃ y_ : List Int, y_ = (x3_1 ++ y129) := ⟨_, rfl⟩
                            replace H : (nums_Hex.l0 k1 y132 y125 (y125.length : Int) (wrap64 (x13_1 + 1))) = some r := by first | (rw [hy132]; with_reducible exact H) | (have H2_ := (Option.bind_some _ _).symm.trans H; rw [hy132]; with_reducible exact H2_) | (have H2_ := (Option.bind_some _ _).symm.trans H; with_reducible exact H2_) | with_reducible exact H | (rw [hy132]; exact H) | exact H
                            have Ny132 := Aside0.mk hy132
                            clear hy132
                            have H' := Aside0.mk H
                            clear H
                            have p128 : 0 ≤ (x13_1 : Int) := of_decide_eq_true (by first | (with_reducible assumption) | assumption)
                            have q128 : x13_1 < (y125.length : Int) := of_decide_eq_true (by first | (with_reducible assumption) | assumption)
                            obtain ⟨ad128, e128, hx128_0⟩ := Kd.at_int (Kd.V_reads' HO_11.out).2.2 x13_1 p128 q128
                            cases e128
                            replace p128 := eq_true p128
                            replace q128 := eq_true q128
                            try go_wp2
                            have n0_ := Aside0.mk (Kd.R_drew HO_3.out)
                            have n1_ := Aside0.mk (Kd.V_drew HO_11.out)
                            have n2_ := Aside0.mk (below_drew1 HB.out)
                            clear HO_3
                            clear HO_11
                            clear HB
                            have HO_3 := n0_
                            have HO_11 := n1_
                            have HB := n2_
                            clear n0_ n1_ n2_
                            have p17 : 0 ≤ ((ji14) : Int) := of_decide_eq_true (by first | (with_reducible assumption) | assumption)
                            have q17 : (ji14) < (16 : Int) := of_decide_eq_true (by first | (with_reducible assumption) | assumption)
                            have hx17 := bt_at (⟨#[48, 49, 50, 51, 52, 53, 54, 55, 56, 57, 97, 98, 99, 100, 101, 102]⟩ : ByteArray) (ji14)
                            replace p17 := eq_true p17
                            replace q17 := eq_true q17
                            have p20 : 0 ≤ ((Go.bits .and .u8 (rd y125 x13_1) 15) : Int) := of_decide_eq_true (by first | (with_reducible assumption) | assumption)
                            have q20 : (Go.bits .and .u8 (rd y125 x13_1) 15) < (16 : Int) := of_decide_eq_true (by first | (with_reducible assumption) | assumption)
                            have hx20 := bt_at (⟨#[48, 49, 50, 51, 52, 53, 54, 55, 56, 57, 97, 98, 99, 100, 101, 102]⟩ : ByteArray) (Go.bits .and .u8 (rd y125 x13_1) 15)
                            replace p20 := eq_true p20
                            replace q20 := eq_true q20
                            refine start_ (n := 10) (S := fun w' => True) (ds := []) #[false, false, false, false, false, false, false, false, false, false] (by kernel_rfl) rfl rfl trivial (fun hHeld => ?_); refine with_tabW nums_Hex.tab5 nums_Hex.bits5 (fun HT_ HW_ => ?_)
                            generalize wr.drew = w22 at HO_3 HO_11 HB hHeld ⊢
                            refine pure_ (i := 0) (N := some 17) (v := ?_) (a' := ?_) #[true, false, false, false, false, false, false, false, false, false] rfl rfl (any_of HT_.out (by kernel_rfl)) (fun _ _ _ h => h) (Or.inl ⟨by rfl, ?_⟩) ?_ ?_
                            rotate_left
                            · intro w'
                              go_simp
                              with_reducible rfl
                            rotate_left
                            · simp only [Act.put, List.setIfInBounds_toArray, List.set_cons_zero, List.set_cons_succ, i64_w, i32_w]
                              rfl
                            refine pure_ (i := 1) (N := some 18) (v := ?_) (a' := ?_) #[true, true, false, false, false, false, false, false, false, false] rfl rfl (any_of HT_.out (by kernel_rfl)) (fun _ _ _ h => h) (Or.inl ⟨by rfl, ?_⟩) ?_ ?_
                            rotate_left
                            · intro w'
                              go_simp
                              with_reducible rfl
                            rotate_left
                            · simp only [Act.put, List.setIfInBounds_toArray, List.set_cons_zero, List.set_cons_succ, i64_w, i32_w]
                              rfl
                            refine pure_ (i := 2) (N := some 19) (v := ?_) (a' := ?_) #[true, true, true, false, false, false, false, false, false, false] rfl rfl (any_of HT_.out (by kernel_rfl)) (fun _ _ _ h => h) (Or.inl ⟨by rfl, ?_⟩) ?_ ?_
                            rotate_left
                            · intro w'
                              go_simp
                              with_reducible rfl
                            rotate_left
                            · simp only [Act.put, List.setIfInBounds_toArray, List.set_cons_zero, List.set_cons_succ, i64_w, i32_w]
                              rfl
                            refine pure_ (i := 4) (N := some 21) (v := ?_) (a' := ?_) #[true, true, true, false, true, false, false, false, false, false] rfl rfl (any_of HT_.out (by kernel_rfl)) (fun _ _ _ h => h) (Or.inl ⟨by rfl, ?_⟩) ?_ ?_
                            rotate_left
                            · intro w'
                              go_simp
                              with_reducible rfl
                            rotate_left
                            · simp only [Act.put, List.setIfInBounds_toArray, List.set_cons_zero, List.set_cons_succ, i64_w, i32_w]
                              rfl
                            refine pure_ (i := 5) (N := some 22) (v := ?_) (a' := ?_) #[true, true, true, false, true, true, false, false, false, false] rfl rfl (any_of HT_.out (by kernel_rfl)) (fun _ _ _ h => h) (Or.inl ⟨by rfl, ?_⟩) ?_ ?_
                            rotate_left
                            · intro w'
                              go_simp
                              with_reducible rfl
                            rotate_left
                            · simp only [Act.put, List.setIfInBounds_toArray, List.set_cons_zero, List.set_cons_succ, i64_w, i32_w]
                              rfl
                            refine take_ (i := 3) (N := some 20) (v := ?_) (a' := ?_) #[true, true, true, true, true, true, false, false, false, false] rfl rfl (take_ofW HT_.out HW_.out (by kernel_rfl)) (fun _ _ _ h => h) (Or.inl ⟨by rfl, ?_⟩) hHeld ?_ ?_
                            rotate_left
                            · intro w' _
                              go_simp
                              with_reducible rfl
                            rotate_left
                            · simp only [Act.put, List.setIfInBounds_toArray, List.set_cons_zero, List.set_cons_succ, i64_w, i32_w]
                              rfl
                            refine take_ (i := 6) (N := some 23) (v := ?_) (a' := ?_) #[true, true, true, true, true, true, true, false, false, false] rfl rfl (take_ofW HT_.out HW_.out (by kernel_rfl)) (fun _ _ _ h => h) (Or.inl ⟨by rfl, ?_⟩) hHeld ?_ ?_
                            rotate_left
                            · intro w' _
                              go_simp
                              with_reducible rfl
                            rotate_left
                            · simp only [Act.put, List.setIfInBounds_toArray, List.set_cons_zero, List.set_cons_succ, i64_w, i32_w]
                              rfl
                            refine one_ (i := 7) (N := some 24) #[true, true, true, true, true, true, true, true, false, false] rfl rfl (one_of HT_.out (by kernel_rfl)) (by decide) (fun K hK => ?_)
                            refine Kd.R_lit_step (Kd.int .u8) _ 5 ?hg (N := 24) ?hd (xs := ([bt (⟨#[48, 49, 50, 51, 52, 53, 54, 55, 56, 57, 97, 98, 99, 100, 101, 102]⟩ : ByteArray) (ji14), bt (⟨#[48, 49, 50, 51, 52, 53, 54, 55, 56, 57, 97, 98, 99, 100, 101, 102]⟩ : ByteArray) (Go.bits .and .u8 (rd y125 x13_1) 15)] : List Int)) (inner := [.int .u8 (bt (⟨#[48, 49, 50, 51, 52, 53, 54, 55, 56, 57, 97, 98, 99, 100, 101, 102]⟩ : ByteArray) (ji14)), .int .u8 (bt (⟨#[48, 49, 50, 51, 52, 53, 54, 55, 56, 57, 97, 98, 99, 100, 101, 102]⟩ : ByteArray) (Go.bits .and .u8 (rd y125 x13_1) 15))]) (ok := fun _ => True) (okp := fun _ => True) ?hr ?hp (fun _ hk => hk) trivial (Below.refl _ _) (Nat.le_refl _) (by simp) ?_; (case hd => rfl); (case hg => rfl); (case hr => first | (go_simp; done) | (go_simp; rfl)); (case hp => exact (Reps.one (show Kd.M (Kd.int .u8) _ _ _ (bt (⟨#[48, 49, 50, 51, 52, 53, 54, 55, 56, 57, 97, 98, 99, 100, 101, 102]⟩ : ByteArray) (ji14)) [.int .u8 (bt (⟨#[48, 49, 50, 51, 52, 53, 54, 55, 56, 57, 97, 98, 99, 100, 101, 102]⟩ : ByteArray) (ji14))] from rfl) (Reps.one (show Kd.M (Kd.int .u8) _ _ _ (bt (⟨#[48, 49, 50, 51, 52, 53, 54, 55, 56, 57, 97, 98, 99, 100, 101, 102]⟩ : ByteArray) (Go.bits .and .u8 (rd y125 x13_1) 15)) [.int .u8 (bt (⟨#[48, 49, 50, 51, 52, 53, 54, 55, 56, 57, 97, 98, 99, 100, 101, 102]⟩ : ByteArray) (Go.bits .and .u8 (rd y125 x13_1) 15))] from rfl) (Reps.none _ _))))
                            intro v130 w23 ho24 hb hg_ hnew_
                            clear hg_ hnew_
                            (first | rw [← Ny129.out] at ho24 | (simp only [Int.reduceToNat] at ho24; rw [← Ny129.out] at ho24))
                            have n0_ := Aside0.mk (Kd.R_elder' (by (with_reducible repeat (first | apply Kd.R_alloc | apply Kd.R_drewN | apply Kd.R_drew)); exact HO_3.out) (Kd.R_base ho24) hb)
                            have n1_ := Aside0.mk (Kd.V_elder' (by (with_reducible repeat (first | apply Kd.V_alloc | apply Kd.V_drewN | apply Kd.V_drew)); exact HO_11.out) (Kd.R_base ho24) hb)
                            have n2_ := Aside0.mk (Kd.R_lower (Kd.R_new' ho24 (Kd.R_lt (by (with_reducible repeat (first | apply Kd.R_alloc | apply Kd.R_drewN | apply Kd.R_drew)); exact HO_3.out))) (below_size (by repeat (first | (with_reducible first | exact HB.out | apply below_alloc | apply pw_below_drewN | apply below_drew1) | exact HB.out))))
                            have n3_ := Aside0.mk (below_step (by repeat (first | (with_reducible first | exact HB.out | apply below_alloc | apply pw_below_drewN | apply below_drew1) | exact HB.out)) hb)
                            clear HO_3
                            clear HO_11
                            clear HB
                            have HO_3 := n0_
                            have HO_11 := n1_
                            have HO131 := n2_
                            have HB := n3_
                            clear n0_ n1_ n2_ n3_
                            clear hb ho24
                            obtain ⟨Ao26, co26, eo26⟩ := Kd.R_slice HO131.out
                            (first | subst eo26 | (injection eo26 with f1_ f2_ f3_; have f4_ := f1_.symm; have f5_ := f3_.symm; clear f1_ f2_ f3_; subst f4_; subst f5_))
                            refine hK.out _ _ trivial (fun hHeld => ?_)
                            clear hK K
                            refine norm_ (a' := ?_) ?_ ?_
                            rotate_left
                            · show Act.put _ (some 24) _ = _
                              simp only [Act.put, List.setIfInBounds_toArray, List.set_cons_zero, List.set_cons_succ, i64_w, i32_w]
                              rfl
                            refine one_ (i := 8) (N := some 25) #[true, true, true, true, true, true, true, true, true, false] rfl rfl (one_of HT_.out (by kernel_rfl)) (by decide) (fun K hK => ?_)
                            refine Kd.R_append_rows_step (Kd.int .u8) (w0 := w) w.heap.size (by rfl) (.tmp 17) (.tmp 24) 64 5 (.int .u8 0) 1 rfl Tryz.underlying64 info5 rfl (by decide) (by omega) u3 x3_1 y129 _ _ _ (fun k_ => some k_ ≠ (.slice Ao26 y129.length co26 : Value).ownBlock) (fun _ => False) rfl rfl ?aO ?aR (fun _ _ h => h) (fun _ h => h.elim) ?aF ?aB ?aS ?aL ?_
                            (case aR => repeat (first | exact (Kd.R_reads' HO131.out).2.2 | (with_reducible refine Kd.C_alloc ?_ _) | (with_reducible refine Kd.C_drewN ?_ _) | (with_reducible refine Kd.C_drew ?_)))
                            (case aB => exact (by repeat (first | (with_reducible first | exact HB.out | apply below_alloc | apply pw_below_drewN | apply below_drew1) | exact HB.out)))
                            (case aF => exact (fun k_ hk => Kd.fresh' (Kd.R_lt (by (with_reducible repeat (first | apply Kd.R_alloc | apply Kd.R_drewN | apply Kd.R_drew)); exact HO131.out)) k_ hk))
                            (case aO => exact (by (with_reducible repeat (first | apply Kd.R_alloc | apply Kd.R_drewN | apply Kd.R_drew)); exact Kd.R_mono HO_3.out (fun _ hk => hk.2)))
                            (case aS => exact (below_size (by repeat (first | (with_reducible first | exact HB.out | apply below_alloc | apply pw_below_drewN | apply below_drew1) | exact HB.out))))
                            (case aL => have := LMc21.out; omega)
                            intro v133 w25 ho hb hg hat
                            rw [← Ny132.out] at ho
                            have n0_ := Aside0.mk (Kd.V_afterv (ok := (fun k_ => some k_ ≠ (.slice Ao26 y129.length co26 : Value).ownBlock)) (by (with_reducible repeat (first | apply Kd.V_alloc | apply Kd.V_drewN | apply Kd.V_drew)); exact Kd.V_mono HO_11.out (fun _ hk => ⟨hk.2, hk.1⟩)) hg hat)
                            have n1_ := Aside0.mk (Kd.R_after (ok := (fun _ => True)) (by (with_reducible repeat (first | apply Kd.R_alloc | apply Kd.R_drewN | apply Kd.R_drew)); exact HO131.out) hg hat)
                            have n2_ := Aside0.mk (hb)
                            have n3_ := Aside0.mk (ho)
                            clear HO_11
                            clear HO131
                            clear HB
                            clear HO_3
                            have HO_11 := n0_
                            have HO131 := n1_
                            have HB := n2_
                            have HO134 := n3_
                            clear n0_ n1_ n2_ n3_
                            clear ho hb hg hat
                            refine hK.out _ _ trivial (fun hHeld => ?_)
                            clear hK K
                            refine norm_ (a' := ?_) ?_ ?_
                            rotate_left
                            · show Act.put _ (some 25) _ = _
                              simp only [Act.put, List.setIfInBounds_toArray, List.set_cons_zero, List.set_cons_succ, i64_w, i32_w]
                              rfl
                            refine pure_ (i := 9) (N := some 3) (v := ?_) (a' := ?_) #[true, true, true, true, true, true, true, true, true, true] rfl rfl (any_of HT_.out (by kernel_rfl)) (fun _ _ _ h => h) (Or.inl ⟨by rfl, ?_⟩) ?_ ?_
                            rotate_left
                            · intro w'
                              go_simp
                              with_reducible rfl
                            rotate_left
                            · simp only [Act.put, List.setIfInBounds_toArray, List.set_cons_zero, List.set_cons_succ, i64_w, i32_w]
                              rfl
                            refine done_ (done_of HT_.out (by kernel_rfl)) ?_
                            try go_wp2
                            go_roundg k1
                            case measure => have := HK1.out; omega
                            case rel => exact ⟨(y132), (wrap64 (x13_1 + 1)), (by first | rfl | (simp; done) | (simp [*]; done) | (simp [*, Go.Proofs.YtodmbjbfigifnaaGreatDoor.Str.bne_nil]; done)), H', ⟨by have := HK1.out; omega⟩, ⟨by (with_reducible repeat (first | apply Kd.R_alloc | apply Kd.R_drewN | apply Kd.R_drew)); exact Kd.R_mono HO134.out (fun _ hk => trivial)⟩, ⟨by (with_reducible repeat (first | apply Kd.V_alloc | apply Kd.V_drewN | apply Kd.V_drew)); exact Kd.V_mono HO_11.out (fun _ hk => hk.2)⟩, ⟨by repeat (first | (with_reducible first | exact HB.out | apply below_alloc | apply pw_below_drewN | apply below_drew1) | exact HB.out)⟩⟩
                          · rw [if_neg c21] at H
                            exact absurd H (by simp)
                        · rw [if_neg c19] at H
                          exact absurd H (by simp)
                      · rw [if_neg c18] at H
                        exact absurd H (by simp)
                    · rw [if_neg c16] at H
                      exact absurd H (by simp)
                  · rw [if_neg c15] at H
                    exact absurd H (by simp)
                · rw [if_neg c13] at H
                  exact absurd H (by simp)
              · rw [if_neg c12] at H
                exact absurd H (by simp)
            · rw [if_neg c11] at H
              have c11b0 : decide (x13_1 < (y125.length : Int)) = false := decide_eq_false c11
              clear c11
              obtain rfl := Option.some.inj H
              have hcv27 := own_string (P := Tryz.prog) Tryz.underlying64 Tryz.underlying5 Tryz.underlying9 (Kd.own_of_R HO_3.out)
              go_wp2
              go_ret
              exact ⟨by first | rfl | (simp [errW_none, errW_some] <;> rfl) | (simp only [← hji2]; first | rfl | (simp [errW_none, errW_some] <;> rfl)) | (simp [*, errW_none, errW_some] <;> rfl), by repeat (first | (with_reducible first | exact HB.out | apply below_alloc | apply pw_below_drewN | apply below_drew1) | exact HB.out)⟩
      · rw [if_neg c5] at H
        exact absurd H (by simp)
    · rw [if_neg c4] at H
      exact absurd H (by simp)
  · rw [if_neg c3] at H
    exact absurd H (by simp)
end Go.Proofs.YtodmbjbfigifnaaGreatDoor.PAll
namespace Go.Proofs.YtodmbjbfigifnaaGreatDoor.PAll
open Go.RowKit Go.Proofs.YtodmbjbfigifnaaGreatDoorW.PrintWords Go.Proofs.YtodmbjbfigifnaaGreatDoorW.PrintLast Go.Proofs.YtodmbjbfigifnaaGreatDoorW.PrintMore
attribute [local go_sem] max2_int min2_int max_two min_two max_three min_three max_four min_four   -- for this text's walks alone
set_option linter.unusedVariables false
set_option linter.unusedSimpArgs false
mutual
def span_Check.j0 : Nat → Bool → ByteArray → ByteArray → Bool → Option (Int)
  | 0, _, _, _, _ => none
  | k + 1, x3, x102000, x102001, x102002 => if x3 = true then (some 20) else (if x102002 = true then (span_Check.j1 k (x102001.toList != ([] : List UInt8)) x102000 x102001 x102002) else (span_Check.j1 k false x102000 x102001 x102002))
def span_Check.j1 : Nat → Bool → ByteArray → ByteArray → Bool → Option (Int)
  | 0, _, _, _, _ => none
  | k + 1, x12, x102000, x102001, x102002 => if x12 = true then (some 21) else (if x102002 = true then (some 0) else (if (Op.bytesLess x102001.toList x102000.toList) = true then (some 21) else (some 0)))
end
def span_Check.f (k : Nat) (a0_0 : ByteArray) (a0_1 : ByteArray) (a0_2 : Bool) : Option (Int) := if (a0_0.size : Int) > 16 then (span_Check.j0 k (decide ((a0_0.size : Int) > 16)) a0_0 a0_1 a0_2) else (span_Check.j0 k (decide ((a0_1.size : Int) > 16)) a0_0 a0_1 a0_2)
theorem span_Check.mono_l : ∀ k, (∀ y0 y1 y2 y3, LeO (span_Check.j0 k y0 y1 y2 y3) (span_Check.j0 (k + 1) y0 y1 y2 y3)) ∧ (∀ y0 y1 y2 y3, LeO (span_Check.j1 k y0 y1 y2 y3) (span_Check.j1 (k + 1) y0 y1 y2 y3))
  | 0 => ⟨fun _ _ _ _ r h => by simp [span_Check.j0] at h, fun _ _ _ _ r h => by simp [span_Check.j1] at h⟩
  | k + 1 => by
    obtain ⟨ih0, ih1⟩ := span_Check.mono_l k
    refine ⟨?_, ?_⟩
    · intro y0 y1 y2 y3
      unfold span_Check.j0
      repeat' first
      | (with_reducible exact ih0 _ _ _ _)
      | (with_reducible exact ih1 _ _ _ _)
      | (with_reducible exact LeO.refl _)
      | (with_reducible exact LeO.none _)
      | (with_reducible refine LeO.ite ?_ ?_)
      | (with_reducible refine LeO.bind ?_ (fun _ => ?_))
      | exact ih0 _ _ _ _
      | exact ih1 _ _ _ _
      | exact LeO.none _
      | refine LeO.ite ?_ ?_
      | refine LeO.bind ?_ (fun _ => ?_)
    · intro y0 y1 y2 y3
      unfold span_Check.j1
      repeat' first
      | (with_reducible exact ih0 _ _ _ _)
      | (with_reducible exact ih1 _ _ _ _)
      | (with_reducible exact LeO.refl _)
      | (with_reducible exact LeO.none _)
      | (with_reducible refine LeO.ite ?_ ?_)
      | (with_reducible refine LeO.bind ?_ (fun _ => ?_))
      | exact ih0 _ _ _ _
      | exact ih1 _ _ _ _
      | exact LeO.none _
      | refine LeO.ite ?_ ?_
      | refine LeO.bind ?_ (fun _ => ?_)
theorem span_Check.mono : ∀ a0 a1 a2 k, LeO (span_Check.f k a0 a1 a2) (span_Check.f (k + 1) a0 a1 a2) := by
  intro a0 a1 a2 k
  obtain ⟨ih0, ih1⟩ := span_Check.mono_l k
  unfold span_Check.f
  repeat' first
      | (with_reducible exact ih0 _ _ _ _)
      | (with_reducible exact ih1 _ _ _ _)
      | (with_reducible exact LeO.refl _)
      | (with_reducible exact LeO.none _)
      | (with_reducible refine LeO.ite ?_ ?_)
      | (with_reducible refine LeO.bind ?_ (fun _ => ?_))
      | exact ih0 _ _ _ _
      | exact ih1 _ _ _ _
      | exact LeO.none _
      | refine LeO.ite ?_ ?_
      | refine LeO.bind ?_ (fun _ => ?_)
set_option maxHeartbeats 8000000 in
set_option maxRecDepth 100000 in
theorem span_Check.calls (k : Nat) (a0_0 : ByteArray) (a0_1 : ByteArray) (a0_2 : Bool) (r : Int) (w : World) (h : span_Check.f k a0_0 a0_1 a0_2 = some r) :
    Calls Tryz.prog 45 #[.agg #[.string a0_0, .string a0_1, .bool a0_2]] w fun e w' => e = .returned (.int .i64 r) ∧ Below w.heap.size w w' := by
  have hu23 := Tryz.underlying23
  have HB := Aside0.mk (Below.refl w.heap.size w)
  have H : (if (a0_0.size : Int) > 16 then (span_Check.j0 k (decide ((a0_0.size : Int) > 16)) a0_0 a0_1 a0_2) else (span_Check.j0 k (decide ((a0_1.size : Int) > 16)) a0_0 a0_1 a0_2)) = some r := h
  clear h
  have HC2 := Aside0.mk H
  clear H
  go_enter Tryz.func45, Tryz.ntmps45
  go_upto_if 3 with (first | ((with_reducible refine gate_dst (N := 1) rfl ?_); refine box_event ?hg (N := 1) ?hd (cs := #[.string a0_0, .string a0_1, .bool a0_2]) (t := 23) ?hr ?_; (case hd => rfl); (case hg => rfl); (case hr => first | (go_simp; done) | (go_simp; rfl)); intro gb101 hg w3 hbox hb; have n0_ := Aside0.mk (below_step (by repeat (first | (with_reducible first | exact HB.out | apply below_alloc | apply pw_below_drewN | apply below_drew1) | exact HB.out)) hb); have n1_ := Aside0.mk (hbox); have n2_ := Aside0.mk ((by rw [hg]; exact (below_size (by repeat (first | (with_reducible first | exact HB.out | apply below_alloc | apply pw_below_drewN | apply below_drew1) | exact HB.out))) : w.heap.size ≤ gb101)); have n3_ := Aside0.mk ((by rw [hg]; exact (below_size (by repeat (first | (with_reducible first | exact HB.out | apply below_alloc | apply pw_below_drewN | apply below_drew1) | exact HB.out))) : w.heap.size ≤ gb101)); clear HB; have HB := n0_; have BK101 := n1_; have GW101 := n2_; have GE101 := n3_; clear n0_ n1_ n2_ n3_; clear hb hbox hg; have hcz4_0 : w3.cell? ⟨gb101, 0, none⟩ = some (.string a0_0) := (blk_cell BK101.out 0).trans rfl; have hcz4_1 : w3.cell? ⟨gb101, 1, none⟩ = some (.string a0_1) := (blk_cell BK101.out 1).trans rfl; have hcz4_2 : w3.cell? ⟨gb101, 2, none⟩ = some (.bool a0_2) := (blk_cell BK101.out 2).trans rfl; have hfz4_0 := blk_frozen BK101.out 0; have hfz4_1 := blk_frozen BK101.out 1; have hfz4_2 := blk_frozen BK101.out 2))
  (try simp only [Act.put, List.setIfInBounds_toArray, List.set_cons_zero, List.set_cons_succ])
  go_cut [3] (fun v3 wc => ∃ (kq : Nat) (x3_1 : Bool), v3 = .bool x3_1 ∧ Aside0 (span_Check.j0 kq x3_1 a0_0 a0_1 a0_2 = some r) ∧ Aside0 (kq ≤ k) ∧ Aside0 (wc.heap[gb101]? = some (.cells #[.string a0_0, .string a0_1, .bool a0_2] 23 (0, 0))) ∧ Aside0 (Below w.heap.size w wc))
  case first =>
    have H := HC2.out
    clear HC2
    by_cases c5 : (a0_0.size : Int) > 16
    · rw [if_pos c5] at H
      have c5b0 : decide (16 < (a0_0.size : Int)) = true := decide_eq_true c5
      have c5b1 : decide (16 < a0_0.size) = true := decide_eq_true (by omega)
      clear c5
      (first | rw [c5b0] | (simp only [i64_w, i32_w]; rw [c5b0]) | skip)
      have H' := Aside0.mk H
      clear H
      go_wp2
      go_meet
      case rel => exact ⟨_, (decide ((a0_0.size : Int) > 16)), (by first | rfl | (simp; done) | (simp [*]; done) | (simp [*, Go.Proofs.YtodmbjbfigifnaaGreatDoor.Str.bne_nil]; done)), H', ⟨by first | omega | exact Nat.le_refl _⟩, ⟨by (with_reducible repeat (first | refine blk_drewN ?_ _ | refine blk_drew ?_ | refine blk_alloc ?_ _)); exact BK101.out⟩, ⟨by repeat (first | (with_reducible first | exact HB.out | apply below_alloc | apply pw_below_drewN | apply below_drew1 | refine below_set ?_ GE101.out) | exact HB.out)⟩⟩
    · rw [if_neg c5] at H
      have c5b0 : decide (16 < (a0_0.size : Int)) = false := decide_eq_false c5
      have c5b1 : decide (16 < a0_0.size) = false := decide_eq_false (by omega)
      clear c5
      (first | rw [c5b0] | (simp only [i64_w, i32_w]; rw [c5b0]) | skip)
      have H' := Aside0.mk H
      clear H
      have hcz6_0 : w3.cell? ⟨gb101, 0, none⟩ = some (.string a0_0) := (blk_cell BK101.out 0).trans rfl
      have hcz6_1 : w3.cell? ⟨gb101, 1, none⟩ = some (.string a0_1) := (blk_cell BK101.out 1).trans rfl
      have hcz6_2 : w3.cell? ⟨gb101, 2, none⟩ = some (.bool a0_2) := (blk_cell BK101.out 2).trans rfl
      have hfz6_0 := blk_frozen BK101.out 0
      have hfz6_1 := blk_frozen BK101.out 1
      have hfz6_2 := blk_frozen BK101.out 2
      go_wp2
      go_meet
      case rel => exact ⟨_, (decide ((a0_1.size : Int) > 16)), (by first | rfl | (simp; done) | (simp [*]; done) | (simp [*, Go.Proofs.YtodmbjbfigifnaaGreatDoor.Str.bne_nil]; done)), H', ⟨by first | omega | exact Nat.le_refl _⟩, ⟨by (with_reducible repeat (first | refine blk_drewN ?_ _ | refine blk_drew ?_ | refine blk_alloc ?_ _)); exact BK101.out⟩, ⟨by repeat (first | (with_reducible first | exact HB.out | apply below_alloc | apply pw_below_drewN | apply below_drew1 | refine below_set ?_ GE101.out) | exact HB.out)⟩⟩
  case rest =>
    clear HC2
    try clear p2
    try clear c4
    try clear c5
    try clear c5b0
    try clear c5b1
    try clear hcz4_0
    try clear hcz4_1
    try clear hcz4_2
    try clear hcz6_0
    try clear hcz6_1
    try clear hcz6_2
    try clear hfz4_0
    try clear hfz4_1
    try clear hfz4_2
    try clear hfz6_0
    try clear hfz6_1
    try clear hfz6_2
    obtain ⟨kq, x3_1, rfl, HA, HJ1, BK101, HB⟩ := hcut
    cases kq with
    | zero => exact absurd HA.out (by simp [span_Check.j0])
    | succ kj1 =>
      have H := HA.out
      clear HA
      simp only [span_Check.j0] at H
      by_cases c7 : x3_1 = true
      · subst c7
        have H1 : (some 20) = some r := by rw [if_pos rfl] at H; exact H
        clear H
        have H := H1
        clear H1
        obtain rfl := Option.some.inj H
        go_wp2
        go_ret
        exact ⟨by first | rfl | (simp [errW_none, errW_some] <;> rfl) | (simp [*, errW_none, errW_some] <;> rfl), by repeat (first | (with_reducible first | exact HB.out | apply below_alloc | apply pw_below_drewN | apply below_drew1 | refine below_set ?_ GE101.out) | exact HB.out)⟩
      · replace c7 := Bool.eq_false_iff.mpr c7
        subst c7
        have H1 : (if a0_2 = true then (span_Check.j1 kj1 (a0_1.toList != ([] : List UInt8)) a0_0 a0_1 a0_2) else (span_Check.j1 kj1 false a0_0 a0_1 a0_2)) = some r := by rw [if_neg (show ¬ (false = true) by decide)] at H; exact H
        clear H
        have H := H1
        clear H1
        have HC8 := Aside0.mk H
        clear H
        go_upto_region 4 with (fail)
        go_cut [12] (fun v12 wc => ∃ (kq : Nat) (x12_7 : Bool), v12 = .bool x12_7 ∧ Aside0 (span_Check.j1 kq x12_7 a0_0 a0_1 a0_2 = some r) ∧ Aside0 (kq ≤ kj1) ∧ Aside0 (wc.heap[gb101]? = some (.cells #[.string a0_0, .string a0_1, .bool a0_2] 23 (0, 0))) ∧ Aside0 (Below w.heap.size w wc))
        case first =>
          have H := HC8.out
          clear HC8
          by_cases c9 : a0_2 = true
          · subst c9
            have H1 : (span_Check.j1 kj1 (a0_1.toList != ([] : List UInt8)) a0_0 a0_1 true) = some r := by rw [if_pos rfl] at H; exact H
            clear H
            have H := H1
            clear H1
            have H' := Aside0.mk H
            clear H
            have hcz10_0 : wc.cell? ⟨gb101, 0, none⟩ = some (.string a0_0) := (blk_cell BK101.out 0).trans rfl
            have hcz10_1 : wc.cell? ⟨gb101, 1, none⟩ = some (.string a0_1) := (blk_cell BK101.out 1).trans rfl
            have hcz10_2 : wc.cell? ⟨gb101, 2, none⟩ = some (.bool true) := (blk_cell BK101.out 2).trans rfl
            have hfz10_0 := blk_frozen BK101.out 0
            have hfz10_1 := blk_frozen BK101.out 1
            have hfz10_2 := blk_frozen BK101.out 2
            go_wp2
            go_meet
            case rel => exact ⟨_, ((a0_1.toList != ([] : List UInt8))), (by first | rfl | (simp; done) | (simp [*]; done) | (simp [*, Go.Proofs.YtodmbjbfigifnaaGreatDoor.Str.bne_nil]; done)), H', ⟨by have := HJ1.out; first | omega | exact Nat.le_refl _⟩, ⟨by (with_reducible repeat (first | refine blk_drewN ?_ _ | refine blk_drew ?_ | refine blk_alloc ?_ _)); exact BK101.out⟩, ⟨by repeat (first | (with_reducible first | exact HB.out | apply below_alloc | apply pw_below_drewN | apply below_drew1 | refine below_set ?_ GE101.out) | exact HB.out)⟩⟩
          · replace c9 := Bool.eq_false_iff.mpr c9
            subst c9
            have H1 : (span_Check.j1 kj1 false a0_0 a0_1 false) = some r := by rw [if_neg (show ¬ (false = true) by decide)] at H; exact H
            clear H
            have H := H1
            clear H1
            have H' := Aside0.mk H
            clear H
            have hcz11_0 : wc.cell? ⟨gb101, 0, none⟩ = some (.string a0_0) := (blk_cell BK101.out 0).trans rfl
            have hcz11_1 : wc.cell? ⟨gb101, 1, none⟩ = some (.string a0_1) := (blk_cell BK101.out 1).trans rfl
            have hcz11_2 : wc.cell? ⟨gb101, 2, none⟩ = some (.bool false) := (blk_cell BK101.out 2).trans rfl
            have hfz11_0 := blk_frozen BK101.out 0
            have hfz11_1 := blk_frozen BK101.out 1
            have hfz11_2 := blk_frozen BK101.out 2
            go_wp2
            go_meet
            case rel => exact ⟨_, (false), (by first | rfl | (simp; done) | (simp [*]; done) | (simp [*, Go.Proofs.YtodmbjbfigifnaaGreatDoor.Str.bne_nil]; done)), H', ⟨by have := HJ1.out; first | omega | exact Nat.le_refl _⟩, ⟨by (with_reducible repeat (first | refine blk_drewN ?_ _ | refine blk_drew ?_ | refine blk_alloc ?_ _)); exact BK101.out⟩, ⟨by repeat (first | (with_reducible first | exact HB.out | apply below_alloc | apply pw_below_drewN | apply below_drew1 | refine below_set ?_ GE101.out) | exact HB.out)⟩⟩
        case rest =>
          clear HC8
          try clear p2
          try clear c4
          try clear c5
          try clear c5b0
          try clear c5b1
          try clear c7
          try clear c9
          try clear hcz10_0
          try clear hcz10_1
          try clear hcz10_2
          try clear hcz11_0
          try clear hcz11_1
          try clear hcz11_2
          try clear hcz4_0
          try clear hcz4_1
          try clear hcz4_2
          try clear hcz6_0
          try clear hcz6_1
          try clear hcz6_2
          try clear hfz10_0
          try clear hfz10_1
          try clear hfz10_2
          try clear hfz11_0
          try clear hfz11_1
          try clear hfz11_2
          try clear hfz4_0
          try clear hfz4_1
          try clear hfz4_2
          try clear hfz6_0
          try clear hfz6_1
          try clear hfz6_2
          try clear p2
          obtain ⟨kq, x12_7, rfl, HA, HJ7, BK101, HB⟩ := hcut
          cases kq with
          | zero => exact absurd HA.out (by simp [span_Check.j1])
          | succ kj7 =>
            have H := HA.out
            clear HA
            simp only [span_Check.j1] at H
            by_cases c12 : x12_7 = true
            · subst c12
              have H1 : (some 21) = some r := by rw [if_pos rfl] at H; exact H
              clear H
              have H := H1
              clear H1
              obtain rfl := Option.some.inj H
              go_wp2
              go_ret
              exact ⟨by first | rfl | (simp [errW_none, errW_some] <;> rfl) | (simp [*, errW_none, errW_some] <;> rfl), by repeat (first | (with_reducible first | exact HB.out | apply below_alloc | apply pw_below_drewN | apply below_drew1 | refine below_set ?_ GE101.out) | exact HB.out)⟩
            · replace c12 := Bool.eq_false_iff.mpr c12
              subst c12
              have H1 : (if a0_2 = true then (some 0) else (if (Op.bytesLess a0_1.toList a0_0.toList) = true then (some 21) else (some 0))) = some r := by rw [if_neg (show ¬ (false = true) by decide)] at H; exact H
              clear H
              have H := H1
              clear H1
              by_cases c13 : a0_2 = true
              · subst c13
                have H1 : (some 0) = some r := by rw [if_pos rfl] at H; exact H
                clear H
                have H := H1
                clear H1
                obtain rfl := Option.some.inj H
                have hcz14_0 : wc.cell? ⟨gb101, 0, none⟩ = some (.string a0_0) := (blk_cell BK101.out 0).trans rfl
                have hcz14_1 : wc.cell? ⟨gb101, 1, none⟩ = some (.string a0_1) := (blk_cell BK101.out 1).trans rfl
                have hcz14_2 : wc.cell? ⟨gb101, 2, none⟩ = some (.bool true) := (blk_cell BK101.out 2).trans rfl
                have hfz14_0 := blk_frozen BK101.out 0
                have hfz14_1 := blk_frozen BK101.out 1
                have hfz14_2 := blk_frozen BK101.out 2
                go_wp2
                go_ret
                exact ⟨by first | rfl | (simp [errW_none, errW_some] <;> rfl) | (simp [*, errW_none, errW_some] <;> rfl), by repeat (first | (with_reducible first | exact HB.out | apply below_alloc | apply pw_below_drewN | apply below_drew1 | refine below_set ?_ GE101.out) | exact HB.out)⟩
              · replace c13 := Bool.eq_false_iff.mpr c13
                subst c13
                have H1 : (if (Op.bytesLess a0_1.toList a0_0.toList) = true then (some 21) else (some 0)) = some r := by rw [if_neg (show ¬ (false = true) by decide)] at H; exact H
                clear H
                have H := H1
                clear H1
                by_cases c15 : (Op.bytesLess a0_1.toList a0_0.toList) = true
                · rw [if_pos c15] at H
                  have c15b0 : (Op.bytesLess a0_1.toList a0_0.toList) = true := c15
                  clear c15
                  obtain rfl := Option.some.inj H
                  have hcz16_0 : wc.cell? ⟨gb101, 0, none⟩ = some (.string a0_0) := (blk_cell BK101.out 0).trans rfl
                  have hcz16_1 : wc.cell? ⟨gb101, 1, none⟩ = some (.string a0_1) := (blk_cell BK101.out 1).trans rfl
                  have hcz16_2 : wc.cell? ⟨gb101, 2, none⟩ = some (.bool false) := (blk_cell BK101.out 2).trans rfl
                  have hfz16_0 := blk_frozen BK101.out 0
                  have hfz16_1 := blk_frozen BK101.out 1
                  have hfz16_2 := blk_frozen BK101.out 2
                  go_wp2
                  go_ret
                  exact ⟨by first | rfl | (simp [errW_none, errW_some] <;> rfl) | (simp [*, errW_none, errW_some] <;> rfl), by repeat (first | (with_reducible first | exact HB.out | apply below_alloc | apply pw_below_drewN | apply below_drew1 | refine below_set ?_ GE101.out) | exact HB.out)⟩
                · rw [if_neg c15] at H
                  have c15b0 : (Op.bytesLess a0_1.toList a0_0.toList) = false := by simpa using c15
                  clear c15
                  obtain rfl := Option.some.inj H
                  have hcz17_0 : wc.cell? ⟨gb101, 0, none⟩ = some (.string a0_0) := (blk_cell BK101.out 0).trans rfl
                  have hcz17_1 : wc.cell? ⟨gb101, 1, none⟩ = some (.string a0_1) := (blk_cell BK101.out 1).trans rfl
                  have hcz17_2 : wc.cell? ⟨gb101, 2, none⟩ = some (.bool false) := (blk_cell BK101.out 2).trans rfl
                  have hfz17_0 := blk_frozen BK101.out 0
                  have hfz17_1 := blk_frozen BK101.out 1
                  have hfz17_2 := blk_frozen BK101.out 2
                  go_wp2
                  go_ret
                  exact ⟨by first | rfl | (simp [errW_none, errW_some] <;> rfl) | (simp [*, errW_none, errW_some] <;> rfl), by repeat (first | (with_reducible first | exact HB.out | apply below_alloc | apply pw_below_drewN | apply below_drew1 | refine below_set ?_ GE101.out) | exact HB.out)⟩
end Go.Proofs.YtodmbjbfigifnaaGreatDoor.PAll
namespace Go.Proofs.YtodmbjbfigifnaaGreatDoor.PAll
open Go.RowKit Go.Proofs.YtodmbjbfigifnaaGreatDoorW.PrintWords Go.Proofs.YtodmbjbfigifnaaGreatDoorW.PrintLast Go.Proofs.YtodmbjbfigifnaaGreatDoorW.PrintMore
attribute [local go_sem] max2_int min2_int max_two min_two max_three min_three max_four min_four   -- for this text's walks alone
set_option linter.unusedVariables false
set_option linter.unusedSimpArgs false
def span_Print.f (k : Nat) (a0_0 : ByteArray) (a0_1 : ByteArray) (a0_2 : Bool) : Option (ByteArray × Int) := (span_Check.f k a0_0 a0_1 a0_2).bind fun t136 => (if t136 = 0 then (if a0_2 = true then ((nums_Hex.f k a0_0).bind fun t137 => (if t137.size + 3 ≤ 9223372036854775807 then (some (t137 ++ (⟨#[46, 46, 42]⟩ : ByteArray), 0)) else (none))) else ((nums_Hex.f k a0_0).bind fun t138 => (if t138.size + 2 ≤ 9223372036854775807 then ((nums_Hex.f k a0_1).bind fun t139 => (if (t138 ++ (⟨#[46, 46]⟩ : ByteArray)).size + t139.size ≤ 9223372036854775807 then (some ((t138 ++ (⟨#[46, 46]⟩ : ByteArray)) ++ t139, 0)) else (none))) else (none)))) else (some ((⟨#[]⟩ : ByteArray), t136)))
theorem span_Print.mono : ∀ a0 a1 a2 k, LeO (span_Print.f k a0 a1 a2) (span_Print.f (k + 1) a0 a1 a2) := by
  intro a0 a1 a2 k
  unfold span_Print.f
  repeat' first
      | (with_reducible exact nums_Hex.mono _ _)
      | (with_reducible exact span_Check.mono _ _ _ _)
      | (with_reducible exact LeO.refl _)
      | (with_reducible exact LeO.none _)
      | (with_reducible refine LeO.ite ?_ ?_)
      | (with_reducible refine LeO.bind ?_ (fun _ => ?_))
      | exact nums_Hex.mono _ _
      | exact span_Check.mono _ _ _ _
      | exact LeO.none _
      | refine LeO.ite ?_ ?_
      | refine LeO.bind ?_ (fun _ => ?_)
def span_Print.T6 : Bool × List (List Nat × List Nat) := (true, [([], []), ([0], [0]), ([1], [1]), ([2], [2]), ([], []), ([4], [4]), ([5, 2], [5]), ([3, 6], [3, 6]), ([7, 6, 0, 1, 2, 3, 4, 5, 6, 7], [7]), ([8, 0, 1, 2, 3, 4, 5, 6, 7, 8], [])])
def span_Print.B6 : List Nat := [0, 1, 3, 7, 0, 16, 55, 127, 255, 511]
theorem span_Print.tab6 : rtab .any (opsOf Tryz.f27 6) = span_Print.T6 := by kernel_rfl
theorem span_Print.bits6 : waitsOk span_Print.T6.2 span_Print.B6 = true := by kernel_rfl
set_option maxHeartbeats 8000000 in
set_option maxRecDepth 100000 in
theorem span_Print.calls (k : Nat) (a0_0 : ByteArray) (a0_1 : ByteArray) (a0_2 : Bool) (r1 : ByteArray) (r2 : Int) (w : World) (h : span_Print.f k a0_0 a0_1 a0_2 = some (r1, r2)) :
    Calls Tryz.prog 27 #[.agg #[.string a0_0, .string a0_1, .bool a0_2]] w fun e w' => e = .returned (.tuple #[.string r1, .int .i64 r2]) ∧ Below w.heap.size w w' := by
  have hu23 := Tryz.underlying23
  have HB := Aside0.mk (Below.refl w.heap.size w)
  have H : ((span_Check.f k a0_0 a0_1 a0_2).bind fun t136 => (if t136 = 0 then (if a0_2 = true then ((nums_Hex.f k a0_0).bind fun t137 => (if t137.size + 3 ≤ 9223372036854775807 then (some (t137 ++ (⟨#[46, 46, 42]⟩ : ByteArray), 0)) else (none))) else ((nums_Hex.f k a0_0).bind fun t138 => (if t138.size + 2 ≤ 9223372036854775807 then ((nums_Hex.f k a0_1).bind fun t139 => (if (t138 ++ (⟨#[46, 46]⟩ : ByteArray)).size + t139.size ≤ 9223372036854775807 then (some ((t138 ++ (⟨#[46, 46]⟩ : ByteArray)) ++ t139, 0)) else (none))) else (none)))) else (some ((⟨#[]⟩ : ByteArray), t136)))) = some (r1, r2) := h
  clear h
  replace H := Option.bind_eq_some_iff.mp H
  obtain ⟨t136, A20, H⟩ := H
  replace H : (if t136 = 0 then (if a0_2 = true then ((nums_Hex.f k a0_0).bind fun t137 => (if t137.size + 3 ≤ 9223372036854775807 then (some (t137 ++ (⟨#[46, 46, 42]⟩ : ByteArray), 0)) else (none))) else ((nums_Hex.f k a0_0).bind fun t138 => (if t138.size + 2 ≤ 9223372036854775807 then ((nums_Hex.f k a0_1).bind fun t139 => (if (t138 ++ (⟨#[46, 46]⟩ : ByteArray)).size + t139.size ≤ 9223372036854775807 then (some ((t138 ++ (⟨#[46, 46]⟩ : ByteArray)) ++ t139, 0)) else (none))) else (none)))) else (some ((⟨#[]⟩ : ByteArray), t136))) = some (r1, r2) := H
  have A2 := Aside0.mk A20
  clear A20
  by_cases c3 : t136 = 0
  · rw [if_pos c3] at H
    have c3b0 : (t136 == 0) = true := beq_iff_eq.mpr c3
    have c3b1 : (t136 != 0) = false := bne_eq_false_iff_eq.mpr c3
    clear c3
    by_cases c4 : a0_2 = true
    · subst c4
      have H1 : ((nums_Hex.f k a0_0).bind fun t137 => (if t137.size + 3 ≤ 9223372036854775807 then (some (t137 ++ (⟨#[46, 46, 42]⟩ : ByteArray), 0)) else (none))) = some (r1, r2) := by rw [if_pos rfl] at H; exact H
      clear H
      have H := H1
      clear H1
      replace H := Option.bind_eq_some_iff.mp H
      obtain ⟨t137, A50, H⟩ := H
      replace H : (if t137.size + 3 ≤ 9223372036854775807 then (some (t137 ++ (⟨#[46, 46, 42]⟩ : ByteArray), 0)) else (none)) = some (r1, r2) := H
      have A5 := Aside0.mk A50
      clear A50
      by_cases c6 : t137.size + 3 ≤ 9223372036854775807
      · rw [if_pos c6] at H
        have c6b0 := eq_true c6
        have c6b1 : decide (t137.size + 3 ≤ 9223372036854775807) = true := decide_eq_true c6
        try have c6b2 : (9223372036854775807 < t137.size + 3) = False := eq_false (Nat.not_lt.2 c6)
        simp only [Option.some.injEq, Prod.mk.injEq] at H
        obtain ⟨rfl, rfl⟩ := H
        go_enter Tryz.func27, Tryz.ntmps27
        go_wp2_with (first | ((with_reducible refine gate_dst (N := 1) rfl ?_); refine box_event ?hg (N := 1) ?hd (cs := #[.string a0_0, .string a0_1, .bool true]) (t := 23) ?hr ?_; (case hd => rfl); (case hg => rfl); (case hr => first | (go_simp; done) | (go_simp; rfl)); intro gb135 hg w7 hbox hb; have n0_ := Aside0.mk (below_step (by repeat (first | (with_reducible first | exact HB.out | apply below_alloc | apply pw_below_drewN | apply below_drew1) | exact HB.out)) hb); have n1_ := Aside0.mk (hbox); have n2_ := Aside0.mk ((by rw [hg]; exact (below_size (by repeat (first | (with_reducible first | exact HB.out | apply below_alloc | apply pw_below_drewN | apply below_drew1) | exact HB.out))) : w.heap.size ≤ gb135)); have n3_ := Aside0.mk ((by rw [hg]; exact (below_size (by repeat (first | (with_reducible first | exact HB.out | apply below_alloc | apply pw_below_drewN | apply below_drew1) | exact HB.out))) : w.heap.size ≤ gb135)); clear HB; have HB := n0_; have BK135 := n1_; have GW135 := n2_; have GE135 := n3_; clear n0_ n1_ n2_ n3_; clear hb hbox hg; have hcz8_0 : w7.cell? ⟨gb135, 0, none⟩ = some (.string a0_0) := (blk_cell BK135.out 0).trans rfl; have hcz8_1 : w7.cell? ⟨gb135, 1, none⟩ = some (.string a0_1) := (blk_cell BK135.out 1).trans rfl; have hcz8_2 : w7.cell? ⟨gb135, 2, none⟩ = some (.bool true) := (blk_cell BK135.out 2).trans rfl; have hfz8_0 := blk_frozen BK135.out 0; have hfz8_1 := blk_frozen BK135.out 1; have hfz8_2 := blk_frozen BK135.out 2) | ((with_reducible refine gate_callee (f := 45) rfl ?_); refine goesL_ (some 6) rfl rfl Tryz.func45 (by kernel_rfl) rfl #[.agg #[.string a0_0, .string a0_1, .bool true]] rfl (by (try simp only [List.map_toArray, List.map_cons, List.map_nil]); first | done | rfl | (simp only [List.length_drop, List.length_take]; rfl)) ?_; (with_reducible refine (span_Check.calls k a0_0 a0_1 true t136 _ A2.out).mono ?_); rintro e w9 ⟨rfl, hb⟩; refine ⟨_, rfl, ?_⟩; have n0_ := Aside0.mk (blk_below (g := gb135) (o := .cells #[.string a0_0, .string a0_1, .bool true] 23 (0, 0)) (by (with_reducible repeat (first | refine blk_drewN ?_ _ | refine blk_drew ?_ | refine blk_alloc ?_ _)); exact BK135.out) hb); have n1_ := Aside0.mk (below_step (by repeat (first | (with_reducible first | exact HB.out | apply below_alloc | apply pw_below_drewN | apply below_drew1 | refine below_set ?_ GE135.out) | exact HB.out)) hb); clear BK135; clear HB; have BK135 := n0_; have HB := n1_; clear n0_ n1_; (try clear hb); (try clear hb2); (try clear hk); (try clear hi); have hcz10_0 : w9.cell? ⟨gb135, 0, none⟩ = some (.string a0_0) := (blk_cell BK135.out 0).trans rfl; have hcz10_1 : w9.cell? ⟨gb135, 1, none⟩ = some (.string a0_1) := (blk_cell BK135.out 1).trans rfl; have hcz10_2 : w9.cell? ⟨gb135, 2, none⟩ = some (.bool true) := (blk_cell BK135.out 2).trans rfl; have hfz10_0 := blk_frozen BK135.out 0; have hfz10_1 := blk_frozen BK135.out 1; have hfz10_2 := blk_frozen BK135.out 2) | ((with_reducible refine gate_callee (f := 26) rfl ?_); refine goesL_ (some 14) rfl rfl Tryz.func26 (by kernel_rfl) rfl #[.string a0_0] rfl (by (try simp only [List.map_toArray, List.map_cons, List.map_nil]); first | done | rfl | (simp only [List.length_drop, List.length_take]; rfl)) ?_; (with_reducible refine (nums_Hex.calls k a0_0 t137 _ A5.out).mono ?_); rintro e w11 ⟨rfl, hb⟩; refine ⟨_, rfl, ?_⟩; have n0_ := Aside0.mk (blk_below (g := gb135) (o := .cells #[.string a0_0, .string a0_1, .bool true] 23 (0, 0)) (by (with_reducible repeat (first | refine blk_drewN ?_ _ | refine blk_drew ?_ | refine blk_alloc ?_ _)); exact BK135.out) hb); have n1_ := Aside0.mk (below_step (by repeat (first | (with_reducible first | exact HB.out | apply below_alloc | apply pw_below_drewN | apply below_drew1 | refine below_set ?_ GE135.out) | exact HB.out)) hb); clear BK135; clear HB; have BK135 := n0_; have HB := n1_; clear n0_ n1_; (try clear hb); (try clear hb2); (try clear hk); (try clear hi)))
        go_ret2
        exact ⟨by first | rfl | (simp [errW_none, errW_some] <;> rfl) | (simp [*, errW_none, errW_some] <;> rfl), by repeat (first | (with_reducible first | exact HB.out | apply below_alloc | apply pw_below_drewN | apply below_drew1 | refine below_set ?_ GE135.out) | exact HB.out)⟩
      · rw [if_neg c6] at H
        exact absurd H (by simp)
    · replace c4 := Bool.eq_false_iff.mpr c4
      subst c4
      have H1 : ((nums_Hex.f k a0_0).bind fun t138 => (if t138.size + 2 ≤ 9223372036854775807 then ((nums_Hex.f k a0_1).bind fun t139 => (if (t138 ++ (⟨#[46, 46]⟩ : ByteArray)).size + t139.size ≤ 9223372036854775807 then (some ((t138 ++ (⟨#[46, 46]⟩ : ByteArray)) ++ t139, 0)) else (none))) else (none))) = some (r1, r2) := by rw [if_neg (show ¬ (false = true) by decide)] at H; exact H
      clear H
      have H := H1
      clear H1
      replace H := Option.bind_eq_some_iff.mp H
      obtain ⟨t138, A120, H⟩ := H
      replace H : (if t138.size + 2 ≤ 9223372036854775807 then ((nums_Hex.f k a0_1).bind fun t139 => (if (t138 ++ (⟨#[46, 46]⟩ : ByteArray)).size + t139.size ≤ 9223372036854775807 then (some ((t138 ++ (⟨#[46, 46]⟩ : ByteArray)) ++ t139, 0)) else (none))) else (none)) = some (r1, r2) := H
      have A12 := Aside0.mk A120
      clear A120
      by_cases c13 : t138.size + 2 ≤ 9223372036854775807
      · rw [if_pos c13] at H
        have c13b0 := eq_true c13
        have c13b1 : decide (t138.size + 2 ≤ 9223372036854775807) = true := decide_eq_true c13
        try have c13b2 : (9223372036854775807 < t138.size + 2) = False := eq_false (Nat.not_lt.2 c13)
        replace H := Option.bind_eq_some_iff.mp H
        obtain ⟨t139, A140, H⟩ := H
        replace H : (if (t138 ++ (⟨#[46, 46]⟩ : ByteArray)).size + t139.size ≤ 9223372036854775807 then (some ((t138 ++ (⟨#[46, 46]⟩ : ByteArray)) ++ t139, 0)) else (none)) = some (r1, r2) := H
        have A14 := Aside0.mk A140
        clear A140
        by_cases c15 : (t138 ++ (⟨#[46, 46]⟩ : ByteArray)).size + t139.size ≤ 9223372036854775807
        · rw [if_pos c15] at H
          have c15b0 := eq_true c15
          have c15b1 : decide ((t138 ++ (⟨#[46, 46]⟩ : ByteArray)).size + t139.size ≤ 9223372036854775807) = true := decide_eq_true c15
          try have c15b2 : (9223372036854775807 < (t138 ++ (⟨#[46, 46]⟩ : ByteArray)).size + t139.size) = False := eq_false (Nat.not_lt.2 c15)
          try have c15b9 : (9223372036854775807 < t138.size + 2 + t139.size) = False := eq_false (by have h_ := c15; simp only [ByteArray.size_append] at h_; exact Nat.not_lt.2 h_)
          simp only [Option.some.injEq, Prod.mk.injEq] at H
          obtain ⟨rfl, rfl⟩ := H
          go_enter Tryz.func27, Tryz.ntmps27
          try go_wp2_with (first | ((with_reducible refine gate_dst (N := 1) rfl ?_); refine box_event ?hg (N := 1) ?hd (cs := #[.string a0_0, .string a0_1, .bool false]) (t := 23) ?hr ?_; (case hd => rfl); (case hg => rfl); (case hr => first | (go_simp; done) | (go_simp; rfl)); intro gb135 hg w16 hbox hb; have n0_ := Aside0.mk (below_step (by repeat (first | (with_reducible first | exact HB.out | apply below_alloc | apply pw_below_drewN | apply below_drew1) | exact HB.out)) hb); have n1_ := Aside0.mk (hbox); have n2_ := Aside0.mk ((by rw [hg]; exact (below_size (by repeat (first | (with_reducible first | exact HB.out | apply below_alloc | apply pw_below_drewN | apply below_drew1) | exact HB.out))) : w.heap.size ≤ gb135)); have n3_ := Aside0.mk ((by rw [hg]; exact (below_size (by repeat (first | (with_reducible first | exact HB.out | apply below_alloc | apply pw_below_drewN | apply below_drew1) | exact HB.out))) : w.heap.size ≤ gb135)); clear HB; have HB := n0_; have BK135 := n1_; have GW135 := n2_; have GE135 := n3_; clear n0_ n1_ n2_ n3_; clear hb hbox hg; have hcz17_0 : w16.cell? ⟨gb135, 0, none⟩ = some (.string a0_0) := (blk_cell BK135.out 0).trans rfl; have hcz17_1 : w16.cell? ⟨gb135, 1, none⟩ = some (.string a0_1) := (blk_cell BK135.out 1).trans rfl; have hcz17_2 : w16.cell? ⟨gb135, 2, none⟩ = some (.bool false) := (blk_cell BK135.out 2).trans rfl; have hfz17_0 := blk_frozen BK135.out 0; have hfz17_1 := blk_frozen BK135.out 1; have hfz17_2 := blk_frozen BK135.out 2) | ((with_reducible refine gate_callee (f := 45) rfl ?_); refine goesL_ (some 6) rfl rfl Tryz.func45 (by kernel_rfl) rfl #[.agg #[.string a0_0, .string a0_1, .bool false]] rfl (by (try simp only [List.map_toArray, List.map_cons, List.map_nil]); first | done | rfl | (simp only [List.length_drop, List.length_take]; rfl)) ?_; (with_reducible refine (span_Check.calls k a0_0 a0_1 false t136 _ A2.out).mono ?_); rintro e w18 ⟨rfl, hb⟩; refine ⟨_, rfl, ?_⟩; have n0_ := Aside0.mk (blk_below (g := gb135) (o := .cells #[.string a0_0, .string a0_1, .bool false] 23 (0, 0)) (by (with_reducible repeat (first | refine blk_drewN ?_ _ | refine blk_drew ?_ | refine blk_alloc ?_ _)); exact BK135.out) hb); have n1_ := Aside0.mk (below_step (by repeat (first | (with_reducible first | exact HB.out | apply below_alloc | apply pw_below_drewN | apply below_drew1 | refine below_set ?_ GE135.out) | exact HB.out)) hb); clear BK135; clear HB; have BK135 := n0_; have HB := n1_; clear n0_ n1_; (try clear hb); (try clear hb2); (try clear hk); (try clear hi); have hcz19_0 : w18.cell? ⟨gb135, 0, none⟩ = some (.string a0_0) := (blk_cell BK135.out 0).trans rfl; have hcz19_1 : w18.cell? ⟨gb135, 1, none⟩ = some (.string a0_1) := (blk_cell BK135.out 1).trans rfl; have hcz19_2 : w18.cell? ⟨gb135, 2, none⟩ = some (.bool false) := (blk_cell BK135.out 2).trans rfl; have hfz19_0 := blk_frozen BK135.out 0; have hfz19_1 := blk_frozen BK135.out 1; have hfz19_2 := blk_frozen BK135.out 2))
          have n0_ := Aside0.mk (blk_drew BK135.out)
          have n1_ := Aside0.mk (below_drew1 HB.out)
          clear BK135
          clear HB
          have BK135 := n0_
          have HB := n1_
          clear n0_ n1_
          refine start_ (n := 10) (S := fun w' => w'.cell? ⟨gb135, 0, none⟩ = some (.string a0_0) ∧ w'.cell? ⟨gb135, 1, none⟩ = some (.string a0_1) ∧ w'.cell? ⟨gb135, 2, none⟩ = some (.bool false)) (ds := []) #[false, false, false, false, false, false, false, false, false, false] (by kernel_rfl) rfl rfl ⟨(blk_cell BK135.out 0).trans rfl, (blk_cell BK135.out 1).trans rfl, (blk_cell BK135.out 2).trans rfl⟩ (fun hHeld => ?_); refine with_tabW span_Print.tab6 span_Print.bits6 (fun HT_ HW_ => ?_)
          generalize w18.drew = w20 at BK135 HB hHeld ⊢
          refine pure_ (i := 0) (N := some 16) (v := ?_) (a' := ?_) #[true, false, false, false, false, false, false, false, false, false] rfl rfl (any_of HT_.out (by kernel_rfl)) (fun _ _ _ h => h) (Or.inl ⟨by rfl, ?_⟩) ?_ ?_
          rotate_left
          · intro w'
            go_simp
            with_reducible rfl
          rotate_left
          · simp only [Act.put, List.setIfInBounds_toArray, List.set_cons_zero, List.set_cons_succ, i64_w, i32_w]
            rfl
          refine pure_ (i := 4) (N := some 20) (v := ?_) (a' := ?_) #[true, false, false, false, true, false, false, false, false, false] rfl rfl (any_of HT_.out (by kernel_rfl)) (fun _ _ _ h => h) (Or.inl ⟨by rfl, ?_⟩) ?_ ?_
          rotate_left
          · intro w'
            go_simp
            with_reducible rfl
          rotate_left
          · simp only [Act.put, List.setIfInBounds_toArray, List.set_cons_zero, List.set_cons_succ, i64_w, i32_w]
            rfl
          refine take_ (i := 1) (N := some 17) (v := ?_) (a' := ?_) #[true, true, false, false, true, false, false, false, false, false] rfl rfl (take_ofW HT_.out HW_.out (by kernel_rfl)) (fun _ _ _ h => h) (Or.inl ⟨by rfl, ?_⟩) hHeld ?_ ?_
          rotate_left
          · rintro w' ⟨s0, s1, s2⟩
            go_simp
            with_reducible rfl
          rotate_left
          · simp only [Act.put, List.setIfInBounds_toArray, List.set_cons_zero, List.set_cons_succ, i64_w, i32_w]
            rfl
          refine take_ (i := 5) (N := some 21) (v := ?_) (a' := ?_) #[true, true, false, false, true, true, false, false, false, false] rfl rfl (take_ofW HT_.out HW_.out (by kernel_rfl)) (fun _ _ _ h => h) (Or.inl ⟨by rfl, ?_⟩) hHeld ?_ ?_
          rotate_left
          · rintro w' ⟨s0, s1, s2⟩
            go_simp
            with_reducible rfl
          rotate_left
          · simp only [Act.put, List.setIfInBounds_toArray, List.set_cons_zero, List.set_cons_succ, i64_w, i32_w]
            rfl
          refine one_ (i := 2) (N := some 18) #[true, true, true, false, true, true, false, false, false, false] rfl rfl (one_of HT_.out (by kernel_rfl)) (by decide) (fun K hK => ?_)
          refine goes_ Tryz.func26 (by kernel_rfl) rfl #[.string a0_0] (by rfl) rfl rfl (by (try simp only [List.map_toArray, List.map_cons, List.map_nil]); first | done | rfl | (simp only [List.length_drop, List.length_take]; rfl)) ?_
          with_reducible refine (nums_Hex.calls k a0_0 t138 _ A12.out).mono ?_
          rintro e w21 ⟨rfl, hb⟩
          refine ⟨_, rfl, ?_⟩
          have n0_ := Aside0.mk (blk_below (g := gb135) (o := .cells #[.string a0_0, .string a0_1, .bool false] 23 (0, 0)) (by (with_reducible repeat (first | refine blk_drewN ?_ _ | refine blk_drew ?_ | refine blk_alloc ?_ _)); exact BK135.out) hb)
          have n1_ := Aside0.mk (below_step (by repeat (first | (with_reducible first | exact HB.out | apply below_alloc | apply pw_below_drewN | apply below_drew1 | refine below_set ?_ GE135.out) | exact HB.out)) hb)
          clear BK135
          clear HB
          have BK135 := n0_
          have HB := n1_
          clear n0_ n1_
          (try clear hb)
          (try clear hb2)
          (try clear hk)
          (try clear hi)
          refine hK.out _ _ ⟨(blk_cell BK135.out 0).trans rfl, (blk_cell BK135.out 1).trans rfl, (blk_cell BK135.out 2).trans rfl⟩ (fun hHeld => ?_)
          clear hK K
          refine norm_ (a' := ?_) ?_ ?_
          rotate_left
          · show Act.put _ (some 18) _ = _
            simp only [Act.put, List.setIfInBounds_toArray, List.set_cons_zero, List.set_cons_succ, i64_w, i32_w]
            rfl
          refine pure_ (i := 3) (N := some 19) (v := ?_) (a' := ?_) #[true, true, true, true, true, true, false, false, false, false] rfl rfl (any_of HT_.out (by kernel_rfl)) (fun _ _ _ h => h) (Or.inl ⟨by rfl, ?_⟩) ?_ ?_
          rotate_left
          · intro w'
            go_simp
            with_reducible rfl
          rotate_left
          · simp only [Act.put, List.setIfInBounds_toArray, List.set_cons_zero, List.set_cons_succ, i64_w, i32_w]
            rfl
          refine one_ (i := 6) (N := some 22) #[true, true, true, true, true, true, true, false, false, false] rfl rfl (one_of HT_.out (by kernel_rfl)) (by decide) (fun K hK => ?_)
          refine goes_ Tryz.func26 (by kernel_rfl) rfl #[.string a0_1] (by rfl) rfl rfl (by (try simp only [List.map_toArray, List.map_cons, List.map_nil]); first | done | rfl | (simp only [List.length_drop, List.length_take]; rfl)) ?_
          with_reducible refine (nums_Hex.calls k a0_1 t139 _ A14.out).mono ?_
          rintro e w22 ⟨rfl, hb⟩
          refine ⟨_, rfl, ?_⟩
          have n0_ := Aside0.mk (blk_below (g := gb135) (o := .cells #[.string a0_0, .string a0_1, .bool false] 23 (0, 0)) (by (with_reducible repeat (first | refine blk_drewN ?_ _ | refine blk_drew ?_ | refine blk_alloc ?_ _)); exact BK135.out) hb)
          have n1_ := Aside0.mk (below_step (by repeat (first | (with_reducible first | exact HB.out | apply below_alloc | apply pw_below_drewN | apply below_drew1 | refine below_set ?_ GE135.out) | exact HB.out)) hb)
          clear BK135
          clear HB
          have BK135 := n0_
          have HB := n1_
          clear n0_ n1_
          (try clear hb)
          (try clear hb2)
          (try clear hk)
          (try clear hi)
          refine hK.out _ _ ⟨(blk_cell BK135.out 0).trans rfl, (blk_cell BK135.out 1).trans rfl, (blk_cell BK135.out 2).trans rfl⟩ (fun hHeld => ?_)
          clear hK K
          refine norm_ (a' := ?_) ?_ ?_
          rotate_left
          · show Act.put _ (some 22) _ = _
            simp only [Act.put, List.setIfInBounds_toArray, List.set_cons_zero, List.set_cons_succ, i64_w, i32_w]
            rfl
          refine pure_ (i := 7) (N := some 23) (v := ?_) (a' := ?_) #[true, true, true, true, true, true, true, true, false, false] rfl rfl (any_of HT_.out (by kernel_rfl)) (fun _ _ _ h => h) (Or.inl ⟨by rfl, ?_⟩) ?_ ?_
          rotate_left
          · intro w'
            go_simp
            with_reducible rfl
          rotate_left
          · simp only [Act.put, List.setIfInBounds_toArray, List.set_cons_zero, List.set_cons_succ, i64_w, i32_w]
            rfl
          refine pure_ (i := 8) (N := some 2) (v := ?_) (a' := ?_) #[true, true, true, true, true, true, true, true, true, false] rfl rfl (any_of HT_.out (by kernel_rfl)) (fun _ _ _ h => h) (Or.inl ⟨by rfl, ?_⟩) ?_ ?_
          rotate_left
          · intro w'
            go_simp
            with_reducible rfl
          rotate_left
          · simp only [Act.put, List.setIfInBounds_toArray, List.set_cons_zero, List.set_cons_succ, i64_w, i32_w]
            rfl
          refine pure_ (i := 9) (N := some 3) (v := ?_) (a' := ?_) #[true, true, true, true, true, true, true, true, true, true] rfl rfl (any_of HT_.out (by kernel_rfl)) (fun _ _ _ h => h) (Or.inl ⟨by rfl, ?_⟩) ?_ ?_
          rotate_left
          · intro w'
            go_simp
            with_reducible rfl
          rotate_left
          · simp only [Act.put, List.setIfInBounds_toArray, List.set_cons_zero, List.set_cons_succ, i64_w, i32_w]
            rfl
          refine done_ (done_of HT_.out (by kernel_rfl)) ?_
          try go_wp2
          go_ret2
          exact ⟨by first | rfl | (simp [errW_none, errW_some] <;> rfl) | (simp [*, errW_none, errW_some] <;> rfl), by repeat (first | (with_reducible first | exact HB.out | apply below_alloc | apply pw_below_drewN | apply below_drew1 | refine below_set ?_ GE135.out) | exact HB.out)⟩
        · rw [if_neg c15] at H
          exact absurd H (by simp)
      · rw [if_neg c13] at H
        exact absurd H (by simp)
  · rw [if_neg c3] at H
    have c3b0 : (t136 == 0) = false := beq_eq_false_iff_ne.mpr c3
    have c3b1 : (t136 != 0) = true := bne_iff_ne.mpr c3
    simp only [Option.some.injEq, Prod.mk.injEq] at H
    obtain ⟨rfl, rfl⟩ := H
    go_enter Tryz.func27, Tryz.ntmps27
    go_wp2_with (first | ((with_reducible refine gate_dst (N := 1) rfl ?_); refine box_event ?hg (N := 1) ?hd (cs := #[.string a0_0, .string a0_1, .bool a0_2]) (t := 23) ?hr ?_; (case hd => rfl); (case hg => rfl); (case hr => first | (go_simp; done) | (go_simp; rfl)); intro gb135 hg w23 hbox hb; have n0_ := Aside0.mk (below_step (by repeat (first | (with_reducible first | exact HB.out | apply below_alloc | apply pw_below_drewN | apply below_drew1) | exact HB.out)) hb); have n1_ := Aside0.mk (hbox); have n2_ := Aside0.mk ((by rw [hg]; exact (below_size (by repeat (first | (with_reducible first | exact HB.out | apply below_alloc | apply pw_below_drewN | apply below_drew1) | exact HB.out))) : w.heap.size ≤ gb135)); have n3_ := Aside0.mk ((by rw [hg]; exact (below_size (by repeat (first | (with_reducible first | exact HB.out | apply below_alloc | apply pw_below_drewN | apply below_drew1) | exact HB.out))) : w.heap.size ≤ gb135)); clear HB; have HB := n0_; have BK135 := n1_; have GW135 := n2_; have GE135 := n3_; clear n0_ n1_ n2_ n3_; clear hb hbox hg; have hcz24_0 : w23.cell? ⟨gb135, 0, none⟩ = some (.string a0_0) := (blk_cell BK135.out 0).trans rfl; have hcz24_1 : w23.cell? ⟨gb135, 1, none⟩ = some (.string a0_1) := (blk_cell BK135.out 1).trans rfl; have hcz24_2 : w23.cell? ⟨gb135, 2, none⟩ = some (.bool a0_2) := (blk_cell BK135.out 2).trans rfl; have hfz24_0 := blk_frozen BK135.out 0; have hfz24_1 := blk_frozen BK135.out 1; have hfz24_2 := blk_frozen BK135.out 2) | ((with_reducible refine gate_callee (f := 45) rfl ?_); refine goesL_ (some 6) rfl rfl Tryz.func45 (by kernel_rfl) rfl #[.agg #[.string a0_0, .string a0_1, .bool a0_2]] rfl (by (try simp only [List.map_toArray, List.map_cons, List.map_nil]); first | done | rfl | (simp only [List.length_drop, List.length_take]; rfl)) ?_; (with_reducible refine (span_Check.calls k a0_0 a0_1 a0_2 t136 _ A2.out).mono ?_); rintro e w25 ⟨rfl, hb⟩; refine ⟨_, rfl, ?_⟩; have n0_ := Aside0.mk (blk_below (g := gb135) (o := .cells #[.string a0_0, .string a0_1, .bool a0_2] 23 (0, 0)) (by (with_reducible repeat (first | refine blk_drewN ?_ _ | refine blk_drew ?_ | refine blk_alloc ?_ _)); exact BK135.out) hb); have n1_ := Aside0.mk (below_step (by repeat (first | (with_reducible first | exact HB.out | apply below_alloc | apply pw_below_drewN | apply below_drew1 | refine below_set ?_ GE135.out) | exact HB.out)) hb); clear BK135; clear HB; have BK135 := n0_; have HB := n1_; clear n0_ n1_; (try clear hb); (try clear hb2); (try clear hk); (try clear hi)))
    go_ret2
    exact ⟨by first | rfl | (simp [errW_none, errW_some] <;> rfl) | (simp [*, errW_none, errW_some] <;> rfl), by repeat (first | (with_reducible first | exact HB.out | apply below_alloc | apply pw_below_drewN | apply below_drew1 | refine below_set ?_ GE135.out) | exact HB.out)⟩
end Go.Proofs.YtodmbjbfigifnaaGreatDoor.PAll
namespace Go.Proofs.YtodmbjbfigifnaaGreatDoor.PAll
open Go.RowKit Go.Proofs.YtodmbjbfigifnaaGreatDoorW.PrintWords Go.Proofs.YtodmbjbfigifnaaGreatDoorW.PrintLast Go.Proofs.YtodmbjbfigifnaaGreatDoorW.PrintMore
attribute [local go_sem] max2_int min2_int max_two min_two max_three min_three max_four min_four   -- for this text's walks alone
set_option linter.unusedVariables false
set_option linter.unusedSimpArgs false
mutual
def tidelineref01_Parse.j0 : Nat → ByteArray → Int → Bool → Option (Int × Int)
  | 0, _, _, _ => none
  | k + 1, x0, x1, x22 => if x22 = true then (some (0, 23)) else (tidelineref01_Parse.l0 k x0 x1 0 false 0)
def tidelineref01_Parse.l0 : Nat → ByteArray → Int → Int → Bool → Int → Option (Int × Int)
  | 0, _, _, _, _, _ => none
  | k + 1, x0, x1, x6, x7, x8 => if x8 < (x0.size : Int) then (if 0 ≤ x8 then (if (bt x0 x8) < 48 then (tidelineref01_Parse.j2 k x0 x1 x6 x7 x8 true) else (tidelineref01_Parse.j2 k x0 x1 x6 x7 x8 (decide ((bt x0 x8) > 57)))) else (none)) else (if x7 = true then (some (0, 12)) else (if x6 > x1 then (some (0, 12)) else (some (x6, 0))))
def tidelineref01_Parse.j2 : Nat → ByteArray → Int → Int → Bool → Int → Bool → Option (Int × Int)
  | 0, _, _, _, _, _, _ => none
  | k + 1, x0, x1, x6, x7, x8, x38 => if x38 = true then (some (0, 23)) else (if 0 ≤ x8 then (if x8 < (x0.size : Int) then (if x6 > ((9223372036854775807 - (((bt x0 x8) - 48) % 256)) / 10) then (tidelineref01_Parse.l0 k x0 x1 ((10 * 0) + (((bt x0 x8) - 48) % 256)) true (wrap64 (x8 + 1))) else (tidelineref01_Parse.l0 k x0 x1 (wrap64 ((wrap64 (10 * x6)) + (((bt x0 x8) - 48) % 256))) x7 (wrap64 (x8 + 1)))) else (none)) else (none))
end
def tidelineref01_Parse.f (k : Nat) (a0 : ByteArray) (a1 : Int) : Option (Int × Int) := if (a0.size : Int) = 0 then (tidelineref01_Parse.j0 k a0 a1 true) else (if (a0.size : Int) > 1 then (if 0 < (a0.size : Int) then (tidelineref01_Parse.j0 k a0 a1 ((bt a0 0) == 48)) else (none)) else (tidelineref01_Parse.j0 k a0 a1 false))
theorem tidelineref01_Parse.mono_l : ∀ k, (∀ y0 y1 y2, LeO (tidelineref01_Parse.j0 k y0 y1 y2) (tidelineref01_Parse.j0 (k + 1) y0 y1 y2)) ∧ (∀ y0 y1 y2 y3 y4, LeO (tidelineref01_Parse.l0 k y0 y1 y2 y3 y4) (tidelineref01_Parse.l0 (k + 1) y0 y1 y2 y3 y4)) ∧ (∀ y0 y1 y2 y3 y4 y5, LeO (tidelineref01_Parse.j2 k y0 y1 y2 y3 y4 y5) (tidelineref01_Parse.j2 (k + 1) y0 y1 y2 y3 y4 y5))
  | 0 => ⟨fun _ _ _ r h => by simp [tidelineref01_Parse.j0] at h, fun _ _ _ _ _ r h => by simp [tidelineref01_Parse.l0] at h, fun _ _ _ _ _ _ r h => by simp [tidelineref01_Parse.j2] at h⟩
  | k + 1 => by
    obtain ⟨ih0, ih1, ih2⟩ := tidelineref01_Parse.mono_l k
    refine ⟨?_, ?_, ?_⟩
    · intro y0 y1 y2
      unfold tidelineref01_Parse.j0
      repeat' first
      | (with_reducible exact ih0 _ _ _)
      | (with_reducible exact ih1 _ _ _ _ _)
      | (with_reducible exact ih2 _ _ _ _ _ _)
      | (with_reducible exact LeO.refl _)
      | (with_reducible exact LeO.none _)
      | (with_reducible refine LeO.ite ?_ ?_)
      | (with_reducible refine LeO.bind ?_ (fun _ => ?_))
      | exact ih0 _ _ _
      | exact ih1 _ _ _ _ _
      | exact ih2 _ _ _ _ _ _
      | exact LeO.none _
      | refine LeO.ite ?_ ?_
      | refine LeO.bind ?_ (fun _ => ?_)
    · intro y0 y1 y2 y3 y4
      unfold tidelineref01_Parse.l0
      repeat' first
      | (with_reducible exact ih0 _ _ _)
      | (with_reducible exact ih1 _ _ _ _ _)
      | (with_reducible exact ih2 _ _ _ _ _ _)
      | (with_reducible exact LeO.refl _)
      | (with_reducible exact LeO.none _)
      | (with_reducible refine LeO.ite ?_ ?_)
      | (with_reducible refine LeO.bind ?_ (fun _ => ?_))
      | exact ih0 _ _ _
      | exact ih1 _ _ _ _ _
      | exact ih2 _ _ _ _ _ _
      | exact LeO.none _
      | refine LeO.ite ?_ ?_
      | refine LeO.bind ?_ (fun _ => ?_)
    · intro y0 y1 y2 y3 y4 y5
      unfold tidelineref01_Parse.j2
      repeat' first
      | (with_reducible exact ih0 _ _ _)
      | (with_reducible exact ih1 _ _ _ _ _)
      | (with_reducible exact ih2 _ _ _ _ _ _)
      | (with_reducible exact LeO.refl _)
      | (with_reducible exact LeO.none _)
      | (with_reducible refine LeO.ite ?_ ?_)
      | (with_reducible refine LeO.bind ?_ (fun _ => ?_))
      | exact ih0 _ _ _
      | exact ih1 _ _ _ _ _
      | exact ih2 _ _ _ _ _ _
      | exact LeO.none _
      | refine LeO.ite ?_ ?_
      | refine LeO.bind ?_ (fun _ => ?_)
theorem tidelineref01_Parse.mono : ∀ a0 a1 k, LeO (tidelineref01_Parse.f k a0 a1) (tidelineref01_Parse.f (k + 1) a0 a1) := by
  intro a0 a1 k
  obtain ⟨ih0, ih1, ih2⟩ := tidelineref01_Parse.mono_l k
  unfold tidelineref01_Parse.f
  repeat' first
      | (with_reducible exact ih0 _ _ _)
      | (with_reducible exact ih1 _ _ _ _ _)
      | (with_reducible exact ih2 _ _ _ _ _ _)
      | (with_reducible exact LeO.refl _)
      | (with_reducible exact LeO.none _)
      | (with_reducible refine LeO.ite ?_ ?_)
      | (with_reducible refine LeO.bind ?_ (fun _ => ?_))
      | exact ih0 _ _ _
      | exact ih1 _ _ _ _ _
      | exact ih2 _ _ _ _ _ _
      | exact LeO.none _
      | refine LeO.ite ?_ ?_
      | refine LeO.bind ?_ (fun _ => ?_)
set_option maxHeartbeats 8000000 in
set_option maxRecDepth 100000 in
theorem tidelineref01_Parse.calls (k : Nat) (a0 : ByteArray) (a1 : Int) (r1 : Int) (r2 : Int) (w : World) (h : tidelineref01_Parse.f k a0 a1 = some (r1, r2)) :
    Calls Tryz.prog 48 #[.string a0, .int .i64 a1] w fun e w' => e = .returned (.tuple #[.int .i64 r1, .int .i64 r2]) ∧ Drawn0 w w' := by
  have H : (if (a0.size : Int) = 0 then (tidelineref01_Parse.j0 k a0 a1 true) else (if (a0.size : Int) > 1 then (if 0 < (a0.size : Int) then (tidelineref01_Parse.j0 k a0 a1 ((bt a0 0) == 48)) else (none)) else (tidelineref01_Parse.j0 k a0 a1 false))) = some (r1, r2) := h
  clear h
  have HC3 := Aside0.mk H
  clear H
  go_enter Tryz.func48, Tryz.ntmps48
  go_upto_region 1 with (fail)
  go_cut [22] (fun v22 wc => ∃ (kq : Nat) (x22_2 : Bool), v22 = .bool x22_2 ∧ Aside0 (tidelineref01_Parse.j0 kq a0 a1 x22_2 = some (r1, r2)) ∧ Aside0 (kq ≤ k) ∧ Drawn0 w wc)
  case first =>
    have H := HC3.out
    clear HC3
    by_cases c4 : (a0.size : Int) = 0
    · rw [if_pos c4] at H
      have c4b0 : ((a0.size : Int) == 0) = true := beq_iff_eq.mpr c4
      have c4b1 : ((a0.size : Int) != 0) = false := bne_eq_false_iff_eq.mpr c4
      clear c4
      (first | rw [c4b0] | (simp only [i64_w, i32_w]; rw [c4b0]) | skip)
      have H' := Aside0.mk H
      clear H
      go_wp2
      go_meet
      case rel => exact ⟨_, (true), (by first | rfl | (simp; done) | (simp [*]; done) | (simp [*, Go.Proofs.YtodmbjbfigifnaaGreatDoor.Str.bne_nil]; done)), H', ⟨by first | omega | exact Nat.le_refl _⟩, by repeat (first | exact Drawn0.refl _ | apply Drawn0.step)⟩
    · rw [if_neg c4] at H
      have c4b0 : ((a0.size : Int) == 0) = false := beq_eq_false_iff_ne.mpr c4
      have c4b1 : ((a0.size : Int) != 0) = true := bne_iff_ne.mpr c4
      (first | rw [c4b0] | (simp only [i64_w, i32_w]; rw [c4b0]) | skip)
      by_cases c5 : (a0.size : Int) > 1
      · rw [if_pos c5] at H
        have c5b0 : decide (1 < (a0.size : Int)) = true := decide_eq_true c5
        have c5b1 : decide (1 < a0.size) = true := decide_eq_true (by omega)
        clear c5
        by_cases c6 : 0 < (a0.size : Int)
        · rw [if_pos c6] at H
          have c6b0 : decide (0 < (a0.size : Int)) = true := decide_eq_true c6
          have c6b1 : decide (0 < a0.size) = true := decide_eq_true (by omega)
          clear c6
          have H' := Aside0.mk H
          clear H
          have p7 : 0 ≤ (0 : Int) := (by omega)
          have q7 : 0 < a0.size := (by have : (0 : Int) < (a0.size : Int) := of_decide_eq_true (by first | (with_reducible assumption) | assumption); omega)
          have hx7 : ∀ h : 0 < a0.size, ((a0[0]'h).toNat : Int) = bt a0 0 := bt_at a0 0
          clear p7
          have qi7 : (0 < (a0.size : Int)) = True := eq_true (of_decide_eq_true (by first | (with_reducible assumption) | assumption))
          replace q7 := eq_true q7
          go_wp2
          go_meet
          case rel => exact ⟨_, (((bt a0 0) == 48)), (by first | rfl | (simp; done) | (simp [*]; done) | (simp [*, Go.Proofs.YtodmbjbfigifnaaGreatDoor.Str.bne_nil]; done)), H', ⟨by first | omega | exact Nat.le_refl _⟩, by repeat (first | exact Drawn0.refl _ | apply Drawn0.step)⟩
        · rw [if_neg c6] at H
          exact absurd H (by simp)
      · rw [if_neg c5] at H
        have c5b0 : decide (1 < (a0.size : Int)) = false := decide_eq_false c5
        have c5b1 : decide (1 < a0.size) = false := decide_eq_false (by omega)
        clear c5
        have H' := Aside0.mk H
        clear H
        go_wp2
        go_meet
        case rel => exact ⟨_, (false), (by first | rfl | (simp; done) | (simp [*]; done) | (simp [*, Go.Proofs.YtodmbjbfigifnaaGreatDoor.Str.bne_nil]; done)), H', ⟨by first | omega | exact Nat.le_refl _⟩, by repeat (first | exact Drawn0.refl _ | apply Drawn0.step)⟩
  case rest =>
    clear HC3
    try clear p2
    try clear c4
    try clear c4b0
    try clear c4b1
    try clear c5
    try clear c5b0
    try clear c5b1
    try clear c6
    try clear c6b0
    try clear c6b1
    try clear p7
    try clear q7
    try clear hx7
    try clear qi7
    try clear p7
    try clear q7
    obtain ⟨kq, x22_2, rfl, HA, HJ2, ⟨mc2, rfl⟩⟩ := hcut
    cases kq with
    | zero => exact absurd HA.out (by simp [tidelineref01_Parse.j0])
    | succ kj2 =>
      have H := HA.out
      clear HA
      simp only [tidelineref01_Parse.j0] at H
      by_cases c8 : x22_2 = true
      · subst c8
        have H1 : (some (0, 23)) = some (r1, r2) := by rw [if_pos rfl] at H; exact H
        clear H
        have H := H1
        clear H1
        simp only [Option.some.injEq, Prod.mk.injEq] at H
        obtain ⟨rfl, rfl⟩ := H
        go_wp2
        go_ret2
        exact ⟨by first | rfl | (simp; done) | (simp [*]; done) | (simp [*, Go.Proofs.YtodmbjbfigifnaaGreatDoor.Str.bne_nil]; done), by repeat (first | exact Drawn0.refl _ | apply Drawn0.step)⟩
      · replace c8 := Bool.eq_false_iff.mpr c8
        subst c8
        have H1 : (tidelineref01_Parse.l0 kj2 a0 a1 0 false 0) = some (r1, r2) := by rw [if_neg (show ¬ (false = true) by decide)] at H; exact H
        clear H
        have H := H1
        clear H1
        have H' := Aside0.mk H
        clear H
        go_wp2
        go_loopg [6, 7, 8] kj2 (fun kq v6 v7 v8 w' => ∃ (x6_2 : Int) (x7_2 : Bool) (x8_2 : Int), v6 = .int .i64 x6_2 ∧ v7 = .bool x7_2 ∧ v8 = .int .i64 x8_2 ∧ Aside0 (tidelineref01_Parse.l0 kq a0 a1 x6_2 x7_2 x8_2 = some (r1, r2)) ∧ Aside0 (kq ≤ kj2) ∧ Drawn0 w w')
        case atStart => exact ⟨(0), (false), (0), (by first | rfl | (simp; done) | (simp [*]; done) | (simp [*, Go.Proofs.YtodmbjbfigifnaaGreatDoor.Str.bne_nil]; done)), (by first | rfl | (simp; done) | (simp [*]; done) | (simp [*, Go.Proofs.YtodmbjbfigifnaaGreatDoor.Str.bne_nil]; done)), (by first | rfl | (simp; done) | (simp [*]; done) | (simp [*, Go.Proofs.YtodmbjbfigifnaaGreatDoor.Str.bne_nil]; done)), H', ⟨Nat.le_refl _⟩, by repeat (first | exact Drawn0.refl _ | apply Drawn0.step)⟩
        case round =>
          clear H'
          try clear c2
          try clear p2
          try clear c4
          try clear c4b0
          try clear c4b1
          try clear c5
          try clear c5b0
          try clear c5b1
          try clear c6
          try clear c6b0
          try clear c6b1
          try clear p7
          try clear q7
          try clear hx7
          try clear qi7
          try clear c8
          try clear p2
          try clear p7
          try clear q7
          obtain ⟨x6_2, x7_2, x8_2, rfl, rfl, rfl, HA, HK2, ⟨m2, rfl⟩⟩ := hrel
          cases gk with
          | zero => exact absurd HA.out (by simp [tidelineref01_Parse.l0])
          | succ k2 =>
            have H := HA.out
            clear HA
            simp only [tidelineref01_Parse.l0] at H
            by_cases c9 : x8_2 < (a0.size : Int)
            · rw [if_pos c9] at H
              have c9b0 : decide (x8_2 < (a0.size : Int)) = true := decide_eq_true c9
              clear c9
              have HC10 := Aside0.mk H
              clear H
              go_upto_region 8 with (fail)
              go_cut [38] (fun v38 wc => ∃ (kq : Nat) (x38_9 : Bool), v38 = .bool x38_9 ∧ Aside0 (tidelineref01_Parse.j2 kq a0 a1 x6_2 x7_2 x8_2 x38_9 = some (r1, r2)) ∧ Aside0 (kq ≤ k2) ∧ Drawn0 w wc)
              case first =>
                have H := HC10.out
                clear HC10
                by_cases c11 : 0 ≤ x8_2
                · rw [if_pos c11] at H
                  have c11b0 : decide (0 ≤ x8_2) = true := decide_eq_true c11
                  clear c11
                  (first | rw [c11b0] | (simp only [i64_w, i32_w]; rw [c11b0]) | skip)
                  by_cases c13 : (bt a0 x8_2) < 48
                  · rw [if_pos c13] at H
                    have c13b0 : decide ((bt a0 x8_2) < 48) = true := decide_eq_true c13
                    clear c13
                    have H' := Aside0.mk H
                    clear H
                    have p12 : 0 ≤ (x8_2 : Int) := of_decide_eq_true (by first | (with_reducible assumption) | assumption)
                    have q12 : x8_2 < (a0.size : Int) := of_decide_eq_true (by first | (with_reducible assumption) | assumption)
                    have hx12 := bt_at a0 x8_2
                    replace p12 := eq_true p12
                    replace q12 := eq_true q12
                    go_wp2
                    go_meet
                    case rel => exact ⟨_, (true), (by first | rfl | (simp; done) | (simp [*]; done) | (simp [*, Go.Proofs.YtodmbjbfigifnaaGreatDoor.Str.bne_nil]; done)), H', ⟨by have := HJ2.out; have := HK2.out; first | omega | exact Nat.le_refl _⟩, by repeat (first | exact Drawn0.refl _ | apply Drawn0.step)⟩
                  · rw [if_neg c13] at H
                    have c13b0 : decide ((bt a0 x8_2) < 48) = false := decide_eq_false c13
                    clear c13
                    have H' := Aside0.mk H
                    clear H
                    have p12 : 0 ≤ (x8_2 : Int) := of_decide_eq_true (by first | (with_reducible assumption) | assumption)
                    have q12 : x8_2 < (a0.size : Int) := of_decide_eq_true (by first | (with_reducible assumption) | assumption)
                    have hx12 := bt_at a0 x8_2
                    replace p12 := eq_true p12
                    replace q12 := eq_true q12
                    have p14 : 0 ≤ (x8_2 : Int) := of_decide_eq_true (by first | (with_reducible assumption) | assumption)
                    have q14 : x8_2 < (a0.size : Int) := of_decide_eq_true (by first | (with_reducible assumption) | assumption)
                    have hx14 := bt_at a0 x8_2
                    replace p14 := eq_true p14
                    replace q14 := eq_true q14
                    go_wp2
                    go_meet
                    case rel => exact ⟨_, (decide ((bt a0 x8_2) > 57)), (by first | rfl | (simp; done) | (simp [*]; done) | (simp [*, Go.Proofs.YtodmbjbfigifnaaGreatDoor.Str.bne_nil]; done)), H', ⟨by have := HJ2.out; have := HK2.out; first | omega | exact Nat.le_refl _⟩, by repeat (first | exact Drawn0.refl _ | apply Drawn0.step)⟩
                · rw [if_neg c11] at H
                  exact absurd H (by simp)
              case rest =>
                clear HC10
                try clear c1
                try clear p1
                try clear q1
                try clear hx1
                try clear c2
                try clear p2
                try clear c4
                try clear c4b0
                try clear c4b1
                try clear c5
                try clear c5b0
                try clear c5b1
                try clear c6
                try clear c6b0
                try clear c6b1
                try clear p7
                try clear q7
                try clear hx7
                try clear qi7
                try clear c8
                try clear c9
                try clear c9b0
                try clear c11
                try clear c11b0
                try clear p12
                try clear q12
                try clear hx12
                try clear c13
                try clear c13b0
                try clear p14
                try clear q14
                try clear hx14
                try clear p12
                try clear p14
                try clear p2
                try clear p7
                try clear q12
                try clear q14
                try clear q7
                obtain ⟨kq, x38_9, rfl, HA, HJ9, ⟨mc9, rfl⟩⟩ := hcut
                cases kq with
                | zero => exact absurd HA.out (by simp [tidelineref01_Parse.j2])
                | succ kj9 =>
                  have H := HA.out
                  clear HA
                  simp only [tidelineref01_Parse.j2] at H
                  by_cases c15 : x38_9 = true
                  · subst c15
                    have H1 : (some (0, 23)) = some (r1, r2) := by rw [if_pos rfl] at H; exact H
                    clear H
                    have H := H1
                    clear H1
                    simp only [Option.some.injEq, Prod.mk.injEq] at H
                    obtain ⟨rfl, rfl⟩ := H
                    go_wp2
                    go_ret2
                    exact ⟨by first | rfl | (simp; done) | (simp [*]; done) | (simp [*, Go.Proofs.YtodmbjbfigifnaaGreatDoor.Str.bne_nil]; done), by repeat (first | exact Drawn0.refl _ | apply Drawn0.step)⟩
                  · replace c15 := Bool.eq_false_iff.mpr c15
                    subst c15
                    have H1 : (if 0 ≤ x8_2 then (if x8_2 < (a0.size : Int) then (if x6_2 > ((9223372036854775807 - (((bt a0 x8_2) - 48) % 256)) / 10) then (tidelineref01_Parse.l0 kj9 a0 a1 ((10 * 0) + (((bt a0 x8_2) - 48) % 256)) true (wrap64 (x8_2 + 1))) else (tidelineref01_Parse.l0 kj9 a0 a1 (wrap64 ((wrap64 (10 * x6_2)) + (((bt a0 x8_2) - 48) % 256))) x7_2 (wrap64 (x8_2 + 1)))) else (none)) else (none)) = some (r1, r2) := by rw [if_neg (show ¬ (false = true) by decide)] at H; exact H
                    clear H
                    have H := H1
                    clear H1
                    by_cases c16 : 0 ≤ x8_2
                    · rw [if_pos c16] at H
                      have c16b0 : decide (0 ≤ x8_2) = true := decide_eq_true c16
                      clear c16
                      by_cases c17 : x8_2 < (a0.size : Int)
                      · rw [if_pos c17] at H
                        have c17b0 : decide (x8_2 < (a0.size : Int)) = true := decide_eq_true c17
                        clear c17
                        by_cases c19 : x6_2 > ((9223372036854775807 - (((bt a0 x8_2) - 48) % 256)) / 10)
                        · rw [if_pos c19] at H
                          have c19b0 : decide (((9223372036854775807 - (((bt a0 x8_2) - 48) % 256)) / 10) < x6_2) = true := decide_eq_true c19
                          clear c19
                          have H' := Aside0.mk H
                          clear H
                          have p18 : 0 ≤ (x8_2 : Int) := of_decide_eq_true (by first | (with_reducible assumption) | assumption)
                          have q18 : x8_2 < (a0.size : Int) := of_decide_eq_true (by first | (with_reducible assumption) | assumption)
                          have hx18 := bt_at a0 x8_2
                          replace p18 := eq_true p18
                          replace q18 := eq_true q18
                          go_wp2
                          go_roundg kj9
                          case measure => have := HJ2.out; have := HK2.out; have := HJ9.out; omega
                          case rel => exact ⟨((10 * 0) + (((bt a0 x8_2) - 48) % 256)), (true), (wrap64 (x8_2 + 1)), (by first | rfl | (simp; done) | (simp [*]; done) | (simp [*, Go.Proofs.YtodmbjbfigifnaaGreatDoor.Str.bne_nil]; done)), (by first | rfl | (simp; done) | (simp [*]; done) | (simp [*, Go.Proofs.YtodmbjbfigifnaaGreatDoor.Str.bne_nil]; done)), (by first | rfl | (simp; done) | (simp [*]; done) | (simp [*, Go.Proofs.YtodmbjbfigifnaaGreatDoor.Str.bne_nil]; done)), H', ⟨by have := HJ2.out; have := HK2.out; have := HJ9.out; omega⟩, by repeat (first | exact Drawn0.refl _ | apply Drawn0.step)⟩
                        · rw [if_neg c19] at H
                          have c19b0 : decide (((9223372036854775807 - (((bt a0 x8_2) - 48) % 256)) / 10) < x6_2) = false := decide_eq_false c19
                          clear c19
                          have H' := Aside0.mk H
                          clear H
                          have p18 : 0 ≤ (x8_2 : Int) := of_decide_eq_true (by first | (with_reducible assumption) | assumption)
                          have q18 : x8_2 < (a0.size : Int) := of_decide_eq_true (by first | (with_reducible assumption) | assumption)
                          have hx18 := bt_at a0 x8_2
                          replace p18 := eq_true p18
                          replace q18 := eq_true q18
                          go_wp2
                          go_roundg kj9
                          case measure => have := HJ2.out; have := HK2.out; have := HJ9.out; omega
                          case rel => exact ⟨(wrap64 ((wrap64 (10 * x6_2)) + (((bt a0 x8_2) - 48) % 256))), (x7_2), (wrap64 (x8_2 + 1)), (by first | rfl | (simp; done) | (simp [*]; done) | (simp [*, Go.Proofs.YtodmbjbfigifnaaGreatDoor.Str.bne_nil]; done)), (by first | rfl | (simp; done) | (simp [*]; done) | (simp [*, Go.Proofs.YtodmbjbfigifnaaGreatDoor.Str.bne_nil]; done)), (by first | rfl | (simp; done) | (simp [*]; done) | (simp [*, Go.Proofs.YtodmbjbfigifnaaGreatDoor.Str.bne_nil]; done)), H', ⟨by have := HJ2.out; have := HK2.out; have := HJ9.out; omega⟩, by repeat (first | exact Drawn0.refl _ | apply Drawn0.step)⟩
                      · rw [if_neg c17] at H
                        exact absurd H (by simp)
                    · rw [if_neg c16] at H
                      exact absurd H (by simp)
            · rw [if_neg c9] at H
              have c9b0 : decide (x8_2 < (a0.size : Int)) = false := decide_eq_false c9
              clear c9
              by_cases c20 : x7_2 = true
              · subst c20
                have H1 : (some (0, 12)) = some (r1, r2) := by rw [if_pos rfl] at H; exact H
                clear H
                have H := H1
                clear H1
                simp only [Option.some.injEq, Prod.mk.injEq] at H
                obtain ⟨rfl, rfl⟩ := H
                go_wp2
                go_ret2
                exact ⟨by first | rfl | (simp; done) | (simp [*]; done) | (simp [*, Go.Proofs.YtodmbjbfigifnaaGreatDoor.Str.bne_nil]; done), by repeat (first | exact Drawn0.refl _ | apply Drawn0.step)⟩
              · replace c20 := Bool.eq_false_iff.mpr c20
                subst c20
                have H1 : (if x6_2 > a1 then (some (0, 12)) else (some (x6_2, 0))) = some (r1, r2) := by rw [if_neg (show ¬ (false = true) by decide)] at H; exact H
                clear H
                have H := H1
                clear H1
                by_cases c21 : x6_2 > a1
                · rw [if_pos c21] at H
                  have c21b0 : decide (a1 < x6_2) = true := decide_eq_true c21
                  clear c21
                  simp only [Option.some.injEq, Prod.mk.injEq] at H
                  obtain ⟨rfl, rfl⟩ := H
                  go_wp2
                  go_ret2
                  exact ⟨by first | rfl | (simp; done) | (simp [*]; done) | (simp [*, Go.Proofs.YtodmbjbfigifnaaGreatDoor.Str.bne_nil]; done), by repeat (first | exact Drawn0.refl _ | apply Drawn0.step)⟩
                · rw [if_neg c21] at H
                  have c21b0 : decide (a1 < x6_2) = false := decide_eq_false c21
                  clear c21
                  simp only [Option.some.injEq, Prod.mk.injEq] at H
                  obtain ⟨rfl, rfl⟩ := H
                  go_wp2
                  go_ret2
                  exact ⟨by first | rfl | (simp; done) | (simp [*]; done) | (simp [*, Go.Proofs.YtodmbjbfigifnaaGreatDoor.Str.bne_nil]; done), by repeat (first | exact Drawn0.refl _ | apply Drawn0.step)⟩
end Go.Proofs.YtodmbjbfigifnaaGreatDoor.PAll
namespace Go.Proofs.YtodmbjbfigifnaaGreatDoor.PAll
open Go.RowKit Go.Proofs.YtodmbjbfigifnaaGreatDoorW.PrintWords Go.Proofs.YtodmbjbfigifnaaGreatDoorW.PrintLast Go.Proofs.YtodmbjbfigifnaaGreatDoorW.PrintMore
attribute [local go_sem] max2_int min2_int max_two min_two max_three min_three max_four min_four   -- for this text's walks alone
set_option linter.unusedVariables false
set_option linter.unusedSimpArgs false
def tidelineref01_digit.j0 : Nat → Int → Bool → Option (Int)
  | 0, _, _ => none
  | k + 1, x0, x3 => if x3 = true then (some ((x0 - 48) % 256)) else (if x0 ≥ 97 then (if x0 ≤ 102 then (some (((x0 - 97) % 256) + 10)) else (some (-1))) else (some (-1)))
def tidelineref01_digit.f (k : Nat) (a0 : Int) : Option (Int) := if a0 ≥ 48 then (tidelineref01_digit.j0 k a0 (decide (a0 ≤ 57))) else (tidelineref01_digit.j0 k a0 false)
theorem tidelineref01_digit.mono_l : ∀ k, (∀ y0 y1, LeO (tidelineref01_digit.j0 k y0 y1) (tidelineref01_digit.j0 (k + 1) y0 y1))
  | 0 => fun _ _ r h => by simp [tidelineref01_digit.j0] at h
  | k + 1 => by
    have ih0 := tidelineref01_digit.mono_l k
    · intro y0 y1
      unfold tidelineref01_digit.j0
      repeat' first
      | (with_reducible exact ih0 _ _)
      | (with_reducible exact LeO.refl _)
      | (with_reducible exact LeO.none _)
      | (with_reducible refine LeO.ite ?_ ?_)
      | (with_reducible refine LeO.bind ?_ (fun _ => ?_))
      | exact ih0 _ _
      | exact LeO.none _
      | refine LeO.ite ?_ ?_
      | refine LeO.bind ?_ (fun _ => ?_)
theorem tidelineref01_digit.mono : ∀ a0 k, LeO (tidelineref01_digit.f k a0) (tidelineref01_digit.f (k + 1) a0) := by
  intro a0 k
  have ih0 := tidelineref01_digit.mono_l k
  unfold tidelineref01_digit.f
  repeat' first
      | (with_reducible exact ih0 _ _)
      | (with_reducible exact LeO.refl _)
      | (with_reducible exact LeO.none _)
      | (with_reducible refine LeO.ite ?_ ?_)
      | (with_reducible refine LeO.bind ?_ (fun _ => ?_))
      | exact ih0 _ _
      | exact LeO.none _
      | refine LeO.ite ?_ ?_
      | refine LeO.bind ?_ (fun _ => ?_)
set_option maxHeartbeats 8000000 in
set_option maxRecDepth 100000 in
theorem tidelineref01_digit.calls (k : Nat) (a0 : Int) (r : Int) (w : World) (h : tidelineref01_digit.f k a0 = some r) :
    Calls Tryz.prog 71 #[.int .u8 a0] w fun e w' => e = .returned (.int .i64 r) ∧ Drawn0 w w' := by
  have H : (if a0 ≥ 48 then (tidelineref01_digit.j0 k a0 (decide (a0 ≤ 57))) else (tidelineref01_digit.j0 k a0 false)) = some r := h
  clear h
  have HC2 := Aside0.mk H
  clear H
  go_enter Tryz.func71, Tryz.ntmps71
  go_upto_region 1 with (fail)
  go_cut [3] (fun v3 wc => ∃ (kq : Nat) (x3_1 : Bool), v3 = .bool x3_1 ∧ Aside0 (tidelineref01_digit.j0 kq a0 x3_1 = some r) ∧ Aside0 (kq ≤ k) ∧ Drawn0 w wc)
  case first =>
    have H := HC2.out
    clear HC2
    by_cases c3 : a0 ≥ 48
    · rw [if_pos c3] at H
      have c3b0 : decide (48 ≤ a0) = true := decide_eq_true c3
      clear c3
      (first | rw [c3b0] | (simp only [i64_w, i32_w]; rw [c3b0]) | skip)
      have H' := Aside0.mk H
      clear H
      go_wp2
      go_meet
      case rel => exact ⟨_, (decide (a0 ≤ 57)), (by first | rfl | (simp; done) | (simp [*]; done) | (simp [*, Go.Proofs.YtodmbjbfigifnaaGreatDoor.Str.bne_nil]; done)), H', ⟨by first | omega | exact Nat.le_refl _⟩, by repeat (first | exact Drawn0.refl _ | apply Drawn0.step)⟩
    · rw [if_neg c3] at H
      have c3b0 : decide (48 ≤ a0) = false := decide_eq_false c3
      clear c3
      (first | rw [c3b0] | (simp only [i64_w, i32_w]; rw [c3b0]) | skip)
      have H' := Aside0.mk H
      clear H
      go_wp2
      go_meet
      case rel => exact ⟨_, (false), (by first | rfl | (simp; done) | (simp [*]; done) | (simp [*, Go.Proofs.YtodmbjbfigifnaaGreatDoor.Str.bne_nil]; done)), H', ⟨by first | omega | exact Nat.le_refl _⟩, by repeat (first | exact Drawn0.refl _ | apply Drawn0.step)⟩
  case rest =>
    clear HC2
    try clear p2
    try clear c3
    try clear c3b0
    obtain ⟨kq, x3_1, rfl, HA, HJ1, ⟨mc1, rfl⟩⟩ := hcut
    cases kq with
    | zero => exact absurd HA.out (by simp [tidelineref01_digit.j0])
    | succ kj1 =>
      have H := HA.out
      clear HA
      simp only [tidelineref01_digit.j0] at H
      by_cases c4 : x3_1 = true
      · subst c4
        have H1 : (some ((a0 - 48) % 256)) = some r := by rw [if_pos rfl] at H; exact H
        clear H
        have H := H1
        clear H1
        obtain rfl := Option.some.inj H
        go_wp2
        go_ret
        exact ⟨by first | rfl | (simp; done) | (simp [*]; done) | (simp [*, Go.Proofs.YtodmbjbfigifnaaGreatDoor.Str.bne_nil]; done), by repeat (first | exact Drawn0.refl _ | apply Drawn0.step)⟩
      · replace c4 := Bool.eq_false_iff.mpr c4
        subst c4
        have H1 : (if a0 ≥ 97 then (if a0 ≤ 102 then (some (((a0 - 97) % 256) + 10)) else (some (-1))) else (some (-1))) = some r := by rw [if_neg (show ¬ (false = true) by decide)] at H; exact H
        clear H
        have H := H1
        clear H1
        by_cases c5 : a0 ≥ 97
        · rw [if_pos c5] at H
          have c5b0 : decide (97 ≤ a0) = true := decide_eq_true c5
          clear c5
          by_cases c6 : a0 ≤ 102
          · rw [if_pos c6] at H
            have c6b0 : decide (a0 ≤ 102) = true := decide_eq_true c6
            clear c6
            obtain rfl := Option.some.inj H
            go_wp2
            go_ret
            exact ⟨by first | rfl | (simp; done) | (simp [*]; done) | (simp [*, Go.Proofs.YtodmbjbfigifnaaGreatDoor.Str.bne_nil]; done), by repeat (first | exact Drawn0.refl _ | apply Drawn0.step)⟩
          · rw [if_neg c6] at H
            have c6b0 : decide (a0 ≤ 102) = false := decide_eq_false c6
            clear c6
            obtain rfl := Option.some.inj H
            go_wp2
            go_ret
            exact ⟨by first | rfl | (simp; done) | (simp [*]; done) | (simp [*, Go.Proofs.YtodmbjbfigifnaaGreatDoor.Str.bne_nil]; done), by repeat (first | exact Drawn0.refl _ | apply Drawn0.step)⟩
        · rw [if_neg c5] at H
          have c5b0 : decide (97 ≤ a0) = false := decide_eq_false c5
          clear c5
          obtain rfl := Option.some.inj H
          go_wp2
          go_ret
          exact ⟨by first | rfl | (simp; done) | (simp [*]; done) | (simp [*, Go.Proofs.YtodmbjbfigifnaaGreatDoor.Str.bne_nil]; done), by repeat (first | exact Drawn0.refl _ | apply Drawn0.step)⟩
end Go.Proofs.YtodmbjbfigifnaaGreatDoor.PAll
namespace Go.Proofs.YtodmbjbfigifnaaGreatDoor.PAll
open Go.RowKit Go.Proofs.YtodmbjbfigifnaaGreatDoorW.PrintWords Go.Proofs.YtodmbjbfigifnaaGreatDoorW.PrintLast Go.Proofs.YtodmbjbfigifnaaGreatDoorW.PrintMore
attribute [local go_sem] max2_int min2_int max_two min_two max_three min_three max_four min_four   -- for this text's walks alone
set_option linter.unusedVariables false
set_option linter.unusedSimpArgs false
def tidelineref01_Unhex.l0 : Nat → ByteArray → List Int → Int → Option (ByteArray × Int)
  | 0, _, _, _ => none
  | k + 1, x0, x4, x5 => if x5 < (x0.size : Int) then (if 0 ≤ x5 then ((tidelineref01_digit.f k (bt x0 x5)).bind fun t143 => (if 0 ≤ (wrap64 (x5 + 1)) then (if (wrap64 (x5 + 1)) < (x0.size : Int) then ((tidelineref01_digit.f k (bt x0 (wrap64 (x5 + 1)))).bind fun t144 => (if t143 < 0 then (some ((⟨#[]⟩ : ByteArray), 23)) else (if t144 < 0 then (some ((⟨#[]⟩ : ByteArray), 23)) else (if x4.length < 140737488355328 then (tidelineref01_Unhex.l0 k x0 (x4 ++ [(wrap64 ((wrap64 (16 * t143)) + t144)) % 256]) (wrap64 (x5 + 2))) else (none))))) else (none)) else (none))) else (none)) else (some (strOfNums x4, 0))
def tidelineref01_Unhex.f (k : Nat) (a0 : ByteArray) : Option (ByteArray × Int) := if ((a0.size : Int) % 2) = 1 then (some ((⟨#[]⟩ : ByteArray), 23)) else (tidelineref01_Unhex.l0 k a0 (([] : List Int)) 0)
theorem tidelineref01_Unhex.mono_l : ∀ k, (∀ y0 y1 y2, LeO (tidelineref01_Unhex.l0 k y0 y1 y2) (tidelineref01_Unhex.l0 (k + 1) y0 y1 y2))
  | 0 => fun _ _ _ r h => by simp [tidelineref01_Unhex.l0] at h
  | k + 1 => by
    have ih0 := tidelineref01_Unhex.mono_l k
    · intro y0 y1 y2
      unfold tidelineref01_Unhex.l0
      repeat' first
      | (with_reducible exact ih0 _ _ _)
      | (with_reducible exact tidelineref01_digit.mono _ _)
      | (with_reducible exact LeO.refl _)
      | (with_reducible exact LeO.none _)
      | (with_reducible refine LeO.ite ?_ ?_)
      | (with_reducible refine LeO.bind ?_ (fun _ => ?_))
      | exact ih0 _ _ _
      | exact tidelineref01_digit.mono _ _
      | exact LeO.none _
      | refine LeO.ite ?_ ?_
      | refine LeO.bind ?_ (fun _ => ?_)
theorem tidelineref01_Unhex.mono : ∀ a0 k, LeO (tidelineref01_Unhex.f k a0) (tidelineref01_Unhex.f (k + 1) a0) := by
  intro a0 k
  have ih0 := tidelineref01_Unhex.mono_l k
  unfold tidelineref01_Unhex.f
  repeat' first
      | (with_reducible exact ih0 _ _ _)
      | (with_reducible exact tidelineref01_digit.mono _ _)
      | (with_reducible exact LeO.refl _)
      | (with_reducible exact LeO.none _)
      | (with_reducible refine LeO.ite ?_ ?_)
      | (with_reducible refine LeO.bind ?_ (fun _ => ?_))
      | exact ih0 _ _ _
      | exact tidelineref01_digit.mono _ _
      | exact LeO.none _
      | refine LeO.ite ?_ ?_
      | refine LeO.bind ?_ (fun _ => ?_)
set_option maxHeartbeats 8000000 in
set_option maxRecDepth 100000 in
theorem tidelineref01_Unhex.calls (k : Nat) (a0 : ByteArray) (r1 : ByteArray) (r2 : Int) (w : World) (h : tidelineref01_Unhex.f k a0 = some (r1, r2)) :
    Calls Tryz.prog 60 #[.string a0] w fun e w' => e = .returned (.tuple #[.string r1, .int .i64 r2]) ∧ Below w.heap.size w w' := by
  have HB := Aside0.mk (Below.refl w.heap.size w)
  have H : (if ((a0.size : Int) % 2) = 1 then (some ((⟨#[]⟩ : ByteArray), 23)) else (tidelineref01_Unhex.l0 k a0 (([] : List Int)) 0)) = some (r1, r2) := h
  clear h
  by_cases c2 : ((a0.size : Int) % 2) = 1
  · rw [if_pos c2] at H
    have c2b0 : (((a0.size : Int) % 2) == 1) = true := beq_iff_eq.mpr c2
    have c2b1 : (((a0.size : Int) % 2) != 1) = false := bne_eq_false_iff_eq.mpr c2
    clear c2
    simp only [Option.some.injEq, Prod.mk.injEq] at H
    obtain ⟨rfl, rfl⟩ := H
    go_enter Tryz.func60, Tryz.ntmps60
    go_wp2
    go_ret2
    exact ⟨by first | rfl | (simp [errW_none, errW_some] <;> rfl) | (simp [*, errW_none, errW_some] <;> rfl), by repeat (first | (with_reducible first | exact HB.out | apply below_alloc | apply pw_below_drewN | apply below_drew1) | exact HB.out)⟩
  · rw [if_neg c2] at H
    have c2b0 : (((a0.size : Int) % 2) == 1) = false := beq_eq_false_iff_ne.mpr c2
    have c2b1 : (((a0.size : Int) % 2) != 1) = true := bne_iff_ne.mpr c2
    obtain ⟨y140, hy140⟩ : ∃ y_ : List Int, y_ = (([] : List Int)) := ⟨_, rfl⟩
    replace H : (tidelineref01_Unhex.l0 k a0 y140 0) = some (r1, r2) := by first | (rw [hy140]; with_reducible exact H) | (have H2_ := (Option.bind_some _ _).symm.trans H; rw [hy140]; with_reducible exact H2_) | (have H2_ := (Option.bind_some _ _).symm.trans H; with_reducible exact H2_) | with_reducible exact H | (rw [hy140]; exact H) | exact H
    have Ny140 := Aside0.mk hy140
    clear hy140
    have H' := Aside0.mk H
    clear H
    go_enter Tryz.func60, Tryz.ntmps60
    go_wp2_with (first | ((with_reducible refine gate_dst (N := 12) rfl ?_); refine Kd.R_lit (Kd.int .u8) _ 5 ?hg (N := 12) ?hd (xs := ([] : List Int)) (inner := []) (ok := fun _ => True) (okp := fun _ => True) ?hr ?hp (fun _ hk => hk) trivial (Below.refl _ _) (Nat.le_refl _) (by simp) ?_; (case hd => rfl); (case hg => rfl); (case hr => first | (go_simp; done) | (go_simp; rfl)); (case hp => exact (Reps.none _ _)); intro v141 w3 ho4 hb hg_ hnew_; clear hg_ hnew_; (first | rw [← Ny140.out] at ho4 | (simp only [Int.reduceToNat] at ho4; rw [← Ny140.out] at ho4)); have n0_ := Aside0.mk (Kd.R_lower ho4 (below_size (by repeat (first | (with_reducible first | exact HB.out | apply below_alloc | apply pw_below_drewN | apply below_drew1) | exact HB.out)))); have n1_ := Aside0.mk (below_step (by repeat (first | (with_reducible first | exact HB.out | apply below_alloc | apply pw_below_drewN | apply below_drew1) | exact HB.out)) hb); clear HB; have HO142 := n0_; have HB := n1_; clear n0_ n1_; clear hb ho4))
    go_loopg [4, 5] k (fun kq v4 v5 w' => ∃ (x4_1 : List Int) (x5_1 : Int), v5 = .int .i64 x5_1 ∧ Aside0 (tidelineref01_Unhex.l0 kq a0 x4_1 x5_1 = some (r1, r2)) ∧ Aside0 (kq ≤ k) ∧ Aside0 (Kd.R (Kd.int .u8) 5 w' w.heap.size (fun _ => True) v4 x4_1) ∧ Aside0 (Below w.heap.size w w'))
    case atStart => exact ⟨(y140), (0), (by first | rfl | (simp; done) | (simp [*]; done) | (simp [*, Go.Proofs.YtodmbjbfigifnaaGreatDoor.Str.bne_nil]; done)), H', ⟨Nat.le_refl _⟩, ⟨by (with_reducible repeat (first | apply Kd.R_alloc | apply Kd.R_drewN | apply Kd.R_drew)); exact HO142.out⟩, ⟨by repeat (first | (with_reducible first | exact HB.out | apply below_alloc | apply pw_below_drewN | apply below_drew1) | exact HB.out)⟩⟩
    case round =>
      clear H'
      try clear c2
      try clear c2b0
      try clear c2b1
      try clear p2
      obtain ⟨x4_1, x5_1, rfl, HA, HK1, HO_4, HB⟩ := hrel
      cases gk with
      | zero => exact absurd HA.out (by simp [tidelineref01_Unhex.l0])
      | succ k1 =>
        have H := HA.out
        clear HA
        simp only [tidelineref01_Unhex.l0] at H
        by_cases c5 : x5_1 < (a0.size : Int)
        · rw [if_pos c5] at H
          have c5b0 : decide (x5_1 < (a0.size : Int)) = true := decide_eq_true c5
          clear c5
          by_cases c6 : 0 ≤ x5_1
          · rw [if_pos c6] at H
            have c6b0 : decide (0 ≤ x5_1) = true := decide_eq_true c6
            clear c6
            replace H := Option.bind_eq_some_iff.mp H
            obtain ⟨t143, A80, H⟩ := H
            replace H : (if 0 ≤ (wrap64 (x5_1 + 1)) then (if (wrap64 (x5_1 + 1)) < (a0.size : Int) then ((tidelineref01_digit.f k1 (bt a0 (wrap64 (x5_1 + 1)))).bind fun t144 => (if t143 < 0 then (some ((⟨#[]⟩ : ByteArray), 23)) else (if t144 < 0 then (some ((⟨#[]⟩ : ByteArray), 23)) else (if x4_1.length < 140737488355328 then (tidelineref01_Unhex.l0 k1 a0 (x4_1 ++ [(wrap64 ((wrap64 (16 * t143)) + t144)) % 256]) (wrap64 (x5_1 + 2))) else (none))))) else (none)) else (none)) = some (r1, r2) := H
            have A8 := Aside0.mk A80
            clear A80
            obtain ⟨ji9, hji9⟩ : ∃ j_ : Int, (wrap64 (x5_1 + 1)) = j_ := ⟨_, rfl⟩
            replace H : (if 0 ≤ (ji9) then (if (ji9) < (a0.size : Int) then ((tidelineref01_digit.f k1 (bt a0 (ji9))).bind fun t144 => (if t143 < 0 then (some ((⟨#[]⟩ : ByteArray), 23)) else (if t144 < 0 then (some ((⟨#[]⟩ : ByteArray), 23)) else (if x4_1.length < 140737488355328 then (tidelineref01_Unhex.l0 k1 a0 (x4_1 ++ [(wrap64 ((wrap64 (16 * t143)) + t144)) % 256]) (wrap64 (x5_1 + 2))) else (none))))) else (none)) else (none)) = some (r1, r2) := by first | (rw [hji9] at H; exact H) | (simp only [hji9] at H ⊢; exact H)
            (try rw [hji9] at A8)
            have hji9w : (IntKind.i64.wrap (x5_1 + 1)) = ji9 := (i64_w _).trans hji9
            by_cases c10 : 0 ≤ (ji9)
            · rw [if_pos c10] at H
              have c10b0 : decide (0 ≤ (ji9)) = true := decide_eq_true c10
              clear c10
              by_cases c11 : (ji9) < (a0.size : Int)
              · rw [if_pos c11] at H
                have c11b0 : decide ((ji9) < (a0.size : Int)) = true := decide_eq_true c11
                clear c11
                replace H := Option.bind_eq_some_iff.mp H
                obtain ⟨t144, A130, H⟩ := H
                replace H : (if t143 < 0 then (some ((⟨#[]⟩ : ByteArray), 23)) else (if t144 < 0 then (some ((⟨#[]⟩ : ByteArray), 23)) else (if x4_1.length < 140737488355328 then (tidelineref01_Unhex.l0 k1 a0 (x4_1 ++ [(wrap64 ((wrap64 (16 * t143)) + t144)) % 256]) (wrap64 (x5_1 + 2))) else (none)))) = some (r1, r2) := H
                have A13 := Aside0.mk A130
                clear A130
                by_cases c14 : t143 < 0
                · rw [if_pos c14] at H
                  have c14b0 : decide (t143 < 0) = true := decide_eq_true c14
                  clear c14
                  simp only [Option.some.injEq, Prod.mk.injEq] at H
                  obtain ⟨rfl, rfl⟩ := H
                  have p7 : 0 ≤ (x5_1 : Int) := of_decide_eq_true (by first | (with_reducible assumption) | assumption)
                  have q7 : x5_1 < (a0.size : Int) := of_decide_eq_true (by first | (with_reducible assumption) | assumption)
                  have hx7 := bt_at a0 x5_1
                  replace p7 := eq_true p7
                  replace q7 := eq_true q7
                  go_wp2_with (first | ((with_reducible refine gate_callee (f := 71) rfl ?_); refine goesL_ (some 22) rfl rfl Tryz.func71 (by kernel_rfl) rfl #[.int .u8 (bt a0 x5_1)] rfl (by (try simp only [List.map_toArray, List.map_cons, List.map_nil]); first | done | rfl | (simp only [List.length_drop, List.length_take]; rfl)) ?_; (with_reducible refine (tidelineref01_digit.calls k1 (bt a0 x5_1) t143 _ A8.out).mono ?_); rintro e w' ⟨rfl, ⟨nd, rfl⟩⟩; refine ⟨_, rfl, ?_⟩; have p12 : 0 ≤ ((ji9) : Int) := of_decide_eq_true (by first | (with_reducible assumption) | assumption); have q12 : (ji9) < (a0.size : Int) := of_decide_eq_true (by first | (with_reducible assumption) | assumption); have hx12 := bt_at a0 (ji9); replace p12 := eq_true p12; replace q12 := eq_true q12) | ((with_reducible refine gate_callee (f := 71) rfl ?_); refine goesL_ (some 27) rfl rfl Tryz.func71 (by kernel_rfl) rfl #[.int .u8 (bt a0 (ji9))] rfl (by (try simp only [List.map_toArray, List.map_cons, List.map_nil]); first | done | (simp only [hji9]; rfl) | rfl | (simp only [List.length_drop, List.length_take]; rfl)) ?_; (with_reducible refine (tidelineref01_digit.calls k1 (bt a0 (ji9)) t144 _ A13.out).mono ?_); rintro e w' ⟨rfl, ⟨nd, rfl⟩⟩; refine ⟨_, rfl, ?_⟩))
                  go_ret2
                  exact ⟨by first | rfl | (simp [errW_none, errW_some] <;> rfl) | (simp only [← hji9]; first | rfl | (simp [errW_none, errW_some] <;> rfl)) | (simp [*, errW_none, errW_some] <;> rfl), by repeat (first | (with_reducible first | exact HB.out | apply below_alloc | apply pw_below_drewN | apply below_drew1) | exact HB.out)⟩
                · rw [if_neg c14] at H
                  have c14b0 : decide (t143 < 0) = false := decide_eq_false c14
                  clear c14
                  by_cases c15 : t144 < 0
                  · rw [if_pos c15] at H
                    have c15b0 : decide (t144 < 0) = true := decide_eq_true c15
                    clear c15
                    simp only [Option.some.injEq, Prod.mk.injEq] at H
                    obtain ⟨rfl, rfl⟩ := H
                    have p7 : 0 ≤ (x5_1 : Int) := of_decide_eq_true (by first | (with_reducible assumption) | assumption)
                    have q7 : x5_1 < (a0.size : Int) := of_decide_eq_true (by first | (with_reducible assumption) | assumption)
                    have hx7 := bt_at a0 x5_1
                    replace p7 := eq_true p7
                    replace q7 := eq_true q7
                    go_wp2_with (first | ((with_reducible refine gate_callee (f := 71) rfl ?_); refine goesL_ (some 22) rfl rfl Tryz.func71 (by kernel_rfl) rfl #[.int .u8 (bt a0 x5_1)] rfl (by (try simp only [List.map_toArray, List.map_cons, List.map_nil]); first | done | rfl | (simp only [List.length_drop, List.length_take]; rfl)) ?_; (with_reducible refine (tidelineref01_digit.calls k1 (bt a0 x5_1) t143 _ A8.out).mono ?_); rintro e w' ⟨rfl, ⟨nd, rfl⟩⟩; refine ⟨_, rfl, ?_⟩; have p12 : 0 ≤ ((ji9) : Int) := of_decide_eq_true (by first | (with_reducible assumption) | assumption); have q12 : (ji9) < (a0.size : Int) := of_decide_eq_true (by first | (with_reducible assumption) | assumption); have hx12 := bt_at a0 (ji9); replace p12 := eq_true p12; replace q12 := eq_true q12) | ((with_reducible refine gate_callee (f := 71) rfl ?_); refine goesL_ (some 27) rfl rfl Tryz.func71 (by kernel_rfl) rfl #[.int .u8 (bt a0 (ji9))] rfl (by (try simp only [List.map_toArray, List.map_cons, List.map_nil]); first | done | (simp only [hji9]; rfl) | rfl | (simp only [List.length_drop, List.length_take]; rfl)) ?_; (with_reducible refine (tidelineref01_digit.calls k1 (bt a0 (ji9)) t144 _ A13.out).mono ?_); rintro e w' ⟨rfl, ⟨nd, rfl⟩⟩; refine ⟨_, rfl, ?_⟩))
                    go_ret2
                    exact ⟨by first | rfl | (simp [errW_none, errW_some] <;> rfl) | (simp only [← hji9]; first | rfl | (simp [errW_none, errW_some] <;> rfl)) | (simp [*, errW_none, errW_some] <;> rfl), by repeat (first | (with_reducible first | exact HB.out | apply below_alloc | apply pw_below_drewN | apply below_drew1) | exact HB.out)⟩
                  · rw [if_neg c15] at H
                    have c15b0 : decide (t144 < 0) = false := decide_eq_false c15
                    clear c15
                    by_cases c16 : x4_1.length < 140737488355328
                    · rw [if_pos c16] at H
                      have LMc16 := Aside0.mk c16
                      clear c16
                      obtain ⟨y145, hy145⟩ : ∃ y_ : List Int, y_ = (x4_1 ++ [(wrap64 ((wrap64 (16 * t143)) + t144)) % 256]) := ⟨_, rfl⟩
                      replace H : (tidelineref01_Unhex.l0 k1 a0 y145 (wrap64 (x5_1 + 2))) = some (r1, r2) := by first | (rw [hy145]; with_reducible exact H) | (have H2_ := (Option.bind_some _ _).symm.trans H; rw [hy145]; with_reducible exact H2_) | (have H2_ := (Option.bind_some _ _).symm.trans H; with_reducible exact H2_) | with_reducible exact H | (rw [hy145]; exact H) | exact H
                      have Ny145 := Aside0.mk hy145
                      clear hy145
                      have H' := Aside0.mk H
                      clear H
                      have p7 : 0 ≤ (x5_1 : Int) := of_decide_eq_true (by first | (with_reducible assumption) | assumption)
                      have q7 : x5_1 < (a0.size : Int) := of_decide_eq_true (by first | (with_reducible assumption) | assumption)
                      have hx7 := bt_at a0 x5_1
                      replace p7 := eq_true p7
                      replace q7 := eq_true q7
                      go_wp2_with (first | ((with_reducible refine gate_callee (f := 71) rfl ?_); refine goesL_ (some 22) rfl rfl Tryz.func71 (by kernel_rfl) rfl #[.int .u8 (bt a0 x5_1)] rfl (by (try simp only [List.map_toArray, List.map_cons, List.map_nil]); first | done | rfl | (simp only [List.length_drop, List.length_take]; rfl)) ?_; (with_reducible refine (tidelineref01_digit.calls k1 (bt a0 x5_1) t143 _ A8.out).mono ?_); rintro e w' ⟨rfl, ⟨nd, rfl⟩⟩; refine ⟨_, rfl, ?_⟩; have p12 : 0 ≤ ((ji9) : Int) := of_decide_eq_true (by first | (with_reducible assumption) | assumption); have q12 : (ji9) < (a0.size : Int) := of_decide_eq_true (by first | (with_reducible assumption) | assumption); have hx12 := bt_at a0 (ji9); replace p12 := eq_true p12; replace q12 := eq_true q12) | ((with_reducible refine gate_callee (f := 71) rfl ?_); refine goesL_ (some 27) rfl rfl Tryz.func71 (by kernel_rfl) rfl #[.int .u8 (bt a0 (ji9))] rfl (by (try simp only [List.map_toArray, List.map_cons, List.map_nil]); first | done | (simp only [hji9]; rfl) | rfl | (simp only [List.length_drop, List.length_take]; rfl)) ?_; (with_reducible refine (tidelineref01_digit.calls k1 (bt a0 (ji9)) t144 _ A13.out).mono ?_); rintro e w' ⟨rfl, ⟨nd, rfl⟩⟩; refine ⟨_, rfl, ?_⟩) | ((with_reducible refine gate_builtin (b := .append) (xs := #[.tmp 34, .tmp 40]) rfl ?_); at_builtin; refine Kd.R_append (Kd.int .u8) (w0 := w) w.heap.size rfl (.tmp 34) (.tmp 40) 64 5 (.int .u8 0) 1 rfl Tryz.underlying64 info5 rfl (by decide) (by omega) u4 x4_1 ((wrap64 ((wrap64 (16 * t143)) + t144)) % 256) [.int .u8 ((wrap64 ((wrap64 (16 * t143)) + t144)) % 256)] (fun _ => True) (fun _ => False) rfl rfl ?aP (fun _ hk => hk.elim) ?aF ?aO ?aB ?aS ?aL ?_; (case aP => exact rfl); (case aB => exact (by repeat (first | (with_reducible first | exact HB.out | apply below_alloc | apply pw_below_drewN | apply below_drew1) | exact HB.out))); (case aF => exact (fun _ _ => trivial)); (case aO => exact (by (with_reducible repeat (first | apply Kd.R_alloc | apply Kd.R_drewN | apply Kd.R_drew)); exact HO_4.out)); (case aS => exact (below_size (by repeat (first | (with_reducible first | exact HB.out | apply below_alloc | apply pw_below_drewN | apply below_drew1) | exact HB.out)))); (case aL => have := LMc16.out; omega); intro v146 w17 ho hb hg hat; rw [← Ny145.out] at ho; have n0_ := Aside0.mk (hb); have n1_ := Aside0.mk (ho); clear HB; clear HO_4; have HB := n0_; have HO147 := n1_; clear n0_ n1_; clear ho hb hg hat))
                      go_roundg k1
                      case measure => have := HK1.out; omega
                      case rel => exact ⟨(y145), (wrap64 (x5_1 + 2)), (by first | rfl | (simp; done) | (simp [*]; done) | (simp [*, Go.Proofs.YtodmbjbfigifnaaGreatDoor.Str.bne_nil]; done)), H', ⟨by have := HK1.out; omega⟩, ⟨by (with_reducible repeat (first | apply Kd.R_alloc | apply Kd.R_drewN | apply Kd.R_drew)); exact HO147.out⟩, ⟨by repeat (first | (with_reducible first | exact HB.out | apply below_alloc | apply pw_below_drewN | apply below_drew1) | exact HB.out)⟩⟩
                    · rw [if_neg c16] at H
                      exact absurd H (by simp)
              · rw [if_neg c11] at H
                exact absurd H (by simp)
            · rw [if_neg c10] at H
              exact absurd H (by simp)
          · rw [if_neg c6] at H
            exact absurd H (by simp)
        · rw [if_neg c5] at H
          have c5b0 : decide (x5_1 < (a0.size : Int)) = false := decide_eq_false c5
          clear c5
          simp only [Option.some.injEq, Prod.mk.injEq] at H
          obtain ⟨rfl, rfl⟩ := H
          have hcv18 := own_string (P := Tryz.prog) Tryz.underlying64 Tryz.underlying5 Tryz.underlying9 (Kd.own_of_R HO_4.out)
          go_wp2
          go_ret2
          exact ⟨by first | rfl | (simp [errW_none, errW_some] <;> rfl) | (simp [*, errW_none, errW_some] <;> rfl), by repeat (first | (with_reducible first | exact HB.out | apply below_alloc | apply pw_below_drewN | apply below_drew1) | exact HB.out)⟩
def tidelineref21_bytes.f (k : Nat) (a0 : ByteArray) (a1 : Int) : Option (ByteArray × Bool) := if a0.toList = ([] : List UInt8) then (some ((⟨#[]⟩ : ByteArray), false)) else (if 0 < (a0.size : Int) then (if (bt a0 0) = a1 then (if 1 ≤ (a0.size : Int) then ((tidelineref01_Unhex.f k (a0.extract 1 a0.size)).bind fun bt148 => (some (bt148.1, (bt148.2 == 0)))) else (none)) else (some ((⟨#[]⟩ : ByteArray), false))) else (none))
theorem tidelineref21_bytes.mono : ∀ a0 a1 k, LeO (tidelineref21_bytes.f k a0 a1) (tidelineref21_bytes.f (k + 1) a0 a1) := by
  intro a0 a1 k
  unfold tidelineref21_bytes.f
  repeat' first
      | (with_reducible exact tidelineref01_Unhex.mono _ _)
      | (with_reducible exact LeO.refl _)
      | (with_reducible exact LeO.none _)
      | (with_reducible refine LeO.ite ?_ ?_)
      | (with_reducible refine LeO.bind ?_ (fun _ => ?_))
      | exact tidelineref01_Unhex.mono _ _
      | exact LeO.none _
      | refine LeO.ite ?_ ?_
      | refine LeO.bind ?_ (fun _ => ?_)
set_option maxHeartbeats 8000000 in
set_option maxRecDepth 100000 in
theorem tidelineref21_bytes.calls (k : Nat) (a0 : ByteArray) (a1 : Int) (r1 : ByteArray) (r2 : Bool) (w : World) (h : tidelineref21_bytes.f k a0 a1 = some (r1, r2)) :
    Calls Tryz.prog 49 #[.string a0, .int .u8 a1] w fun e w' => e = .returned (.tuple #[.string r1, .bool r2]) ∧ Below w.heap.size w w' := by
  have HB := Aside0.mk (Below.refl w.heap.size w)
  have H : (if a0.toList = ([] : List UInt8) then (some ((⟨#[]⟩ : ByteArray), false)) else (if 0 < (a0.size : Int) then (if (bt a0 0) = a1 then (if 1 ≤ (a0.size : Int) then ((tidelineref01_Unhex.f k (a0.extract 1 a0.size)).bind fun bt148 => (some (bt148.1, (bt148.2 == 0)))) else (none)) else (some ((⟨#[]⟩ : ByteArray), false))) else (none))) = some (r1, r2) := h
  clear h
  by_cases c3 : a0.toList = ([] : List UInt8)
  · rw [if_pos c3] at H
    have c3b0 : (a0.toList == ([] : List UInt8)) = true := beq_iff_eq.mpr c3
    (try (have c3b8 := c3b0; simp only [List.beq_nil_eq] at c3b8))
    have c3b1 : (a0.toList != ([] : List UInt8)) = false := bne_eq_false_iff_eq.mpr c3
    clear c3
    simp only [Option.some.injEq, Prod.mk.injEq] at H
    obtain ⟨rfl, rfl⟩ := H
    go_enter Tryz.func49, Tryz.ntmps49
    go_wp2
    go_ret2
    exact ⟨by first | rfl | (simp [errW_none, errW_some] <;> rfl) | (simp [*, errW_none, errW_some] <;> rfl), by repeat (first | (with_reducible first | exact HB.out | apply below_alloc | apply pw_below_drewN | apply below_drew1) | exact HB.out)⟩
  · rw [if_neg c3] at H
    have c3b0 : (a0.toList == ([] : List UInt8)) = false := beq_eq_false_iff_ne.mpr c3
    (try (have c3b8 := c3b0; simp only [List.beq_nil_eq] at c3b8))
    have c3b1 : (a0.toList != ([] : List UInt8)) = true := bne_iff_ne.mpr c3
    by_cases c4 : 0 < (a0.size : Int)
    · rw [if_pos c4] at H
      have c4b0 : decide (0 < (a0.size : Int)) = true := decide_eq_true c4
      have c4b1 : decide (0 < a0.size) = true := decide_eq_true (by omega)
      clear c4
      by_cases c6 : (bt a0 0) = a1
      · rw [if_pos c6] at H
        have c6b0 : ((bt a0 0) == a1) = true := beq_iff_eq.mpr c6
        have c6b1 : ((bt a0 0) != a1) = false := bne_eq_false_iff_eq.mpr c6
        clear c6
        by_cases c7 : 1 ≤ (a0.size : Int)
        · rw [if_pos c7] at H
          have c7b0 := eq_true c7
          have c7b1 : decide (1 ≤ (a0.size : Int)) = true := decide_eq_true c7
          clear c7
          replace H := Option.bind_eq_some_iff.mp H
          obtain ⟨⟨t148, t149⟩, A80, H⟩ := H
          replace H : (some (t148, (t149 == 0))) = some (r1, r2) := H
          have A8 := Aside0.mk A80
          clear A80
          simp only [Option.some.injEq, Prod.mk.injEq] at H
          obtain ⟨rfl, rfl⟩ := H
          have p5 : 0 ≤ (0 : Int) := (by omega)
          have q5 : 0 < a0.size := (by have : (0 : Int) < (a0.size : Int) := of_decide_eq_true (by first | (with_reducible assumption) | assumption); omega)
          have hx5 : ∀ h : 0 < a0.size, ((a0[0]'h).toNat : Int) = bt a0 0 := bt_at a0 0
          clear p5
          have qi5 : (0 < (a0.size : Int)) = True := eq_true (of_decide_eq_true (by first | (with_reducible assumption) | assumption))
          replace q5 := eq_true q5
          go_enter Tryz.func49, Tryz.ntmps49
          go_wp2_with (first | ((with_reducible refine gate_callee (f := 60) rfl ?_); refine goesL_ (some 19) rfl rfl Tryz.func60 (by kernel_rfl) rfl #[.string (a0.extract 1 a0.size)] rfl (by (try simp only [List.map_toArray, List.map_cons, List.map_nil]); first | done | rfl | (simp only [List.length_drop, List.length_take]; rfl)) ?_; (with_reducible refine (tidelineref01_Unhex.calls k (a0.extract 1 a0.size) t148 t149 _ A8.out).mono ?_); rintro e w9 ⟨rfl, hb⟩; refine ⟨_, rfl, ?_⟩; have n0_ := Aside0.mk (below_step (by repeat (first | (with_reducible first | exact HB.out | apply below_alloc | apply pw_below_drewN | apply below_drew1) | exact HB.out)) hb); clear HB; have HB := n0_; clear n0_; (try clear hb); (try clear hb2); (try clear hk); (try clear hi)))
          go_ret2
          exact ⟨by first | rfl | (simp [errW_none, errW_some] <;> rfl) | (simp [*, errW_none, errW_some] <;> rfl), by repeat (first | (with_reducible first | exact HB.out | apply below_alloc | apply pw_below_drewN | apply below_drew1) | exact HB.out)⟩
        · rw [if_neg c7] at H
          exact absurd H (by simp)
      · rw [if_neg c6] at H
        have c6b0 : ((bt a0 0) == a1) = false := beq_eq_false_iff_ne.mpr c6
        have c6b1 : ((bt a0 0) != a1) = true := bne_iff_ne.mpr c6
        simp only [Option.some.injEq, Prod.mk.injEq] at H
        obtain ⟨rfl, rfl⟩ := H
        have p5 : 0 ≤ (0 : Int) := (by omega)
        have q5 : 0 < a0.size := (by have : (0 : Int) < (a0.size : Int) := of_decide_eq_true (by first | (with_reducible assumption) | assumption); omega)
        have hx5 : ∀ h : 0 < a0.size, ((a0[0]'h).toNat : Int) = bt a0 0 := bt_at a0 0
        clear p5
        have qi5 : (0 < (a0.size : Int)) = True := eq_true (of_decide_eq_true (by first | (with_reducible assumption) | assumption))
        replace q5 := eq_true q5
        go_enter Tryz.func49, Tryz.ntmps49
        go_wp2
        go_ret2
        exact ⟨by first | rfl | (simp [errW_none, errW_some] <;> rfl) | (simp [*, errW_none, errW_some] <;> rfl), by repeat (first | (with_reducible first | exact HB.out | apply below_alloc | apply pw_below_drewN | apply below_drew1) | exact HB.out)⟩
    · rw [if_neg c4] at H
      exact absurd H (by simp)
end Go.Proofs.YtodmbjbfigifnaaGreatDoor.PAll
namespace Go.Proofs.YtodmbjbfigifnaaGreatDoor.PAll
open Go.RowKit Go.Proofs.YtodmbjbfigifnaaGreatDoorW.PrintWords Go.Proofs.YtodmbjbfigifnaaGreatDoorW.PrintLast Go.Proofs.YtodmbjbfigifnaaGreatDoorW.PrintMore
attribute [local go_sem] max2_int min2_int max_two min_two max_three min_three max_four min_four   -- for this text's walks alone
set_option linter.unusedVariables false
set_option linter.unusedSimpArgs false
def tidelineref02_Check.j0 : Nat → Bool → ByteArray → ByteArray → Bool → Option (Int)
  | 0, _, _, _, _ => none
  | k + 1, x12, x151000, x151001, x151002 => if x12 = true then (some 20) else (if x151002 = true then (if x151001.toList = ([] : List UInt8) then (some 0) else (some 21)) else (if (Op.bytesLess x151001.toList x151000.toList) = true then (some 21) else (some 0)))
def tidelineref02_Check.f (k : Nat) (a0_0 : ByteArray) (a0_1 : ByteArray) (a0_2 : Bool) : Option (Int) := if (a0_0.size : Int) > 16 then (tidelineref02_Check.j0 k true a0_0 a0_1 a0_2) else (tidelineref02_Check.j0 k (decide ((a0_1.size : Int) > 16)) a0_0 a0_1 a0_2)
theorem tidelineref02_Check.mono_l : ∀ k, (∀ y0 y1 y2 y3, LeO (tidelineref02_Check.j0 k y0 y1 y2 y3) (tidelineref02_Check.j0 (k + 1) y0 y1 y2 y3))
  | 0 => fun _ _ _ _ r h => by simp [tidelineref02_Check.j0] at h
  | k + 1 => by
    have ih0 := tidelineref02_Check.mono_l k
    · intro y0 y1 y2 y3
      unfold tidelineref02_Check.j0
      repeat' first
      | (with_reducible exact ih0 _ _ _ _)
      | (with_reducible exact LeO.refl _)
      | (with_reducible exact LeO.none _)
      | (with_reducible refine LeO.ite ?_ ?_)
      | (with_reducible refine LeO.bind ?_ (fun _ => ?_))
      | exact ih0 _ _ _ _
      | exact LeO.none _
      | refine LeO.ite ?_ ?_
      | refine LeO.bind ?_ (fun _ => ?_)
theorem tidelineref02_Check.mono : ∀ a0 a1 a2 k, LeO (tidelineref02_Check.f k a0 a1 a2) (tidelineref02_Check.f (k + 1) a0 a1 a2) := by
  intro a0 a1 a2 k
  have ih0 := tidelineref02_Check.mono_l k
  unfold tidelineref02_Check.f
  repeat' first
      | (with_reducible exact ih0 _ _ _ _)
      | (with_reducible exact LeO.refl _)
      | (with_reducible exact LeO.none _)
      | (with_reducible refine LeO.ite ?_ ?_)
      | (with_reducible refine LeO.bind ?_ (fun _ => ?_))
      | exact ih0 _ _ _ _
      | exact LeO.none _
      | refine LeO.ite ?_ ?_
      | refine LeO.bind ?_ (fun _ => ?_)
set_option maxHeartbeats 8000000 in
set_option maxRecDepth 100000 in
theorem tidelineref02_Check.calls (k : Nat) (a0_0 : ByteArray) (a0_1 : ByteArray) (a0_2 : Bool) (r : Int) (w : World) (h : tidelineref02_Check.f k a0_0 a0_1 a0_2 = some r) :
    Calls Tryz.prog 31 #[.agg #[.string a0_0, .string a0_1, .bool a0_2]] w fun e w' => e = .returned (.int .i64 r) ∧ Below w.heap.size w w' := by
  have hu23 := Tryz.underlying23
  have HB := Aside0.mk (Below.refl w.heap.size w)
  have H : (if (a0_0.size : Int) > 16 then (tidelineref02_Check.j0 k true a0_0 a0_1 a0_2) else (tidelineref02_Check.j0 k (decide ((a0_1.size : Int) > 16)) a0_0 a0_1 a0_2)) = some r := h
  clear h
  have HC2 := Aside0.mk H
  clear H
  go_enter Tryz.func31, Tryz.ntmps31
  go_upto_region 1 with (first | ((with_reducible refine gate_dst (N := 1) rfl ?_); (try (refine gate_guard (by rfl) ?_; dsimp only)); refine box_event ?hg (N := 1) ?hd (cs := #[.string a0_0, .string a0_1, .bool a0_2]) (t := 23) ?hr ?_; (case hd => rfl); (case hg => rfl); (case hr => first | (go_simp; done) | (go_simp; rfl)); intro gb150 hg w3 hbox hb; have n0_ := Aside0.mk (below_step (by repeat (first | (with_reducible first | exact HB.out | apply below_alloc | apply pw_below_drewN | apply below_drew1) | exact HB.out)) hb); have n1_ := Aside0.mk (hbox); have n2_ := Aside0.mk ((by rw [hg]; exact (below_size (by repeat (first | (with_reducible first | exact HB.out | apply below_alloc | apply pw_below_drewN | apply below_drew1) | exact HB.out))) : w.heap.size ≤ gb150)); have n3_ := Aside0.mk ((by rw [hg]; exact (below_size (by repeat (first | (with_reducible first | exact HB.out | apply below_alloc | apply pw_below_drewN | apply below_drew1) | exact HB.out))) : w.heap.size ≤ gb150)); clear HB; have HB := n0_; have BK150 := n1_; have GW150 := n2_; have GE150 := n3_; clear n0_ n1_ n2_ n3_; clear hb hbox hg))
  (try simp only [Act.put, List.setIfInBounds_toArray, List.set_cons_zero, List.set_cons_succ])
  go_cut [12] (fun v12 wc => ∃ (kq : Nat) (x12_1 : Bool), v12 = .bool x12_1 ∧ Aside0 (tidelineref02_Check.j0 kq x12_1 a0_0 a0_1 a0_2 = some r) ∧ Aside0 (kq ≤ k) ∧ Aside0 (wc.heap[gb150]? = some (.cells #[.string a0_0, .string a0_1, .bool a0_2] 23 (0, 0))) ∧ Aside0 (Below w.heap.size w wc))
  case first =>
    have H := HC2.out
    clear HC2
    by_cases c4 : (a0_0.size : Int) > 16
    · rw [if_pos c4] at H
      have c4b0 : decide (16 < (a0_0.size : Int)) = true := decide_eq_true c4
      have c4b1 : decide (16 < a0_0.size) = true := decide_eq_true (by omega)
      clear c4
      (first | rw [c4b0] | (simp only [i64_w, i32_w]; rw [c4b0]) | skip)
      have H' := Aside0.mk H
      clear H
      have hcz5_0 : w3.cell? ⟨gb150, 0, none⟩ = some (.string a0_0) := (blk_cell BK150.out 0).trans rfl
      have hcz5_1 : w3.cell? ⟨gb150, 1, none⟩ = some (.string a0_1) := (blk_cell BK150.out 1).trans rfl
      have hcz5_2 : w3.cell? ⟨gb150, 2, none⟩ = some (.bool a0_2) := (blk_cell BK150.out 2).trans rfl
      have hfz5_0 := blk_frozen BK150.out 0
      have hfz5_1 := blk_frozen BK150.out 1
      have hfz5_2 := blk_frozen BK150.out 2
      go_wp2
      go_meet
      case rel => exact ⟨_, (true), (by first | rfl | (simp; done) | (simp [*]; done) | (simp [*, Go.Proofs.YtodmbjbfigifnaaGreatDoor.Str.bne_nil]; done)), H', ⟨by first | omega | exact Nat.le_refl _⟩, ⟨by (with_reducible repeat (first | refine blk_drewN ?_ _ | refine blk_drew ?_ | refine blk_alloc ?_ _)); exact BK150.out⟩, ⟨by repeat (first | (with_reducible first | exact HB.out | apply below_alloc | apply pw_below_drewN | apply below_drew1 | refine below_set ?_ GE150.out) | exact HB.out)⟩⟩
    · rw [if_neg c4] at H
      have c4b0 : decide (16 < (a0_0.size : Int)) = false := decide_eq_false c4
      have c4b1 : decide (16 < a0_0.size) = false := decide_eq_false (by omega)
      clear c4
      (first | rw [c4b0] | (simp only [i64_w, i32_w]; rw [c4b0]) | skip)
      have H' := Aside0.mk H
      clear H
      have hcz6_0 : w3.cell? ⟨gb150, 0, none⟩ = some (.string a0_0) := (blk_cell BK150.out 0).trans rfl
      have hcz6_1 : w3.cell? ⟨gb150, 1, none⟩ = some (.string a0_1) := (blk_cell BK150.out 1).trans rfl
      have hcz6_2 : w3.cell? ⟨gb150, 2, none⟩ = some (.bool a0_2) := (blk_cell BK150.out 2).trans rfl
      have hfz6_0 := blk_frozen BK150.out 0
      have hfz6_1 := blk_frozen BK150.out 1
      have hfz6_2 := blk_frozen BK150.out 2
      go_wp2
      go_meet
      case rel => exact ⟨_, (decide ((a0_1.size : Int) > 16)), (by first | rfl | (simp; done) | (simp [*]; done) | (simp [*, Go.Proofs.YtodmbjbfigifnaaGreatDoor.Str.bne_nil]; done)), H', ⟨by first | omega | exact Nat.le_refl _⟩, ⟨by (with_reducible repeat (first | refine blk_drewN ?_ _ | refine blk_drew ?_ | refine blk_alloc ?_ _)); exact BK150.out⟩, ⟨by repeat (first | (with_reducible first | exact HB.out | apply below_alloc | apply pw_below_drewN | apply below_drew1 | refine below_set ?_ GE150.out) | exact HB.out)⟩⟩
  case rest =>
    clear HC2
    try clear p2
    try clear c3
    try clear c4
    try clear c4b0
    try clear c4b1
    try clear hcz5_0
    try clear hcz5_1
    try clear hcz5_2
    try clear hcz6_0
    try clear hcz6_1
    try clear hcz6_2
    try clear hfz5_0
    try clear hfz5_1
    try clear hfz5_2
    try clear hfz6_0
    try clear hfz6_1
    try clear hfz6_2
    obtain ⟨kq, x12_1, rfl, HA, HJ1, BK150, HB⟩ := hcut
    cases kq with
    | zero => exact absurd HA.out (by simp [tidelineref02_Check.j0])
    | succ kj1 =>
      have H := HA.out
      clear HA
      simp only [tidelineref02_Check.j0] at H
      by_cases c7 : x12_1 = true
      · subst c7
        have H1 : (some 20) = some r := by rw [if_pos rfl] at H; exact H
        clear H
        have H := H1
        clear H1
        obtain rfl := Option.some.inj H
        go_wp2
        go_ret
        exact ⟨by first | rfl | (simp [errW_none, errW_some] <;> rfl) | (simp [*, errW_none, errW_some] <;> rfl), by repeat (first | (with_reducible first | exact HB.out | apply below_alloc | apply pw_below_drewN | apply below_drew1 | refine below_set ?_ GE150.out) | exact HB.out)⟩
      · replace c7 := Bool.eq_false_iff.mpr c7
        subst c7
        have H1 : (if a0_2 = true then (if a0_1.toList = ([] : List UInt8) then (some 0) else (some 21)) else (if (Op.bytesLess a0_1.toList a0_0.toList) = true then (some 21) else (some 0))) = some r := by rw [if_neg (show ¬ (false = true) by decide)] at H; exact H
        clear H
        have H := H1
        clear H1
        by_cases c8 : a0_2 = true
        · subst c8
          have H1 : (if a0_1.toList = ([] : List UInt8) then (some 0) else (some 21)) = some r := by rw [if_pos rfl] at H; exact H
          clear H
          have H := H1
          clear H1
          by_cases c9 : a0_1.toList = ([] : List UInt8)
          · rw [if_pos c9] at H
            have c9b0 : (a0_1.toList == ([] : List UInt8)) = true := beq_iff_eq.mpr c9
            (try (have c9b8 := c9b0; simp only [List.beq_nil_eq] at c9b8))
            have c9b1 : (a0_1.toList != ([] : List UInt8)) = false := bne_eq_false_iff_eq.mpr c9
            clear c9
            obtain rfl := Option.some.inj H
            have hcz10_0 : wc.cell? ⟨gb150, 0, none⟩ = some (.string a0_0) := (blk_cell BK150.out 0).trans rfl
            have hcz10_1 : wc.cell? ⟨gb150, 1, none⟩ = some (.string a0_1) := (blk_cell BK150.out 1).trans rfl
            have hcz10_2 : wc.cell? ⟨gb150, 2, none⟩ = some (.bool true) := (blk_cell BK150.out 2).trans rfl
            have hfz10_0 := blk_frozen BK150.out 0
            have hfz10_1 := blk_frozen BK150.out 1
            have hfz10_2 := blk_frozen BK150.out 2
            go_wp2
            go_ret
            exact ⟨by first | rfl | (simp [errW_none, errW_some] <;> rfl) | (simp [*, errW_none, errW_some] <;> rfl), by repeat (first | (with_reducible first | exact HB.out | apply below_alloc | apply pw_below_drewN | apply below_drew1 | refine below_set ?_ GE150.out) | exact HB.out)⟩
          · rw [if_neg c9] at H
            have c9b0 : (a0_1.toList == ([] : List UInt8)) = false := beq_eq_false_iff_ne.mpr c9
            (try (have c9b8 := c9b0; simp only [List.beq_nil_eq] at c9b8))
            have c9b1 : (a0_1.toList != ([] : List UInt8)) = true := bne_iff_ne.mpr c9
            obtain rfl := Option.some.inj H
            have hcz11_0 : wc.cell? ⟨gb150, 0, none⟩ = some (.string a0_0) := (blk_cell BK150.out 0).trans rfl
            have hcz11_1 : wc.cell? ⟨gb150, 1, none⟩ = some (.string a0_1) := (blk_cell BK150.out 1).trans rfl
            have hcz11_2 : wc.cell? ⟨gb150, 2, none⟩ = some (.bool true) := (blk_cell BK150.out 2).trans rfl
            have hfz11_0 := blk_frozen BK150.out 0
            have hfz11_1 := blk_frozen BK150.out 1
            have hfz11_2 := blk_frozen BK150.out 2
            go_wp2
            go_ret
            exact ⟨by first | rfl | (simp [errW_none, errW_some] <;> rfl) | (simp [*, errW_none, errW_some] <;> rfl), by repeat (first | (with_reducible first | exact HB.out | apply below_alloc | apply pw_below_drewN | apply below_drew1 | refine below_set ?_ GE150.out) | exact HB.out)⟩
        · replace c8 := Bool.eq_false_iff.mpr c8
          subst c8
          have H1 : (if (Op.bytesLess a0_1.toList a0_0.toList) = true then (some 21) else (some 0)) = some r := by rw [if_neg (show ¬ (false = true) by decide)] at H; exact H
          clear H
          have H := H1
          clear H1
          by_cases c12 : (Op.bytesLess a0_1.toList a0_0.toList) = true
          · rw [if_pos c12] at H
            have c12b0 : (Op.bytesLess a0_1.toList a0_0.toList) = true := c12
            clear c12
            obtain rfl := Option.some.inj H
            have hcz13_0 : wc.cell? ⟨gb150, 0, none⟩ = some (.string a0_0) := (blk_cell BK150.out 0).trans rfl
            have hcz13_1 : wc.cell? ⟨gb150, 1, none⟩ = some (.string a0_1) := (blk_cell BK150.out 1).trans rfl
            have hcz13_2 : wc.cell? ⟨gb150, 2, none⟩ = some (.bool false) := (blk_cell BK150.out 2).trans rfl
            have hfz13_0 := blk_frozen BK150.out 0
            have hfz13_1 := blk_frozen BK150.out 1
            have hfz13_2 := blk_frozen BK150.out 2
            go_wp2
            go_ret
            exact ⟨by first | rfl | (simp [errW_none, errW_some] <;> rfl) | (simp [*, errW_none, errW_some] <;> rfl), by repeat (first | (with_reducible first | exact HB.out | apply below_alloc | apply pw_below_drewN | apply below_drew1 | refine below_set ?_ GE150.out) | exact HB.out)⟩
          · rw [if_neg c12] at H
            have c12b0 : (Op.bytesLess a0_1.toList a0_0.toList) = false := by simpa using c12
            clear c12
            obtain rfl := Option.some.inj H
            have hcz14_0 : wc.cell? ⟨gb150, 0, none⟩ = some (.string a0_0) := (blk_cell BK150.out 0).trans rfl
            have hcz14_1 : wc.cell? ⟨gb150, 1, none⟩ = some (.string a0_1) := (blk_cell BK150.out 1).trans rfl
            have hcz14_2 : wc.cell? ⟨gb150, 2, none⟩ = some (.bool false) := (blk_cell BK150.out 2).trans rfl
            have hfz14_0 := blk_frozen BK150.out 0
            have hfz14_1 := blk_frozen BK150.out 1
            have hfz14_2 := blk_frozen BK150.out 2
            go_wp2
            go_ret
            exact ⟨by first | rfl | (simp [errW_none, errW_some] <;> rfl) | (simp [*, errW_none, errW_some] <;> rfl), by repeat (first | (with_reducible first | exact HB.out | apply below_alloc | apply pw_below_drewN | apply below_drew1 | refine below_set ?_ GE150.out) | exact HB.out)⟩
end Go.Proofs.YtodmbjbfigifnaaGreatDoor.PAll
namespace Go.Proofs.YtodmbjbfigifnaaGreatDoor.PAll
open Go.RowKit Go.Proofs.YtodmbjbfigifnaaGreatDoorW.PrintWords Go.Proofs.YtodmbjbfigifnaaGreatDoorW.PrintLast Go.Proofs.YtodmbjbfigifnaaGreatDoorW.PrintMore
attribute [local go_sem] max2_int min2_int max_two min_two max_three min_three max_four min_four   -- for this text's walks alone
set_option linter.unusedVariables false
set_option linter.unusedSimpArgs false
def tidelineref02_digit.j0 : Nat → Int → Bool → Option (Int)
  | 0, _, _ => none
  | k + 1, x0, x8 => if x8 = true then (some ((x0 - 48) % 256)) else (if x0 ≥ 97 then (if x0 ≤ 102 then (some (((x0 - 97) % 256) + 10)) else (some (-1))) else (some (-1)))
def tidelineref02_digit.f (k : Nat) (a0 : Int) : Option (Int) := if a0 ≥ 48 then (tidelineref02_digit.j0 k a0 (decide (a0 ≤ 57))) else (tidelineref02_digit.j0 k a0 false)
theorem tidelineref02_digit.mono_l : ∀ k, (∀ y0 y1, LeO (tidelineref02_digit.j0 k y0 y1) (tidelineref02_digit.j0 (k + 1) y0 y1))
  | 0 => fun _ _ r h => by simp [tidelineref02_digit.j0] at h
  | k + 1 => by
    have ih0 := tidelineref02_digit.mono_l k
    · intro y0 y1
      unfold tidelineref02_digit.j0
      repeat' first
      | (with_reducible exact ih0 _ _)
      | (with_reducible exact LeO.refl _)
      | (with_reducible exact LeO.none _)
      | (with_reducible refine LeO.ite ?_ ?_)
      | (with_reducible refine LeO.bind ?_ (fun _ => ?_))
      | exact ih0 _ _
      | exact LeO.none _
      | refine LeO.ite ?_ ?_
      | refine LeO.bind ?_ (fun _ => ?_)
theorem tidelineref02_digit.mono : ∀ a0 k, LeO (tidelineref02_digit.f k a0) (tidelineref02_digit.f (k + 1) a0) := by
  intro a0 k
  have ih0 := tidelineref02_digit.mono_l k
  unfold tidelineref02_digit.f
  repeat' first
      | (with_reducible exact ih0 _ _)
      | (with_reducible exact LeO.refl _)
      | (with_reducible exact LeO.none _)
      | (with_reducible refine LeO.ite ?_ ?_)
      | (with_reducible refine LeO.bind ?_ (fun _ => ?_))
      | exact ih0 _ _
      | exact LeO.none _
      | refine LeO.ite ?_ ?_
      | refine LeO.bind ?_ (fun _ => ?_)
set_option maxHeartbeats 8000000 in
set_option maxRecDepth 100000 in
theorem tidelineref02_digit.calls (k : Nat) (a0 : Int) (r : Int) (w : World) (h : tidelineref02_digit.f k a0 = some r) :
    Calls Tryz.prog 72 #[.int .u8 a0] w fun e w' => e = .returned (.int .i64 r) ∧ Drawn0 w w' := by
  have H : (if a0 ≥ 48 then (tidelineref02_digit.j0 k a0 (decide (a0 ≤ 57))) else (tidelineref02_digit.j0 k a0 false)) = some r := h
  clear h
  have HC2 := Aside0.mk H
  clear H
  go_enter Tryz.func72, Tryz.ntmps72
  go_upto_region 1 with (fail)
  go_cut [8] (fun v8 wc => ∃ (kq : Nat) (x8_1 : Bool), v8 = .bool x8_1 ∧ Aside0 (tidelineref02_digit.j0 kq a0 x8_1 = some r) ∧ Aside0 (kq ≤ k) ∧ Drawn0 w wc)
  case first =>
    have H := HC2.out
    clear HC2
    by_cases c3 : a0 ≥ 48
    · rw [if_pos c3] at H
      have c3b0 : decide (48 ≤ a0) = true := decide_eq_true c3
      clear c3
      (first | rw [c3b0] | (simp only [i64_w, i32_w]; rw [c3b0]) | skip)
      have H' := Aside0.mk H
      clear H
      go_wp2
      go_meet
      case rel => exact ⟨_, (decide (a0 ≤ 57)), (by first | rfl | (simp; done) | (simp [*]; done) | (simp [*, Go.Proofs.YtodmbjbfigifnaaGreatDoor.Str.bne_nil]; done)), H', ⟨by first | omega | exact Nat.le_refl _⟩, by repeat (first | exact Drawn0.refl _ | apply Drawn0.step)⟩
    · rw [if_neg c3] at H
      have c3b0 : decide (48 ≤ a0) = false := decide_eq_false c3
      clear c3
      (first | rw [c3b0] | (simp only [i64_w, i32_w]; rw [c3b0]) | skip)
      have H' := Aside0.mk H
      clear H
      go_wp2
      go_meet
      case rel => exact ⟨_, (false), (by first | rfl | (simp; done) | (simp [*]; done) | (simp [*, Go.Proofs.YtodmbjbfigifnaaGreatDoor.Str.bne_nil]; done)), H', ⟨by first | omega | exact Nat.le_refl _⟩, by repeat (first | exact Drawn0.refl _ | apply Drawn0.step)⟩
  case rest =>
    clear HC2
    try clear p2
    try clear c3
    try clear c3b0
    obtain ⟨kq, x8_1, rfl, HA, HJ1, ⟨mc1, rfl⟩⟩ := hcut
    cases kq with
    | zero => exact absurd HA.out (by simp [tidelineref02_digit.j0])
    | succ kj1 =>
      have H := HA.out
      clear HA
      simp only [tidelineref02_digit.j0] at H
      by_cases c4 : x8_1 = true
      · subst c4
        have H1 : (some ((a0 - 48) % 256)) = some r := by rw [if_pos rfl] at H; exact H
        clear H
        have H := H1
        clear H1
        obtain rfl := Option.some.inj H
        go_wp2
        go_ret
        exact ⟨by first | rfl | (simp; done) | (simp [*]; done) | (simp [*, Go.Proofs.YtodmbjbfigifnaaGreatDoor.Str.bne_nil]; done), by repeat (first | exact Drawn0.refl _ | apply Drawn0.step)⟩
      · replace c4 := Bool.eq_false_iff.mpr c4
        subst c4
        have H1 : (if a0 ≥ 97 then (if a0 ≤ 102 then (some (((a0 - 97) % 256) + 10)) else (some (-1))) else (some (-1))) = some r := by rw [if_neg (show ¬ (false = true) by decide)] at H; exact H
        clear H
        have H := H1
        clear H1
        by_cases c5 : a0 ≥ 97
        · rw [if_pos c5] at H
          have c5b0 : decide (97 ≤ a0) = true := decide_eq_true c5
          clear c5
          by_cases c6 : a0 ≤ 102
          · rw [if_pos c6] at H
            have c6b0 : decide (a0 ≤ 102) = true := decide_eq_true c6
            clear c6
            obtain rfl := Option.some.inj H
            go_wp2
            go_ret
            exact ⟨by first | rfl | (simp; done) | (simp [*]; done) | (simp [*, Go.Proofs.YtodmbjbfigifnaaGreatDoor.Str.bne_nil]; done), by repeat (first | exact Drawn0.refl _ | apply Drawn0.step)⟩
          · rw [if_neg c6] at H
            have c6b0 : decide (a0 ≤ 102) = false := decide_eq_false c6
            clear c6
            obtain rfl := Option.some.inj H
            go_wp2
            go_ret
            exact ⟨by first | rfl | (simp; done) | (simp [*]; done) | (simp [*, Go.Proofs.YtodmbjbfigifnaaGreatDoor.Str.bne_nil]; done), by repeat (first | exact Drawn0.refl _ | apply Drawn0.step)⟩
        · rw [if_neg c5] at H
          have c5b0 : decide (97 ≤ a0) = false := decide_eq_false c5
          clear c5
          obtain rfl := Option.some.inj H
          go_wp2
          go_ret
          exact ⟨by first | rfl | (simp; done) | (simp [*]; done) | (simp [*, Go.Proofs.YtodmbjbfigifnaaGreatDoor.Str.bne_nil]; done), by repeat (first | exact Drawn0.refl _ | apply Drawn0.step)⟩
end Go.Proofs.YtodmbjbfigifnaaGreatDoor.PAll
