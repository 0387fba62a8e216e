-- By wip/pr.py (a program of this session, over the kit's print): lines written by program. Not trusted: Lean checks them.
import Derived.Test.YthnjlbdkcpgcjaaDoorSFCutD
import Derived.Test.YthnjlbdkcpgcjaaDoorPAllx0
namespace Go.Proofs.YthnjlbdkcpgcjaaDoor.PAll
open Go.RowKit Go.Proofs.YthnjlbdkcpgcjaaDoorW.PrintWords Go.Proofs.YthnjlbdkcpgcjaaDoorW.PrintLast Go.Proofs.YthnjlbdkcpgcjaaDoorW.PrintMore
attribute [local go_sem] max2_int min2_int max_two min_two max_three min_three max_four min_four   -- for this text's walks alone
set_option linter.unusedVariables false
set_option linter.unusedSimpArgs false

/-! ### nums_nibble: function 40 -/
def nums_nibble.j0 : Nat → Int → Bool → Option (Int × Bool)
  | 0, _, _ => none
  | k + 1, x0, x4 => if x4 = true then (some ((x0 - 48) % 256, true)) else (if 97 ≤ x0 then (if x0 ≤ 102 then (some ((((x0 - 97) % 256) + 10) % 256, true)) else (some (0, false))) else (some (0, false)))
def nums_nibble.f (k : Nat) (a0 : Int) : Option (Int × Bool) := if 48 ≤ a0 then (nums_nibble.j0 k a0 (decide (a0 ≤ 57))) else (nums_nibble.j0 k a0 false)
theorem nums_nibble.mono_l : ∀ k, (∀ y0 y1, LeO (nums_nibble.j0 k y0 y1) (nums_nibble.j0 (k + 1) y0 y1))
  | 0 => fun _ _ r h => by simp [nums_nibble.j0] at h
  | k + 1 => by
    have ih0 := nums_nibble.mono_l k
    · intro y0 y1
      unfold nums_nibble.j0
      repeat' first
      | (with_reducible exact ih0 _ _)
      | (with_reducible exact LeO.refl _)
      | (with_reducible exact LeO.none _)
      | (with_reducible refine LeO.ite ?_ ?_)
      | (with_reducible refine LeO.bind ?_ (fun _ => ?_))
      | exact ih0 _ _
      | exact LeO.none _
      | refine LeO.ite ?_ ?_
      | refine LeO.bind ?_ (fun _ => ?_)
theorem nums_nibble.mono : ∀ a0 k, LeO (nums_nibble.f k a0) (nums_nibble.f (k + 1) a0) := by
  intro a0 k
  have ih0 := nums_nibble.mono_l k
  unfold nums_nibble.f
  repeat' first
      | (with_reducible exact ih0 _ _)
      | (with_reducible exact LeO.refl _)
      | (with_reducible exact LeO.none _)
      | (with_reducible refine LeO.ite ?_ ?_)
      | (with_reducible refine LeO.bind ?_ (fun _ => ?_))
      | exact ih0 _ _
      | exact LeO.none _
      | refine LeO.ite ?_ ?_
      | refine LeO.bind ?_ (fun _ => ?_)
set_option maxHeartbeats 8000000 in
set_option maxRecDepth 100000 in
theorem nums_nibble.calls (k : Nat) (a0 : Int) (r1 : Int) (r2 : Bool) (w : World) (h : nums_nibble.f k a0 = some (r1, r2)) :
    Calls Tryd.prog 40 #[.int .u8 a0] w fun e w' => e = .returned (.tuple #[.int .u8 r1, .bool r2]) ∧ Drawn0 w w' := by
  have H : (if 48 ≤ a0 then (nums_nibble.j0 k a0 (decide (a0 ≤ 57))) else (nums_nibble.j0 k a0 false)) = some (r1, r2) := h
  clear h
  have HC2 := Aside0.mk H
  clear H
  go_enter Tryd.func40, Tryd.ntmps40
  go_upto_region 1 with (fail)
  go_cut [4] (fun v4 wc => ∃ (kq : Nat) (x4_1 : Bool), v4 = .bool x4_1 ∧ Aside0 (nums_nibble.j0 kq a0 x4_1 = some (r1, r2)) ∧ Aside0 (kq ≤ k) ∧ Drawn0 w wc)
  case first =>
    have H := HC2.out
    clear HC2
    by_cases c3 : 48 ≤ a0
    · rw [if_pos c3] at H
      have c3b0 : decide (48 ≤ a0) = true := decide_eq_true c3
      clear c3
      (first | rw [c3b0] | (simp only [i64_w, i32_w]; rw [c3b0]) | skip)
      have H' := Aside0.mk H
      clear H
      go_wp2
      go_meet
      case rel => exact ⟨_, (decide (a0 ≤ 57)), (by first | rfl | (simp; done) | (simp [*]; done) | (simp [*, Go.Proofs.YthnjlbdkcpgcjaaDoor.Str.bne_nil]; done)), H', ⟨by first | omega | exact Nat.le_refl _⟩, by repeat (first | exact Drawn0.refl _ | apply Drawn0.step)⟩
    · rw [if_neg c3] at H
      have c3b0 : decide (48 ≤ a0) = false := decide_eq_false c3
      clear c3
      (first | rw [c3b0] | (simp only [i64_w, i32_w]; rw [c3b0]) | skip)
      have H' := Aside0.mk H
      clear H
      go_wp2
      go_meet
      case rel => exact ⟨_, (false), (by first | rfl | (simp; done) | (simp [*]; done) | (simp [*, Go.Proofs.YthnjlbdkcpgcjaaDoor.Str.bne_nil]; done)), H', ⟨by first | omega | exact Nat.le_refl _⟩, by repeat (first | exact Drawn0.refl _ | apply Drawn0.step)⟩
  case rest =>
    clear HC2
    try clear p2
    try clear c3
    try clear c3b0
    obtain ⟨kq, x4_1, rfl, HA, HJ1, ⟨mc1, rfl⟩⟩ := hcut
    cases kq with
    | zero => exact absurd HA.out (by simp [nums_nibble.j0])
    | succ kj1 =>
      have H := HA.out
      clear HA
      simp only [nums_nibble.j0] at H
      by_cases c4 : x4_1 = true
      · subst c4
        have H1 : (some ((a0 - 48) % 256, true)) = some (r1, r2) := by rw [if_pos rfl] at H; exact H
        clear H
        have H := H1
        clear H1
        simp only [Option.some.injEq, Prod.mk.injEq] at H
        obtain ⟨rfl, rfl⟩ := H
        go_wp2
        go_ret2
        exact ⟨by first | rfl | (simp; done) | (simp [*]; done) | (simp [*, Go.Proofs.YthnjlbdkcpgcjaaDoor.Str.bne_nil]; done), by repeat (first | exact Drawn0.refl _ | apply Drawn0.step)⟩
      · replace c4 := Bool.eq_false_iff.mpr c4
        subst c4
        have H1 : (if 97 ≤ a0 then (if a0 ≤ 102 then (some ((((a0 - 97) % 256) + 10) % 256, true)) else (some (0, false))) else (some (0, false))) = some (r1, r2) := by rw [if_neg (show ¬ (false = true) by decide)] at H; exact H
        clear H
        have H := H1
        clear H1
        by_cases c5 : 97 ≤ a0
        · rw [if_pos c5] at H
          have c5b0 : decide (97 ≤ a0) = true := decide_eq_true c5
          clear c5
          by_cases c6 : a0 ≤ 102
          · rw [if_pos c6] at H
            have c6b0 : decide (a0 ≤ 102) = true := decide_eq_true c6
            clear c6
            simp only [Option.some.injEq, Prod.mk.injEq] at H
            obtain ⟨rfl, rfl⟩ := H
            go_wp2
            go_ret2
            exact ⟨by first | rfl | (simp; done) | (simp [*]; done) | (simp [*, Go.Proofs.YthnjlbdkcpgcjaaDoor.Str.bne_nil]; done), by repeat (first | exact Drawn0.refl _ | apply Drawn0.step)⟩
          · rw [if_neg c6] at H
            have c6b0 : decide (a0 ≤ 102) = false := decide_eq_false c6
            clear c6
            simp only [Option.some.injEq, Prod.mk.injEq] at H
            obtain ⟨rfl, rfl⟩ := H
            go_wp2
            go_ret2
            exact ⟨by first | rfl | (simp; done) | (simp [*]; done) | (simp [*, Go.Proofs.YthnjlbdkcpgcjaaDoor.Str.bne_nil]; done), by repeat (first | exact Drawn0.refl _ | apply Drawn0.step)⟩
        · rw [if_neg c5] at H
          have c5b0 : decide (97 ≤ a0) = false := decide_eq_false c5
          clear c5
          simp only [Option.some.injEq, Prod.mk.injEq] at H
          obtain ⟨rfl, rfl⟩ := H
          go_wp2
          go_ret2
          exact ⟨by first | rfl | (simp; done) | (simp [*]; done) | (simp [*, Go.Proofs.YthnjlbdkcpgcjaaDoor.Str.bne_nil]; done), by repeat (first | exact Drawn0.refl _ | apply Drawn0.step)⟩

/-! ### nums_Unhex: function 32 -/
def nums_Unhex.l0 : Nat → ByteArray → List Int → Option (ByteArray × Int)
  | 0, _, _ => none
  | k + 1, x0, x4 => if x0.toList = ([] : List UInt8) then (some (strOfNums x4, 0)) else (if 0 < (x0.size : Int) then ((nums_nibble.f k (bt x0 0)).bind fun bt148 => (if 1 < (x0.size : Int) then ((nums_nibble.f k (bt x0 1)).bind fun bt150 => (if bt148.2 = true then (if bt150.2 = true then (if x4.length < 140737488355328 then (if 2 ≤ (x0.size : Int) then (nums_Unhex.l0 k (x0.extract 2 x0.size) (x4 ++ [Go.bits .or .u8 ((bt148.1 * 16) % 256) bt150.1])) else (none)) else (none)) else (some ((⟨#[]⟩ : ByteArray), 23))) else (some ((⟨#[]⟩ : ByteArray), 23)))) else (none))) else (none))
def nums_Unhex.f (k : Nat) (a0 : ByteArray) : Option (ByteArray × Int) := if ((a0.size : Int) % 2) = 0 then (if 0 ≤ (wrap64 ((a0.size : Int) / 2)) then (if (wrap64 ((a0.size : Int) / 2) : Int).toNat ≤ 281474976710656 then (nums_Unhex.l0 k a0 (([] : List Int))) else (none)) else (none)) else (some ((⟨#[]⟩ : ByteArray), 23))
theorem nums_Unhex.mono_l : ∀ k, (∀ y0 y1, LeO (nums_Unhex.l0 k y0 y1) (nums_Unhex.l0 (k + 1) y0 y1))
  | 0 => fun _ _ r h => by simp [nums_Unhex.l0] at h
  | k + 1 => by
    have ih0 := nums_Unhex.mono_l k
    · intro y0 y1
      unfold nums_Unhex.l0
      repeat' first
      | (with_reducible exact ih0 _ _)
      | (with_reducible exact nums_nibble.mono _ _)
      | (with_reducible exact LeO.refl _)
      | (with_reducible exact LeO.none _)
      | (with_reducible refine LeO.ite ?_ ?_)
      | (with_reducible refine LeO.bind ?_ (fun _ => ?_))
      | exact ih0 _ _
      | exact nums_nibble.mono _ _
      | exact LeO.none _
      | refine LeO.ite ?_ ?_
      | refine LeO.bind ?_ (fun _ => ?_)
theorem nums_Unhex.mono : ∀ a0 k, LeO (nums_Unhex.f k a0) (nums_Unhex.f (k + 1) a0) := by
  intro a0 k
  have ih0 := nums_Unhex.mono_l k
  unfold nums_Unhex.f
  repeat' first
      | (with_reducible exact ih0 _ _)
      | (with_reducible exact nums_nibble.mono _ _)
      | (with_reducible exact LeO.refl _)
      | (with_reducible exact LeO.none _)
      | (with_reducible refine LeO.ite ?_ ?_)
      | (with_reducible refine LeO.bind ?_ (fun _ => ?_))
      | exact ih0 _ _
      | exact nums_nibble.mono _ _
      | exact LeO.none _
      | refine LeO.ite ?_ ?_
      | refine LeO.bind ?_ (fun _ => ?_)
set_option maxHeartbeats 8000000 in
set_option maxRecDepth 100000 in
theorem nums_Unhex.calls (k : Nat) (a0 : ByteArray) (r1 : ByteArray) (r2 : Int) (w : World) (h : nums_Unhex.f k a0 = some (r1, r2)) :
    Calls Tryd.prog 32 #[.string a0] w fun e w' => e = .returned (.tuple #[.string r1, .int .i64 r2]) ∧ Below w.heap.size w w' := by
  have HB := Aside0.mk (Below.refl w.heap.size w)
  have H : (if ((a0.size : Int) % 2) = 0 then (if 0 ≤ (wrap64 ((a0.size : Int) / 2)) then (if (wrap64 ((a0.size : Int) / 2) : Int).toNat ≤ 281474976710656 then (nums_Unhex.l0 k a0 (([] : List Int))) else (none)) else (none)) else (some ((⟨#[]⟩ : ByteArray), 23))) = some (r1, r2) := h
  clear h
  by_cases c2 : ((a0.size : Int) % 2) = 0
  · rw [if_pos c2] at H
    have c2b0 : (((a0.size : Int) % 2) == 0) = true := beq_iff_eq.mpr c2
    have c2b1 : (((a0.size : Int) % 2) != 0) = false := bne_eq_false_iff_eq.mpr c2
    clear c2
    obtain ⟨ji3, hji3⟩ : ∃ j_ : Int, (wrap64 ((a0.size : Int) / 2)) = j_ := ⟨_, rfl⟩
    replace H : (if 0 ≤ (ji3) then (if (ji3 : Int).toNat ≤ 281474976710656 then (nums_Unhex.l0 k a0 (([] : List Int))) else (none)) else (none)) = some (r1, r2) := by first | (rw [hji3] at H; exact H) | (simp only [hji3] at H ⊢; exact H)
    have hji3w : (IntKind.i64.wrap ((a0.size : Int) / 2)) = ji3 := (i64_w _).trans hji3
    by_cases c4 : 0 ≤ (ji3)
    · rw [if_pos c4] at H
      have c4b0 := eq_true c4
      have c4b1 : decide (0 ≤ (ji3)) = true := decide_eq_true c4
      clear c4
      by_cases c5 : (ji3 : Int).toNat ≤ 281474976710656
      · rw [if_pos c5] at H
        have c5b0 := eq_true c5
        have c5b1 : decide ((ji3 : Int).toNat ≤ 281474976710656) = true := decide_eq_true c5
        clear c5
        obtain ⟨y145, hy145⟩ : ∃ y_ : List Int, y_ = (([] : List Int)) := ⟨_, rfl⟩
        replace H : (nums_Unhex.l0 k a0 y145) = some (r1, r2) := by first | (rw [hy145]; with_reducible exact H) | (have H2_ := (Option.bind_some _ _).symm.trans H; rw [hy145]; with_reducible exact H2_) | (have H2_ := (Option.bind_some _ _).symm.trans H; with_reducible exact H2_) | with_reducible exact H | (rw [hy145]; exact H) | exact H
        have Ny145 := Aside0.mk hy145
        clear hy145
        have H' := Aside0.mk H
        clear H
        go_enter Tryd.func32, Tryd.ntmps32
        go_wp2_with (first | ((with_reducible refine gate_dst (N := 16) rfl ?_); refine Kd.R_makec (Kd.int .u8) _ 5 rfl (N := 16) rfl 44 _ _ rfl ji3 rfl rfl Tryd.underlying44 (.int .u8 0) 1 info5 rfl (by decide) (by omega) 0 (ok := fun _ => True) (okp := fun _ => True) rfl (fun _ hk => hk) trivial (of_decide_eq_true (by first | (with_reducible assumption) | assumption)) (Nat.le_trans (Nat.mul_le_mul_right _ (of_decide_eq_true (by first | (with_reducible assumption) | assumption) : ji3.toNat ≤ 281474976710656)) (by omega)) (Below.refl _ _) (Nat.le_refl _) ?_; intro v146 w6 ho7 hb hg_ hnew_; clear hg_ hnew_; (first | rw [← Ny145.out] at ho7 | (simp only [Int.reduceToNat] at ho7; rw [← Ny145.out] at ho7)); have n0_ := Aside0.mk (Kd.R_lower ho7 (below_size (by repeat (first | (with_reducible first | exact HB.out | apply below_alloc | apply pw_below_drewN | apply below_drew1) | exact HB.out)))); have n1_ := Aside0.mk (below_step (by repeat (first | (with_reducible first | exact HB.out | apply below_alloc | apply pw_below_drewN | apply below_drew1) | exact HB.out)) hb); clear HB; have HO147 := n0_; have HB := n1_; clear n0_ n1_; clear hb ho7))
        go_loopg [0, 4] k (fun kq v0 v4 w' => ∃ (x0_1 : ByteArray) (x4_1 : List Int), v0 = .string x0_1 ∧ Aside0 (nums_Unhex.l0 kq x0_1 x4_1 = some (r1, r2)) ∧ Aside0 (kq ≤ k) ∧ Aside0 (Kd.R (Kd.int .u8) 5 w' w.heap.size (fun _ => True) v4 x4_1) ∧ Aside0 (Below w.heap.size w w'))
        case atStart => exact ⟨(a0), (y145), (by first | rfl | (simp; done) | (simp [*]; done) | (simp [*, Go.Proofs.YthnjlbdkcpgcjaaDoor.Str.bne_nil]; done)), H', ⟨Nat.le_refl _⟩, ⟨by (with_reducible repeat (first | apply Kd.R_alloc | apply Kd.R_drewN | apply Kd.R_drew)); exact HO147.out⟩, ⟨by repeat (first | (with_reducible first | exact HB.out | apply below_alloc | apply pw_below_drewN | apply below_drew1) | exact HB.out)⟩⟩
        case round =>
          clear H'
          try clear c2
          try clear c2b0
          try clear c2b1
          try clear p2
          try clear c3
          try clear c4
          try clear c4b0
          try clear c4b1
          try clear c5
          try clear c5b0
          try clear c5b1
          try clear p6
          obtain ⟨x0_1, x4_1, rfl, HA, HK1, HO_4, HB⟩ := hrel
          cases gk with
          | zero => exact absurd HA.out (by simp [nums_Unhex.l0])
          | succ k1 =>
            have H := HA.out
            clear HA
            simp only [nums_Unhex.l0] at H
            by_cases c8 : x0_1.toList = ([] : List UInt8)
            · rw [if_pos c8] at H
              have c8b0 : (x0_1.toList == ([] : List UInt8)) = true := beq_iff_eq.mpr c8
              (try (have c8b8 := c8b0; simp only [List.beq_nil_eq] at c8b8))
              have c8b1 : (x0_1.toList != ([] : List UInt8)) = false := bne_eq_false_iff_eq.mpr c8
              clear c8
              simp only [Option.some.injEq, Prod.mk.injEq] at H
              obtain ⟨rfl, rfl⟩ := H
              have hcv9 := own_string (P := Tryd.prog) Tryd.underlying44 Tryd.underlying5 Tryd.underlying9 (Kd.own_of_R HO_4.out)
              go_wp2
              go_ret2
              exact ⟨by first | rfl | (simp [errW_none, errW_some] <;> rfl) | (simp only [← hji3]; first | rfl | (simp [errW_none, errW_some] <;> rfl)) | (simp [*, errW_none, errW_some] <;> rfl), by repeat (first | (with_reducible first | exact HB.out | apply below_alloc | apply pw_below_drewN | apply below_drew1) | exact HB.out)⟩
            · rw [if_neg c8] at H
              have c8b0 : (x0_1.toList == ([] : List UInt8)) = false := beq_eq_false_iff_ne.mpr c8
              (try (have c8b8 := c8b0; simp only [List.beq_nil_eq] at c8b8))
              have c8b1 : (x0_1.toList != ([] : List UInt8)) = true := bne_iff_ne.mpr c8
              by_cases c10 : 0 < (x0_1.size : Int)
              · rw [if_pos c10] at H
                have c10b0 : decide (0 < (x0_1.size : Int)) = true := decide_eq_true c10
                have c10b1 : decide (0 < x0_1.size) = true := decide_eq_true (by omega)
                clear c10
                replace H := Option.bind_eq_some_iff.mp H
                obtain ⟨⟨t148, t149⟩, A120, H⟩ := H
                replace H : (if 1 < (x0_1.size : Int) then ((nums_nibble.f k1 (bt x0_1 1)).bind fun bt150 => (if t149 = true then (if bt150.2 = true then (if x4_1.length < 140737488355328 then (if 2 ≤ (x0_1.size : Int) then (nums_Unhex.l0 k1 (x0_1.extract 2 x0_1.size) (x4_1 ++ [Go.bits .or .u8 ((t148 * 16) % 256) bt150.1])) else (none)) else (none)) else (some ((⟨#[]⟩ : ByteArray), 23))) else (some ((⟨#[]⟩ : ByteArray), 23)))) else (none)) = some (r1, r2) := H
                have A12 := Aside0.mk A120
                clear A120
                by_cases c13 : 1 < (x0_1.size : Int)
                · rw [if_pos c13] at H
                  have c13b0 : decide (1 < (x0_1.size : Int)) = true := decide_eq_true c13
                  have c13b1 : decide (1 < x0_1.size) = true := decide_eq_true (by omega)
                  clear c13
                  replace H := Option.bind_eq_some_iff.mp H
                  obtain ⟨⟨t150, t151⟩, A150, H⟩ := H
                  replace H : (if t149 = true then (if t151 = true then (if x4_1.length < 140737488355328 then (if 2 ≤ (x0_1.size : Int) then (nums_Unhex.l0 k1 (x0_1.extract 2 x0_1.size) (x4_1 ++ [Go.bits .or .u8 ((t148 * 16) % 256) t150])) else (none)) else (none)) else (some ((⟨#[]⟩ : ByteArray), 23))) else (some ((⟨#[]⟩ : ByteArray), 23))) = some (r1, r2) := H
                  have A15 := Aside0.mk A150
                  clear A150
                  by_cases c16 : t149 = true
                  · subst c16
                    have H1 : (if t151 = true then (if x4_1.length < 140737488355328 then (if 2 ≤ (x0_1.size : Int) then (nums_Unhex.l0 k1 (x0_1.extract 2 x0_1.size) (x4_1 ++ [Go.bits .or .u8 ((t148 * 16) % 256) t150])) else (none)) else (none)) else (some ((⟨#[]⟩ : ByteArray), 23))) = some (r1, r2) := by rw [if_pos rfl] at H; exact H
                    clear H
                    have H := H1
                    clear H1
                    by_cases c17 : t151 = true
                    · subst c17
                      have H1 : (if x4_1.length < 140737488355328 then (if 2 ≤ (x0_1.size : Int) then (nums_Unhex.l0 k1 (x0_1.extract 2 x0_1.size) (x4_1 ++ [Go.bits .or .u8 ((t148 * 16) % 256) t150])) else (none)) else (none)) = some (r1, r2) := by rw [if_pos rfl] at H; exact H
                      clear H
                      have H := H1
                      clear H1
                      by_cases c18 : x4_1.length < 140737488355328
                      · rw [if_pos c18] at H
                        have LMc18 := Aside0.mk c18
                        clear c18
                        obtain ⟨y152, hy152⟩ : ∃ y_ : List Int, y_ = (x4_1 ++ [Go.bits .or .u8 ((t148 * 16) % 256) t150]) := ⟨_, rfl⟩
                        replace H : (if 2 ≤ (x0_1.size : Int) then (nums_Unhex.l0 k1 (x0_1.extract 2 x0_1.size) y152) else (none)) = some (r1, r2) := by first | (rw [hy152]; with_reducible exact H) | (have H2_ := (Option.bind_some _ _).symm.trans H; rw [hy152]; with_reducible exact H2_) | (have H2_ := (Option.bind_some _ _).symm.trans H; with_reducible exact H2_) | with_reducible exact H | (rw [hy152]; exact H) | exact H
                        have Ny152 := Aside0.mk hy152
                        clear hy152
                        by_cases c19 : 2 ≤ (x0_1.size : Int)
                        · rw [if_pos c19] at H
                          have c19b0 := eq_true c19
                          have c19b1 : decide (2 ≤ (x0_1.size : Int)) = true := decide_eq_true c19
                          clear c19
                          have H' := Aside0.mk H
                          clear H
                          have p11 : 0 ≤ (0 : Int) := (by omega)
                          have q11 : 0 < x0_1.size := (by have : (0 : Int) < (x0_1.size : Int) := of_decide_eq_true (by first | (with_reducible assumption) | assumption); omega)
                          have hx11 : ∀ h : 0 < x0_1.size, ((x0_1[0]'h).toNat : Int) = bt x0_1 0 := bt_at x0_1 0
                          clear p11
                          have qi11 : (0 < (x0_1.size : Int)) = True := eq_true (of_decide_eq_true (by first | (with_reducible assumption) | assumption))
                          replace q11 := eq_true q11
                          go_wp2_with (first | ((with_reducible refine gate_callee (f := 40) rfl ?_); refine goesL_ (some 24) rfl rfl Tryd.func40 (by kernel_rfl) rfl #[.int .u8 (bt x0_1 0)] rfl (by (try simp only [List.map_toArray, List.map_cons, List.map_nil]); first | done | rfl | (simp only [List.length_drop, List.length_take]; rfl)) ?_; (with_reducible refine (nums_nibble.calls k1 (bt x0_1 0) t148 true _ A12.out).mono ?_); rintro e w' ⟨rfl, ⟨nd, rfl⟩⟩; refine ⟨_, rfl, ?_⟩; have p14 : 0 ≤ (1 : Int) := (by omega); have q14 : 1 < x0_1.size := (by have : (1 : Int) < (x0_1.size : Int) := of_decide_eq_true (by first | (with_reducible assumption) | assumption); omega); have hx14 : ∀ h : 1 < x0_1.size, ((x0_1[1]'h).toNat : Int) = bt x0_1 1 := bt_at x0_1 1; clear p14; have qi14 : (1 < (x0_1.size : Int)) = True := eq_true (of_decide_eq_true (by first | (with_reducible assumption) | assumption)); replace q14 := eq_true q14) | ((with_reducible refine gate_callee (f := 40) rfl ?_); refine goesL_ (some 30) rfl rfl Tryd.func40 (by kernel_rfl) rfl #[.int .u8 (bt x0_1 1)] rfl (by (try simp only [List.map_toArray, List.map_cons, List.map_nil]); first | done | rfl | (simp only [List.length_drop, List.length_take]; rfl)) ?_; (with_reducible refine (nums_nibble.calls k1 (bt x0_1 1) t150 true _ A15.out).mono ?_); rintro e w' ⟨rfl, ⟨nd, rfl⟩⟩; refine ⟨_, rfl, ?_⟩) | ((with_reducible refine gate_builtin (b := .append) (xs := #[.tmp 39, .tmp 44]) rfl ?_); at_builtin; refine Kd.R_append (Kd.int .u8) (w0 := w) w.heap.size rfl (.tmp 39) (.tmp 44) 44 5 (.int .u8 0) 1 rfl Tryd.underlying44 info5 rfl (by decide) (by omega) u4 x4_1 (Go.bits .or .u8 ((t148 * 16) % 256) t150) [.int .u8 (Go.bits .or .u8 ((t148 * 16) % 256) t150)] (fun _ => True) (fun _ => False) rfl rfl ?aP (fun _ hk => hk.elim) ?aF ?aO ?aB ?aS ?aL ?_; (case aP => exact rfl); (case aB => exact (by repeat (first | (with_reducible first | exact HB.out | apply below_alloc | apply pw_below_drewN | apply below_drew1) | exact HB.out))); (case aF => exact (fun _ _ => trivial)); (case aO => exact (by (with_reducible repeat (first | apply Kd.R_alloc | apply Kd.R_drewN | apply Kd.R_drew)); exact HO_4.out)); (case aS => exact (below_size (by repeat (first | (with_reducible first | exact HB.out | apply below_alloc | apply pw_below_drewN | apply below_drew1) | exact HB.out)))); (case aL => have := LMc18.out; omega); intro v153 w20 ho hb hg hat; rw [← Ny152.out] at ho; have n0_ := Aside0.mk (hb); have n1_ := Aside0.mk (ho); clear HB; clear HO_4; have HB := n0_; have HO154 := n1_; clear n0_ n1_; clear ho hb hg hat))
                          go_roundg k1
                          case measure => have := HK1.out; omega
                          case rel => exact ⟨(x0_1.extract 2 x0_1.size), (y152), (by first | rfl | (simp; done) | (simp [*]; done) | (simp [*, Go.Proofs.YthnjlbdkcpgcjaaDoor.Str.bne_nil]; done)), H', ⟨by have := HK1.out; omega⟩, ⟨by (with_reducible repeat (first | apply Kd.R_alloc | apply Kd.R_drewN | apply Kd.R_drew)); exact HO154.out⟩, ⟨by repeat (first | (with_reducible first | exact HB.out | apply below_alloc | apply pw_below_drewN | apply below_drew1) | exact HB.out)⟩⟩
                        · rw [if_neg c19] at H
                          exact absurd H (by simp)
                      · rw [if_neg c18] at H
                        exact absurd H (by simp)
                    · replace c17 := Bool.eq_false_iff.mpr c17
                      subst c17
                      have H1 : (some ((⟨#[]⟩ : ByteArray), 23)) = some (r1, r2) := by rw [if_neg (show ¬ (false = true) by decide)] at H; exact H
                      clear H
                      have H := H1
                      clear H1
                      simp only [Option.some.injEq, Prod.mk.injEq] at H
                      obtain ⟨rfl, rfl⟩ := H
                      have p11 : 0 ≤ (0 : Int) := (by omega)
                      have q11 : 0 < x0_1.size := (by have : (0 : Int) < (x0_1.size : Int) := of_decide_eq_true (by first | (with_reducible assumption) | assumption); omega)
                      have hx11 : ∀ h : 0 < x0_1.size, ((x0_1[0]'h).toNat : Int) = bt x0_1 0 := bt_at x0_1 0
                      clear p11
                      have qi11 : (0 < (x0_1.size : Int)) = True := eq_true (of_decide_eq_true (by first | (with_reducible assumption) | assumption))
                      replace q11 := eq_true q11
                      go_wp2_with (first | ((with_reducible refine gate_callee (f := 40) rfl ?_); refine goesL_ (some 24) rfl rfl Tryd.func40 (by kernel_rfl) rfl #[.int .u8 (bt x0_1 0)] rfl (by (try simp only [List.map_toArray, List.map_cons, List.map_nil]); first | done | rfl | (simp only [List.length_drop, List.length_take]; rfl)) ?_; (with_reducible refine (nums_nibble.calls k1 (bt x0_1 0) t148 true _ A12.out).mono ?_); rintro e w' ⟨rfl, ⟨nd, rfl⟩⟩; refine ⟨_, rfl, ?_⟩; have p14 : 0 ≤ (1 : Int) := (by omega); have q14 : 1 < x0_1.size := (by have : (1 : Int) < (x0_1.size : Int) := of_decide_eq_true (by first | (with_reducible assumption) | assumption); omega); have hx14 : ∀ h : 1 < x0_1.size, ((x0_1[1]'h).toNat : Int) = bt x0_1 1 := bt_at x0_1 1; clear p14; have qi14 : (1 < (x0_1.size : Int)) = True := eq_true (of_decide_eq_true (by first | (with_reducible assumption) | assumption)); replace q14 := eq_true q14) | ((with_reducible refine gate_callee (f := 40) rfl ?_); refine goesL_ (some 30) rfl rfl Tryd.func40 (by kernel_rfl) rfl #[.int .u8 (bt x0_1 1)] rfl (by (try simp only [List.map_toArray, List.map_cons, List.map_nil]); first | done | rfl | (simp only [List.length_drop, List.length_take]; rfl)) ?_; (with_reducible refine (nums_nibble.calls k1 (bt x0_1 1) t150 false _ A15.out).mono ?_); rintro e w' ⟨rfl, ⟨nd, rfl⟩⟩; refine ⟨_, rfl, ?_⟩))
                      go_ret2
                      exact ⟨by first | rfl | (simp [errW_none, errW_some] <;> rfl) | (simp only [← hji3]; first | rfl | (simp [errW_none, errW_some] <;> rfl)) | (simp [*, errW_none, errW_some] <;> rfl), by repeat (first | (with_reducible first | exact HB.out | apply below_alloc | apply pw_below_drewN | apply below_drew1) | exact HB.out)⟩
                  · replace c16 := Bool.eq_false_iff.mpr c16
                    subst c16
                    have H1 : (some ((⟨#[]⟩ : ByteArray), 23)) = some (r1, r2) := by rw [if_neg (show ¬ (false = true) by decide)] at H; exact H
                    clear H
                    have H := H1
                    clear H1
                    simp only [Option.some.injEq, Prod.mk.injEq] at H
                    obtain ⟨rfl, rfl⟩ := H
                    have p11 : 0 ≤ (0 : Int) := (by omega)
                    have q11 : 0 < x0_1.size := (by have : (0 : Int) < (x0_1.size : Int) := of_decide_eq_true (by first | (with_reducible assumption) | assumption); omega)
                    have hx11 : ∀ h : 0 < x0_1.size, ((x0_1[0]'h).toNat : Int) = bt x0_1 0 := bt_at x0_1 0
                    clear p11
                    have qi11 : (0 < (x0_1.size : Int)) = True := eq_true (of_decide_eq_true (by first | (with_reducible assumption) | assumption))
                    replace q11 := eq_true q11
                    go_wp2_with (first | ((with_reducible refine gate_callee (f := 40) rfl ?_); refine goesL_ (some 24) rfl rfl Tryd.func40 (by kernel_rfl) rfl #[.int .u8 (bt x0_1 0)] rfl (by (try simp only [List.map_toArray, List.map_cons, List.map_nil]); first | done | rfl | (simp only [List.length_drop, List.length_take]; rfl)) ?_; (with_reducible refine (nums_nibble.calls k1 (bt x0_1 0) t148 false _ A12.out).mono ?_); rintro e w' ⟨rfl, ⟨nd, rfl⟩⟩; refine ⟨_, rfl, ?_⟩; have p14 : 0 ≤ (1 : Int) := (by omega); have q14 : 1 < x0_1.size := (by have : (1 : Int) < (x0_1.size : Int) := of_decide_eq_true (by first | (with_reducible assumption) | assumption); omega); have hx14 : ∀ h : 1 < x0_1.size, ((x0_1[1]'h).toNat : Int) = bt x0_1 1 := bt_at x0_1 1; clear p14; have qi14 : (1 < (x0_1.size : Int)) = True := eq_true (of_decide_eq_true (by first | (with_reducible assumption) | assumption)); replace q14 := eq_true q14) | ((with_reducible refine gate_callee (f := 40) rfl ?_); refine goesL_ (some 30) rfl rfl Tryd.func40 (by kernel_rfl) rfl #[.int .u8 (bt x0_1 1)] rfl (by (try simp only [List.map_toArray, List.map_cons, List.map_nil]); first | done | rfl | (simp only [List.length_drop, List.length_take]; rfl)) ?_; (with_reducible refine (nums_nibble.calls k1 (bt x0_1 1) t150 t151 _ A15.out).mono ?_); rintro e w' ⟨rfl, ⟨nd, rfl⟩⟩; refine ⟨_, rfl, ?_⟩))
                    go_ret2
                    exact ⟨by first | rfl | (simp [errW_none, errW_some] <;> rfl) | (simp only [← hji3]; first | rfl | (simp [errW_none, errW_some] <;> rfl)) | (simp [*, errW_none, errW_some] <;> rfl), by repeat (first | (with_reducible first | exact HB.out | apply below_alloc | apply pw_below_drewN | apply below_drew1) | exact HB.out)⟩
                · rw [if_neg c13] at H
                  exact absurd H (by simp)
              · rw [if_neg c10] at H
                exact absurd H (by simp)
      · rw [if_neg c5] at H
        exact absurd H (by simp)
    · rw [if_neg c4] at H
      exact absurd H (by simp)
  · rw [if_neg c2] at H
    have c2b0 : (((a0.size : Int) % 2) == 0) = false := beq_eq_false_iff_ne.mpr c2
    have c2b1 : (((a0.size : Int) % 2) != 0) = true := bne_iff_ne.mpr c2
    simp only [Option.some.injEq, Prod.mk.injEq] at H
    obtain ⟨rfl, rfl⟩ := H
    go_enter Tryd.func32, Tryd.ntmps32
    go_wp2
    go_ret2
    exact ⟨by first | rfl | (simp [errW_none, errW_some] <;> rfl) | (simp [*, errW_none, errW_some] <;> rfl), by repeat (first | (with_reducible first | exact HB.out | apply below_alloc | apply pw_below_drewN | apply below_drew1) | exact HB.out)⟩

/-! ### item_after: function 24 -/
def item_after.f (k : Nat) (a0 : ByteArray) (a1 : ByteArray) : Option (ByteArray × Bool) := (strings_CutPrefix.f a0 a1).bind fun bt155 => (if bt155.2 = true then ((nums_Unhex.f k bt155.1).bind fun bt157 => (some (bt157.1, (bt157.2 == 0)))) else (some ((⟨#[]⟩ : ByteArray), false)))
theorem item_after.mono : ∀ a0 a1 k, LeO (item_after.f k a0 a1) (item_after.f (k + 1) a0 a1) := by
  intro a0 a1 k
  unfold item_after.f
  repeat' first
      | (with_reducible exact nums_Unhex.mono _ _)
      | (with_reducible exact LeO.refl _)
      | (with_reducible exact LeO.none _)
      | (with_reducible refine LeO.ite ?_ ?_)
      | (with_reducible refine LeO.bind ?_ (fun _ => ?_))
      | exact nums_Unhex.mono _ _
      | exact LeO.none _
      | refine LeO.ite ?_ ?_
      | refine LeO.bind ?_ (fun _ => ?_)
set_option maxHeartbeats 8000000 in
set_option maxRecDepth 100000 in
theorem item_after.calls (k : Nat) (a0 : ByteArray) (a1 : ByteArray) (r1 : ByteArray) (r2 : Bool) (w : World) (h : item_after.f k a0 a1 = some (r1, r2)) :
    Calls Tryd.prog 24 #[.string a0, .string a1] w fun e w' => e = .returned (.tuple #[.string r1, .bool r2]) ∧ Below w.heap.size w w' := by
  have HB := Aside0.mk (Below.refl w.heap.size w)
  have H : ((strings_CutPrefix.f a0 a1).bind fun bt155 => (if bt155.2 = true then ((nums_Unhex.f k bt155.1).bind fun bt157 => (some (bt157.1, (bt157.2 == 0)))) else (some ((⟨#[]⟩ : ByteArray), false)))) = some (r1, r2) := h
  clear h
  replace H := Option.bind_eq_some_iff.mp H
  obtain ⟨⟨t155, t156⟩, A30, H⟩ := H
  replace H : (if t156 = true then ((nums_Unhex.f k t155).bind fun bt157 => (some (bt157.1, (bt157.2 == 0)))) else (some ((⟨#[]⟩ : ByteArray), false))) = some (r1, r2) := H
  have A3 := Aside0.mk A30
  clear A30
  by_cases c4 : t156 = true
  · subst c4
    have H1 : ((nums_Unhex.f k t155).bind fun bt157 => (some (bt157.1, (bt157.2 == 0)))) = some (r1, r2) := by rw [if_pos rfl] at H; exact H
    clear H
    have H := H1
    clear H1
    replace H := Option.bind_eq_some_iff.mp H
    obtain ⟨⟨t157, t158⟩, A50, H⟩ := H
    replace H : (some (t157, (t158 == 0))) = some (r1, r2) := H
    have A5 := Aside0.mk A50
    clear A50
    simp only [Option.some.injEq, Prod.mk.injEq] at H
    obtain ⟨rfl, rfl⟩ := H
    go_enter Tryd.func24, Tryd.ntmps24
    go_wp2_with (first | ((with_reducible refine gate_callee (f := 31) rfl ?_); refine goesL_ (some 13) rfl rfl Tryd.func31 (by kernel_rfl) rfl #[.string a0, .string a1] rfl (by (try simp only [List.map_toArray, List.map_cons, List.map_nil]); first | done | rfl | (simp only [List.length_drop, List.length_take]; rfl)) ?_; (with_reducible refine (strings_CutPrefix.calls a0 a1 t155 true _ A3.out).mono ?_); rintro e w6 ⟨rfl, hb⟩; refine ⟨_, rfl, ?_⟩; have n0_ := Aside0.mk (below_step (by repeat (first | (with_reducible first | exact HB.out | apply below_alloc | apply pw_below_drewN | apply below_drew1) | exact HB.out)) hb); clear HB; have HB := n0_; clear n0_; (try clear hb); (try clear hb2); (try clear hk); (try clear hi)) | ((with_reducible refine gate_callee (f := 32) rfl ?_); refine goesL_ (some 20) rfl rfl Tryd.func32 (by kernel_rfl) rfl #[.string t155] rfl (by (try simp only [List.map_toArray, List.map_cons, List.map_nil]); first | done | rfl | (simp only [List.length_drop, List.length_take]; rfl)) ?_; (with_reducible refine (nums_Unhex.calls k t155 t157 t158 _ A5.out).mono ?_); rintro e w7 ⟨rfl, hb⟩; refine ⟨_, rfl, ?_⟩; have n0_ := Aside0.mk (below_step (by repeat (first | (with_reducible first | exact HB.out | apply below_alloc | apply pw_below_drewN | apply below_drew1) | exact HB.out)) hb); clear HB; have HB := n0_; clear n0_; (try clear hb); (try clear hb2); (try clear hk); (try clear hi)))
    go_ret2
    exact ⟨by first | rfl | (simp [errW_none, errW_some] <;> rfl) | (simp [*, errW_none, errW_some] <;> rfl), by repeat (first | (with_reducible first | exact HB.out | apply below_alloc | apply pw_below_drewN | apply below_drew1) | exact HB.out)⟩
  · replace c4 := Bool.eq_false_iff.mpr c4
    subst c4
    have H1 : (some ((⟨#[]⟩ : ByteArray), false)) = some (r1, r2) := by rw [if_neg (show ¬ (false = true) by decide)] at H; exact H
    clear H
    have H := H1
    clear H1
    simp only [Option.some.injEq, Prod.mk.injEq] at H
    obtain ⟨rfl, rfl⟩ := H
    go_enter Tryd.func24, Tryd.ntmps24
    go_wp2_with (first | ((with_reducible refine gate_callee (f := 31) rfl ?_); refine goesL_ (some 13) rfl rfl Tryd.func31 (by kernel_rfl) rfl #[.string a0, .string a1] rfl (by (try simp only [List.map_toArray, List.map_cons, List.map_nil]); first | done | rfl | (simp only [List.length_drop, List.length_take]; rfl)) ?_; (with_reducible refine (strings_CutPrefix.calls a0 a1 t155 false _ A3.out).mono ?_); rintro e w8 ⟨rfl, hb⟩; refine ⟨_, rfl, ?_⟩; have n0_ := Aside0.mk (below_step (by repeat (first | (with_reducible first | exact HB.out | apply below_alloc | apply pw_below_drewN | apply below_drew1) | exact HB.out)) hb); clear HB; have HB := n0_; clear n0_; (try clear hb); (try clear hb2); (try clear hk); (try clear hi)))
    go_ret2
    exact ⟨by first | rfl | (simp [errW_none, errW_some] <;> rfl) | (simp [*, errW_none, errW_some] <;> rfl), by repeat (first | (with_reducible first | exact HB.out | apply below_alloc | apply pw_below_drewN | apply below_drew1) | exact HB.out)⟩

end Go.Proofs.YthnjlbdkcpgcjaaDoor.PAll
