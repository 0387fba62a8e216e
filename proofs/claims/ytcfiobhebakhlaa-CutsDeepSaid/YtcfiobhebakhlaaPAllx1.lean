-- By wip/pr.py (a program of this session, over the kit's print): lines written by program. Not trusted: Lean checks them.
import Derived.Test.YtcfiobhebakhlaaPAllx0
namespace Go.Proofs.Ytcfiobhebakhlaa.PAll
open Go.RowKit Go.Proofs.YtcfiobhebakhlaaW.PrintWords Go.Proofs.YtcfiobhebakhlaaW.PrintLast Go.Proofs.YtcfiobhebakhlaaW.PrintMore
attribute [local go_sem] max2_int min2_int max_two min_two max_three min_three max_four min_four   -- for this text's walks alone
set_option linter.unusedVariables false
set_option linter.unusedSimpArgs false

/-! ### cuts_Starts: function 10 -/
mutual
def cuts_Starts.j0 : Nat → Int → Int → Bool → Option (List Int × Int)
  | 0, _, _, _ => none
  | k + 1, x0, x1, x22 => if x22 = true then (some (([] : List Int), 1)) else (if 0 ≤ x1 then (if (x1 : Int).toNat ≤ 35184372088832 then ((some (List.replicate (x1 : Int).toNat 0 : List Int)).bind fun y101 => (cuts_Starts.l0 k x0 x1 y101 (y101.length : Int) 0)) else (none)) else (none))
def cuts_Starts.l0 : Nat → Int → Int → List Int → Int → Int → Option (List Int × Int)
  | 0, _, _, _, _, _ => none
  | k + 1, x0, x1, x6, x26, x27 => if x27 < x26 then (if x1 = 0 then (none) else (if 0 ≤ x27 then (if x27 < (x6.length : Int) then (cuts_Starts.l0 k x0 x1 (x6.set (x27 : Int).toNat (wrap64 (Int.tdiv (wrap64 (x27 * x0)) x1))) x26 (wrap64 (x27 + 1))) else (none)) else (none))) else (some (x6, 0))
end
def cuts_Starts.f (k : Nat) (a0 : Int) (a1 : Int) : Option (List Int × Int) := if a0 < 1 then (cuts_Starts.j0 k a0 a1 true) else (if a0 > 256 then (cuts_Starts.j0 k a0 a1 true) else (if a1 < 1 then (cuts_Starts.j0 k a0 a1 true) else (cuts_Starts.j0 k a0 a1 (decide (a1 > a0)))))
theorem cuts_Starts.mono_l : ∀ k, (∀ y0 y1 y2, LeO (cuts_Starts.j0 k y0 y1 y2) (cuts_Starts.j0 (k + 1) y0 y1 y2)) ∧ (∀ y0 y1 y2 y3 y4, LeO (cuts_Starts.l0 k y0 y1 y2 y3 y4) (cuts_Starts.l0 (k + 1) y0 y1 y2 y3 y4))
  | 0 => ⟨fun _ _ _ r h => by simp [cuts_Starts.j0] at h, fun _ _ _ _ _ r h => by simp [cuts_Starts.l0] at h⟩
  | k + 1 => by
    obtain ⟨ih0, ih1⟩ := cuts_Starts.mono_l k
    refine ⟨?_, ?_⟩
    · intro y0 y1 y2
      unfold cuts_Starts.j0
      repeat' first
      | (with_reducible exact ih0 _ _ _)
      | (with_reducible exact ih1 _ _ _ _ _)
      | (with_reducible exact LeO.refl _)
      | (with_reducible exact LeO.none _)
      | (with_reducible refine LeO.ite ?_ ?_)
      | (with_reducible refine LeO.bind ?_ (fun _ => ?_))
      | exact ih0 _ _ _
      | exact ih1 _ _ _ _ _
      | exact LeO.none _
      | refine LeO.ite ?_ ?_
      | refine LeO.bind ?_ (fun _ => ?_)
    · intro y0 y1 y2 y3 y4
      unfold cuts_Starts.l0
      repeat' first
      | (with_reducible exact ih0 _ _ _)
      | (with_reducible exact ih1 _ _ _ _ _)
      | (with_reducible exact LeO.refl _)
      | (with_reducible exact LeO.none _)
      | (with_reducible refine LeO.ite ?_ ?_)
      | (with_reducible refine LeO.bind ?_ (fun _ => ?_))
      | exact ih0 _ _ _
      | exact ih1 _ _ _ _ _
      | exact LeO.none _
      | refine LeO.ite ?_ ?_
      | refine LeO.bind ?_ (fun _ => ?_)
theorem cuts_Starts.mono : ∀ a0 a1 k, LeO (cuts_Starts.f k a0 a1) (cuts_Starts.f (k + 1) a0 a1) := by
  intro a0 a1 k
  obtain ⟨ih0, ih1⟩ := cuts_Starts.mono_l k
  unfold cuts_Starts.f
  repeat' first
      | (with_reducible exact ih0 _ _ _)
      | (with_reducible exact ih1 _ _ _ _ _)
      | (with_reducible exact LeO.refl _)
      | (with_reducible exact LeO.none _)
      | (with_reducible refine LeO.ite ?_ ?_)
      | (with_reducible refine LeO.bind ?_ (fun _ => ?_))
      | exact ih0 _ _ _
      | exact ih1 _ _ _ _ _
      | exact LeO.none _
      | refine LeO.ite ?_ ?_
      | refine LeO.bind ?_ (fun _ => ?_)
set_option maxHeartbeats 8000000 in
set_option maxRecDepth 100000 in
theorem cuts_Starts.calls (k : Nat) (a0 : Int) (a1 : Int) (r1 : List Int) (r2 : Int) (w : World) (h : cuts_Starts.f k a0 a1 = some (r1, r2)) :
    Calls Try.prog 10 #[.int .i64 a0, .int .i64 a1] w fun e w' => ∃ v0_ : Value, e = .returned (.tuple #[v0_, .int .i64 r2]) ∧ Kd.R (Kd.int .i64) 3 w' w.heap.size (fun _ => True) v0_ r1 ∧ Below w.heap.size w w' := by
  have HB := Aside0.mk (Below.refl w.heap.size w)
  have H : (if a0 < 1 then (cuts_Starts.j0 k a0 a1 true) else (if a0 > 256 then (cuts_Starts.j0 k a0 a1 true) else (if a1 < 1 then (cuts_Starts.j0 k a0 a1 true) else (cuts_Starts.j0 k a0 a1 (decide (a1 > a0)))))) = some (r1, r2) := h
  clear h
  have HC3 := Aside0.mk H
  clear H
  go_enter Try.func10, Try.ntmps10
  go_upto_region 1 with (fail)
  go_cut [22] (fun v22 wc => ∃ (kq : Nat) (x22_2 : Bool), v22 = .bool x22_2 ∧ Aside0 (cuts_Starts.j0 kq a0 a1 x22_2 = some (r1, r2)) ∧ Aside0 (kq ≤ k) ∧ Aside0 (Below w.heap.size w wc))
  case first =>
    have H := HC3.out
    clear HC3
    by_cases c4 : a0 < 1
    · rw [if_pos c4] at H
      have c4b0 : decide (a0 < 1) = true := decide_eq_true c4
      clear c4
      (first | rw [c4b0] | (simp only [i64_w, i32_w]; rw [c4b0]) | skip)
      have H' := Aside0.mk H
      clear H
      go_wp2
      go_meet
      case rel => exact ⟨_, (true), (by first | rfl | (simp; done) | (simp [*]; done) | (simp [*, Go.Proofs.Ytcfiobhebakhlaa.Str.bne_nil]; done)), H', ⟨by first | omega | exact Nat.le_refl _⟩, ⟨by repeat (first | (with_reducible first | exact HB.out | apply below_alloc | apply pw_below_drewN | apply below_drew1) | exact HB.out)⟩⟩
    · rw [if_neg c4] at H
      have c4b0 : decide (a0 < 1) = false := decide_eq_false c4
      clear c4
      (first | rw [c4b0] | (simp only [i64_w, i32_w]; rw [c4b0]) | skip)
      by_cases c5 : a0 > 256
      · rw [if_pos c5] at H
        have c5b0 : decide (256 < a0) = true := decide_eq_true c5
        clear c5
        have H' := Aside0.mk H
        clear H
        go_wp2
        go_meet
        case rel => exact ⟨_, (true), (by first | rfl | (simp; done) | (simp [*]; done) | (simp [*, Go.Proofs.Ytcfiobhebakhlaa.Str.bne_nil]; done)), H', ⟨by first | omega | exact Nat.le_refl _⟩, ⟨by repeat (first | (with_reducible first | exact HB.out | apply below_alloc | apply pw_below_drewN | apply below_drew1) | exact HB.out)⟩⟩
      · rw [if_neg c5] at H
        have c5b0 : decide (256 < a0) = false := decide_eq_false c5
        clear c5
        by_cases c6 : a1 < 1
        · rw [if_pos c6] at H
          have c6b0 : decide (a1 < 1) = true := decide_eq_true c6
          clear c6
          have H' := Aside0.mk H
          clear H
          go_wp2
          go_meet
          case rel => exact ⟨_, (true), (by first | rfl | (simp; done) | (simp [*]; done) | (simp [*, Go.Proofs.Ytcfiobhebakhlaa.Str.bne_nil]; done)), H', ⟨by first | omega | exact Nat.le_refl _⟩, ⟨by repeat (first | (with_reducible first | exact HB.out | apply below_alloc | apply pw_below_drewN | apply below_drew1) | exact HB.out)⟩⟩
        · rw [if_neg c6] at H
          have c6b0 : decide (a1 < 1) = false := decide_eq_false c6
          clear c6
          have H' := Aside0.mk H
          clear H
          go_wp2
          go_meet
          case rel => exact ⟨_, (decide (a1 > a0)), (by first | rfl | (simp; done) | (simp [*]; done) | (simp [*, Go.Proofs.Ytcfiobhebakhlaa.Str.bne_nil]; done)), H', ⟨by first | omega | exact Nat.le_refl _⟩, ⟨by repeat (first | (with_reducible first | exact HB.out | apply below_alloc | apply pw_below_drewN | apply below_drew1) | exact HB.out)⟩⟩
  case rest =>
    clear HC3
    try clear c1
    try clear p2
    try clear c4
    try clear c4b0
    try clear c5
    try clear c5b0
    try clear c6
    try clear c6b0
    obtain ⟨kq, x22_2, rfl, HA, HJ2, HB⟩ := hcut
    cases kq with
    | zero => exact absurd HA.out (by simp [cuts_Starts.j0])
    | succ kj2 =>
      have H := HA.out
      clear HA
      simp only [cuts_Starts.j0] at H
      by_cases c7 : x22_2 = true
      · subst c7
        have H1 : (some (([] : List Int), 1)) = some (r1, r2) := by rw [if_pos rfl] at H; exact H
        clear H
        have H := H1
        clear H1
        simp only [Option.some.injEq, Prod.mk.injEq] at H
        obtain ⟨rfl, rfl⟩ := H
        go_wp2
        go_ret2
        exact ⟨_, by first | rfl | (simp [errW_none, errW_some] <;> rfl) | (simp [*, errW_none, errW_some] <;> rfl), by first | exact Kd.R_nil _ _ _ _ _ | exact Kd.N_nil _ _ _ _ _ | exact Kd.V_nil _ _ _ _ _ | exact Kd.Q_nil _ _ _ _ _ | exact Kd.S_nil _ _ _ _ _, by repeat (first | (with_reducible first | exact HB.out | apply below_alloc | apply pw_below_drewN | apply below_drew1) | exact HB.out)⟩
      · replace c7 := Bool.eq_false_iff.mpr c7
        subst c7
        have H1 : (if 0 ≤ a1 then (if (a1 : Int).toNat ≤ 35184372088832 then ((some (List.replicate (a1 : Int).toNat 0 : List Int)).bind fun y101 => (cuts_Starts.l0 kj2 a0 a1 y101 (y101.length : Int) 0)) else (none)) else (none)) = some (r1, r2) := by rw [if_neg (show ¬ (false = true) by decide)] at H; exact H
        clear H
        have H := H1
        clear H1
        by_cases c8 : 0 ≤ a1
        · rw [if_pos c8] at H
          have c8b0 := eq_true c8
          have c8b1 : decide (0 ≤ a1) = true := decide_eq_true c8
          clear c8
          by_cases c9 : (a1 : Int).toNat ≤ 35184372088832
          · rw [if_pos c9] at H
            have c9b0 := eq_true c9
            have c9b1 : decide ((a1 : Int).toNat ≤ 35184372088832) = true := decide_eq_true c9
            clear c9
            obtain ⟨y101, hy101⟩ : ∃ y_ : List Int, y_ = (List.replicate (a1 : Int).toNat 0) := ⟨_, rfl⟩
            replace H : (cuts_Starts.l0 kj2 a0 a1 y101 (y101.length : Int) 0) = some (r1, r2) := by first | (rw [hy101]; with_reducible exact H) | (have H2_ := (Option.bind_some _ _).symm.trans H; rw [hy101]; with_reducible exact H2_) | (have H2_ := (Option.bind_some _ _).symm.trans H; with_reducible exact H2_) | with_reducible exact H | (rw [hy101]; exact H) | exact H
            have Ny101 := Aside0.mk hy101
            clear hy101
            have H' := Aside0.mk H
            clear H
            go_wp2_with (first | ((with_reducible refine gate_dst (N := 24) rfl ?_); refine Kd.R_make (Kd.int .i64) _ 3 rfl (N := 24) rfl 22 _ _ rfl a1 rfl rfl Try.underlying22 (.int .i64 0) 8 info3 rfl (by decide) (by omega) 0 (ok := fun _ => True) (okp := fun _ => True) rfl (fun _ hk => hk) trivial (of_decide_eq_true (by first | (with_reducible assumption) | assumption)) (Nat.le_trans (Nat.mul_le_mul_right _ (of_decide_eq_true (by first | (with_reducible assumption) | assumption) : a1.toNat ≤ 35184372088832)) (by omega)) (Below.refl _ _) (Nat.le_refl _) ?_; intro v102 w10 ho11 hb hg_ hnew_; clear hg_ hnew_; (first | rw [← Ny101.out] at ho11 | (simp only [Int.reduceToNat] at ho11; rw [← Ny101.out] at ho11)); have n0_ := Aside0.mk (Kd.R_lower ho11 (below_size (by repeat (first | (with_reducible first | exact HB.out | apply below_alloc | apply pw_below_drewN | apply below_drew1) | exact HB.out)))); have n1_ := Aside0.mk (below_step (by repeat (first | (with_reducible first | exact HB.out | apply below_alloc | apply pw_below_drewN | apply below_drew1) | exact HB.out)) hb); clear HB; have HO103 := n0_; have HB := n1_; clear n0_ n1_; clear hb ho11; obtain ⟨Ao12, co12, eo12⟩ := Kd.R_slice HO103.out; subst eo12))
            go_loopg [27] kj2 (fun kq v27 w' => ∃ (x6_2 : List Int) (x27_2 : Int), v27 = .int .i64 x27_2 ∧ Aside0 (cuts_Starts.l0 kq a0 a1 x6_2 (y101.length : Int) x27_2 = some (r1, r2)) ∧ Aside0 (kq ≤ kj2) ∧ Aside0 (Kd.R (Kd.int .i64) 3 w' w.heap.size (fun _ => True) (.slice Ao12 y101.length co12) x6_2) ∧ Aside0 (Below w.heap.size w w'))
            case atStart => exact ⟨(y101), (0), (by first | rfl | (simp; done) | (simp [*]; done) | (simp [*, Go.Proofs.Ytcfiobhebakhlaa.Str.bne_nil]; done)), H', ⟨Nat.le_refl _⟩, ⟨by (with_reducible repeat (first | apply Kd.R_alloc | apply Kd.R_drewN | apply Kd.R_drew)); exact HO103.out⟩, ⟨by repeat (first | (with_reducible first | exact HB.out | apply below_alloc | apply pw_below_drewN | apply below_drew1) | exact HB.out)⟩⟩
            case round =>
              clear H'
              try clear c1
              try clear p2
              try clear c4
              try clear c4b0
              try clear c5
              try clear c5b0
              try clear c6
              try clear c6b0
              try clear c7
              try clear c8
              try clear c8b0
              try clear c8b1
              try clear c9
              try clear c9b0
              try clear c9b1
              try clear c10
              try clear p2
              obtain ⟨x6_2, x27_2, rfl, HA, HK2, HO_6, HB⟩ := hrel
              have hl6_2 := (Kd.R_reads' HO_6.out).1
              rw [hl6_2] at HO_6
              (try simp only [hl6_2])
              cases gk with
              | zero => exact absurd HA.out (by simp [cuts_Starts.l0])
              | succ k2 =>
                have H := HA.out
                clear HA
                simp only [cuts_Starts.l0] at H
                by_cases c13 : x27_2 < (y101.length : Int)
                · rw [if_pos c13] at H
                  have c13b0 : decide (x27_2 < (y101.length : Int)) = true := decide_eq_true c13
                  clear c13
                  (try simp only [hl6_2] at c13b0)
                  by_cases c14 : a1 = 0
                  · rw [if_pos c14] at H
                    exact absurd H (by simp)
                  · rw [if_neg c14] at H
                    have c14b0 : (a1 == 0) = false := beq_eq_false_iff_ne.mpr c14
                    have c14b1 : (a1 != 0) = true := bne_iff_ne.mpr c14
                    (try simp only [hl6_2] at c14b0)
                    (try simp only [hl6_2] at c14b1)
                    by_cases c15 : 0 ≤ x27_2
                    · rw [if_pos c15] at H
                      have c15b0 : decide (0 ≤ x27_2) = true := decide_eq_true c15
                      clear c15
                      (try simp only [hl6_2] at c15b0)
                      by_cases c16 : x27_2 < (x6_2.length : Int)
                      · rw [if_pos c16] at H
                        have c16b0 : decide (x27_2 < (x6_2.length : Int)) = true := decide_eq_true c16
                        clear c16
                        (try simp only [hl6_2] at c16b0)
                        obtain ⟨y104, hy104⟩ : ∃ y_ : List Int, y_ = (x6_2.set (x27_2 : Int).toNat (wrap64 (Int.tdiv (wrap64 (x27_2 * a0)) a1))) := ⟨_, rfl⟩
                        replace H : (cuts_Starts.l0 k2 a0 a1 y104 (y101.length : Int) (wrap64 (x27_2 + 1))) = some (r1, r2) := by first | (rw [hy104]; with_reducible exact H) | (have H2_ := (Option.bind_some _ _).symm.trans H; rw [hy104]; with_reducible exact H2_) | (have H2_ := (Option.bind_some _ _).symm.trans H; with_reducible exact H2_) | with_reducible exact H | (rw [hy104]; exact H) | exact H
                        have Ny104 := Aside0.mk hy104
                        clear hy104
                        have H' := Aside0.mk H
                        clear H
                        have p17 : 0 ≤ (x27_2 : Int) := of_decide_eq_true (by first | (with_reducible assumption) | assumption)
                        have q17 : (x27_2 : Int) < ((x6_2.length : Int) : Int) := of_decide_eq_true (by first | (with_reducible assumption) | assumption)
                        obtain ⟨go17, co17, eo17, gb17, gl17, cl17, HG17⟩ := Kd.R_form HO_6.out (by omega)
                        (first | cases eo17 | (injection eo17 with ea_ en_ ec_; (first | subst ea_ | (injection ea_ with ea_; subst ea_)); subst ec_; clear en_))
                        have GB17 := Aside0.mk gb17
                        have GG17 := Aside0.mk HG17
                        clear gb17 gl17 HG17
                        obtain ⟨hx17_0, hf17_0⟩ := Kd.R_celln 0 HO_6.out (x27_2 : Int) p17 q17
                        replace p17 := eq_true p17
                        replace q17 := eq_true q17
                        have HP18 := Kd.R_putg HO_6.out (x27_2 : Int) (wrap64 (Int.tdiv (wrap64 (x27_2 * a0)) a1))
                        go_wp2_with (first | ((with_reducible refine gate_store (t := 3) (p := 37) rfl ?_); refine store_event (t := 3) (p := 37) (v := ?vo_w19) (w1 := (wr.setCell ⟨go17, (x27_2 : Int).toNat, none⟩ (.int .i64 (wrap64 (Int.tdiv (wrap64 (x27_2 * a0)) a1))))) ?hg ?ho ?hn ?hr ?_; (case ho => rfl); (case hg => rfl); (case hn => rfl); (case hr => first | (go_simp; done) | (go_simp; rfl)); intro w19 hw; have hg : wr.grownBy w19 (some go17) := (by rw [hw]; exact HP18.2); have hp_ : Kd.R (Kd.int .i64) 3 w19 w.heap.size (fun _ => True) (.slice (some ⟨go17, 0, none⟩) x6_2.length co12) y104 := (by rw [hw, Ny104.out]; exact HP18.1); clear HP18; have n0_ := Aside0.mk (hp_); have n1_ := Aside0.mk ((by rw [hw]; exact below_set (HB.out) GB17.out : Below w.heap.size w w19)); clear HO_6; clear HB; have HO_6 := n0_; have HB := n1_; clear n0_ n1_; clear hg hw hp_))
                        (try simp only [← hl6_2])
                        go_roundg k2
                        case measure => have := HJ2.out; have := HK2.out; omega
                        case rel => exact ⟨(y104), (wrap64 (x27_2 + 1)), (by first | rfl | (simp; done) | (simp [*]; done) | (simp [*, Go.Proofs.Ytcfiobhebakhlaa.Str.bne_nil]; done)), H', ⟨by have := HJ2.out; have := HK2.out; omega⟩, ⟨by (try simp only [hl6_2]); (with_reducible repeat (first | apply Kd.R_alloc | apply Kd.R_drewN | apply Kd.R_drew)); exact HO_6.out⟩, ⟨by repeat (first | (with_reducible first | exact HB.out | apply below_alloc | apply pw_below_drewN | apply below_drew1) | exact HB.out)⟩⟩
                      · rw [if_neg c16] at H
                        exact absurd H (by simp)
                    · rw [if_neg c15] at H
                      exact absurd H (by simp)
                · rw [if_neg c13] at H
                  have c13b0 : decide (x27_2 < (y101.length : Int)) = false := decide_eq_false c13
                  clear c13
                  (try simp only [hl6_2] at c13b0)
                  simp only [Option.some.injEq, Prod.mk.injEq] at H
                  obtain ⟨rfl, rfl⟩ := H
                  go_wp2
                  go_ret2
                  exact ⟨_, by first | rfl | (simp [errW_none, errW_some] <;> rfl) | (simp [*, errW_none, errW_some] <;> rfl), by (with_reducible repeat (first | apply Kd.R_alloc | apply Kd.R_drewN | apply Kd.R_drew)); exact HO_6.out, by repeat (first | (with_reducible first | exact HB.out | apply below_alloc | apply pw_below_drewN | apply below_drew1) | exact HB.out)⟩
          · rw [if_neg c9] at H
            exact absurd H (by simp)
        · rw [if_neg c8] at H
          exact absurd H (by simp)

/-! ### tidelinelaw07_beyond: function 21 -/
def tidelinelaw07_beyond.l0 : Nat → List ByteArray → Int → Int → Option (Bool)
  | 0, _, _, _ => none
  | k + 1, x0, x5, x6 => if x6 < (x0.length : Int) then (if x5 ≤ 1073741824 then (if 0 ≤ x6 then (tidelinelaw07_beyond.l0 k x0 (wrap64 (x5 + (mn ((rdOf ByteArray.empty x0 x6).size : Int) 1073741824))) (wrap64 (x6 + 1))) else (none)) else (some (decide (x5 > 1073741824)))) else (some (decide (x5 > 1073741824)))
def tidelinelaw07_beyond.f (k : Nat) (l0 : List ByteArray) (a1_0 : ByteArray) (a1_1 : ByteArray) (a1_2 : Bool) : Option (Bool) := tidelinelaw07_beyond.l0 k l0 (wrap64 ((wrap64 ((l0.length : Int) + (mn (a1_0.size : Int) 1073741824))) + (mn (a1_1.size : Int) 1073741824))) 0
theorem tidelinelaw07_beyond.mono_l : ∀ k, (∀ y0 y1 y2, LeO (tidelinelaw07_beyond.l0 k y0 y1 y2) (tidelinelaw07_beyond.l0 (k + 1) y0 y1 y2))
  | 0 => fun _ _ _ r h => by simp [tidelinelaw07_beyond.l0] at h
  | k + 1 => by
    have ih0 := tidelinelaw07_beyond.mono_l k
    · intro y0 y1 y2
      unfold tidelinelaw07_beyond.l0
      repeat' first
      | (with_reducible exact ih0 _ _ _)
      | (with_reducible exact LeO.refl _)
      | (with_reducible exact LeO.none _)
      | (with_reducible refine LeO.ite ?_ ?_)
      | (with_reducible refine LeO.bind ?_ (fun _ => ?_))
      | exact ih0 _ _ _
      | exact LeO.none _
      | refine LeO.ite ?_ ?_
      | refine LeO.bind ?_ (fun _ => ?_)
theorem tidelinelaw07_beyond.mono : ∀ a0 a1 a2 a3 k, LeO (tidelinelaw07_beyond.f k a0 a1 a2 a3) (tidelinelaw07_beyond.f (k + 1) a0 a1 a2 a3) := by
  intro a0 a1 a2 a3 k
  have ih0 := tidelinelaw07_beyond.mono_l k
  unfold tidelinelaw07_beyond.f
  repeat' first
      | (with_reducible exact ih0 _ _ _)
      | (with_reducible exact LeO.refl _)
      | (with_reducible exact LeO.none _)
      | (with_reducible refine LeO.ite ?_ ?_)
      | (with_reducible refine LeO.bind ?_ (fun _ => ?_))
      | exact ih0 _ _ _
      | exact LeO.none _
      | refine LeO.ite ?_ ?_
      | refine LeO.bind ?_ (fun _ => ?_)
set_option maxHeartbeats 8000000 in
set_option maxRecDepth 100000 in
theorem tidelinelaw07_beyond.calls (k : Nat) (A0 : Option Addr) (c0 : Nat) (l0 : List ByteArray) (a1_0 : ByteArray) (a1_1 : ByteArray) (a1_2 : Bool) (r : Bool) (w : World) (hr0 : Kd.C Kd.string w A0 l0.length l0) (hc0 : l0.length ≤ c0) (h : tidelinelaw07_beyond.f k l0 a1_0 a1_1 a1_2 = some r) :
    Calls Try.prog 21 #[.slice A0 l0.length c0, .agg #[.string a1_0, .string a1_1, .bool a1_2]] w fun e w' => e = .returned (.bool r) ∧ Below w.heap.size w w' := by
  have hu36 := Try.underlying36
  have HR0 := Aside0.mk hr0
  have HC0 := Aside0.mk hc0
  clear hr0 hc0
  have HB := Aside0.mk (Below.refl w.heap.size w)
  have H : (tidelinelaw07_beyond.l0 k l0 (wrap64 ((wrap64 ((l0.length : Int) + (mn (a1_0.size : Int) 1073741824))) + (mn (a1_1.size : Int) 1073741824))) 0) = some r := h
  clear h
  obtain ⟨ji3, hji3⟩ : ∃ j_ : Int, (mn (a1_0.size : Int) 1073741824) = j_ := ⟨_, rfl⟩
  replace H : (tidelinelaw07_beyond.l0 k l0 (wrap64 ((wrap64 ((l0.length : Int) + (ji3))) + (mn (a1_1.size : Int) 1073741824))) 0) = some r := by first | (rw [hji3] at H; exact H) | (simp only [hji3] at H ⊢; exact H)
  (try (have hji3h : ji3 ≤ 1073741824 := by (rw [← hji3]; unfold mn; (repeat' split) <;> omega)))
  (try (have hji3g : ji3 ≤ 64 := by omega))
  (try (have hji3l : 0 ≤ ji3 := by (rw [← hji3]; unfold mn; (repeat' split) <;> omega)))
  (try (have hji3m : 0 ≤ ji3 := by omega))
  have hji3_ : (if 1073741824 < (a1_0.size : Int) then 1073741824 else (a1_0.size : Int)) = ji3 := hji3
  obtain ⟨ji4, hji4⟩ : ∃ j_ : Int, (mn (a1_1.size : Int) 1073741824) = j_ := ⟨_, rfl⟩
  replace H : (tidelinelaw07_beyond.l0 k l0 (wrap64 ((wrap64 ((l0.length : Int) + (ji3))) + (ji4))) 0) = some r := by first | (rw [hji4] at H; exact H) | (simp only [hji4] at H ⊢; exact H)
  (try (have hji4h : ji4 ≤ 1073741824 := by (rw [← hji4]; unfold mn; (repeat' split) <;> omega)))
  (try (have hji4g : ji4 ≤ 64 := by omega))
  (try (have hji4l : 0 ≤ ji4 := by (rw [← hji4]; unfold mn; (repeat' split) <;> omega)))
  (try (have hji4m : 0 ≤ ji4 := by omega))
  have hji4_ : (if 1073741824 < (a1_1.size : Int) then 1073741824 else (a1_1.size : Int)) = ji4 := hji4
  have H' := Aside0.mk H
  clear H
  go_enter Try.func21, Try.ntmps21
  go_wp2_with (first | ((with_reducible refine gate_dst (N := 3) rfl ?_); refine box_event ?hg (N := 3) ?hd (cs := #[.string a1_0, .string a1_1, .bool a1_2]) (t := 36) ?hr ?_; (case hd => rfl); (case hg => rfl); (case hr => first | (go_simp; done) | (go_simp; rfl)); intro gb105 hg w5 hbox hb; have n0_ := Aside0.mk (below_step (by repeat (first | (with_reducible first | exact HB.out | apply below_alloc | apply pw_below_drewN | apply below_drew1) | exact HB.out)) hb); have n1_ := Aside0.mk (hbox); have n2_ := Aside0.mk ((by rw [hg]; exact (below_size (by repeat (first | (with_reducible first | exact HB.out | apply below_alloc | apply pw_below_drewN | apply below_drew1) | exact HB.out))) : w.heap.size ≤ gb105)); have n3_ := Aside0.mk ((by rw [hg]; exact (below_size (by repeat (first | (with_reducible first | exact HB.out | apply below_alloc | apply pw_below_drewN | apply below_drew1) | exact HB.out))) : w.heap.size ≤ gb105)); clear HB; have HB := n0_; have BK105 := n1_; have GW105 := n2_; have GE105 := n3_; clear n0_ n1_ n2_ n3_; clear hb hbox hg; have hcz6_0 : w5.cell? ⟨gb105, 0, none⟩ = some (.string a1_0) := (blk_cell BK105.out 0).trans rfl; have hcz6_1 : w5.cell? ⟨gb105, 1, none⟩ = some (.string a1_1) := (blk_cell BK105.out 1).trans rfl; have hcz6_2 : w5.cell? ⟨gb105, 2, none⟩ = some (.bool a1_2) := (blk_cell BK105.out 2).trans rfl; have hfz6_0 := blk_frozen BK105.out 0; have hfz6_1 := blk_frozen BK105.out 1; have hfz6_2 := blk_frozen BK105.out 2))
  go_loopg [5, 6] k (fun kq v5 v6 w' => ∃ (x5_1 : Int) (x6_1 : Int), v5 = .int .i64 x5_1 ∧ v6 = .int .i64 x6_1 ∧ Aside0 (tidelinelaw07_beyond.l0 kq l0 x5_1 x6_1 = some r) ∧ Aside0 (kq ≤ k) ∧ Aside0 (w'.heap[gb105]? = some (.cells #[.string a1_0, .string a1_1, .bool a1_2] 36 (0, 0))) ∧ Aside0 (Below w.heap.size w w'))
  case atStart => exact ⟨(wrap64 ((wrap64 ((l0.length : Int) + (ji3))) + (ji4))), (0), (by first | rfl | (simp; done) | (simp only [← hji3, ← hji4] <;> (first | rfl | simp)) | (simp [*]; done) | (simp [*, Go.Proofs.Ytcfiobhebakhlaa.Str.bne_nil]; done)), (by first | rfl | (simp; done) | (simp [*]; done) | (simp [*, Go.Proofs.Ytcfiobhebakhlaa.Str.bne_nil]; done)), H', ⟨Nat.le_refl _⟩, ⟨by (with_reducible repeat (first | refine blk_drewN ?_ _ | refine blk_drew ?_ | refine blk_alloc ?_ _)); exact BK105.out⟩, ⟨by repeat (first | (with_reducible first | exact HB.out | apply below_alloc | apply pw_below_drewN | apply below_drew1 | refine below_set ?_ GE105.out) | exact HB.out)⟩⟩
  case round =>
    clear H'
    try clear c2
    try clear p2
    try clear p6
    try clear hcz6_0
    try clear hcz6_1
    try clear hcz6_2
    try clear hfz6_0
    try clear hfz6_1
    try clear hfz6_2
    obtain ⟨x5_1, x6_1, rfl, rfl, HA, HK1, BK105, HB⟩ := hrel
    cases gk with
    | zero => exact absurd HA.out (by simp [tidelinelaw07_beyond.l0])
    | succ k1 =>
      have H := HA.out
      clear HA
      simp only [tidelinelaw07_beyond.l0] at H
      by_cases c7 : x6_1 < (l0.length : Int)
      · rw [if_pos c7] at H
        have c7b0 : decide (x6_1 < (l0.length : Int)) = true := decide_eq_true c7
        clear c7
        by_cases c8 : x5_1 ≤ 1073741824
        · rw [if_pos c8] at H
          have c8b0 : decide (x5_1 ≤ 1073741824) = true := decide_eq_true c8
          clear c8
          by_cases c9 : 0 ≤ x6_1
          · rw [if_pos c9] at H
            have c9b0 : decide (0 ≤ x6_1) = true := decide_eq_true c9
            clear c9
            obtain ⟨ji10, hji10⟩ : ∃ j_ : Int, (mn ((rdOf ByteArray.empty l0 x6_1).size : Int) 1073741824) = j_ := ⟨_, rfl⟩
            replace H : (tidelinelaw07_beyond.l0 k1 l0 (wrap64 (x5_1 + (ji10))) (wrap64 (x6_1 + 1))) = some r := by first | (rw [hji10] at H; exact H) | (simp only [hji10] at H ⊢; exact H)
            have hji10_ : (if 1073741824 < ((rdOf ByteArray.empty l0 x6_1).size : Int) then 1073741824 else ((rdOf ByteArray.empty l0 x6_1).size : Int)) = ji10 := hji10
            have H' := Aside0.mk H
            clear H
            have p106 : 0 ≤ (x6_1 : Int) := of_decide_eq_true (by first | (with_reducible assumption) | assumption)
            have q106 : x6_1 < (l0.length : Int) := of_decide_eq_true (by first | (with_reducible assumption) | assumption)
            obtain ⟨ad106, e106, hx106_0⟩ := Kd.at_string HR0.out x6_1 p106 q106
            cases e106
            replace hx106_0 := (HB.out.cell (World.block_lt_of_cell? w _ hx106_0)).trans hx106_0
            replace p106 := eq_true p106
            replace q106 := eq_true q106
            go_wp2
            go_roundg k1
            case measure => have := HK1.out; omega
            case rel => exact ⟨(wrap64 (x5_1 + (ji10))), (wrap64 (x6_1 + 1)), (by first | rfl | (simp; done) | (simp only [← hji10] <;> (first | rfl | simp)) | (simp [*]; done) | (simp [*, Go.Proofs.Ytcfiobhebakhlaa.Str.bne_nil]; done)), (by first | rfl | (simp; done) | (simp [*]; done) | (simp [*, Go.Proofs.Ytcfiobhebakhlaa.Str.bne_nil]; done)), H', ⟨by have := HK1.out; omega⟩, ⟨by (with_reducible repeat (first | refine blk_drewN ?_ _ | refine blk_drew ?_ | refine blk_alloc ?_ _)); exact BK105.out⟩, ⟨by repeat (first | (with_reducible first | exact HB.out | apply below_alloc | apply pw_below_drewN | apply below_drew1 | refine below_set ?_ GE105.out) | exact HB.out)⟩⟩
          · rw [if_neg c9] at H
            exact absurd H (by simp)
        · rw [if_neg c8] at H
          have c8b0 : decide (x5_1 ≤ 1073741824) = false := decide_eq_false c8
          clear c8
          obtain rfl := Option.some.inj H
          go_wp2
          go_ret
          exact ⟨by first | rfl | (simp [errW_none, errW_some] <;> rfl) | (simp only [← hji3, ← hji4]; first | rfl | (simp [errW_none, errW_some] <;> rfl)) | (simp [*, errW_none, errW_some] <;> rfl), by repeat (first | (with_reducible first | exact HB.out | apply below_alloc | apply pw_below_drewN | apply below_drew1 | refine below_set ?_ GE105.out) | exact HB.out)⟩
      · rw [if_neg c7] at H
        have c7b0 : decide (x6_1 < (l0.length : Int)) = false := decide_eq_false c7
        clear c7
        obtain rfl := Option.some.inj H
        go_wp2
        go_ret
        exact ⟨by first | rfl | (simp [errW_none, errW_some] <;> rfl) | (simp only [← hji3, ← hji4]; first | rfl | (simp [errW_none, errW_some] <;> rfl)) | (simp [*, errW_none, errW_some] <;> rfl), by repeat (first | (with_reducible first | exact HB.out | apply below_alloc | apply pw_below_drewN | apply below_drew1 | refine below_set ?_ GE105.out) | exact HB.out)⟩

/-! ### cuts_check: function 33 -/
mutual
def cuts_check.l0 : Nat → List ByteArray → List ByteArray → Int → Int → Option (Int)
  | 0, _, _, _, _ => none
  | k + 1, x0, x6, x7, x8 => if x8 < x7 then (if 0 ≤ x8 then (if x8 < (x6.length : Int) then (if ((rdOf ByteArray.empty x6 x8).size : Int) > 16 then (some 20) else (cuts_check.l0 k x0 x6 x7 (wrap64 (x8 + 1)))) else (none)) else (none)) else (cuts_check.l1 k x0 (x0.length : Int) 0)
def cuts_check.l1 : Nat → List ByteArray → Int → Int → Option (Int)
  | 0, _, _, _ => none
  | k + 1, x0, x17, x18 => if x18 < x17 then (if x18 > 0 then (if 0 ≤ (wrap64 (x18 - 1)) then (if (wrap64 (x18 - 1)) < (x0.length : Int) then (if 0 ≤ x18 then (if x18 < (x0.length : Int) then (if ((Op.bytesLess ((rdOf ByteArray.empty x0 (wrap64 (x18 - 1))).toList) ((rdOf ByteArray.empty x0 x18).toList)) = true) then (cuts_check.l1 k x0 x17 (wrap64 (x18 + 1))) else (some 22)) else (none)) else (none)) else (none)) else (none)) else (cuts_check.l1 k x0 x17 (wrap64 (x18 + 1)))) else (some 0)
end
def cuts_check.f (k : Nat) (l0 : List ByteArray) : Option (Int) := cuts_check.l0 k l0 l0 (l0.length : Int) 0
theorem cuts_check.mono_l : ∀ k, (∀ y0 y1 y2 y3, LeO (cuts_check.l0 k y0 y1 y2 y3) (cuts_check.l0 (k + 1) y0 y1 y2 y3)) ∧ (∀ y0 y1 y2, LeO (cuts_check.l1 k y0 y1 y2) (cuts_check.l1 (k + 1) y0 y1 y2))
  | 0 => ⟨fun _ _ _ _ r h => by simp [cuts_check.l0] at h, fun _ _ _ r h => by simp [cuts_check.l1] at h⟩
  | k + 1 => by
    obtain ⟨ih0, ih1⟩ := cuts_check.mono_l k
    refine ⟨?_, ?_⟩
    · intro y0 y1 y2 y3
      unfold cuts_check.l0
      repeat' first
      | (with_reducible exact ih0 _ _ _ _)
      | (with_reducible exact ih1 _ _ _)
      | (with_reducible exact LeO.refl _)
      | (with_reducible exact LeO.none _)
      | (with_reducible refine LeO.ite ?_ ?_)
      | (with_reducible refine LeO.bind ?_ (fun _ => ?_))
      | exact ih0 _ _ _ _
      | exact ih1 _ _ _
      | exact LeO.none _
      | refine LeO.ite ?_ ?_
      | refine LeO.bind ?_ (fun _ => ?_)
    · intro y0 y1 y2
      unfold cuts_check.l1
      repeat' first
      | (with_reducible exact ih0 _ _ _ _)
      | (with_reducible exact ih1 _ _ _)
      | (with_reducible exact LeO.refl _)
      | (with_reducible exact LeO.none _)
      | (with_reducible refine LeO.ite ?_ ?_)
      | (with_reducible refine LeO.bind ?_ (fun _ => ?_))
      | exact ih0 _ _ _ _
      | exact ih1 _ _ _
      | exact LeO.none _
      | refine LeO.ite ?_ ?_
      | refine LeO.bind ?_ (fun _ => ?_)
theorem cuts_check.mono : ∀ a0 k, LeO (cuts_check.f k a0) (cuts_check.f (k + 1) a0) := by
  intro a0 k
  obtain ⟨ih0, ih1⟩ := cuts_check.mono_l k
  unfold cuts_check.f
  repeat' first
      | (with_reducible exact ih0 _ _ _ _)
      | (with_reducible exact ih1 _ _ _)
      | (with_reducible exact LeO.refl _)
      | (with_reducible exact LeO.none _)
      | (with_reducible refine LeO.ite ?_ ?_)
      | (with_reducible refine LeO.bind ?_ (fun _ => ?_))
      | exact ih0 _ _ _ _
      | exact ih1 _ _ _
      | exact LeO.none _
      | refine LeO.ite ?_ ?_
      | refine LeO.bind ?_ (fun _ => ?_)
set_option maxHeartbeats 8000000 in
set_option maxRecDepth 100000 in
theorem cuts_check.calls (k : Nat) (A0 : Option Addr) (c0 : Nat) (l0 : List ByteArray) (r : Int) (w : World) (hr0 : Kd.C Kd.string w A0 l0.length l0) (hc0 : l0.length ≤ c0) (h : cuts_check.f k l0 = some r) :
    Calls Try.prog 33 #[.slice A0 l0.length c0] w fun e w' => e = .returned (.int .i64 r) ∧ Drawn0 w w' := by
  have HR0 := Aside0.mk hr0
  have HC0 := Aside0.mk hc0
  clear hr0 hc0
  have H : (cuts_check.l0 k l0 l0 (l0.length : Int) 0) = some r := h
  clear h
  have H' := Aside0.mk H
  clear H
  go_enter Try.func33, Try.ntmps33
  go_wp2
  repeat (go_quiet (fail); try go_wp2)
  go_loopg [8] k (fun kq v8 w' => ∃ (x8_1 : Int), v8 = .int .i64 x8_1 ∧ Aside0 (cuts_check.l0 kq l0 l0 (l0.length : Int) x8_1 = some r) ∧ Aside0 (kq ≤ k) ∧ Drawn0 w w')
  case atStart => exact ⟨(0), (by first | rfl | (simp; done) | (simp [*]; done) | (simp [*, Go.Proofs.Ytcfiobhebakhlaa.Str.bne_nil]; done)), H', ⟨Nat.le_refl _⟩, by repeat (first | exact Drawn0.refl _ | apply Drawn0.step)⟩
  case round =>
    clear H'
    obtain ⟨x8_1, rfl, HA, HK1, ⟨m1, rfl⟩⟩ := hrel
    cases gk with
    | zero => exact absurd HA.out (by simp [cuts_check.l0])
    | succ k1 =>
      have H := HA.out
      clear HA
      simp only [cuts_check.l0] at H
      by_cases c2 : x8_1 < (l0.length : Int)
      · rw [if_pos c2] at H
        have c2b0 : decide (x8_1 < (l0.length : Int)) = true := decide_eq_true c2
        clear c2
        by_cases c3 : 0 ≤ x8_1
        · rw [if_pos c3] at H
          have c3b0 : decide (0 ≤ x8_1) = true := decide_eq_true c3
          clear c3
          by_cases c4 : x8_1 < (l0.length : Int)
          · rw [if_pos c4] at H
            have c4b0 : decide (x8_1 < (l0.length : Int)) = true := decide_eq_true c4
            clear c4
            by_cases c5 : ((rdOf ByteArray.empty l0 x8_1).size : Int) > 16
            · rw [if_pos c5] at H
              have c5b0 : decide (16 < ((rdOf ByteArray.empty l0 x8_1).size : Int)) = true := decide_eq_true c5
              have c5b1 : decide (16 < (rdOf ByteArray.empty l0 x8_1).size) = true := decide_eq_true (by omega)
              clear c5
              obtain rfl := Option.some.inj H
              have p107 : 0 ≤ (x8_1 : Int) := of_decide_eq_true (by first | (with_reducible assumption) | assumption)
              have q107 : x8_1 < (l0.length : Int) := of_decide_eq_true (by first | (with_reducible assumption) | assumption)
              obtain ⟨ad107, e107, hx107_0⟩ := Kd.at_string HR0.out x8_1 p107 q107
              cases e107
              replace p107 := eq_true p107
              replace q107 := eq_true q107
              go_wp2
              repeat (go_quiet (fail); try go_wp2)
              go_ret
              exact ⟨by first | rfl | (simp; done) | (simp [*]; done) | (simp [*, Go.Proofs.Ytcfiobhebakhlaa.Str.bne_nil]; done), by repeat (first | exact Drawn0.refl _ | apply Drawn0.step)⟩
            · rw [if_neg c5] at H
              have c5b0 : decide (16 < ((rdOf ByteArray.empty l0 x8_1).size : Int)) = false := decide_eq_false c5
              have c5b1 : decide (16 < (rdOf ByteArray.empty l0 x8_1).size) = false := decide_eq_false (by omega)
              clear c5
              have H' := Aside0.mk H
              clear H
              have p107 : 0 ≤ (x8_1 : Int) := of_decide_eq_true (by first | (with_reducible assumption) | assumption)
              have q107 : x8_1 < (l0.length : Int) := of_decide_eq_true (by first | (with_reducible assumption) | assumption)
              obtain ⟨ad107, e107, hx107_0⟩ := Kd.at_string HR0.out x8_1 p107 q107
              cases e107
              replace p107 := eq_true p107
              replace q107 := eq_true q107
              go_wp2
              repeat (go_quiet (fail); try go_wp2)
              go_roundg k1
              case measure => have := HK1.out; omega
              case rel => exact ⟨(wrap64 (x8_1 + 1)), (by first | rfl | (simp; done) | (simp [*]; done) | (simp [*, Go.Proofs.Ytcfiobhebakhlaa.Str.bne_nil]; done)), H', ⟨by have := HK1.out; omega⟩, by repeat (first | exact Drawn0.refl _ | apply Drawn0.step)⟩
          · rw [if_neg c4] at H
            exact absurd H (by simp)
        · rw [if_neg c3] at H
          exact absurd H (by simp)
      · rw [if_neg c2] at H
        have c2b0 : decide (x8_1 < (l0.length : Int)) = false := decide_eq_false c2
        clear c2
        have H' := Aside0.mk H
        clear H
        go_wp2
        repeat (go_quiet (fail); try go_wp2)
        go_loopg [18] k1 (fun kq v18 w' => ∃ (x18_2 : Int), v18 = .int .i64 x18_2 ∧ Aside0 (cuts_check.l1 kq l0 (l0.length : Int) x18_2 = some r) ∧ Aside0 (kq ≤ k1) ∧ Drawn0 w w')
        case atStart => exact ⟨(0), (by first | rfl | (simp; done) | (simp [*]; done) | (simp [*, Go.Proofs.Ytcfiobhebakhlaa.Str.bne_nil]; done)), H', ⟨Nat.le_refl _⟩, by repeat (first | exact Drawn0.refl _ | apply Drawn0.step)⟩
        case round =>
          clear H'
          try clear p1
          try clear q1
          try clear hx1
          try clear c2
          try clear c2b0
          try clear p2
          try clear c3
          try clear c3b0
          try clear c4
          try clear c4b0
          try clear c5
          try clear c5b0
          try clear c5b1
          try clear hx107_0
          try clear p107
          try clear q107
          obtain ⟨x18_2, rfl, HA, HK2, ⟨m2, rfl⟩⟩ := hrel
          cases gk with
          | zero => exact absurd HA.out (by simp [cuts_check.l1])
          | succ k2 =>
            have H := HA.out
            clear HA
            simp only [cuts_check.l1] at H
            by_cases c6 : x18_2 < (l0.length : Int)
            · rw [if_pos c6] at H
              have c6b0 : decide (x18_2 < (l0.length : Int)) = true := decide_eq_true c6
              clear c6
              by_cases c7 : x18_2 > 0
              · rw [if_pos c7] at H
                have c7b0 : decide (0 < x18_2) = true := decide_eq_true c7
                clear c7
                obtain ⟨ji8, hji8⟩ : ∃ j_ : Int, (wrap64 (x18_2 - 1)) = j_ := ⟨_, rfl⟩
                replace H : (if 0 ≤ (ji8) then (if (ji8) < (l0.length : Int) then (if 0 ≤ x18_2 then (if x18_2 < (l0.length : Int) then (if ((Op.bytesLess ((rdOf ByteArray.empty l0 (ji8)).toList) ((rdOf ByteArray.empty l0 x18_2).toList)) = true) then (cuts_check.l1 k2 l0 (l0.length : Int) (wrap64 (x18_2 + 1))) else (some 22)) else (none)) else (none)) else (none)) else (none)) = some r := by first | (rw [hji8] at H; exact H) | (simp only [hji8] at H ⊢; exact H)
                have hji8w : (IntKind.i64.wrap (x18_2 - 1)) = ji8 := (i64_w _).trans hji8
                by_cases c9 : 0 ≤ (ji8)
                · rw [if_pos c9] at H
                  have c9b0 : decide (0 ≤ (ji8)) = true := decide_eq_true c9
                  clear c9
                  by_cases c10 : (ji8) < (l0.length : Int)
                  · rw [if_pos c10] at H
                    have c10b0 : decide ((ji8) < (l0.length : Int)) = true := decide_eq_true c10
                    clear c10
                    by_cases c11 : 0 ≤ x18_2
                    · rw [if_pos c11] at H
                      have c11b0 : decide (0 ≤ x18_2) = true := decide_eq_true c11
                      clear c11
                      by_cases c12 : x18_2 < (l0.length : Int)
                      · rw [if_pos c12] at H
                        have c12b0 : decide (x18_2 < (l0.length : Int)) = true := decide_eq_true c12
                        clear c12
                        by_cases c13 : ((Op.bytesLess ((rdOf ByteArray.empty l0 (ji8)).toList) ((rdOf ByteArray.empty l0 x18_2).toList)) = true)
                        · rw [if_pos c13] at H
                          have c13b0 : (Op.bytesLess ((rdOf ByteArray.empty l0 (ji8)).toList) ((rdOf ByteArray.empty l0 x18_2).toList)) = true := c13
                          clear c13
                          have H' := Aside0.mk H
                          clear H
                          have p108 : 0 ≤ ((ji8) : Int) := of_decide_eq_true (by first | (with_reducible assumption) | assumption)
                          have q108 : (ji8) < (l0.length : Int) := of_decide_eq_true (by first | (with_reducible assumption) | assumption)
                          obtain ⟨ad108, e108, hx108_0⟩ := Kd.at_string HR0.out (ji8) p108 q108
                          cases e108
                          replace p108 := eq_true p108
                          replace q108 := eq_true q108
                          have p109 : 0 ≤ (x18_2 : Int) := of_decide_eq_true (by first | (with_reducible assumption) | assumption)
                          have q109 : x18_2 < (l0.length : Int) := of_decide_eq_true (by first | (with_reducible assumption) | assumption)
                          obtain ⟨ad109, e109, hx109_0⟩ := Kd.at_string HR0.out x18_2 p109 q109
                          obtain rfl : ad108 = ad109 := (by injection e109)
                          replace p109 := eq_true p109
                          replace q109 := eq_true q109
                          go_wp2
                          repeat (go_quiet (fail); try go_wp2)
                          go_roundg k2
                          case measure => have := HK1.out; have := HK2.out; omega
                          case rel => exact ⟨(wrap64 (x18_2 + 1)), (by first | rfl | (simp; done) | (simp [*]; done) | (simp [*, Go.Proofs.Ytcfiobhebakhlaa.Str.bne_nil]; done)), H', ⟨by have := HK1.out; have := HK2.out; omega⟩, by repeat (first | exact Drawn0.refl _ | apply Drawn0.step)⟩
                        · rw [if_neg c13] at H
                          have c13b0 : (Op.bytesLess ((rdOf ByteArray.empty l0 (ji8)).toList) ((rdOf ByteArray.empty l0 x18_2).toList)) = false := by simpa using c13
                          clear c13
                          obtain rfl := Option.some.inj H
                          have p108 : 0 ≤ ((ji8) : Int) := of_decide_eq_true (by first | (with_reducible assumption) | assumption)
                          have q108 : (ji8) < (l0.length : Int) := of_decide_eq_true (by first | (with_reducible assumption) | assumption)
                          obtain ⟨ad108, e108, hx108_0⟩ := Kd.at_string HR0.out (ji8) p108 q108
                          cases e108
                          replace p108 := eq_true p108
                          replace q108 := eq_true q108
                          have p109 : 0 ≤ (x18_2 : Int) := of_decide_eq_true (by first | (with_reducible assumption) | assumption)
                          have q109 : x18_2 < (l0.length : Int) := of_decide_eq_true (by first | (with_reducible assumption) | assumption)
                          obtain ⟨ad109, e109, hx109_0⟩ := Kd.at_string HR0.out x18_2 p109 q109
                          obtain rfl : ad108 = ad109 := (by injection e109)
                          replace p109 := eq_true p109
                          replace q109 := eq_true q109
                          go_wp2
                          repeat (go_quiet (fail); try go_wp2)
                          go_ret
                          exact ⟨by first | rfl | (simp; done) | (simp only [← hji8] <;> (first | rfl | simp)) | (simp [*]; done) | (simp [*, Go.Proofs.Ytcfiobhebakhlaa.Str.bne_nil]; done), by repeat (first | exact Drawn0.refl _ | apply Drawn0.step)⟩
                      · rw [if_neg c12] at H
                        exact absurd H (by simp)
                    · rw [if_neg c11] at H
                      exact absurd H (by simp)
                  · rw [if_neg c10] at H
                    exact absurd H (by simp)
                · rw [if_neg c9] at H
                  exact absurd H (by simp)
              · rw [if_neg c7] at H
                have c7b0 : decide (0 < x18_2) = false := decide_eq_false c7
                clear c7
                have H' := Aside0.mk H
                clear H
                go_wp2
                repeat (go_quiet (fail); try go_wp2)
                go_roundg k2
                case measure => have := HK1.out; have := HK2.out; omega
                case rel => exact ⟨(wrap64 (x18_2 + 1)), (by first | rfl | (simp; done) | (simp [*]; done) | (simp [*, Go.Proofs.Ytcfiobhebakhlaa.Str.bne_nil]; done)), H', ⟨by have := HK1.out; have := HK2.out; omega⟩, by repeat (first | exact Drawn0.refl _ | apply Drawn0.step)⟩
            · rw [if_neg c6] at H
              have c6b0 : decide (x18_2 < (l0.length : Int)) = false := decide_eq_false c6
              clear c6
              obtain rfl := Option.some.inj H
              go_wp2
              repeat (go_quiet (fail); try go_wp2)
              go_ret
              exact ⟨by first | rfl | (simp; done) | (simp [*]; done) | (simp [*, Go.Proofs.Ytcfiobhebakhlaa.Str.bne_nil]; done), by repeat (first | exact Drawn0.refl _ | apply Drawn0.step)⟩

/-! ### cuts_Borders: function 22 -/
def cuts_Borders.l0 : Nat → List ByteArray → List ByteArray → List Int → Int → Int → Option (List ByteArray × Int)
  | 0, _, _, _, _, _ => none
  | k + 1, x0, x9, x28, x29, x30 => if x30 < x29 then (if 0 ≤ x30 then (if x30 < (x28.length : Int) then (if 0 ≤ (rd x28 x30) then (if (rd x28 x30) < (x0.length : Int) then (if x9.length < 8796093022208 then (cuts_Borders.l0 k x0 (x9 ++ [rdOf ByteArray.empty x0 (rd x28 x30)]) x28 x29 (wrap64 (x30 + 1))) else (none)) else (none)) else (none)) else (none)) else (none)) else (some (x9, 0))
def cuts_Borders.f (k : Nat) (l0 : List ByteArray) (a1 : Int) : Option (List ByteArray × Int) := (cuts_check.f k l0).bind fun t110 => (if t110 = 0 then ((cuts_Starts.f k (l0.length : Int) a1).bind fun bt111 => (if bt111.2 = 0 then (if 1 ≤ (bt111.1.length : Int) then ((some (bt111.1.drop 1 : List Int)).bind fun y115 => (cuts_Borders.l0 k l0 ([] : List ByteArray) y115 (y115.length : Int) 0)) else (none)) else (some (([] : List ByteArray), bt111.2)))) else (some (([] : List ByteArray), t110)))
theorem cuts_Borders.mono_l : ∀ k, (∀ y0 y1 y2 y3 y4, LeO (cuts_Borders.l0 k y0 y1 y2 y3 y4) (cuts_Borders.l0 (k + 1) y0 y1 y2 y3 y4))
  | 0 => fun _ _ _ _ _ r h => by simp [cuts_Borders.l0] at h
  | k + 1 => by
    have ih0 := cuts_Borders.mono_l k
    · intro y0 y1 y2 y3 y4
      unfold cuts_Borders.l0
      repeat' first
      | (with_reducible exact ih0 _ _ _ _ _)
      | (with_reducible exact cuts_Starts.mono _ _ _)
      | (with_reducible exact cuts_check.mono _ _)
      | (with_reducible exact LeO.refl _)
      | (with_reducible exact LeO.none _)
      | (with_reducible refine LeO.ite ?_ ?_)
      | (with_reducible refine LeO.bind ?_ (fun _ => ?_))
      | exact ih0 _ _ _ _ _
      | exact cuts_Starts.mono _ _ _
      | exact cuts_check.mono _ _
      | exact LeO.none _
      | refine LeO.ite ?_ ?_
      | refine LeO.bind ?_ (fun _ => ?_)
theorem cuts_Borders.mono : ∀ a0 a1 k, LeO (cuts_Borders.f k a0 a1) (cuts_Borders.f (k + 1) a0 a1) := by
  intro a0 a1 k
  have ih0 := cuts_Borders.mono_l k
  unfold cuts_Borders.f
  repeat' first
      | (with_reducible exact ih0 _ _ _ _ _)
      | (with_reducible exact cuts_Starts.mono _ _ _)
      | (with_reducible exact cuts_check.mono _ _)
      | (with_reducible exact LeO.refl _)
      | (with_reducible exact LeO.none _)
      | (with_reducible refine LeO.ite ?_ ?_)
      | (with_reducible refine LeO.bind ?_ (fun _ => ?_))
      | exact ih0 _ _ _ _ _
      | exact cuts_Starts.mono _ _ _
      | exact cuts_check.mono _ _
      | exact LeO.none _
      | refine LeO.ite ?_ ?_
      | refine LeO.bind ?_ (fun _ => ?_)
set_option maxHeartbeats 8000000 in
set_option maxRecDepth 100000 in
theorem cuts_Borders.calls (k : Nat) (A0 : Option Addr) (c0 : Nat) (l0 : List ByteArray) (a1 : Int) (r1 : List ByteArray) (r2 : Int) (w : World) (hr0 : Kd.C Kd.string w A0 l0.length l0) (hc0 : l0.length ≤ c0) (h : cuts_Borders.f k l0 a1 = some (r1, r2)) :
    Calls Try.prog 22 #[.slice A0 l0.length c0, .int .i64 a1] w fun e w' => ∃ v0_ : Value, e = .returned (.tuple #[v0_, .int .i64 r2]) ∧ Kd.R Kd.string 9 w' w.heap.size (fun _ => True) v0_ r1 ∧ Below w.heap.size w w' := by
  have HR0 := Aside0.mk hr0
  have HC0 := Aside0.mk hc0
  clear hr0 hc0
  have HB := Aside0.mk (Below.refl w.heap.size w)
  have H : ((cuts_check.f k l0).bind fun t110 => (if t110 = 0 then ((cuts_Starts.f k (l0.length : Int) a1).bind fun bt111 => (if bt111.2 = 0 then (if 1 ≤ (bt111.1.length : Int) then ((some (bt111.1.drop 1 : List Int)).bind fun y115 => (cuts_Borders.l0 k l0 ([] : List ByteArray) y115 (y115.length : Int) 0)) else (none)) else (some (([] : List ByteArray), bt111.2)))) else (some (([] : List ByteArray), t110)))) = some (r1, r2) := h
  clear h
  replace H := Option.bind_eq_some_iff.mp H
  obtain ⟨t110, A30, H⟩ := H
  replace H : (if t110 = 0 then ((cuts_Starts.f k (l0.length : Int) a1).bind fun bt111 => (if bt111.2 = 0 then (if 1 ≤ (bt111.1.length : Int) then ((some (bt111.1.drop 1 : List Int)).bind fun y115 => (cuts_Borders.l0 k l0 ([] : List ByteArray) y115 (y115.length : Int) 0)) else (none)) else (some (([] : List ByteArray), bt111.2)))) else (some (([] : List ByteArray), t110))) = some (r1, r2) := H
  have A3 := Aside0.mk A30
  clear A30
  by_cases c4 : t110 = 0
  · rw [if_pos c4] at H
    have c4b0 : (t110 == 0) = true := beq_iff_eq.mpr c4
    have c4b1 : (t110 != 0) = false := bne_eq_false_iff_eq.mpr c4
    clear c4
    replace H := Option.bind_eq_some_iff.mp H
    obtain ⟨⟨t111, t112⟩, A50, H⟩ := H
    replace H : (if t112 = 0 then (if 1 ≤ (t111.length : Int) then ((some (t111.drop 1 : List Int)).bind fun y115 => (cuts_Borders.l0 k l0 ([] : List ByteArray) y115 (y115.length : Int) 0)) else (none)) else (some (([] : List ByteArray), t112))) = some (r1, r2) := H
    have A5 := Aside0.mk A50
    clear A50
    by_cases c6 : t112 = 0
    · rw [if_pos c6] at H
      have c6b0 : (t112 == 0) = true := beq_iff_eq.mpr c6
      have c6b1 : (t112 != 0) = false := bne_eq_false_iff_eq.mpr c6
      clear c6
      by_cases c7 : 1 ≤ (t111.length : Int)
      · rw [if_pos c7] at H
        have c7b0 := eq_true c7
        have c7b1 : decide (1 ≤ (t111.length : Int)) = true := decide_eq_true c7
        clear c7
        obtain ⟨y115, hy115⟩ : ∃ y_ : List Int, y_ = (t111.drop 1) := ⟨_, rfl⟩
        replace H : (cuts_Borders.l0 k l0 ([] : List ByteArray) y115 (y115.length : Int) 0) = some (r1, r2) := by first | (rw [hy115]; with_reducible exact H) | (have H2_ := (Option.bind_some _ _).symm.trans H; rw [hy115]; with_reducible exact H2_) | (have H2_ := (Option.bind_some _ _).symm.trans H; with_reducible exact H2_) | with_reducible exact H | (rw [hy115]; exact H) | exact H
        have Ny115 := Aside0.mk hy115
        clear hy115
        have H' := Aside0.mk H
        clear H
        go_enter Try.func22, Try.ntmps22
        go_wp2_with (first | ((with_reducible refine gate_callee (f := 33) rfl ?_); refine goesL_ (some 13) rfl rfl Try.func33 (by kernel_rfl) rfl #[.slice A0 l0.length c0] rfl (by (try simp only [List.map_toArray, List.map_cons, List.map_nil]); first | done | rfl | (simp only [List.length_drop, List.length_take]; rfl)) ?_; (with_reducible refine (cuts_check.calls k _ _ l0 t110 _ ?side1 ?side2 A3.out).mono ?_); (case side1 => repeat (first | exact HR0.out | (with_reducible refine Kd.C_alloc ?_ _) | (with_reducible refine Kd.C_drewN ?_ _) | (with_reducible refine Kd.C_drew ?_))); (case side2 => exact HC0.out); rintro e w' ⟨rfl, ⟨nd, rfl⟩⟩; refine ⟨_, rfl, ?_⟩) | ((with_reducible refine gate_callee (f := 10) rfl ?_); refine goesL_ (some 21) rfl rfl Try.func10 (by kernel_rfl) rfl #[.int .i64 (l0.length : Int), .int .i64 a1] rfl (by (try simp only [List.map_toArray, List.map_cons, List.map_nil]); first | done | rfl | (simp only [List.length_drop, List.length_take]; rfl)) ?_; (with_reducible refine (cuts_Starts.calls k (l0.length : Int) a1 t111 t112 _ A5.out).mono ?_); rintro e w8 ⟨v113, rfl, ho0, hb⟩; refine ⟨_, rfl, ?_⟩; have n0_ := Aside0.mk (Kd.R_lower ho0 (below_size (by repeat (first | (with_reducible first | exact HB.out | apply below_alloc | apply pw_below_drewN | apply below_drew1) | exact HB.out)))); have n1_ := Aside0.mk (below_step (by repeat (first | (with_reducible first | exact HB.out | apply below_alloc | apply pw_below_drewN | apply below_drew1) | exact HB.out)) hb); clear HB; have HO114 := n0_; have HB := n1_; clear n0_ n1_; (try clear hb); (try clear hb2); (try clear hk); (try clear hi); (try clear ho0); obtain ⟨Ao10, co10, eo10⟩ := Kd.R_slice HO114.out; subst eo10; have q9 : (1 : Int) ≤ ((t111.length : Int) : Int) := of_decide_eq_true (by first | (with_reducible assumption) | assumption); obtain ⟨i09, hi09, _, hsz9, _⟩ := info_parts info3; have hroom9 : t111.length ≤ co10 := (Kd.R_reads' HO114.out).2.1; have hC9 : Kd.F (Kd.int .i64) _ _ Ao10 t111.length t111 := (Kd.V_at (base := w.heap.size) (Kd.R_V HO114.out)).2.2; have hcut9 := cut_from (P := Try.prog) 22 3 .i64 Try.underlying22 hi09 1 hsz9 Ao10 t111.length co10 1 (by omega) q9; have hr9 := Kd.F_cut (m := (1 : Int).toNat) (c := co10) hC9 (by omega) hroom9; obtain ⟨A9, hA9⟩ : ∃ A1, A1 = (if co10 = (1 : Int).toNat then Ao10 else (Ao10 : Option Addr).map (·.add ((1 : Int).toNat * 1))) := ⟨_, rfl⟩; obtain ⟨c9, hc9⟩ : ∃ c1, c1 = co10 - (1 : Int).toNat := ⟨_, rfl⟩; have hy9 : y115.length = t111.length - (1 : Int).toNat := (by rw [Ny115.out, List.length_drop] <;> omega); rw [show (t111).drop (1 : Int).toNat = y115 from Ny115.out.symm] at hr9; replace hr9 : Kd.F (Kd.int .i64) _ _ A9 y115.length y115 := (by rw [hA9]; exact hr9); rw [← hy9, ← hA9, ← hc9] at hcut9; have HO119 := Aside0.mk (show Kd.V (Kd.int .i64) 3 _ w.heap.size _ (.slice A9 y115.length c9) y115 from Kd.V_mk (by rw [hy9, hc9]; exact Nat.sub_le_sub_right hroom9 _) hr9); have HC119 := Aside0.mk (show y115.length ≤ c9 from by rw [hy9, hc9]; exact Nat.sub_le_sub_right hroom9 _); clear hr9 hC9 hroom9 hi09 hsz9 hc9; have KY9 := Aside0.mk hy9; have KA9 := Aside0.mk hA9; clear hy9 hA9; replace q9 := eq_true q9))
        go_loopg [9, 30] k (fun kq v9 v30 w' => ∃ (x9_1 : List ByteArray) (x30_1 : Int), v30 = .int .i64 x30_1 ∧ Aside0 (cuts_Borders.l0 kq l0 x9_1 y115 (y115.length : Int) x30_1 = some (r1, r2)) ∧ Aside0 (kq ≤ k) ∧ Aside0 (Kd.R Kd.string 9 w' w.heap.size (fun _ => True) v9 x9_1) ∧ Aside0 (Kd.V (Kd.int .i64) 3 w' w.heap.size (fun k_ => some k_ ≠ (v9 : Value).ownBlock) (.slice A9 y115.length c9) y115) ∧ Aside0 (Below w.heap.size w w'))
        case atStart => exact ⟨(([] : List ByteArray)), (0), (by first | rfl | (simp; done) | (simp [*]; done) | (simp [*, Go.Proofs.Ytcfiobhebakhlaa.Str.bne_nil]; done)), H', ⟨Nat.le_refl _⟩, ⟨by first | exact Kd.R_nil _ _ _ _ _ | exact Kd.N_nil _ _ _ _ _ | exact Kd.V_nil _ _ _ _ _ | exact Kd.Q_nil _ _ _ _ _ | exact Kd.S_nil _ _ _ _ _⟩, ⟨by (with_reducible repeat (first | apply Kd.V_alloc | apply Kd.V_drewN | apply Kd.V_drew)); exact Kd.V_mono HO119.out (fun _ hk => (by simp [Value.ownBlock]))⟩, ⟨by repeat (first | (with_reducible first | exact HB.out | apply below_alloc | apply pw_below_drewN | apply below_drew1) | exact HB.out)⟩⟩
        case round =>
          clear H'
          try clear c1
          try clear c2
          try clear p2
          try clear c3
          try clear c4
          try clear c4b0
          try clear c4b1
          try clear c6
          try clear c6b0
          try clear c6b1
          try clear c7
          try clear c7b0
          try clear c7b1
          try clear c9
          try clear q9
          try clear c10
          try clear q9
          obtain ⟨x9_1, x30_1, rfl, HA, HK1, HO_9, HO_28, HB⟩ := hrel
          cases gk with
          | zero => exact absurd HA.out (by simp [cuts_Borders.l0])
          | succ k1 =>
            have H := HA.out
            clear HA
            simp only [cuts_Borders.l0] at H
            by_cases c11 : x30_1 < (y115.length : Int)
            · rw [if_pos c11] at H
              have c11b0 : decide (x30_1 < (y115.length : Int)) = true := decide_eq_true c11
              clear c11
              by_cases c12 : 0 ≤ x30_1
              · rw [if_pos c12] at H
                have c12b0 : decide (0 ≤ x30_1) = true := decide_eq_true c12
                clear c12
                by_cases c13 : x30_1 < (y115.length : Int)
                · rw [if_pos c13] at H
                  have c13b0 : decide (x30_1 < (y115.length : Int)) = true := decide_eq_true c13
                  clear c13
                  by_cases c14 : 0 ≤ (rd y115 x30_1)
                  · rw [if_pos c14] at H
                    have c14b0 : decide (0 ≤ (rd y115 x30_1)) = true := decide_eq_true c14
                    clear c14
                    by_cases c15 : (rd y115 x30_1) < (l0.length : Int)
                    · rw [if_pos c15] at H
                      have c15b0 : decide ((rd y115 x30_1) < (l0.length : Int)) = true := decide_eq_true c15
                      clear c15
                      by_cases c16 : x9_1.length < 8796093022208
                      · rw [if_pos c16] at H
                        have LMc16 := Aside0.mk c16
                        clear c16
                        obtain ⟨y122, hy122⟩ : ∃ y_ : List ByteArray, y_ = (x9_1 ++ [rdOf ByteArray.empty l0 (rd y115 x30_1)]) := ⟨_, rfl⟩
                        replace H : (cuts_Borders.l0 k1 l0 y122 y115 (y115.length : Int) (wrap64 (x30_1 + 1))) = some (r1, r2) := by first | (rw [hy122]; with_reducible exact H) | (have H2_ := (Option.bind_some _ _).symm.trans H; rw [hy122]; with_reducible exact H2_) | (have H2_ := (Option.bind_some _ _).symm.trans H; with_reducible exact H2_) | with_reducible exact H | (rw [hy122]; exact H) | exact H
                        have Ny122 := Aside0.mk hy122
                        clear hy122
                        have H' := Aside0.mk H
                        clear H
                        have p120 : 0 ≤ (x30_1 : Int) := of_decide_eq_true (by first | (with_reducible assumption) | assumption)
                        have q120 : x30_1 < (y115.length : Int) := of_decide_eq_true (by first | (with_reducible assumption) | assumption)
                        obtain ⟨ad120, e120, hx120_0⟩ := Kd.at_int (Kd.V_reads' HO_28.out).2.2 x30_1 p120 q120
                        cases e120
                        replace p120 := eq_true p120
                        replace q120 := eq_true q120
                        have p121 : 0 ≤ ((rd y115 x30_1) : Int) := of_decide_eq_true (by first | (with_reducible assumption) | assumption)
                        have q121 : (rd y115 x30_1) < (l0.length : Int) := of_decide_eq_true (by first | (with_reducible assumption) | assumption)
                        obtain ⟨ad121, e121, hx121_0⟩ := Kd.at_string HR0.out (rd y115 x30_1) p121 q121
                        cases e121
                        replace hx121_0 := (HB.out.cell (World.block_lt_of_cell? w _ hx121_0)).trans hx121_0
                        replace p121 := eq_true p121
                        replace q121 := eq_true q121
                        go_wp2_with (first | ((with_reducible refine gate_builtin (b := .append) (xs := #[.tmp 34, .tmp 39]) rfl ?_); at_builtin; refine Kd.R_append Kd.string (w0 := w) w.heap.size rfl (.tmp 34) (.tmp 39) 33 9 (.string ⟨#[]⟩) 16 rfl Try.underlying33 info9 rfl (by decide) (by omega) u9 x9_1 (rdOf ByteArray.empty l0 (rd y115 x30_1)) [.string (rdOf ByteArray.empty l0 (rd y115 x30_1))] (fun _ => True) (fun _ => False) rfl rfl ?aP (fun _ hk => hk.elim) ?aF ?aO ?aB ?aS ?aL ?_; (case aP => exact rfl); (case aB => exact (by repeat (first | (with_reducible first | exact HB.out | apply below_alloc | apply pw_below_drewN | apply below_drew1) | exact HB.out))); (case aF => exact (fun _ _ => trivial)); (case aO => exact (by (with_reducible repeat (first | apply Kd.R_alloc | apply Kd.R_drewN | apply Kd.R_drew)); exact HO_9.out)); (case aS => exact (below_size (by repeat (first | (with_reducible first | exact HB.out | apply below_alloc | apply pw_below_drewN | apply below_drew1) | exact HB.out)))); (case aL => have := LMc16.out; omega); intro v123 w17 ho hb hg hat; rw [← Ny122.out] at ho; have n0_ := Aside0.mk (Kd.V_afterv (ok := (fun _ => True)) (by (with_reducible repeat (first | apply Kd.V_alloc | apply Kd.V_drewN | apply Kd.V_drew)); exact Kd.V_mono HO_28.out (fun _ hk => ⟨trivial, hk⟩)) hg hat); have n1_ := Aside0.mk (hb); have n2_ := Aside0.mk (ho); clear HO_28; clear HB; clear HO_9; have HO_28 := n0_; have HB := n1_; have HO124 := n2_; clear n0_ n1_ n2_; clear ho hb hg hat))
                        go_roundg k1
                        case measure => have := HK1.out; omega
                        case rel => exact ⟨(y122), (wrap64 (x30_1 + 1)), (by first | rfl | (simp; done) | (simp [*]; done) | (simp [*, Go.Proofs.Ytcfiobhebakhlaa.Str.bne_nil]; done)), H', ⟨by have := HK1.out; omega⟩, ⟨by (with_reducible repeat (first | apply Kd.R_alloc | apply Kd.R_drewN | apply Kd.R_drew)); exact HO124.out⟩, ⟨by (with_reducible repeat (first | apply Kd.V_alloc | apply Kd.V_drewN | apply Kd.V_drew)); exact Kd.V_mono HO_28.out (fun _ hk => hk.2)⟩, ⟨by repeat (first | (with_reducible first | exact HB.out | apply below_alloc | apply pw_below_drewN | apply below_drew1) | exact HB.out)⟩⟩
                      · rw [if_neg c16] at H
                        exact absurd H (by simp)
                    · rw [if_neg c15] at H
                      exact absurd H (by simp)
                  · rw [if_neg c14] at H
                    exact absurd H (by simp)
                · rw [if_neg c13] at H
                  exact absurd H (by simp)
              · rw [if_neg c12] at H
                exact absurd H (by simp)
            · rw [if_neg c11] at H
              have c11b0 : decide (x30_1 < (y115.length : Int)) = false := decide_eq_false c11
              clear c11
              simp only [Option.some.injEq, Prod.mk.injEq] at H
              obtain ⟨rfl, rfl⟩ := H
              go_wp2
              go_ret2
              exact ⟨_, by first | rfl | (simp [errW_none, errW_some] <;> rfl) | (simp [*, errW_none, errW_some] <;> rfl), by (with_reducible repeat (first | apply Kd.R_alloc | apply Kd.R_drewN | apply Kd.R_drew)); exact HO_9.out, by repeat (first | (with_reducible first | exact HB.out | apply below_alloc | apply pw_below_drewN | apply below_drew1) | exact HB.out)⟩
      · rw [if_neg c7] at H
        exact absurd H (by simp)
    · rw [if_neg c6] at H
      have c6b0 : (t112 == 0) = false := beq_eq_false_iff_ne.mpr c6
      have c6b1 : (t112 != 0) = true := bne_iff_ne.mpr c6
      simp only [Option.some.injEq, Prod.mk.injEq] at H
      obtain ⟨rfl, rfl⟩ := H
      go_enter Try.func22, Try.ntmps22
      go_wp2_with (first | ((with_reducible refine gate_callee (f := 33) rfl ?_); refine goesL_ (some 13) rfl rfl Try.func33 (by kernel_rfl) rfl #[.slice A0 l0.length c0] rfl (by (try simp only [List.map_toArray, List.map_cons, List.map_nil]); first | done | rfl | (simp only [List.length_drop, List.length_take]; rfl)) ?_; (with_reducible refine (cuts_check.calls k _ _ l0 t110 _ ?side1 ?side2 A3.out).mono ?_); (case side1 => repeat (first | exact HR0.out | (with_reducible refine Kd.C_alloc ?_ _) | (with_reducible refine Kd.C_drewN ?_ _) | (with_reducible refine Kd.C_drew ?_))); (case side2 => exact HC0.out); rintro e w' ⟨rfl, ⟨nd, rfl⟩⟩; refine ⟨_, rfl, ?_⟩) | ((with_reducible refine gate_callee (f := 10) rfl ?_); refine goesL_ (some 21) rfl rfl Try.func10 (by kernel_rfl) rfl #[.int .i64 (l0.length : Int), .int .i64 a1] rfl (by (try simp only [List.map_toArray, List.map_cons, List.map_nil]); first | done | rfl | (simp only [List.length_drop, List.length_take]; rfl)) ?_; (with_reducible refine (cuts_Starts.calls k (l0.length : Int) a1 t111 t112 _ A5.out).mono ?_); rintro e w18 ⟨v113, rfl, ho0, hb⟩; refine ⟨_, rfl, ?_⟩; have n0_ := Aside0.mk (Kd.R_lower ho0 (below_size (by repeat (first | (with_reducible first | exact HB.out | apply below_alloc | apply pw_below_drewN | apply below_drew1) | exact HB.out)))); have n1_ := Aside0.mk (below_step (by repeat (first | (with_reducible first | exact HB.out | apply below_alloc | apply pw_below_drewN | apply below_drew1) | exact HB.out)) hb); clear HB; have HO114 := n0_; have HB := n1_; clear n0_ n1_; (try clear hb); (try clear hb2); (try clear hk); (try clear hi); (try clear ho0)))
      go_ret2
      exact ⟨_, by first | rfl | (simp [errW_none, errW_some] <;> rfl) | (simp [*, errW_none, errW_some] <;> rfl), by first | exact Kd.R_nil _ _ _ _ _ | exact Kd.N_nil _ _ _ _ _ | exact Kd.V_nil _ _ _ _ _ | exact Kd.Q_nil _ _ _ _ _ | exact Kd.S_nil _ _ _ _ _, by repeat (first | (with_reducible first | exact HB.out | apply below_alloc | apply pw_below_drewN | apply below_drew1) | exact HB.out)⟩
  · rw [if_neg c4] at H
    have c4b0 : (t110 == 0) = false := beq_eq_false_iff_ne.mpr c4
    have c4b1 : (t110 != 0) = true := bne_iff_ne.mpr c4
    simp only [Option.some.injEq, Prod.mk.injEq] at H
    obtain ⟨rfl, rfl⟩ := H
    go_enter Try.func22, Try.ntmps22
    go_wp2_with (first | ((with_reducible refine gate_callee (f := 33) rfl ?_); refine goesL_ (some 13) rfl rfl Try.func33 (by kernel_rfl) rfl #[.slice A0 l0.length c0] rfl (by (try simp only [List.map_toArray, List.map_cons, List.map_nil]); first | done | rfl | (simp only [List.length_drop, List.length_take]; rfl)) ?_; (with_reducible refine (cuts_check.calls k _ _ l0 t110 _ ?side1 ?side2 A3.out).mono ?_); (case side1 => repeat (first | exact HR0.out | (with_reducible refine Kd.C_alloc ?_ _) | (with_reducible refine Kd.C_drewN ?_ _) | (with_reducible refine Kd.C_drew ?_))); (case side2 => exact HC0.out); rintro e w' ⟨rfl, ⟨nd, rfl⟩⟩; refine ⟨_, rfl, ?_⟩))
    go_ret2
    exact ⟨_, by first | rfl | (simp [errW_none, errW_some] <;> rfl) | (simp [*, errW_none, errW_some] <;> rfl), by first | exact Kd.R_nil _ _ _ _ _ | exact Kd.N_nil _ _ _ _ _ | exact Kd.V_nil _ _ _ _ _ | exact Kd.Q_nil _ _ _ _ _ | exact Kd.S_nil _ _ _ _ _, by repeat (first | (with_reducible first | exact HB.out | apply below_alloc | apply pw_below_drewN | apply below_drew1) | exact HB.out)⟩

end Go.Proofs.Ytcfiobhebakhlaa.PAll
