-- By wip/pr.py (a program of this session, over the kit's print): lines written by program. Not trusted: Lean checks them.
import Derived.Test.YtcfiobhebakhlaaPAllx0
namespace Go.Proofs.Ytcfiobhebakhlaa.PAll
open Go.RowKit Go.Proofs.YtcfiobhebakhlaaW.PrintWords Go.Proofs.YtcfiobhebakhlaaW.PrintLast Go.Proofs.YtcfiobhebakhlaaW.PrintMore
attribute [local go_sem] max2_int min2_int max_two min_two max_three min_three max_four min_four   -- for this text's walks alone
set_option linter.unusedVariables false
set_option linter.unusedSimpArgs false

/-! ### tidelinelaw07_beyond: function 21 -/
def tidelinelaw07_beyond.l0 : Nat → List ByteArray → Int → Int → Option (Bool)
  | 0, _, _, _ => none
  | k + 1, x0, x5, x6 => if x6 < (x0.length : Int) then (if x5 ≤ 1073741824 then (if 0 ≤ x6 then (tidelinelaw07_beyond.l0 k x0 (wrap64 (x5 + (mn ((rdOf ByteArray.empty x0 x6).size : Int) 1073741824))) (wrap64 (x6 + 1))) else (none)) else (some (decide (x5 > 1073741824)))) else (some (decide (x5 > 1073741824)))
def tidelinelaw07_beyond.f (k : Nat) (l0 : List ByteArray) (a1_0 : ByteArray) (a1_1 : ByteArray) (a1_2 : Bool) : Option (Bool) := tidelinelaw07_beyond.l0 k l0 (wrap64 ((wrap64 ((l0.length : Int) + (mn (a1_0.size : Int) 1073741824))) + (mn (a1_1.size : Int) 1073741824))) 0
theorem tidelinelaw07_beyond.mono_l : ∀ k, (∀ y0 y1 y2, LeO (tidelinelaw07_beyond.l0 k y0 y1 y2) (tidelinelaw07_beyond.l0 (k + 1) y0 y1 y2))
  | 0 => fun _ _ _ r h => by simp [tidelinelaw07_beyond.l0] at h
  | k + 1 => by
    have ih0 := tidelinelaw07_beyond.mono_l k
    · intro y0 y1 y2
      unfold tidelinelaw07_beyond.l0
      repeat' first
      | (with_reducible exact ih0 _ _ _)
      | (with_reducible exact LeO.refl _)
      | (with_reducible exact LeO.none _)
      | (with_reducible refine LeO.ite ?_ ?_)
      | (with_reducible refine LeO.bind ?_ (fun _ => ?_))
      | exact ih0 _ _ _
      | exact LeO.none _
      | refine LeO.ite ?_ ?_
      | refine LeO.bind ?_ (fun _ => ?_)
theorem tidelinelaw07_beyond.mono : ∀ a0 a1 a2 a3 k, LeO (tidelinelaw07_beyond.f k a0 a1 a2 a3) (tidelinelaw07_beyond.f (k + 1) a0 a1 a2 a3) := by
  intro a0 a1 a2 a3 k
  have ih0 := tidelinelaw07_beyond.mono_l k
  unfold tidelinelaw07_beyond.f
  repeat' first
      | (with_reducible exact ih0 _ _ _)
      | (with_reducible exact LeO.refl _)
      | (with_reducible exact LeO.none _)
      | (with_reducible refine LeO.ite ?_ ?_)
      | (with_reducible refine LeO.bind ?_ (fun _ => ?_))
      | exact ih0 _ _ _
      | exact LeO.none _
      | refine LeO.ite ?_ ?_
      | refine LeO.bind ?_ (fun _ => ?_)
set_option maxHeartbeats 8000000 in
set_option maxRecDepth 100000 in
theorem tidelinelaw07_beyond.calls (k : Nat) (A0 : Option Addr) (c0 : Nat) (l0 : List ByteArray) (a1_0 : ByteArray) (a1_1 : ByteArray) (a1_2 : Bool) (r : Bool) (w : World) (hr0 : Kd.C Kd.string w A0 l0.length l0) (hc0 : l0.length ≤ c0) (h : tidelinelaw07_beyond.f k l0 a1_0 a1_1 a1_2 = some r) :
    Calls Try.prog 21 #[.slice A0 l0.length c0, .agg #[.string a1_0, .string a1_1, .bool a1_2]] w fun e w' => e = .returned (.bool r) ∧ Below w.heap.size w w' := by
  have hu36 := Try.underlying36
  have HR0 := Aside0.mk hr0
  have HC0 := Aside0.mk hc0
  clear hr0 hc0
  have HB := Aside0.mk (Below.refl w.heap.size w)
  have H : (tidelinelaw07_beyond.l0 k l0 (wrap64 ((wrap64 ((l0.length : Int) + (mn (a1_0.size : Int) 1073741824))) + (mn (a1_1.size : Int) 1073741824))) 0) = some r := h
  clear h
  obtain ⟨ji3, hji3⟩ : ∃ j_ : Int, (mn (a1_0.size : Int) 1073741824) = j_ := ⟨_, rfl⟩
  replace H : (tidelinelaw07_beyond.l0 k l0 (wrap64 ((wrap64 ((l0.length : Int) + (ji3))) + (mn (a1_1.size : Int) 1073741824))) 0) = some r := by first | (rw [hji3] at H; exact H) | (simp only [hji3] at H ⊢; exact H)
  (try (have hji3h : ji3 ≤ 1073741824 := by (rw [← hji3]; unfold mn; (repeat' split) <;> omega)))
  (try (have hji3g : ji3 ≤ 64 := by omega))
  (try (have hji3l : 0 ≤ ji3 := by (rw [← hji3]; unfold mn; (repeat' split) <;> omega)))
  (try (have hji3m : 0 ≤ ji3 := by omega))
  have hji3_ : (if 1073741824 < (a1_0.size : Int) then 1073741824 else (a1_0.size : Int)) = ji3 := hji3
  obtain ⟨ji4, hji4⟩ : ∃ j_ : Int, (mn (a1_1.size : Int) 1073741824) = j_ := ⟨_, rfl⟩
  replace H : (tidelinelaw07_beyond.l0 k l0 (wrap64 ((wrap64 ((l0.length : Int) + (ji3))) + (ji4))) 0) = some r := by first | (rw [hji4] at H; exact H) | (simp only [hji4] at H ⊢; exact H)
  (try (have hji4h : ji4 ≤ 1073741824 := by (rw [← hji4]; unfold mn; (repeat' split) <;> omega)))
  (try (have hji4g : ji4 ≤ 64 := by omega))
  (try (have hji4l : 0 ≤ ji4 := by (rw [← hji4]; unfold mn; (repeat' split) <;> omega)))
  (try (have hji4m : 0 ≤ ji4 := by omega))
  have hji4_ : (if 1073741824 < (a1_1.size : Int) then 1073741824 else (a1_1.size : Int)) = ji4 := hji4
  have H' := Aside0.mk H
  clear H
  go_enter Try.func21, Try.ntmps21
  go_wp2_with (first | ((with_reducible refine gate_dst (N := 3) rfl ?_); refine box_event ?hg (N := 3) ?hd (cs := #[.string a1_0, .string a1_1, .bool a1_2]) (t := 36) ?hr ?_; (case hd => rfl); (case hg => rfl); (case hr => first | (go_simp; done) | (go_simp; rfl)); intro gb167 hg w5 hbox hb; have n0_ := Aside0.mk (below_step (by repeat (first | (with_reducible first | exact HB.out | apply below_alloc | apply pw_below_drewN | apply below_drew1) | exact HB.out)) hb); have n1_ := Aside0.mk (hbox); have n2_ := Aside0.mk ((by rw [hg]; exact (below_size (by repeat (first | (with_reducible first | exact HB.out | apply below_alloc | apply pw_below_drewN | apply below_drew1) | exact HB.out))) : w.heap.size ≤ gb167)); have n3_ := Aside0.mk ((by rw [hg]; exact (below_size (by repeat (first | (with_reducible first | exact HB.out | apply below_alloc | apply pw_below_drewN | apply below_drew1) | exact HB.out))) : w.heap.size ≤ gb167)); clear HB; have HB := n0_; have BK167 := n1_; have GW167 := n2_; have GE167 := n3_; clear n0_ n1_ n2_ n3_; clear hb hbox hg; have hcz6_0 : w5.cell? ⟨gb167, 0, none⟩ = some (.string a1_0) := (blk_cell BK167.out 0).trans rfl; have hcz6_1 : w5.cell? ⟨gb167, 1, none⟩ = some (.string a1_1) := (blk_cell BK167.out 1).trans rfl; have hcz6_2 : w5.cell? ⟨gb167, 2, none⟩ = some (.bool a1_2) := (blk_cell BK167.out 2).trans rfl; have hfz6_0 := blk_frozen BK167.out 0; have hfz6_1 := blk_frozen BK167.out 1; have hfz6_2 := blk_frozen BK167.out 2))
  go_loopg [5, 6] k (fun kq v5 v6 w' => ∃ (x5_1 : Int) (x6_1 : Int), v5 = .int .i64 x5_1 ∧ v6 = .int .i64 x6_1 ∧ Aside0 (tidelinelaw07_beyond.l0 kq l0 x5_1 x6_1 = some r) ∧ Aside0 (kq ≤ k) ∧ Aside0 (w'.heap[gb167]? = some (.cells #[.string a1_0, .string a1_1, .bool a1_2] 36 (0, 0))) ∧ Aside0 (Below w.heap.size w w'))
  case atStart => exact ⟨(wrap64 ((wrap64 ((l0.length : Int) + (ji3))) + (ji4))), (0), (by first | rfl | (simp; done) | (simp only [← hji3, ← hji4] <;> (first | rfl | simp)) | (simp [*]; done) | (simp [*, Go.Proofs.Ytcfiobhebakhlaa.Str.bne_nil]; done)), (by first | rfl | (simp; done) | (simp [*]; done) | (simp [*, Go.Proofs.Ytcfiobhebakhlaa.Str.bne_nil]; done)), H', ⟨Nat.le_refl _⟩, ⟨by (with_reducible repeat (first | refine blk_drewN ?_ _ | refine blk_drew ?_ | refine blk_alloc ?_ _)); exact BK167.out⟩, ⟨by repeat (first | (with_reducible first | exact HB.out | apply below_alloc | apply pw_below_drewN | apply below_drew1 | refine below_set ?_ GE167.out) | exact HB.out)⟩⟩
  case round =>
    clear H'
    try clear c2
    try clear p2
    try clear p6
    try clear hcz6_0
    try clear hcz6_1
    try clear hcz6_2
    try clear hfz6_0
    try clear hfz6_1
    try clear hfz6_2
    obtain ⟨x5_1, x6_1, rfl, rfl, HA, HK1, BK167, HB⟩ := hrel
    cases gk with
    | zero => exact absurd HA.out (by simp [tidelinelaw07_beyond.l0])
    | succ k1 =>
      have H := HA.out
      clear HA
      simp only [tidelinelaw07_beyond.l0] at H
      by_cases c7 : x6_1 < (l0.length : Int)
      · rw [if_pos c7] at H
        have c7b0 : decide (x6_1 < (l0.length : Int)) = true := decide_eq_true c7
        clear c7
        by_cases c8 : x5_1 ≤ 1073741824
        · rw [if_pos c8] at H
          have c8b0 : decide (x5_1 ≤ 1073741824) = true := decide_eq_true c8
          clear c8
          by_cases c9 : 0 ≤ x6_1
          · rw [if_pos c9] at H
            have c9b0 : decide (0 ≤ x6_1) = true := decide_eq_true c9
            clear c9
            obtain ⟨ji10, hji10⟩ : ∃ j_ : Int, (mn ((rdOf ByteArray.empty l0 x6_1).size : Int) 1073741824) = j_ := ⟨_, rfl⟩
            replace H : (tidelinelaw07_beyond.l0 k1 l0 (wrap64 (x5_1 + (ji10))) (wrap64 (x6_1 + 1))) = some r := by first | (rw [hji10] at H; exact H) | (simp only [hji10] at H ⊢; exact H)
            have hji10_ : (if 1073741824 < ((rdOf ByteArray.empty l0 x6_1).size : Int) then 1073741824 else ((rdOf ByteArray.empty l0 x6_1).size : Int)) = ji10 := hji10
            have H' := Aside0.mk H
            clear H
            have p168 : 0 ≤ (x6_1 : Int) := of_decide_eq_true (by first | (with_reducible assumption) | assumption)
            have q168 : x6_1 < (l0.length : Int) := of_decide_eq_true (by first | (with_reducible assumption) | assumption)
            obtain ⟨ad168, e168, hx168_0⟩ := Kd.at_string HR0.out x6_1 p168 q168
            cases e168
            replace hx168_0 := (HB.out.cell (World.block_lt_of_cell? w _ hx168_0)).trans hx168_0
            replace p168 := eq_true p168
            replace q168 := eq_true q168
            go_wp2
            go_roundg k1
            case measure => have := HK1.out; omega
            case rel => exact ⟨(wrap64 (x5_1 + (ji10))), (wrap64 (x6_1 + 1)), (by first | rfl | (simp; done) | (simp only [← hji10] <;> (first | rfl | simp)) | (simp [*]; done) | (simp [*, Go.Proofs.Ytcfiobhebakhlaa.Str.bne_nil]; done)), (by first | rfl | (simp; done) | (simp [*]; done) | (simp [*, Go.Proofs.Ytcfiobhebakhlaa.Str.bne_nil]; done)), H', ⟨by have := HK1.out; omega⟩, ⟨by (with_reducible repeat (first | refine blk_drewN ?_ _ | refine blk_drew ?_ | refine blk_alloc ?_ _)); exact BK167.out⟩, ⟨by repeat (first | (with_reducible first | exact HB.out | apply below_alloc | apply pw_below_drewN | apply below_drew1 | refine below_set ?_ GE167.out) | exact HB.out)⟩⟩
          · rw [if_neg c9] at H
            exact absurd H (by simp)
        · rw [if_neg c8] at H
          have c8b0 : decide (x5_1 ≤ 1073741824) = false := decide_eq_false c8
          clear c8
          obtain rfl := Option.some.inj H
          go_wp2
          go_ret
          exact ⟨by first | rfl | (simp [errW_none, errW_some] <;> rfl) | (simp only [← hji3, ← hji4]; first | rfl | (simp [errW_none, errW_some] <;> rfl)) | (simp [*, errW_none, errW_some] <;> rfl), by repeat (first | (with_reducible first | exact HB.out | apply below_alloc | apply pw_below_drewN | apply below_drew1 | refine below_set ?_ GE167.out) | exact HB.out)⟩
      · rw [if_neg c7] at H
        have c7b0 : decide (x6_1 < (l0.length : Int)) = false := decide_eq_false c7
        clear c7
        obtain rfl := Option.some.inj H
        go_wp2
        go_ret
        exact ⟨by first | rfl | (simp [errW_none, errW_some] <;> rfl) | (simp only [← hji3, ← hji4]; first | rfl | (simp [errW_none, errW_some] <;> rfl)) | (simp [*, errW_none, errW_some] <;> rfl), by repeat (first | (with_reducible first | exact HB.out | apply below_alloc | apply pw_below_drewN | apply below_drew1 | refine below_set ?_ GE167.out) | exact HB.out)⟩

/-! ### cuts_check: function 33 -/
mutual
def cuts_check.l0 : Nat → List ByteArray → List ByteArray → Int → Int → Option (Int)
  | 0, _, _, _, _ => none
  | k + 1, x0, x6, x7, x8 => if x8 < x7 then (if 0 ≤ x8 then (if x8 < (x6.length : Int) then (if ((rdOf ByteArray.empty x6 x8).size : Int) > 16 then (some 20) else (cuts_check.l0 k x0 x6 x7 (wrap64 (x8 + 1)))) else (none)) else (none)) else (cuts_check.l1 k x0 (x0.length : Int) 0)
def cuts_check.l1 : Nat → List ByteArray → Int → Int → Option (Int)
  | 0, _, _, _ => none
  | k + 1, x0, x17, x18 => if x18 < x17 then (if x18 > 0 then (if 0 ≤ (wrap64 (x18 - 1)) then (if (wrap64 (x18 - 1)) < (x0.length : Int) then (if 0 ≤ x18 then (if x18 < (x0.length : Int) then (if ((Op.bytesLess ((rdOf ByteArray.empty x0 (wrap64 (x18 - 1))).toList) ((rdOf ByteArray.empty x0 x18).toList)) = true) then (cuts_check.l1 k x0 x17 (wrap64 (x18 + 1))) else (some 22)) else (none)) else (none)) else (none)) else (none)) else (cuts_check.l1 k x0 x17 (wrap64 (x18 + 1)))) else (some 0)
end
def cuts_check.f (k : Nat) (l0 : List ByteArray) : Option (Int) := cuts_check.l0 k l0 l0 (l0.length : Int) 0
theorem cuts_check.mono_l : ∀ k, (∀ y0 y1 y2 y3, LeO (cuts_check.l0 k y0 y1 y2 y3) (cuts_check.l0 (k + 1) y0 y1 y2 y3)) ∧ (∀ y0 y1 y2, LeO (cuts_check.l1 k y0 y1 y2) (cuts_check.l1 (k + 1) y0 y1 y2))
  | 0 => ⟨fun _ _ _ _ r h => by simp [cuts_check.l0] at h, fun _ _ _ r h => by simp [cuts_check.l1] at h⟩
  | k + 1 => by
    obtain ⟨ih0, ih1⟩ := cuts_check.mono_l k
    refine ⟨?_, ?_⟩
    · intro y0 y1 y2 y3
      unfold cuts_check.l0
      repeat' first
      | (with_reducible exact ih0 _ _ _ _)
      | (with_reducible exact ih1 _ _ _)
      | (with_reducible exact LeO.refl _)
      | (with_reducible exact LeO.none _)
      | (with_reducible refine LeO.ite ?_ ?_)
      | (with_reducible refine LeO.bind ?_ (fun _ => ?_))
      | exact ih0 _ _ _ _
      | exact ih1 _ _ _
      | exact LeO.none _
      | refine LeO.ite ?_ ?_
      | refine LeO.bind ?_ (fun _ => ?_)
    · intro y0 y1 y2
      unfold cuts_check.l1
      repeat' first
      | (with_reducible exact ih0 _ _ _ _)
      | (with_reducible exact ih1 _ _ _)
      | (with_reducible exact LeO.refl _)
      | (with_reducible exact LeO.none _)
      | (with_reducible refine LeO.ite ?_ ?_)
      | (with_reducible refine LeO.bind ?_ (fun _ => ?_))
      | exact ih0 _ _ _ _
      | exact ih1 _ _ _
      | exact LeO.none _
      | refine LeO.ite ?_ ?_
      | refine LeO.bind ?_ (fun _ => ?_)
theorem cuts_check.mono : ∀ a0 k, LeO (cuts_check.f k a0) (cuts_check.f (k + 1) a0) := by
  intro a0 k
  obtain ⟨ih0, ih1⟩ := cuts_check.mono_l k
  unfold cuts_check.f
  repeat' first
      | (with_reducible exact ih0 _ _ _ _)
      | (with_reducible exact ih1 _ _ _)
      | (with_reducible exact LeO.refl _)
      | (with_reducible exact LeO.none _)
      | (with_reducible refine LeO.ite ?_ ?_)
      | (with_reducible refine LeO.bind ?_ (fun _ => ?_))
      | exact ih0 _ _ _ _
      | exact ih1 _ _ _
      | exact LeO.none _
      | refine LeO.ite ?_ ?_
      | refine LeO.bind ?_ (fun _ => ?_)
set_option maxHeartbeats 8000000 in
set_option maxRecDepth 100000 in
theorem cuts_check.calls (k : Nat) (A0 : Option Addr) (c0 : Nat) (l0 : List ByteArray) (r : Int) (w : World) (hr0 : Kd.C Kd.string w A0 l0.length l0) (hc0 : l0.length ≤ c0) (h : cuts_check.f k l0 = some r) :
    Calls Try.prog 33 #[.slice A0 l0.length c0] w fun e w' => e = .returned (.int .i64 r) ∧ Drawn0 w w' := by
  have HR0 := Aside0.mk hr0
  have HC0 := Aside0.mk hc0
  clear hr0 hc0
  have H : (cuts_check.l0 k l0 l0 (l0.length : Int) 0) = some r := h
  clear h
  have H' := Aside0.mk H
  clear H
  go_enter Try.func33, Try.ntmps33
  go_wp2
  repeat (go_quiet (fail); try go_wp2)
  go_loopg [8] k (fun kq v8 w' => ∃ (x8_1 : Int), v8 = .int .i64 x8_1 ∧ Aside0 (cuts_check.l0 kq l0 l0 (l0.length : Int) x8_1 = some r) ∧ Aside0 (kq ≤ k) ∧ Drawn0 w w')
  case atStart => exact ⟨(0), (by first | rfl | (simp; done) | (simp [*]; done) | (simp [*, Go.Proofs.Ytcfiobhebakhlaa.Str.bne_nil]; done)), H', ⟨Nat.le_refl _⟩, by repeat (first | exact Drawn0.refl _ | apply Drawn0.step)⟩
  case round =>
    clear H'
    obtain ⟨x8_1, rfl, HA, HK1, ⟨m1, rfl⟩⟩ := hrel
    cases gk with
    | zero => exact absurd HA.out (by simp [cuts_check.l0])
    | succ k1 =>
      have H := HA.out
      clear HA
      simp only [cuts_check.l0] at H
      by_cases c2 : x8_1 < (l0.length : Int)
      · rw [if_pos c2] at H
        have c2b0 : decide (x8_1 < (l0.length : Int)) = true := decide_eq_true c2
        clear c2
        by_cases c3 : 0 ≤ x8_1
        · rw [if_pos c3] at H
          have c3b0 : decide (0 ≤ x8_1) = true := decide_eq_true c3
          clear c3
          by_cases c4 : x8_1 < (l0.length : Int)
          · rw [if_pos c4] at H
            have c4b0 : decide (x8_1 < (l0.length : Int)) = true := decide_eq_true c4
            clear c4
            by_cases c5 : ((rdOf ByteArray.empty l0 x8_1).size : Int) > 16
            · rw [if_pos c5] at H
              have c5b0 : decide (16 < ((rdOf ByteArray.empty l0 x8_1).size : Int)) = true := decide_eq_true c5
              have c5b1 : decide (16 < (rdOf ByteArray.empty l0 x8_1).size) = true := decide_eq_true (by omega)
              clear c5
              obtain rfl := Option.some.inj H
              have p169 : 0 ≤ (x8_1 : Int) := of_decide_eq_true (by first | (with_reducible assumption) | assumption)
              have q169 : x8_1 < (l0.length : Int) := of_decide_eq_true (by first | (with_reducible assumption) | assumption)
              obtain ⟨ad169, e169, hx169_0⟩ := Kd.at_string HR0.out x8_1 p169 q169
              cases e169
              replace p169 := eq_true p169
              replace q169 := eq_true q169
              go_wp2
              repeat (go_quiet (fail); try go_wp2)
              go_ret
              exact ⟨by first | rfl | (simp; done) | (simp [*]; done) | (simp [*, Go.Proofs.Ytcfiobhebakhlaa.Str.bne_nil]; done), by repeat (first | exact Drawn0.refl _ | apply Drawn0.step)⟩
            · rw [if_neg c5] at H
              have c5b0 : decide (16 < ((rdOf ByteArray.empty l0 x8_1).size : Int)) = false := decide_eq_false c5
              have c5b1 : decide (16 < (rdOf ByteArray.empty l0 x8_1).size) = false := decide_eq_false (by omega)
              clear c5
              have H' := Aside0.mk H
              clear H
              have p169 : 0 ≤ (x8_1 : Int) := of_decide_eq_true (by first | (with_reducible assumption) | assumption)
              have q169 : x8_1 < (l0.length : Int) := of_decide_eq_true (by first | (with_reducible assumption) | assumption)
              obtain ⟨ad169, e169, hx169_0⟩ := Kd.at_string HR0.out x8_1 p169 q169
              cases e169
              replace p169 := eq_true p169
              replace q169 := eq_true q169
              go_wp2
              repeat (go_quiet (fail); try go_wp2)
              go_roundg k1
              case measure => have := HK1.out; omega
              case rel => exact ⟨(wrap64 (x8_1 + 1)), (by first | rfl | (simp; done) | (simp [*]; done) | (simp [*, Go.Proofs.Ytcfiobhebakhlaa.Str.bne_nil]; done)), H', ⟨by have := HK1.out; omega⟩, by repeat (first | exact Drawn0.refl _ | apply Drawn0.step)⟩
          · rw [if_neg c4] at H
            exact absurd H (by simp)
        · rw [if_neg c3] at H
          exact absurd H (by simp)
      · rw [if_neg c2] at H
        have c2b0 : decide (x8_1 < (l0.length : Int)) = false := decide_eq_false c2
        clear c2
        have H' := Aside0.mk H
        clear H
        go_wp2
        repeat (go_quiet (fail); try go_wp2)
        go_loopg [18] k1 (fun kq v18 w' => ∃ (x18_2 : Int), v18 = .int .i64 x18_2 ∧ Aside0 (cuts_check.l1 kq l0 (l0.length : Int) x18_2 = some r) ∧ Aside0 (kq ≤ k1) ∧ Drawn0 w w')
        case atStart => exact ⟨(0), (by first | rfl | (simp; done) | (simp [*]; done) | (simp [*, Go.Proofs.Ytcfiobhebakhlaa.Str.bne_nil]; done)), H', ⟨Nat.le_refl _⟩, by repeat (first | exact Drawn0.refl _ | apply Drawn0.step)⟩
        case round =>
          clear H'
          try clear p1
          try clear q1
          try clear hx1
          try clear c2
          try clear c2b0
          try clear p2
          try clear c3
          try clear c3b0
          try clear c4
          try clear c4b0
          try clear c5
          try clear c5b0
          try clear c5b1
          try clear hx169_0
          try clear p169
          try clear q169
          obtain ⟨x18_2, rfl, HA, HK2, ⟨m2, rfl⟩⟩ := hrel
          cases gk with
          | zero => exact absurd HA.out (by simp [cuts_check.l1])
          | succ k2 =>
            have H := HA.out
            clear HA
            simp only [cuts_check.l1] at H
            by_cases c6 : x18_2 < (l0.length : Int)
            · rw [if_pos c6] at H
              have c6b0 : decide (x18_2 < (l0.length : Int)) = true := decide_eq_true c6
              clear c6
              by_cases c7 : x18_2 > 0
              · rw [if_pos c7] at H
                have c7b0 : decide (0 < x18_2) = true := decide_eq_true c7
                clear c7
                obtain ⟨ji8, hji8⟩ : ∃ j_ : Int, (wrap64 (x18_2 - 1)) = j_ := ⟨_, rfl⟩
                replace H : (if 0 ≤ (ji8) then (if (ji8) < (l0.length : Int) then (if 0 ≤ x18_2 then (if x18_2 < (l0.length : Int) then (if ((Op.bytesLess ((rdOf ByteArray.empty l0 (ji8)).toList) ((rdOf ByteArray.empty l0 x18_2).toList)) = true) then (cuts_check.l1 k2 l0 (l0.length : Int) (wrap64 (x18_2 + 1))) else (some 22)) else (none)) else (none)) else (none)) else (none)) = some r := by first | (rw [hji8] at H; exact H) | (simp only [hji8] at H ⊢; exact H)
                have hji8w : (IntKind.i64.wrap (x18_2 - 1)) = ji8 := (i64_w _).trans hji8
                by_cases c9 : 0 ≤ (ji8)
                · rw [if_pos c9] at H
                  have c9b0 : decide (0 ≤ (ji8)) = true := decide_eq_true c9
                  clear c9
                  by_cases c10 : (ji8) < (l0.length : Int)
                  · rw [if_pos c10] at H
                    have c10b0 : decide ((ji8) < (l0.length : Int)) = true := decide_eq_true c10
                    clear c10
                    by_cases c11 : 0 ≤ x18_2
                    · rw [if_pos c11] at H
                      have c11b0 : decide (0 ≤ x18_2) = true := decide_eq_true c11
                      clear c11
                      by_cases c12 : x18_2 < (l0.length : Int)
                      · rw [if_pos c12] at H
                        have c12b0 : decide (x18_2 < (l0.length : Int)) = true := decide_eq_true c12
                        clear c12
                        by_cases c13 : ((Op.bytesLess ((rdOf ByteArray.empty l0 (ji8)).toList) ((rdOf ByteArray.empty l0 x18_2).toList)) = true)
                        · rw [if_pos c13] at H
                          have c13b0 : (Op.bytesLess ((rdOf ByteArray.empty l0 (ji8)).toList) ((rdOf ByteArray.empty l0 x18_2).toList)) = true := c13
                          clear c13
                          have H' := Aside0.mk H
                          clear H
                          have p170 : 0 ≤ ((ji8) : Int) := of_decide_eq_true (by first | (with_reducible assumption) | assumption)
                          have q170 : (ji8) < (l0.length : Int) := of_decide_eq_true (by first | (with_reducible assumption) | assumption)
                          obtain ⟨ad170, e170, hx170_0⟩ := Kd.at_string HR0.out (ji8) p170 q170
                          cases e170
                          replace p170 := eq_true p170
                          replace q170 := eq_true q170
                          have p171 : 0 ≤ (x18_2 : Int) := of_decide_eq_true (by first | (with_reducible assumption) | assumption)
                          have q171 : x18_2 < (l0.length : Int) := of_decide_eq_true (by first | (with_reducible assumption) | assumption)
                          obtain ⟨ad171, e171, hx171_0⟩ := Kd.at_string HR0.out x18_2 p171 q171
                          obtain rfl : ad170 = ad171 := (by injection e171)
                          replace p171 := eq_true p171
                          replace q171 := eq_true q171
                          go_wp2
                          repeat (go_quiet (fail); try go_wp2)
                          go_roundg k2
                          case measure => have := HK1.out; have := HK2.out; omega
                          case rel => exact ⟨(wrap64 (x18_2 + 1)), (by first | rfl | (simp; done) | (simp [*]; done) | (simp [*, Go.Proofs.Ytcfiobhebakhlaa.Str.bne_nil]; done)), H', ⟨by have := HK1.out; have := HK2.out; omega⟩, by repeat (first | exact Drawn0.refl _ | apply Drawn0.step)⟩
                        · rw [if_neg c13] at H
                          have c13b0 : (Op.bytesLess ((rdOf ByteArray.empty l0 (ji8)).toList) ((rdOf ByteArray.empty l0 x18_2).toList)) = false := by simpa using c13
                          clear c13
                          obtain rfl := Option.some.inj H
                          have p170 : 0 ≤ ((ji8) : Int) := of_decide_eq_true (by first | (with_reducible assumption) | assumption)
                          have q170 : (ji8) < (l0.length : Int) := of_decide_eq_true (by first | (with_reducible assumption) | assumption)
                          obtain ⟨ad170, e170, hx170_0⟩ := Kd.at_string HR0.out (ji8) p170 q170
                          cases e170
                          replace p170 := eq_true p170
                          replace q170 := eq_true q170
                          have p171 : 0 ≤ (x18_2 : Int) := of_decide_eq_true (by first | (with_reducible assumption) | assumption)
                          have q171 : x18_2 < (l0.length : Int) := of_decide_eq_true (by first | (with_reducible assumption) | assumption)
                          obtain ⟨ad171, e171, hx171_0⟩ := Kd.at_string HR0.out x18_2 p171 q171
                          obtain rfl : ad170 = ad171 := (by injection e171)
                          replace p171 := eq_true p171
                          replace q171 := eq_true q171
                          go_wp2
                          repeat (go_quiet (fail); try go_wp2)
                          go_ret
                          exact ⟨by first | rfl | (simp; done) | (simp only [← hji8] <;> (first | rfl | simp)) | (simp [*]; done) | (simp [*, Go.Proofs.Ytcfiobhebakhlaa.Str.bne_nil]; done), by repeat (first | exact Drawn0.refl _ | apply Drawn0.step)⟩
                      · rw [if_neg c12] at H
                        exact absurd H (by simp)
                    · rw [if_neg c11] at H
                      exact absurd H (by simp)
                  · rw [if_neg c10] at H
                    exact absurd H (by simp)
                · rw [if_neg c9] at H
                  exact absurd H (by simp)
              · rw [if_neg c7] at H
                have c7b0 : decide (0 < x18_2) = false := decide_eq_false c7
                clear c7
                have H' := Aside0.mk H
                clear H
                go_wp2
                repeat (go_quiet (fail); try go_wp2)
                go_roundg k2
                case measure => have := HK1.out; have := HK2.out; omega
                case rel => exact ⟨(wrap64 (x18_2 + 1)), (by first | rfl | (simp; done) | (simp [*]; done) | (simp [*, Go.Proofs.Ytcfiobhebakhlaa.Str.bne_nil]; done)), H', ⟨by have := HK1.out; have := HK2.out; omega⟩, by repeat (first | exact Drawn0.refl _ | apply Drawn0.step)⟩
            · rw [if_neg c6] at H
              have c6b0 : decide (x18_2 < (l0.length : Int)) = false := decide_eq_false c6
              clear c6
              obtain rfl := Option.some.inj H
              go_wp2
              repeat (go_quiet (fail); try go_wp2)
              go_ret
              exact ⟨by first | rfl | (simp; done) | (simp [*]; done) | (simp [*, Go.Proofs.Ytcfiobhebakhlaa.Str.bne_nil]; done), by repeat (first | exact Drawn0.refl _ | apply Drawn0.step)⟩

end Go.Proofs.Ytcfiobhebakhlaa.PAll
