-- By wip/pr.py (a program of this session, over the kit's print): lines written by program. Not trusted: Lean checks them.
import Derived.Test.YthalodnfecaccaaPAllx0
import Derived.Test.YthalodnfecaccaaPAllx1
import Derived.Test.YthalodnfecaccaaPAllx2
import Derived.Test.YthalodnfecaccaaPAllx4
import Derived.Test.YthalodnfecaccaaPAllx6
namespace Go.Proofs.Ythalodnfecaccaa.PAll
open Go.RowKit Go.Proofs.YthalodnfecaccaaW.PrintWords Go.Proofs.YthalodnfecaccaaW.PrintLast Go.Proofs.YthalodnfecaccaaW.PrintMore
attribute [local go_sem] max2_int min2_int max_two min_two max_three min_three max_four min_four   -- for this text's walks alone
set_option linter.unusedVariables false
set_option linter.unusedSimpArgs false

attribute [local go_sem high] eqA23
/-! ### tidelinelaw03_ItemRises: function 6 -/
mutual
def tidelinelaw03_ItemRises.l0 : Nat → Int → List Int → Int → Int → Int → Option (Bool)
  | 0, _, _, _, _, _ => none
  | k + 1, x0, x1, x6, x205000, x205001 => if x6 < (x1.length : Int) then (if 0 ≤ x6 then ((item_Next.f k x0 (rd x1 x6)).bind fun bt206 => ((tidelineref03_Next.f k x0 (rd x1 x6)).bind fun bt211 => (if (!(bt206.1 == bt211.1) || (!(bt206.2.1 == bt211.2.1))) = true then (tidelinelaw03_ItemRises.j1 k x0 x1 x6 bt206.2.2 true x205000 x205001 bt206.1 bt206.2.1) else (tidelinelaw03_ItemRises.j1 k x0 x1 x6 bt206.2.2 (bt206.2.2 != bt211.2.2) x205000 x205001 bt206.1 bt206.2.1)))) else (none)) else (some true)
def tidelinelaw03_ItemRises.j1 : Nat → Int → List Int → Int → Int → Bool → Int → Int → Int → Int → Option (Bool)
  | 0, _, _, _, _, _, _, _, _, _ => none
  | k + 1, x0, x1, x6, x8, x46, x205000, x205001, x210000, x210001 => if x46 = true then (some false) else (if x8 = 0 then ((item_Compare.f k x210000 x210001 x205000 x205001).bind fun t215 => (if t215 = 1 then ((item_CheckVersion.f x210000 x210001).bind fun t216 => (if t216 = 0 then (tidelinelaw03_ItemRises.l0 k x210000 x1 (wrap64 (x6 + 1)) x210000 x210001) else (some false))) else (some false))) else (tidelinelaw03_ItemRises.l0 k x0 x1 (wrap64 (x6 + 1)) x205000 x205001))
end
def tidelinelaw03_ItemRises.f (k : Nat) (a0 : Int) (l1 : List Int) : Option (Bool) := if (l1.length : Int) > 1048576 then (some true) else (tidelinelaw03_ItemRises.l0 k a0 l1 0 0 0)
theorem tidelinelaw03_ItemRises.mono_l : ∀ k, (∀ y0 y1 y2 y3 y4, LeO (tidelinelaw03_ItemRises.l0 k y0 y1 y2 y3 y4) (tidelinelaw03_ItemRises.l0 (k + 1) y0 y1 y2 y3 y4)) ∧ (∀ y0 y1 y2 y3 y4 y5 y6 y7 y8, LeO (tidelinelaw03_ItemRises.j1 k y0 y1 y2 y3 y4 y5 y6 y7 y8) (tidelinelaw03_ItemRises.j1 (k + 1) y0 y1 y2 y3 y4 y5 y6 y7 y8))
  | 0 => ⟨fun _ _ _ _ _ r h => by simp [tidelinelaw03_ItemRises.l0] at h, fun _ _ _ _ _ _ _ _ _ r h => by simp [tidelinelaw03_ItemRises.j1] at h⟩
  | k + 1 => by
    obtain ⟨ih0, ih1⟩ := tidelinelaw03_ItemRises.mono_l k
    refine ⟨?_, ?_⟩
    · intro y0 y1 y2 y3 y4
      unfold tidelinelaw03_ItemRises.l0
      repeat' first
      | (with_reducible exact ih0 _ _ _ _ _)
      | (with_reducible exact ih1 _ _ _ _ _ _ _ _ _)
      | (with_reducible exact item_Compare.mono _ _ _ _ _)
      | (with_reducible exact item_Next.mono _ _ _)
      | (with_reducible exact tidelineref03_Next.mono _ _ _)
      | (with_reducible exact LeO.refl _)
      | (with_reducible exact LeO.none _)
      | (with_reducible refine LeO.ite ?_ ?_)
      | (with_reducible refine LeO.bind ?_ (fun _ => ?_))
      | exact ih0 _ _ _ _ _
      | exact ih1 _ _ _ _ _ _ _ _ _
      | exact item_Compare.mono _ _ _ _ _
      | exact item_Next.mono _ _ _
      | exact tidelineref03_Next.mono _ _ _
      | exact LeO.none _
      | refine LeO.ite ?_ ?_
      | refine LeO.bind ?_ (fun _ => ?_)
    · intro y0 y1 y2 y3 y4 y5 y6 y7 y8
      unfold tidelinelaw03_ItemRises.j1
      repeat' first
      | (with_reducible exact ih0 _ _ _ _ _)
      | (with_reducible exact ih1 _ _ _ _ _ _ _ _ _)
      | (with_reducible exact item_Compare.mono _ _ _ _ _)
      | (with_reducible exact item_Next.mono _ _ _)
      | (with_reducible exact tidelineref03_Next.mono _ _ _)
      | (with_reducible exact LeO.refl _)
      | (with_reducible exact LeO.none _)
      | (with_reducible refine LeO.ite ?_ ?_)
      | (with_reducible refine LeO.bind ?_ (fun _ => ?_))
      | exact ih0 _ _ _ _ _
      | exact ih1 _ _ _ _ _ _ _ _ _
      | exact item_Compare.mono _ _ _ _ _
      | exact item_Next.mono _ _ _
      | exact tidelineref03_Next.mono _ _ _
      | exact LeO.none _
      | refine LeO.ite ?_ ?_
      | refine LeO.bind ?_ (fun _ => ?_)
theorem tidelinelaw03_ItemRises.mono : ∀ a0 a1 k, LeO (tidelinelaw03_ItemRises.f k a0 a1) (tidelinelaw03_ItemRises.f (k + 1) a0 a1) := by
  intro a0 a1 k
  obtain ⟨ih0, ih1⟩ := tidelinelaw03_ItemRises.mono_l k
  unfold tidelinelaw03_ItemRises.f
  repeat' first
      | (with_reducible exact ih0 _ _ _ _ _)
      | (with_reducible exact ih1 _ _ _ _ _ _ _ _ _)
      | (with_reducible exact item_Compare.mono _ _ _ _ _)
      | (with_reducible exact item_Next.mono _ _ _)
      | (with_reducible exact tidelineref03_Next.mono _ _ _)
      | (with_reducible exact LeO.refl _)
      | (with_reducible exact LeO.none _)
      | (with_reducible refine LeO.ite ?_ ?_)
      | (with_reducible refine LeO.bind ?_ (fun _ => ?_))
      | exact ih0 _ _ _ _ _
      | exact ih1 _ _ _ _ _ _ _ _ _
      | exact item_Compare.mono _ _ _ _ _
      | exact item_Next.mono _ _ _
      | exact tidelineref03_Next.mono _ _ _
      | exact LeO.none _
      | refine LeO.ite ?_ ?_
      | refine LeO.bind ?_ (fun _ => ?_)
set_option maxHeartbeats 8000000 in
set_option maxRecDepth 100000 in
theorem tidelinelaw03_ItemRises.calls (k : Nat) (a0 : Int) (A1 : Option Addr) (c1 : Nat) (l1 : List Int) (r : Bool) (w : World) (hr1 : Kd.C (Kd.int .i64) w A1 l1.length l1) (hc1 : l1.length ≤ c1) (h : tidelinelaw03_ItemRises.f k a0 l1 = some r) :
    Calls Try.prog 6 #[.int .i64 a0, .slice A1 l1.length c1] w fun e w' => e = .returned (.bool r) ∧ Below w.heap.size w w' := by
  have hu23 := Try.underlying23
  have HR1 := Aside0.mk hr1
  have HC1 := Aside0.mk hc1
  clear hr1 hc1
  have HB := Aside0.mk (Below.refl w.heap.size w)
  have H : (if (l1.length : Int) > 1048576 then (some true) else (tidelinelaw03_ItemRises.l0 k a0 l1 0 0 0)) = some r := h
  clear h
  by_cases c3 : (l1.length : Int) > 1048576
  · rw [if_pos c3] at H
    have c3b0 : decide (1048576 < (l1.length : Int)) = true := decide_eq_true c3
    have c3b1 : decide (1048576 < l1.length) = true := decide_eq_true (by omega)
    clear c3
    obtain rfl := Option.some.inj H
    go_enter Try.func6, Try.ntmps6
    go_wp2
    go_ret
    exact ⟨by first | rfl | (simp [errW_none, errW_some] <;> rfl) | (simp [*, errW_none, errW_some] <;> rfl), by repeat (first | (with_reducible first | exact HB.out | apply below_alloc | apply pw_below_drewN | apply below_drew1) | exact HB.out)⟩
  · rw [if_neg c3] at H
    have c3b0 : decide (1048576 < (l1.length : Int)) = false := decide_eq_false c3
    have c3b1 : decide (1048576 < l1.length) = false := decide_eq_false (by omega)
    clear c3
    have H' := Aside0.mk H
    clear H
    go_enter Try.func6, Try.ntmps6
    go_wp2_with (first | ((with_reducible refine gate_dst (N := 5) rfl ?_); refine box_event ?hg (N := 5) ?hd (cs := #[.int .i64 0, .int .i64 0]) (t := 23) ?hr ?_; (case hd => rfl); (case hg => rfl); (case hr => first | (go_simp; done) | (go_simp; rfl)); intro gb204 hg w4 hbox hb; have n0_ := Aside0.mk (below_step (by repeat (first | (with_reducible first | exact HB.out | apply below_alloc | apply pw_below_drewN | apply below_drew1) | exact HB.out)) hb); have n1_ := Aside0.mk (hbox); have n2_ := Aside0.mk ((by rw [hg]; exact (below_size (by repeat (first | (with_reducible first | exact HB.out | apply below_alloc | apply pw_below_drewN | apply below_drew1) | exact HB.out))) : w.heap.size ≤ gb204)); have n3_ := Aside0.mk ((by rw [hg]; exact (below_size (by repeat (first | (with_reducible first | exact HB.out | apply below_alloc | apply pw_below_drewN | apply below_drew1) | exact HB.out))) : w.heap.size ≤ gb204)); clear HB; have HB := n0_; have BK204 := n1_; have GW204 := n2_; have GE204 := n3_; clear n0_ n1_ n2_ n3_; clear hb hbox hg; have hcz5_0 : w4.cell? ⟨gb204, 0, none⟩ = some (.int .i64 0) := (blk_cell BK204.out 0).trans rfl; have hcz5_1 : w4.cell? ⟨gb204, 1, none⟩ = some (.int .i64 0) := (blk_cell BK204.out 1).trans rfl; have hfz5_0 := blk_frozen BK204.out 0; have hfz5_1 := blk_frozen BK204.out 1))
    go_loopg [0, 6] k (fun kq v0 v6 w' => ∃ (x0_1 : Int) (x6_1 : Int) (x205000_1 : Int) (x205001_1 : Int), v0 = .int .i64 x0_1 ∧ v6 = .int .i64 x6_1 ∧ Aside0 (tidelinelaw03_ItemRises.l0 kq x0_1 l1 x6_1 x205000_1 x205001_1 = some r) ∧ Aside0 (kq ≤ k) ∧ Aside0 (w'.heap[gb204]? = some (.cells #[.int .i64 x205000_1, .int .i64 x205001_1] 23 (0, 0))) ∧ Aside0 (Below w.heap.size w w'))
    case atStart => exact ⟨(a0), (0), (0), (0), (by first | rfl | (simp; done) | (simp [*]; done)), (by first | rfl | (simp; done) | (simp [*]; done)), H', ⟨Nat.le_refl _⟩, ⟨by (with_reducible repeat (first | refine blk_drewN ?_ _ | refine blk_drew ?_ | refine blk_alloc ?_ _)); refine blk_put (cs := #[.int .i64 0, .int .i64 0]) ?_ 1 _ rfl; (with_reducible repeat (first | refine blk_drewN ?_ _ | refine blk_drew ?_ | refine blk_alloc ?_ _)); refine blk_put (cs := #[.int .i64 0, .int .i64 0]) ?_ 0 _ rfl; (with_reducible repeat (first | refine blk_drewN ?_ _ | refine blk_drew ?_ | refine blk_alloc ?_ _)); exact BK204.out⟩, ⟨by repeat (first | (with_reducible first | exact HB.out | apply below_alloc | apply pw_below_drewN | apply below_drew1 | refine below_set ?_ GE204.out) | exact HB.out)⟩⟩
    case round =>
      clear H'
      try clear c1
      try clear p2
      try clear c3
      try clear c3b0
      try clear c3b1
      try clear hcz5_0
      try clear hcz5_1
      try clear hfz5_0
      try clear hfz5_1
      obtain ⟨x0_1, x6_1, x205000_1, x205001_1, rfl, rfl, HA, HK1, BK204, HB⟩ := hrel
      cases gk with
      | zero => exact absurd HA.out (by simp [tidelinelaw03_ItemRises.l0])
      | succ k1 =>
        have H := HA.out
        clear HA
        simp only [tidelinelaw03_ItemRises.l0] at H
        by_cases c6 : x6_1 < (l1.length : Int)
        · rw [if_pos c6] at H
          have c6b0 : decide (x6_1 < (l1.length : Int)) = true := decide_eq_true c6
          clear c6
          by_cases c7 : 0 ≤ x6_1
          · rw [if_pos c7] at H
            have c7b0 : decide (0 ≤ x6_1) = true := decide_eq_true c7
            clear c7
            replace H := Option.bind_eq_some_iff.mp H
            obtain ⟨⟨t206, t207, t208⟩, A80, H⟩ := H
            replace H : ((tidelineref03_Next.f k1 x0_1 (rd l1 x6_1)).bind fun bt211 => (if (!(t206 == bt211.1) || (!(t207 == bt211.2.1))) = true then (tidelinelaw03_ItemRises.j1 k1 x0_1 l1 x6_1 t208 true x205000_1 x205001_1 t206 t207) else (tidelinelaw03_ItemRises.j1 k1 x0_1 l1 x6_1 t208 (t208 != bt211.2.2) x205000_1 x205001_1 t206 t207))) = some r := H
            have A8 := Aside0.mk A80
            clear A80
            replace H := Option.bind_eq_some_iff.mp H
            obtain ⟨⟨t211, t212, t213⟩, A90, H⟩ := H
            replace H : (if (!(t206 == t211) || (!(t207 == t212))) = true then (tidelinelaw03_ItemRises.j1 k1 x0_1 l1 x6_1 t208 true x205000_1 x205001_1 t206 t207) else (tidelinelaw03_ItemRises.j1 k1 x0_1 l1 x6_1 t208 (t208 != t213) x205000_1 x205001_1 t206 t207)) = some r := H
            have A9 := Aside0.mk A90
            clear A90
            have HC10 := Aside0.mk H
            clear H
            have p205 : 0 ≤ (x6_1 : Int) := of_decide_eq_true (by first | (with_reducible assumption) | assumption)
            have q205 : x6_1 < (l1.length : Int) := of_decide_eq_true (by first | (with_reducible assumption) | assumption)
            obtain ⟨ad205, e205, hx205_0⟩ := Kd.at_int HR1.out x6_1 p205 q205
            cases e205
            replace hx205_0 := (HB.out.cell (World.block_lt_of_cell? w _ hx205_0)).trans hx205_0
            replace p205 := eq_true p205
            replace q205 := eq_true q205
            go_upto_region 9 with (first | ((with_reducible refine gate_callee (f := 20) rfl ?_); refine goesL_ (some 27) rfl rfl Try.func20 (by kernel_rfl) rfl #[.int .i64 x0_1, .int .i64 (rd l1 x6_1)] rfl (by (try simp only [List.map_toArray, List.map_cons, List.map_nil]); first | done | rfl | (simp only [List.length_drop, List.length_take]; rfl)) ?_; (with_reducible refine (item_Next.calls k1 x0_1 (rd l1 x6_1) t206 t207 t208 _ A8.out).mono ?_); rintro e w11 ⟨rfl, hb⟩; refine ⟨_, rfl, ?_⟩; have n0_ := Aside0.mk (blk_below (g := gb204) (o := .cells #[.int .i64 x205000_1, .int .i64 x205001_1] 23 (0, 0)) (by (with_reducible repeat (first | refine blk_drewN ?_ _ | refine blk_drew ?_ | refine blk_alloc ?_ _)); exact BK204.out) hb); have n1_ := Aside0.mk (below_step (by repeat (first | (with_reducible first | exact HB.out | apply below_alloc | apply pw_below_drewN | apply below_drew1 | refine below_set ?_ GE204.out) | exact HB.out)) hb); clear BK204; clear HB; have BK204 := n0_; have HB := n1_; clear n0_ n1_; (try clear hb); (try clear hb2); (try clear hk); (try clear hi)) | ((with_reducible refine gate_dst (N := 7) rfl ?_); refine box_event ?hg (N := 7) ?hd (cs := #[.int .i64 0, .int .i64 0]) (t := 23) ?hr ?_; (case hd => rfl); (case hg => rfl); (case hr => first | (go_simp; done) | (go_simp; rfl)); intro gb209 hg w12 hbox hb; have n0_ := Aside0.mk (blk_below (g := gb204) (o := .cells #[.int .i64 x205000_1, .int .i64 x205001_1] 23 (0, 0)) (by (with_reducible repeat (first | refine blk_drewN ?_ _ | refine blk_drew ?_ | refine blk_alloc ?_ _)); exact BK204.out) hb); have n1_ := Aside0.mk (below_step (by repeat (first | (with_reducible first | exact HB.out | apply below_alloc | apply pw_below_drewN | apply below_drew1 | refine below_set ?_ GE204.out) | exact HB.out)) hb); have n2_ := Aside0.mk (hbox); have n3_ := Aside0.mk ((by rw [hg]; exact (below_size (by repeat (first | (with_reducible first | exact HB.out | apply below_alloc | apply pw_below_drewN | apply below_drew1 | refine below_set ?_ GE204.out) | exact HB.out))) : w.heap.size ≤ gb209)); have n4_ := Aside0.mk ((by rw [hg]; exact (below_size (by repeat (first | (with_reducible first | exact HB.out | apply below_alloc | apply pw_below_drewN | apply below_drew1 | refine below_set ?_ GE204.out) | exact HB.out))) : w.heap.size ≤ gb209)); have n5_ := Aside0.mk ((by rw [hg]; exact Nat.ne_of_lt (blk_lt (g := gb204) (o := .cells #[.int .i64 x205000_1, .int .i64 x205001_1] 23 (0, 0)) (by (with_reducible repeat (first | refine blk_drewN ?_ _ | refine blk_drew ?_ | refine blk_alloc ?_ _)); exact BK204.out)) : gb204 ≠ gb209)); have n6_ := Aside0.mk ((by rw [hg]; exact Nat.ne_of_gt (blk_lt (g := gb204) (o := .cells #[.int .i64 x205000_1, .int .i64 x205001_1] 23 (0, 0)) (by (with_reducible repeat (first | refine blk_drewN ?_ _ | refine blk_drew ?_ | refine blk_alloc ?_ _)); exact BK204.out)) : gb209 ≠ gb204)); clear BK204; clear HB; have BK204 := n0_; have HB := n1_; have BK209 := n2_; have GW209 := n3_; have GE209 := n4_; have NB204_209 := n5_; have NB209_204 := n6_; clear n0_ n1_ n2_ n3_ n4_ n5_ n6_; clear hb hbox hg; have hnb13 := NB209_204.out; have hnc13 := NB204_209.out; have hcz14_0 : w12.cell? ⟨gb209, 0, none⟩ = some (.int .i64 0) := (blk_cell BK209.out 0).trans rfl; have hcz14_1 : w12.cell? ⟨gb209, 1, none⟩ = some (.int .i64 0) := (blk_cell BK209.out 1).trans rfl; have hfz14_0 := blk_frozen BK209.out 0; have hfz14_1 := blk_frozen BK209.out 1; have p210 : 0 ≤ (x6_1 : Int) := of_decide_eq_true (by first | (with_reducible assumption) | assumption); have q210 : x6_1 < (l1.length : Int) := of_decide_eq_true (by first | (with_reducible assumption) | assumption); obtain ⟨ad210, e210, hx210_0⟩ := Kd.at_int HR1.out x6_1 p210 q210; obtain rfl : ad205 = ad210 := (by injection e210); have hn210_0 : ad205.block ≠ gb209 := Nat.ne_of_lt (Nat.lt_of_lt_of_le (by have := World.block_lt_of_cell? _ _ hx210_0; first | rwa [add_block] at this | exact this) GW209.out); have hn210_1 : ad205.block ≠ gb209 := Nat.ne_of_lt (Nat.lt_of_lt_of_le (by have := World.block_lt_of_cell? _ _ hx210_0; first | rwa [add_block] at this | exact this) GW209.out); replace hx210_0 := (HB.out.cell (World.block_lt_of_cell? w _ hx210_0)).trans hx210_0; replace hx210_0 := (cell_far (p := ⟨gb209, 0, none⟩) (by first | (rw [add_block]; exact hn210_0) | (show (Addr.add _ _).block ≠ _; rw [add_block]; exact hn210_0) | exact hn210_0) (.int .i64 t206)).trans hx210_0; replace hx210_0 := (cell_far (p := ⟨gb209, 1, none⟩) (by first | (rw [add_block]; exact hn210_1) | (show (Addr.add _ _).block ≠ _; rw [add_block]; exact hn210_1) | exact hn210_1) (.int .i64 t207)).trans hx210_0; clear hn210_0; clear hn210_1; replace p210 := eq_true p210; replace q210 := eq_true q210) | ((with_reducible refine gate_callee (f := 21) rfl ?_); refine goesL_ (some 36) rfl rfl Try.func21 (by kernel_rfl) rfl #[.int .i64 x0_1, .int .i64 (rd l1 x6_1)] rfl (by (try simp only [List.map_toArray, List.map_cons, List.map_nil]); first | done | rfl | (simp only [List.length_drop, List.length_take]; rfl)) ?_; (with_reducible refine (tidelineref03_Next.calls k1 x0_1 (rd l1 x6_1) t211 t212 t213 _ A9.out).mono ?_); rintro e w15 ⟨rfl, hb⟩; refine ⟨_, rfl, ?_⟩; have n0_ := Aside0.mk (blk_below (g := gb204) (o := .cells #[.int .i64 x205000_1, .int .i64 x205001_1] 23 (0, 0)) (by (with_reducible repeat (first | refine blk_drewN ?_ _ | refine blk_drew ?_ | refine blk_alloc ?_ _)); refine blk_far ?_ NB204_209.out _; (with_reducible repeat (first | refine blk_drewN ?_ _ | refine blk_drew ?_ | refine blk_alloc ?_ _)); refine blk_far ?_ NB204_209.out _; (with_reducible repeat (first | refine blk_drewN ?_ _ | refine blk_drew ?_ | refine blk_alloc ?_ _)); exact BK204.out) hb); have n1_ := Aside0.mk (blk_below (g := gb209) (o := .cells #[.int .i64 t206, .int .i64 t207] 23 (0, 0)) (by (with_reducible repeat (first | refine blk_drewN ?_ _ | refine blk_drew ?_ | refine blk_alloc ?_ _)); refine blk_put (cs := #[.int .i64 t206, .int .i64 0]) ?_ 1 _ rfl; (with_reducible repeat (first | refine blk_drewN ?_ _ | refine blk_drew ?_ | refine blk_alloc ?_ _)); refine blk_put (cs := #[.int .i64 0, .int .i64 0]) ?_ 0 _ rfl; (with_reducible repeat (first | refine blk_drewN ?_ _ | refine blk_drew ?_ | refine blk_alloc ?_ _)); exact BK209.out) hb); have n2_ := Aside0.mk (below_step (by repeat (first | (with_reducible first | exact HB.out | apply below_alloc | apply pw_below_drewN | apply below_drew1 | refine below_set ?_ GE204.out | refine below_set ?_ GE209.out) | exact HB.out)) hb); clear BK204; clear BK209; clear HB; have BK204 := n0_; have BK209 := n1_; have HB := n2_; clear n0_ n1_ n2_; (try clear hb); (try clear hb2); (try clear hk); (try clear hi)) | ((with_reducible refine gate_dst (N := 9) rfl ?_); refine box_event ?hg (N := 9) ?hd (cs := #[.int .i64 0, .int .i64 0]) (t := 23) ?hr ?_; (case hd => rfl); (case hg => rfl); (case hr => first | (go_simp; done) | (go_simp; rfl)); intro gb214 hg w16 hbox hb; have n0_ := Aside0.mk (blk_below (g := gb204) (o := .cells #[.int .i64 x205000_1, .int .i64 x205001_1] 23 (0, 0)) (by (with_reducible repeat (first | refine blk_drewN ?_ _ | refine blk_drew ?_ | refine blk_alloc ?_ _)); exact BK204.out) hb); have n1_ := Aside0.mk (blk_below (g := gb209) (o := .cells #[.int .i64 t206, .int .i64 t207] 23 (0, 0)) (by (with_reducible repeat (first | refine blk_drewN ?_ _ | refine blk_drew ?_ | refine blk_alloc ?_ _)); exact BK209.out) hb); have n2_ := Aside0.mk (below_step (by repeat (first | (with_reducible first | exact HB.out | apply below_alloc | apply pw_below_drewN | apply below_drew1 | refine below_set ?_ GE204.out | refine below_set ?_ GE209.out) | exact HB.out)) hb); have n3_ := Aside0.mk (hbox); have n4_ := Aside0.mk ((by rw [hg]; exact (below_size (by repeat (first | (with_reducible first | exact HB.out | apply below_alloc | apply pw_below_drewN | apply below_drew1 | refine below_set ?_ GE204.out | refine below_set ?_ GE209.out) | exact HB.out))) : w.heap.size ≤ gb214)); have n5_ := Aside0.mk ((by rw [hg]; exact (below_size (by repeat (first | (with_reducible first | exact HB.out | apply below_alloc | apply pw_below_drewN | apply below_drew1 | refine below_set ?_ GE204.out | refine below_set ?_ GE209.out) | exact HB.out))) : w.heap.size ≤ gb214)); have n6_ := Aside0.mk ((by rw [hg]; exact Nat.ne_of_lt (blk_lt (g := gb204) (o := .cells #[.int .i64 x205000_1, .int .i64 x205001_1] 23 (0, 0)) (by (with_reducible repeat (first | refine blk_drewN ?_ _ | refine blk_drew ?_ | refine blk_alloc ?_ _)); exact BK204.out)) : gb204 ≠ gb214)); have n7_ := Aside0.mk ((by rw [hg]; exact Nat.ne_of_gt (blk_lt (g := gb204) (o := .cells #[.int .i64 x205000_1, .int .i64 x205001_1] 23 (0, 0)) (by (with_reducible repeat (first | refine blk_drewN ?_ _ | refine blk_drew ?_ | refine blk_alloc ?_ _)); exact BK204.out)) : gb214 ≠ gb204)); have n8_ := Aside0.mk ((by rw [hg]; exact Nat.ne_of_lt (blk_lt (g := gb209) (o := .cells #[.int .i64 t206, .int .i64 t207] 23 (0, 0)) (by (with_reducible repeat (first | refine blk_drewN ?_ _ | refine blk_drew ?_ | refine blk_alloc ?_ _)); exact BK209.out)) : gb209 ≠ gb214)); have n9_ := Aside0.mk ((by rw [hg]; exact Nat.ne_of_gt (blk_lt (g := gb209) (o := .cells #[.int .i64 t206, .int .i64 t207] 23 (0, 0)) (by (with_reducible repeat (first | refine blk_drewN ?_ _ | refine blk_drew ?_ | refine blk_alloc ?_ _)); exact BK209.out)) : gb214 ≠ gb209)); clear BK204; clear BK209; clear HB; have BK204 := n0_; have BK209 := n1_; have HB := n2_; have BK214 := n3_; have GW214 := n4_; have GE214 := n5_; have NB204_214 := n6_; have NB214_204 := n7_; have NB209_214 := n8_; have NB214_209 := n9_; clear n0_ n1_ n2_ n3_ n4_ n5_ n6_ n7_ n8_ n9_; clear hb hbox hg; have hnb17 := NB214_204.out; have hnc17 := NB204_214.out; have hnb18 := NB214_209.out; have hnc18 := NB209_214.out; have hcz19_0 : w16.cell? ⟨gb214, 0, none⟩ = some (.int .i64 0) := (blk_cell BK214.out 0).trans rfl; have hcz19_1 : w16.cell? ⟨gb214, 1, none⟩ = some (.int .i64 0) := (blk_cell BK214.out 1).trans rfl; have hfz19_0 := blk_frozen BK214.out 0; have hfz19_1 := blk_frozen BK214.out 1))
            (try simp only [Act.put, List.setIfInBounds_toArray, List.set_cons_zero, List.set_cons_succ])
            go_cut [46] (fun v46 wc => ∃ (kq : Nat) (x46_9 : Bool), v46 = .bool x46_9 ∧ Aside0 (tidelinelaw03_ItemRises.j1 kq x0_1 l1 x6_1 t208 x46_9 x205000_1 x205001_1 t206 t207 = some r) ∧ Aside0 (kq ≤ k1) ∧ Aside0 (wc.heap[gb204]? = some (.cells #[.int .i64 x205000_1, .int .i64 x205001_1] 23 (0, 0))) ∧ Aside0 (wc.heap[gb209]? = some (.cells #[.int .i64 t206, .int .i64 t207] 23 (0, 0))) ∧ Aside0 (wc.heap[gb214]? = some (.cells #[.int .i64 t211, .int .i64 t212] 23 (0, 0))) ∧ Aside0 (Below w.heap.size w wc))
            case first =>
              have H := HC10.out
              clear HC10
              by_cases c20 : (!(t206 == t211) || (!(t207 == t212))) = true
              · rw [if_pos c20] at H
                have c20b0 : (!(t206 == t211) || (!(t207 == t212))) = true := c20
                clear c20
                (first | rw [c20b0] | (simp only [i64_w, i32_w]; rw [c20b0]) | skip)
                have H' := Aside0.mk H
                clear H
                have hnb21 := NB209_204.out
                have hnc21 := NB204_209.out
                have hnb22 := NB209_214.out
                have hnc22 := NB214_209.out
                have hcz23_0 : w16.cell? ⟨gb209, 0, none⟩ = some (.int .i64 t206) := (blk_cell BK209.out 0).trans rfl
                have hcz23_1 : w16.cell? ⟨gb209, 1, none⟩ = some (.int .i64 t207) := (blk_cell BK209.out 1).trans rfl
                have hfz23_0 := blk_frozen BK209.out 0
                have hfz23_1 := blk_frozen BK209.out 1
                have hnb24 := NB214_204.out
                have hnc24 := NB204_214.out
                have hcz25_0 : w16.cell? ⟨gb214, 0, none⟩ = some (.int .i64 0) := (blk_cell BK214.out 0).trans rfl
                have hcz25_1 : w16.cell? ⟨gb214, 1, none⟩ = some (.int .i64 0) := (blk_cell BK214.out 1).trans rfl
                have hfz25_0 := blk_frozen BK214.out 0
                have hfz25_1 := blk_frozen BK214.out 1
                go_wp2
                go_meet
                case rel => exact ⟨_, (true), (by first | rfl | (simp; done) | (simp [*]; done)), H', ⟨by have := HK1.out; first | omega | exact Nat.le_refl _⟩, ⟨by (with_reducible repeat (first | refine blk_drewN ?_ _ | refine blk_drew ?_ | refine blk_alloc ?_ _)); refine blk_far ?_ NB204_214.out _; (with_reducible repeat (first | refine blk_drewN ?_ _ | refine blk_drew ?_ | refine blk_alloc ?_ _)); refine blk_far ?_ NB204_214.out _; (with_reducible repeat (first | refine blk_drewN ?_ _ | refine blk_drew ?_ | refine blk_alloc ?_ _)); exact BK204.out⟩, ⟨by (with_reducible repeat (first | refine blk_drewN ?_ _ | refine blk_drew ?_ | refine blk_alloc ?_ _)); refine blk_far ?_ NB209_214.out _; (with_reducible repeat (first | refine blk_drewN ?_ _ | refine blk_drew ?_ | refine blk_alloc ?_ _)); refine blk_far ?_ NB209_214.out _; (with_reducible repeat (first | refine blk_drewN ?_ _ | refine blk_drew ?_ | refine blk_alloc ?_ _)); exact BK209.out⟩, ⟨by (with_reducible repeat (first | refine blk_drewN ?_ _ | refine blk_drew ?_ | refine blk_alloc ?_ _)); refine blk_put (cs := #[.int .i64 t211, .int .i64 0]) ?_ 1 _ rfl; (with_reducible repeat (first | refine blk_drewN ?_ _ | refine blk_drew ?_ | refine blk_alloc ?_ _)); refine blk_put (cs := #[.int .i64 0, .int .i64 0]) ?_ 0 _ rfl; (with_reducible repeat (first | refine blk_drewN ?_ _ | refine blk_drew ?_ | refine blk_alloc ?_ _)); exact BK214.out⟩, ⟨by repeat (first | (with_reducible first | exact HB.out | apply below_alloc | apply pw_below_drewN | apply below_drew1 | refine below_set ?_ GE204.out | refine below_set ?_ GE209.out | refine below_set ?_ GE214.out) | exact HB.out)⟩⟩
              · rw [if_neg c20] at H
                have c20b0 : (!(t206 == t211) || (!(t207 == t212))) = false := by simpa using c20
                clear c20
                (first | rw [c20b0] | (simp only [i64_w, i32_w]; rw [c20b0]) | skip)
                have H' := Aside0.mk H
                clear H
                have hnb26 := NB209_204.out
                have hnc26 := NB204_209.out
                have hnb27 := NB209_214.out
                have hnc27 := NB214_209.out
                have hcz28_0 : w16.cell? ⟨gb209, 0, none⟩ = some (.int .i64 t206) := (blk_cell BK209.out 0).trans rfl
                have hcz28_1 : w16.cell? ⟨gb209, 1, none⟩ = some (.int .i64 t207) := (blk_cell BK209.out 1).trans rfl
                have hfz28_0 := blk_frozen BK209.out 0
                have hfz28_1 := blk_frozen BK209.out 1
                have hnb29 := NB214_204.out
                have hnc29 := NB204_214.out
                have hcz30_0 : w16.cell? ⟨gb214, 0, none⟩ = some (.int .i64 0) := (blk_cell BK214.out 0).trans rfl
                have hcz30_1 : w16.cell? ⟨gb214, 1, none⟩ = some (.int .i64 0) := (blk_cell BK214.out 1).trans rfl
                have hfz30_0 := blk_frozen BK214.out 0
                have hfz30_1 := blk_frozen BK214.out 1
                go_wp2
                go_meet
                case rel => exact ⟨_, ((t208 != t213)), (by first | rfl | (simp; done) | (simp [*]; done)), H', ⟨by have := HK1.out; first | omega | exact Nat.le_refl _⟩, ⟨by (with_reducible repeat (first | refine blk_drewN ?_ _ | refine blk_drew ?_ | refine blk_alloc ?_ _)); refine blk_far ?_ NB204_214.out _; (with_reducible repeat (first | refine blk_drewN ?_ _ | refine blk_drew ?_ | refine blk_alloc ?_ _)); refine blk_far ?_ NB204_214.out _; (with_reducible repeat (first | refine blk_drewN ?_ _ | refine blk_drew ?_ | refine blk_alloc ?_ _)); exact BK204.out⟩, ⟨by (with_reducible repeat (first | refine blk_drewN ?_ _ | refine blk_drew ?_ | refine blk_alloc ?_ _)); refine blk_far ?_ NB209_214.out _; (with_reducible repeat (first | refine blk_drewN ?_ _ | refine blk_drew ?_ | refine blk_alloc ?_ _)); refine blk_far ?_ NB209_214.out _; (with_reducible repeat (first | refine blk_drewN ?_ _ | refine blk_drew ?_ | refine blk_alloc ?_ _)); exact BK209.out⟩, ⟨by (with_reducible repeat (first | refine blk_drewN ?_ _ | refine blk_drew ?_ | refine blk_alloc ?_ _)); refine blk_put (cs := #[.int .i64 t211, .int .i64 0]) ?_ 1 _ rfl; (with_reducible repeat (first | refine blk_drewN ?_ _ | refine blk_drew ?_ | refine blk_alloc ?_ _)); refine blk_put (cs := #[.int .i64 0, .int .i64 0]) ?_ 0 _ rfl; (with_reducible repeat (first | refine blk_drewN ?_ _ | refine blk_drew ?_ | refine blk_alloc ?_ _)); exact BK214.out⟩, ⟨by repeat (first | (with_reducible first | exact HB.out | apply below_alloc | apply pw_below_drewN | apply below_drew1 | refine below_set ?_ GE204.out | refine below_set ?_ GE209.out | refine below_set ?_ GE214.out) | exact HB.out)⟩⟩
            case rest =>
              clear HC10
              try clear c1
              try clear c2
              try clear p2
              try clear q2
              try clear hx2
              try clear c3
              try clear c3b0
              try clear c3b1
              try clear c6
              try clear c6b0
              try clear c7
              try clear c7b0
              try clear c13
              try clear c17
              try clear c18
              try clear c20
              try clear c20b0
              try clear p20
              try clear q20
              try clear hx20
              try clear c21
              try clear p21
              try clear q21
              try clear hx21
              try clear c22
              try clear c24
              try clear c26
              try clear c27
              try clear c29
              try clear hcz14_0
              try clear hcz14_1
              try clear hcz19_0
              try clear hcz19_1
              try clear hcz23_0
              try clear hcz23_1
              try clear hcz25_0
              try clear hcz25_1
              try clear hcz28_0
              try clear hcz28_1
              try clear hcz30_0
              try clear hcz30_1
              try clear hcz5_0
              try clear hcz5_1
              try clear hfz14_0
              try clear hfz14_1
              try clear hfz19_0
              try clear hfz19_1
              try clear hfz23_0
              try clear hfz23_1
              try clear hfz25_0
              try clear hfz25_1
              try clear hfz28_0
              try clear hfz28_1
              try clear hfz30_0
              try clear hfz30_1
              try clear hfz5_0
              try clear hfz5_1
              try clear hx205_0
              try clear hx210_0
              try clear p2
              try clear p205
              try clear p210
              try clear q205
              try clear q210
              obtain ⟨kq, x46_9, rfl, HA, HJ9, BK204, BK209, BK214, HB⟩ := hcut
              cases kq with
              | zero => exact absurd HA.out (by simp [tidelinelaw03_ItemRises.j1])
              | succ kj9 =>
                have H := HA.out
                clear HA
                simp only [tidelinelaw03_ItemRises.j1] at H
                by_cases c31 : x46_9 = true
                · subst c31
                  have H1 : (some false) = some r := by rw [if_pos rfl] at H; exact H
                  clear H
                  have H := H1
                  clear H1
                  obtain rfl := Option.some.inj H
                  go_wp2
                  go_ret
                  exact ⟨by first | rfl | (simp [errW_none, errW_some] <;> rfl) | (simp [*, errW_none, errW_some] <;> rfl), by repeat (first | (with_reducible first | exact HB.out | apply below_alloc | apply pw_below_drewN | apply below_drew1 | refine below_set ?_ GE204.out | refine below_set ?_ GE209.out | refine below_set ?_ GE214.out) | exact HB.out)⟩
                · replace c31 := Bool.eq_false_iff.mpr c31
                  subst c31
                  have H1 : (if t208 = 0 then ((item_Compare.f kj9 t206 t207 x205000_1 x205001_1).bind fun t215 => (if t215 = 1 then ((item_CheckVersion.f t206 t207).bind fun t216 => (if t216 = 0 then (tidelinelaw03_ItemRises.l0 kj9 t206 l1 (wrap64 (x6_1 + 1)) t206 t207) else (some false))) else (some false))) else (tidelinelaw03_ItemRises.l0 kj9 x0_1 l1 (wrap64 (x6_1 + 1)) x205000_1 x205001_1)) = some r := by rw [if_neg (show ¬ (false = true) by decide)] at H; exact H
                  clear H
                  have H := H1
                  clear H1
                  by_cases c32 : t208 = 0
                  · rw [if_pos c32] at H
                    have c32b0 : (t208 == 0) = true := beq_iff_eq.mpr c32
                    have c32b1 : (t208 != 0) = false := bne_eq_false_iff_eq.mpr c32
                    clear c32
                    replace H := Option.bind_eq_some_iff.mp H
                    obtain ⟨t215, A330, H⟩ := H
                    replace H : (if t215 = 1 then ((item_CheckVersion.f t206 t207).bind fun t216 => (if t216 = 0 then (tidelinelaw03_ItemRises.l0 kj9 t206 l1 (wrap64 (x6_1 + 1)) t206 t207) else (some false))) else (some false)) = some r := H
                    have A33 := Aside0.mk A330
                    clear A330
                    by_cases c34 : t215 = 1
                    · rw [if_pos c34] at H
                      have c34b0 : (t215 == 1) = true := beq_iff_eq.mpr c34
                      have c34b1 : (t215 != 1) = false := bne_eq_false_iff_eq.mpr c34
                      clear c34
                      replace H := Option.bind_eq_some_iff.mp H
                      obtain ⟨t216, A350, H⟩ := H
                      replace H : (if t216 = 0 then (tidelinelaw03_ItemRises.l0 kj9 t206 l1 (wrap64 (x6_1 + 1)) t206 t207) else (some false)) = some r := H
                      have A35 := Aside0.mk A350
                      clear A350
                      by_cases c36 : t216 = 0
                      · rw [if_pos c36] at H
                        have c36b0 : (t216 == 0) = true := beq_iff_eq.mpr c36
                        have c36b1 : (t216 != 0) = false := bne_eq_false_iff_eq.mpr c36
                        clear c36
                        have H' := Aside0.mk H
                        clear H
                        have hnb37 := NB209_204.out
                        have hnc37 := NB204_209.out
                        have hnb38 := NB209_214.out
                        have hnc38 := NB214_209.out
                        have hcz39_0 : wc.cell? ⟨gb209, 0, none⟩ = some (.int .i64 t206) := (blk_cell BK209.out 0).trans rfl
                        have hcz39_1 : wc.cell? ⟨gb209, 1, none⟩ = some (.int .i64 t207) := (blk_cell BK209.out 1).trans rfl
                        have hfz39_0 := blk_frozen BK209.out 0
                        have hfz39_1 := blk_frozen BK209.out 1
                        have hnb40 := NB204_214.out
                        have hnc40 := NB214_204.out
                        have hcz41_0 : wc.cell? ⟨gb204, 0, none⟩ = some (.int .i64 x205000_1) := (blk_cell BK204.out 0).trans rfl
                        have hcz41_1 : wc.cell? ⟨gb204, 1, none⟩ = some (.int .i64 x205001_1) := (blk_cell BK204.out 1).trans rfl
                        have hfz41_0 := blk_frozen BK204.out 0
                        have hfz41_1 := blk_frozen BK204.out 1
                        go_wp2_with (first | ((with_reducible refine gate_callee (f := 14) rfl ?_); refine goesL_ (some 51) rfl rfl Try.func14 (by kernel_rfl) rfl #[.agg #[.int .i64 t206, .int .i64 t207], .agg #[.int .i64 x205000_1, .int .i64 x205001_1]] rfl (by (try simp only [List.map_toArray, List.map_cons, List.map_nil]); first | done | rfl | (simp only [List.length_drop, List.length_take]; rfl)) ?_; (with_reducible refine (item_Compare.calls kj9 t206 t207 x205000_1 x205001_1 t215 _ A33.out).mono ?_); rintro e w42 ⟨rfl, hb⟩; refine ⟨_, rfl, ?_⟩; have n0_ := Aside0.mk (blk_below (g := gb204) (o := .cells #[.int .i64 x205000_1, .int .i64 x205001_1] 23 (0, 0)) (by (with_reducible repeat (first | refine blk_drewN ?_ _ | refine blk_drew ?_ | refine blk_alloc ?_ _)); exact BK204.out) hb); have n1_ := Aside0.mk (blk_below (g := gb209) (o := .cells #[.int .i64 t206, .int .i64 t207] 23 (0, 0)) (by (with_reducible repeat (first | refine blk_drewN ?_ _ | refine blk_drew ?_ | refine blk_alloc ?_ _)); exact BK209.out) hb); have n2_ := Aside0.mk (blk_below (g := gb214) (o := .cells #[.int .i64 t211, .int .i64 t212] 23 (0, 0)) (by (with_reducible repeat (first | refine blk_drewN ?_ _ | refine blk_drew ?_ | refine blk_alloc ?_ _)); exact BK214.out) hb); have n3_ := Aside0.mk (below_step (by repeat (first | (with_reducible first | exact HB.out | apply below_alloc | apply pw_below_drewN | apply below_drew1 | refine below_set ?_ GE204.out | refine below_set ?_ GE209.out | refine below_set ?_ GE214.out) | exact HB.out)) hb); clear BK204; clear BK209; clear BK214; clear HB; have BK204 := n0_; have BK209 := n1_; have BK214 := n2_; have HB := n3_; clear n0_ n1_ n2_ n3_; (try clear hb); (try clear hb2); (try clear hk); (try clear hi); have hcz43_0 : w42.cell? ⟨gb209, 0, none⟩ = some (.int .i64 t206) := (blk_cell BK209.out 0).trans rfl; have hcz43_1 : w42.cell? ⟨gb209, 1, none⟩ = some (.int .i64 t207) := (blk_cell BK209.out 1).trans rfl; have hfz43_0 := blk_frozen BK209.out 0; have hfz43_1 := blk_frozen BK209.out 1) | (go_at_call 22; (with_reducible refine (item_CheckVersion.calls t206 t207 t216 _ A35.out).mono ?_); rintro e w44 ⟨rfl, hb⟩; have n0_ := Aside0.mk (blk_below (g := gb204) (o := .cells #[.int .i64 x205000_1, .int .i64 x205001_1] 23 (0, 0)) (by (with_reducible repeat (first | refine blk_drewN ?_ _ | refine blk_drew ?_ | refine blk_alloc ?_ _)); exact BK204.out) hb); have n1_ := Aside0.mk (blk_below (g := gb209) (o := .cells #[.int .i64 t206, .int .i64 t207] 23 (0, 0)) (by (with_reducible repeat (first | refine blk_drewN ?_ _ | refine blk_drew ?_ | refine blk_alloc ?_ _)); exact BK209.out) hb); have n2_ := Aside0.mk (blk_below (g := gb214) (o := .cells #[.int .i64 t211, .int .i64 t212] 23 (0, 0)) (by (with_reducible repeat (first | refine blk_drewN ?_ _ | refine blk_drew ?_ | refine blk_alloc ?_ _)); exact BK214.out) hb); have n3_ := Aside0.mk (below_step (by repeat (first | (with_reducible first | exact HB.out | apply below_alloc | apply pw_below_drewN | apply below_drew1 | refine below_set ?_ GE204.out | refine below_set ?_ GE209.out | refine below_set ?_ GE214.out) | exact HB.out)) hb); clear BK204; clear BK209; clear BK214; clear HB; have BK204 := n0_; have BK209 := n1_; have BK214 := n2_; have HB := n3_; clear n0_ n1_ n2_ n3_; (try clear hb); (try clear hb2); (try clear hk); (try clear hi); have hcz45_0 : w44.cell? ⟨gb209, 0, none⟩ = some (.int .i64 t206) := (blk_cell BK209.out 0).trans rfl; have hcz45_1 : w44.cell? ⟨gb209, 1, none⟩ = some (.int .i64 t207) := (blk_cell BK209.out 1).trans rfl; have hfz45_0 := blk_frozen BK209.out 0; have hfz45_1 := blk_frozen BK209.out 1; have hcz46_0 : w44.cell? ⟨gb204, 0, none⟩ = some (.int .i64 x205000_1) := (blk_cell BK204.out 0).trans rfl; have hcz46_1 : w44.cell? ⟨gb204, 1, none⟩ = some (.int .i64 x205001_1) := (blk_cell BK204.out 1).trans rfl; have hfz46_0 := blk_frozen BK204.out 0; have hfz46_1 := blk_frozen BK204.out 1))
                        go_roundg kj9
                        case measure => have := HK1.out; have := HJ9.out; omega
                        case rel => exact ⟨(t206), (wrap64 (x6_1 + 1)), (t206), (t207), (by first | rfl | (simp; done) | (simp [*]; done)), (by first | rfl | (simp; done) | (simp [*]; done)), H', ⟨by have := HK1.out; have := HJ9.out; omega⟩, ⟨by (with_reducible repeat (first | refine blk_drewN ?_ _ | refine blk_drew ?_ | refine blk_alloc ?_ _)); refine blk_put (cs := #[.int .i64 t206, .int .i64 x205001_1]) ?_ 1 _ rfl; (with_reducible repeat (first | refine blk_drewN ?_ _ | refine blk_drew ?_ | refine blk_alloc ?_ _)); refine blk_put (cs := #[.int .i64 x205000_1, .int .i64 x205001_1]) ?_ 0 _ rfl; (with_reducible repeat (first | refine blk_drewN ?_ _ | refine blk_drew ?_ | refine blk_alloc ?_ _)); exact BK204.out⟩, ⟨by repeat (first | (with_reducible first | exact HB.out | apply below_alloc | apply pw_below_drewN | apply below_drew1 | refine below_set ?_ GE204.out | refine below_set ?_ GE209.out | refine below_set ?_ GE214.out) | exact HB.out)⟩⟩
                      · rw [if_neg c36] at H
                        have c36b0 : (t216 == 0) = false := beq_eq_false_iff_ne.mpr c36
                        have c36b1 : (t216 != 0) = true := bne_iff_ne.mpr c36
                        obtain rfl := Option.some.inj H
                        have hnb47 := NB209_204.out
                        have hnc47 := NB204_209.out
                        have hnb48 := NB209_214.out
                        have hnc48 := NB214_209.out
                        have hcz49_0 : wc.cell? ⟨gb209, 0, none⟩ = some (.int .i64 t206) := (blk_cell BK209.out 0).trans rfl
                        have hcz49_1 : wc.cell? ⟨gb209, 1, none⟩ = some (.int .i64 t207) := (blk_cell BK209.out 1).trans rfl
                        have hfz49_0 := blk_frozen BK209.out 0
                        have hfz49_1 := blk_frozen BK209.out 1
                        have hnb50 := NB204_214.out
                        have hnc50 := NB214_204.out
                        have hcz51_0 : wc.cell? ⟨gb204, 0, none⟩ = some (.int .i64 x205000_1) := (blk_cell BK204.out 0).trans rfl
                        have hcz51_1 : wc.cell? ⟨gb204, 1, none⟩ = some (.int .i64 x205001_1) := (blk_cell BK204.out 1).trans rfl
                        have hfz51_0 := blk_frozen BK204.out 0
                        have hfz51_1 := blk_frozen BK204.out 1
                        go_wp2_with (first | ((with_reducible refine gate_callee (f := 14) rfl ?_); refine goesL_ (some 51) rfl rfl Try.func14 (by kernel_rfl) rfl #[.agg #[.int .i64 t206, .int .i64 t207], .agg #[.int .i64 x205000_1, .int .i64 x205001_1]] rfl (by (try simp only [List.map_toArray, List.map_cons, List.map_nil]); first | done | rfl | (simp only [List.length_drop, List.length_take]; rfl)) ?_; (with_reducible refine (item_Compare.calls kj9 t206 t207 x205000_1 x205001_1 t215 _ A33.out).mono ?_); rintro e w52 ⟨rfl, hb⟩; refine ⟨_, rfl, ?_⟩; have n0_ := Aside0.mk (blk_below (g := gb204) (o := .cells #[.int .i64 x205000_1, .int .i64 x205001_1] 23 (0, 0)) (by (with_reducible repeat (first | refine blk_drewN ?_ _ | refine blk_drew ?_ | refine blk_alloc ?_ _)); exact BK204.out) hb); have n1_ := Aside0.mk (blk_below (g := gb209) (o := .cells #[.int .i64 t206, .int .i64 t207] 23 (0, 0)) (by (with_reducible repeat (first | refine blk_drewN ?_ _ | refine blk_drew ?_ | refine blk_alloc ?_ _)); exact BK209.out) hb); have n2_ := Aside0.mk (blk_below (g := gb214) (o := .cells #[.int .i64 t211, .int .i64 t212] 23 (0, 0)) (by (with_reducible repeat (first | refine blk_drewN ?_ _ | refine blk_drew ?_ | refine blk_alloc ?_ _)); exact BK214.out) hb); have n3_ := Aside0.mk (below_step (by repeat (first | (with_reducible first | exact HB.out | apply below_alloc | apply pw_below_drewN | apply below_drew1 | refine below_set ?_ GE204.out | refine below_set ?_ GE209.out | refine below_set ?_ GE214.out) | exact HB.out)) hb); clear BK204; clear BK209; clear BK214; clear HB; have BK204 := n0_; have BK209 := n1_; have BK214 := n2_; have HB := n3_; clear n0_ n1_ n2_ n3_; (try clear hb); (try clear hb2); (try clear hk); (try clear hi); have hcz53_0 : w52.cell? ⟨gb209, 0, none⟩ = some (.int .i64 t206) := (blk_cell BK209.out 0).trans rfl; have hcz53_1 : w52.cell? ⟨gb209, 1, none⟩ = some (.int .i64 t207) := (blk_cell BK209.out 1).trans rfl; have hfz53_0 := blk_frozen BK209.out 0; have hfz53_1 := blk_frozen BK209.out 1) | (go_at_call 22; (with_reducible refine (item_CheckVersion.calls t206 t207 t216 _ A35.out).mono ?_); rintro e w54 ⟨rfl, hb⟩; have n0_ := Aside0.mk (blk_below (g := gb204) (o := .cells #[.int .i64 x205000_1, .int .i64 x205001_1] 23 (0, 0)) (by (with_reducible repeat (first | refine blk_drewN ?_ _ | refine blk_drew ?_ | refine blk_alloc ?_ _)); exact BK204.out) hb); have n1_ := Aside0.mk (blk_below (g := gb209) (o := .cells #[.int .i64 t206, .int .i64 t207] 23 (0, 0)) (by (with_reducible repeat (first | refine blk_drewN ?_ _ | refine blk_drew ?_ | refine blk_alloc ?_ _)); exact BK209.out) hb); have n2_ := Aside0.mk (blk_below (g := gb214) (o := .cells #[.int .i64 t211, .int .i64 t212] 23 (0, 0)) (by (with_reducible repeat (first | refine blk_drewN ?_ _ | refine blk_drew ?_ | refine blk_alloc ?_ _)); exact BK214.out) hb); have n3_ := Aside0.mk (below_step (by repeat (first | (with_reducible first | exact HB.out | apply below_alloc | apply pw_below_drewN | apply below_drew1 | refine below_set ?_ GE204.out | refine below_set ?_ GE209.out | refine below_set ?_ GE214.out) | exact HB.out)) hb); clear BK204; clear BK209; clear BK214; clear HB; have BK204 := n0_; have BK209 := n1_; have BK214 := n2_; have HB := n3_; clear n0_ n1_ n2_ n3_; (try clear hb); (try clear hb2); (try clear hk); (try clear hi)))
                        go_ret
                        exact ⟨by first | rfl | (simp [errW_none, errW_some] <;> rfl) | (simp [*, errW_none, errW_some] <;> rfl), by repeat (first | (with_reducible first | exact HB.out | apply below_alloc | apply pw_below_drewN | apply below_drew1 | refine below_set ?_ GE204.out | refine below_set ?_ GE209.out | refine below_set ?_ GE214.out) | exact HB.out)⟩
                    · rw [if_neg c34] at H
                      have c34b0 : (t215 == 1) = false := beq_eq_false_iff_ne.mpr c34
                      have c34b1 : (t215 != 1) = true := bne_iff_ne.mpr c34
                      obtain rfl := Option.some.inj H
                      have hnb55 := NB209_204.out
                      have hnc55 := NB204_209.out
                      have hnb56 := NB209_214.out
                      have hnc56 := NB214_209.out
                      have hcz57_0 : wc.cell? ⟨gb209, 0, none⟩ = some (.int .i64 t206) := (blk_cell BK209.out 0).trans rfl
                      have hcz57_1 : wc.cell? ⟨gb209, 1, none⟩ = some (.int .i64 t207) := (blk_cell BK209.out 1).trans rfl
                      have hfz57_0 := blk_frozen BK209.out 0
                      have hfz57_1 := blk_frozen BK209.out 1
                      have hnb58 := NB204_214.out
                      have hnc58 := NB214_204.out
                      have hcz59_0 : wc.cell? ⟨gb204, 0, none⟩ = some (.int .i64 x205000_1) := (blk_cell BK204.out 0).trans rfl
                      have hcz59_1 : wc.cell? ⟨gb204, 1, none⟩ = some (.int .i64 x205001_1) := (blk_cell BK204.out 1).trans rfl
                      have hfz59_0 := blk_frozen BK204.out 0
                      have hfz59_1 := blk_frozen BK204.out 1
                      go_wp2_with (first | ((with_reducible refine gate_callee (f := 14) rfl ?_); refine goesL_ (some 51) rfl rfl Try.func14 (by kernel_rfl) rfl #[.agg #[.int .i64 t206, .int .i64 t207], .agg #[.int .i64 x205000_1, .int .i64 x205001_1]] rfl (by (try simp only [List.map_toArray, List.map_cons, List.map_nil]); first | done | rfl | (simp only [List.length_drop, List.length_take]; rfl)) ?_; (with_reducible refine (item_Compare.calls kj9 t206 t207 x205000_1 x205001_1 t215 _ A33.out).mono ?_); rintro e w60 ⟨rfl, hb⟩; refine ⟨_, rfl, ?_⟩; have n0_ := Aside0.mk (blk_below (g := gb204) (o := .cells #[.int .i64 x205000_1, .int .i64 x205001_1] 23 (0, 0)) (by (with_reducible repeat (first | refine blk_drewN ?_ _ | refine blk_drew ?_ | refine blk_alloc ?_ _)); exact BK204.out) hb); have n1_ := Aside0.mk (blk_below (g := gb209) (o := .cells #[.int .i64 t206, .int .i64 t207] 23 (0, 0)) (by (with_reducible repeat (first | refine blk_drewN ?_ _ | refine blk_drew ?_ | refine blk_alloc ?_ _)); exact BK209.out) hb); have n2_ := Aside0.mk (blk_below (g := gb214) (o := .cells #[.int .i64 t211, .int .i64 t212] 23 (0, 0)) (by (with_reducible repeat (first | refine blk_drewN ?_ _ | refine blk_drew ?_ | refine blk_alloc ?_ _)); exact BK214.out) hb); have n3_ := Aside0.mk (below_step (by repeat (first | (with_reducible first | exact HB.out | apply below_alloc | apply pw_below_drewN | apply below_drew1 | refine below_set ?_ GE204.out | refine below_set ?_ GE209.out | refine below_set ?_ GE214.out) | exact HB.out)) hb); clear BK204; clear BK209; clear BK214; clear HB; have BK204 := n0_; have BK209 := n1_; have BK214 := n2_; have HB := n3_; clear n0_ n1_ n2_ n3_; (try clear hb); (try clear hb2); (try clear hk); (try clear hi)))
                      go_ret
                      exact ⟨by first | rfl | (simp [errW_none, errW_some] <;> rfl) | (simp [*, errW_none, errW_some] <;> rfl), by repeat (first | (with_reducible first | exact HB.out | apply below_alloc | apply pw_below_drewN | apply below_drew1 | refine below_set ?_ GE204.out | refine below_set ?_ GE209.out | refine below_set ?_ GE214.out) | exact HB.out)⟩
                  · rw [if_neg c32] at H
                    have c32b0 : (t208 == 0) = false := beq_eq_false_iff_ne.mpr c32
                    have c32b1 : (t208 != 0) = true := bne_iff_ne.mpr c32
                    have H' := Aside0.mk H
                    clear H
                    go_wp2
                    go_roundg kj9
                    case measure => have := HK1.out; have := HJ9.out; omega
                    case rel => exact ⟨(x0_1), (wrap64 (x6_1 + 1)), (x205000_1), (x205001_1), (by first | rfl | (simp; done) | (simp [*]; done)), (by first | rfl | (simp; done) | (simp [*]; done)), H', ⟨by have := HK1.out; have := HJ9.out; omega⟩, ⟨by (with_reducible repeat (first | refine blk_drewN ?_ _ | refine blk_drew ?_ | refine blk_alloc ?_ _)); exact BK204.out⟩, ⟨by repeat (first | (with_reducible first | exact HB.out | apply below_alloc | apply pw_below_drewN | apply below_drew1 | refine below_set ?_ GE204.out | refine below_set ?_ GE209.out | refine below_set ?_ GE214.out) | exact HB.out)⟩⟩
          · rw [if_neg c7] at H
            exact absurd H (by simp)
        · rw [if_neg c6] at H
          have c6b0 : decide (x6_1 < (l1.length : Int)) = false := decide_eq_false c6
          clear c6
          obtain rfl := Option.some.inj H
          go_wp2
          go_ret
          exact ⟨by first | rfl | (simp [errW_none, errW_some] <;> rfl) | (simp [*, errW_none, errW_some] <;> rfl), by repeat (first | (with_reducible first | exact HB.out | apply below_alloc | apply pw_below_drewN | apply below_drew1 | refine below_set ?_ GE204.out) | exact HB.out)⟩

/-- THE ONE PURE STATEMENT of tidelinelaw03_ItemRises: yours. -/
def tidelinelaw03_ItemRises.Pure : Prop := ∀ (a0 : Int) (l1 : List Int), (Lit.int .i64 a0).wf = true → l1.length ≤ maxLen → l1.length * 8 ≤ 140737488351232 → (∀ x ∈ l1, (Lit.int .i64 x).wf = true) → ∃ k, tidelinelaw03_ItemRises.f k a0 l1 = some true
theorem tidelinelaw03_ItemRises.walk (P : tidelinelaw03_ItemRises.Pure) (a0 : Int) (a1 : Option Addr) (len1 cap1 : Nat) (z1 : List Int) (w : World) (w0 : (Lit.int .i64 a0).wf = true) (w1 : (a1 = none ∧ len1 = 0 ∧ cap1 = 0 ∧ z1 = []) ∨ ∃ x, a1 = some x ∧ len1 ≤ cap1 ∧ cap1 ≤ maxLen ∧ z1.length = cap1 ∧ (∀ i, i < z1.length → w.cell? (x.add i) = some (.int .i64 (z1.getD i 0))) ∧ ∀ n ∈ z1, (Lit.int .i64 n).wf = true) (y1 : len1 * 8 ≤ 140737488351232) :
    Calls Try.prog 6 #[.int .i64 a0, .slice a1 len1 cap1] w fun e w' => e = .returned (.bool true) ∧ Below w.heap.size w w' := by
  obtain ⟨l1, rfl, hr1, hm1, hw1, hc1⟩ := ReadsInt.ofRowC w1
  obtain ⟨k, h⟩ := P a0 l1 w0 hm1 y1 hw1
  refine (tidelinelaw03_ItemRises.calls k a0 _ _ l1 true w (Kd.C_of_reads (d := (0 : Int)) (h1 := fun _ => rfl) hr1) hc1 h).mono ?_
  rintro e w' ⟨rfl, hd⟩
  exact ⟨rfl, hd⟩

end Go.Proofs.Ythalodnfecaccaa.PAll
