/- For every command the law ScriptPrints answers true: its text, if it has one, is the document's, and read again it says the command. Its condition: the package-level variables that it reads (tables of strconv, math/bits and unicode/utf8, ErrRange, ErrSyntax) hold what start-up laid in them, which the card ties to the program's text, and the form's own reach. -/
import Derived.Test.YtodmbjbfigifnaaGreatDoorG7
import Derived.Test.YtodmbjbfigifnaaGreatDoorG0
import Derived.Test.YtodmbjbfigifnaaGreatDoorG3
import Derived.Test.YtodmbjbfigifnaaGreatDoorG4
import Derived.Test.YtodmbjbfigifnaaGreatDoorG8
import Derived.Test.YtodmbjbfigifnaaGreatDoorRows
import Derived.Test.YtodmbjbfigifnaaGreatDoorCards
import Derived.Test.YtodmbjbfigifnaaGreatDoorTie
import Derived.WalkKit
import Derived.ProofKit
import Derived.OpenShut
import Derived.ShutString
import Derived.ChangeOld
import Derived.Below
import Derived.SizedLaws
import Derived.Carry
import Derived.LaidMore
import Derived.Lay
import Derived.Lib.LaidTab
import Derived.Stop.LaidErr
import Derived.Stop.Joined
import Derived.SevenTiedAt
namespace Go.Proofs.YtodmbjbfigifnaaGreatDoor.PAll
open Go.RowKit Go.Proofs.YtodmbjbfigifnaaGreatDoorW.PrintWords Go.Proofs.YtodmbjbfigifnaaGreatDoorW.PrintLast Go.Proofs.YtodmbjbfigifnaaGreatDoorW.PrintMore
attribute [local go_sem] max2_int min2_int max_two min_two max_three min_three max_four min_four   -- for this text's walks alone
set_option linter.unusedVariables false
set_option linter.unusedSimpArgs false
attribute [local go_sem high] eqA25
def tidelinelaw21_ScriptPrints.j0 : Nat → ByteArray → Int → Bool → Int → Int → Int → Int → ByteArray → ByteArray → ByteArray → ByteArray → Bool → Option (Bool)
  | 0, _, _, _, _, _, _, _, _, _, _, _, _ => none
  | k + 1, x3, x4, x28, x224000, x224001, x224002, x224003, x224004, x224005, x224006, x224007, x224008 => if x28 = true then (none) else (if x4 = 0 then ((script_Parse.f x3).bind fun bt229 => (if bt229.2.2.2.2.2.2.2.2.2 = 0 then (if (bt229.1 == x224000 && (bt229.2.1 == x224001 && (bt229.2.2.1 == x224002 && (bt229.2.2.2.1 == x224003 && (bt229.2.2.2.2.1.toList == x224004.toList && (bt229.2.2.2.2.2.1.toList == x224005.toList && ((bt229.2.2.2.2.2.2.1.toList == x224006.toList && (bt229.2.2.2.2.2.2.2.1.toList == x224007.toList && (bt229.2.2.2.2.2.2.2.2.1 == x224008)))))))))) = true then (some (decide ((x3.size : Int) ≤ 400))) else (none)) else (none))) else (some true))
def tidelinelaw21_ScriptPrints.f (k : Nat) (a0_0 : Int) (a0_1 : Int) (a0_2 : Int) (a0_3 : Int) (a0_4 : ByteArray) (a0_5 : ByteArray) (a0_6 : ByteArray) (a0_7 : ByteArray) (a0_8 : Bool) : Option (Bool) := (tidelinelaw21_long.f a0_0 a0_1 a0_2 a0_3 a0_4 a0_5 a0_6 a0_7 a0_8).bind fun t224 => (if t224 = true then (some true) else ((script_Print.f a0_0 a0_1 a0_2 a0_3 a0_4 a0_5 a0_6 a0_7 a0_8).bind fun bt225 => ((tidelineref21_Print.f k a0_0 a0_1 a0_2 a0_3 a0_4 a0_5 a0_6 a0_7 a0_8).bind fun bt227 => (if bt225.1.toList = bt227.1.toList then (tidelinelaw21_ScriptPrints.j0 k bt225.1 bt225.2 (bt225.2 != bt227.2) a0_0 a0_1 a0_2 a0_3 a0_4 a0_5 a0_6 a0_7 a0_8) else (tidelinelaw21_ScriptPrints.j0 k bt225.1 bt225.2 true a0_0 a0_1 a0_2 a0_3 a0_4 a0_5 a0_6 a0_7 a0_8)))))
theorem tidelinelaw21_ScriptPrints.mono_l : ∀ k, (∀ y0 y1 y2 y3 y4 y5 y6 y7 y8 y9 y10 y11, LeO (tidelinelaw21_ScriptPrints.j0 k y0 y1 y2 y3 y4 y5 y6 y7 y8 y9 y10 y11) (tidelinelaw21_ScriptPrints.j0 (k + 1) y0 y1 y2 y3 y4 y5 y6 y7 y8 y9 y10 y11))
  | 0 => fun _ _ _ _ _ _ _ _ _ _ _ _ r h => by simp [tidelinelaw21_ScriptPrints.j0] at h
  | k + 1 => by
    have ih0 := tidelinelaw21_ScriptPrints.mono_l k
    · intro y0 y1 y2 y3 y4 y5 y6 y7 y8 y9 y10 y11
      unfold tidelinelaw21_ScriptPrints.j0
      repeat' first
      | (with_reducible exact ih0 _ _ _ _ _ _ _ _ _ _ _ _)
      | (with_reducible exact tidelineref21_Print.mono _ _ _ _ _ _ _ _ _ _)
      | (with_reducible exact LeO.refl _)
      | (with_reducible exact LeO.none _)
      | (with_reducible refine LeO.ite ?_ ?_)
      | (with_reducible refine LeO.bind ?_ (fun _ => ?_))
      | exact ih0 _ _ _ _ _ _ _ _ _ _ _ _
      | exact tidelineref21_Print.mono _ _ _ _ _ _ _ _ _ _
      | exact LeO.none _
      | refine LeO.ite ?_ ?_
      | refine LeO.bind ?_ (fun _ => ?_)
theorem tidelinelaw21_ScriptPrints.mono : ∀ a0 a1 a2 a3 a4 a5 a6 a7 a8 k, LeO (tidelinelaw21_ScriptPrints.f k a0 a1 a2 a3 a4 a5 a6 a7 a8) (tidelinelaw21_ScriptPrints.f (k + 1) a0 a1 a2 a3 a4 a5 a6 a7 a8) := by
  intro a0 a1 a2 a3 a4 a5 a6 a7 a8 k
  have ih0 := tidelinelaw21_ScriptPrints.mono_l k
  unfold tidelinelaw21_ScriptPrints.f
  repeat' first
      | (with_reducible exact ih0 _ _ _ _ _ _ _ _ _ _ _ _)
      | (with_reducible exact tidelineref21_Print.mono _ _ _ _ _ _ _ _ _ _)
      | (with_reducible exact LeO.refl _)
      | (with_reducible exact LeO.none _)
      | (with_reducible refine LeO.ite ?_ ?_)
      | (with_reducible refine LeO.bind ?_ (fun _ => ?_))
      | exact ih0 _ _ _ _ _ _ _ _ _ _ _ _
      | exact tidelineref21_Print.mono _ _ _ _ _ _ _ _ _ _
      | exact LeO.none _
      | refine LeO.ite ?_ ?_
      | refine LeO.bind ?_ (fun _ => ?_)
set_option maxHeartbeats 8000000 in
set_option maxRecDepth 100000 in
theorem tidelinelaw21_ScriptPrints.calls (k : Nat) (a0_0 : Int) (a0_1 : Int) (a0_2 : Int) (a0_3 : Int) (a0_4 : ByteArray) (a0_5 : ByteArray) (a0_6 : ByteArray) (a0_7 : ByteArray) (a0_8 : Bool) (r : Bool) (w : World) (hG : Glob.GlobOK w) (h : tidelinelaw21_ScriptPrints.f k a0_0 a0_1 a0_2 a0_3 a0_4 a0_5 a0_6 a0_7 a0_8 = some r) :
    Calls Tryz.prog 4 #[.agg #[.int .i64 a0_0, .int .i64 a0_1, .int .i64 a0_2, .int .i64 a0_3, .string a0_4, .string a0_5, .string a0_6, .string a0_7, .bool a0_8]] w fun e w' => e = .returned (.bool r) ∧ Below w.heap.size w w' := by
  have HG := Aside0.mk hG
  clear hG
  have hu25 := Tryz.underlying25
  have HB := Aside0.mk (Below.refl w.heap.size w)
  have H : ((tidelinelaw21_long.f a0_0 a0_1 a0_2 a0_3 a0_4 a0_5 a0_6 a0_7 a0_8).bind fun t224 => (if t224 = true then (some true) else ((script_Print.f a0_0 a0_1 a0_2 a0_3 a0_4 a0_5 a0_6 a0_7 a0_8).bind fun bt225 => ((tidelineref21_Print.f k a0_0 a0_1 a0_2 a0_3 a0_4 a0_5 a0_6 a0_7 a0_8).bind fun bt227 => (if bt225.1.toList = bt227.1.toList then (tidelinelaw21_ScriptPrints.j0 k bt225.1 bt225.2 (bt225.2 != bt227.2) a0_0 a0_1 a0_2 a0_3 a0_4 a0_5 a0_6 a0_7 a0_8) else (tidelinelaw21_ScriptPrints.j0 k bt225.1 bt225.2 true a0_0 a0_1 a0_2 a0_3 a0_4 a0_5 a0_6 a0_7 a0_8)))))) = some r := h
  clear h
  replace H := Option.bind_eq_some_iff.mp H
  obtain ⟨t224, A20, H⟩ := H
  replace H : (if t224 = true then (some true) else ((script_Print.f a0_0 a0_1 a0_2 a0_3 a0_4 a0_5 a0_6 a0_7 a0_8).bind fun bt225 => ((tidelineref21_Print.f k a0_0 a0_1 a0_2 a0_3 a0_4 a0_5 a0_6 a0_7 a0_8).bind fun bt227 => (if bt225.1.toList = bt227.1.toList then (tidelinelaw21_ScriptPrints.j0 k bt225.1 bt225.2 (bt225.2 != bt227.2) a0_0 a0_1 a0_2 a0_3 a0_4 a0_5 a0_6 a0_7 a0_8) else (tidelinelaw21_ScriptPrints.j0 k bt225.1 bt225.2 true a0_0 a0_1 a0_2 a0_3 a0_4 a0_5 a0_6 a0_7 a0_8))))) = some r := H
  have A2 := Aside0.mk A20
  clear A20
  by_cases c3 : t224 = true
  · subst c3
    have H1 : (some true) = some r := by rw [if_pos rfl] at H; exact H
    clear H
    have H := H1
    clear H1
    obtain rfl := Option.some.inj H
    go_enter Tryz.func4, Tryz.ntmps4
    go_wp2_with (first | ((with_reducible refine gate_dst (N := 1) rfl ?_); (try (refine gate_guard (by rfl) ?_; dsimp only)); refine box_event ?hg (N := 1) ?hd (cs := #[.int .i64 a0_0, .int .i64 a0_1, .int .i64 a0_2, .int .i64 a0_3, .string a0_4, .string a0_5, .string a0_6, .string a0_7, .bool a0_8]) (t := 25) ?hr ?_; (case hd => rfl); (case hg => rfl); (case hr => first | (go_simp; done) | (go_simp; rfl)); intro gb223 hg w4 hbox hb; have n0_ := Aside0.mk (below_step (by repeat (first | (with_reducible first | exact HB.out | apply below_alloc | apply pw_below_drewN | apply below_drew1) | exact HB.out)) hb); have n1_ := Aside0.mk (hbox); have n2_ := Aside0.mk ((by rw [hg]; exact (below_size (by repeat (first | (with_reducible first | exact HB.out | apply below_alloc | apply pw_below_drewN | apply below_drew1) | exact HB.out))) : w.heap.size ≤ gb223)); have n3_ := Aside0.mk ((by rw [hg]; exact (below_size (by repeat (first | (with_reducible first | exact HB.out | apply below_alloc | apply pw_below_drewN | apply below_drew1) | exact HB.out))) : w.heap.size ≤ gb223)); clear HB; have HB := n0_; have BK223 := n1_; have GW223 := n2_; have GE223 := n3_; clear n0_ n1_ n2_ n3_; clear hb hbox hg; have hcz5_0 : w4.cell? ⟨gb223, 0, none⟩ = some (.int .i64 a0_0) := (blk_cell BK223.out 0).trans rfl; have hcz5_1 : w4.cell? ⟨gb223, 1, none⟩ = some (.int .i64 a0_1) := (blk_cell BK223.out 1).trans rfl; have hcz5_2 : w4.cell? ⟨gb223, 2, none⟩ = some (.int .i64 a0_2) := (blk_cell BK223.out 2).trans rfl; have hcz5_3 : w4.cell? ⟨gb223, 3, none⟩ = some (.int .i64 a0_3) := (blk_cell BK223.out 3).trans rfl; have hcz5_4 : w4.cell? ⟨gb223, 4, none⟩ = some (.string a0_4) := (blk_cell BK223.out 4).trans rfl; have hcz5_5 : w4.cell? ⟨gb223, 5, none⟩ = some (.string a0_5) := (blk_cell BK223.out 5).trans rfl; have hcz5_6 : w4.cell? ⟨gb223, 6, none⟩ = some (.string a0_6) := (blk_cell BK223.out 6).trans rfl; have hcz5_7 : w4.cell? ⟨gb223, 7, none⟩ = some (.string a0_7) := (blk_cell BK223.out 7).trans rfl; have hcz5_8 : w4.cell? ⟨gb223, 8, none⟩ = some (.bool a0_8) := (blk_cell BK223.out 8).trans rfl; have hfz5_0 := blk_frozen BK223.out 0; have hfz5_1 := blk_frozen BK223.out 1; have hfz5_2 := blk_frozen BK223.out 2; have hfz5_3 := blk_frozen BK223.out 3; have hfz5_4 := blk_frozen BK223.out 4; have hfz5_5 := blk_frozen BK223.out 5; have hfz5_6 := blk_frozen BK223.out 6; have hfz5_7 := blk_frozen BK223.out 7; have hfz5_8 := blk_frozen BK223.out 8) | ((with_reducible refine gate_callee (f := 6) rfl ?_); refine goesL_ (some 10) rfl rfl Tryz.func6 (by kernel_rfl) rfl #[.agg #[.int .i64 a0_0, .int .i64 a0_1, .int .i64 a0_2, .int .i64 a0_3, .string a0_4, .string a0_5, .string a0_6, .string a0_7, .bool a0_8]] rfl (by (try simp only [List.map_toArray, List.map_cons, List.map_nil]); first | done | rfl | (simp only [List.length_drop, List.length_take]; rfl)) ?_; (with_reducible refine (tidelinelaw21_long.calls a0_0 a0_1 a0_2 a0_3 a0_4 a0_5 a0_6 a0_7 a0_8 true _ A2.out).mono ?_); rintro e w6 ⟨rfl, hb⟩; refine ⟨_, rfl, ?_⟩; have n0_ := Aside0.mk (blk_below (g := gb223) (o := .cells #[.int .i64 a0_0, .int .i64 a0_1, .int .i64 a0_2, .int .i64 a0_3, .string a0_4, .string a0_5, .string a0_6, .string a0_7, .bool a0_8] 25 (0, 0)) (by (with_reducible repeat (first | refine blk_drewN ?_ _ | refine blk_drew ?_ | refine blk_alloc ?_ _)); exact BK223.out) hb); have n1_ := Aside0.mk (below_step (by repeat (first | (with_reducible first | exact HB.out | apply below_alloc | apply pw_below_drewN | apply below_drew1 | refine below_set ?_ GE223.out) | exact HB.out)) hb); clear BK223; clear HB; have BK223 := n0_; have HB := n1_; clear n0_ n1_; (try clear hb); (try clear hb2); (try clear hk); (try clear hi)))
    go_ret
    exact ⟨by first | rfl | (simp [errW_none, errW_some] <;> rfl) | (simp [*, errW_none, errW_some] <;> rfl), by repeat (first | (with_reducible first | exact HB.out | apply below_alloc | apply pw_below_drewN | apply below_drew1 | refine below_set ?_ GE223.out) | exact HB.out)⟩
  · replace c3 := Bool.eq_false_iff.mpr c3
    subst c3
    have H1 : ((script_Print.f a0_0 a0_1 a0_2 a0_3 a0_4 a0_5 a0_6 a0_7 a0_8).bind fun bt225 => ((tidelineref21_Print.f k a0_0 a0_1 a0_2 a0_3 a0_4 a0_5 a0_6 a0_7 a0_8).bind fun bt227 => (if bt225.1.toList = bt227.1.toList then (tidelinelaw21_ScriptPrints.j0 k bt225.1 bt225.2 (bt225.2 != bt227.2) a0_0 a0_1 a0_2 a0_3 a0_4 a0_5 a0_6 a0_7 a0_8) else (tidelinelaw21_ScriptPrints.j0 k bt225.1 bt225.2 true a0_0 a0_1 a0_2 a0_3 a0_4 a0_5 a0_6 a0_7 a0_8)))) = some r := by rw [if_neg (show ¬ (false = true) by decide)] at H; exact H
    clear H
    have H := H1
    clear H1
    replace H := Option.bind_eq_some_iff.mp H
    obtain ⟨⟨t225, t226⟩, A70, H⟩ := H
    replace H : ((tidelineref21_Print.f k a0_0 a0_1 a0_2 a0_3 a0_4 a0_5 a0_6 a0_7 a0_8).bind fun bt227 => (if t225.toList = bt227.1.toList then (tidelinelaw21_ScriptPrints.j0 k t225 t226 (t226 != bt227.2) a0_0 a0_1 a0_2 a0_3 a0_4 a0_5 a0_6 a0_7 a0_8) else (tidelinelaw21_ScriptPrints.j0 k t225 t226 true a0_0 a0_1 a0_2 a0_3 a0_4 a0_5 a0_6 a0_7 a0_8))) = some r := H
    have A7 := Aside0.mk A70
    clear A70
    replace H := Option.bind_eq_some_iff.mp H
    obtain ⟨⟨t227, t228⟩, A80, H⟩ := H
    replace H : (if t225.toList = t227.toList then (tidelinelaw21_ScriptPrints.j0 k t225 t226 (t226 != t228) a0_0 a0_1 a0_2 a0_3 a0_4 a0_5 a0_6 a0_7 a0_8) else (tidelinelaw21_ScriptPrints.j0 k t225 t226 true a0_0 a0_1 a0_2 a0_3 a0_4 a0_5 a0_6 a0_7 a0_8)) = some r := H
    have A8 := Aside0.mk A80
    clear A80
    have HC9 := Aside0.mk H
    clear H
    go_enter Tryz.func4, Tryz.ntmps4
    go_upto_region 5 with (first | ((with_reducible refine gate_dst (N := 1) rfl ?_); (try (refine gate_guard (by rfl) ?_; dsimp only)); refine box_event ?hg (N := 1) ?hd (cs := #[.int .i64 a0_0, .int .i64 a0_1, .int .i64 a0_2, .int .i64 a0_3, .string a0_4, .string a0_5, .string a0_6, .string a0_7, .bool a0_8]) (t := 25) ?hr ?_; (case hd => rfl); (case hg => rfl); (case hr => first | (go_simp; done) | (go_simp; rfl)); intro gb223 hg w10 hbox hb; have n0_ := Aside0.mk (below_step (by repeat (first | (with_reducible first | exact HB.out | apply below_alloc | apply pw_below_drewN | apply below_drew1) | exact HB.out)) hb); have n1_ := Aside0.mk (hbox); have n2_ := Aside0.mk ((by rw [hg]; exact (below_size (by repeat (first | (with_reducible first | exact HB.out | apply below_alloc | apply pw_below_drewN | apply below_drew1) | exact HB.out))) : w.heap.size ≤ gb223)); have n3_ := Aside0.mk ((by rw [hg]; exact (below_size (by repeat (first | (with_reducible first | exact HB.out | apply below_alloc | apply pw_below_drewN | apply below_drew1) | exact HB.out))) : w.heap.size ≤ gb223)); clear HB; have HB := n0_; have BK223 := n1_; have GW223 := n2_; have GE223 := n3_; clear n0_ n1_ n2_ n3_; clear hb hbox hg; have hcz11_0 : w10.cell? ⟨gb223, 0, none⟩ = some (.int .i64 a0_0) := (blk_cell BK223.out 0).trans rfl; have hcz11_1 : w10.cell? ⟨gb223, 1, none⟩ = some (.int .i64 a0_1) := (blk_cell BK223.out 1).trans rfl; have hcz11_2 : w10.cell? ⟨gb223, 2, none⟩ = some (.int .i64 a0_2) := (blk_cell BK223.out 2).trans rfl; have hcz11_3 : w10.cell? ⟨gb223, 3, none⟩ = some (.int .i64 a0_3) := (blk_cell BK223.out 3).trans rfl; have hcz11_4 : w10.cell? ⟨gb223, 4, none⟩ = some (.string a0_4) := (blk_cell BK223.out 4).trans rfl; have hcz11_5 : w10.cell? ⟨gb223, 5, none⟩ = some (.string a0_5) := (blk_cell BK223.out 5).trans rfl; have hcz11_6 : w10.cell? ⟨gb223, 6, none⟩ = some (.string a0_6) := (blk_cell BK223.out 6).trans rfl; have hcz11_7 : w10.cell? ⟨gb223, 7, none⟩ = some (.string a0_7) := (blk_cell BK223.out 7).trans rfl; have hcz11_8 : w10.cell? ⟨gb223, 8, none⟩ = some (.bool a0_8) := (blk_cell BK223.out 8).trans rfl; have hfz11_0 := blk_frozen BK223.out 0; have hfz11_1 := blk_frozen BK223.out 1; have hfz11_2 := blk_frozen BK223.out 2; have hfz11_3 := blk_frozen BK223.out 3; have hfz11_4 := blk_frozen BK223.out 4; have hfz11_5 := blk_frozen BK223.out 5; have hfz11_6 := blk_frozen BK223.out 6; have hfz11_7 := blk_frozen BK223.out 7; have hfz11_8 := blk_frozen BK223.out 8) | ((with_reducible refine gate_callee (f := 6) rfl ?_); refine goesL_ (some 10) rfl rfl Tryz.func6 (by kernel_rfl) rfl #[.agg #[.int .i64 a0_0, .int .i64 a0_1, .int .i64 a0_2, .int .i64 a0_3, .string a0_4, .string a0_5, .string a0_6, .string a0_7, .bool a0_8]] rfl (by (try simp only [List.map_toArray, List.map_cons, List.map_nil]); first | done | rfl | (simp only [List.length_drop, List.length_take]; rfl)) ?_; (with_reducible refine (tidelinelaw21_long.calls a0_0 a0_1 a0_2 a0_3 a0_4 a0_5 a0_6 a0_7 a0_8 false _ A2.out).mono ?_); rintro e w12 ⟨rfl, hb⟩; refine ⟨_, rfl, ?_⟩; have n0_ := Aside0.mk (blk_below (g := gb223) (o := .cells #[.int .i64 a0_0, .int .i64 a0_1, .int .i64 a0_2, .int .i64 a0_3, .string a0_4, .string a0_5, .string a0_6, .string a0_7, .bool a0_8] 25 (0, 0)) (by (with_reducible repeat (first | refine blk_drewN ?_ _ | refine blk_drew ?_ | refine blk_alloc ?_ _)); exact BK223.out) hb); have n1_ := Aside0.mk (below_step (by repeat (first | (with_reducible first | exact HB.out | apply below_alloc | apply pw_below_drewN | apply below_drew1 | refine below_set ?_ GE223.out) | exact HB.out)) hb); clear BK223; clear HB; have BK223 := n0_; have HB := n1_; clear n0_ n1_; (try clear hb); (try clear hb2); (try clear hk); (try clear hi); have hcz13_0 : w12.cell? ⟨gb223, 0, none⟩ = some (.int .i64 a0_0) := (blk_cell BK223.out 0).trans rfl; have hcz13_1 : w12.cell? ⟨gb223, 1, none⟩ = some (.int .i64 a0_1) := (blk_cell BK223.out 1).trans rfl; have hcz13_2 : w12.cell? ⟨gb223, 2, none⟩ = some (.int .i64 a0_2) := (blk_cell BK223.out 2).trans rfl; have hcz13_3 : w12.cell? ⟨gb223, 3, none⟩ = some (.int .i64 a0_3) := (blk_cell BK223.out 3).trans rfl; have hcz13_4 : w12.cell? ⟨gb223, 4, none⟩ = some (.string a0_4) := (blk_cell BK223.out 4).trans rfl; have hcz13_5 : w12.cell? ⟨gb223, 5, none⟩ = some (.string a0_5) := (blk_cell BK223.out 5).trans rfl; have hcz13_6 : w12.cell? ⟨gb223, 6, none⟩ = some (.string a0_6) := (blk_cell BK223.out 6).trans rfl; have hcz13_7 : w12.cell? ⟨gb223, 7, none⟩ = some (.string a0_7) := (blk_cell BK223.out 7).trans rfl; have hcz13_8 : w12.cell? ⟨gb223, 8, none⟩ = some (.bool a0_8) := (blk_cell BK223.out 8).trans rfl; have hfz13_0 := blk_frozen BK223.out 0; have hfz13_1 := blk_frozen BK223.out 1; have hfz13_2 := blk_frozen BK223.out 2; have hfz13_3 := blk_frozen BK223.out 3; have hfz13_4 := blk_frozen BK223.out 4; have hfz13_5 := blk_frozen BK223.out 5; have hfz13_6 := blk_frozen BK223.out 6; have hfz13_7 := blk_frozen BK223.out 7; have hfz13_8 := blk_frozen BK223.out 8) | ((with_reducible refine gate_callee (f := 7) rfl ?_); refine goesL_ (some 13) rfl rfl Tryz.func7 (by kernel_rfl) rfl #[.agg #[.int .i64 a0_0, .int .i64 a0_1, .int .i64 a0_2, .int .i64 a0_3, .string a0_4, .string a0_5, .string a0_6, .string a0_7, .bool a0_8]] rfl (by (try simp only [List.map_toArray, List.map_cons, List.map_nil]); first | done | rfl | (simp only [List.length_drop, List.length_take]; rfl)) ?_; (with_reducible refine (script_Print.calls a0_0 a0_1 a0_2 a0_3 a0_4 a0_5 a0_6 a0_7 a0_8 t225 t226 _ ?sideG A7.out).mono ?_); (case sideG => exact Glob.GlobOK.below HG.out (by repeat (first | (with_reducible first | exact HB.out | apply below_alloc | apply pw_below_drewN | apply below_drew1 | refine below_set ?_ GE223.out | refine below_set ?_ GE239.out) | exact HB.out))); rintro e w14 ⟨rfl, hb⟩; refine ⟨_, rfl, ?_⟩; have n0_ := Aside0.mk (blk_below (g := gb223) (o := .cells #[.int .i64 a0_0, .int .i64 a0_1, .int .i64 a0_2, .int .i64 a0_3, .string a0_4, .string a0_5, .string a0_6, .string a0_7, .bool a0_8] 25 (0, 0)) (by (with_reducible repeat (first | refine blk_drewN ?_ _ | refine blk_drew ?_ | refine blk_alloc ?_ _)); exact BK223.out) hb); have n1_ := Aside0.mk (below_step (by repeat (first | (with_reducible first | exact HB.out | apply below_alloc | apply pw_below_drewN | apply below_drew1 | refine below_set ?_ GE223.out) | exact HB.out)) hb); clear BK223; clear HB; have BK223 := n0_; have HB := n1_; clear n0_ n1_; (try clear hb); (try clear hb2); (try clear hk); (try clear hi); have hcz15_0 : w14.cell? ⟨gb223, 0, none⟩ = some (.int .i64 a0_0) := (blk_cell BK223.out 0).trans rfl; have hcz15_1 : w14.cell? ⟨gb223, 1, none⟩ = some (.int .i64 a0_1) := (blk_cell BK223.out 1).trans rfl; have hcz15_2 : w14.cell? ⟨gb223, 2, none⟩ = some (.int .i64 a0_2) := (blk_cell BK223.out 2).trans rfl; have hcz15_3 : w14.cell? ⟨gb223, 3, none⟩ = some (.int .i64 a0_3) := (blk_cell BK223.out 3).trans rfl; have hcz15_4 : w14.cell? ⟨gb223, 4, none⟩ = some (.string a0_4) := (blk_cell BK223.out 4).trans rfl; have hcz15_5 : w14.cell? ⟨gb223, 5, none⟩ = some (.string a0_5) := (blk_cell BK223.out 5).trans rfl; have hcz15_6 : w14.cell? ⟨gb223, 6, none⟩ = some (.string a0_6) := (blk_cell BK223.out 6).trans rfl; have hcz15_7 : w14.cell? ⟨gb223, 7, none⟩ = some (.string a0_7) := (blk_cell BK223.out 7).trans rfl; have hcz15_8 : w14.cell? ⟨gb223, 8, none⟩ = some (.bool a0_8) := (blk_cell BK223.out 8).trans rfl; have hfz15_0 := blk_frozen BK223.out 0; have hfz15_1 := blk_frozen BK223.out 1; have hfz15_2 := blk_frozen BK223.out 2; have hfz15_3 := blk_frozen BK223.out 3; have hfz15_4 := blk_frozen BK223.out 4; have hfz15_5 := blk_frozen BK223.out 5; have hfz15_6 := blk_frozen BK223.out 6; have hfz15_7 := blk_frozen BK223.out 7; have hfz15_8 := blk_frozen BK223.out 8) | ((with_reducible refine gate_callee (f := 8) rfl ?_); refine goesL_ (some 18) rfl rfl Tryz.func8 (by kernel_rfl) rfl #[.agg #[.int .i64 a0_0, .int .i64 a0_1, .int .i64 a0_2, .int .i64 a0_3, .string a0_4, .string a0_5, .string a0_6, .string a0_7, .bool a0_8]] rfl (by (try simp only [List.map_toArray, List.map_cons, List.map_nil]); first | done | rfl | (simp only [List.length_drop, List.length_take]; rfl)) ?_; (with_reducible refine (tidelineref21_Print.calls k a0_0 a0_1 a0_2 a0_3 a0_4 a0_5 a0_6 a0_7 a0_8 t227 t228 _ A8.out).mono ?_); rintro e w16 ⟨rfl, hb⟩; refine ⟨_, rfl, ?_⟩; have n0_ := Aside0.mk (blk_below (g := gb223) (o := .cells #[.int .i64 a0_0, .int .i64 a0_1, .int .i64 a0_2, .int .i64 a0_3, .string a0_4, .string a0_5, .string a0_6, .string a0_7, .bool a0_8] 25 (0, 0)) (by (with_reducible repeat (first | refine blk_drewN ?_ _ | refine blk_drew ?_ | refine blk_alloc ?_ _)); exact BK223.out) hb); have n1_ := Aside0.mk (below_step (by repeat (first | (with_reducible first | exact HB.out | apply below_alloc | apply pw_below_drewN | apply below_drew1 | refine below_set ?_ GE223.out) | exact HB.out)) hb); clear BK223; clear HB; have BK223 := n0_; have HB := n1_; clear n0_ n1_; (try clear hb); (try clear hb2); (try clear hk); (try clear hi)))
    (try simp only [Act.put, List.setIfInBounds_toArray, List.set_cons_zero, List.set_cons_succ])
    go_cut [28] (fun v28 wc => ∃ (kq : Nat) (x28_8 : Bool), v28 = .bool x28_8 ∧ Aside0 (tidelinelaw21_ScriptPrints.j0 kq t225 t226 x28_8 a0_0 a0_1 a0_2 a0_3 a0_4 a0_5 a0_6 a0_7 a0_8 = some r) ∧ Aside0 (kq ≤ k) ∧ Aside0 (wc.heap[gb223]? = some (.cells #[.int .i64 a0_0, .int .i64 a0_1, .int .i64 a0_2, .int .i64 a0_3, .string a0_4, .string a0_5, .string a0_6, .string a0_7, .bool a0_8] 25 (0, 0))) ∧ Aside0 (Below w.heap.size w wc))
    case first =>
      have H := HC9.out
      clear HC9
      by_cases c17 : t225.toList = t227.toList
      · rw [if_pos c17] at H
        have c17b0 : (t225.toList == t227.toList) = true := beq_iff_eq.mpr c17
        have c17b1 : (t225.toList != t227.toList) = false := bne_eq_false_iff_eq.mpr c17
        clear c17
        (first | rw [c17b0] | (simp only [i64_w, i32_w]; rw [c17b0]) | skip)
        have H' := Aside0.mk H
        clear H
        go_wp2
        go_meet
        case rel => exact ⟨_, ((t226 != t228)), (by first | rfl | (simp; done) | (simp [*]; done) | (simp [*, Go.Proofs.YtodmbjbfigifnaaGreatDoor.Str.bne_nil]; done)), H', ⟨by first | omega | exact Nat.le_refl _⟩, ⟨by (with_reducible repeat (first | refine blk_drewN ?_ _ | refine blk_drew ?_ | refine blk_alloc ?_ _)); exact BK223.out⟩, ⟨by repeat (first | (with_reducible first | exact HB.out | apply below_alloc | apply pw_below_drewN | apply below_drew1 | refine below_set ?_ GE223.out) | exact HB.out)⟩⟩
      · rw [if_neg c17] at H
        have c17b0 : (t225.toList == t227.toList) = false := beq_eq_false_iff_ne.mpr c17
        have c17b1 : (t225.toList != t227.toList) = true := bne_iff_ne.mpr c17
        (first | rw [c17b0] | (simp only [i64_w, i32_w]; rw [c17b0]) | skip)
        have H' := Aside0.mk H
        clear H
        go_wp2
        go_meet
        case rel => exact ⟨_, (true), (by first | rfl | (simp; done) | (simp [*]; done) | (simp [*, Go.Proofs.YtodmbjbfigifnaaGreatDoor.Str.bne_nil]; done)), H', ⟨by first | omega | exact Nat.le_refl _⟩, ⟨by (with_reducible repeat (first | refine blk_drewN ?_ _ | refine blk_drew ?_ | refine blk_alloc ?_ _)); exact BK223.out⟩, ⟨by repeat (first | (with_reducible first | exact HB.out | apply below_alloc | apply pw_below_drewN | apply below_drew1 | refine below_set ?_ GE223.out) | exact HB.out)⟩⟩
    case rest =>
      clear HC9
      try clear c1
      try clear p2
      try clear c3
      try clear c4
      try clear c6
      try clear c7
      try clear c8
      try clear c17
      try clear c17b0
      try clear c17b1
      try clear hcz11_0
      try clear hcz11_1
      try clear hcz11_2
      try clear hcz11_3
      try clear hcz11_4
      try clear hcz11_5
      try clear hcz11_6
      try clear hcz11_7
      try clear hcz11_8
      try clear hcz13_0
      try clear hcz13_1
      try clear hcz13_2
      try clear hcz13_3
      try clear hcz13_4
      try clear hcz13_5
      try clear hcz13_6
      try clear hcz13_7
      try clear hcz13_8
      try clear hcz15_0
      try clear hcz15_1
      try clear hcz15_2
      try clear hcz15_3
      try clear hcz15_4
      try clear hcz15_5
      try clear hcz15_6
      try clear hcz15_7
      try clear hcz15_8
      try clear hcz5_0
      try clear hcz5_1
      try clear hcz5_2
      try clear hcz5_3
      try clear hcz5_4
      try clear hcz5_5
      try clear hcz5_6
      try clear hcz5_7
      try clear hcz5_8
      try clear hfz11_0
      try clear hfz11_1
      try clear hfz11_2
      try clear hfz11_3
      try clear hfz11_4
      try clear hfz11_5
      try clear hfz11_6
      try clear hfz11_7
      try clear hfz11_8
      try clear hfz13_0
      try clear hfz13_1
      try clear hfz13_2
      try clear hfz13_3
      try clear hfz13_4
      try clear hfz13_5
      try clear hfz13_6
      try clear hfz13_7
      try clear hfz13_8
      try clear hfz15_0
      try clear hfz15_1
      try clear hfz15_2
      try clear hfz15_3
      try clear hfz15_4
      try clear hfz15_5
      try clear hfz15_6
      try clear hfz15_7
      try clear hfz15_8
      try clear hfz5_0
      try clear hfz5_1
      try clear hfz5_2
      try clear hfz5_3
      try clear hfz5_4
      try clear hfz5_5
      try clear hfz5_6
      try clear hfz5_7
      try clear hfz5_8
      obtain ⟨kq, x28_8, rfl, HA, HJ8, BK223, HB⟩ := hcut
      cases kq with
      | zero => exact absurd HA.out (by simp [tidelinelaw21_ScriptPrints.j0])
      | succ kj8 =>
        have H := HA.out
        clear HA
        simp only [tidelinelaw21_ScriptPrints.j0] at H
        by_cases c18 : x28_8 = true
        · subst c18
          have H1 : (none) = some r := by rw [if_pos rfl] at H; exact H
          clear H
          have H := H1
          clear H1
          exact absurd H (by simp)
        · replace c18 := Bool.eq_false_iff.mpr c18
          subst c18
          have H1 : (if t226 = 0 then ((script_Parse.f t225).bind fun bt229 => (if bt229.2.2.2.2.2.2.2.2.2 = 0 then (if (bt229.1 == a0_0 && (bt229.2.1 == a0_1 && (bt229.2.2.1 == a0_2 && (bt229.2.2.2.1 == a0_3 && (bt229.2.2.2.2.1.toList == a0_4.toList && (bt229.2.2.2.2.2.1.toList == a0_5.toList && ((bt229.2.2.2.2.2.2.1.toList == a0_6.toList && (bt229.2.2.2.2.2.2.2.1.toList == a0_7.toList && (bt229.2.2.2.2.2.2.2.2.1 == a0_8)))))))))) = true then (some (decide ((t225.size : Int) ≤ 400))) else (none)) else (none))) else (some true)) = some r := by rw [if_neg (show ¬ (false = true) by decide)] at H; exact H
          clear H
          have H := H1
          clear H1
          by_cases c19 : t226 = 0
          · rw [if_pos c19] at H
            have c19b0 : (t226 == 0) = true := beq_iff_eq.mpr c19
            have c19b1 : (t226 != 0) = false := bne_eq_false_iff_eq.mpr c19
            clear c19
            replace H := Option.bind_eq_some_iff.mp H
            obtain ⟨⟨t229, t230, t231, t232, t233, t234, t235, t236, t237, t238⟩, A200, H⟩ := H
            replace H : (if t238 = 0 then (if (t229 == a0_0 && (t230 == a0_1 && (t231 == a0_2 && (t232 == a0_3 && (t233.toList == a0_4.toList && (t234.toList == a0_5.toList && ((t235.toList == a0_6.toList && (t236.toList == a0_7.toList && (t237 == a0_8)))))))))) = true then (some (decide ((t225.size : Int) ≤ 400))) else (none)) else (none)) = some r := H
            have A20 := Aside0.mk A200
            clear A200
            by_cases c21 : t238 = 0
            · rw [if_pos c21] at H
              have c21b0 : (t238 == 0) = true := beq_iff_eq.mpr c21
              have c21b1 : (t238 != 0) = false := bne_eq_false_iff_eq.mpr c21
              clear c21
              by_cases c22 : (t229 == a0_0 && (t230 == a0_1 && (t231 == a0_2 && (t232 == a0_3 && (t233.toList == a0_4.toList && (t234.toList == a0_5.toList && ((t235.toList == a0_6.toList && (t236.toList == a0_7.toList && (t237 == a0_8)))))))))) = true
              · rw [if_pos c22] at H
                have c22b0 : (t229 == a0_0 && (t230 == a0_1 && (t231 == a0_2 && (t232 == a0_3 && (t233.toList == a0_4.toList && (t234.toList == a0_5.toList && ((t235.toList == a0_6.toList && (t236.toList == a0_7.toList && (t237 == a0_8)))))))))) = true := c22
                (try (have c22b1 : decide (t229 = a0_0 && (t230 == a0_1 && (t231 == a0_2 && (t232 == a0_3 && (t233.toList == a0_4.toList && (t234.toList == a0_5.toList && ((t235.toList == a0_6.toList && (t236.toList == a0_7.toList && (t237 == a0_8)))))))))) = true := by simpa using c22))
                (try (have c22b2 : (t229 == a0_0 && (t230 == a0_1 && (t231 == a0_2 && (t232 == a0_3 && (t233.toList == a0_4.toList && (t234.toList == a0_5.toList && ((t235.toList == a0_6.toList && (t236.toList == a0_7.toList && (t237 == a0_8)))))))))) = true := by simpa using c22))
                clear c22
                obtain rfl := Option.some.inj H
                go_wp2_with (first | ((with_reducible refine gate_callee (f := 9) rfl ?_); refine goesL_ (some 33) rfl rfl Tryz.func9 (by kernel_rfl) rfl #[.string t225] rfl (by (try simp only [List.map_toArray, List.map_cons, List.map_nil]); first | done | rfl | (simp only [List.length_drop, List.length_take]; rfl)) ?_; (with_reducible refine (script_Parse.calls t225 t229 t230 t231 t232 t233 t234 t235 t236 t237 t238 _ ?sideG A20.out).mono ?_); (case sideG => exact Glob.GlobOK.below HG.out (by repeat (first | (with_reducible first | exact HB.out | apply below_alloc | apply pw_below_drewN | apply below_drew1 | refine below_set ?_ GE223.out | refine below_set ?_ GE239.out) | exact HB.out))); rintro e w23 ⟨rfl, hb⟩; refine ⟨_, rfl, ?_⟩; have n0_ := Aside0.mk (blk_below (g := gb223) (o := .cells #[.int .i64 a0_0, .int .i64 a0_1, .int .i64 a0_2, .int .i64 a0_3, .string a0_4, .string a0_5, .string a0_6, .string a0_7, .bool a0_8] 25 (0, 0)) (by (with_reducible repeat (first | refine blk_drewN ?_ _ | refine blk_drew ?_ | refine blk_alloc ?_ _)); exact BK223.out) hb); have n1_ := Aside0.mk (below_step (by repeat (first | (with_reducible first | exact HB.out | apply below_alloc | apply pw_below_drewN | apply below_drew1 | refine below_set ?_ GE223.out) | exact HB.out)) hb); clear BK223; clear HB; have BK223 := n0_; have HB := n1_; clear n0_ n1_; (try clear hb); (try clear hb2); (try clear hk); (try clear hi)) | ((with_reducible refine gate_dst (N := 7) rfl ?_); (try (refine gate_guard (by rfl) ?_; dsimp only)); refine box_event ?hg (N := 7) ?hd (cs := #[.int .i64 0, .int .i64 0, .int .i64 0, .int .i64 0, .string (⟨#[]⟩ : ByteArray), .string (⟨#[]⟩ : ByteArray), .string (⟨#[]⟩ : ByteArray), .string (⟨#[]⟩ : ByteArray), .bool false]) (t := 25) ?hr ?_; (case hd => rfl); (case hg => rfl); (case hr => first | (go_simp; done) | (go_simp; rfl)); intro gb239 hg w24 hbox hb; have n0_ := Aside0.mk (blk_below (g := gb223) (o := .cells #[.int .i64 a0_0, .int .i64 a0_1, .int .i64 a0_2, .int .i64 a0_3, .string a0_4, .string a0_5, .string a0_6, .string a0_7, .bool a0_8] 25 (0, 0)) (by (with_reducible repeat (first | refine blk_drewN ?_ _ | refine blk_drew ?_ | refine blk_alloc ?_ _)); exact BK223.out) hb); have n1_ := Aside0.mk (below_step (by repeat (first | (with_reducible first | exact HB.out | apply below_alloc | apply pw_below_drewN | apply below_drew1 | refine below_set ?_ GE223.out) | exact HB.out)) hb); have n2_ := Aside0.mk (hbox); have n3_ := Aside0.mk ((by rw [hg]; exact (below_size (by repeat (first | (with_reducible first | exact HB.out | apply below_alloc | apply pw_below_drewN | apply below_drew1 | refine below_set ?_ GE223.out) | exact HB.out))) : w.heap.size ≤ gb239)); have n4_ := Aside0.mk ((by rw [hg]; exact (below_size (by repeat (first | (with_reducible first | exact HB.out | apply below_alloc | apply pw_below_drewN | apply below_drew1 | refine below_set ?_ GE223.out) | exact HB.out))) : w.heap.size ≤ gb239)); have n5_ := Aside0.mk ((by rw [hg]; exact Nat.ne_of_lt (blk_lt (g := gb223) (o := .cells #[.int .i64 a0_0, .int .i64 a0_1, .int .i64 a0_2, .int .i64 a0_3, .string a0_4, .string a0_5, .string a0_6, .string a0_7, .bool a0_8] 25 (0, 0)) (by (with_reducible repeat (first | refine blk_drewN ?_ _ | refine blk_drew ?_ | refine blk_alloc ?_ _)); exact BK223.out)) : gb223 ≠ gb239)); have n6_ := Aside0.mk ((by rw [hg]; exact Nat.ne_of_gt (blk_lt (g := gb223) (o := .cells #[.int .i64 a0_0, .int .i64 a0_1, .int .i64 a0_2, .int .i64 a0_3, .string a0_4, .string a0_5, .string a0_6, .string a0_7, .bool a0_8] 25 (0, 0)) (by (with_reducible repeat (first | refine blk_drewN ?_ _ | refine blk_drew ?_ | refine blk_alloc ?_ _)); exact BK223.out)) : gb239 ≠ gb223)); clear BK223; clear HB; have BK223 := n0_; have HB := n1_; have BK239 := n2_; have GW239 := n3_; have GE239 := n4_; have NB223_239 := n5_; have NB239_223 := n6_; clear n0_ n1_ n2_ n3_ n4_ n5_ n6_; clear hb hbox hg; have hnb25 := NB239_223.out; have hnc25 := NB223_239.out; have hcz26_0 : w24.cell? ⟨gb239, 0, none⟩ = some (.int .i64 0) := (blk_cell BK239.out 0).trans rfl; have hcz26_1 : w24.cell? ⟨gb239, 1, none⟩ = some (.int .i64 0) := (blk_cell BK239.out 1).trans rfl; have hcz26_2 : w24.cell? ⟨gb239, 2, none⟩ = some (.int .i64 0) := (blk_cell BK239.out 2).trans rfl; have hcz26_3 : w24.cell? ⟨gb239, 3, none⟩ = some (.int .i64 0) := (blk_cell BK239.out 3).trans rfl; have hcz26_4 : w24.cell? ⟨gb239, 4, none⟩ = some (.string (⟨#[]⟩ : ByteArray)) := (blk_cell BK239.out 4).trans rfl; have hcz26_5 : w24.cell? ⟨gb239, 5, none⟩ = some (.string (⟨#[]⟩ : ByteArray)) := (blk_cell BK239.out 5).trans rfl; have hcz26_6 : w24.cell? ⟨gb239, 6, none⟩ = some (.string (⟨#[]⟩ : ByteArray)) := (blk_cell BK239.out 6).trans rfl; have hcz26_7 : w24.cell? ⟨gb239, 7, none⟩ = some (.string (⟨#[]⟩ : ByteArray)) := (blk_cell BK239.out 7).trans rfl; have hcz26_8 : w24.cell? ⟨gb239, 8, none⟩ = some (.bool false) := (blk_cell BK239.out 8).trans rfl; have hfz26_0 := blk_frozen BK239.out 0; have hfz26_1 := blk_frozen BK239.out 1; have hfz26_2 := blk_frozen BK239.out 2; have hfz26_3 := blk_frozen BK239.out 3; have hfz26_4 := blk_frozen BK239.out 4; have hfz26_5 := blk_frozen BK239.out 5; have hfz26_6 := blk_frozen BK239.out 6; have hfz26_7 := blk_frozen BK239.out 7; have hfz26_8 := blk_frozen BK239.out 8; have hcz27_0 : w24.cell? ⟨gb223, 0, none⟩ = some (.int .i64 a0_0) := (blk_cell BK223.out 0).trans rfl; have hcz27_1 : w24.cell? ⟨gb223, 1, none⟩ = some (.int .i64 a0_1) := (blk_cell BK223.out 1).trans rfl; have hcz27_2 : w24.cell? ⟨gb223, 2, none⟩ = some (.int .i64 a0_2) := (blk_cell BK223.out 2).trans rfl; have hcz27_3 : w24.cell? ⟨gb223, 3, none⟩ = some (.int .i64 a0_3) := (blk_cell BK223.out 3).trans rfl; have hcz27_4 : w24.cell? ⟨gb223, 4, none⟩ = some (.string a0_4) := (blk_cell BK223.out 4).trans rfl; have hcz27_5 : w24.cell? ⟨gb223, 5, none⟩ = some (.string a0_5) := (blk_cell BK223.out 5).trans rfl; have hcz27_6 : w24.cell? ⟨gb223, 6, none⟩ = some (.string a0_6) := (blk_cell BK223.out 6).trans rfl; have hcz27_7 : w24.cell? ⟨gb223, 7, none⟩ = some (.string a0_7) := (blk_cell BK223.out 7).trans rfl; have hcz27_8 : w24.cell? ⟨gb223, 8, none⟩ = some (.bool a0_8) := (blk_cell BK223.out 8).trans rfl; have hfz27_0 := blk_frozen BK223.out 0; have hfz27_1 := blk_frozen BK223.out 1; have hfz27_2 := blk_frozen BK223.out 2; have hfz27_3 := blk_frozen BK223.out 3; have hfz27_4 := blk_frozen BK223.out 4; have hfz27_5 := blk_frozen BK223.out 5; have hfz27_6 := blk_frozen BK223.out 6; have hfz27_7 := blk_frozen BK223.out 7; have hfz27_8 := blk_frozen BK223.out 8))
                go_ret
                exact ⟨by first | rfl | (simp [errW_none, errW_some] <;> rfl) | (simp [*, errW_none, errW_some] <;> rfl), by repeat (first | (with_reducible first | exact HB.out | apply below_alloc | apply pw_below_drewN | apply below_drew1 | refine below_set ?_ GE223.out | refine below_set ?_ GE239.out) | exact HB.out)⟩
              · rw [if_neg c22] at H
                exact absurd H (by simp)
            · rw [if_neg c21] at H
              exact absurd H (by simp)
          · rw [if_neg c19] at H
            have c19b0 : (t226 == 0) = false := beq_eq_false_iff_ne.mpr c19
            have c19b1 : (t226 != 0) = true := bne_iff_ne.mpr c19
            obtain rfl := Option.some.inj H
            go_wp2
            go_ret
            exact ⟨by first | rfl | (simp [errW_none, errW_some] <;> rfl) | (simp [*, errW_none, errW_some] <;> rfl), by repeat (first | (with_reducible first | exact HB.out | apply below_alloc | apply pw_below_drewN | apply below_drew1 | refine below_set ?_ GE223.out) | exact HB.out)⟩
end Go.Proofs.YtodmbjbfigifnaaGreatDoor.PAll
set_option linter.unusedVariables false
namespace Go.Proofs.YtodmbjbfigifnaaGreatDoor.PAll
open Go.RowKit Go.Proofs.YtodmbjbfigifnaaGreatDoorW.PrintWords Go.Proofs.YtodmbjbfigifnaaGreatDoorW.PrintLast Go.Proofs.YtodmbjbfigifnaaGreatDoorW.PrintMore
/-- THE ONE PURE STATEMENT of tidelinelaw21_ScriptPrints. -/
def tidelinelaw21_ScriptPrints.Pure : Prop := ∀ (a0_0 : Int) (a0_1 : Int) (a0_2 : Int) (a0_3 : Int) (a0_4 : ByteArray) (a0_5 : ByteArray) (a0_6 : ByteArray) (a0_7 : ByteArray) (a0_8 : Bool), (fit25 (⟨a0_0, a0_1, a0_2, a0_3, a0_4, a0_5, (⟨a0_6, a0_7, a0_8⟩ : S23)⟩ : S25)) → ∃ k, tidelinelaw21_ScriptPrints.f k a0_0 a0_1 a0_2 a0_3 a0_4 a0_5 a0_6 a0_7 a0_8 = some true
end Go.Proofs.YtodmbjbfigifnaaGreatDoor.PAll
set_option linter.unusedVariables false
set_option linter.unusedSimpArgs false
namespace Go.Proofs.YtodmbjbfigifnaaGreatDoor.Pure
open Go.RowKit Go.Proofs.YtodmbjbfigifnaaGreatDoor.PAll Go.Proofs.YtodmbjbfigifnaaGreatDoorW.PrintWords Go.Proofs.YtodmbjbfigifnaaGreatDoorW.PrintLast Go.Proofs.YtodmbjbfigifnaaGreatDoorW.PrintMore
open Go.Proofs.YtodmbjbfigifnaaGreatDoor.Sc Go.Proofs.YtodmbjbfigifnaaGreatDoor.Glob
theorem cmp_yes {a o : OpT} (h : a = o) : (a.f0 == o.f0 && (a.f1 == o.f1 && (a.f2 == o.f2 && (a.f3 == o.f3 && (a.f4.toList == o.f4.toList && (a.f5.toList == o.f5.toList && ((a.f6.f0.toList == o.f6.f0.toList && (a.f6.f1.toList == o.f6.f1.toList && (a.f6.f2 == o.f6.f2)))))))))) = true := by
  subst h
  simp only [beq_self_eq_true, Bool.and_self]
theorem prints_of (o : OpT) (hf : fit25 o) : ∃ k, tidelinelaw21_ScriptPrints.f k o.f0 o.f1 o.f2 o.f3 o.f4 o.f5 o.f6.f0 o.f6.f1 o.f6.f2 = some true := by
  refine Ev.rounds ?_
  obtain ⟨t, ht, hl⟩ := long_f o
  refine Ev.congr (fun k => by rw [tidelinelaw21_ScriptPrints.f, ht, Option.bind_some]) ?_
  cases t with
  | true => exact evY rfl (Ev.const rfl)
  | false =>
    have hB := bounds_of hf (hl rfl)
    refine evN (by decide) (Ev.bind (Ev.const (print_ok hB)) (Ev.bind (rprint_f o hB) (evY rfl ?_)))
    rw [bne_self_eq_false]
    refine Ev.step (fun k => by rw [tidelinelaw21_ScriptPrints.j0]) (evN (by decide) ?_)
    by_cases hz : (printV o).2 = 0
    · refine evY hz ?_
      obtain ⟨ws, h1, h2, h3⟩ := printed hz
      have ha : ansW (printV o).1 = (o, 0) := by unfold ansW; rw [h3]
      have hs := (par_words h3).1
      unfold script_Parse.f
      simp only [Option.bind_some, ha]
      refine evY trivial (evY (cmp_yes rfl) (Ev.const ?_))
      rw [decide_eq_true (by omega)]
    · exact evN hz (Ev.const rfl)
theorem ScriptPrints : tidelinelaw21_ScriptPrints.Pure := fun a0 a1 a2 a3 a4 a5 a6 a7 a8 hf => prints_of ⟨a0, a1, a2, a3, a4, a5, ⟨a6, a7, a8⟩⟩ hf
end Go.Proofs.YtodmbjbfigifnaaGreatDoor.Pure
namespace Go.Proofs.YtodmbjbfigifnaaGreatDoor
open Go.ChangeMaps (open_string shut_string)
open Go.ChangeShapes Go.WideShapes Go.ChangeAt Go.WideMaps Go.WideElems Go.RowKit Go.Proofs.YtodmbjbfigifnaaGreatDoor.Dig Go.Proofs.YtodmbjbfigifnaaGreatDoor.PAll Go.Proofs.YtodmbjbfigifnaaGreatDoorW.PrintWords Go.Proofs.YtodmbjbfigifnaaGreatDoor.Open
set_option linter.unusedVariables false
def laid7 : List (String × DataW Unit) := [("math/bits.deBruijn32tab", Rows.laid_math_bits_deBruijn32tab), ("math/bits.deBruijn64tab", Rows.laid_math_bits_deBruijn64tab), ("internal/strconv.uint64pow10", Rows.laid_internal_strconv_uint64pow10), ("unicode/utf8.acceptRanges", Rows.laid_unicode_utf8_acceptRanges), ("strconv.ErrRange", Rows.laid_strconv_ErrRange), ("strconv.ErrSyntax", Rows.laid_strconv_ErrSyntax), ("unicode/utf8.first", Rows.laid_unicode_utf8_first)]
theorem own : ownKnob Tryz.prog.godebug = none := by kernel_rfl
theorem laidOut : laidOutB Tryz.prog = true := by kernel_rfl
/-- A heap that the listed data lay meets the condition (one of them is pinned: no run lays it). -/
theorem all_met (os : Os) (args : Array Value) : laidMetH Tryz.prog laid7 ((World.laidAll Tryz.prog os laid7).forCall (fun _ _ => 0) ⟨#[], args, []⟩).memory := by
  rw [MakeChecks.laidMetH_plain _ _ _ (by kernel_rfl)]
  exact laidMet_laidAll _ (by kernel_rfl) (by kernel_rfl)
theorem tab_eq : (Rows.laid_internal_strconv_uint64pow10 : DataW Unit) = Lib.tabData .u64 Lib.pow10Tab := by kernel_rfl
theorem gPow : Tryz.prog.globalNamed "internal/strconv.uint64pow10" = some 3 := by kernel_rfl
theorem tPow : (Tryz.prog.globals[3]?).map (·.type) = some 125 := by kernel_rfl
theorem gRange : Tryz.prog.globalNamed "strconv.ErrRange" = some 5 := by kernel_rfl
theorem tRange : (Tryz.prog.globals[5]?).map (·.type) = some 69 := by kernel_rfl
theorem star : "*errors.errorString" = "*" ++ "errors.errorString" := by decide
theorem row141 (u : TypeId) (h : Tryz.prog.typeName? 3 u = some "*errors.errorString") : u = 141 :=
  typeName_ptr_named (nm := "errors.errorString") (by rw [← star]; kernel_rfl) (by kernel_rfl) (by decide) u (by rw [← star]; exact h)
theorem of_laid {W : World} (h : laidMetH Tryz.prog laid7 W) : TabsOK W := by
  rw [MakeChecks.laidMetH_plain _ _ _ (by kernel_rfl)] at h
  have h3 : laidMet Tryz.prog [("internal/strconv.uint64pow10", Rows.laid_internal_strconv_uint64pow10), ("unicode/utf8.acceptRanges", Rows.laid_unicode_utf8_acceptRanges), ("strconv.ErrRange", Rows.laid_strconv_ErrRange), ("strconv.ErrSyntax", Rows.laid_strconv_ErrSyntax), ("unicode/utf8.first", Rows.laid_unicode_utf8_first)] W := h.tail.tail
  have htab : Lib.TabIs Tryz.prog W "internal/strconv.uint64pow10" .u64 Lib.pow10Tab := by
    rw [tab_eq] at h3
    exact Lib.tabIs_of_head gPow tPow Tryz.underlying125 Tryz.underlying105 (by kernel_rfl) (by kernel_rfl) h3
  obtain ⟨a, t, hv, _⟩ := laid_sentinel h3.tail.tail gRange tRange Tryz.underlying69 row141 Tryz.underlying141 Tryz.underlying143 rfl rfl Tryz.underlying9 (by kernel_rfl) (by kernel_rfl)
  refine ⟨htab, _, (World.var?_cell gRange hv 0).trans rfl, .inr ⟨_, _, rfl⟩⟩
/-- The kit's 'returnsInHanded_of_change_and', the world's shape told too. -/
theorem change_and_shaped {H : Type} {enc : TypeId × Value → H} {a : Assume} {C : Checked} {os : Os} {f : FuncId} {fn : Func} {s : ChangeSpec} {conds : List PathCond} {apart fresh handsOn again : Bool} {X : World → Array Value → Prop}
    (hX : ∀ (w w' : World) (args : Array Value), w.heap = w'.heap → X w args → X w' args)
    (own : ownKnob C.prog.godebug = none) (started : os.Started) (noInit : C.prog.inits.idxOf? f = none) (hfn : C.prog.funcs[f]? = some fn)
    (witness : ∃ (w : World) (tape : Tape) (i : Input), w.os = os ∧ (w.forCall tape i).Shaped C.prog ∧ i.vars = [] ∧ Input.okWide C.prog (w.forCall tape i) .any w.heap.size f i ∧
      ((s.pre enc C.prog fn conds apart (w.forCall tape i).memory i.args ∧ X (w.forCall tape i).memory i.args) ∧ sizedMet enc C.prog fn (OpenSpec.ofChange s) apart (w.forCall tape i).memory i.args) ∧ a.holds C.prog (lone (Frame.enter C.prog f i.args .normal) [] (w.forCall tape i)))
    (contract : ∀ (W : World) (base : Nat) (args : Array Value) (ds gs : List (DataW H)) (before : List MemPlace), W.ShapedOpen C.prog →
      (∀ (j : Nat) t v, fn.params[j]? = some t → args[j]? = some v → Value.okWide C.prog W .any base t v) →
      DataW.Whole enc C.prog fn.params.toList s.vars apart W args.toList ds gs before →
      conds.all (PathCond.test C.prog ⟨fn.params.toList, ds, s.plain.varTypes C.prog, gs⟩) = true →
      (DataW.weightsEach C.prog (fn.params.toList ++ s.plain.varTypes C.prog) (ds ++ gs)).all (· ≤ reachBytes) = true → X W args →
      a.holds C.prog (lone (Frame.enter C.prog f args .normal) [] W) →
      Calls C.prog f args W fun e W' => ∃ v, e = .returned v ∧ s.post enc C.prog fn apart fresh handsOn again W args v W') :
    ReturnsInHanded a C os f .any (fun w args => (s.pre enc C.prog fn conds apart w args ∧ X w args) ∧ sizedMet enc C.prog fn (OpenSpec.ofChange s) apart w args) (s.post enc C.prog fn apart fresh handsOn again) := by
  refine returnsInHanded_of_calls own started noInit witness ?_
  intro w tape i _ hsh _ hok hpre hholds
  obtain ⟨_, _, _, fn', hfn', _, _, _, _, hval⟩ := hok
  have e : fn' = fn := Option.some.inj (hfn'.symm.trans hfn)
  subst e
  obtain ⟨⟨⟨ds, gs, before, hw, hc⟩, hx⟩, hz⟩ := hpre
  have hw' := DataW.Whole.of_heap (w' := w.forCall tape i) (by rfl) hw
  refine (contract (w.forCall tape i) w.heap.size i.args ds gs before hsh hval hw' hc (hz.weights hw) (hX _ _ _ (by rfl) hx) hholds).mono fun e W' ⟨v, he, hp⟩ => ?_
  subst he
  exact ChangeSpec.post_blind hp
set_option maxRecDepth 100000 in
theorem lifted (os : Os) (started : os.Started) (H : Type) (enc : TypeId × Value → H) :
    ReturnsInHanded {} Tryz.checked os 4 .any (fun w args => (Rows.scriptPrintsSpec.pre enc Tryz.prog Tryz.f4 [] false w args ∧ laidMetH Tryz.prog laid7 w) ∧ sizedMet enc Tryz.prog Tryz.f4 (OpenSpec.ofChange Rows.scriptPrintsSpec) false w args)
      (Rows.scriptPrintsSpec.post enc Tryz.prog Tryz.f4 false true false false) := by
  refine change_and_shaped (C := Tryz.checked) (X := fun w _ => laidMetH Tryz.prog laid7 w) (fun _ _ _ hh h => h.of_heap hh) own started (by kernel_rfl) Tryz.func4
    (ChangeSpec.witness_shaped (enc := enc) (C := Tryz.checked) (os := os) (X := fun w _ => laidMetH Tryz.prog laid7 w) false (World.laidAll Tryz.prog os laid7) #[.agg #[.int .i64 0, .int .i64 0, .int .i64 0, .int .i64 0, .string ByteArray.empty, .string ByteArray.empty, .string ByteArray.empty, .string ByteArray.empty, .bool false]] 8 (World.laidAll_os _ _ _) (World.shaped_of_ZipB (by kernel_rfl) (by kernel_rfl)) (by kernel_rfl) (by kernel_rfl) (by kernel_rfl) (all_met os _)) ?_
  intro W base args ds gs before hshape hval0 hW _ hsz0 hL _
  have hG : Go.Proofs.YtodmbjbfigifnaaGreatDoor.Glob.GlobOK W := ⟨of_laid hL, Tryz.laysM219.s1_3 W hshape⟩
  have hsz : (DataW.weightsEach Tryz.prog (Tryz.f4.params.toList ++ Rows.scriptPrintsSpec.plain.varTypes Tryz.prog) (ds ++ gs)).all (· ≤ reachBytes) = true := hsz0
  have hval : ∀ (j : Nat) t v, Tryz.f4.params[j]? = some t → args[j]? = some v → Value.okWide Tryz.prog W .any base t v := hval0
  have hW' := hW
  obtain ⟨p, q, hA0, hV, rfl, hfz, hnd⟩ := hW
  have hA : DataW.TrodAll enc Tryz.prog W 0 (fun _ => true) true Tryz.f4.params.toList args.toList ds p := hA0
  rw [Tryz.params4] at hA hval hsz
  obtain ⟨v0, vs0, d0, ds0, p0, q0, hargs, rfl, rfl, h0, r0⟩ := trodAll_cons hA
  obtain ⟨rfl, rfl, rfl⟩ := trodAll_nil r0
  obtain rfl : args = #[v0] := by cases args; simp_all
  obtain ⟨rfl, rfl⟩ := trodVars_none hV
  have k0 := h0
  have lt0 : ∀ x ∈ p0, x.block < W.heap.size := by obtain ⟨m, hm⟩ := k0; exact DataW.trod_lt m _ _ _ hm
  have wt0 : ∀ n ∈ d0.weights Tryz.prog 25, n ≤ 140737488351232 := fun n hn => by have z := List.all_eq_true.1 hsz n (DataW.weights_mem_each (j := 0) (t := 25) rfl rfl n hn); exact of_decide_eq_true z
  obtain ⟨cs0, rfl, _⟩ := okWide_struct Tryz.underlying25 (hval 0 25 v0 rfl rfl)
  obtain ⟨fuel0, hf0⟩ := h0
  obtain ⟨y0, hK0, w0⟩ := opens25 H enc W 0 _ true fuel0 _ _ hf0 wt0
  obtain ⟨a0_0, a0_1, a0_2, a0_3, a0_4, a0_5, ⟨a0_6, a0_7, a0_8⟩⟩ := y0
  have e0 := k25_open hK0
  obtain rfl : cs0 = #[.int .i64 a0_0, .int .i64 a0_1, .int .i64 a0_2, .int .i64 a0_3, .string a0_4, .string a0_5, .string a0_6, .string a0_7, .bool a0_8] := by cases cs0; simpa [Value.cells] using e0
  obtain ⟨k, hk⟩ := Pure.ScriptPrints a0_0 a0_1 a0_2 a0_3 a0_4 a0_5 a0_6 a0_7 a0_8 w0
  refine (PAll.tidelinelaw21_ScriptPrints.calls k a0_0 a0_1 a0_2 a0_3 a0_4 a0_5 a0_6 a0_7 a0_8 true W  hG hk).mono fun e W' ⟨he, bel0⟩ => ?_
  have bel : Below W.heap.size W W' := bel0
  subst he
  exact ⟨_, rfl, _, _, _, [], _, [], hW', trodAll_mk1 (shut_bool Tryz.underlying4 _), (trodAll_cons_mk (Below.trod laidOut (by kernel_rfl) (of_decide_eq_true (by kernel_rfl)) k0 bel lt0) trodAll_mk0), rfl, bel.frame _, fun h => by cases h⟩
theorem scriptPrints_row : Rows.ScriptPrintsSaid :=
  OpenClaim.holds_of_wide 4 Tryz.f4 rfl rfl rfl rfl rfl rfl rfl ⟨rfl, rfl, rfl, rfl, rfl⟩ rfl rfl rfl rfl rfl (by kernel_rfl) Tryz.func4 (by kernel_rfl)
    (of_decide_eq_true (by kernel_rfl)) (by unfold Func.isWrapper; first | (rw [if_pos (by decide +kernel)]; kernel_rfl) | (rw [if_neg (by decide +kernel)]; exact ⟨rfl, rfl⟩))
    (fun os started H enc _ => lifted os started H enc)
theorem scriptPrints_holds : Rows.ScriptPrintsCardSaid :=
  Claim7.holds_tied_plain_at .later [] [.data, .data, .data, .data, .sentinel, .sentinel, .pinned] true (true, "fd6546008b358ad57052109803ef8042f1dbf6dc2ff188d25ca5531dbf51789d") true
    scriptPrints_row (fun _ h => by cases h) (by kernel_rfl) (fun _ h => by cases h) scriptPrints_row_tie rfl ⟨rfl, rfl⟩ (by kernel_rfl) rfl
    (fun f fn hf hfn => by
      obtain rfl : f = 4 := Option.some.inj ((show Tryz.prog.funcNamed "tideline/tidelinelaw21.ScriptPrints" = some 4 by kernel_rfl).symm.trans hf) |>.symm
      obtain rfl : fn = Tryz.f4 := (Option.some.inj (Tryz.func4.symm.trans hfn)).symm
      exact ⟨by kernel_rfl, fun j t ht => by
        rw [Tryz.params4] at ht
        have hm : t ∈ [25] := by simpa using Array.mem_of_getElem? ht
        have hall : ([25].all fun u => !Tryz.prog.wantsStandIn u) = true := by kernel_rfl
        exact (show Tryz.prog.wantsStandIn t = false by simpa using List.all_eq_true.1 hall t hm)⟩)
    (by kernel_rfl)
#print axioms scriptPrints_holds
end Go.Proofs.YtodmbjbfigifnaaGreatDoor
