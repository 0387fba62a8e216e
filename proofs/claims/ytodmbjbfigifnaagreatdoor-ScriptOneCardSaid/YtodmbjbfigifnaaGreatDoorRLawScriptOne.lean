/- For every two commands the law ScriptOne answers true: two commands of one text are one, and a command's text is in print, with no blank at either end. Its condition: the package-level variables that it reads (tables of strconv, math/bits and unicode/utf8, ErrRange, ErrSyntax) hold what start-up laid in them, which the card ties to the program's text, and the form's own reach. -/
import Derived.Test.YtodmbjbfigifnaaGreatDoorG7
import Derived.Test.YtodmbjbfigifnaaGreatDoorG0
import Derived.Test.YtodmbjbfigifnaaGreatDoorG3
import Derived.Test.YtodmbjbfigifnaaGreatDoorG4
import Derived.Test.YtodmbjbfigifnaaGreatDoorG8
import Derived.Lib.Join
import Derived.Test.YtodmbjbfigifnaaGreatDoorRows
import Derived.Test.YtodmbjbfigifnaaGreatDoorCards
import Derived.Test.YtodmbjbfigifnaaGreatDoorTie
import Derived.WalkKit
import Derived.ProofKit
import Derived.OpenShut
import Derived.ShutString
import Derived.ChangeOld
import Derived.Below
import Derived.SizedLaws
import Derived.Carry
import Derived.LaidMore
import Derived.Lay
import Derived.Lib.LaidTab
import Derived.Stop.LaidErr
import Derived.Stop.Joined
import Derived.SevenTiedAt
namespace Go.Proofs.YtodmbjbfigifnaaGreatDoor.PAll
open Go.RowKit Go.Proofs.YtodmbjbfigifnaaGreatDoorW.PrintWords Go.Proofs.YtodmbjbfigifnaaGreatDoorW.PrintLast Go.Proofs.YtodmbjbfigifnaaGreatDoorW.PrintMore
attribute [local go_sem] max2_int min2_int max_two min_two max_three min_three max_four min_four   -- for this text's walks alone
set_option linter.unusedVariables false
set_option linter.unusedSimpArgs false
attribute [local go_sem high] eqA25
mutual
def tidelinelaw21_ScriptOne.j0 : Nat → Bool → Int → Int → Int → Int → ByteArray → ByteArray → ByteArray → ByteArray → Bool → Int → Int → Int → Int → ByteArray → ByteArray → ByteArray → ByteArray → Bool → Option (Bool)
  | 0, _, _, _, _, _, _, _, _, _, _, _, _, _, _, _, _, _, _, _ => none
  | k + 1, x17, x214000, x214001, x214002, x214003, x214004, x214005, x214006, x214007, x214008, x215000, x215001, x215002, x215003, x215004, x215005, x215006, x215007, x215008 => if x17 = true then (some true) else ((script_Print.f x214000 x214001 x214002 x214003 x214004 x214005 x214006 x214007 x214008).bind fun bt217 => ((script_Print.f x215000 x215001 x215002 x215003 x215004 x215005 x215006 x215007 x215008).bind fun bt219 => ((tidelineref21_Print.f k x214000 x214001 x214002 x214003 x214004 x214005 x214006 x214007 x214008).bind fun bt221 => (if bt217.2 = bt221.2 then (if bt217.2 = 0 then (tidelinelaw21_ScriptOne.j1 k bt217.1 bt219.1 (bt219.2 != 0) x214000 x214001 x214002 x214003 x214004 x214005 x214006 x214007 x214008 x215000 x215001 x215002 x215003 x215004 x215005 x215006 x215007 x215008) else (tidelinelaw21_ScriptOne.j1 k bt217.1 bt219.1 true x214000 x214001 x214002 x214003 x214004 x214005 x214006 x214007 x214008 x215000 x215001 x215002 x215003 x215004 x215005 x215006 x215007 x215008)) else (none)))))
def tidelinelaw21_ScriptOne.j1 : Nat → ByteArray → ByteArray → Bool → Int → Int → Int → Int → ByteArray → ByteArray → ByteArray → ByteArray → Bool → Int → Int → Int → Int → ByteArray → ByteArray → ByteArray → ByteArray → Bool → Option (Bool)
  | 0, _, _, _, _, _, _, _, _, _, _, _, _, _, _, _, _, _, _, _, _, _ => none
  | k + 1, x5, x7, x41, x214000, x214001, x214002, x214003, x214004, x214005, x214006, x214007, x214008, x215000, x215001, x215002, x215003, x215004, x215005, x215006, x215007, x215008 => if x41 = true then (some true) else (tidelinelaw21_ScriptOne.l0 k x5 x7 0 x214000 x214001 x214002 x214003 x214004 x214005 x214006 x214007 x214008 x215000 x215001 x215002 x215003 x215004 x215005 x215006 x215007 x215008)
def tidelinelaw21_ScriptOne.l0 : Nat → ByteArray → ByteArray → Int → Int → Int → Int → Int → ByteArray → ByteArray → ByteArray → ByteArray → Bool → Int → Int → Int → Int → ByteArray → ByteArray → ByteArray → ByteArray → Bool → Option (Bool)
  | 0, _, _, _, _, _, _, _, _, _, _, _, _, _, _, _, _, _, _, _, _, _ => none
  | k + 1, x5, x7, x11, x214000, x214001, x214002, x214003, x214004, x214005, x214006, x214007, x214008, x215000, x215001, x215002, x215003, x215004, x215005, x215006, x215007, x215008 => if x11 < (x5.size : Int) then (if 0 ≤ x11 then (if (bt x5 x11) < 32 then (none) else (if (bt x5 x11) > 122 then (none) else (tidelinelaw21_ScriptOne.l0 k x5 x7 (wrap64 (x11 + 1)) x214000 x214001 x214002 x214003 x214004 x214005 x214006 x214007 x214008 x215000 x215001 x215002 x215003 x215004 x215005 x215006 x215007 x215008))) else (none)) else (if ((x5.toList == x7.toList) == (x214000 == x215000 && (x214001 == x215001 && (x214002 == x215002 && (x214003 == x215003 && (x214004.toList == x215004.toList && (x214005.toList == x215005.toList && ((x214006.toList == x215006.toList && (x214007.toList == x215007.toList && (x214008 == x215008))))))))))) = true then (if (x5.size : Int) > 0 then (if 0 < (x5.size : Int) then (if (bt x5 0) = 32 then (none) else (if 0 ≤ (wrap64 ((x5.size : Int) - 1)) then (if (wrap64 ((x5.size : Int) - 1)) < (x5.size : Int) then (some ((bt x5 (wrap64 ((x5.size : Int) - 1))) != 32)) else (none)) else (none))) else (none)) else (none)) else (none))
end
def tidelinelaw21_ScriptOne.f (k : Nat) (a0_0 : Int) (a0_1 : Int) (a0_2 : Int) (a0_3 : Int) (a0_4 : ByteArray) (a0_5 : ByteArray) (a0_6 : ByteArray) (a0_7 : ByteArray) (a0_8 : Bool) (a1_0 : Int) (a1_1 : Int) (a1_2 : Int) (a1_3 : Int) (a1_4 : ByteArray) (a1_5 : ByteArray) (a1_6 : ByteArray) (a1_7 : ByteArray) (a1_8 : Bool) : Option (Bool) := (tidelinelaw21_long.f a0_0 a0_1 a0_2 a0_3 a0_4 a0_5 a0_6 a0_7 a0_8).bind fun t215 => (if t215 = true then (tidelinelaw21_ScriptOne.j0 k true a0_0 a0_1 a0_2 a0_3 a0_4 a0_5 a0_6 a0_7 a0_8 a1_0 a1_1 a1_2 a1_3 a1_4 a1_5 a1_6 a1_7 a1_8) else ((tidelinelaw21_long.f a1_0 a1_1 a1_2 a1_3 a1_4 a1_5 a1_6 a1_7 a1_8).bind fun t216 => (tidelinelaw21_ScriptOne.j0 k t216 a0_0 a0_1 a0_2 a0_3 a0_4 a0_5 a0_6 a0_7 a0_8 a1_0 a1_1 a1_2 a1_3 a1_4 a1_5 a1_6 a1_7 a1_8)))
theorem tidelinelaw21_ScriptOne.mono_l : ∀ k, (∀ y0 y1 y2 y3 y4 y5 y6 y7 y8 y9 y10 y11 y12 y13 y14 y15 y16 y17 y18, LeO (tidelinelaw21_ScriptOne.j0 k y0 y1 y2 y3 y4 y5 y6 y7 y8 y9 y10 y11 y12 y13 y14 y15 y16 y17 y18) (tidelinelaw21_ScriptOne.j0 (k + 1) y0 y1 y2 y3 y4 y5 y6 y7 y8 y9 y10 y11 y12 y13 y14 y15 y16 y17 y18)) ∧ (∀ y0 y1 y2 y3 y4 y5 y6 y7 y8 y9 y10 y11 y12 y13 y14 y15 y16 y17 y18 y19 y20, LeO (tidelinelaw21_ScriptOne.j1 k y0 y1 y2 y3 y4 y5 y6 y7 y8 y9 y10 y11 y12 y13 y14 y15 y16 y17 y18 y19 y20) (tidelinelaw21_ScriptOne.j1 (k + 1) y0 y1 y2 y3 y4 y5 y6 y7 y8 y9 y10 y11 y12 y13 y14 y15 y16 y17 y18 y19 y20)) ∧ (∀ y0 y1 y2 y3 y4 y5 y6 y7 y8 y9 y10 y11 y12 y13 y14 y15 y16 y17 y18 y19 y20, LeO (tidelinelaw21_ScriptOne.l0 k y0 y1 y2 y3 y4 y5 y6 y7 y8 y9 y10 y11 y12 y13 y14 y15 y16 y17 y18 y19 y20) (tidelinelaw21_ScriptOne.l0 (k + 1) y0 y1 y2 y3 y4 y5 y6 y7 y8 y9 y10 y11 y12 y13 y14 y15 y16 y17 y18 y19 y20))
  | 0 => ⟨fun _ _ _ _ _ _ _ _ _ _ _ _ _ _ _ _ _ _ _ r h => by simp [tidelinelaw21_ScriptOne.j0] at h, fun _ _ _ _ _ _ _ _ _ _ _ _ _ _ _ _ _ _ _ _ _ r h => by simp [tidelinelaw21_ScriptOne.j1] at h, fun _ _ _ _ _ _ _ _ _ _ _ _ _ _ _ _ _ _ _ _ _ r h => by simp [tidelinelaw21_ScriptOne.l0] at h⟩
  | k + 1 => by
    obtain ⟨ih0, ih1, ih2⟩ := tidelinelaw21_ScriptOne.mono_l k
    refine ⟨?_, ?_, ?_⟩
    · intro y0 y1 y2 y3 y4 y5 y6 y7 y8 y9 y10 y11 y12 y13 y14 y15 y16 y17 y18
      unfold tidelinelaw21_ScriptOne.j0
      repeat' first
      | (with_reducible exact ih0 _ _ _ _ _ _ _ _ _ _ _ _ _ _ _ _ _ _ _)
      | (with_reducible exact ih1 _ _ _ _ _ _ _ _ _ _ _ _ _ _ _ _ _ _ _ _ _)
      | (with_reducible exact ih2 _ _ _ _ _ _ _ _ _ _ _ _ _ _ _ _ _ _ _ _ _)
      | (with_reducible exact tidelineref21_Print.mono _ _ _ _ _ _ _ _ _ _)
      | (with_reducible exact LeO.refl _)
      | (with_reducible exact LeO.none _)
      | (with_reducible refine LeO.ite ?_ ?_)
      | (with_reducible refine LeO.bind ?_ (fun _ => ?_))
      | exact ih0 _ _ _ _ _ _ _ _ _ _ _ _ _ _ _ _ _ _ _
      | exact ih1 _ _ _ _ _ _ _ _ _ _ _ _ _ _ _ _ _ _ _ _ _
      | exact ih2 _ _ _ _ _ _ _ _ _ _ _ _ _ _ _ _ _ _ _ _ _
      | exact tidelineref21_Print.mono _ _ _ _ _ _ _ _ _ _
      | exact LeO.none _
      | refine LeO.ite ?_ ?_
      | refine LeO.bind ?_ (fun _ => ?_)
    · intro y0 y1 y2 y3 y4 y5 y6 y7 y8 y9 y10 y11 y12 y13 y14 y15 y16 y17 y18 y19 y20
      unfold tidelinelaw21_ScriptOne.j1
      repeat' first
      | (with_reducible exact ih0 _ _ _ _ _ _ _ _ _ _ _ _ _ _ _ _ _ _ _)
      | (with_reducible exact ih1 _ _ _ _ _ _ _ _ _ _ _ _ _ _ _ _ _ _ _ _ _)
      | (with_reducible exact ih2 _ _ _ _ _ _ _ _ _ _ _ _ _ _ _ _ _ _ _ _ _)
      | (with_reducible exact tidelineref21_Print.mono _ _ _ _ _ _ _ _ _ _)
      | (with_reducible exact LeO.refl _)
      | (with_reducible exact LeO.none _)
      | (with_reducible refine LeO.ite ?_ ?_)
      | (with_reducible refine LeO.bind ?_ (fun _ => ?_))
      | exact ih0 _ _ _ _ _ _ _ _ _ _ _ _ _ _ _ _ _ _ _
      | exact ih1 _ _ _ _ _ _ _ _ _ _ _ _ _ _ _ _ _ _ _ _ _
      | exact ih2 _ _ _ _ _ _ _ _ _ _ _ _ _ _ _ _ _ _ _ _ _
      | exact tidelineref21_Print.mono _ _ _ _ _ _ _ _ _ _
      | exact LeO.none _
      | refine LeO.ite ?_ ?_
      | refine LeO.bind ?_ (fun _ => ?_)
    · intro y0 y1 y2 y3 y4 y5 y6 y7 y8 y9 y10 y11 y12 y13 y14 y15 y16 y17 y18 y19 y20
      unfold tidelinelaw21_ScriptOne.l0
      repeat' first
      | (with_reducible exact ih0 _ _ _ _ _ _ _ _ _ _ _ _ _ _ _ _ _ _ _)
      | (with_reducible exact ih1 _ _ _ _ _ _ _ _ _ _ _ _ _ _ _ _ _ _ _ _ _)
      | (with_reducible exact ih2 _ _ _ _ _ _ _ _ _ _ _ _ _ _ _ _ _ _ _ _ _)
      | (with_reducible exact tidelineref21_Print.mono _ _ _ _ _ _ _ _ _ _)
      | (with_reducible exact LeO.refl _)
      | (with_reducible exact LeO.none _)
      | (with_reducible refine LeO.ite ?_ ?_)
      | (with_reducible refine LeO.bind ?_ (fun _ => ?_))
      | exact ih0 _ _ _ _ _ _ _ _ _ _ _ _ _ _ _ _ _ _ _
      | exact ih1 _ _ _ _ _ _ _ _ _ _ _ _ _ _ _ _ _ _ _ _ _
      | exact ih2 _ _ _ _ _ _ _ _ _ _ _ _ _ _ _ _ _ _ _ _ _
      | exact tidelineref21_Print.mono _ _ _ _ _ _ _ _ _ _
      | exact LeO.none _
      | refine LeO.ite ?_ ?_
      | refine LeO.bind ?_ (fun _ => ?_)
theorem tidelinelaw21_ScriptOne.mono : ∀ a0 a1 a2 a3 a4 a5 a6 a7 a8 a9 a10 a11 a12 a13 a14 a15 a16 a17 k, LeO (tidelinelaw21_ScriptOne.f k a0 a1 a2 a3 a4 a5 a6 a7 a8 a9 a10 a11 a12 a13 a14 a15 a16 a17) (tidelinelaw21_ScriptOne.f (k + 1) a0 a1 a2 a3 a4 a5 a6 a7 a8 a9 a10 a11 a12 a13 a14 a15 a16 a17) := by
  intro a0 a1 a2 a3 a4 a5 a6 a7 a8 a9 a10 a11 a12 a13 a14 a15 a16 a17 k
  obtain ⟨ih0, ih1, ih2⟩ := tidelinelaw21_ScriptOne.mono_l k
  unfold tidelinelaw21_ScriptOne.f
  repeat' first
      | (with_reducible exact ih0 _ _ _ _ _ _ _ _ _ _ _ _ _ _ _ _ _ _ _)
      | (with_reducible exact ih1 _ _ _ _ _ _ _ _ _ _ _ _ _ _ _ _ _ _ _ _ _)
      | (with_reducible exact ih2 _ _ _ _ _ _ _ _ _ _ _ _ _ _ _ _ _ _ _ _ _)
      | (with_reducible exact tidelineref21_Print.mono _ _ _ _ _ _ _ _ _ _)
      | (with_reducible exact LeO.refl _)
      | (with_reducible exact LeO.none _)
      | (with_reducible refine LeO.ite ?_ ?_)
      | (with_reducible refine LeO.bind ?_ (fun _ => ?_))
      | exact ih0 _ _ _ _ _ _ _ _ _ _ _ _ _ _ _ _ _ _ _
      | exact ih1 _ _ _ _ _ _ _ _ _ _ _ _ _ _ _ _ _ _ _ _ _
      | exact ih2 _ _ _ _ _ _ _ _ _ _ _ _ _ _ _ _ _ _ _ _ _
      | exact tidelineref21_Print.mono _ _ _ _ _ _ _ _ _ _
      | exact LeO.none _
      | refine LeO.ite ?_ ?_
      | refine LeO.bind ?_ (fun _ => ?_)
set_option maxHeartbeats 8000000 in
set_option maxRecDepth 100000 in
theorem tidelinelaw21_ScriptOne.calls (k : Nat) (a0_0 : Int) (a0_1 : Int) (a0_2 : Int) (a0_3 : Int) (a0_4 : ByteArray) (a0_5 : ByteArray) (a0_6 : ByteArray) (a0_7 : ByteArray) (a0_8 : Bool) (a1_0 : Int) (a1_1 : Int) (a1_2 : Int) (a1_3 : Int) (a1_4 : ByteArray) (a1_5 : ByteArray) (a1_6 : ByteArray) (a1_7 : ByteArray) (a1_8 : Bool) (r : Bool) (w : World) (hG : Glob.GlobOK w) (h : tidelinelaw21_ScriptOne.f k a0_0 a0_1 a0_2 a0_3 a0_4 a0_5 a0_6 a0_7 a0_8 a1_0 a1_1 a1_2 a1_3 a1_4 a1_5 a1_6 a1_7 a1_8 = some r) :
    Calls Tryz.prog 3 #[.agg #[.int .i64 a0_0, .int .i64 a0_1, .int .i64 a0_2, .int .i64 a0_3, .string a0_4, .string a0_5, .string a0_6, .string a0_7, .bool a0_8], .agg #[.int .i64 a1_0, .int .i64 a1_1, .int .i64 a1_2, .int .i64 a1_3, .string a1_4, .string a1_5, .string a1_6, .string a1_7, .bool a1_8]] w fun e w' => e = .returned (.bool r) ∧ Below w.heap.size w w' := by
  have HG := Aside0.mk hG
  clear hG
  have hu25 := Tryz.underlying25
  have HB := Aside0.mk (Below.refl w.heap.size w)
  have H : ((tidelinelaw21_long.f a0_0 a0_1 a0_2 a0_3 a0_4 a0_5 a0_6 a0_7 a0_8).bind fun t215 => (if t215 = true then (tidelinelaw21_ScriptOne.j0 k true a0_0 a0_1 a0_2 a0_3 a0_4 a0_5 a0_6 a0_7 a0_8 a1_0 a1_1 a1_2 a1_3 a1_4 a1_5 a1_6 a1_7 a1_8) else ((tidelinelaw21_long.f a1_0 a1_1 a1_2 a1_3 a1_4 a1_5 a1_6 a1_7 a1_8).bind fun t216 => (tidelinelaw21_ScriptOne.j0 k t216 a0_0 a0_1 a0_2 a0_3 a0_4 a0_5 a0_6 a0_7 a0_8 a1_0 a1_1 a1_2 a1_3 a1_4 a1_5 a1_6 a1_7 a1_8)))) = some r := h
  clear h
  have HC3 := Aside0.mk H
  clear H
  go_enter Tryz.func3, Tryz.ntmps3
  go_upto_region 1 with (first | ((with_reducible refine gate_dst (N := 2) rfl ?_); (try (refine gate_guard (by rfl) ?_; dsimp only)); refine box_event ?hg (N := 2) ?hd (cs := #[.int .i64 a0_0, .int .i64 a0_1, .int .i64 a0_2, .int .i64 a0_3, .string a0_4, .string a0_5, .string a0_6, .string a0_7, .bool a0_8]) (t := 25) ?hr ?_; (case hd => rfl); (case hg => rfl); (case hr => first | (go_simp; done) | (go_simp; rfl)); intro gb213 hg w4 hbox hb; have n0_ := Aside0.mk (below_step (by repeat (first | (with_reducible first | exact HB.out | apply below_alloc | apply pw_below_drewN | apply below_drew1) | exact HB.out)) hb); have n1_ := Aside0.mk (hbox); have n2_ := Aside0.mk ((by rw [hg]; exact (below_size (by repeat (first | (with_reducible first | exact HB.out | apply below_alloc | apply pw_below_drewN | apply below_drew1) | exact HB.out))) : w.heap.size ≤ gb213)); have n3_ := Aside0.mk ((by rw [hg]; exact (below_size (by repeat (first | (with_reducible first | exact HB.out | apply below_alloc | apply pw_below_drewN | apply below_drew1) | exact HB.out))) : w.heap.size ≤ gb213)); clear HB; have HB := n0_; have BK213 := n1_; have GW213 := n2_; have GE213 := n3_; clear n0_ n1_ n2_ n3_; clear hb hbox hg) | ((with_reducible refine gate_dst (N := 3) rfl ?_); (try (refine gate_guard (by rfl) ?_; dsimp only)); refine box_event ?hg (N := 3) ?hd (cs := #[.int .i64 a1_0, .int .i64 a1_1, .int .i64 a1_2, .int .i64 a1_3, .string a1_4, .string a1_5, .string a1_6, .string a1_7, .bool a1_8]) (t := 25) ?hr ?_; (case hd => rfl); (case hg => rfl); (case hr => first | (go_simp; done) | (go_simp; rfl)); intro gb214 hg w5 hbox hb; have n0_ := Aside0.mk (blk_below (g := gb213) (o := .cells #[.int .i64 a0_0, .int .i64 a0_1, .int .i64 a0_2, .int .i64 a0_3, .string a0_4, .string a0_5, .string a0_6, .string a0_7, .bool a0_8] 25 (0, 0)) (by (with_reducible repeat (first | refine blk_drewN ?_ _ | refine blk_drew ?_ | refine blk_alloc ?_ _)); exact BK213.out) hb); have n1_ := Aside0.mk (below_step (by repeat (first | (with_reducible first | exact HB.out | apply below_alloc | apply pw_below_drewN | apply below_drew1 | refine below_set ?_ GE213.out) | exact HB.out)) hb); have n2_ := Aside0.mk (hbox); have n3_ := Aside0.mk ((by rw [hg]; exact (below_size (by repeat (first | (with_reducible first | exact HB.out | apply below_alloc | apply pw_below_drewN | apply below_drew1 | refine below_set ?_ GE213.out) | exact HB.out))) : w.heap.size ≤ gb214)); have n4_ := Aside0.mk ((by rw [hg]; exact (below_size (by repeat (first | (with_reducible first | exact HB.out | apply below_alloc | apply pw_below_drewN | apply below_drew1 | refine below_set ?_ GE213.out) | exact HB.out))) : w.heap.size ≤ gb214)); have n5_ := Aside0.mk ((by rw [hg]; exact Nat.ne_of_lt (blk_lt (g := gb213) (o := .cells #[.int .i64 a0_0, .int .i64 a0_1, .int .i64 a0_2, .int .i64 a0_3, .string a0_4, .string a0_5, .string a0_6, .string a0_7, .bool a0_8] 25 (0, 0)) (by (with_reducible repeat (first | refine blk_drewN ?_ _ | refine blk_drew ?_ | refine blk_alloc ?_ _)); exact BK213.out)) : gb213 ≠ gb214)); have n6_ := Aside0.mk ((by rw [hg]; exact Nat.ne_of_gt (blk_lt (g := gb213) (o := .cells #[.int .i64 a0_0, .int .i64 a0_1, .int .i64 a0_2, .int .i64 a0_3, .string a0_4, .string a0_5, .string a0_6, .string a0_7, .bool a0_8] 25 (0, 0)) (by (with_reducible repeat (first | refine blk_drewN ?_ _ | refine blk_drew ?_ | refine blk_alloc ?_ _)); exact BK213.out)) : gb214 ≠ gb213)); clear BK213; clear HB; have BK213 := n0_; have HB := n1_; have BK214 := n2_; have GW214 := n3_; have GE214 := n4_; have NB213_214 := n5_; have NB214_213 := n6_; clear n0_ n1_ n2_ n3_ n4_ n5_ n6_; clear hb hbox hg))
  (try simp only [Act.put, List.setIfInBounds_toArray, List.set_cons_zero, List.set_cons_succ])
  go_cut [17] (fun v17 wc => ∃ (kq : Nat) (x17_2 : Bool), v17 = .bool x17_2 ∧ Aside0 (tidelinelaw21_ScriptOne.j0 kq x17_2 a0_0 a0_1 a0_2 a0_3 a0_4 a0_5 a0_6 a0_7 a0_8 a1_0 a1_1 a1_2 a1_3 a1_4 a1_5 a1_6 a1_7 a1_8 = some r) ∧ Aside0 (kq ≤ k) ∧ Aside0 (wc.heap[gb213]? = some (.cells #[.int .i64 a0_0, .int .i64 a0_1, .int .i64 a0_2, .int .i64 a0_3, .string a0_4, .string a0_5, .string a0_6, .string a0_7, .bool a0_8] 25 (0, 0))) ∧ Aside0 (wc.heap[gb214]? = some (.cells #[.int .i64 a1_0, .int .i64 a1_1, .int .i64 a1_2, .int .i64 a1_3, .string a1_4, .string a1_5, .string a1_6, .string a1_7, .bool a1_8] 25 (0, 0))) ∧ Aside0 (Below w.heap.size w wc))
  case first =>
    have H := HC3.out
    clear HC3
    replace H := Option.bind_eq_some_iff.mp H
    obtain ⟨t215, A60, H⟩ := H
    replace H : (if t215 = true then (tidelinelaw21_ScriptOne.j0 k true a0_0 a0_1 a0_2 a0_3 a0_4 a0_5 a0_6 a0_7 a0_8 a1_0 a1_1 a1_2 a1_3 a1_4 a1_5 a1_6 a1_7 a1_8) else ((tidelinelaw21_long.f a1_0 a1_1 a1_2 a1_3 a1_4 a1_5 a1_6 a1_7 a1_8).bind fun t216 => (tidelinelaw21_ScriptOne.j0 k t216 a0_0 a0_1 a0_2 a0_3 a0_4 a0_5 a0_6 a0_7 a0_8 a1_0 a1_1 a1_2 a1_3 a1_4 a1_5 a1_6 a1_7 a1_8))) = some r := H
    have A6 := Aside0.mk A60
    clear A60
    by_cases c7 : t215 = true
    · subst c7
      have H1 : (tidelinelaw21_ScriptOne.j0 k true a0_0 a0_1 a0_2 a0_3 a0_4 a0_5 a0_6 a0_7 a0_8 a1_0 a1_1 a1_2 a1_3 a1_4 a1_5 a1_6 a1_7 a1_8) = some r := by rw [if_pos rfl] at H; exact H
      clear H
      have H := H1
      clear H1
      have H' := Aside0.mk H
      clear H
      have hnb8 := NB213_214.out
      have hnc8 := NB214_213.out
      have hcz9_0 : w5.cell? ⟨gb213, 0, none⟩ = some (.int .i64 a0_0) := (blk_cell BK213.out 0).trans rfl
      have hcz9_1 : w5.cell? ⟨gb213, 1, none⟩ = some (.int .i64 a0_1) := (blk_cell BK213.out 1).trans rfl
      have hcz9_2 : w5.cell? ⟨gb213, 2, none⟩ = some (.int .i64 a0_2) := (blk_cell BK213.out 2).trans rfl
      have hcz9_3 : w5.cell? ⟨gb213, 3, none⟩ = some (.int .i64 a0_3) := (blk_cell BK213.out 3).trans rfl
      have hcz9_4 : w5.cell? ⟨gb213, 4, none⟩ = some (.string a0_4) := (blk_cell BK213.out 4).trans rfl
      have hcz9_5 : w5.cell? ⟨gb213, 5, none⟩ = some (.string a0_5) := (blk_cell BK213.out 5).trans rfl
      have hcz9_6 : w5.cell? ⟨gb213, 6, none⟩ = some (.string a0_6) := (blk_cell BK213.out 6).trans rfl
      have hcz9_7 : w5.cell? ⟨gb213, 7, none⟩ = some (.string a0_7) := (blk_cell BK213.out 7).trans rfl
      have hcz9_8 : w5.cell? ⟨gb213, 8, none⟩ = some (.bool a0_8) := (blk_cell BK213.out 8).trans rfl
      have hfz9_0 := blk_frozen BK213.out 0
      have hfz9_1 := blk_frozen BK213.out 1
      have hfz9_2 := blk_frozen BK213.out 2
      have hfz9_3 := blk_frozen BK213.out 3
      have hfz9_4 := blk_frozen BK213.out 4
      have hfz9_5 := blk_frozen BK213.out 5
      have hfz9_6 := blk_frozen BK213.out 6
      have hfz9_7 := blk_frozen BK213.out 7
      have hfz9_8 := blk_frozen BK213.out 8
      go_wp2_with (first | ((with_reducible refine gate_callee (f := 6) rfl ?_); refine goesL_ (some 13) rfl rfl Tryz.func6 (by kernel_rfl) rfl #[.agg #[.int .i64 a0_0, .int .i64 a0_1, .int .i64 a0_2, .int .i64 a0_3, .string a0_4, .string a0_5, .string a0_6, .string a0_7, .bool a0_8]] rfl (by (try simp only [List.map_toArray, List.map_cons, List.map_nil]); first | done | rfl | (simp only [List.length_drop, List.length_take]; rfl)) ?_; (with_reducible refine (tidelinelaw21_long.calls a0_0 a0_1 a0_2 a0_3 a0_4 a0_5 a0_6 a0_7 a0_8 true _ A6.out).mono ?_); rintro e w10 ⟨rfl, hb⟩; refine ⟨_, rfl, ?_⟩; have n0_ := Aside0.mk (blk_below (g := gb213) (o := .cells #[.int .i64 a0_0, .int .i64 a0_1, .int .i64 a0_2, .int .i64 a0_3, .string a0_4, .string a0_5, .string a0_6, .string a0_7, .bool a0_8] 25 (0, 0)) (by (with_reducible repeat (first | refine blk_drewN ?_ _ | refine blk_drew ?_ | refine blk_alloc ?_ _)); exact BK213.out) hb); have n1_ := Aside0.mk (blk_below (g := gb214) (o := .cells #[.int .i64 a1_0, .int .i64 a1_1, .int .i64 a1_2, .int .i64 a1_3, .string a1_4, .string a1_5, .string a1_6, .string a1_7, .bool a1_8] 25 (0, 0)) (by (with_reducible repeat (first | refine blk_drewN ?_ _ | refine blk_drew ?_ | refine blk_alloc ?_ _)); exact BK214.out) hb); have n2_ := Aside0.mk (below_step (by repeat (first | (with_reducible first | exact HB.out | apply below_alloc | apply pw_below_drewN | apply below_drew1 | refine below_set ?_ GE213.out | refine below_set ?_ GE214.out) | exact HB.out)) hb); clear BK213; clear BK214; clear HB; have BK213 := n0_; have BK214 := n1_; have HB := n2_; clear n0_ n1_ n2_; (try clear hb); (try clear hb2); (try clear hk); (try clear hi)))
      go_meet
      case rel => exact ⟨_, (true), (by first | rfl | (simp; done) | (simp [*]; done) | (simp [*, Go.Proofs.YtodmbjbfigifnaaGreatDoor.Str.bne_nil]; done)), H', ⟨by first | omega | exact Nat.le_refl _⟩, ⟨by (with_reducible repeat (first | refine blk_drewN ?_ _ | refine blk_drew ?_ | refine blk_alloc ?_ _)); exact BK213.out⟩, ⟨by (with_reducible repeat (first | refine blk_drewN ?_ _ | refine blk_drew ?_ | refine blk_alloc ?_ _)); exact BK214.out⟩, ⟨by repeat (first | (with_reducible first | exact HB.out | apply below_alloc | apply pw_below_drewN | apply below_drew1 | refine below_set ?_ GE213.out | refine below_set ?_ GE214.out) | exact HB.out)⟩⟩
    · replace c7 := Bool.eq_false_iff.mpr c7
      subst c7
      have H1 : ((tidelinelaw21_long.f a1_0 a1_1 a1_2 a1_3 a1_4 a1_5 a1_6 a1_7 a1_8).bind fun t216 => (tidelinelaw21_ScriptOne.j0 k t216 a0_0 a0_1 a0_2 a0_3 a0_4 a0_5 a0_6 a0_7 a0_8 a1_0 a1_1 a1_2 a1_3 a1_4 a1_5 a1_6 a1_7 a1_8)) = some r := by rw [if_neg (show ¬ (false = true) by decide)] at H; exact H
      clear H
      have H := H1
      clear H1
      replace H := Option.bind_eq_some_iff.mp H
      obtain ⟨t216, A110, H⟩ := H
      replace H : (tidelinelaw21_ScriptOne.j0 k t216 a0_0 a0_1 a0_2 a0_3 a0_4 a0_5 a0_6 a0_7 a0_8 a1_0 a1_1 a1_2 a1_3 a1_4 a1_5 a1_6 a1_7 a1_8) = some r := H
      have A11 := Aside0.mk A110
      clear A110
      have H' := Aside0.mk H
      clear H
      have hnb12 := NB213_214.out
      have hnc12 := NB214_213.out
      have hcz13_0 : w5.cell? ⟨gb213, 0, none⟩ = some (.int .i64 a0_0) := (blk_cell BK213.out 0).trans rfl
      have hcz13_1 : w5.cell? ⟨gb213, 1, none⟩ = some (.int .i64 a0_1) := (blk_cell BK213.out 1).trans rfl
      have hcz13_2 : w5.cell? ⟨gb213, 2, none⟩ = some (.int .i64 a0_2) := (blk_cell BK213.out 2).trans rfl
      have hcz13_3 : w5.cell? ⟨gb213, 3, none⟩ = some (.int .i64 a0_3) := (blk_cell BK213.out 3).trans rfl
      have hcz13_4 : w5.cell? ⟨gb213, 4, none⟩ = some (.string a0_4) := (blk_cell BK213.out 4).trans rfl
      have hcz13_5 : w5.cell? ⟨gb213, 5, none⟩ = some (.string a0_5) := (blk_cell BK213.out 5).trans rfl
      have hcz13_6 : w5.cell? ⟨gb213, 6, none⟩ = some (.string a0_6) := (blk_cell BK213.out 6).trans rfl
      have hcz13_7 : w5.cell? ⟨gb213, 7, none⟩ = some (.string a0_7) := (blk_cell BK213.out 7).trans rfl
      have hcz13_8 : w5.cell? ⟨gb213, 8, none⟩ = some (.bool a0_8) := (blk_cell BK213.out 8).trans rfl
      have hfz13_0 := blk_frozen BK213.out 0
      have hfz13_1 := blk_frozen BK213.out 1
      have hfz13_2 := blk_frozen BK213.out 2
      have hfz13_3 := blk_frozen BK213.out 3
      have hfz13_4 := blk_frozen BK213.out 4
      have hfz13_5 := blk_frozen BK213.out 5
      have hfz13_6 := blk_frozen BK213.out 6
      have hfz13_7 := blk_frozen BK213.out 7
      have hfz13_8 := blk_frozen BK213.out 8
      go_wp2_with (first | ((with_reducible refine gate_callee (f := 6) rfl ?_); refine goesL_ (some 13) rfl rfl Tryz.func6 (by kernel_rfl) rfl #[.agg #[.int .i64 a0_0, .int .i64 a0_1, .int .i64 a0_2, .int .i64 a0_3, .string a0_4, .string a0_5, .string a0_6, .string a0_7, .bool a0_8]] rfl (by (try simp only [List.map_toArray, List.map_cons, List.map_nil]); first | done | rfl | (simp only [List.length_drop, List.length_take]; rfl)) ?_; (with_reducible refine (tidelinelaw21_long.calls a0_0 a0_1 a0_2 a0_3 a0_4 a0_5 a0_6 a0_7 a0_8 false _ A6.out).mono ?_); rintro e w14 ⟨rfl, hb⟩; refine ⟨_, rfl, ?_⟩; have n0_ := Aside0.mk (blk_below (g := gb213) (o := .cells #[.int .i64 a0_0, .int .i64 a0_1, .int .i64 a0_2, .int .i64 a0_3, .string a0_4, .string a0_5, .string a0_6, .string a0_7, .bool a0_8] 25 (0, 0)) (by (with_reducible repeat (first | refine blk_drewN ?_ _ | refine blk_drew ?_ | refine blk_alloc ?_ _)); exact BK213.out) hb); have n1_ := Aside0.mk (blk_below (g := gb214) (o := .cells #[.int .i64 a1_0, .int .i64 a1_1, .int .i64 a1_2, .int .i64 a1_3, .string a1_4, .string a1_5, .string a1_6, .string a1_7, .bool a1_8] 25 (0, 0)) (by (with_reducible repeat (first | refine blk_drewN ?_ _ | refine blk_drew ?_ | refine blk_alloc ?_ _)); exact BK214.out) hb); have n2_ := Aside0.mk (below_step (by repeat (first | (with_reducible first | exact HB.out | apply below_alloc | apply pw_below_drewN | apply below_drew1 | refine below_set ?_ GE213.out | refine below_set ?_ GE214.out) | exact HB.out)) hb); clear BK213; clear BK214; clear HB; have BK213 := n0_; have BK214 := n1_; have HB := n2_; clear n0_ n1_ n2_; (try clear hb); (try clear hb2); (try clear hk); (try clear hi); have hcz15_0 : w14.cell? ⟨gb214, 0, none⟩ = some (.int .i64 a1_0) := (blk_cell BK214.out 0).trans rfl; have hcz15_1 : w14.cell? ⟨gb214, 1, none⟩ = some (.int .i64 a1_1) := (blk_cell BK214.out 1).trans rfl; have hcz15_2 : w14.cell? ⟨gb214, 2, none⟩ = some (.int .i64 a1_2) := (blk_cell BK214.out 2).trans rfl; have hcz15_3 : w14.cell? ⟨gb214, 3, none⟩ = some (.int .i64 a1_3) := (blk_cell BK214.out 3).trans rfl; have hcz15_4 : w14.cell? ⟨gb214, 4, none⟩ = some (.string a1_4) := (blk_cell BK214.out 4).trans rfl; have hcz15_5 : w14.cell? ⟨gb214, 5, none⟩ = some (.string a1_5) := (blk_cell BK214.out 5).trans rfl; have hcz15_6 : w14.cell? ⟨gb214, 6, none⟩ = some (.string a1_6) := (blk_cell BK214.out 6).trans rfl; have hcz15_7 : w14.cell? ⟨gb214, 7, none⟩ = some (.string a1_7) := (blk_cell BK214.out 7).trans rfl; have hcz15_8 : w14.cell? ⟨gb214, 8, none⟩ = some (.bool a1_8) := (blk_cell BK214.out 8).trans rfl; have hfz15_0 := blk_frozen BK214.out 0; have hfz15_1 := blk_frozen BK214.out 1; have hfz15_2 := blk_frozen BK214.out 2; have hfz15_3 := blk_frozen BK214.out 3; have hfz15_4 := blk_frozen BK214.out 4; have hfz15_5 := blk_frozen BK214.out 5; have hfz15_6 := blk_frozen BK214.out 6; have hfz15_7 := blk_frozen BK214.out 7; have hfz15_8 := blk_frozen BK214.out 8) | (go_at_call 6; (with_reducible refine (tidelinelaw21_long.calls a1_0 a1_1 a1_2 a1_3 a1_4 a1_5 a1_6 a1_7 a1_8 t216 _ A11.out).mono ?_); rintro e w16 ⟨rfl, hb⟩; have n0_ := Aside0.mk (blk_below (g := gb213) (o := .cells #[.int .i64 a0_0, .int .i64 a0_1, .int .i64 a0_2, .int .i64 a0_3, .string a0_4, .string a0_5, .string a0_6, .string a0_7, .bool a0_8] 25 (0, 0)) (by (with_reducible repeat (first | refine blk_drewN ?_ _ | refine blk_drew ?_ | refine blk_alloc ?_ _)); exact BK213.out) hb); have n1_ := Aside0.mk (blk_below (g := gb214) (o := .cells #[.int .i64 a1_0, .int .i64 a1_1, .int .i64 a1_2, .int .i64 a1_3, .string a1_4, .string a1_5, .string a1_6, .string a1_7, .bool a1_8] 25 (0, 0)) (by (with_reducible repeat (first | refine blk_drewN ?_ _ | refine blk_drew ?_ | refine blk_alloc ?_ _)); exact BK214.out) hb); have n2_ := Aside0.mk (below_step (by repeat (first | (with_reducible first | exact HB.out | apply below_alloc | apply pw_below_drewN | apply below_drew1 | refine below_set ?_ GE213.out | refine below_set ?_ GE214.out) | exact HB.out)) hb); clear BK213; clear BK214; clear HB; have BK213 := n0_; have BK214 := n1_; have HB := n2_; clear n0_ n1_ n2_; (try clear hb); (try clear hb2); (try clear hk); (try clear hi)))
      go_meet
      case rel => exact ⟨_, (t216), (by first | rfl | (simp; done) | (simp [*]; done) | (simp [*, Go.Proofs.YtodmbjbfigifnaaGreatDoor.Str.bne_nil]; done)), H', ⟨by first | omega | exact Nat.le_refl _⟩, ⟨by (with_reducible repeat (first | refine blk_drewN ?_ _ | refine blk_drew ?_ | refine blk_alloc ?_ _)); exact BK213.out⟩, ⟨by (with_reducible repeat (first | refine blk_drewN ?_ _ | refine blk_drew ?_ | refine blk_alloc ?_ _)); exact BK214.out⟩, ⟨by repeat (first | (with_reducible first | exact HB.out | apply below_alloc | apply pw_below_drewN | apply below_drew1 | refine below_set ?_ GE213.out | refine below_set ?_ GE214.out) | exact HB.out)⟩⟩
  case rest =>
    clear HC3
    try clear c1
    try clear p2
    try clear c3
    try clear c6
    try clear c7
    try clear c8
    try clear c12
    try clear hcz13_0
    try clear hcz13_1
    try clear hcz13_2
    try clear hcz13_3
    try clear hcz13_4
    try clear hcz13_5
    try clear hcz13_6
    try clear hcz13_7
    try clear hcz13_8
    try clear hcz15_0
    try clear hcz15_1
    try clear hcz15_2
    try clear hcz15_3
    try clear hcz15_4
    try clear hcz15_5
    try clear hcz15_6
    try clear hcz15_7
    try clear hcz15_8
    try clear hcz9_0
    try clear hcz9_1
    try clear hcz9_2
    try clear hcz9_3
    try clear hcz9_4
    try clear hcz9_5
    try clear hcz9_6
    try clear hcz9_7
    try clear hcz9_8
    try clear hfz13_0
    try clear hfz13_1
    try clear hfz13_2
    try clear hfz13_3
    try clear hfz13_4
    try clear hfz13_5
    try clear hfz13_6
    try clear hfz13_7
    try clear hfz13_8
    try clear hfz15_0
    try clear hfz15_1
    try clear hfz15_2
    try clear hfz15_3
    try clear hfz15_4
    try clear hfz15_5
    try clear hfz15_6
    try clear hfz15_7
    try clear hfz15_8
    try clear hfz9_0
    try clear hfz9_1
    try clear hfz9_2
    try clear hfz9_3
    try clear hfz9_4
    try clear hfz9_5
    try clear hfz9_6
    try clear hfz9_7
    try clear hfz9_8
    obtain ⟨kq, x17_2, rfl, HA, HJ2, BK213, BK214, HB⟩ := hcut
    cases kq with
    | zero => exact absurd HA.out (by simp [tidelinelaw21_ScriptOne.j0])
    | succ kj2 =>
      have H := HA.out
      clear HA
      simp only [tidelinelaw21_ScriptOne.j0] at H
      by_cases c17 : x17_2 = true
      · subst c17
        have H1 : (some true) = some r := by rw [if_pos rfl] at H; exact H
        clear H
        have H := H1
        clear H1
        obtain rfl := Option.some.inj H
        go_wp2
        go_ret
        exact ⟨by first | rfl | (simp [errW_none, errW_some] <;> rfl) | (simp [*, errW_none, errW_some] <;> rfl), by repeat (first | (with_reducible first | exact HB.out | apply below_alloc | apply pw_below_drewN | apply below_drew1 | refine below_set ?_ GE213.out | refine below_set ?_ GE214.out) | exact HB.out)⟩
      · replace c17 := Bool.eq_false_iff.mpr c17
        subst c17
        have H1 : ((script_Print.f a0_0 a0_1 a0_2 a0_3 a0_4 a0_5 a0_6 a0_7 a0_8).bind fun bt217 => ((script_Print.f a1_0 a1_1 a1_2 a1_3 a1_4 a1_5 a1_6 a1_7 a1_8).bind fun bt219 => ((tidelineref21_Print.f kj2 a0_0 a0_1 a0_2 a0_3 a0_4 a0_5 a0_6 a0_7 a0_8).bind fun bt221 => (if bt217.2 = bt221.2 then (if bt217.2 = 0 then (tidelinelaw21_ScriptOne.j1 kj2 bt217.1 bt219.1 (bt219.2 != 0) a0_0 a0_1 a0_2 a0_3 a0_4 a0_5 a0_6 a0_7 a0_8 a1_0 a1_1 a1_2 a1_3 a1_4 a1_5 a1_6 a1_7 a1_8) else (tidelinelaw21_ScriptOne.j1 kj2 bt217.1 bt219.1 true a0_0 a0_1 a0_2 a0_3 a0_4 a0_5 a0_6 a0_7 a0_8 a1_0 a1_1 a1_2 a1_3 a1_4 a1_5 a1_6 a1_7 a1_8)) else (none))))) = some r := by rw [if_neg (show ¬ (false = true) by decide)] at H; exact H
        clear H
        have H := H1
        clear H1
        replace H := Option.bind_eq_some_iff.mp H
        obtain ⟨⟨t217, t218⟩, A180, H⟩ := H
        replace H : ((script_Print.f a1_0 a1_1 a1_2 a1_3 a1_4 a1_5 a1_6 a1_7 a1_8).bind fun bt219 => ((tidelineref21_Print.f kj2 a0_0 a0_1 a0_2 a0_3 a0_4 a0_5 a0_6 a0_7 a0_8).bind fun bt221 => (if t218 = bt221.2 then (if t218 = 0 then (tidelinelaw21_ScriptOne.j1 kj2 t217 bt219.1 (bt219.2 != 0) a0_0 a0_1 a0_2 a0_3 a0_4 a0_5 a0_6 a0_7 a0_8 a1_0 a1_1 a1_2 a1_3 a1_4 a1_5 a1_6 a1_7 a1_8) else (tidelinelaw21_ScriptOne.j1 kj2 t217 bt219.1 true a0_0 a0_1 a0_2 a0_3 a0_4 a0_5 a0_6 a0_7 a0_8 a1_0 a1_1 a1_2 a1_3 a1_4 a1_5 a1_6 a1_7 a1_8)) else (none)))) = some r := H
        have A18 := Aside0.mk A180
        clear A180
        replace H := Option.bind_eq_some_iff.mp H
        obtain ⟨⟨t219, t220⟩, A190, H⟩ := H
        replace H : ((tidelineref21_Print.f kj2 a0_0 a0_1 a0_2 a0_3 a0_4 a0_5 a0_6 a0_7 a0_8).bind fun bt221 => (if t218 = bt221.2 then (if t218 = 0 then (tidelinelaw21_ScriptOne.j1 kj2 t217 t219 (t220 != 0) a0_0 a0_1 a0_2 a0_3 a0_4 a0_5 a0_6 a0_7 a0_8 a1_0 a1_1 a1_2 a1_3 a1_4 a1_5 a1_6 a1_7 a1_8) else (tidelinelaw21_ScriptOne.j1 kj2 t217 t219 true a0_0 a0_1 a0_2 a0_3 a0_4 a0_5 a0_6 a0_7 a0_8 a1_0 a1_1 a1_2 a1_3 a1_4 a1_5 a1_6 a1_7 a1_8)) else (none))) = some r := H
        have A19 := Aside0.mk A190
        clear A190
        replace H := Option.bind_eq_some_iff.mp H
        obtain ⟨⟨t221, t222⟩, A200, H⟩ := H
        replace H : (if t218 = t222 then (if t218 = 0 then (tidelinelaw21_ScriptOne.j1 kj2 t217 t219 (t220 != 0) a0_0 a0_1 a0_2 a0_3 a0_4 a0_5 a0_6 a0_7 a0_8 a1_0 a1_1 a1_2 a1_3 a1_4 a1_5 a1_6 a1_7 a1_8) else (tidelinelaw21_ScriptOne.j1 kj2 t217 t219 true a0_0 a0_1 a0_2 a0_3 a0_4 a0_5 a0_6 a0_7 a0_8 a1_0 a1_1 a1_2 a1_3 a1_4 a1_5 a1_6 a1_7 a1_8)) else (none)) = some r := H
        have A20 := Aside0.mk A200
        clear A200
        by_cases c21 : t218 = t222
        · rw [if_pos c21] at H
          have c21b0 : (t218 == t222) = true := beq_iff_eq.mpr c21
          have c21b1 : (t218 != t222) = false := bne_eq_false_iff_eq.mpr c21
          clear c21
          have HC22 := Aside0.mk H
          clear H
          have hnb23 := NB213_214.out
          have hnc23 := NB214_213.out
          have hcz24_0 : wc.cell? ⟨gb213, 0, none⟩ = some (.int .i64 a0_0) := (blk_cell BK213.out 0).trans rfl
          have hcz24_1 : wc.cell? ⟨gb213, 1, none⟩ = some (.int .i64 a0_1) := (blk_cell BK213.out 1).trans rfl
          have hcz24_2 : wc.cell? ⟨gb213, 2, none⟩ = some (.int .i64 a0_2) := (blk_cell BK213.out 2).trans rfl
          have hcz24_3 : wc.cell? ⟨gb213, 3, none⟩ = some (.int .i64 a0_3) := (blk_cell BK213.out 3).trans rfl
          have hcz24_4 : wc.cell? ⟨gb213, 4, none⟩ = some (.string a0_4) := (blk_cell BK213.out 4).trans rfl
          have hcz24_5 : wc.cell? ⟨gb213, 5, none⟩ = some (.string a0_5) := (blk_cell BK213.out 5).trans rfl
          have hcz24_6 : wc.cell? ⟨gb213, 6, none⟩ = some (.string a0_6) := (blk_cell BK213.out 6).trans rfl
          have hcz24_7 : wc.cell? ⟨gb213, 7, none⟩ = some (.string a0_7) := (blk_cell BK213.out 7).trans rfl
          have hcz24_8 : wc.cell? ⟨gb213, 8, none⟩ = some (.bool a0_8) := (blk_cell BK213.out 8).trans rfl
          have hfz24_0 := blk_frozen BK213.out 0
          have hfz24_1 := blk_frozen BK213.out 1
          have hfz24_2 := blk_frozen BK213.out 2
          have hfz24_3 := blk_frozen BK213.out 3
          have hfz24_4 := blk_frozen BK213.out 4
          have hfz24_5 := blk_frozen BK213.out 5
          have hfz24_6 := blk_frozen BK213.out 6
          have hfz24_7 := blk_frozen BK213.out 7
          have hfz24_8 := blk_frozen BK213.out 8
          go_upto_region 8 with (first | ((with_reducible refine gate_callee (f := 7) rfl ?_); refine goesL_ (some 20) rfl rfl Tryz.func7 (by kernel_rfl) rfl #[.agg #[.int .i64 a0_0, .int .i64 a0_1, .int .i64 a0_2, .int .i64 a0_3, .string a0_4, .string a0_5, .string a0_6, .string a0_7, .bool a0_8]] rfl (by (try simp only [List.map_toArray, List.map_cons, List.map_nil]); first | done | rfl | (simp only [List.length_drop, List.length_take]; rfl)) ?_; (with_reducible refine (script_Print.calls a0_0 a0_1 a0_2 a0_3 a0_4 a0_5 a0_6 a0_7 a0_8 t217 t218 _ ?sideG A18.out).mono ?_); (case sideG => exact Glob.GlobOK.below HG.out (by repeat (first | (with_reducible first | exact HB.out | apply below_alloc | apply pw_below_drewN | apply below_drew1 | refine below_set ?_ GE213.out | refine below_set ?_ GE214.out) | exact HB.out))); rintro e w25 ⟨rfl, hb⟩; refine ⟨_, rfl, ?_⟩; have n0_ := Aside0.mk (blk_below (g := gb213) (o := .cells #[.int .i64 a0_0, .int .i64 a0_1, .int .i64 a0_2, .int .i64 a0_3, .string a0_4, .string a0_5, .string a0_6, .string a0_7, .bool a0_8] 25 (0, 0)) (by (with_reducible repeat (first | refine blk_drewN ?_ _ | refine blk_drew ?_ | refine blk_alloc ?_ _)); exact BK213.out) hb); have n1_ := Aside0.mk (blk_below (g := gb214) (o := .cells #[.int .i64 a1_0, .int .i64 a1_1, .int .i64 a1_2, .int .i64 a1_3, .string a1_4, .string a1_5, .string a1_6, .string a1_7, .bool a1_8] 25 (0, 0)) (by (with_reducible repeat (first | refine blk_drewN ?_ _ | refine blk_drew ?_ | refine blk_alloc ?_ _)); exact BK214.out) hb); have n2_ := Aside0.mk (below_step (by repeat (first | (with_reducible first | exact HB.out | apply below_alloc | apply pw_below_drewN | apply below_drew1 | refine below_set ?_ GE213.out | refine below_set ?_ GE214.out) | exact HB.out)) hb); clear BK213; clear BK214; clear HB; have BK213 := n0_; have BK214 := n1_; have HB := n2_; clear n0_ n1_ n2_; (try clear hb); (try clear hb2); (try clear hk); (try clear hi); have hcz26_0 : w25.cell? ⟨gb214, 0, none⟩ = some (.int .i64 a1_0) := (blk_cell BK214.out 0).trans rfl; have hcz26_1 : w25.cell? ⟨gb214, 1, none⟩ = some (.int .i64 a1_1) := (blk_cell BK214.out 1).trans rfl; have hcz26_2 : w25.cell? ⟨gb214, 2, none⟩ = some (.int .i64 a1_2) := (blk_cell BK214.out 2).trans rfl; have hcz26_3 : w25.cell? ⟨gb214, 3, none⟩ = some (.int .i64 a1_3) := (blk_cell BK214.out 3).trans rfl; have hcz26_4 : w25.cell? ⟨gb214, 4, none⟩ = some (.string a1_4) := (blk_cell BK214.out 4).trans rfl; have hcz26_5 : w25.cell? ⟨gb214, 5, none⟩ = some (.string a1_5) := (blk_cell BK214.out 5).trans rfl; have hcz26_6 : w25.cell? ⟨gb214, 6, none⟩ = some (.string a1_6) := (blk_cell BK214.out 6).trans rfl; have hcz26_7 : w25.cell? ⟨gb214, 7, none⟩ = some (.string a1_7) := (blk_cell BK214.out 7).trans rfl; have hcz26_8 : w25.cell? ⟨gb214, 8, none⟩ = some (.bool a1_8) := (blk_cell BK214.out 8).trans rfl; have hfz26_0 := blk_frozen BK214.out 0; have hfz26_1 := blk_frozen BK214.out 1; have hfz26_2 := blk_frozen BK214.out 2; have hfz26_3 := blk_frozen BK214.out 3; have hfz26_4 := blk_frozen BK214.out 4; have hfz26_5 := blk_frozen BK214.out 5; have hfz26_6 := blk_frozen BK214.out 6; have hfz26_7 := blk_frozen BK214.out 7; have hfz26_8 := blk_frozen BK214.out 8) | ((with_reducible refine gate_callee (f := 7) rfl ?_); refine goesL_ (some 25) rfl rfl Tryz.func7 (by kernel_rfl) rfl #[.agg #[.int .i64 a1_0, .int .i64 a1_1, .int .i64 a1_2, .int .i64 a1_3, .string a1_4, .string a1_5, .string a1_6, .string a1_7, .bool a1_8]] rfl (by (try simp only [List.map_toArray, List.map_cons, List.map_nil]); first | done | rfl | (simp only [List.length_drop, List.length_take]; rfl)) ?_; (with_reducible refine (script_Print.calls a1_0 a1_1 a1_2 a1_3 a1_4 a1_5 a1_6 a1_7 a1_8 t219 t220 _ ?sideG A19.out).mono ?_); (case sideG => exact Glob.GlobOK.below HG.out (by repeat (first | (with_reducible first | exact HB.out | apply below_alloc | apply pw_below_drewN | apply below_drew1 | refine below_set ?_ GE213.out | refine below_set ?_ GE214.out) | exact HB.out))); rintro e w27 ⟨rfl, hb⟩; refine ⟨_, rfl, ?_⟩; have n0_ := Aside0.mk (blk_below (g := gb213) (o := .cells #[.int .i64 a0_0, .int .i64 a0_1, .int .i64 a0_2, .int .i64 a0_3, .string a0_4, .string a0_5, .string a0_6, .string a0_7, .bool a0_8] 25 (0, 0)) (by (with_reducible repeat (first | refine blk_drewN ?_ _ | refine blk_drew ?_ | refine blk_alloc ?_ _)); exact BK213.out) hb); have n1_ := Aside0.mk (blk_below (g := gb214) (o := .cells #[.int .i64 a1_0, .int .i64 a1_1, .int .i64 a1_2, .int .i64 a1_3, .string a1_4, .string a1_5, .string a1_6, .string a1_7, .bool a1_8] 25 (0, 0)) (by (with_reducible repeat (first | refine blk_drewN ?_ _ | refine blk_drew ?_ | refine blk_alloc ?_ _)); exact BK214.out) hb); have n2_ := Aside0.mk (below_step (by repeat (first | (with_reducible first | exact HB.out | apply below_alloc | apply pw_below_drewN | apply below_drew1 | refine below_set ?_ GE213.out | refine below_set ?_ GE214.out) | exact HB.out)) hb); clear BK213; clear BK214; clear HB; have BK213 := n0_; have BK214 := n1_; have HB := n2_; clear n0_ n1_ n2_; (try clear hb); (try clear hb2); (try clear hk); (try clear hi); have hcz28_0 : w27.cell? ⟨gb213, 0, none⟩ = some (.int .i64 a0_0) := (blk_cell BK213.out 0).trans rfl; have hcz28_1 : w27.cell? ⟨gb213, 1, none⟩ = some (.int .i64 a0_1) := (blk_cell BK213.out 1).trans rfl; have hcz28_2 : w27.cell? ⟨gb213, 2, none⟩ = some (.int .i64 a0_2) := (blk_cell BK213.out 2).trans rfl; have hcz28_3 : w27.cell? ⟨gb213, 3, none⟩ = some (.int .i64 a0_3) := (blk_cell BK213.out 3).trans rfl; have hcz28_4 : w27.cell? ⟨gb213, 4, none⟩ = some (.string a0_4) := (blk_cell BK213.out 4).trans rfl; have hcz28_5 : w27.cell? ⟨gb213, 5, none⟩ = some (.string a0_5) := (blk_cell BK213.out 5).trans rfl; have hcz28_6 : w27.cell? ⟨gb213, 6, none⟩ = some (.string a0_6) := (blk_cell BK213.out 6).trans rfl; have hcz28_7 : w27.cell? ⟨gb213, 7, none⟩ = some (.string a0_7) := (blk_cell BK213.out 7).trans rfl; have hcz28_8 : w27.cell? ⟨gb213, 8, none⟩ = some (.bool a0_8) := (blk_cell BK213.out 8).trans rfl; have hfz28_0 := blk_frozen BK213.out 0; have hfz28_1 := blk_frozen BK213.out 1; have hfz28_2 := blk_frozen BK213.out 2; have hfz28_3 := blk_frozen BK213.out 3; have hfz28_4 := blk_frozen BK213.out 4; have hfz28_5 := blk_frozen BK213.out 5; have hfz28_6 := blk_frozen BK213.out 6; have hfz28_7 := blk_frozen BK213.out 7; have hfz28_8 := blk_frozen BK213.out 8) | ((with_reducible refine gate_callee (f := 8) rfl ?_); refine goesL_ (some 30) rfl rfl Tryz.func8 (by kernel_rfl) rfl #[.agg #[.int .i64 a0_0, .int .i64 a0_1, .int .i64 a0_2, .int .i64 a0_3, .string a0_4, .string a0_5, .string a0_6, .string a0_7, .bool a0_8]] rfl (by (try simp only [List.map_toArray, List.map_cons, List.map_nil]); first | done | rfl | (simp only [List.length_drop, List.length_take]; rfl)) ?_; (with_reducible refine (tidelineref21_Print.calls kj2 a0_0 a0_1 a0_2 a0_3 a0_4 a0_5 a0_6 a0_7 a0_8 t221 t222 _ A20.out).mono ?_); rintro e w29 ⟨rfl, hb⟩; refine ⟨_, rfl, ?_⟩; have n0_ := Aside0.mk (blk_below (g := gb213) (o := .cells #[.int .i64 a0_0, .int .i64 a0_1, .int .i64 a0_2, .int .i64 a0_3, .string a0_4, .string a0_5, .string a0_6, .string a0_7, .bool a0_8] 25 (0, 0)) (by (with_reducible repeat (first | refine blk_drewN ?_ _ | refine blk_drew ?_ | refine blk_alloc ?_ _)); exact BK213.out) hb); have n1_ := Aside0.mk (blk_below (g := gb214) (o := .cells #[.int .i64 a1_0, .int .i64 a1_1, .int .i64 a1_2, .int .i64 a1_3, .string a1_4, .string a1_5, .string a1_6, .string a1_7, .bool a1_8] 25 (0, 0)) (by (with_reducible repeat (first | refine blk_drewN ?_ _ | refine blk_drew ?_ | refine blk_alloc ?_ _)); exact BK214.out) hb); have n2_ := Aside0.mk (below_step (by repeat (first | (with_reducible first | exact HB.out | apply below_alloc | apply pw_below_drewN | apply below_drew1 | refine below_set ?_ GE213.out | refine below_set ?_ GE214.out) | exact HB.out)) hb); clear BK213; clear BK214; clear HB; have BK213 := n0_; have BK214 := n1_; have HB := n2_; clear n0_ n1_ n2_; (try clear hb); (try clear hb2); (try clear hk); (try clear hi)))
          (try simp only [Act.put, List.setIfInBounds_toArray, List.set_cons_zero, List.set_cons_succ])
          go_cut [41] (fun v41 wc => ∃ (kq : Nat) (x41_21 : Bool), v41 = .bool x41_21 ∧ Aside0 (tidelinelaw21_ScriptOne.j1 kq t217 t219 x41_21 a0_0 a0_1 a0_2 a0_3 a0_4 a0_5 a0_6 a0_7 a0_8 a1_0 a1_1 a1_2 a1_3 a1_4 a1_5 a1_6 a1_7 a1_8 = some r) ∧ Aside0 (kq ≤ kj2) ∧ Aside0 (wc.heap[gb213]? = some (.cells #[.int .i64 a0_0, .int .i64 a0_1, .int .i64 a0_2, .int .i64 a0_3, .string a0_4, .string a0_5, .string a0_6, .string a0_7, .bool a0_8] 25 (0, 0))) ∧ Aside0 (wc.heap[gb214]? = some (.cells #[.int .i64 a1_0, .int .i64 a1_1, .int .i64 a1_2, .int .i64 a1_3, .string a1_4, .string a1_5, .string a1_6, .string a1_7, .bool a1_8] 25 (0, 0))) ∧ Aside0 (Below w.heap.size w wc))
          case first =>
            have H := HC22.out
            clear HC22
            by_cases c30 : t218 = 0
            · rw [if_pos c30] at H
              have c30b0 : (t218 == 0) = true := beq_iff_eq.mpr c30
              have c30b1 : (t218 != 0) = false := bne_eq_false_iff_eq.mpr c30
              clear c30
              (first | rw [c30b0] | (simp only [i64_w, i32_w]; rw [c30b0]) | skip)
              have H' := Aside0.mk H
              clear H
              go_wp2
              go_meet
              case rel => exact ⟨_, ((t220 != 0)), (by first | rfl | (simp; done) | (simp [*]; done) | (simp [*, Go.Proofs.YtodmbjbfigifnaaGreatDoor.Str.bne_nil]; done)), H', ⟨by have := HJ2.out; first | omega | exact Nat.le_refl _⟩, ⟨by (with_reducible repeat (first | refine blk_drewN ?_ _ | refine blk_drew ?_ | refine blk_alloc ?_ _)); exact BK213.out⟩, ⟨by (with_reducible repeat (first | refine blk_drewN ?_ _ | refine blk_drew ?_ | refine blk_alloc ?_ _)); exact BK214.out⟩, ⟨by repeat (first | (with_reducible first | exact HB.out | apply below_alloc | apply pw_below_drewN | apply below_drew1 | refine below_set ?_ GE213.out | refine below_set ?_ GE214.out) | exact HB.out)⟩⟩
            · rw [if_neg c30] at H
              have c30b0 : (t218 == 0) = false := beq_eq_false_iff_ne.mpr c30
              have c30b1 : (t218 != 0) = true := bne_iff_ne.mpr c30
              (first | rw [c30b0] | (simp only [i64_w, i32_w]; rw [c30b0]) | skip)
              have H' := Aside0.mk H
              clear H
              go_wp2
              go_meet
              case rel => exact ⟨_, (true), (by first | rfl | (simp; done) | (simp [*]; done) | (simp [*, Go.Proofs.YtodmbjbfigifnaaGreatDoor.Str.bne_nil]; done)), H', ⟨by have := HJ2.out; first | omega | exact Nat.le_refl _⟩, ⟨by (with_reducible repeat (first | refine blk_drewN ?_ _ | refine blk_drew ?_ | refine blk_alloc ?_ _)); exact BK213.out⟩, ⟨by (with_reducible repeat (first | refine blk_drewN ?_ _ | refine blk_drew ?_ | refine blk_alloc ?_ _)); exact BK214.out⟩, ⟨by repeat (first | (with_reducible first | exact HB.out | apply below_alloc | apply pw_below_drewN | apply below_drew1 | refine below_set ?_ GE213.out | refine below_set ?_ GE214.out) | exact HB.out)⟩⟩
          case rest =>
            clear HC22
            try clear c1
            try clear c2
            try clear p2
            try clear c3
            try clear c6
            try clear c7
            try clear c8
            try clear c12
            try clear c17
            try clear c21
            try clear c21b0
            try clear c21b1
            try clear c23
            try clear c30
            try clear c30b0
            try clear c30b1
            try clear hcz13_0
            try clear hcz13_1
            try clear hcz13_2
            try clear hcz13_3
            try clear hcz13_4
            try clear hcz13_5
            try clear hcz13_6
            try clear hcz13_7
            try clear hcz13_8
            try clear hcz15_0
            try clear hcz15_1
            try clear hcz15_2
            try clear hcz15_3
            try clear hcz15_4
            try clear hcz15_5
            try clear hcz15_6
            try clear hcz15_7
            try clear hcz15_8
            try clear hcz24_0
            try clear hcz24_1
            try clear hcz24_2
            try clear hcz24_3
            try clear hcz24_4
            try clear hcz24_5
            try clear hcz24_6
            try clear hcz24_7
            try clear hcz24_8
            try clear hcz26_0
            try clear hcz26_1
            try clear hcz26_2
            try clear hcz26_3
            try clear hcz26_4
            try clear hcz26_5
            try clear hcz26_6
            try clear hcz26_7
            try clear hcz26_8
            try clear hcz28_0
            try clear hcz28_1
            try clear hcz28_2
            try clear hcz28_3
            try clear hcz28_4
            try clear hcz28_5
            try clear hcz28_6
            try clear hcz28_7
            try clear hcz28_8
            try clear hcz9_0
            try clear hcz9_1
            try clear hcz9_2
            try clear hcz9_3
            try clear hcz9_4
            try clear hcz9_5
            try clear hcz9_6
            try clear hcz9_7
            try clear hcz9_8
            try clear hfz13_0
            try clear hfz13_1
            try clear hfz13_2
            try clear hfz13_3
            try clear hfz13_4
            try clear hfz13_5
            try clear hfz13_6
            try clear hfz13_7
            try clear hfz13_8
            try clear hfz15_0
            try clear hfz15_1
            try clear hfz15_2
            try clear hfz15_3
            try clear hfz15_4
            try clear hfz15_5
            try clear hfz15_6
            try clear hfz15_7
            try clear hfz15_8
            try clear hfz24_0
            try clear hfz24_1
            try clear hfz24_2
            try clear hfz24_3
            try clear hfz24_4
            try clear hfz24_5
            try clear hfz24_6
            try clear hfz24_7
            try clear hfz24_8
            try clear hfz26_0
            try clear hfz26_1
            try clear hfz26_2
            try clear hfz26_3
            try clear hfz26_4
            try clear hfz26_5
            try clear hfz26_6
            try clear hfz26_7
            try clear hfz26_8
            try clear hfz28_0
            try clear hfz28_1
            try clear hfz28_2
            try clear hfz28_3
            try clear hfz28_4
            try clear hfz28_5
            try clear hfz28_6
            try clear hfz28_7
            try clear hfz28_8
            try clear hfz9_0
            try clear hfz9_1
            try clear hfz9_2
            try clear hfz9_3
            try clear hfz9_4
            try clear hfz9_5
            try clear hfz9_6
            try clear hfz9_7
            try clear hfz9_8
            try clear p2
            obtain ⟨kq, x41_21, rfl, HA, HJ21, BK213, BK214, HB⟩ := hcut
            cases kq with
            | zero => exact absurd HA.out (by simp [tidelinelaw21_ScriptOne.j1])
            | succ kj21 =>
              have H := HA.out
              clear HA
              simp only [tidelinelaw21_ScriptOne.j1] at H
              by_cases c31 : x41_21 = true
              · subst c31
                have H1 : (some true) = some r := by rw [if_pos rfl] at H; exact H
                clear H
                have H := H1
                clear H1
                obtain rfl := Option.some.inj H
                go_wp2
                go_ret
                exact ⟨by first | rfl | (simp [errW_none, errW_some] <;> rfl) | (simp [*, errW_none, errW_some] <;> rfl), by repeat (first | (with_reducible first | exact HB.out | apply below_alloc | apply pw_below_drewN | apply below_drew1 | refine below_set ?_ GE213.out | refine below_set ?_ GE214.out) | exact HB.out)⟩
              · replace c31 := Bool.eq_false_iff.mpr c31
                subst c31
                have H1 : (tidelinelaw21_ScriptOne.l0 kj21 t217 t219 0 a0_0 a0_1 a0_2 a0_3 a0_4 a0_5 a0_6 a0_7 a0_8 a1_0 a1_1 a1_2 a1_3 a1_4 a1_5 a1_6 a1_7 a1_8) = some r := by rw [if_neg (show ¬ (false = true) by decide)] at H; exact H
                clear H
                have H := H1
                clear H1
                have H' := Aside0.mk H
                clear H
                go_wp2
                go_loopg [11] kj21 (fun kq v11 w' => ∃ (x11_3 : Int), v11 = .int .i64 x11_3 ∧ Aside0 (tidelinelaw21_ScriptOne.l0 kq t217 t219 x11_3 a0_0 a0_1 a0_2 a0_3 a0_4 a0_5 a0_6 a0_7 a0_8 a1_0 a1_1 a1_2 a1_3 a1_4 a1_5 a1_6 a1_7 a1_8 = some r) ∧ Aside0 (kq ≤ kj21) ∧ Aside0 (w'.heap[gb213]? = some (.cells #[.int .i64 a0_0, .int .i64 a0_1, .int .i64 a0_2, .int .i64 a0_3, .string a0_4, .string a0_5, .string a0_6, .string a0_7, .bool a0_8] 25 (0, 0))) ∧ Aside0 (w'.heap[gb214]? = some (.cells #[.int .i64 a1_0, .int .i64 a1_1, .int .i64 a1_2, .int .i64 a1_3, .string a1_4, .string a1_5, .string a1_6, .string a1_7, .bool a1_8] 25 (0, 0))) ∧ Aside0 (Below w.heap.size w w'))
                case atStart => exact ⟨(0), (by first | rfl | (simp; done) | (simp [*]; done) | (simp [*, Go.Proofs.YtodmbjbfigifnaaGreatDoor.Str.bne_nil]; done)), H', ⟨Nat.le_refl _⟩, ⟨by (with_reducible repeat (first | refine blk_drewN ?_ _ | refine blk_drew ?_ | refine blk_alloc ?_ _)); exact BK213.out⟩, ⟨by (with_reducible repeat (first | refine blk_drewN ?_ _ | refine blk_drew ?_ | refine blk_alloc ?_ _)); exact BK214.out⟩, ⟨by repeat (first | (with_reducible first | exact HB.out | apply below_alloc | apply pw_below_drewN | apply below_drew1 | refine below_set ?_ GE213.out | refine below_set ?_ GE214.out) | exact HB.out)⟩⟩
                case round =>
                  clear H'
                  try clear c1
                  try clear c2
                  try clear p2
                  try clear c3
                  try clear c6
                  try clear c7
                  try clear c8
                  try clear c12
                  try clear c17
                  try clear c21
                  try clear c21b0
                  try clear c21b1
                  try clear c23
                  try clear c30
                  try clear c30b0
                  try clear c30b1
                  try clear c31
                  try clear hcz13_0
                  try clear hcz13_1
                  try clear hcz13_2
                  try clear hcz13_3
                  try clear hcz13_4
                  try clear hcz13_5
                  try clear hcz13_6
                  try clear hcz13_7
                  try clear hcz13_8
                  try clear hcz15_0
                  try clear hcz15_1
                  try clear hcz15_2
                  try clear hcz15_3
                  try clear hcz15_4
                  try clear hcz15_5
                  try clear hcz15_6
                  try clear hcz15_7
                  try clear hcz15_8
                  try clear hcz24_0
                  try clear hcz24_1
                  try clear hcz24_2
                  try clear hcz24_3
                  try clear hcz24_4
                  try clear hcz24_5
                  try clear hcz24_6
                  try clear hcz24_7
                  try clear hcz24_8
                  try clear hcz26_0
                  try clear hcz26_1
                  try clear hcz26_2
                  try clear hcz26_3
                  try clear hcz26_4
                  try clear hcz26_5
                  try clear hcz26_6
                  try clear hcz26_7
                  try clear hcz26_8
                  try clear hcz28_0
                  try clear hcz28_1
                  try clear hcz28_2
                  try clear hcz28_3
                  try clear hcz28_4
                  try clear hcz28_5
                  try clear hcz28_6
                  try clear hcz28_7
                  try clear hcz28_8
                  try clear hcz9_0
                  try clear hcz9_1
                  try clear hcz9_2
                  try clear hcz9_3
                  try clear hcz9_4
                  try clear hcz9_5
                  try clear hcz9_6
                  try clear hcz9_7
                  try clear hcz9_8
                  try clear hfz13_0
                  try clear hfz13_1
                  try clear hfz13_2
                  try clear hfz13_3
                  try clear hfz13_4
                  try clear hfz13_5
                  try clear hfz13_6
                  try clear hfz13_7
                  try clear hfz13_8
                  try clear hfz15_0
                  try clear hfz15_1
                  try clear hfz15_2
                  try clear hfz15_3
                  try clear hfz15_4
                  try clear hfz15_5
                  try clear hfz15_6
                  try clear hfz15_7
                  try clear hfz15_8
                  try clear hfz24_0
                  try clear hfz24_1
                  try clear hfz24_2
                  try clear hfz24_3
                  try clear hfz24_4
                  try clear hfz24_5
                  try clear hfz24_6
                  try clear hfz24_7
                  try clear hfz24_8
                  try clear hfz26_0
                  try clear hfz26_1
                  try clear hfz26_2
                  try clear hfz26_3
                  try clear hfz26_4
                  try clear hfz26_5
                  try clear hfz26_6
                  try clear hfz26_7
                  try clear hfz26_8
                  try clear hfz28_0
                  try clear hfz28_1
                  try clear hfz28_2
                  try clear hfz28_3
                  try clear hfz28_4
                  try clear hfz28_5
                  try clear hfz28_6
                  try clear hfz28_7
                  try clear hfz28_8
                  try clear hfz9_0
                  try clear hfz9_1
                  try clear hfz9_2
                  try clear hfz9_3
                  try clear hfz9_4
                  try clear hfz9_5
                  try clear hfz9_6
                  try clear hfz9_7
                  try clear hfz9_8
                  try clear p2
                  obtain ⟨x11_3, rfl, HA, HK3, BK213, BK214, HB⟩ := hrel
                  cases gk with
                  | zero => exact absurd HA.out (by simp [tidelinelaw21_ScriptOne.l0])
                  | succ k3 =>
                    have H := HA.out
                    clear HA
                    simp only [tidelinelaw21_ScriptOne.l0] at H
                    by_cases c32 : x11_3 < (t217.size : Int)
                    · rw [if_pos c32] at H
                      have c32b0 : decide (x11_3 < (t217.size : Int)) = true := decide_eq_true c32
                      clear c32
                      by_cases c33 : 0 ≤ x11_3
                      · rw [if_pos c33] at H
                        have c33b0 : decide (0 ≤ x11_3) = true := decide_eq_true c33
                        clear c33
                        by_cases c35 : (bt t217 x11_3) < 32
                        · rw [if_pos c35] at H
                          exact absurd H (by simp)
                        · rw [if_neg c35] at H
                          have c35b0 : decide ((bt t217 x11_3) < 32) = false := decide_eq_false c35
                          clear c35
                          by_cases c37 : (bt t217 x11_3) > 122
                          · rw [if_pos c37] at H
                            exact absurd H (by simp)
                          · rw [if_neg c37] at H
                            have c37b0 : decide (122 < (bt t217 x11_3)) = false := decide_eq_false c37
                            clear c37
                            have H' := Aside0.mk H
                            clear H
                            have p34 : 0 ≤ (x11_3 : Int) := of_decide_eq_true (by first | (with_reducible assumption) | assumption)
                            have q34 : x11_3 < (t217.size : Int) := of_decide_eq_true (by first | (with_reducible assumption) | assumption)
                            have hx34 := bt_at t217 x11_3
                            replace p34 := eq_true p34
                            replace q34 := eq_true q34
                            have p36 : 0 ≤ (x11_3 : Int) := of_decide_eq_true (by first | (with_reducible assumption) | assumption)
                            have q36 : x11_3 < (t217.size : Int) := of_decide_eq_true (by first | (with_reducible assumption) | assumption)
                            have hx36 := bt_at t217 x11_3
                            replace p36 := eq_true p36
                            replace q36 := eq_true q36
                            go_wp2
                            go_roundg k3
                            case measure => have := HJ2.out; have := HJ21.out; have := HK3.out; omega
                            case rel => exact ⟨(wrap64 (x11_3 + 1)), (by first | rfl | (simp; done) | (simp [*]; done) | (simp [*, Go.Proofs.YtodmbjbfigifnaaGreatDoor.Str.bne_nil]; done)), H', ⟨by have := HJ2.out; have := HJ21.out; have := HK3.out; omega⟩, ⟨by (with_reducible repeat (first | refine blk_drewN ?_ _ | refine blk_drew ?_ | refine blk_alloc ?_ _)); exact BK213.out⟩, ⟨by (with_reducible repeat (first | refine blk_drewN ?_ _ | refine blk_drew ?_ | refine blk_alloc ?_ _)); exact BK214.out⟩, ⟨by repeat (first | (with_reducible first | exact HB.out | apply below_alloc | apply pw_below_drewN | apply below_drew1 | refine below_set ?_ GE213.out | refine below_set ?_ GE214.out) | exact HB.out)⟩⟩
                      · rw [if_neg c33] at H
                        exact absurd H (by simp)
                    · rw [if_neg c32] at H
                      have c32b0 : decide (x11_3 < (t217.size : Int)) = false := decide_eq_false c32
                      clear c32
                      by_cases c38 : ((t217.toList == t219.toList) == (a0_0 == a1_0 && (a0_1 == a1_1 && (a0_2 == a1_2 && (a0_3 == a1_3 && (a0_4.toList == a1_4.toList && (a0_5.toList == a1_5.toList && ((a0_6.toList == a1_6.toList && (a0_7.toList == a1_7.toList && (a0_8 == a1_8))))))))))) = true
                      · rw [if_pos c38] at H
                        have c38b0 : ((t217.toList == t219.toList) == (a0_0 == a1_0 && (a0_1 == a1_1 && (a0_2 == a1_2 && (a0_3 == a1_3 && (a0_4.toList == a1_4.toList && (a0_5.toList == a1_5.toList && ((a0_6.toList == a1_6.toList && (a0_7.toList == a1_7.toList && (a0_8 == a1_8))))))))))) = true := c38
                        (try (have c38b1 : decide ((t217.toList == t219.toList) = (a0_0 == a1_0 && (a0_1 == a1_1 && (a0_2 == a1_2 && (a0_3 == a1_3 && (a0_4.toList == a1_4.toList && (a0_5.toList == a1_5.toList && ((a0_6.toList == a1_6.toList && (a0_7.toList == a1_7.toList && (a0_8 == a1_8))))))))))) = true := by simpa using c38))
                        (try (have c38b2 : ((t217.toList == t219.toList) == (a0_0 == a1_0 && (a0_1 == a1_1 && (a0_2 == a1_2 && (a0_3 == a1_3 && (a0_4.toList == a1_4.toList && (a0_5.toList == a1_5.toList && ((a0_6.toList == a1_6.toList && (a0_7.toList == a1_7.toList && (a0_8 == a1_8))))))))))) = true := by simpa using c38))
                        clear c38
                        by_cases c39 : (t217.size : Int) > 0
                        · rw [if_pos c39] at H
                          have c39b0 : decide (0 < (t217.size : Int)) = true := decide_eq_true c39
                          have c39b1 : decide (0 < t217.size) = true := decide_eq_true (by omega)
                          clear c39
                          by_cases c40 : 0 < (t217.size : Int)
                          · rw [if_pos c40] at H
                            have c40b0 : decide (0 < (t217.size : Int)) = true := decide_eq_true c40
                            have c40b1 : decide (0 < t217.size) = true := decide_eq_true (by omega)
                            clear c40
                            by_cases c42 : (bt t217 0) = 32
                            · rw [if_pos c42] at H
                              exact absurd H (by simp)
                            · rw [if_neg c42] at H
                              have c42b0 : ((bt t217 0) == 32) = false := beq_eq_false_iff_ne.mpr c42
                              have c42b1 : ((bt t217 0) != 32) = true := bne_iff_ne.mpr c42
                              obtain ⟨ji43, hji43⟩ : ∃ j_ : Int, (wrap64 ((t217.size : Int) - 1)) = j_ := ⟨_, rfl⟩
                              replace H : (if 0 ≤ (ji43) then (if (ji43) < (t217.size : Int) then (some ((bt t217 (ji43)) != 32)) else (none)) else (none)) = some r := by first | (rw [hji43] at H; exact H) | (simp only [hji43] at H ⊢; exact H)
                              have hji43w : (IntKind.i64.wrap ((t217.size : Int) - 1)) = ji43 := (i64_w _).trans hji43
                              by_cases c44 : 0 ≤ (ji43)
                              · rw [if_pos c44] at H
                                have c44b0 : decide (0 ≤ (ji43)) = true := decide_eq_true c44
                                clear c44
                                by_cases c45 : (ji43) < (t217.size : Int)
                                · rw [if_pos c45] at H
                                  have c45b0 : decide ((ji43) < (t217.size : Int)) = true := decide_eq_true c45
                                  clear c45
                                  obtain rfl := Option.some.inj H
                                  have hnb47 := NB213_214.out
                                  have hnc47 := NB214_213.out
                                  have hcz48_0 : wr.cell? ⟨gb213, 0, none⟩ = some (.int .i64 a0_0) := (blk_cell BK213.out 0).trans rfl
                                  have hcz48_1 : wr.cell? ⟨gb213, 1, none⟩ = some (.int .i64 a0_1) := (blk_cell BK213.out 1).trans rfl
                                  have hcz48_2 : wr.cell? ⟨gb213, 2, none⟩ = some (.int .i64 a0_2) := (blk_cell BK213.out 2).trans rfl
                                  have hcz48_3 : wr.cell? ⟨gb213, 3, none⟩ = some (.int .i64 a0_3) := (blk_cell BK213.out 3).trans rfl
                                  have hcz48_4 : wr.cell? ⟨gb213, 4, none⟩ = some (.string a0_4) := (blk_cell BK213.out 4).trans rfl
                                  have hcz48_5 : wr.cell? ⟨gb213, 5, none⟩ = some (.string a0_5) := (blk_cell BK213.out 5).trans rfl
                                  have hcz48_6 : wr.cell? ⟨gb213, 6, none⟩ = some (.string a0_6) := (blk_cell BK213.out 6).trans rfl
                                  have hcz48_7 : wr.cell? ⟨gb213, 7, none⟩ = some (.string a0_7) := (blk_cell BK213.out 7).trans rfl
                                  have hcz48_8 : wr.cell? ⟨gb213, 8, none⟩ = some (.bool a0_8) := (blk_cell BK213.out 8).trans rfl
                                  have hfz48_0 := blk_frozen BK213.out 0
                                  have hfz48_1 := blk_frozen BK213.out 1
                                  have hfz48_2 := blk_frozen BK213.out 2
                                  have hfz48_3 := blk_frozen BK213.out 3
                                  have hfz48_4 := blk_frozen BK213.out 4
                                  have hfz48_5 := blk_frozen BK213.out 5
                                  have hfz48_6 := blk_frozen BK213.out 6
                                  have hfz48_7 := blk_frozen BK213.out 7
                                  have hfz48_8 := blk_frozen BK213.out 8
                                  have hcz49_0 : wr.cell? ⟨gb214, 0, none⟩ = some (.int .i64 a1_0) := (blk_cell BK214.out 0).trans rfl
                                  have hcz49_1 : wr.cell? ⟨gb214, 1, none⟩ = some (.int .i64 a1_1) := (blk_cell BK214.out 1).trans rfl
                                  have hcz49_2 : wr.cell? ⟨gb214, 2, none⟩ = some (.int .i64 a1_2) := (blk_cell BK214.out 2).trans rfl
                                  have hcz49_3 : wr.cell? ⟨gb214, 3, none⟩ = some (.int .i64 a1_3) := (blk_cell BK214.out 3).trans rfl
                                  have hcz49_4 : wr.cell? ⟨gb214, 4, none⟩ = some (.string a1_4) := (blk_cell BK214.out 4).trans rfl
                                  have hcz49_5 : wr.cell? ⟨gb214, 5, none⟩ = some (.string a1_5) := (blk_cell BK214.out 5).trans rfl
                                  have hcz49_6 : wr.cell? ⟨gb214, 6, none⟩ = some (.string a1_6) := (blk_cell BK214.out 6).trans rfl
                                  have hcz49_7 : wr.cell? ⟨gb214, 7, none⟩ = some (.string a1_7) := (blk_cell BK214.out 7).trans rfl
                                  have hcz49_8 : wr.cell? ⟨gb214, 8, none⟩ = some (.bool a1_8) := (blk_cell BK214.out 8).trans rfl
                                  have hfz49_0 := blk_frozen BK214.out 0
                                  have hfz49_1 := blk_frozen BK214.out 1
                                  have hfz49_2 := blk_frozen BK214.out 2
                                  have hfz49_3 := blk_frozen BK214.out 3
                                  have hfz49_4 := blk_frozen BK214.out 4
                                  have hfz49_5 := blk_frozen BK214.out 5
                                  have hfz49_6 := blk_frozen BK214.out 6
                                  have hfz49_7 := blk_frozen BK214.out 7
                                  have hfz49_8 := blk_frozen BK214.out 8
                                  have p41 : 0 ≤ (0 : Int) := (by omega)
                                  have q41 : 0 < t217.size := (by have : (0 : Int) < (t217.size : Int) := of_decide_eq_true (by first | (with_reducible assumption) | assumption); omega)
                                  have hx41 : ∀ h : 0 < t217.size, ((t217[0]'h).toNat : Int) = bt t217 0 := bt_at t217 0
                                  clear p41
                                  have qi41 : (0 < (t217.size : Int)) = True := eq_true (of_decide_eq_true (by first | (with_reducible assumption) | assumption))
                                  replace q41 := eq_true q41
                                  have p46 : 0 ≤ ((ji43) : Int) := of_decide_eq_true (by first | (with_reducible assumption) | assumption)
                                  have q46 : (ji43) < (t217.size : Int) := of_decide_eq_true (by first | (with_reducible assumption) | assumption)
                                  have hx46 := bt_at t217 (ji43)
                                  replace p46 := eq_true p46
                                  replace q46 := eq_true q46
                                  go_wp2
                                  go_ret
                                  exact ⟨by first | rfl | (simp [errW_none, errW_some] <;> rfl) | (simp only [← hji43]; first | rfl | (simp [errW_none, errW_some] <;> rfl)) | (simp [*, errW_none, errW_some] <;> rfl), by repeat (first | (with_reducible first | exact HB.out | apply below_alloc | apply pw_below_drewN | apply below_drew1 | refine below_set ?_ GE213.out | refine below_set ?_ GE214.out) | exact HB.out)⟩
                                · rw [if_neg c45] at H
                                  exact absurd H (by simp)
                              · rw [if_neg c44] at H
                                exact absurd H (by simp)
                          · rw [if_neg c40] at H
                            exact absurd H (by simp)
                        · rw [if_neg c39] at H
                          exact absurd H (by simp)
                      · rw [if_neg c38] at H
                        exact absurd H (by simp)
        · rw [if_neg c21] at H
          exact absurd H (by simp)
end Go.Proofs.YtodmbjbfigifnaaGreatDoor.PAll
set_option linter.unusedVariables false
namespace Go.Proofs.YtodmbjbfigifnaaGreatDoor.PAll
open Go.RowKit Go.Proofs.YtodmbjbfigifnaaGreatDoorW.PrintWords Go.Proofs.YtodmbjbfigifnaaGreatDoorW.PrintLast Go.Proofs.YtodmbjbfigifnaaGreatDoorW.PrintMore
/-- THE ONE PURE STATEMENT of tidelinelaw21_ScriptOne. -/
def tidelinelaw21_ScriptOne.Pure : Prop := ∀ (a0_0 : Int) (a0_1 : Int) (a0_2 : Int) (a0_3 : Int) (a0_4 : ByteArray) (a0_5 : ByteArray) (a0_6 : ByteArray) (a0_7 : ByteArray) (a0_8 : Bool) (a1_0 : Int) (a1_1 : Int) (a1_2 : Int) (a1_3 : Int) (a1_4 : ByteArray) (a1_5 : ByteArray) (a1_6 : ByteArray) (a1_7 : ByteArray) (a1_8 : Bool), (fit25 (⟨a0_0, a0_1, a0_2, a0_3, a0_4, a0_5, (⟨a0_6, a0_7, a0_8⟩ : S23)⟩ : S25)) → (fit25 (⟨a1_0, a1_1, a1_2, a1_3, a1_4, a1_5, (⟨a1_6, a1_7, a1_8⟩ : S23)⟩ : S25)) → ∃ k, tidelinelaw21_ScriptOne.f k a0_0 a0_1 a0_2 a0_3 a0_4 a0_5 a0_6 a0_7 a0_8 a1_0 a1_1 a1_2 a1_3 a1_4 a1_5 a1_6 a1_7 a1_8 = some true
end Go.Proofs.YtodmbjbfigifnaaGreatDoor.PAll
set_option linter.unusedVariables false
set_option linter.unusedSimpArgs false
namespace Go.Proofs.YtodmbjbfigifnaaGreatDoor.Pure
open Go.RowKit Go.Proofs.YtodmbjbfigifnaaGreatDoor.PAll Go.Proofs.YtodmbjbfigifnaaGreatDoorW.PrintWords Go.Proofs.YtodmbjbfigifnaaGreatDoorW.PrintLast Go.Proofs.YtodmbjbfigifnaaGreatDoorW.PrintMore
open Go.Proofs.YtodmbjbfigifnaaGreatDoor.Sc Go.Proofs.YtodmbjbfigifnaaGreatDoor.Glob Go.Proofs.YtodmbjbfigifnaaGreatDoor.Dig
/-- A word: no blank, and all in print. -/
def Word (l : List UInt8) : Prop := l ≠ [] ∧ ∀ b ∈ l, 33 ≤ b.toNat ∧ b.toNat ≤ 122
/-- A line: in print, no blank at either end. -/
def Line (l : List UInt8) : Prop := l ≠ [] ∧ (∀ b ∈ l, 32 ≤ b.toNat ∧ b.toNat ≤ 122) ∧ l.head? ≠ some 32 ∧ l.getLast? ≠ some 32
theorem Word.app {a b : List UInt8} (ha : Word a) (hb : ∀ x ∈ b, 33 ≤ x.toNat ∧ x.toNat ≤ 122) : Word (a ++ b) := by
  refine ⟨by simp [ha.1], fun x hx => ?_⟩
  rcases List.mem_append.1 hx with h | h
  · exact ha.2 x h
  · exact hb x h
theorem Word.line {l : List UInt8} (h : Word l) : Line l := by
  refine ⟨h.1, fun b hb => ⟨by have := h.2 b hb; omega, (h.2 b hb).2⟩, fun e => ?_, fun e => ?_⟩
  · have := (h.2 32 (List.mem_of_mem_head? e)).1
    exact absurd this (by decide)
  · have := (h.2 32 (List.mem_of_mem_getLast? e)).1
    exact absurd this (by decide)
theorem Line.app {t u : List UInt8} (ht : Line t) (hu : Word u) : Line (t ++ [32] ++ u) := by
  have hl := hu.line
  refine ⟨by simp, fun b hb => ?_, ?_, ?_⟩
  · rcases List.mem_append.1 hb with h | h
    · rcases List.mem_append.1 h with h | h
      · exact ht.2.1 b h
      · obtain rfl := List.mem_singleton.1 h
        decide
    · exact hl.2.1 b h
  · cases t with
    | nil => exact absurd rfl ht.1
    | cons x t => exact ht.2.2.1
  · rw [List.getLast?_append]
    have hn := hl.2.2.2
    cases h : u.getLast? with
    | none => exact absurd (List.getLast?_eq_none_iff.1 h) hu.1
    | some x => rw [h] at hn; exact hn
theorem joined : ∀ (r : List ByteArray) (t : ByteArray), Line t.data.toList → (∀ u ∈ r, Word u.data.toList) → Line (joinB (t :: r)).data.toList
  | [], t, ht, _ => by rw [joinB_one]; exact ht
  | u :: r, t, ht, hr => by
    rw [joinB_step]
    refine joined r _ ?_ fun v hv => hr v (List.mem_cons_of_mem _ hv)
    have := ht.app (hr u (List.mem_cons_self ..))
    simpa using this
theorem dec_word (m : Nat) : Word (Lib.decDigits m) := by
  induction m using Nat.strongRecOn with
  | _ m ih =>
    rw [Lib.decDigits]
    split
    · rename_i h
      refine ⟨by simp, fun b hb => ?_⟩
      obtain rfl := List.mem_singleton.1 hb
      rw [UInt8.toNat_ofNat']
      omega
    · rename_i h
      refine (ih (m / 10) (by omega)).app fun b hb => ?_
      obtain rfl := List.mem_singleton.1 hb
      rw [UInt8.toNat_ofNat']
      omega
theorem hex_in (s : ByteArray) : ∀ b ∈ (hexB s).data.toList, 33 ≤ b.toNat ∧ b.toNat ≤ 122 := by
  intro b hb
  have hm : ((b.toNat : Nat) : Int) ∈ bytesOf (hexB s) := by
    unfold bytesOf
    exact List.mem_map.2 ⟨b, hb, rfl⟩
  rw [bytes_hexB] at hm
  have := hexI_bd _ (byte_bd s) _ hm
  omega
theorem ft_word {o : OpT} {c : Nat} (hc : isLet c) (hr : c = 114 → RgOK o) : Word (ft o c).data.toList := by
  unfold isLet at hc
  rcases hc with rfl | rfl | rfl | rfl | rfl | rfl
  · exact dec_word _
  · exact dec_word _
  · exact dec_word _
  · show Word (keyT o).data.toList
    unfold keyT
    rw [ByteArray.data_append, Array.toList_append]
    exact Word.app ⟨by decide, by decide⟩ (hex_in _)
  · show Word (valT o).data.toList
    unfold valT
    rw [ByteArray.data_append, Array.toList_append]
    exact Word.app ⟨by decide, by decide⟩ (hex_in _)
  · show Word (prtV o.f6.f0 o.f6.f1 o.f6.f2).1.data.toList
    unfold prtV
    rw [if_pos (show rgE o.f6.f0 o.f6.f1 o.f6.f2 = 0 from hr rfl)]
    dsimp only
    split
    · rw [ByteArray.data_append, Array.toList_append]
      refine ⟨by simp, fun x hx => ?_⟩
      rcases List.mem_append.1 hx with h | h
      · exact hex_in _ x h
      · exact (show ∀ x ∈ (⟨#[46, 46, 42]⟩ : ByteArray).data.toList, 33 ≤ x.toNat ∧ x.toNat ≤ 122 by decide) x h
    · rw [ByteArray.data_append, Array.toList_append, ByteArray.data_append, Array.toList_append]
      refine ⟨by simp, fun x hx => ?_⟩
      rcases List.mem_append.1 hx with h | h
      · rcases List.mem_append.1 h with h | h
        · exact hex_in _ x h
        · exact (show ∀ x ∈ (⟨#[46, 46]⟩ : ByteArray).data.toList, 33 ≤ x.toNat ∧ x.toNat ≤ 122 by decide) x h
      · exact hex_in _ x h
theorem lets_word : ∀ x ∈ lets, x.1.data.toList ≠ [] ∧ ∀ b ∈ x.1.data.toList, 33 ≤ b.toNat ∧ b.toNat ≤ 122 := by decide +kernel
theorem printed_line {o : OpT} (h : (printV o).2 = 0) : Line (printV o).1.data.toList := by
  obtain ⟨ws, h1, h2, h3⟩ := printed h
  obtain ⟨_, x, hm, hk, hr⟩ := par_more h3
  rw [ws_lets o x hm hk] at h1
  obtain rfl := Option.some.inj h1
  rw [h2]
  refine joined _ _ (Word.line (lets_word x hm)) fun u hu => ?_
  obtain ⟨c, hc, rfl⟩ := List.mem_map.1 hu
  exact ft_word ((lets_let x hm).2 c hc) fun e => hr (e ▸ hc)
theorem cmp_no {a b : OpT} (h : a ≠ b) : (a.f0 == b.f0 && (a.f1 == b.f1 && (a.f2 == b.f2 && (a.f3 == b.f3 && (a.f4.toList == b.f4.toList && (a.f5.toList == b.f5.toList && ((a.f6.f0.toList == b.f6.f0.toList && (a.f6.f1.toList == b.f6.f1.toList && (a.f6.f2 == b.f6.f2)))))))))) = false := by
  refine Bool.eq_false_iff.2 fun e => h ?_
  simp only [Bool.and_eq_true, beq_iff_eq] at e
  obtain ⟨e0, e1, e2, e3, e4, e5, e6, e7, e8⟩ := e
  exact op_ext e0 e1 e2 e3 (ba_eq.1 e4) (ba_eq.1 e5) (ba_eq.1 e6) (ba_eq.1 e7) e8
theorem cmp_yes (a : OpT) : (a.f0 == a.f0 && (a.f1 == a.f1 && (a.f2 == a.f2 && (a.f3 == a.f3 && (a.f4.toList == a.f4.toList && (a.f5.toList == a.f5.toList && ((a.f6.f0.toList == a.f6.f0.toList && (a.f6.f1.toList == a.f6.f1.toList && (a.f6.f2 == a.f6.f2)))))))))) = true := by
  simp only [beq_self_eq_true, Bool.and_self]
theorem one_eq {a b : OpT} (ha : (printV a).2 = 0) (hb : (printV b).2 = 0) : (((printV a).1.toList == (printV b).1.toList) == (a.f0 == b.f0 && (a.f1 == b.f1 && (a.f2 == b.f2 && (a.f3 == b.f3 && (a.f4.toList == b.f4.toList && (a.f5.toList == b.f5.toList && ((a.f6.f0.toList == b.f6.f0.toList && (a.f6.f1.toList == b.f6.f1.toList && (a.f6.f2 == b.f6.f2))))))))))) = true := by
  by_cases h : a = b
  · subst h
    rw [cmp_yes]
    simp only [beq_self_eq_true]
  · rw [cmp_no h]
    have hs : ((printV a).1.toList == (printV b).1.toList) = false := by
      refine beq_eq_false_iff_ne.2 fun e => h ?_
      obtain ⟨_, _, _, pa⟩ := printed ha
      obtain ⟨_, _, _, pb⟩ := printed hb
      rw [ba_eq.1 e, pb] at pa
      exact (Option.some.inj pa).symm
    rw [hs]
    rfl
theorem bt_get (s : ByteArray) (i : Nat) (h : i < s.data.toList.length) : bt s (i : Int) = ((s.data.toList[i].toNat : Nat) : Int) := by
  have hl : i < (bytesOf s).length := by unfold bytesOf; rw [List.length_map]; exact h
  rw [bt_nat s i hl]
  have he : (bytesOf s)[i]? = some ((s.data.toList[i].toNat : Nat) : Int) := by
    unfold bytesOf
    rw [List.getElem?_map, List.getElem?_eq_getElem h]
    rfl
  rw [List.getElem?_eq_getElem hl] at he
  exact Option.some.inj he
theorem line_loop {s t : ByteArray} {a b : OpT} (hL : Line s.data.toList) (hz : s.size ≤ 400) (heq : ((s.toList == t.toList) == (a.f0 == b.f0 && (a.f1 == b.f1 && (a.f2 == b.f2 && (a.f3 == b.f3 && (a.f4.toList == b.f4.toList && (a.f5.toList == b.f5.toList && ((a.f6.f0.toList == b.f6.f0.toList && (a.f6.f1.toList == b.f6.f1.toList && (a.f6.f2 == b.f6.f2))))))))))) = true) : ∀ (d i : Nat), i + d = s.size →
    Ev (fun k => tidelinelaw21_ScriptOne.l0 k s t (i : Int) a.f0 a.f1 a.f2 a.f3 a.f4 a.f5 a.f6.f0 a.f6.f1 a.f6.f2 b.f0 b.f1 b.f2 b.f3 b.f4 b.f5 b.f6.f0 b.f6.f1 b.f6.f2) true := by
  have hlen : s.data.toList.length = s.size := Array.length_toList
  have hpos : 0 < s.size := by
    rw [← hlen]
    exact List.length_pos_iff.2 hL.1
  have hfirst : ¬ bt s 0 = 32 := by
    have h0 := bt_get s 0 (by omega)
    intro e
    rw [show (0 : Int) = ((0 : Nat) : Int) from rfl, h0] at e
    apply hL.2.2.1
    rw [List.head?_eq_getElem?, List.getElem?_eq_getElem (by omega)]
    refine congrArg some (UInt8.toNat_inj.1 ?_)
    show _ = 32
    omega
  have hlast : ¬ bt s ((s.size : Int) - 1) = 32 := by
    have h0 := bt_get s (s.size - 1) (by omega)
    intro e
    rw [show (s.size : Int) - 1 = ((s.size - 1 : Nat) : Int) by omega, h0] at e
    apply hL.2.2.2
    rw [List.getLast?_eq_getElem?, hlen, List.getElem?_eq_getElem (by omega)]
    refine congrArg some (UInt8.toNat_inj.1 ?_)
    show _ = 32
    omega
  intro d
  induction d with
  | zero =>
    intro i hi
    refine Ev.step (fun k => by rw [tidelinelaw21_ScriptOne.l0]) (evN (by omega) ?_)
    have hw : wrap64 ((s.size : Int) - 1) = (s.size : Int) - 1 := wrap_id (by omega) (by omega)
    rw [hw]
    refine evY heq (evY (by omega) (evY (by omega) (evN hfirst (evY (by omega) (evY (by omega) (Ev.const ?_))))))
    exact congrArg some (bne_iff_ne.2 hlast)
  | succ d ih =>
    intro i hi
    refine Ev.step (fun k => by rw [tidelinelaw21_ScriptOne.l0]) (evY (by omega) (evY (by omega) ?_))
    have hb := bt_get s i (by omega)
    have hin := hL.2.1 _ (List.getElem_mem (show i < s.data.toList.length by omega))
    rw [hb]
    refine evN (by omega) (evN (by omega) ?_)
    rw [wrap_succ (by omega)]
    exact ih (i + 1) (by omega)
theorem one_of (a b : OpT) (ha : fit25 a) (hb : fit25 b) : ∃ k, tidelinelaw21_ScriptOne.f k a.f0 a.f1 a.f2 a.f3 a.f4 a.f5 a.f6.f0 a.f6.f1 a.f6.f2 b.f0 b.f1 b.f2 b.f3 b.f4 b.f5 b.f6.f0 b.f6.f1 b.f6.f2 = some true := by
  refine Ev.rounds ?_
  have yes : Ev (fun k => tidelinelaw21_ScriptOne.j0 k true a.f0 a.f1 a.f2 a.f3 a.f4 a.f5 a.f6.f0 a.f6.f1 a.f6.f2 b.f0 b.f1 b.f2 b.f3 b.f4 b.f5 b.f6.f0 b.f6.f1 b.f6.f2) true := Ev.step (fun k => by rw [tidelinelaw21_ScriptOne.j0]) (evY rfl (Ev.const rfl))
  obtain ⟨t, ht, hl⟩ := long_f a
  obtain ⟨t2, ht2, hl2⟩ := long_f b
  refine Ev.congr (fun k => by rw [tidelinelaw21_ScriptOne.f, ht, Option.bind_some, ht2, Option.bind_some]) ?_
  cases t with
  | true => exact evY rfl yes
  | false =>
    refine evN (by decide) ?_
    cases t2 with
    | true => exact yes
    | false =>
      have hA := bounds_of ha (hl rfl)
      have hB := bounds_of hb (hl2 rfl)
      refine Ev.step (fun k => by rw [tidelinelaw21_ScriptOne.j0]) (evN (by decide) ?_)
      refine Ev.bind (Ev.const (print_ok hA)) (Ev.bind (Ev.const (print_ok hB)) (Ev.bind (rprint_f a hA) (evY rfl ?_)))
      by_cases hz : (printV a).2 = 0
      · refine evY hz ?_
        by_cases hy : (printV b).2 = 0
        · rw [hy]
          refine Ev.step (fun k => by rw [tidelinelaw21_ScriptOne.j1]) (evN (by decide) ?_)
          obtain ⟨_, _, _, pa⟩ := printed hz
          exact line_loop (printed_line hz) (par_words pa).1 (one_eq hz hy) _ 0 (Nat.zero_add _)
        · rw [bne_iff_ne.2 hy]
          exact Ev.step (fun k => by rw [tidelinelaw21_ScriptOne.j1]) (evY rfl (Ev.const rfl))
      · refine evN hz ?_
        exact Ev.step (fun k => by rw [tidelinelaw21_ScriptOne.j1]) (evY rfl (Ev.const rfl))
theorem ScriptOne : tidelinelaw21_ScriptOne.Pure := fun a0 a1 a2 a3 a4 a5 a6 a7 a8 b0 b1 b2 b3 b4 b5 b6 b7 b8 ha hb => one_of ⟨a0, a1, a2, a3, a4, a5, ⟨a6, a7, a8⟩⟩ ⟨b0, b1, b2, b3, b4, b5, ⟨b6, b7, b8⟩⟩ ha hb
end Go.Proofs.YtodmbjbfigifnaaGreatDoor.Pure
namespace Go.Proofs.YtodmbjbfigifnaaGreatDoor
open Go.ChangeMaps (open_string shut_string)
open Go.ChangeShapes Go.WideShapes Go.ChangeAt Go.WideMaps Go.WideElems Go.RowKit Go.Proofs.YtodmbjbfigifnaaGreatDoor.Dig Go.Proofs.YtodmbjbfigifnaaGreatDoor.PAll Go.Proofs.YtodmbjbfigifnaaGreatDoorW.PrintWords Go.Proofs.YtodmbjbfigifnaaGreatDoor.Open
set_option linter.unusedVariables false
def laid7 : List (String × DataW Unit) := [("math/bits.deBruijn32tab", Rows.laid_math_bits_deBruijn32tab), ("math/bits.deBruijn64tab", Rows.laid_math_bits_deBruijn64tab), ("internal/strconv.uint64pow10", Rows.laid_internal_strconv_uint64pow10), ("unicode/utf8.acceptRanges", Rows.laid_unicode_utf8_acceptRanges), ("strconv.ErrRange", Rows.laid_strconv_ErrRange), ("strconv.ErrSyntax", Rows.laid_strconv_ErrSyntax), ("unicode/utf8.first", Rows.laid_unicode_utf8_first)]
theorem own : ownKnob Tryz.prog.godebug = none := by kernel_rfl
theorem laidOut : laidOutB Tryz.prog = true := by kernel_rfl
/-- A heap that the listed data lay meets the condition (one of them is pinned: no run lays it). -/
theorem all_met (os : Os) (args : Array Value) : laidMetH Tryz.prog laid7 ((World.laidAll Tryz.prog os laid7).forCall (fun _ _ => 0) ⟨#[], args, []⟩).memory := by
  rw [MakeChecks.laidMetH_plain _ _ _ (by kernel_rfl)]
  exact laidMet_laidAll _ (by kernel_rfl) (by kernel_rfl)
theorem tab_eq : (Rows.laid_internal_strconv_uint64pow10 : DataW Unit) = Lib.tabData .u64 Lib.pow10Tab := by kernel_rfl
theorem gPow : Tryz.prog.globalNamed "internal/strconv.uint64pow10" = some 3 := by kernel_rfl
theorem tPow : (Tryz.prog.globals[3]?).map (·.type) = some 125 := by kernel_rfl
theorem gRange : Tryz.prog.globalNamed "strconv.ErrRange" = some 5 := by kernel_rfl
theorem tRange : (Tryz.prog.globals[5]?).map (·.type) = some 69 := by kernel_rfl
theorem star : "*errors.errorString" = "*" ++ "errors.errorString" := by decide
theorem row141 (u : TypeId) (h : Tryz.prog.typeName? 3 u = some "*errors.errorString") : u = 141 :=
  typeName_ptr_named (nm := "errors.errorString") (by rw [← star]; kernel_rfl) (by kernel_rfl) (by decide) u (by rw [← star]; exact h)
theorem of_laid {W : World} (h : laidMetH Tryz.prog laid7 W) : TabsOK W := by
  rw [MakeChecks.laidMetH_plain _ _ _ (by kernel_rfl)] at h
  have h3 : laidMet Tryz.prog [("internal/strconv.uint64pow10", Rows.laid_internal_strconv_uint64pow10), ("unicode/utf8.acceptRanges", Rows.laid_unicode_utf8_acceptRanges), ("strconv.ErrRange", Rows.laid_strconv_ErrRange), ("strconv.ErrSyntax", Rows.laid_strconv_ErrSyntax), ("unicode/utf8.first", Rows.laid_unicode_utf8_first)] W := h.tail.tail
  have htab : Lib.TabIs Tryz.prog W "internal/strconv.uint64pow10" .u64 Lib.pow10Tab := by
    rw [tab_eq] at h3
    exact Lib.tabIs_of_head gPow tPow Tryz.underlying125 Tryz.underlying105 (by kernel_rfl) (by kernel_rfl) h3
  obtain ⟨a, t, hv, _⟩ := laid_sentinel h3.tail.tail gRange tRange Tryz.underlying69 row141 Tryz.underlying141 Tryz.underlying143 rfl rfl Tryz.underlying9 (by kernel_rfl) (by kernel_rfl)
  refine ⟨htab, _, (World.var?_cell gRange hv 0).trans rfl, .inr ⟨_, _, rfl⟩⟩
/-- The kit's 'returnsInHanded_of_change_and', the world's shape told too. -/
theorem change_and_shaped {H : Type} {enc : TypeId × Value → H} {a : Assume} {C : Checked} {os : Os} {f : FuncId} {fn : Func} {s : ChangeSpec} {conds : List PathCond} {apart fresh handsOn again : Bool} {X : World → Array Value → Prop}
    (hX : ∀ (w w' : World) (args : Array Value), w.heap = w'.heap → X w args → X w' args)
    (own : ownKnob C.prog.godebug = none) (started : os.Started) (noInit : C.prog.inits.idxOf? f = none) (hfn : C.prog.funcs[f]? = some fn)
    (witness : ∃ (w : World) (tape : Tape) (i : Input), w.os = os ∧ (w.forCall tape i).Shaped C.prog ∧ i.vars = [] ∧ Input.okWide C.prog (w.forCall tape i) .any w.heap.size f i ∧
      ((s.pre enc C.prog fn conds apart (w.forCall tape i).memory i.args ∧ X (w.forCall tape i).memory i.args) ∧ sizedMet enc C.prog fn (OpenSpec.ofChange s) apart (w.forCall tape i).memory i.args) ∧ a.holds C.prog (lone (Frame.enter C.prog f i.args .normal) [] (w.forCall tape i)))
    (contract : ∀ (W : World) (base : Nat) (args : Array Value) (ds gs : List (DataW H)) (before : List MemPlace), W.ShapedOpen C.prog →
      (∀ (j : Nat) t v, fn.params[j]? = some t → args[j]? = some v → Value.okWide C.prog W .any base t v) →
      DataW.Whole enc C.prog fn.params.toList s.vars apart W args.toList ds gs before →
      conds.all (PathCond.test C.prog ⟨fn.params.toList, ds, s.plain.varTypes C.prog, gs⟩) = true →
      (DataW.weightsEach C.prog (fn.params.toList ++ s.plain.varTypes C.prog) (ds ++ gs)).all (· ≤ reachBytes) = true → X W args →
      a.holds C.prog (lone (Frame.enter C.prog f args .normal) [] W) →
      Calls C.prog f args W fun e W' => ∃ v, e = .returned v ∧ s.post enc C.prog fn apart fresh handsOn again W args v W') :
    ReturnsInHanded a C os f .any (fun w args => (s.pre enc C.prog fn conds apart w args ∧ X w args) ∧ sizedMet enc C.prog fn (OpenSpec.ofChange s) apart w args) (s.post enc C.prog fn apart fresh handsOn again) := by
  refine returnsInHanded_of_calls own started noInit witness ?_
  intro w tape i _ hsh _ hok hpre hholds
  obtain ⟨_, _, _, fn', hfn', _, _, _, _, hval⟩ := hok
  have e : fn' = fn := Option.some.inj (hfn'.symm.trans hfn)
  subst e
  obtain ⟨⟨⟨ds, gs, before, hw, hc⟩, hx⟩, hz⟩ := hpre
  have hw' := DataW.Whole.of_heap (w' := w.forCall tape i) (by rfl) hw
  refine (contract (w.forCall tape i) w.heap.size i.args ds gs before hsh hval hw' hc (hz.weights hw) (hX _ _ _ (by rfl) hx) hholds).mono fun e W' ⟨v, he, hp⟩ => ?_
  subst he
  exact ChangeSpec.post_blind hp
set_option maxRecDepth 100000 in
theorem lifted (os : Os) (started : os.Started) (H : Type) (enc : TypeId × Value → H) :
    ReturnsInHanded {} Tryz.checked os 3 .any (fun w args => (Rows.scriptOneSpec.pre enc Tryz.prog Tryz.f3 [] false w args ∧ laidMetH Tryz.prog laid7 w) ∧ sizedMet enc Tryz.prog Tryz.f3 (OpenSpec.ofChange Rows.scriptOneSpec) false w args)
      (Rows.scriptOneSpec.post enc Tryz.prog Tryz.f3 false true false false) := by
  refine change_and_shaped (C := Tryz.checked) (X := fun w _ => laidMetH Tryz.prog laid7 w) (fun _ _ _ hh h => h.of_heap hh) own started (by kernel_rfl) Tryz.func3
    (ChangeSpec.witness_shaped (enc := enc) (C := Tryz.checked) (os := os) (X := fun w _ => laidMetH Tryz.prog laid7 w) false (World.laidAll Tryz.prog os laid7) #[.agg #[.int .i64 0, .int .i64 0, .int .i64 0, .int .i64 0, .string ByteArray.empty, .string ByteArray.empty, .string ByteArray.empty, .string ByteArray.empty, .bool false], .agg #[.int .i64 0, .int .i64 0, .int .i64 0, .int .i64 0, .string ByteArray.empty, .string ByteArray.empty, .string ByteArray.empty, .string ByteArray.empty, .bool false]] 8 (World.laidAll_os _ _ _) (World.shaped_of_ZipB (by kernel_rfl) (by kernel_rfl)) (by kernel_rfl) (by kernel_rfl) (by kernel_rfl) (all_met os _)) ?_
  intro W base args ds gs before hshape hval0 hW _ hsz0 hL _
  have hG : Go.Proofs.YtodmbjbfigifnaaGreatDoor.Glob.GlobOK W := ⟨of_laid hL, Tryz.laysM219.s1_3 W hshape⟩
  have hsz : (DataW.weightsEach Tryz.prog (Tryz.f3.params.toList ++ Rows.scriptOneSpec.plain.varTypes Tryz.prog) (ds ++ gs)).all (· ≤ reachBytes) = true := hsz0
  have hval : ∀ (j : Nat) t v, Tryz.f3.params[j]? = some t → args[j]? = some v → Value.okWide Tryz.prog W .any base t v := hval0
  have hW' := hW
  obtain ⟨p, q, hA0, hV, rfl, hfz, hnd⟩ := hW
  have hA : DataW.TrodAll enc Tryz.prog W 0 (fun _ => true) true Tryz.f3.params.toList args.toList ds p := hA0
  rw [Tryz.params3] at hA hval hsz
  obtain ⟨v0, vs0, d0, ds0, p0, q0, hargs, rfl, rfl, h0, r0⟩ := trodAll_cons hA
  obtain ⟨v1, vs1, d1, ds1, p1, q1, rfl, rfl, rfl, h1, r1⟩ := trodAll_cons r0
  obtain ⟨rfl, rfl, rfl⟩ := trodAll_nil r1
  obtain rfl : args = #[v0, v1] := by cases args; simp_all
  obtain ⟨rfl, rfl⟩ := trodVars_none hV
  have k0 := h0
  have lt0 : ∀ x ∈ p0, x.block < W.heap.size := by obtain ⟨m, hm⟩ := k0; exact DataW.trod_lt m _ _ _ hm
  have wt0 : ∀ n ∈ d0.weights Tryz.prog 25, n ≤ 140737488351232 := fun n hn => by have z := List.all_eq_true.1 hsz n (DataW.weights_mem_each (j := 0) (t := 25) rfl rfl n hn); exact of_decide_eq_true z
  obtain ⟨cs0, rfl, _⟩ := okWide_struct Tryz.underlying25 (hval 0 25 v0 rfl rfl)
  obtain ⟨fuel0, hf0⟩ := h0
  obtain ⟨y0, hK0, w0⟩ := opens25 H enc W 0 _ true fuel0 _ _ hf0 wt0
  obtain ⟨a0_0, a0_1, a0_2, a0_3, a0_4, a0_5, ⟨a0_6, a0_7, a0_8⟩⟩ := y0
  have e0 := k25_open hK0
  obtain rfl : cs0 = #[.int .i64 a0_0, .int .i64 a0_1, .int .i64 a0_2, .int .i64 a0_3, .string a0_4, .string a0_5, .string a0_6, .string a0_7, .bool a0_8] := by cases cs0; simpa [Value.cells] using e0
  have k1 := h1
  have lt1 : ∀ x ∈ p1, x.block < W.heap.size := by obtain ⟨m, hm⟩ := k1; exact DataW.trod_lt m _ _ _ hm
  have wt1 : ∀ n ∈ d1.weights Tryz.prog 25, n ≤ 140737488351232 := fun n hn => by have z := List.all_eq_true.1 hsz n (DataW.weights_mem_each (j := 1) (t := 25) rfl rfl n hn); exact of_decide_eq_true z
  obtain ⟨cs1, rfl, _⟩ := okWide_struct Tryz.underlying25 (hval 1 25 v1 rfl rfl)
  obtain ⟨fuel1, hf1⟩ := h1
  obtain ⟨y1, hK1, w1⟩ := opens25 H enc W 0 _ true fuel1 _ _ hf1 wt1
  obtain ⟨a1_0, a1_1, a1_2, a1_3, a1_4, a1_5, ⟨a1_6, a1_7, a1_8⟩⟩ := y1
  have e1 := k25_open hK1
  obtain rfl : cs1 = #[.int .i64 a1_0, .int .i64 a1_1, .int .i64 a1_2, .int .i64 a1_3, .string a1_4, .string a1_5, .string a1_6, .string a1_7, .bool a1_8] := by cases cs1; simpa [Value.cells] using e1
  obtain ⟨k, hk⟩ := Pure.ScriptOne a0_0 a0_1 a0_2 a0_3 a0_4 a0_5 a0_6 a0_7 a0_8 a1_0 a1_1 a1_2 a1_3 a1_4 a1_5 a1_6 a1_7 a1_8 w0 w1
  refine (PAll.tidelinelaw21_ScriptOne.calls k a0_0 a0_1 a0_2 a0_3 a0_4 a0_5 a0_6 a0_7 a0_8 a1_0 a1_1 a1_2 a1_3 a1_4 a1_5 a1_6 a1_7 a1_8 true W  hG hk).mono fun e W' ⟨he, bel0⟩ => ?_
  have bel : Below W.heap.size W W' := bel0
  subst he
  exact ⟨_, rfl, _, _, _, [], _, [], hW', trodAll_mk1 (shut_bool Tryz.underlying4 _), (trodAll_cons_mk (Below.trod laidOut (by kernel_rfl) (of_decide_eq_true (by kernel_rfl)) k0 bel lt0) (trodAll_cons_mk (Below.trod laidOut (by kernel_rfl) (of_decide_eq_true (by kernel_rfl)) k1 bel lt1) trodAll_mk0)), rfl, bel.frame _, fun h => by cases h⟩
theorem scriptOne_row : Rows.ScriptOneSaid :=
  OpenClaim.holds_of_wide 3 Tryz.f3 rfl rfl rfl rfl rfl rfl rfl ⟨rfl, rfl, rfl, rfl, rfl⟩ rfl rfl rfl rfl rfl (by kernel_rfl) Tryz.func3 (by kernel_rfl)
    (of_decide_eq_true (by kernel_rfl)) (by unfold Func.isWrapper; first | (rw [if_pos (by decide +kernel)]; kernel_rfl) | (rw [if_neg (by decide +kernel)]; exact ⟨rfl, rfl⟩))
    (fun os started H enc _ => lifted os started H enc)
theorem scriptOne_holds : Rows.ScriptOneCardSaid :=
  Claim7.holds_tied_plain_at .later [] [.data, .data, .data, .data, .sentinel, .sentinel, .pinned] true (true, "fd6546008b358ad57052109803ef8042f1dbf6dc2ff188d25ca5531dbf51789d") true
    scriptOne_row (fun _ h => by cases h) (by kernel_rfl) (fun _ h => by cases h) scriptOne_row_tie rfl ⟨rfl, rfl⟩ (by kernel_rfl) rfl
    (fun f fn hf hfn => by
      obtain rfl : f = 3 := Option.some.inj ((show Tryz.prog.funcNamed "tideline/tidelinelaw21.ScriptOne" = some 3 by kernel_rfl).symm.trans hf) |>.symm
      obtain rfl : fn = Tryz.f3 := (Option.some.inj (Tryz.func3.symm.trans hfn)).symm
      exact ⟨by kernel_rfl, fun j t ht => by
        rw [Tryz.params3] at ht
        have hm : t ∈ [25, 25] := by simpa using Array.mem_of_getElem? ht
        have hall : ([25, 25].all fun u => !Tryz.prog.wantsStandIn u) = true := by kernel_rfl
        exact (show Tryz.prog.wantsStandIn t = false by simpa using List.all_eq_true.1 hall t hm)⟩)
    (by kernel_rfl)
#print axioms scriptOne_holds
end Go.Proofs.YtodmbjbfigifnaaGreatDoor
