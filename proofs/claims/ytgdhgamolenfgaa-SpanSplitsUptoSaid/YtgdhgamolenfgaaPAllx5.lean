-- By wip/pr.py (a program of this session, over the kit's print): lines written by program. Not trusted: Lean checks them.
import Derived.Test.YtgdhgamolenfgaaPAllx0
import Derived.Test.YtgdhgamolenfgaaPAllx1
import Derived.Test.YtgdhgamolenfgaaPAllx2
import Derived.Test.YtgdhgamolenfgaaPAllx3
import Derived.Test.YtgdhgamolenfgaaPAllx4
namespace Go.Proofs.Ytgdhgamolenfgaa.PAll
open Go.RowKit Go.Proofs.YtgdhgamolenfgaaW.PrintWords Go.Proofs.YtgdhgamolenfgaaW.PrintLast Go.Proofs.YtgdhgamolenfgaaW.PrintMore
attribute [local go_sem] max2_int min2_int max_two min_two max_three min_three max_four min_four   -- for this text's walks alone
set_option linter.unusedVariables false
set_option linter.unusedSimpArgs false

attribute [local go_sem high] eqA23
/-! ### tidelinelaw02_shown: function 11 -/
def tidelinelaw02_shown.f (k : Nat)  : Option (Bool) := (span_Meet.f k (⟨#[97]⟩ : ByteArray) (⟨#[109]⟩ : ByteArray) false (⟨#[99]⟩ : ByteArray) (⟨#[]⟩ : ByteArray) true).bind fun bt167 => ((span_Split.f k (⟨#[]⟩ : ByteArray) (⟨#[]⟩ : ByteArray) true (([(⟨#[102]⟩ : ByteArray), (⟨#[109]⟩ : ByteArray)] : List ByteArray))).bind fun bt175 => ((span_Print.f k (⟨#[97, 98]⟩ : ByteArray) (⟨#[98]⟩ : ByteArray) false).bind fun bt179 => ((span_Parse.f k (⟨#[46, 46, 42]⟩ : ByteArray)).bind fun bt181 => (if bt167.2.2.2 = true then (if (bt167.1.toList == ([99] : List UInt8) && (bt167.2.1.toList == ([109] : List UInt8) && (!bt167.2.2.1))) = true then (if bt175.2 = 0 then (if (bt175.1.length : Int) = 3 then (if 1 < (bt175.1.length : Int) then (if ((((rd_T23 bt175.1 1).f0).toList) == ([102] : List UInt8) && ((((rd_T23 bt175.1 1).f1).toList) == ([109] : List UInt8) && (!((rd_T23 bt175.1 1).f2)))) = true then (if 2 < (bt175.1.length : Int) then (if ((((rd_T23 bt175.1 2).f0).toList) == ([109] : List UInt8) && ((((rd_T23 bt175.1 2).f1).toList) == ([] : List UInt8) && (((rd_T23 bt175.1 2).f2)))) = true then (if bt179.1.toList = ([54, 49, 54, 50, 46, 46, 54, 50] : List UInt8) then (if bt179.2 = 0 then (if bt181.2.2.2 = 0 then ((span_Whole.f).bind fun bt188 => (if (bt181.1.toList == bt188.1.toList && (bt181.2.1.toList == bt188.2.1.toList && (bt181.2.2.1 == bt188.2.2))) = true then (if (bt181.1.toList == ([] : List UInt8) && (bt181.2.1.toList == ([] : List UInt8) && (bt181.2.2.1))) = true then ((span_Holds.f k bt181.1 bt181.2.1 bt181.2.2.1 (⟨#[]⟩ : ByteArray)).bind fun t191 => (some t191)) else (none)) else (none))) else (none)) else (none)) else (none)) else (none)) else (none)) else (none)) else (none)) else (none)) else (none)) else (none)) else (none)))))
theorem tidelinelaw02_shown.mono : ∀ k, LeO (tidelinelaw02_shown.f k ) (tidelinelaw02_shown.f (k + 1) ) := by
  intro  k
  unfold tidelinelaw02_shown.f
  repeat' first
      | (with_reducible exact span_Holds.mono _ _ _ _ _)
      | (with_reducible exact span_Meet.mono _ _ _ _ _ _ _)
      | (with_reducible exact span_Parse.mono _ _)
      | (with_reducible exact span_Print.mono _ _ _ _)
      | (with_reducible exact span_Split.mono _ _ _ _ _)
      | (with_reducible exact LeO.refl _)
      | (with_reducible exact LeO.none _)
      | (with_reducible refine LeO.ite ?_ ?_)
      | (with_reducible refine LeO.bind ?_ (fun _ => ?_))
      | exact span_Holds.mono _ _ _ _ _
      | exact span_Meet.mono _ _ _ _ _ _ _
      | exact span_Parse.mono _ _
      | exact span_Print.mono _ _ _ _
      | exact span_Split.mono _ _ _ _ _
      | exact LeO.none _
      | refine LeO.ite ?_ ?_
      | refine LeO.bind ?_ (fun _ => ?_)
def tidelinelaw02_shown.T5 : Bool × List (List Nat × List Nat) := (true, [([], []), ([0], [0]), ([1], [1]), ([1], [1]), ([2, 3, 1], [1, 2, 3]), ([1, 4], [1, 4]), ([5, 1], [5]), ([6], [6]), ([7, 6], [6, 7]), ([6, 8], [6, 8]), ([9, 6], [9]), ([10], [10]), ([11, 10], [10, 11]), ([12, 10], [10, 12]), ([10, 13], [10, 13]), ([14, 10], [14]), ([15], [15]), ([16, 15], [15, 16]), ([17, 15], [15, 17]), ([15], [15]), ([18, 19, 15], [15, 18, 19]), ([15, 20], [15, 20]), ([21, 15], [21]), ([22], [22]), ([23, 22], [22, 23]), ([24, 22], [22, 24]), ([22], [22]), ([25, 26, 22], [22, 25, 26]), ([22, 27], [22, 27]), ([28, 22], [28]), ([29], [29]), ([30, 29], [29, 30]), ([29, 31], [29, 31]), ([32, 29], [32]), ([33], [33]), ([34, 33], [33, 34]), ([33, 35], [33, 35]), ([36, 33], [36]), ([37], [37]), ([38, 37], [37, 38]), ([37, 39], [37, 39]), ([40, 37], [40]), ([41], [41]), ([41, 41], [41]), ([42, 43, 41], [41, 42, 43]), ([41, 44], [41, 44]), ([45, 43], [45]), ([46], [46]), ([46], [46]), ([47, 48, 46], [46, 47, 48]), ([46, 49], [46, 49]), ([50, 46], [50]), ([51], [51]), ([52, 51, 51], [51, 52]), ([51, 53], [51, 53]), ([54, 53, 0, 1, 2, 3, 4, 5, 6, 7, 8, 9, 10, 11, 12, 13, 14, 15, 16, 17, 18, 19, 20, 21, 22, 23, 24, 25, 26, 27, 28, 29, 30, 31, 32, 33, 34, 35, 36, 37, 38, 39, 40, 41, 42, 43, 44, 45, 46, 47, 48, 49, 50, 51, 52, 53, 54], [54])])
def tidelinelaw02_shown.B5 : List Nat := [0, 1, 3, 3, 15, 31, 63, 127, 255, 511, 1023, 2047, 4095, 8191, 16383, 32767, 65535, 131071, 262143, 65535, 1048575, 2097151, 4194303, 8388607, 16777215, 33554431, 8388607, 134217727, 268435455, 536870911, 1073741823, 2147483647, 4294967295, 8589934591, 17179869183, 34359738367, 68719476735, 137438953471, 274877906943, 549755813887, 1099511627775, 2199023255551, 4398046511103, 4398046511103, 17592186044415, 35184372088831, 70368744177663, 140737488355327, 140737488355327, 562949953421311, 1125899906842623, 2251799813685247, 4503599627370495, 9007199254740991, 18014398509481983, 36028797018963967]
theorem tidelinelaw02_shown.tab5 : rtab .any (opsOf Try.f11 5) = tidelinelaw02_shown.T5 := by kernel_rfl
theorem tidelinelaw02_shown.bits5 : waitsOk tidelinelaw02_shown.T5.2 tidelinelaw02_shown.B5 = true := by kernel_rfl
set_option maxHeartbeats 8000000 in
set_option maxRecDepth 100000 in
theorem tidelinelaw02_shown.calls (k : Nat)  (r : Bool) (w : World) (hG : Glob.GlobOK w) (h : tidelinelaw02_shown.f k  = some r) :
    Calls Try.prog 11 #[] w fun e w' => e = .returned (.bool r) ∧ Below w.heap.size w w' := by
  have HG := Aside0.mk hG
  clear hG
  have hu23 := Try.underlying23
  have HB := Aside0.mk (Below.refl w.heap.size w)
  have H : ((span_Meet.f k (⟨#[97]⟩ : ByteArray) (⟨#[109]⟩ : ByteArray) false (⟨#[99]⟩ : ByteArray) (⟨#[]⟩ : ByteArray) true).bind fun bt167 => ((span_Split.f k (⟨#[]⟩ : ByteArray) (⟨#[]⟩ : ByteArray) true (([(⟨#[102]⟩ : ByteArray), (⟨#[109]⟩ : ByteArray)] : List ByteArray))).bind fun bt175 => ((span_Print.f k (⟨#[97, 98]⟩ : ByteArray) (⟨#[98]⟩ : ByteArray) false).bind fun bt179 => ((span_Parse.f k (⟨#[46, 46, 42]⟩ : ByteArray)).bind fun bt181 => (if bt167.2.2.2 = true then (if (bt167.1.toList == ([99] : List UInt8) && (bt167.2.1.toList == ([109] : List UInt8) && (!bt167.2.2.1))) = true then (if bt175.2 = 0 then (if (bt175.1.length : Int) = 3 then (if 1 < (bt175.1.length : Int) then (if ((((rd_T23 bt175.1 1).f0).toList) == ([102] : List UInt8) && ((((rd_T23 bt175.1 1).f1).toList) == ([109] : List UInt8) && (!((rd_T23 bt175.1 1).f2)))) = true then (if 2 < (bt175.1.length : Int) then (if ((((rd_T23 bt175.1 2).f0).toList) == ([109] : List UInt8) && ((((rd_T23 bt175.1 2).f1).toList) == ([] : List UInt8) && (((rd_T23 bt175.1 2).f2)))) = true then (if bt179.1.toList = ([54, 49, 54, 50, 46, 46, 54, 50] : List UInt8) then (if bt179.2 = 0 then (if bt181.2.2.2 = 0 then ((span_Whole.f).bind fun bt188 => (if (bt181.1.toList == bt188.1.toList && (bt181.2.1.toList == bt188.2.1.toList && (bt181.2.2.1 == bt188.2.2))) = true then (if (bt181.1.toList == ([] : List UInt8) && (bt181.2.1.toList == ([] : List UInt8) && (bt181.2.2.1))) = true then ((span_Holds.f k bt181.1 bt181.2.1 bt181.2.2.1 (⟨#[]⟩ : ByteArray)).bind fun t191 => (some t191)) else (none)) else (none))) else (none)) else (none)) else (none)) else (none)) else (none)) else (none)) else (none)) else (none)) else (none)) else (none)) else (none)))))) = some r := h
  clear h
  replace H := Option.bind_eq_some_iff.mp H
  obtain ⟨⟨t167, t168, t169, t170⟩, A10, H⟩ := H
  replace H : ((span_Split.f k (⟨#[]⟩ : ByteArray) (⟨#[]⟩ : ByteArray) true (([(⟨#[102]⟩ : ByteArray), (⟨#[109]⟩ : ByteArray)] : List ByteArray))).bind fun bt175 => ((span_Print.f k (⟨#[97, 98]⟩ : ByteArray) (⟨#[98]⟩ : ByteArray) false).bind fun bt179 => ((span_Parse.f k (⟨#[46, 46, 42]⟩ : ByteArray)).bind fun bt181 => (if t170 = true then (if (t167.toList == ([99] : List UInt8) && (t168.toList == ([109] : List UInt8) && (!t169))) = true then (if bt175.2 = 0 then (if (bt175.1.length : Int) = 3 then (if 1 < (bt175.1.length : Int) then (if ((((rd_T23 bt175.1 1).f0).toList) == ([102] : List UInt8) && ((((rd_T23 bt175.1 1).f1).toList) == ([109] : List UInt8) && (!((rd_T23 bt175.1 1).f2)))) = true then (if 2 < (bt175.1.length : Int) then (if ((((rd_T23 bt175.1 2).f0).toList) == ([109] : List UInt8) && ((((rd_T23 bt175.1 2).f1).toList) == ([] : List UInt8) && (((rd_T23 bt175.1 2).f2)))) = true then (if bt179.1.toList = ([54, 49, 54, 50, 46, 46, 54, 50] : List UInt8) then (if bt179.2 = 0 then (if bt181.2.2.2 = 0 then ((span_Whole.f).bind fun bt188 => (if (bt181.1.toList == bt188.1.toList && (bt181.2.1.toList == bt188.2.1.toList && (bt181.2.2.1 == bt188.2.2))) = true then (if (bt181.1.toList == ([] : List UInt8) && (bt181.2.1.toList == ([] : List UInt8) && (bt181.2.2.1))) = true then ((span_Holds.f k bt181.1 bt181.2.1 bt181.2.2.1 (⟨#[]⟩ : ByteArray)).bind fun t191 => (some t191)) else (none)) else (none))) else (none)) else (none)) else (none)) else (none)) else (none)) else (none)) else (none)) else (none)) else (none)) else (none)) else (none))))) = some r := H
  have A1 := Aside0.mk A10
  clear A10
  obtain ⟨y172, hy172⟩ : ∃ y_ : List ByteArray, y_ = (([(⟨#[102]⟩ : ByteArray), (⟨#[109]⟩ : ByteArray)] : List ByteArray)) := ⟨_, rfl⟩
  replace H : ((span_Split.f k (⟨#[]⟩ : ByteArray) (⟨#[]⟩ : ByteArray) true y172).bind fun bt175 => ((span_Print.f k (⟨#[97, 98]⟩ : ByteArray) (⟨#[98]⟩ : ByteArray) false).bind fun bt179 => ((span_Parse.f k (⟨#[46, 46, 42]⟩ : ByteArray)).bind fun bt181 => (if t170 = true then (if (t167.toList == ([99] : List UInt8) && (t168.toList == ([109] : List UInt8) && (!t169))) = true then (if bt175.2 = 0 then (if (bt175.1.length : Int) = 3 then (if 1 < (bt175.1.length : Int) then (if ((((rd_T23 bt175.1 1).f0).toList) == ([102] : List UInt8) && ((((rd_T23 bt175.1 1).f1).toList) == ([109] : List UInt8) && (!((rd_T23 bt175.1 1).f2)))) = true then (if 2 < (bt175.1.length : Int) then (if ((((rd_T23 bt175.1 2).f0).toList) == ([109] : List UInt8) && ((((rd_T23 bt175.1 2).f1).toList) == ([] : List UInt8) && (((rd_T23 bt175.1 2).f2)))) = true then (if bt179.1.toList = ([54, 49, 54, 50, 46, 46, 54, 50] : List UInt8) then (if bt179.2 = 0 then (if bt181.2.2.2 = 0 then ((span_Whole.f).bind fun bt188 => (if (bt181.1.toList == bt188.1.toList && (bt181.2.1.toList == bt188.2.1.toList && (bt181.2.2.1 == bt188.2.2))) = true then (if (bt181.1.toList == ([] : List UInt8) && (bt181.2.1.toList == ([] : List UInt8) && (bt181.2.2.1))) = true then ((span_Holds.f k bt181.1 bt181.2.1 bt181.2.2.1 (⟨#[]⟩ : ByteArray)).bind fun t191 => (some t191)) else (none)) else (none))) else (none)) else (none)) else (none)) else (none)) else (none)) else (none)) else (none)) else (none)) else (none)) else (none)) else (none))))) = some r := by first | (rw [hy172]; with_reducible exact H) | (have H2_ := (Option.bind_some _ _).symm.trans H; rw [hy172]; with_reducible exact H2_) | (have H2_ := (Option.bind_some _ _).symm.trans H; with_reducible exact H2_) | with_reducible exact H | (rw [hy172]; exact H) | exact H
  have Ny172 := Aside0.mk hy172
  clear hy172
  replace H := Option.bind_eq_some_iff.mp H
  obtain ⟨⟨t175, t178⟩, A20, H⟩ := H
  replace H : ((span_Print.f k (⟨#[97, 98]⟩ : ByteArray) (⟨#[98]⟩ : ByteArray) false).bind fun bt179 => ((span_Parse.f k (⟨#[46, 46, 42]⟩ : ByteArray)).bind fun bt181 => (if t170 = true then (if (t167.toList == ([99] : List UInt8) && (t168.toList == ([109] : List UInt8) && (!t169))) = true then (if t178 = 0 then (if (t175.length : Int) = 3 then (if 1 < (t175.length : Int) then (if ((((rd_T23 t175 1).f0).toList) == ([102] : List UInt8) && ((((rd_T23 t175 1).f1).toList) == ([109] : List UInt8) && (!((rd_T23 t175 1).f2)))) = true then (if 2 < (t175.length : Int) then (if ((((rd_T23 t175 2).f0).toList) == ([109] : List UInt8) && ((((rd_T23 t175 2).f1).toList) == ([] : List UInt8) && (((rd_T23 t175 2).f2)))) = true then (if bt179.1.toList = ([54, 49, 54, 50, 46, 46, 54, 50] : List UInt8) then (if bt179.2 = 0 then (if bt181.2.2.2 = 0 then ((span_Whole.f).bind fun bt188 => (if (bt181.1.toList == bt188.1.toList && (bt181.2.1.toList == bt188.2.1.toList && (bt181.2.2.1 == bt188.2.2))) = true then (if (bt181.1.toList == ([] : List UInt8) && (bt181.2.1.toList == ([] : List UInt8) && (bt181.2.2.1))) = true then ((span_Holds.f k bt181.1 bt181.2.1 bt181.2.2.1 (⟨#[]⟩ : ByteArray)).bind fun t191 => (some t191)) else (none)) else (none))) else (none)) else (none)) else (none)) else (none)) else (none)) else (none)) else (none)) else (none)) else (none)) else (none)) else (none)))) = some r := H
  have A2 := Aside0.mk A20
  clear A20
  replace H := Option.bind_eq_some_iff.mp H
  obtain ⟨⟨t179, t180⟩, A30, H⟩ := H
  replace H : ((span_Parse.f k (⟨#[46, 46, 42]⟩ : ByteArray)).bind fun bt181 => (if t170 = true then (if (t167.toList == ([99] : List UInt8) && (t168.toList == ([109] : List UInt8) && (!t169))) = true then (if t178 = 0 then (if (t175.length : Int) = 3 then (if 1 < (t175.length : Int) then (if ((((rd_T23 t175 1).f0).toList) == ([102] : List UInt8) && ((((rd_T23 t175 1).f1).toList) == ([109] : List UInt8) && (!((rd_T23 t175 1).f2)))) = true then (if 2 < (t175.length : Int) then (if ((((rd_T23 t175 2).f0).toList) == ([109] : List UInt8) && ((((rd_T23 t175 2).f1).toList) == ([] : List UInt8) && (((rd_T23 t175 2).f2)))) = true then (if t179.toList = ([54, 49, 54, 50, 46, 46, 54, 50] : List UInt8) then (if t180 = 0 then (if bt181.2.2.2 = 0 then ((span_Whole.f).bind fun bt188 => (if (bt181.1.toList == bt188.1.toList && (bt181.2.1.toList == bt188.2.1.toList && (bt181.2.2.1 == bt188.2.2))) = true then (if (bt181.1.toList == ([] : List UInt8) && (bt181.2.1.toList == ([] : List UInt8) && (bt181.2.2.1))) = true then ((span_Holds.f k bt181.1 bt181.2.1 bt181.2.2.1 (⟨#[]⟩ : ByteArray)).bind fun t191 => (some t191)) else (none)) else (none))) else (none)) else (none)) else (none)) else (none)) else (none)) else (none)) else (none)) else (none)) else (none)) else (none)) else (none))) = some r := H
  have A3 := Aside0.mk A30
  clear A30
  replace H := Option.bind_eq_some_iff.mp H
  obtain ⟨⟨t181, t182, t183, t184⟩, A40, H⟩ := H
  replace H : (if t170 = true then (if (t167.toList == ([99] : List UInt8) && (t168.toList == ([109] : List UInt8) && (!t169))) = true then (if t178 = 0 then (if (t175.length : Int) = 3 then (if 1 < (t175.length : Int) then (if ((((rd_T23 t175 1).f0).toList) == ([102] : List UInt8) && ((((rd_T23 t175 1).f1).toList) == ([109] : List UInt8) && (!((rd_T23 t175 1).f2)))) = true then (if 2 < (t175.length : Int) then (if ((((rd_T23 t175 2).f0).toList) == ([109] : List UInt8) && ((((rd_T23 t175 2).f1).toList) == ([] : List UInt8) && (((rd_T23 t175 2).f2)))) = true then (if t179.toList = ([54, 49, 54, 50, 46, 46, 54, 50] : List UInt8) then (if t180 = 0 then (if t184 = 0 then ((span_Whole.f).bind fun bt188 => (if (t181.toList == bt188.1.toList && (t182.toList == bt188.2.1.toList && (t183 == bt188.2.2))) = true then (if (t181.toList == ([] : List UInt8) && (t182.toList == ([] : List UInt8) && (t183))) = true then ((span_Holds.f k t181 t182 t183 (⟨#[]⟩ : ByteArray)).bind fun t191 => (some t191)) else (none)) else (none))) else (none)) else (none)) else (none)) else (none)) else (none)) else (none)) else (none)) else (none)) else (none)) else (none)) else (none)) = some r := H
  have A4 := Aside0.mk A40
  clear A40
  by_cases c5 : t170 = true
  · subst c5
    have H1 : (if (t167.toList == ([99] : List UInt8) && (t168.toList == ([109] : List UInt8) && (!t169))) = true then (if t178 = 0 then (if (t175.length : Int) = 3 then (if 1 < (t175.length : Int) then (if ((((rd_T23 t175 1).f0).toList) == ([102] : List UInt8) && ((((rd_T23 t175 1).f1).toList) == ([109] : List UInt8) && (!((rd_T23 t175 1).f2)))) = true then (if 2 < (t175.length : Int) then (if ((((rd_T23 t175 2).f0).toList) == ([109] : List UInt8) && ((((rd_T23 t175 2).f1).toList) == ([] : List UInt8) && (((rd_T23 t175 2).f2)))) = true then (if t179.toList = ([54, 49, 54, 50, 46, 46, 54, 50] : List UInt8) then (if t180 = 0 then (if t184 = 0 then ((span_Whole.f).bind fun bt188 => (if (t181.toList == bt188.1.toList && (t182.toList == bt188.2.1.toList && (t183 == bt188.2.2))) = true then (if (t181.toList == ([] : List UInt8) && (t182.toList == ([] : List UInt8) && (t183))) = true then ((span_Holds.f k t181 t182 t183 (⟨#[]⟩ : ByteArray)).bind fun t191 => (some t191)) else (none)) else (none))) else (none)) else (none)) else (none)) else (none)) else (none)) else (none)) else (none)) else (none)) else (none)) else (none)) = some r := by rw [if_pos rfl] at H; exact H
    clear H
    have H := H1
    clear H1
    by_cases c6 : (t167.toList == ([99] : List UInt8) && (t168.toList == ([109] : List UInt8) && (!t169))) = true
    · rw [if_pos c6] at H
      have c6b0 : (t167.toList == ([99] : List UInt8) && (t168.toList == ([109] : List UInt8) && (!t169))) = true := c6
      (try (have c6b1 : decide (t167.toList = ([99] : List UInt8) && (t168.toList == ([109] : List UInt8) && (!t169))) = true := by simpa using c6))
      (try (have c6b2 : (t167.toList == ([99] : List UInt8) && (t168.toList == ([109] : List UInt8) && (!t169))) = true := by simpa using c6))
      clear c6
      by_cases c7 : t178 = 0
      · rw [if_pos c7] at H
        have c7b0 : (t178 == 0) = true := beq_iff_eq.mpr c7
        have c7b1 : (t178 != 0) = false := bne_eq_false_iff_eq.mpr c7
        clear c7
        by_cases c8 : (t175.length : Int) = 3
        · rw [if_pos c8] at H
          have c8b0 : ((t175.length : Int) == 3) = true := beq_iff_eq.mpr c8
          have c8b1 : ((t175.length : Int) != 3) = false := bne_eq_false_iff_eq.mpr c8
          clear c8
          by_cases c9 : 1 < (t175.length : Int)
          · rw [if_pos c9] at H
            have c9b0 : decide (1 < (t175.length : Int)) = true := decide_eq_true c9
            have c9b1 : decide (1 < t175.length) = true := decide_eq_true (by omega)
            clear c9
            by_cases c10 : ((((rd_T23 t175 1).f0).toList) == ([102] : List UInt8) && ((((rd_T23 t175 1).f1).toList) == ([109] : List UInt8) && (!((rd_T23 t175 1).f2)))) = true
            · rw [if_pos c10] at H
              have c10b0 : ((((rd_T23 t175 1).f0).toList) == ([102] : List UInt8) && ((((rd_T23 t175 1).f1).toList) == ([109] : List UInt8) && (!((rd_T23 t175 1).f2)))) = true := c10
              (try (have c10b1 : decide ((((rd_T23 t175 1).f0).toList) = ([102] : List UInt8) && ((((rd_T23 t175 1).f1).toList) == ([109] : List UInt8) && (!((rd_T23 t175 1).f2)))) = true := by simpa using c10))
              (try (have c10b2 : ((((rd_T23 t175 1).f0).toList) == ([102] : List UInt8) && ((((rd_T23 t175 1).f1).toList) == ([109] : List UInt8) && (!((rd_T23 t175 1).f2)))) = true := by simpa using c10))
              clear c10
              by_cases c11 : 2 < (t175.length : Int)
              · rw [if_pos c11] at H
                have c11b0 : decide (2 < (t175.length : Int)) = true := decide_eq_true c11
                have c11b1 : decide (2 < t175.length) = true := decide_eq_true (by omega)
                clear c11
                by_cases c12 : ((((rd_T23 t175 2).f0).toList) == ([109] : List UInt8) && ((((rd_T23 t175 2).f1).toList) == ([] : List UInt8) && (((rd_T23 t175 2).f2)))) = true
                · rw [if_pos c12] at H
                  have c12b0 : ((((rd_T23 t175 2).f0).toList) == ([109] : List UInt8) && ((((rd_T23 t175 2).f1).toList) == ([] : List UInt8) && (((rd_T23 t175 2).f2)))) = true := c12
                  (try (have c12b8 := c12b0; simp only [List.beq_nil_eq] at c12b8))
                  (try (have c12b1 : decide ((((rd_T23 t175 2).f0).toList) = ([109] : List UInt8) && ((((rd_T23 t175 2).f1).toList) == ([] : List UInt8) && (((rd_T23 t175 2).f2)))) = true := by simpa using c12))
                  (try (have c12b2 : ((((rd_T23 t175 2).f0).toList) == ([109] : List UInt8) && ((((rd_T23 t175 2).f1).toList) == ([] : List UInt8) && (((rd_T23 t175 2).f2)))) = true := by simpa using c12))
                  clear c12
                  by_cases c13 : t179.toList = ([54, 49, 54, 50, 46, 46, 54, 50] : List UInt8)
                  · rw [if_pos c13] at H
                    have c13b0 : (t179.toList == ([54, 49, 54, 50, 46, 46, 54, 50] : List UInt8)) = true := beq_iff_eq.mpr c13
                    have c13b1 : (t179.toList != ([54, 49, 54, 50, 46, 46, 54, 50] : List UInt8)) = false := bne_eq_false_iff_eq.mpr c13
                    clear c13
                    by_cases c14 : t180 = 0
                    · rw [if_pos c14] at H
                      have c14b0 : (t180 == 0) = true := beq_iff_eq.mpr c14
                      have c14b1 : (t180 != 0) = false := bne_eq_false_iff_eq.mpr c14
                      clear c14
                      by_cases c15 : t184 = 0
                      · rw [if_pos c15] at H
                        have c15b0 : (t184 == 0) = true := beq_iff_eq.mpr c15
                        have c15b1 : (t184 != 0) = false := bne_eq_false_iff_eq.mpr c15
                        clear c15
                        replace H := Option.bind_eq_some_iff.mp H
                        obtain ⟨⟨t188, t189, t190⟩, A160, H⟩ := H
                        replace H : (if (t181.toList == t188.toList && (t182.toList == t189.toList && (t183 == t190))) = true then (if (t181.toList == ([] : List UInt8) && (t182.toList == ([] : List UInt8) && (t183))) = true then ((span_Holds.f k t181 t182 t183 (⟨#[]⟩ : ByteArray)).bind fun t191 => (some t191)) else (none)) else (none)) = some r := H
                        have A16 := Aside0.mk A160
                        clear A160
                        by_cases c17 : (t181.toList == t188.toList && (t182.toList == t189.toList && (t183 == t190))) = true
                        · rw [if_pos c17] at H
                          have c17b0 : (t181.toList == t188.toList && (t182.toList == t189.toList && (t183 == t190))) = true := c17
                          (try (have c17b1 : decide (t181.toList = t188.toList && (t182.toList == t189.toList && (t183 == t190))) = true := by simpa using c17))
                          (try (have c17b2 : (t181.toList == t188.toList && (t182.toList == t189.toList && (t183 == t190))) = true := by simpa using c17))
                          clear c17
                          by_cases c18 : (t181.toList == ([] : List UInt8) && (t182.toList == ([] : List UInt8) && (t183))) = true
                          · rw [if_pos c18] at H
                            have c18b0 : (t181.toList == ([] : List UInt8) && (t182.toList == ([] : List UInt8) && (t183))) = true := c18
                            (try (have c18b8 := c18b0; simp only [List.beq_nil_eq] at c18b8))
                            (try (have c18b1 : decide (t181.toList = ([] : List UInt8) && (t182.toList == ([] : List UInt8) && (t183))) = true := by simpa using c18))
                            (try (have c18b2 : (t181.toList == ([] : List UInt8) && (t182.toList == ([] : List UInt8) && (t183))) = true := by simpa using c18))
                            clear c18
                            replace H := Option.bind_eq_some_iff.mp H
                            obtain ⟨t191, A190, H⟩ := H
                            replace H : (some t191) = some r := H
                            have A19 := Aside0.mk A190
                            clear A190
                            obtain rfl := Option.some.inj H
                            go_enter Try.func11, Try.ntmps11
                            try go_wp2_with (first | ((with_reducible refine gate_callee (f := 25) rfl ?_); refine goesL_ (some 12) rfl rfl Try.func25 (by kernel_rfl) rfl #[.agg #[.string (⟨#[97]⟩ : ByteArray), .string (⟨#[109]⟩ : ByteArray), .bool false], .agg #[.string (⟨#[99]⟩ : ByteArray), .string (⟨#[]⟩ : ByteArray), .bool true]] rfl (by (try simp only [List.map_toArray, List.map_cons, List.map_nil]); first | done | rfl | (simp only [List.length_drop, List.length_take]; rfl)) ?_; (with_reducible refine (span_Meet.calls k (⟨#[97]⟩ : ByteArray) (⟨#[109]⟩ : ByteArray) false (⟨#[99]⟩ : ByteArray) (⟨#[]⟩ : ByteArray) true t167 t168 t169 true _ A1.out).mono ?_); rintro e w20 ⟨rfl, hb⟩; refine ⟨_, rfl, ?_⟩; have n0_ := Aside0.mk (below_step (by repeat (first | (with_reducible first | exact HB.out | apply below_alloc | apply pw_below_drewN | apply below_drew1) | exact HB.out)) hb); clear HB; have HB := n0_; clear n0_; (try clear hb); (try clear hb2); (try clear hk); (try clear hi)) | ((with_reducible refine gate_dst (N := 1) rfl ?_); (try (refine gate_guard (by rfl) ?_; dsimp only)); refine box_event ?hg (N := 1) ?hd (cs := #[.string (⟨#[]⟩ : ByteArray), .string (⟨#[]⟩ : ByteArray), .bool false]) (t := 23) ?hr ?_; (case hd => rfl); (case hg => rfl); (case hr => first | (go_simp; done) | (go_simp; rfl)); intro gb171 hg w21 hbox hb; have n0_ := Aside0.mk (below_step (by repeat (first | (with_reducible first | exact HB.out | apply below_alloc | apply pw_below_drewN | apply below_drew1) | exact HB.out)) hb); have n1_ := Aside0.mk (hbox); have n2_ := Aside0.mk ((by rw [hg]; exact (below_size (by repeat (first | (with_reducible first | exact HB.out | apply below_alloc | apply pw_below_drewN | apply below_drew1) | exact HB.out))) : w.heap.size ≤ gb171)); have n3_ := Aside0.mk ((by rw [hg]; exact (below_size (by repeat (first | (with_reducible first | exact HB.out | apply below_alloc | apply pw_below_drewN | apply below_drew1) | exact HB.out))) : w.heap.size ≤ gb171)); clear HB; have HB := n0_; have BK171 := n1_; have GW171 := n2_; have GE171 := n3_; clear n0_ n1_ n2_ n3_; clear hb hbox hg; have hcz22_0 : w21.cell? ⟨gb171, 0, none⟩ = some (.string (⟨#[]⟩ : ByteArray)) := (blk_cell BK171.out 0).trans rfl; have hcz22_1 : w21.cell? ⟨gb171, 1, none⟩ = some (.string (⟨#[]⟩ : ByteArray)) := (blk_cell BK171.out 1).trans rfl; have hcz22_2 : w21.cell? ⟨gb171, 2, none⟩ = some (.bool false) := (blk_cell BK171.out 2).trans rfl; have hfz22_0 := blk_frozen BK171.out 0; have hfz22_1 := blk_frozen BK171.out 1; have hfz22_2 := blk_frozen BK171.out 2) | ((with_reducible refine gate_dst (N := 17) rfl ?_); (try (refine gate_guard (by rfl) ?_; dsimp only)); refine Kd.R_lit Kd.string _ 9 ?hg (N := 17) ?hd (xs := ([(⟨#[102]⟩ : ByteArray), (⟨#[109]⟩ : ByteArray)] : List ByteArray)) (inner := [.string (⟨#[102]⟩ : ByteArray), .string (⟨#[109]⟩ : ByteArray)]) (ok := fun _ => True) (okp := fun _ => True) ?hr ?hp (fun _ hk => hk) trivial (Below.refl _ _) (Nat.le_refl _) (by simp) ?_; (case hd => rfl); (case hg => rfl); (case hr => first | (go_simp; done) | (go_simp; rfl)); (case hp => exact (Reps.one (show Kd.M Kd.string _ _ _ (⟨#[102]⟩ : ByteArray) [.string (⟨#[102]⟩ : ByteArray)] from rfl) (Reps.one (show Kd.M Kd.string _ _ _ (⟨#[109]⟩ : ByteArray) [.string (⟨#[109]⟩ : ByteArray)] from rfl) (Reps.none _ _)))); intro v173 w23 ho24 hb hg_ hnew_; clear hg_ hnew_; (first | rw [← Ny172.out] at ho24 | (simp only [Int.reduceToNat] at ho24; rw [← Ny172.out] at ho24)); have n0_ := Aside0.mk (Kd.R_lower ho24 (below_size (by repeat (first | (with_reducible first | exact HB.out | apply below_alloc | apply pw_below_drewN | apply below_drew1 | refine below_set ?_ GE171.out) | exact HB.out)))); have n1_ := Aside0.mk (blk_below (g := gb171) (o := .cells #[.string t167, .string t168, .bool t169] 23 (0, 0)) (by (with_reducible repeat (first | refine blk_drewN ?_ _ | refine blk_drew ?_ | refine blk_alloc ?_ _)); refine blk_put (cs := #[.string t167, .string t168, .bool false]) ?_ 2 _ rfl; (with_reducible repeat (first | refine blk_drewN ?_ _ | refine blk_drew ?_ | refine blk_alloc ?_ _)); refine blk_put (cs := #[.string t167, .string (⟨#[]⟩ : ByteArray), .bool false]) ?_ 1 _ rfl; (with_reducible repeat (first | refine blk_drewN ?_ _ | refine blk_drew ?_ | refine blk_alloc ?_ _)); refine blk_put (cs := #[.string (⟨#[]⟩ : ByteArray), .string (⟨#[]⟩ : ByteArray), .bool false]) ?_ 0 _ rfl; (with_reducible repeat (first | refine blk_drewN ?_ _ | refine blk_drew ?_ | refine blk_alloc ?_ _)); exact BK171.out) hb); have n2_ := Aside0.mk (below_step (by repeat (first | (with_reducible first | exact HB.out | apply below_alloc | apply pw_below_drewN | apply below_drew1 | refine below_set ?_ GE171.out) | exact HB.out)) hb); clear BK171; clear HB; have HO174 := n0_; have BK171 := n1_; have HB := n2_; clear n0_ n1_ n2_; clear hb ho24; obtain ⟨Ao25, co25, eo25⟩ := Kd.R_slice HO174.out; subst eo25) | ((with_reducible refine gate_callee (f := 18) rfl ?_); refine goesL_ (some 18) rfl rfl Try.func18 (by kernel_rfl) rfl #[.agg #[.string (⟨#[]⟩ : ByteArray), .string (⟨#[]⟩ : ByteArray), .bool true], .slice Ao25 y172.length co25] rfl (by (try simp only [List.map_toArray, List.map_cons, List.map_nil]); first | done | rfl | (simp only [List.length_drop, List.length_take]; rfl)) ?_; (with_reducible refine (span_Split.calls k (⟨#[]⟩ : ByteArray) (⟨#[]⟩ : ByteArray) true _ _ y172 t175 t178 _ ?side1 ?side2 A2.out).mono ?_); (case side1 => repeat (first | exact (Kd.R_reads' HO174.out).2.2 | (with_reducible refine Kd.C_alloc ?_ _) | (with_reducible refine Kd.C_drewN ?_ _) | (with_reducible refine Kd.C_drew ?_))); (case side2 => exact (Kd.R_reads' HO174.out).2.1); rintro e w26 ⟨v176, rfl, ho0, hb⟩; refine ⟨_, rfl, ?_⟩; have n0_ := Aside0.mk (Kd.R_below (by (with_reducible repeat (first | apply Kd.R_alloc | apply Kd.R_drewN | apply Kd.R_drew)); exact HO174.out) hb); have n1_ := Aside0.mk (Kd.R_lower (Kd.R_newB ho0 (g := gb171) (o := .cells #[.string t167, .string t168, .bool t169] 23 (0, 0)) (by (with_reducible repeat (first | refine blk_drewN ?_ _ | refine blk_drew ?_ | refine blk_alloc ?_ _)); exact BK171.out)) (below_size (by repeat (first | (with_reducible first | exact HB.out | apply below_alloc | apply pw_below_drewN | apply below_drew1 | refine below_set ?_ GE171.out) | exact HB.out)))); have n2_ := Aside0.mk (blk_below (g := gb171) (o := .cells #[.string t167, .string t168, .bool t169] 23 (0, 0)) (by (with_reducible repeat (first | refine blk_drewN ?_ _ | refine blk_drew ?_ | refine blk_alloc ?_ _)); exact BK171.out) hb); have n3_ := Aside0.mk (below_step (by repeat (first | (with_reducible first | exact HB.out | apply below_alloc | apply pw_below_drewN | apply below_drew1 | refine below_set ?_ GE171.out) | exact HB.out)) hb); clear HO174; clear BK171; clear HB; have HO174 := n0_; have HO177 := n1_; have BK171 := n2_; have HB := n3_; clear n0_ n1_ n2_ n3_; (try clear hb); (try clear hb2); (try clear hk); (try clear hi); (try clear ho0)) | ((with_reducible refine gate_callee (f := 21) rfl ?_); refine goesL_ (some 23) rfl rfl Try.func21 (by kernel_rfl) rfl #[.agg #[.string (⟨#[97, 98]⟩ : ByteArray), .string (⟨#[98]⟩ : ByteArray), .bool false]] rfl (by (try simp only [List.map_toArray, List.map_cons, List.map_nil]); first | done | rfl | (simp only [List.length_drop, List.length_take]; rfl)) ?_; (with_reducible refine (span_Print.calls k (⟨#[97, 98]⟩ : ByteArray) (⟨#[98]⟩ : ByteArray) false t179 t180 _ A3.out).mono ?_); rintro e w27 ⟨rfl, hb⟩; refine ⟨_, rfl, ?_⟩; have n0_ := Aside0.mk (Kd.R_below (by (with_reducible repeat (first | apply Kd.R_alloc | apply Kd.R_drewN | apply Kd.R_drew)); exact HO174.out) hb); have n1_ := Aside0.mk (Kd.R_below (by (with_reducible repeat (first | apply Kd.R_alloc | apply Kd.R_drewN | apply Kd.R_drew)); exact HO177.out) hb); have n2_ := Aside0.mk (blk_below (g := gb171) (o := .cells #[.string t167, .string t168, .bool t169] 23 (0, 0)) (by (with_reducible repeat (first | refine blk_drewN ?_ _ | refine blk_drew ?_ | refine blk_alloc ?_ _)); exact BK171.out) hb); have n3_ := Aside0.mk (below_step (by repeat (first | (with_reducible first | exact HB.out | apply below_alloc | apply pw_below_drewN | apply below_drew1 | refine below_set ?_ GE171.out) | exact HB.out)) hb); clear HO174; clear HO177; clear BK171; clear HB; have HO174 := n0_; have HO177 := n1_; have BK171 := n2_; have HB := n3_; clear n0_ n1_ n2_ n3_; (try clear hb); (try clear hb2); (try clear hk); (try clear hi)) | ((with_reducible refine gate_callee (f := 23) rfl ?_); refine goesL_ (some 27) rfl rfl Try.func23 (by kernel_rfl) rfl #[.string (⟨#[46, 46, 42]⟩ : ByteArray)] rfl (by (try simp only [List.map_toArray, List.map_cons, List.map_nil]); first | done | rfl | (simp only [List.length_drop, List.length_take]; rfl)) ?_; (with_reducible refine (span_Parse.calls k (⟨#[46, 46, 42]⟩ : ByteArray) t181 t182 t183 t184 _ ?sideG A4.out).mono ?_); (case sideG => exact Glob.GlobOK.below HG.out (by repeat (first | (with_reducible first | exact HB.out | apply below_alloc | apply pw_below_drewN | apply below_drew1) | exact HB.out))); rintro e w28 ⟨rfl, hb⟩; refine ⟨_, rfl, ?_⟩; have n0_ := Aside0.mk (Kd.R_below (by (with_reducible repeat (first | apply Kd.R_alloc | apply Kd.R_drewN | apply Kd.R_drew)); exact HO174.out) hb); have n1_ := Aside0.mk (Kd.R_below (by (with_reducible repeat (first | apply Kd.R_alloc | apply Kd.R_drewN | apply Kd.R_drew)); exact HO177.out) hb); have n2_ := Aside0.mk (blk_below (g := gb171) (o := .cells #[.string t167, .string t168, .bool t169] 23 (0, 0)) (by (with_reducible repeat (first | refine blk_drewN ?_ _ | refine blk_drew ?_ | refine blk_alloc ?_ _)); exact BK171.out) hb); have n3_ := Aside0.mk (below_step (by repeat (first | (with_reducible first | exact HB.out | apply below_alloc | apply pw_below_drewN | apply below_drew1 | refine below_set ?_ GE171.out) | exact HB.out)) hb); clear HO174; clear HO177; clear BK171; clear HB; have HO174 := n0_; have HO177 := n1_; have BK171 := n2_; have HB := n3_; clear n0_ n1_ n2_ n3_; (try clear hb); (try clear hb2); (try clear hk); (try clear hi)) | ((with_reducible refine gate_dst (N := 7) rfl ?_); (try (refine gate_guard (by rfl) ?_; dsimp only)); refine box_event ?hg (N := 7) ?hd (cs := #[.string (⟨#[]⟩ : ByteArray), .string (⟨#[]⟩ : ByteArray), .bool false]) (t := 23) ?hr ?_; (case hd => rfl); (case hg => rfl); (case hr => first | (go_simp; done) | (go_simp; rfl)); intro gb185 hg w29 hbox hb; have n0_ := Aside0.mk (Kd.R_below (by (with_reducible repeat (first | apply Kd.R_alloc | apply Kd.R_drewN | apply Kd.R_drew)); exact HO174.out) hb); have n1_ := Aside0.mk (Kd.R_below (Kd.R_elderB (by (with_reducible repeat (first | apply Kd.R_alloc | apply Kd.R_drewN | apply Kd.R_drew)); exact HO177.out) gb185 (Nat.le_of_eq hg.symm)) hb); have n2_ := Aside0.mk (blk_below (g := gb171) (o := .cells #[.string t167, .string t168, .bool t169] 23 (0, 0)) (by (with_reducible repeat (first | refine blk_drewN ?_ _ | refine blk_drew ?_ | refine blk_alloc ?_ _)); exact BK171.out) hb); have n3_ := Aside0.mk (below_step (by repeat (first | (with_reducible first | exact HB.out | apply below_alloc | apply pw_below_drewN | apply below_drew1 | refine below_set ?_ GE171.out) | exact HB.out)) hb); have n4_ := Aside0.mk (hbox); have n5_ := Aside0.mk ((by rw [hg]; exact (below_size (by repeat (first | (with_reducible first | exact HB.out | apply below_alloc | apply pw_below_drewN | apply below_drew1 | refine below_set ?_ GE171.out) | exact HB.out))) : w.heap.size ≤ gb185)); have n6_ := Aside0.mk ((by rw [hg]; exact (below_size (by repeat (first | (with_reducible first | exact HB.out | apply below_alloc | apply pw_below_drewN | apply below_drew1 | refine below_set ?_ GE171.out) | exact HB.out))) : w.heap.size ≤ gb185)); have n7_ := Aside0.mk ((by rw [hg]; exact Nat.ne_of_lt (blk_lt (g := gb171) (o := .cells #[.string t167, .string t168, .bool t169] 23 (0, 0)) (by (with_reducible repeat (first | refine blk_drewN ?_ _ | refine blk_drew ?_ | refine blk_alloc ?_ _)); exact BK171.out)) : gb171 ≠ gb185)); have n8_ := Aside0.mk ((by rw [hg]; exact Nat.ne_of_gt (blk_lt (g := gb171) (o := .cells #[.string t167, .string t168, .bool t169] 23 (0, 0)) (by (with_reducible repeat (first | refine blk_drewN ?_ _ | refine blk_drew ?_ | refine blk_alloc ?_ _)); exact BK171.out)) : gb185 ≠ gb171)); clear HO174; clear HO177; clear BK171; clear HB; have HO174 := n0_; have HO177 := n1_; have BK171 := n2_; have HB := n3_; have BK185 := n4_; have GW185 := n5_; have GE185 := n6_; have NB171_185 := n7_; have NB185_171 := n8_; clear n0_ n1_ n2_ n3_ n4_ n5_ n6_ n7_ n8_; clear hb hbox hg; have hnb30 := NB185_171.out; have hnc30 := NB171_185.out; have hcz31_0 : w29.cell? ⟨gb185, 0, none⟩ = some (.string (⟨#[]⟩ : ByteArray)) := (blk_cell BK185.out 0).trans rfl; have hcz31_1 : w29.cell? ⟨gb185, 1, none⟩ = some (.string (⟨#[]⟩ : ByteArray)) := (blk_cell BK185.out 1).trans rfl; have hcz31_2 : w29.cell? ⟨gb185, 2, none⟩ = some (.bool false) := (blk_cell BK185.out 2).trans rfl; have hfz31_0 := blk_frozen BK185.out 0; have hfz31_1 := blk_frozen BK185.out 1; have hfz31_2 := blk_frozen BK185.out 2))
                            have n0_ : Aside0 (Kd.R Kd.string 9 (((w29.setCell ⟨gb185, 0, none⟩ (.string t181)).setCell ⟨gb185, 1, none⟩ (.string t182)).setCell ⟨gb185, 2, none⟩ (.bool t183)) w.heap.size (fun _ => True) (.slice Ao25 y172.length co25) y172) := ⟨by (with_reducible repeat (first | apply Kd.R_alloc | apply Kd.R_drewN | apply Kd.R_drew)); exact Kd.R_mono (Kd.R_far (p := ⟨gb185, 2, none⟩) (Kd.R_far (p := ⟨gb185, 1, none⟩) (Kd.R_far (p := ⟨gb185, 0, none⟩) (Kd.R_types HO174.out BK185.out (by decide)) (fun _ hk => hk.2) (.string t181)) (fun _ hk => hk.2) (.string t182)) (fun _ hk => hk.2) (.bool t183)) (fun _ hk => trivial)⟩
                            have n1_ : Aside0 (Kd.R k23 23 (((w29.setCell ⟨gb185, 0, none⟩ (.string t181)).setCell ⟨gb185, 1, none⟩ (.string t182)).setCell ⟨gb185, 2, none⟩ (.bool t183)) w.heap.size (fun k_ => k_ ≠ gb171 ∧ k_ ≠ gb185) v176 t175) := ⟨by (with_reducible repeat (first | apply Kd.R_alloc | apply Kd.R_drewN | apply Kd.R_drew)); exact Kd.R_mono (Kd.R_far (p := ⟨gb185, 2, none⟩) (Kd.R_far (p := ⟨gb185, 1, none⟩) (Kd.R_far (p := ⟨gb185, 0, none⟩) (Kd.R_mono HO177.out (fun k_ hk => (⟨hk, hk.2⟩ : _ ∧ k_ ≠ gb185))) (fun _ hk => hk.2) (.string t181)) (fun _ hk => hk.2) (.string t182)) (fun _ hk => hk.2) (.bool t183)) (fun _ hk => ⟨hk.1.1.2, hk.1.2⟩)⟩
                            have n2_ : Aside0 ((((w29.setCell ⟨gb185, 0, none⟩ (.string t181)).setCell ⟨gb185, 1, none⟩ (.string t182)).setCell ⟨gb185, 2, none⟩ (.bool t183)).heap[gb171]? = some (.cells #[.string t167, .string t168, .bool t169] 23 (0, 0))) := ⟨by (with_reducible repeat (first | refine blk_drewN ?_ _ | refine blk_drew ?_ | refine blk_alloc ?_ _)); refine blk_far ?_ NB171_185.out _; (with_reducible repeat (first | refine blk_drewN ?_ _ | refine blk_drew ?_ | refine blk_alloc ?_ _)); refine blk_far ?_ NB171_185.out _; (with_reducible repeat (first | refine blk_drewN ?_ _ | refine blk_drew ?_ | refine blk_alloc ?_ _)); refine blk_far ?_ NB171_185.out _; (with_reducible repeat (first | refine blk_drewN ?_ _ | refine blk_drew ?_ | refine blk_alloc ?_ _)); exact BK171.out⟩
                            have n3_ : Aside0 ((((w29.setCell ⟨gb185, 0, none⟩ (.string t181)).setCell ⟨gb185, 1, none⟩ (.string t182)).setCell ⟨gb185, 2, none⟩ (.bool t183)).heap[gb185]? = some (.cells #[.string t181, .string t182, .bool t183] 23 (0, 0))) := ⟨by (with_reducible repeat (first | refine blk_drewN ?_ _ | refine blk_drew ?_ | refine blk_alloc ?_ _)); refine blk_put (cs := #[.string t181, .string t182, .bool false]) ?_ 2 _ rfl; (with_reducible repeat (first | refine blk_drewN ?_ _ | refine blk_drew ?_ | refine blk_alloc ?_ _)); refine blk_put (cs := #[.string t181, .string (⟨#[]⟩ : ByteArray), .bool false]) ?_ 1 _ rfl; (with_reducible repeat (first | refine blk_drewN ?_ _ | refine blk_drew ?_ | refine blk_alloc ?_ _)); refine blk_put (cs := #[.string (⟨#[]⟩ : ByteArray), .string (⟨#[]⟩ : ByteArray), .bool false]) ?_ 0 _ rfl; (with_reducible repeat (first | refine blk_drewN ?_ _ | refine blk_drew ?_ | refine blk_alloc ?_ _)); exact BK185.out⟩
                            have n4_ : Aside0 (Below w.heap.size w (((w29.setCell ⟨gb185, 0, none⟩ (.string t181)).setCell ⟨gb185, 1, none⟩ (.string t182)).setCell ⟨gb185, 2, none⟩ (.bool t183))) := ⟨by repeat (first | (with_reducible first | exact HB.out | apply below_alloc | apply pw_below_drewN | apply below_drew1 | refine below_set ?_ GE171.out | refine below_set ?_ GE185.out) | exact HB.out)⟩
                            (try clear HO174)
                            (try clear HO177)
                            (try clear BK171)
                            (try clear BK185)
                            (try clear HB)
                            generalize (((w29.setCell ⟨gb185, 0, none⟩ (.string t181)).setCell ⟨gb185, 1, none⟩ (.string t182)).setCell ⟨gb185, 2, none⟩ (.bool t183)) = w32 at n0_ n1_ n2_ n3_ n4_ ⊢
                            have HO174 := n0_
                            have HO177 := n1_
                            have BK171 := n2_
                            have BK185 := n3_
                            have HB := n4_
                            clear n0_ n1_ n2_ n3_ n4_
                            have n0_ := Aside0.mk (Kd.R_drew HO174.out)
                            have n1_ := Aside0.mk (Kd.R_drew HO177.out)
                            have n2_ := Aside0.mk (blk_drew BK171.out)
                            have n3_ := Aside0.mk (blk_drew BK185.out)
                            have n4_ := Aside0.mk (below_drew1 HB.out)
                            clear HO174
                            clear HO177
                            clear BK171
                            clear BK185
                            clear HB
                            have HO174 := n0_
                            have HO177 := n1_
                            have BK171 := n2_
                            have BK185 := n3_
                            have HB := n4_
                            clear n0_ n1_ n2_ n3_ n4_
                            obtain ⟨Ao34, co34, eo34⟩ := Kd.R_slice HO177.out
                            (first | subst eo34 | (injection eo34 with f1_ f2_ f3_; have f4_ := f1_.symm; have f5_ := f3_.symm; clear f1_ f2_ f3_; subst f4_; subst f5_))
                            have p186 : 0 ≤ (1 : Int) := (by omega)
                            have q186 : 1 < (t175.length : Int) := of_decide_eq_true (by first | (with_reducible assumption) | assumption)
                            obtain ⟨ad186, e186, hx186_0, hx186_1, hx186_2⟩ := at_T23 (Kd.R_reads' HO177.out).2.2 1 p186 q186
                            cases e186
                            (try simp only [show (1 : Int).toNat = 1 from rfl, Nat.reduceMul, Nat.reduceEqDiff, Go.Addr.add, ↓reduceIte] at hx186_0)
                            (try simp only [show (1 : Int).toNat = 1 from rfl, Nat.reduceMul, Nat.reduceEqDiff, Go.Addr.add, ↓reduceIte] at hx186_1)
                            (try simp only [show (1 : Int).toNat = 1 from rfl, Nat.reduceMul, Nat.reduceEqDiff, Go.Addr.add, ↓reduceIte] at hx186_2)
                            have qi186 : (1 < t175.length) = True := eq_true (by omega)
                            (try rw [show ((1 : Int)).toNat = 1 from rfl] at hx186_0)
                            (try rw [show 1 * 3 = 3 from rfl] at hx186_0)
                            (try rw [show ((1 : Int)).toNat = 1 from rfl] at hx186_1)
                            (try rw [show 1 * 3 = 3 from rfl] at hx186_1)
                            (try rw [show ((1 : Int)).toNat = 1 from rfl] at hx186_2)
                            (try rw [show 1 * 3 = 3 from rfl] at hx186_2)
                            replace p186 := eq_true p186
                            replace q186 := eq_true q186
                            have p187 : 0 ≤ (2 : Int) := (by omega)
                            have q187 : 2 < (t175.length : Int) := of_decide_eq_true (by first | (with_reducible assumption) | assumption)
                            obtain ⟨ad187, e187, hx187_0, hx187_1, hx187_2⟩ := at_T23 (Kd.R_reads' HO177.out).2.2 2 p187 q187
                            obtain rfl : ad186 = ad187 := (by injection e187)
                            (try simp only [show (2 : Int).toNat = 2 from rfl, Nat.reduceMul, Nat.reduceEqDiff, Go.Addr.add, ↓reduceIte] at hx187_0)
                            (try simp only [show (2 : Int).toNat = 2 from rfl, Nat.reduceMul, Nat.reduceEqDiff, Go.Addr.add, ↓reduceIte] at hx187_1)
                            (try simp only [show (2 : Int).toNat = 2 from rfl, Nat.reduceMul, Nat.reduceEqDiff, Go.Addr.add, ↓reduceIte] at hx187_2)
                            have qi187 : (2 < t175.length) = True := eq_true (by omega)
                            (try rw [show ((2 : Int)).toNat = 2 from rfl] at hx187_0)
                            (try rw [show 2 * 3 = 6 from rfl] at hx187_0)
                            (try rw [show ((2 : Int)).toNat = 2 from rfl] at hx187_1)
                            (try rw [show 2 * 3 = 6 from rfl] at hx187_1)
                            (try rw [show ((2 : Int)).toNat = 2 from rfl] at hx187_2)
                            (try rw [show 2 * 3 = 6 from rfl] at hx187_2)
                            replace p187 := eq_true p187
                            replace q187 := eq_true q187
                            refine start_ (n := 56) (S := fun w' => w'.cell? ⟨gb171, 0, none⟩ = some (.string t167) ∧ w'.cell? ⟨gb171, 1, none⟩ = some (.string t168) ∧ w'.cell? ⟨gb171, 2, none⟩ = some (.bool t169) ∧ w'.cell? ⟨gb185, 0, none⟩ = some (.string t181) ∧ w'.cell? ⟨gb185, 1, none⟩ = some (.string t182) ∧ w'.cell? ⟨gb185, 2, none⟩ = some (.bool t183) ∧ w'.cell? ⟨ad186.block, ad186.off + 3, none⟩ = some (.string ((rd_T23 t175 1).f0)) ∧ w'.cell? ⟨ad186.block, ad186.off + 3 + 1, none⟩ = some (.string ((rd_T23 t175 1).f1)) ∧ w'.cell? ⟨ad186.block, ad186.off + 3 + 2, none⟩ = some (.bool ((rd_T23 t175 1).f2)) ∧ w'.cell? ⟨ad186.block, ad186.off + 6, none⟩ = some (.string ((rd_T23 t175 2).f0)) ∧ w'.cell? ⟨ad186.block, ad186.off + 6 + 1, none⟩ = some (.string ((rd_T23 t175 2).f1)) ∧ w'.cell? ⟨ad186.block, ad186.off + 6 + 2, none⟩ = some (.bool ((rd_T23 t175 2).f2))) (ds := []) #[false, false, false, false, false, false, false, false, false, false, false, false, false, false, false, false, false, false, false, false, false, false, false, false, false, false, false, false, false, false, false, false, false, false, false, false, false, false, false, false, false, false, false, false, false, false, false, false, false, false, false, false, false, false, false, false] (by kernel_rfl) rfl rfl ⟨(blk_cell BK171.out 0).trans rfl, (blk_cell BK171.out 1).trans rfl, (blk_cell BK171.out 2).trans rfl, (blk_cell BK185.out 0).trans rfl, (blk_cell BK185.out 1).trans rfl, (blk_cell BK185.out 2).trans rfl, hx186_0, hx186_1, hx186_2, hx187_0, hx187_1, hx187_2⟩ (fun hHeld => ?_); refine with_tabW tidelinelaw02_shown.tab5 tidelinelaw02_shown.bits5 (fun HT_ HW_ => ?_)
                            generalize w32.drew = w33 at HO174 HO177 BK171 BK185 HB hx186_0 hx186_1 hx186_2 hx187_0 hx187_1 hx187_2 hHeld ⊢
                            refine pure_ (i := 0) (N := some 30) (v := ?_) (a' := ?_) #[true, false, false, false, false, false, false, false, false, false, false, false, false, false, false, false, false, false, false, false, false, false, false, false, false, false, false, false, false, false, false, false, false, false, false, false, false, false, false, false, false, false, false, false, false, false, false, false, false, false, false, false, false, false, false, false] rfl rfl (any_of HT_.out (by kernel_rfl)) (fun _ _ _ h => h) (Or.inl ⟨by rfl, ?_⟩) ?_ ?_
                            rotate_left
                            · intro w'
                              go_simp
                              with_reducible rfl
                            rotate_left
                            · simp only [Act.put, List.setIfInBounds_toArray, List.set_cons_zero, List.set_cons_succ, i64_w, i32_w]
                              rfl
                            refine pure_ (i := 1) (N := some 31) (v := ?_) (a' := ?_) #[true, true, false, false, false, false, false, false, false, false, false, false, false, false, false, false, false, false, false, false, false, false, false, false, false, false, false, false, false, false, false, false, false, false, false, false, false, false, false, false, false, false, false, false, false, false, false, false, false, false, false, false, false, false, false, false] rfl rfl (any_of HT_.out (by kernel_rfl)) (fun _ _ _ h => h) (Or.inl ⟨by rfl, ?_⟩) ?_ ?_
                            rotate_left
                            · intro w'
                              go_simp
                              with_reducible rfl
                            rotate_left
                            · simp only [Act.put, List.setIfInBounds_toArray, List.set_cons_zero, List.set_cons_succ, i64_w, i32_w]
                              rfl
                            refine pure_ (i := 3) (N := some 33) (v := ?_) (a' := ?_) #[true, true, false, true, false, false, false, false, false, false, false, false, false, false, false, false, false, false, false, false, false, false, false, false, false, false, false, false, false, false, false, false, false, false, false, false, false, false, false, false, false, false, false, false, false, false, false, false, false, false, false, false, false, false, false, false] rfl rfl (any_of HT_.out (by kernel_rfl)) (fun _ _ _ h => h) (Or.inl ⟨by rfl, ?_⟩) ?_ ?_
                            rotate_left
                            · intro w'
                              go_simp
                              with_reducible rfl
                            rotate_left
                            · simp only [Act.put, List.setIfInBounds_toArray, List.set_cons_zero, List.set_cons_succ, i64_w, i32_w]
                              rfl
                            refine take_ (i := 2) (N := some 32) (v := ?_) (a' := ?_) #[true, true, true, true, false, false, false, false, false, false, false, false, false, false, false, false, false, false, false, false, false, false, false, false, false, false, false, false, false, false, false, false, false, false, false, false, false, false, false, false, false, false, false, false, false, false, false, false, false, false, false, false, false, false, false, false] rfl rfl (take_ofW HT_.out HW_.out (by kernel_rfl)) (fun _ _ _ h => h) (Or.inl ⟨by rfl, ?_⟩) hHeld ?_ ?_
                            rotate_left
                            · rintro w' ⟨s0, s1, s2, s3, s4, s5, s6, s7, s8, s9, s10, s11⟩
                              go_simp
                              with_reducible rfl
                            rotate_left
                            · simp only [Act.put, List.setIfInBounds_toArray, List.set_cons_zero, List.set_cons_succ, i64_w, i32_w]
                              rfl
                            refine pure_ (i := 4) (N := some 34) (v := ?_) (a' := ?_) #[true, true, true, true, true, false, false, false, false, false, false, false, false, false, false, false, false, false, false, false, false, false, false, false, false, false, false, false, false, false, false, false, false, false, false, false, false, false, false, false, false, false, false, false, false, false, false, false, false, false, false, false, false, false, false, false] rfl rfl (any_of HT_.out (by kernel_rfl)) (fun _ _ _ h => h) (Or.inl ⟨by rfl, ?_⟩) ?_ ?_
                            rotate_left
                            · intro w'
                              go_simp
                              with_reducible rfl
                            rotate_left
                            · simp only [Act.put, List.setIfInBounds_toArray, List.set_cons_zero, List.set_cons_succ, i64_w, i32_w]
                              rfl
                            refine pure_ (i := 5) (N := some 35) (v := ?_) (a' := ?_) #[true, true, true, true, true, true, false, false, false, false, false, false, false, false, false, false, false, false, false, false, false, false, false, false, false, false, false, false, false, false, false, false, false, false, false, false, false, false, false, false, false, false, false, false, false, false, false, false, false, false, false, false, false, false, false, false] rfl rfl (any_of HT_.out (by kernel_rfl)) (fun _ _ _ h => h) (Or.inl ⟨by rfl, ?_⟩) ?_ ?_
                            rotate_left
                            · intro w'
                              go_simp
                              with_reducible rfl
                            rotate_left
                            · simp only [Act.put, List.setIfInBounds_toArray, List.set_cons_zero, List.set_cons_succ, i64_w, i32_w]
                              rfl
                            refine pure_ (i := 6) (N := some 36) (v := ?_) (a' := ?_) #[true, true, true, true, true, true, true, false, false, false, false, false, false, false, false, false, false, false, false, false, false, false, false, false, false, false, false, false, false, false, false, false, false, false, false, false, false, false, false, false, false, false, false, false, false, false, false, false, false, false, false, false, false, false, false, false] rfl rfl (any_of HT_.out (by kernel_rfl)) (fun _ _ _ h => h) (Or.inl ⟨by rfl, ?_⟩) ?_ ?_
                            rotate_left
                            · intro w'
                              go_simp
                              with_reducible rfl
                            rotate_left
                            · simp only [Act.put, List.setIfInBounds_toArray, List.set_cons_zero, List.set_cons_succ, i64_w, i32_w]
                              rfl
                            refine pure_ (i := 7) (N := some 37) (v := ?_) (a' := ?_) #[true, true, true, true, true, true, true, true, false, false, false, false, false, false, false, false, false, false, false, false, false, false, false, false, false, false, false, false, false, false, false, false, false, false, false, false, false, false, false, false, false, false, false, false, false, false, false, false, false, false, false, false, false, false, false, false] rfl rfl (any_of HT_.out (by kernel_rfl)) (fun _ _ _ h => h) (Or.inl ⟨by rfl, ?_⟩) ?_ ?_
                            rotate_left
                            · intro w'
                              go_simp
                              with_reducible rfl
                            rotate_left
                            · simp only [Act.put, List.setIfInBounds_toArray, List.set_cons_zero, List.set_cons_succ, i64_w, i32_w]
                              rfl
                            refine pure_ (i := 8) (N := some 38) (v := ?_) (a' := ?_) #[true, true, true, true, true, true, true, true, true, false, false, false, false, false, false, false, false, false, false, false, false, false, false, false, false, false, false, false, false, false, false, false, false, false, false, false, false, false, false, false, false, false, false, false, false, false, false, false, false, false, false, false, false, false, false, false] rfl rfl (any_of HT_.out (by kernel_rfl)) (fun _ _ _ h => h) (Or.inl ⟨by rfl, ?_⟩) ?_ ?_
                            rotate_left
                            · intro w'
                              go_simp
                              with_reducible rfl
                            rotate_left
                            · simp only [Act.put, List.setIfInBounds_toArray, List.set_cons_zero, List.set_cons_succ, i64_w, i32_w]
                              rfl
                            refine pure_ (i := 9) (N := some 39) (v := ?_) (a' := ?_) #[true, true, true, true, true, true, true, true, true, true, false, false, false, false, false, false, false, false, false, false, false, false, false, false, false, false, false, false, false, false, false, false, false, false, false, false, false, false, false, false, false, false, false, false, false, false, false, false, false, false, false, false, false, false, false, false] rfl rfl (any_of HT_.out (by kernel_rfl)) (fun _ _ _ h => h) (Or.inl ⟨by rfl, ?_⟩) ?_ ?_
                            rotate_left
                            · intro w'
                              go_simp
                              with_reducible rfl
                            rotate_left
                            · simp only [Act.put, List.setIfInBounds_toArray, List.set_cons_zero, List.set_cons_succ, i64_w, i32_w]
                              rfl
                            refine pure_ (i := 10) (N := some 40) (v := ?_) (a' := ?_) #[true, true, true, true, true, true, true, true, true, true, true, false, false, false, false, false, false, false, false, false, false, false, false, false, false, false, false, false, false, false, false, false, false, false, false, false, false, false, false, false, false, false, false, false, false, false, false, false, false, false, false, false, false, false, false, false] rfl rfl (any_of HT_.out (by kernel_rfl)) (fun _ _ _ h => h) (Or.inl ⟨by rfl, ?_⟩) ?_ ?_
                            rotate_left
                            · intro w'
                              go_simp
                              with_reducible rfl
                            rotate_left
                            · simp only [Act.put, List.setIfInBounds_toArray, List.set_cons_zero, List.set_cons_succ, i64_w, i32_w]
                              rfl
                            refine pure_ (i := 11) (N := some 41) (v := ?_) (a' := ?_) #[true, true, true, true, true, true, true, true, true, true, true, true, false, false, false, false, false, false, false, false, false, false, false, false, false, false, false, false, false, false, false, false, false, false, false, false, false, false, false, false, false, false, false, false, false, false, false, false, false, false, false, false, false, false, false, false] rfl rfl (any_of HT_.out (by kernel_rfl)) (fun _ _ _ h => h) (Or.inl ⟨by rfl, ?_⟩) ?_ ?_
                            rotate_left
                            · intro w'
                              go_simp
                              with_reducible rfl
                            rotate_left
                            · simp only [Act.put, List.setIfInBounds_toArray, List.set_cons_zero, List.set_cons_succ, i64_w, i32_w]
                              rfl
                            refine pure_ (i := 12) (N := some 42) (v := ?_) (a' := ?_) #[true, true, true, true, true, true, true, true, true, true, true, true, true, false, false, false, false, false, false, false, false, false, false, false, false, false, false, false, false, false, false, false, false, false, false, false, false, false, false, false, false, false, false, false, false, false, false, false, false, false, false, false, false, false, false, false] rfl rfl (any_of HT_.out (by kernel_rfl)) (fun _ _ _ h => h) (Or.inl ⟨by rfl, ?_⟩) ?_ ?_
                            rotate_left
                            · intro w'
                              go_simp
                              with_reducible rfl
                            rotate_left
                            · simp only [Act.put, List.setIfInBounds_toArray, List.set_cons_zero, List.set_cons_succ, i64_w, i32_w]
                              rfl
                            refine pure_ (i := 13) (N := some 43) (v := ?_) (a' := ?_) #[true, true, true, true, true, true, true, true, true, true, true, true, true, true, false, false, false, false, false, false, false, false, false, false, false, false, false, false, false, false, false, false, false, false, false, false, false, false, false, false, false, false, false, false, false, false, false, false, false, false, false, false, false, false, false, false] rfl rfl (any_of HT_.out (by kernel_rfl)) (fun _ _ _ h => h) (Or.inl ⟨by rfl, ?_⟩) ?_ ?_
                            rotate_left
                            · intro w'
                              go_simp
                              with_reducible rfl
                            rotate_left
                            · simp only [Act.put, List.setIfInBounds_toArray, List.set_cons_zero, List.set_cons_succ, i64_w, i32_w]
                              rfl
                            refine pure_ (i := 14) (N := some 44) (v := ?_) (a' := ?_) #[true, true, true, true, true, true, true, true, true, true, true, true, true, true, true, false, false, false, false, false, false, false, false, false, false, false, false, false, false, false, false, false, false, false, false, false, false, false, false, false, false, false, false, false, false, false, false, false, false, false, false, false, false, false, false, false] rfl rfl (any_of HT_.out (by kernel_rfl)) (fun _ _ _ h => h) (Or.inl ⟨by rfl, ?_⟩) ?_ ?_
                            rotate_left
                            · intro w'
                              go_simp
                              with_reducible rfl
                            rotate_left
                            · simp only [Act.put, List.setIfInBounds_toArray, List.set_cons_zero, List.set_cons_succ, i64_w, i32_w]
                              rfl
                            refine pure_ (i := 15) (N := some 45) (v := ?_) (a' := ?_) #[true, true, true, true, true, true, true, true, true, true, true, true, true, true, true, true, false, false, false, false, false, false, false, false, false, false, false, false, false, false, false, false, false, false, false, false, false, false, false, false, false, false, false, false, false, false, false, false, false, false, false, false, false, false, false, false] rfl rfl (any_of HT_.out (by kernel_rfl)) (fun _ _ _ h => h) (Or.inl ⟨by rfl, ?_⟩) ?_ ?_
                            rotate_left
                            · intro w'
                              go_simp
                              with_reducible rfl
                            rotate_left
                            · simp only [Act.put, List.setIfInBounds_toArray, List.set_cons_zero, List.set_cons_succ, i64_w, i32_w]
                              rfl
                            refine pure_ (i := 16) (N := some 46) (v := ?_) (a' := ?_) #[true, true, true, true, true, true, true, true, true, true, true, true, true, true, true, true, true, false, false, false, false, false, false, false, false, false, false, false, false, false, false, false, false, false, false, false, false, false, false, false, false, false, false, false, false, false, false, false, false, false, false, false, false, false, false, false] rfl rfl (any_of HT_.out (by kernel_rfl)) (fun _ _ _ h => h) (Or.inl ⟨by rfl, ?_⟩) ?_ ?_
                            rotate_left
                            · intro w'
                              go_simp
                              with_reducible rfl
                            rotate_left
                            · simp only [Act.put, List.setIfInBounds_toArray, List.set_cons_zero, List.set_cons_succ, i64_w, i32_w]
                              rfl
                            refine pure_ (i := 17) (N := some 47) (v := ?_) (a' := ?_) #[true, true, true, true, true, true, true, true, true, true, true, true, true, true, true, true, true, true, false, false, false, false, false, false, false, false, false, false, false, false, false, false, false, false, false, false, false, false, false, false, false, false, false, false, false, false, false, false, false, false, false, false, false, false, false, false] rfl rfl (any_of HT_.out (by kernel_rfl)) (fun _ _ _ h => h) (Or.inl ⟨by rfl, ?_⟩) ?_ ?_
                            rotate_left
                            · intro w'
                              go_simp
                              with_reducible rfl
                            rotate_left
                            · simp only [Act.put, List.setIfInBounds_toArray, List.set_cons_zero, List.set_cons_succ, i64_w, i32_w]
                              rfl
                            refine pure_ (i := 19) (N := some 49) (v := ?_) (a' := ?_) #[true, true, true, true, true, true, true, true, true, true, true, true, true, true, true, true, true, true, false, true, false, false, false, false, false, false, false, false, false, false, false, false, false, false, false, false, false, false, false, false, false, false, false, false, false, false, false, false, false, false, false, false, false, false, false, false] rfl rfl (any_of HT_.out (by kernel_rfl)) (fun _ _ _ h => h) (Or.inl ⟨by rfl, ?_⟩) ?_ ?_
                            rotate_left
                            · intro w'
                              go_simp
                              with_reducible rfl
                            rotate_left
                            · simp only [Act.put, List.setIfInBounds_toArray, List.set_cons_zero, List.set_cons_succ, i64_w, i32_w]
                              rfl
                            refine take_ (i := 18) (N := some 48) (v := ?_) (a' := ?_) #[true, true, true, true, true, true, true, true, true, true, true, true, true, true, true, true, true, true, true, true, false, false, false, false, false, false, false, false, false, false, false, false, false, false, false, false, false, false, false, false, false, false, false, false, false, false, false, false, false, false, false, false, false, false, false, false] rfl rfl (take_ofW HT_.out HW_.out (by kernel_rfl)) (fun _ _ _ h => h) (Or.inl ⟨by rfl, ?_⟩) hHeld ?_ ?_
                            rotate_left
                            · rintro w' ⟨s0, s1, s2, s3, s4, s5, s6, s7, s8, s9, s10, s11⟩
                              go_simp
                              with_reducible rfl
                            rotate_left
                            · simp only [Act.put, List.setIfInBounds_toArray, List.set_cons_zero, List.set_cons_succ, i64_w, i32_w]
                              rfl
                            refine pure_ (i := 20) (N := some 50) (v := ?_) (a' := ?_) #[true, true, true, true, true, true, true, true, true, true, true, true, true, true, true, true, true, true, true, true, true, false, false, false, false, false, false, false, false, false, false, false, false, false, false, false, false, false, false, false, false, false, false, false, false, false, false, false, false, false, false, false, false, false, false, false] rfl rfl (any_of HT_.out (by kernel_rfl)) (fun _ _ _ h => h) (Or.inl ⟨by rfl, ?_⟩) ?_ ?_
                            rotate_left
                            · intro w'
                              go_simp
                              with_reducible rfl
                            rotate_left
                            · simp only [Act.put, List.setIfInBounds_toArray, List.set_cons_zero, List.set_cons_succ, i64_w, i32_w]
                              rfl
                            refine pure_ (i := 21) (N := some 51) (v := ?_) (a' := ?_) #[true, true, true, true, true, true, true, true, true, true, true, true, true, true, true, true, true, true, true, true, true, true, false, false, false, false, false, false, false, false, false, false, false, false, false, false, false, false, false, false, false, false, false, false, false, false, false, false, false, false, false, false, false, false, false, false] rfl rfl (any_of HT_.out (by kernel_rfl)) (fun _ _ _ h => h) (Or.inl ⟨by rfl, ?_⟩) ?_ ?_
                            rotate_left
                            · intro w'
                              go_simp
                              with_reducible rfl
                            rotate_left
                            · simp only [Act.put, List.setIfInBounds_toArray, List.set_cons_zero, List.set_cons_succ, i64_w, i32_w]
                              rfl
                            refine pure_ (i := 22) (N := some 52) (v := ?_) (a' := ?_) #[true, true, true, true, true, true, true, true, true, true, true, true, true, true, true, true, true, true, true, true, true, true, true, false, false, false, false, false, false, false, false, false, false, false, false, false, false, false, false, false, false, false, false, false, false, false, false, false, false, false, false, false, false, false, false, false] rfl rfl (any_of HT_.out (by kernel_rfl)) (fun _ _ _ h => h) (Or.inl ⟨by rfl, ?_⟩) ?_ ?_
                            rotate_left
                            · intro w'
                              go_simp
                              with_reducible rfl
                            rotate_left
                            · simp only [Act.put, List.setIfInBounds_toArray, List.set_cons_zero, List.set_cons_succ, i64_w, i32_w]
                              rfl
                            refine pure_ (i := 23) (N := some 53) (v := ?_) (a' := ?_) #[true, true, true, true, true, true, true, true, true, true, true, true, true, true, true, true, true, true, true, true, true, true, true, true, false, false, false, false, false, false, false, false, false, false, false, false, false, false, false, false, false, false, false, false, false, false, false, false, false, false, false, false, false, false, false, false] rfl rfl (any_of HT_.out (by kernel_rfl)) (fun _ _ _ h => h) (Or.inl ⟨by rfl, ?_⟩) ?_ ?_
                            rotate_left
                            · intro w'
                              go_simp
                              with_reducible rfl
                            rotate_left
                            · simp only [Act.put, List.setIfInBounds_toArray, List.set_cons_zero, List.set_cons_succ, i64_w, i32_w]
                              rfl
                            refine pure_ (i := 24) (N := some 54) (v := ?_) (a' := ?_) #[true, true, true, true, true, true, true, true, true, true, true, true, true, true, true, true, true, true, true, true, true, true, true, true, true, false, false, false, false, false, false, false, false, false, false, false, false, false, false, false, false, false, false, false, false, false, false, false, false, false, false, false, false, false, false, false] rfl rfl (any_of HT_.out (by kernel_rfl)) (fun _ _ _ h => h) (Or.inl ⟨by rfl, ?_⟩) ?_ ?_
                            rotate_left
                            · intro w'
                              go_simp
                              with_reducible rfl
                            rotate_left
                            · simp only [Act.put, List.setIfInBounds_toArray, List.set_cons_zero, List.set_cons_succ, i64_w, i32_w]
                              rfl
                            refine pure_ (i := 26) (N := some 56) (v := ?_) (a' := ?_) #[true, true, true, true, true, true, true, true, true, true, true, true, true, true, true, true, true, true, true, true, true, true, true, true, true, false, true, false, false, false, false, false, false, false, false, false, false, false, false, false, false, false, false, false, false, false, false, false, false, false, false, false, false, false, false, false] rfl rfl (any_of HT_.out (by kernel_rfl)) (fun _ _ _ h => h) (Or.inl ⟨by rfl, ?_⟩) ?_ ?_
                            rotate_left
                            · intro w'
                              go_simp
                              with_reducible rfl
                            rotate_left
                            · simp only [Act.put, List.setIfInBounds_toArray, List.set_cons_zero, List.set_cons_succ, i64_w, i32_w]
                              rfl
                            refine take_ (i := 25) (N := some 55) (v := ?_) (a' := ?_) #[true, true, true, true, true, true, true, true, true, true, true, true, true, true, true, true, true, true, true, true, true, true, true, true, true, true, true, false, false, false, false, false, false, false, false, false, false, false, false, false, false, false, false, false, false, false, false, false, false, false, false, false, false, false, false, false] rfl rfl (take_ofW HT_.out HW_.out (by kernel_rfl)) (fun _ _ _ h => h) (Or.inl ⟨by rfl, ?_⟩) hHeld ?_ ?_
                            rotate_left
                            · rintro w' ⟨s0, s1, s2, s3, s4, s5, s6, s7, s8, s9, s10, s11⟩
                              go_simp
                              with_reducible rfl
                            rotate_left
                            · simp only [Act.put, List.setIfInBounds_toArray, List.set_cons_zero, List.set_cons_succ, i64_w, i32_w]
                              rfl
                            refine pure_ (i := 27) (N := some 57) (v := ?_) (a' := ?_) #[true, true, true, true, true, true, true, true, true, true, true, true, true, true, true, true, true, true, true, true, true, true, true, true, true, true, true, true, false, false, false, false, false, false, false, false, false, false, false, false, false, false, false, false, false, false, false, false, false, false, false, false, false, false, false, false] rfl rfl (any_of HT_.out (by kernel_rfl)) (fun _ _ _ h => h) (Or.inl ⟨by rfl, ?_⟩) ?_ ?_
                            rotate_left
                            · intro w'
                              go_simp
                              with_reducible rfl
                            rotate_left
                            · simp only [Act.put, List.setIfInBounds_toArray, List.set_cons_zero, List.set_cons_succ, i64_w, i32_w]
                              rfl
                            refine pure_ (i := 28) (N := some 58) (v := ?_) (a' := ?_) #[true, true, true, true, true, true, true, true, true, true, true, true, true, true, true, true, true, true, true, true, true, true, true, true, true, true, true, true, true, false, false, false, false, false, false, false, false, false, false, false, false, false, false, false, false, false, false, false, false, false, false, false, false, false, false, false] rfl rfl (any_of HT_.out (by kernel_rfl)) (fun _ _ _ h => h) (Or.inl ⟨by rfl, ?_⟩) ?_ ?_
                            rotate_left
                            · intro w'
                              go_simp
                              with_reducible rfl
                            rotate_left
                            · simp only [Act.put, List.setIfInBounds_toArray, List.set_cons_zero, List.set_cons_succ, i64_w, i32_w]
                              rfl
                            refine pure_ (i := 29) (N := some 59) (v := ?_) (a' := ?_) #[true, true, true, true, true, true, true, true, true, true, true, true, true, true, true, true, true, true, true, true, true, true, true, true, true, true, true, true, true, true, false, false, false, false, false, false, false, false, false, false, false, false, false, false, false, false, false, false, false, false, false, false, false, false, false, false] rfl rfl (any_of HT_.out (by kernel_rfl)) (fun _ _ _ h => h) (Or.inl ⟨by rfl, ?_⟩) ?_ ?_
                            rotate_left
                            · intro w'
                              go_simp
                              with_reducible rfl
                            rotate_left
                            · simp only [Act.put, List.setIfInBounds_toArray, List.set_cons_zero, List.set_cons_succ, i64_w, i32_w]
                              rfl
                            refine pure_ (i := 30) (N := some 60) (v := ?_) (a' := ?_) #[true, true, true, true, true, true, true, true, true, true, true, true, true, true, true, true, true, true, true, true, true, true, true, true, true, true, true, true, true, true, true, false, false, false, false, false, false, false, false, false, false, false, false, false, false, false, false, false, false, false, false, false, false, false, false, false] rfl rfl (any_of HT_.out (by kernel_rfl)) (fun _ _ _ h => h) (Or.inl ⟨by rfl, ?_⟩) ?_ ?_
                            rotate_left
                            · intro w'
                              go_simp
                              with_reducible rfl
                            rotate_left
                            · simp only [Act.put, List.setIfInBounds_toArray, List.set_cons_zero, List.set_cons_succ, i64_w, i32_w]
                              rfl
                            refine pure_ (i := 31) (N := some 61) (v := ?_) (a' := ?_) #[true, true, true, true, true, true, true, true, true, true, true, true, true, true, true, true, true, true, true, true, true, true, true, true, true, true, true, true, true, true, true, true, false, false, false, false, false, false, false, false, false, false, false, false, false, false, false, false, false, false, false, false, false, false, false, false] rfl rfl (any_of HT_.out (by kernel_rfl)) (fun _ _ _ h => h) (Or.inl ⟨by rfl, ?_⟩) ?_ ?_
                            rotate_left
                            · intro w'
                              go_simp
                              with_reducible rfl
                            rotate_left
                            · simp only [Act.put, List.setIfInBounds_toArray, List.set_cons_zero, List.set_cons_succ, i64_w, i32_w]
                              rfl
                            refine pure_ (i := 32) (N := some 62) (v := ?_) (a' := ?_) #[true, true, true, true, true, true, true, true, true, true, true, true, true, true, true, true, true, true, true, true, true, true, true, true, true, true, true, true, true, true, true, true, true, false, false, false, false, false, false, false, false, false, false, false, false, false, false, false, false, false, false, false, false, false, false, false] rfl rfl (any_of HT_.out (by kernel_rfl)) (fun _ _ _ h => h) (Or.inl ⟨by rfl, ?_⟩) ?_ ?_
                            rotate_left
                            · intro w'
                              go_simp
                              with_reducible rfl
                            rotate_left
                            · simp only [Act.put, List.setIfInBounds_toArray, List.set_cons_zero, List.set_cons_succ, i64_w, i32_w]
                              rfl
                            refine pure_ (i := 33) (N := some 63) (v := ?_) (a' := ?_) #[true, true, true, true, true, true, true, true, true, true, true, true, true, true, true, true, true, true, true, true, true, true, true, true, true, true, true, true, true, true, true, true, true, true, false, false, false, false, false, false, false, false, false, false, false, false, false, false, false, false, false, false, false, false, false, false] rfl rfl (any_of HT_.out (by kernel_rfl)) (fun _ _ _ h => h) (Or.inl ⟨by rfl, ?_⟩) ?_ ?_
                            rotate_left
                            · intro w'
                              go_simp
                              with_reducible rfl
                            rotate_left
                            · simp only [Act.put, List.setIfInBounds_toArray, List.set_cons_zero, List.set_cons_succ, i64_w, i32_w]
                              rfl
                            refine pure_ (i := 34) (N := some 64) (v := ?_) (a' := ?_) #[true, true, true, true, true, true, true, true, true, true, true, true, true, true, true, true, true, true, true, true, true, true, true, true, true, true, true, true, true, true, true, true, true, true, true, false, false, false, false, false, false, false, false, false, false, false, false, false, false, false, false, false, false, false, false, false] rfl rfl (any_of HT_.out (by kernel_rfl)) (fun _ _ _ h => h) (Or.inl ⟨by rfl, ?_⟩) ?_ ?_
                            rotate_left
                            · intro w'
                              go_simp
                              with_reducible rfl
                            rotate_left
                            · simp only [Act.put, List.setIfInBounds_toArray, List.set_cons_zero, List.set_cons_succ, i64_w, i32_w]
                              rfl
                            refine pure_ (i := 35) (N := some 65) (v := ?_) (a' := ?_) #[true, true, true, true, true, true, true, true, true, true, true, true, true, true, true, true, true, true, true, true, true, true, true, true, true, true, true, true, true, true, true, true, true, true, true, true, false, false, false, false, false, false, false, false, false, false, false, false, false, false, false, false, false, false, false, false] rfl rfl (any_of HT_.out (by kernel_rfl)) (fun _ _ _ h => h) (Or.inl ⟨by rfl, ?_⟩) ?_ ?_
                            rotate_left
                            · intro w'
                              go_simp
                              with_reducible rfl
                            rotate_left
                            · simp only [Act.put, List.setIfInBounds_toArray, List.set_cons_zero, List.set_cons_succ, i64_w, i32_w]
                              rfl
                            refine pure_ (i := 36) (N := some 66) (v := ?_) (a' := ?_) #[true, true, true, true, true, true, true, true, true, true, true, true, true, true, true, true, true, true, true, true, true, true, true, true, true, true, true, true, true, true, true, true, true, true, true, true, true, false, false, false, false, false, false, false, false, false, false, false, false, false, false, false, false, false, false, false] rfl rfl (any_of HT_.out (by kernel_rfl)) (fun _ _ _ h => h) (Or.inl ⟨by rfl, ?_⟩) ?_ ?_
                            rotate_left
                            · intro w'
                              go_simp
                              with_reducible rfl
                            rotate_left
                            · simp only [Act.put, List.setIfInBounds_toArray, List.set_cons_zero, List.set_cons_succ, i64_w, i32_w]
                              rfl
                            refine pure_ (i := 37) (N := some 67) (v := ?_) (a' := ?_) #[true, true, true, true, true, true, true, true, true, true, true, true, true, true, true, true, true, true, true, true, true, true, true, true, true, true, true, true, true, true, true, true, true, true, true, true, true, true, false, false, false, false, false, false, false, false, false, false, false, false, false, false, false, false, false, false] rfl rfl (any_of HT_.out (by kernel_rfl)) (fun _ _ _ h => h) (Or.inl ⟨by rfl, ?_⟩) ?_ ?_
                            rotate_left
                            · intro w'
                              go_simp
                              with_reducible rfl
                            rotate_left
                            · simp only [Act.put, List.setIfInBounds_toArray, List.set_cons_zero, List.set_cons_succ, i64_w, i32_w]
                              rfl
                            refine pure_ (i := 38) (N := some 68) (v := ?_) (a' := ?_) #[true, true, true, true, true, true, true, true, true, true, true, true, true, true, true, true, true, true, true, true, true, true, true, true, true, true, true, true, true, true, true, true, true, true, true, true, true, true, true, false, false, false, false, false, false, false, false, false, false, false, false, false, false, false, false, false] rfl rfl (any_of HT_.out (by kernel_rfl)) (fun _ _ _ h => h) (Or.inl ⟨by rfl, ?_⟩) ?_ ?_
                            rotate_left
                            · intro w'
                              go_simp
                              with_reducible rfl
                            rotate_left
                            · simp only [Act.put, List.setIfInBounds_toArray, List.set_cons_zero, List.set_cons_succ, i64_w, i32_w]
                              rfl
                            refine pure_ (i := 39) (N := some 69) (v := ?_) (a' := ?_) #[true, true, true, true, true, true, true, true, true, true, true, true, true, true, true, true, true, true, true, true, true, true, true, true, true, true, true, true, true, true, true, true, true, true, true, true, true, true, true, true, false, false, false, false, false, false, false, false, false, false, false, false, false, false, false, false] rfl rfl (any_of HT_.out (by kernel_rfl)) (fun _ _ _ h => h) (Or.inl ⟨by rfl, ?_⟩) ?_ ?_
                            rotate_left
                            · intro w'
                              go_simp
                              with_reducible rfl
                            rotate_left
                            · simp only [Act.put, List.setIfInBounds_toArray, List.set_cons_zero, List.set_cons_succ, i64_w, i32_w]
                              rfl
                            refine pure_ (i := 40) (N := some 70) (v := ?_) (a' := ?_) #[true, true, true, true, true, true, true, true, true, true, true, true, true, true, true, true, true, true, true, true, true, true, true, true, true, true, true, true, true, true, true, true, true, true, true, true, true, true, true, true, true, false, false, false, false, false, false, false, false, false, false, false, false, false, false, false] rfl rfl (any_of HT_.out (by kernel_rfl)) (fun _ _ _ h => h) (Or.inl ⟨by rfl, ?_⟩) ?_ ?_
                            rotate_left
                            · intro w'
                              go_simp
                              with_reducible rfl
                            rotate_left
                            · simp only [Act.put, List.setIfInBounds_toArray, List.set_cons_zero, List.set_cons_succ, i64_w, i32_w]
                              rfl
                            refine pure_ (i := 41) (N := some 71) (v := ?_) (a' := ?_) #[true, true, true, true, true, true, true, true, true, true, true, true, true, true, true, true, true, true, true, true, true, true, true, true, true, true, true, true, true, true, true, true, true, true, true, true, true, true, true, true, true, true, false, false, false, false, false, false, false, false, false, false, false, false, false, false] rfl rfl (any_of HT_.out (by kernel_rfl)) (fun _ _ _ h => h) (Or.inl ⟨by rfl, ?_⟩) ?_ ?_
                            rotate_left
                            · intro w'
                              go_simp
                              with_reducible rfl
                            rotate_left
                            · simp only [Act.put, List.setIfInBounds_toArray, List.set_cons_zero, List.set_cons_succ, i64_w, i32_w]
                              rfl
                            refine take_ (i := 42) (N := some 72) (v := ?_) (a' := ?_) #[true, true, true, true, true, true, true, true, true, true, true, true, true, true, true, true, true, true, true, true, true, true, true, true, true, true, true, true, true, true, true, true, true, true, true, true, true, true, true, true, true, true, true, false, false, false, false, false, false, false, false, false, false, false, false, false] rfl rfl (take_ofW HT_.out HW_.out (by kernel_rfl)) (fun _ _ _ h => h) (Or.inl ⟨by rfl, ?_⟩) hHeld ?_ ?_
                            rotate_left
                            · rintro w' ⟨s0, s1, s2, s3, s4, s5, s6, s7, s8, s9, s10, s11⟩
                              go_simp
                              with_reducible rfl
                            rotate_left
                            · simp only [Act.put, List.setIfInBounds_toArray, List.set_cons_zero, List.set_cons_succ, i64_w, i32_w]
                              rfl
                            refine one_ (i := 43) (N := some 73) #[true, true, true, true, true, true, true, true, true, true, true, true, true, true, true, true, true, true, true, true, true, true, true, true, true, true, true, true, true, true, true, true, true, true, true, true, true, true, true, true, true, true, true, true, false, false, false, false, false, false, false, false, false, false, false, false] rfl rfl (one_of HT_.out (by kernel_rfl)) (by decide) (fun K hK => ?_)
                            refine goes_ Try.func33 (by kernel_rfl) rfl #[] (by rfl) rfl rfl (by (try simp only [List.map_toArray, List.map_cons, List.map_nil]); first | done | rfl | (simp only [List.length_drop, List.length_take]; rfl)) ?_
                            with_reducible refine (span_Whole.calls  t188 t189 t190 _ A16.out).mono ?_
                            rintro e w35 ⟨rfl, hb⟩
                            have HS6_ := (hb.cell (World.block_lt_of_cell? _ _ (hHeld.2.2.2.2.2.2.1))).trans (hHeld.2.2.2.2.2.2.1)
                            have HS7_ := (hb.cell (World.block_lt_of_cell? _ _ (hHeld.2.2.2.2.2.2.2.1))).trans (hHeld.2.2.2.2.2.2.2.1)
                            have HS8_ := (hb.cell (World.block_lt_of_cell? _ _ (hHeld.2.2.2.2.2.2.2.2.1))).trans (hHeld.2.2.2.2.2.2.2.2.1)
                            have HS9_ := (hb.cell (World.block_lt_of_cell? _ _ (hHeld.2.2.2.2.2.2.2.2.2.1))).trans (hHeld.2.2.2.2.2.2.2.2.2.1)
                            have HS10_ := (hb.cell (World.block_lt_of_cell? _ _ (hHeld.2.2.2.2.2.2.2.2.2.2.1))).trans (hHeld.2.2.2.2.2.2.2.2.2.2.1)
                            have HS11_ := (hb.cell (World.block_lt_of_cell? _ _ (hHeld.2.2.2.2.2.2.2.2.2.2.2))).trans (hHeld.2.2.2.2.2.2.2.2.2.2.2)
                            refine ⟨_, rfl, ?_⟩
                            have n0_ := Aside0.mk (Kd.R_below (by (with_reducible repeat (first | apply Kd.R_alloc | apply Kd.R_drewN | apply Kd.R_drew)); exact HO174.out) hb)
                            have n1_ := Aside0.mk (Kd.R_below (by (with_reducible repeat (first | apply Kd.R_alloc | apply Kd.R_drewN | apply Kd.R_drew)); exact HO177.out) hb)
                            have n2_ := Aside0.mk (blk_below (g := gb171) (o := .cells #[.string t167, .string t168, .bool t169] 23 (0, 0)) (by (with_reducible repeat (first | refine blk_drewN ?_ _ | refine blk_drew ?_ | refine blk_alloc ?_ _)); exact BK171.out) hb)
                            have n3_ := Aside0.mk (blk_below (g := gb185) (o := .cells #[.string t181, .string t182, .bool t183] 23 (0, 0)) (by (with_reducible repeat (first | refine blk_drewN ?_ _ | refine blk_drew ?_ | refine blk_alloc ?_ _)); exact BK185.out) hb)
                            have n4_ := Aside0.mk (below_step (by repeat (first | (with_reducible first | exact HB.out | apply below_alloc | apply pw_below_drewN | apply below_drew1 | refine below_set ?_ GE171.out | refine below_set ?_ GE185.out) | exact HB.out)) hb)
                            clear HO174
                            clear HO177
                            clear BK171
                            clear BK185
                            clear HB
                            have HO174 := n0_
                            have HO177 := n1_
                            have BK171 := n2_
                            have BK185 := n3_
                            have HB := n4_
                            clear n0_ n1_ n2_ n3_ n4_
                            (try clear hb)
                            (try clear hb2)
                            (try clear hk)
                            (try clear hi)
                            refine hK.out _ _ ⟨(blk_cell BK171.out 0).trans rfl, (blk_cell BK171.out 1).trans rfl, (blk_cell BK171.out 2).trans rfl, (blk_cell BK185.out 0).trans rfl, (blk_cell BK185.out 1).trans rfl, (blk_cell BK185.out 2).trans rfl, HS6_, HS7_, HS8_, HS9_, HS10_, HS11_⟩ (fun hHeld => ?_)
                            clear hK K
                            refine norm_ (a' := ?_) ?_ ?_
                            rotate_left
                            · show Act.put _ (some 73) _ = _
                              simp only [Act.put, List.setIfInBounds_toArray, List.set_cons_zero, List.set_cons_succ, i64_w, i32_w]
                              rfl
                            refine pure_ (i := 44) (N := some 74) (v := ?_) (a' := ?_) #[true, true, true, true, true, true, true, true, true, true, true, true, true, true, true, true, true, true, true, true, true, true, true, true, true, true, true, true, true, true, true, true, true, true, true, true, true, true, true, true, true, true, true, true, true, false, false, false, false, false, false, false, false, false, false, false] rfl rfl (any_of HT_.out (by kernel_rfl)) (fun _ _ _ h => h) (Or.inl ⟨by rfl, ?_⟩) ?_ ?_
                            rotate_left
                            · intro w'
                              go_simp
                              with_reducible rfl
                            rotate_left
                            · simp only [Act.put, List.setIfInBounds_toArray, List.set_cons_zero, List.set_cons_succ, i64_w, i32_w]
                              rfl
                            refine pure_ (i := 45) (N := some 75) (v := ?_) (a' := ?_) #[true, true, true, true, true, true, true, true, true, true, true, true, true, true, true, true, true, true, true, true, true, true, true, true, true, true, true, true, true, true, true, true, true, true, true, true, true, true, true, true, true, true, true, true, true, true, false, false, false, false, false, false, false, false, false, false] rfl rfl (any_of HT_.out (by kernel_rfl)) (fun _ _ _ h => h) (Or.inl ⟨by rfl, ?_⟩) ?_ ?_
                            rotate_left
                            · intro w'
                              go_simp
                              with_reducible rfl
                            rotate_left
                            · simp only [Act.put, List.setIfInBounds_toArray, List.set_cons_zero, List.set_cons_succ, i64_w, i32_w]
                              rfl
                            refine pure_ (i := 46) (N := some 76) (v := ?_) (a' := ?_) #[true, true, true, true, true, true, true, true, true, true, true, true, true, true, true, true, true, true, true, true, true, true, true, true, true, true, true, true, true, true, true, true, true, true, true, true, true, true, true, true, true, true, true, true, true, true, true, false, false, false, false, false, false, false, false, false] rfl rfl (any_of HT_.out (by kernel_rfl)) (fun _ _ _ h => h) (Or.inl ⟨by rfl, ?_⟩) ?_ ?_
                            rotate_left
                            · intro w'
                              go_simp
                              with_reducible rfl
                            rotate_left
                            · simp only [Act.put, List.setIfInBounds_toArray, List.set_cons_zero, List.set_cons_succ, i64_w, i32_w]
                              rfl
                            refine pure_ (i := 48) (N := some 78) (v := ?_) (a' := ?_) #[true, true, true, true, true, true, true, true, true, true, true, true, true, true, true, true, true, true, true, true, true, true, true, true, true, true, true, true, true, true, true, true, true, true, true, true, true, true, true, true, true, true, true, true, true, true, true, false, true, false, false, false, false, false, false, false] rfl rfl (any_of HT_.out (by kernel_rfl)) (fun _ _ _ h => h) (Or.inl ⟨by rfl, ?_⟩) ?_ ?_
                            rotate_left
                            · intro w'
                              go_simp
                              with_reducible rfl
                            rotate_left
                            · simp only [Act.put, List.setIfInBounds_toArray, List.set_cons_zero, List.set_cons_succ, i64_w, i32_w]
                              rfl
                            refine take_ (i := 47) (N := some 77) (v := ?_) (a' := ?_) #[true, true, true, true, true, true, true, true, true, true, true, true, true, true, true, true, true, true, true, true, true, true, true, true, true, true, true, true, true, true, true, true, true, true, true, true, true, true, true, true, true, true, true, true, true, true, true, true, true, false, false, false, false, false, false, false] rfl rfl (take_ofW HT_.out HW_.out (by kernel_rfl)) (fun _ _ _ h => h) (Or.inl ⟨by rfl, ?_⟩) hHeld ?_ ?_
                            rotate_left
                            · rintro w' ⟨s0, s1, s2, s3, s4, s5, s6, s7, s8, s9, s10, s11⟩
                              go_simp
                              with_reducible rfl
                            rotate_left
                            · simp only [Act.put, List.setIfInBounds_toArray, List.set_cons_zero, List.set_cons_succ, i64_w, i32_w]
                              rfl
                            refine pure_ (i := 49) (N := some 79) (v := ?_) (a' := ?_) #[true, true, true, true, true, true, true, true, true, true, true, true, true, true, true, true, true, true, true, true, true, true, true, true, true, true, true, true, true, true, true, true, true, true, true, true, true, true, true, true, true, true, true, true, true, true, true, true, true, true, false, false, false, false, false, false] rfl rfl (any_of HT_.out (by kernel_rfl)) (fun _ _ _ h => h) (Or.inl ⟨by rfl, ?_⟩) ?_ ?_
                            rotate_left
                            · intro w'
                              go_simp
                              with_reducible rfl
                            rotate_left
                            · simp only [Act.put, List.setIfInBounds_toArray, List.set_cons_zero, List.set_cons_succ, i64_w, i32_w]
                              rfl
                            refine pure_ (i := 50) (N := some 80) (v := ?_) (a' := ?_) #[true, true, true, true, true, true, true, true, true, true, true, true, true, true, true, true, true, true, true, true, true, true, true, true, true, true, true, true, true, true, true, true, true, true, true, true, true, true, true, true, true, true, true, true, true, true, true, true, true, true, true, false, false, false, false, false] rfl rfl (any_of HT_.out (by kernel_rfl)) (fun _ _ _ h => h) (Or.inl ⟨by rfl, ?_⟩) ?_ ?_
                            rotate_left
                            · intro w'
                              go_simp
                              with_reducible rfl
                            rotate_left
                            · simp only [Act.put, List.setIfInBounds_toArray, List.set_cons_zero, List.set_cons_succ, i64_w, i32_w]
                              rfl
                            refine pure_ (i := 51) (N := some 81) (v := ?_) (a' := ?_) #[true, true, true, true, true, true, true, true, true, true, true, true, true, true, true, true, true, true, true, true, true, true, true, true, true, true, true, true, true, true, true, true, true, true, true, true, true, true, true, true, true, true, true, true, true, true, true, true, true, true, true, true, false, false, false, false] rfl rfl (any_of HT_.out (by kernel_rfl)) (fun _ _ _ h => h) (Or.inl ⟨by rfl, ?_⟩) ?_ ?_
                            rotate_left
                            · intro w'
                              go_simp
                              with_reducible rfl
                            rotate_left
                            · simp only [Act.put, List.setIfInBounds_toArray, List.set_cons_zero, List.set_cons_succ, i64_w, i32_w]
                              rfl
                            refine take_ (i := 52) (N := some 82) (v := ?_) (a' := ?_) #[true, true, true, true, true, true, true, true, true, true, true, true, true, true, true, true, true, true, true, true, true, true, true, true, true, true, true, true, true, true, true, true, true, true, true, true, true, true, true, true, true, true, true, true, true, true, true, true, true, true, true, true, true, false, false, false] rfl rfl (take_ofW HT_.out HW_.out (by kernel_rfl)) (fun _ _ _ h => h) (Or.inl ⟨by rfl, ?_⟩) hHeld ?_ ?_
                            rotate_left
                            · rintro w' ⟨s0, s1, s2, s3, s4, s5, s6, s7, s8, s9, s10, s11⟩
                              go_simp
                              with_reducible rfl
                            rotate_left
                            · simp only [Act.put, List.setIfInBounds_toArray, List.set_cons_zero, List.set_cons_succ, i64_w, i32_w]
                              rfl
                            refine one_ (i := 53) (N := some 83) #[true, true, true, true, true, true, true, true, true, true, true, true, true, true, true, true, true, true, true, true, true, true, true, true, true, true, true, true, true, true, true, true, true, true, true, true, true, true, true, true, true, true, true, true, true, true, true, true, true, true, true, true, true, true, false, false] rfl rfl (one_of HT_.out (by kernel_rfl)) (by decide) (fun K hK => ?_)
                            refine goes_ Try.func16 (by kernel_rfl) rfl #[.agg #[.string t181, .string t182, .bool t183], .string (⟨#[]⟩ : ByteArray)] (by rfl) rfl rfl (by (try simp only [List.map_toArray, List.map_cons, List.map_nil]); first | done | rfl | (simp only [List.length_drop, List.length_take]; rfl)) ?_
                            with_reducible refine (span_Holds.calls k t181 t182 t183 (⟨#[]⟩ : ByteArray) t191 _ A19.out).mono ?_
                            rintro e w36 ⟨rfl, hb⟩
                            have HS6_ := (hb.cell (World.block_lt_of_cell? _ _ (hHeld.2.2.2.2.2.2.1))).trans (hHeld.2.2.2.2.2.2.1)
                            have HS7_ := (hb.cell (World.block_lt_of_cell? _ _ (hHeld.2.2.2.2.2.2.2.1))).trans (hHeld.2.2.2.2.2.2.2.1)
                            have HS8_ := (hb.cell (World.block_lt_of_cell? _ _ (hHeld.2.2.2.2.2.2.2.2.1))).trans (hHeld.2.2.2.2.2.2.2.2.1)
                            have HS9_ := (hb.cell (World.block_lt_of_cell? _ _ (hHeld.2.2.2.2.2.2.2.2.2.1))).trans (hHeld.2.2.2.2.2.2.2.2.2.1)
                            have HS10_ := (hb.cell (World.block_lt_of_cell? _ _ (hHeld.2.2.2.2.2.2.2.2.2.2.1))).trans (hHeld.2.2.2.2.2.2.2.2.2.2.1)
                            have HS11_ := (hb.cell (World.block_lt_of_cell? _ _ (hHeld.2.2.2.2.2.2.2.2.2.2.2))).trans (hHeld.2.2.2.2.2.2.2.2.2.2.2)
                            refine ⟨_, rfl, ?_⟩
                            have n0_ := Aside0.mk (Kd.R_below (by (with_reducible repeat (first | apply Kd.R_alloc | apply Kd.R_drewN | apply Kd.R_drew)); exact HO174.out) hb)
                            have n1_ := Aside0.mk (Kd.R_below (by (with_reducible repeat (first | apply Kd.R_alloc | apply Kd.R_drewN | apply Kd.R_drew)); exact HO177.out) hb)
                            have n2_ := Aside0.mk (blk_below (g := gb171) (o := .cells #[.string t167, .string t168, .bool t169] 23 (0, 0)) (by (with_reducible repeat (first | refine blk_drewN ?_ _ | refine blk_drew ?_ | refine blk_alloc ?_ _)); exact BK171.out) hb)
                            have n3_ := Aside0.mk (blk_below (g := gb185) (o := .cells #[.string t181, .string t182, .bool t183] 23 (0, 0)) (by (with_reducible repeat (first | refine blk_drewN ?_ _ | refine blk_drew ?_ | refine blk_alloc ?_ _)); exact BK185.out) hb)
                            have n4_ := Aside0.mk (below_step (by repeat (first | (with_reducible first | exact HB.out | apply below_alloc | apply pw_below_drewN | apply below_drew1 | refine below_set ?_ GE171.out | refine below_set ?_ GE185.out) | exact HB.out)) hb)
                            clear HO174
                            clear HO177
                            clear BK171
                            clear BK185
                            clear HB
                            have HO174 := n0_
                            have HO177 := n1_
                            have BK171 := n2_
                            have BK185 := n3_
                            have HB := n4_
                            clear n0_ n1_ n2_ n3_ n4_
                            (try clear hb)
                            (try clear hb2)
                            (try clear hk)
                            (try clear hi)
                            refine hK.out _ _ ⟨(blk_cell BK171.out 0).trans rfl, (blk_cell BK171.out 1).trans rfl, (blk_cell BK171.out 2).trans rfl, (blk_cell BK185.out 0).trans rfl, (blk_cell BK185.out 1).trans rfl, (blk_cell BK185.out 2).trans rfl, HS6_, HS7_, HS8_, HS9_, HS10_, HS11_⟩ (fun hHeld => ?_)
                            clear hK K
                            refine norm_ (a' := ?_) ?_ ?_
                            rotate_left
                            · show Act.put _ (some 83) _ = _
                              simp only [Act.put, List.setIfInBounds_toArray, List.set_cons_zero, List.set_cons_succ, i64_w, i32_w]
                              rfl
                            refine pure_ (i := 54) (N := some 84) (v := ?_) (a' := ?_) #[true, true, true, true, true, true, true, true, true, true, true, true, true, true, true, true, true, true, true, true, true, true, true, true, true, true, true, true, true, true, true, true, true, true, true, true, true, true, true, true, true, true, true, true, true, true, true, true, true, true, true, true, true, true, true, false] rfl rfl (any_of HT_.out (by kernel_rfl)) (fun _ _ _ h => h) (Or.inl ⟨by rfl, ?_⟩) ?_ ?_
                            rotate_left
                            · intro w'
                              go_simp
                              with_reducible rfl
                            rotate_left
                            · simp only [Act.put, List.setIfInBounds_toArray, List.set_cons_zero, List.set_cons_succ, i64_w, i32_w]
                              rfl
                            refine pure_ (i := 55) (N := some 0) (v := ?_) (a' := ?_) #[true, true, true, true, true, true, true, true, true, true, true, true, true, true, true, true, true, true, true, true, true, true, true, true, true, true, true, true, true, true, true, true, true, true, true, true, true, true, true, true, true, true, true, true, true, true, true, true, true, true, true, true, true, true, true, true] rfl rfl (any_of HT_.out (by kernel_rfl)) (fun _ _ _ h => h) (Or.inl ⟨by rfl, ?_⟩) ?_ ?_
                            rotate_left
                            · intro w'
                              go_simp
                              with_reducible rfl
                            rotate_left
                            · simp only [Act.put, List.setIfInBounds_toArray, List.set_cons_zero, List.set_cons_succ, i64_w, i32_w]
                              rfl
                            refine done_ (done_of HT_.out (by kernel_rfl)) ?_
                            try go_wp2
                            go_ret
                            exact ⟨by first | rfl | (simp [errW_none, errW_some] <;> rfl) | (simp [*, errW_none, errW_some] <;> rfl), by repeat (first | (with_reducible first | exact HB.out | apply below_alloc | apply pw_below_drewN | apply below_drew1 | refine below_set ?_ GE171.out | refine below_set ?_ GE185.out) | exact HB.out)⟩
                          · rw [if_neg c18] at H
                            exact absurd H (by simp)
                        · rw [if_neg c17] at H
                          exact absurd H (by simp)
                      · rw [if_neg c15] at H
                        exact absurd H (by simp)
                    · rw [if_neg c14] at H
                      exact absurd H (by simp)
                  · rw [if_neg c13] at H
                    exact absurd H (by simp)
                · rw [if_neg c12] at H
                  exact absurd H (by simp)
              · rw [if_neg c11] at H
                exact absurd H (by simp)
            · rw [if_neg c10] at H
              exact absurd H (by simp)
          · rw [if_neg c9] at H
            exact absurd H (by simp)
        · rw [if_neg c8] at H
          exact absurd H (by simp)
      · rw [if_neg c7] at H
        exact absurd H (by simp)
    · rw [if_neg c6] at H
      exact absurd H (by simp)
  · replace c5 := Bool.eq_false_iff.mpr c5
    subst c5
    have H1 : (none) = some r := by rw [if_neg (show ¬ (false = true) by decide)] at H; exact H
    clear H
    have H := H1
    clear H1
    exact absurd H (by simp)

/-! ### tidelineref02_Check: function 13 -/
def tidelineref02_Check.j0 : Nat → Bool → ByteArray → ByteArray → Bool → Option (Int)
  | 0, _, _, _, _ => none
  | k + 1, x12, x193000, x193001, x193002 => if x12 = true then (some 20) else (if x193002 = true then (if x193001.toList = ([] : List UInt8) then (some 0) else (some 21)) else (if (Op.bytesLess x193001.toList x193000.toList) = true then (some 21) else (some 0)))
def tidelineref02_Check.f (k : Nat) (a0_0 : ByteArray) (a0_1 : ByteArray) (a0_2 : Bool) : Option (Int) := if (a0_0.size : Int) > 16 then (tidelineref02_Check.j0 k true a0_0 a0_1 a0_2) else (tidelineref02_Check.j0 k (decide ((a0_1.size : Int) > 16)) a0_0 a0_1 a0_2)
theorem tidelineref02_Check.mono_l : ∀ k, (∀ y0 y1 y2 y3, LeO (tidelineref02_Check.j0 k y0 y1 y2 y3) (tidelineref02_Check.j0 (k + 1) y0 y1 y2 y3))
  | 0 => fun _ _ _ _ r h => by simp [tidelineref02_Check.j0] at h
  | k + 1 => by
    have ih0 := tidelineref02_Check.mono_l k
    · intro y0 y1 y2 y3
      unfold tidelineref02_Check.j0
      repeat' first
      | (with_reducible exact ih0 _ _ _ _)
      | (with_reducible exact LeO.refl _)
      | (with_reducible exact LeO.none _)
      | (with_reducible refine LeO.ite ?_ ?_)
      | (with_reducible refine LeO.bind ?_ (fun _ => ?_))
      | exact ih0 _ _ _ _
      | exact LeO.none _
      | refine LeO.ite ?_ ?_
      | refine LeO.bind ?_ (fun _ => ?_)
theorem tidelineref02_Check.mono : ∀ a0 a1 a2 k, LeO (tidelineref02_Check.f k a0 a1 a2) (tidelineref02_Check.f (k + 1) a0 a1 a2) := by
  intro a0 a1 a2 k
  have ih0 := tidelineref02_Check.mono_l k
  unfold tidelineref02_Check.f
  repeat' first
      | (with_reducible exact ih0 _ _ _ _)
      | (with_reducible exact LeO.refl _)
      | (with_reducible exact LeO.none _)
      | (with_reducible refine LeO.ite ?_ ?_)
      | (with_reducible refine LeO.bind ?_ (fun _ => ?_))
      | exact ih0 _ _ _ _
      | exact LeO.none _
      | refine LeO.ite ?_ ?_
      | refine LeO.bind ?_ (fun _ => ?_)
set_option maxHeartbeats 8000000 in
set_option maxRecDepth 100000 in
theorem tidelineref02_Check.calls (k : Nat) (a0_0 : ByteArray) (a0_1 : ByteArray) (a0_2 : Bool) (r : Int) (w : World) (h : tidelineref02_Check.f k a0_0 a0_1 a0_2 = some r) :
    Calls Try.prog 13 #[.agg #[.string a0_0, .string a0_1, .bool a0_2]] w fun e w' => e = .returned (.int .i64 r) ∧ Below w.heap.size w w' := by
  have hu23 := Try.underlying23
  have HB := Aside0.mk (Below.refl w.heap.size w)
  have H : (if (a0_0.size : Int) > 16 then (tidelineref02_Check.j0 k true a0_0 a0_1 a0_2) else (tidelineref02_Check.j0 k (decide ((a0_1.size : Int) > 16)) a0_0 a0_1 a0_2)) = some r := h
  clear h
  have HC2 := Aside0.mk H
  clear H
  go_enter Try.func13, Try.ntmps13
  go_upto_region 1 with (first | ((with_reducible refine gate_dst (N := 1) rfl ?_); (try (refine gate_guard (by rfl) ?_; dsimp only)); refine box_event ?hg (N := 1) ?hd (cs := #[.string a0_0, .string a0_1, .bool a0_2]) (t := 23) ?hr ?_; (case hd => rfl); (case hg => rfl); (case hr => first | (go_simp; done) | (go_simp; rfl)); intro gb192 hg w3 hbox hb; have n0_ := Aside0.mk (below_step (by repeat (first | (with_reducible first | exact HB.out | apply below_alloc | apply pw_below_drewN | apply below_drew1) | exact HB.out)) hb); have n1_ := Aside0.mk (hbox); have n2_ := Aside0.mk ((by rw [hg]; exact (below_size (by repeat (first | (with_reducible first | exact HB.out | apply below_alloc | apply pw_below_drewN | apply below_drew1) | exact HB.out))) : w.heap.size ≤ gb192)); have n3_ := Aside0.mk ((by rw [hg]; exact (below_size (by repeat (first | (with_reducible first | exact HB.out | apply below_alloc | apply pw_below_drewN | apply below_drew1) | exact HB.out))) : w.heap.size ≤ gb192)); clear HB; have HB := n0_; have BK192 := n1_; have GW192 := n2_; have GE192 := n3_; clear n0_ n1_ n2_ n3_; clear hb hbox hg))
  (try simp only [Act.put, List.setIfInBounds_toArray, List.set_cons_zero, List.set_cons_succ])
  go_cut [12] (fun v12 wc => ∃ (kq : Nat) (x12_1 : Bool), v12 = .bool x12_1 ∧ Aside0 (tidelineref02_Check.j0 kq x12_1 a0_0 a0_1 a0_2 = some r) ∧ Aside0 (kq ≤ k) ∧ Aside0 (wc.heap[gb192]? = some (.cells #[.string a0_0, .string a0_1, .bool a0_2] 23 (0, 0))) ∧ Aside0 (Below w.heap.size w wc))
  case first =>
    have H := HC2.out
    clear HC2
    by_cases c4 : (a0_0.size : Int) > 16
    · rw [if_pos c4] at H
      have c4b0 : decide (16 < (a0_0.size : Int)) = true := decide_eq_true c4
      have c4b1 : decide (16 < a0_0.size) = true := decide_eq_true (by omega)
      clear c4
      (first | rw [c4b0] | (simp only [i64_w, i32_w]; rw [c4b0]) | skip)
      have H' := Aside0.mk H
      clear H
      have hcz5_0 : w3.cell? ⟨gb192, 0, none⟩ = some (.string a0_0) := (blk_cell BK192.out 0).trans rfl
      have hcz5_1 : w3.cell? ⟨gb192, 1, none⟩ = some (.string a0_1) := (blk_cell BK192.out 1).trans rfl
      have hcz5_2 : w3.cell? ⟨gb192, 2, none⟩ = some (.bool a0_2) := (blk_cell BK192.out 2).trans rfl
      have hfz5_0 := blk_frozen BK192.out 0
      have hfz5_1 := blk_frozen BK192.out 1
      have hfz5_2 := blk_frozen BK192.out 2
      go_wp2
      go_meet
      case rel => exact ⟨_, (true), (by first | rfl | (simp; done) | (simp [*]; done) | (simp [*, Go.Proofs.Ytgdhgamolenfgaa.Str.bne_nil]; done)), H', ⟨by first | omega | exact Nat.le_refl _⟩, ⟨by (with_reducible repeat (first | refine blk_drewN ?_ _ | refine blk_drew ?_ | refine blk_alloc ?_ _)); exact BK192.out⟩, ⟨by repeat (first | (with_reducible first | exact HB.out | apply below_alloc | apply pw_below_drewN | apply below_drew1 | refine below_set ?_ GE192.out) | exact HB.out)⟩⟩
    · rw [if_neg c4] at H
      have c4b0 : decide (16 < (a0_0.size : Int)) = false := decide_eq_false c4
      have c4b1 : decide (16 < a0_0.size) = false := decide_eq_false (by omega)
      clear c4
      (first | rw [c4b0] | (simp only [i64_w, i32_w]; rw [c4b0]) | skip)
      have H' := Aside0.mk H
      clear H
      have hcz6_0 : w3.cell? ⟨gb192, 0, none⟩ = some (.string a0_0) := (blk_cell BK192.out 0).trans rfl
      have hcz6_1 : w3.cell? ⟨gb192, 1, none⟩ = some (.string a0_1) := (blk_cell BK192.out 1).trans rfl
      have hcz6_2 : w3.cell? ⟨gb192, 2, none⟩ = some (.bool a0_2) := (blk_cell BK192.out 2).trans rfl
      have hfz6_0 := blk_frozen BK192.out 0
      have hfz6_1 := blk_frozen BK192.out 1
      have hfz6_2 := blk_frozen BK192.out 2
      go_wp2
      go_meet
      case rel => exact ⟨_, (decide ((a0_1.size : Int) > 16)), (by first | rfl | (simp; done) | (simp [*]; done) | (simp [*, Go.Proofs.Ytgdhgamolenfgaa.Str.bne_nil]; done)), H', ⟨by first | omega | exact Nat.le_refl _⟩, ⟨by (with_reducible repeat (first | refine blk_drewN ?_ _ | refine blk_drew ?_ | refine blk_alloc ?_ _)); exact BK192.out⟩, ⟨by repeat (first | (with_reducible first | exact HB.out | apply below_alloc | apply pw_below_drewN | apply below_drew1 | refine below_set ?_ GE192.out) | exact HB.out)⟩⟩
  case rest =>
    clear HC2
    try clear c1
    try clear p2
    try clear c4
    try clear c4b0
    try clear c4b1
    try clear hcz5_0
    try clear hcz5_1
    try clear hcz5_2
    try clear hcz6_0
    try clear hcz6_1
    try clear hcz6_2
    try clear hfz5_0
    try clear hfz5_1
    try clear hfz5_2
    try clear hfz6_0
    try clear hfz6_1
    try clear hfz6_2
    obtain ⟨kq, x12_1, rfl, HA, HJ1, BK192, HB⟩ := hcut
    cases kq with
    | zero => exact absurd HA.out (by simp [tidelineref02_Check.j0])
    | succ kj1 =>
      have H := HA.out
      clear HA
      simp only [tidelineref02_Check.j0] at H
      by_cases c7 : x12_1 = true
      · subst c7
        have H1 : (some 20) = some r := by rw [if_pos rfl] at H; exact H
        clear H
        have H := H1
        clear H1
        obtain rfl := Option.some.inj H
        go_wp2
        go_ret
        exact ⟨by first | rfl | (simp [errW_none, errW_some] <;> rfl) | (simp [*, errW_none, errW_some] <;> rfl), by repeat (first | (with_reducible first | exact HB.out | apply below_alloc | apply pw_below_drewN | apply below_drew1 | refine below_set ?_ GE192.out) | exact HB.out)⟩
      · replace c7 := Bool.eq_false_iff.mpr c7
        subst c7
        have H1 : (if a0_2 = true then (if a0_1.toList = ([] : List UInt8) then (some 0) else (some 21)) else (if (Op.bytesLess a0_1.toList a0_0.toList) = true then (some 21) else (some 0))) = some r := by rw [if_neg (show ¬ (false = true) by decide)] at H; exact H
        clear H
        have H := H1
        clear H1
        by_cases c8 : a0_2 = true
        · subst c8
          have H1 : (if a0_1.toList = ([] : List UInt8) then (some 0) else (some 21)) = some r := by rw [if_pos rfl] at H; exact H
          clear H
          have H := H1
          clear H1
          by_cases c9 : a0_1.toList = ([] : List UInt8)
          · rw [if_pos c9] at H
            have c9b0 : (a0_1.toList == ([] : List UInt8)) = true := beq_iff_eq.mpr c9
            (try (have c9b8 := c9b0; simp only [List.beq_nil_eq] at c9b8))
            have c9b1 : (a0_1.toList != ([] : List UInt8)) = false := bne_eq_false_iff_eq.mpr c9
            clear c9
            obtain rfl := Option.some.inj H
            have hcz10_0 : wc.cell? ⟨gb192, 0, none⟩ = some (.string a0_0) := (blk_cell BK192.out 0).trans rfl
            have hcz10_1 : wc.cell? ⟨gb192, 1, none⟩ = some (.string a0_1) := (blk_cell BK192.out 1).trans rfl
            have hcz10_2 : wc.cell? ⟨gb192, 2, none⟩ = some (.bool true) := (blk_cell BK192.out 2).trans rfl
            have hfz10_0 := blk_frozen BK192.out 0
            have hfz10_1 := blk_frozen BK192.out 1
            have hfz10_2 := blk_frozen BK192.out 2
            go_wp2
            go_ret
            exact ⟨by first | rfl | (simp [errW_none, errW_some] <;> rfl) | (simp [*, errW_none, errW_some] <;> rfl), by repeat (first | (with_reducible first | exact HB.out | apply below_alloc | apply pw_below_drewN | apply below_drew1 | refine below_set ?_ GE192.out) | exact HB.out)⟩
          · rw [if_neg c9] at H
            have c9b0 : (a0_1.toList == ([] : List UInt8)) = false := beq_eq_false_iff_ne.mpr c9
            (try (have c9b8 := c9b0; simp only [List.beq_nil_eq] at c9b8))
            have c9b1 : (a0_1.toList != ([] : List UInt8)) = true := bne_iff_ne.mpr c9
            obtain rfl := Option.some.inj H
            have hcz11_0 : wc.cell? ⟨gb192, 0, none⟩ = some (.string a0_0) := (blk_cell BK192.out 0).trans rfl
            have hcz11_1 : wc.cell? ⟨gb192, 1, none⟩ = some (.string a0_1) := (blk_cell BK192.out 1).trans rfl
            have hcz11_2 : wc.cell? ⟨gb192, 2, none⟩ = some (.bool true) := (blk_cell BK192.out 2).trans rfl
            have hfz11_0 := blk_frozen BK192.out 0
            have hfz11_1 := blk_frozen BK192.out 1
            have hfz11_2 := blk_frozen BK192.out 2
            go_wp2
            go_ret
            exact ⟨by first | rfl | (simp [errW_none, errW_some] <;> rfl) | (simp [*, errW_none, errW_some] <;> rfl), by repeat (first | (with_reducible first | exact HB.out | apply below_alloc | apply pw_below_drewN | apply below_drew1 | refine below_set ?_ GE192.out) | exact HB.out)⟩
        · replace c8 := Bool.eq_false_iff.mpr c8
          subst c8
          have H1 : (if (Op.bytesLess a0_1.toList a0_0.toList) = true then (some 21) else (some 0)) = some r := by rw [if_neg (show ¬ (false = true) by decide)] at H; exact H
          clear H
          have H := H1
          clear H1
          by_cases c12 : (Op.bytesLess a0_1.toList a0_0.toList) = true
          · rw [if_pos c12] at H
            have c12b0 : (Op.bytesLess a0_1.toList a0_0.toList) = true := c12
            clear c12
            obtain rfl := Option.some.inj H
            have hcz13_0 : wc.cell? ⟨gb192, 0, none⟩ = some (.string a0_0) := (blk_cell BK192.out 0).trans rfl
            have hcz13_1 : wc.cell? ⟨gb192, 1, none⟩ = some (.string a0_1) := (blk_cell BK192.out 1).trans rfl
            have hcz13_2 : wc.cell? ⟨gb192, 2, none⟩ = some (.bool false) := (blk_cell BK192.out 2).trans rfl
            have hfz13_0 := blk_frozen BK192.out 0
            have hfz13_1 := blk_frozen BK192.out 1
            have hfz13_2 := blk_frozen BK192.out 2
            go_wp2
            go_ret
            exact ⟨by first | rfl | (simp [errW_none, errW_some] <;> rfl) | (simp [*, errW_none, errW_some] <;> rfl), by repeat (first | (with_reducible first | exact HB.out | apply below_alloc | apply pw_below_drewN | apply below_drew1 | refine below_set ?_ GE192.out) | exact HB.out)⟩
          · rw [if_neg c12] at H
            have c12b0 : (Op.bytesLess a0_1.toList a0_0.toList) = false := by simpa using c12
            clear c12
            obtain rfl := Option.some.inj H
            have hcz14_0 : wc.cell? ⟨gb192, 0, none⟩ = some (.string a0_0) := (blk_cell BK192.out 0).trans rfl
            have hcz14_1 : wc.cell? ⟨gb192, 1, none⟩ = some (.string a0_1) := (blk_cell BK192.out 1).trans rfl
            have hcz14_2 : wc.cell? ⟨gb192, 2, none⟩ = some (.bool false) := (blk_cell BK192.out 2).trans rfl
            have hfz14_0 := blk_frozen BK192.out 0
            have hfz14_1 := blk_frozen BK192.out 1
            have hfz14_2 := blk_frozen BK192.out 2
            go_wp2
            go_ret
            exact ⟨by first | rfl | (simp [errW_none, errW_some] <;> rfl) | (simp [*, errW_none, errW_some] <;> rfl), by repeat (first | (with_reducible first | exact HB.out | apply below_alloc | apply pw_below_drewN | apply below_drew1 | refine below_set ?_ GE192.out) | exact HB.out)⟩

end Go.Proofs.Ytgdhgamolenfgaa.PAll
