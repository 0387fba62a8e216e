/- For every number and every configuration the law NodeNew answers true: which nodes there are is what the document says, and what a new node tells of itself is what the document's tells. Its condition: the package-level variable mix.lanes, which the code behind it names, holds what start-up laid in it; the card ties that to the program's text. -/
import Derived.Test.YtdkkpngmplehfaaDoorRows
import Derived.Test.YtdkkpngmplehfaaDoorCards
import Derived.Test.YtdkkpngmplehfaaDoorTie
import Derived.Test.YtdkkpngmplehfaaDoorSNodeL
import Derived.Test.YtdkkpngmplehfaaDoorSOpen
import Derived.WalkKit
import Derived.ProofKit
import Derived.OpenShut
import Derived.ShutString
import Derived.ChangeOld
import Derived.Below
import Derived.SizedLaws
import Derived.Carry
import Derived.LaidMore
import Derived.Lay
import Derived.Lib.LaidTab
import Derived.Stop.LaidErr
import Derived.Stop.Joined
import Derived.SevenTiedAt
namespace Go.Proofs.YtdkkpngmplehfaaDoor
open Go.ChangeMaps (open_string shut_string)
open Go.ChangeShapes Go.WideShapes Go.ChangeAt Go.WideMaps Go.WideElems Go.RowKit Go.Proofs.YtdkkpngmplehfaaDoor.Nd Go.Proofs.YtdkkpngmplehfaaDoor.Open Go.Proofs.YtdkkpngmplehfaaDoorW.PrintWords
set_option linter.unusedVariables false
def laid1 : List (String × DataW Unit) := [("tideline/mix.lanes", Rows.laid_tideline_mix_lanes)]
theorem own : ownKnob Tryd.prog.godebug = none := by kernel_rfl
theorem laidOut : laidOutB Tryd.prog = true := by kernel_rfl
/-- The heap that the initialisers leave meets the condition. -/
theorem door_met (os : Os) (args : Array Value) : laidMetH Tryd.prog laid1 ((World.doorLaid Tryd.prog 400 os).forCall (fun _ _ => 0) ⟨#[], args, []⟩).memory :=
  laidMetH_of_parts3 (fuel := 8) (laidMet_of_run' 8 (by kernel_rfl) (by kernel_rfl)) (by kernel_rfl) (by kernel_rfl)
theorem opens23 : Opens Tryd.prog 23 (Kd.pair (Kd.int .i64) (Kd.pair (Kd.int .i64) (Kd.pair (Kd.int .i64) (Kd.int .i64)))) (fun _ => True) :=
  opens_mono (fun _ _ => trivial) (opens_struct Tryd.underlying23 (by kernel_rfl) (opensF_cons rfl (by kernel_rfl) (opens_int Tryd.underlying3) (opensF_cons rfl (by kernel_rfl) (opens_int Tryd.underlying3) (opensF_cons rfl (by kernel_rfl) (opens_int Tryd.underlying3) (opensF_one rfl (by kernel_rfl) (opens_int Tryd.underlying3))))))
set_option maxRecDepth 100000 in
theorem lifted (os : Os) (started : os.Started) (H : Type) (enc : TypeId × Value → H) :
    ReturnsInHanded {} Tryd.checked os 3 .any (fun w args => (Rows.nodeNewSpec.pre enc Tryd.prog Tryd.f3 [] false w args ∧ laidMetH Tryd.prog laid1 w) ∧ sizedMet enc Tryd.prog Tryd.f3 (OpenSpec.ofChange Rows.nodeNewSpec) false w args)
      (Rows.nodeNewSpec.post enc Tryd.prog Tryd.f3 false true false false) := by
  refine returnsInHanded_of_change_and (C := Tryd.checked) (X := fun w _ => laidMetH Tryd.prog laid1 w) (fun _ _ _ hh h => h.of_heap hh) own started (by kernel_rfl) Tryd.func3
    (ChangeSpec.witness_shaped (enc := enc) (C := Tryd.checked) (os := os) (X := fun w _ => laidMetH Tryd.prog laid1 w) false (World.doorLaid Tryd.prog 400 os) #[.int .i64 0, .agg #[.int .i64 0, .int .i64 0, .int .i64 0, .int .i64 0]] 8 rfl (World.shaped_of_RefB (by kernel_rfl) (by kernel_rfl)) (by kernel_rfl) (by kernel_rfl) (by kernel_rfl) (door_met os _)) ?_
  intro W base args ds gs before hval0 hW _ hsz0 _ _
  have hsz : (DataW.weightsEach Tryd.prog (Tryd.f3.params.toList ++ Rows.nodeNewSpec.plain.varTypes Tryd.prog) (ds ++ gs)).all (· ≤ reachBytes) = true := hsz0
  have hval : ∀ (j : Nat) t v, Tryd.f3.params[j]? = some t → args[j]? = some v → Value.okWide Tryd.prog W .any base t v := hval0
  have hW' := hW
  obtain ⟨p, q, hA0, hV, rfl, hfz, hnd⟩ := hW
  have hA : DataW.TrodAll enc Tryd.prog W 0 (fun _ => true) true Tryd.f3.params.toList args.toList ds p := hA0
  rw [Tryd.params3] at hA hval hsz
  obtain ⟨v0, vs0, d0, ds0, p0, q0, hargs, rfl, rfl, h0, r0⟩ := trodAll_cons hA
  obtain ⟨v1, vs1, d1, ds1, p1, q1, rfl, rfl, rfl, h1, r1⟩ := trodAll_cons r0
  obtain ⟨rfl, rfl, rfl⟩ := trodAll_nil r1
  obtain rfl : args = #[v0, v1] := by cases args; simp_all
  obtain ⟨rfl, rfl⟩ := trodVars_none hV
  obtain ⟨n, rfl, rfl, rfl, y0⟩ := open_int Tryd.underlying3 (hval 0 3 v0 rfl rfl) h0
  have k1 := h1
  have lt1 : ∀ x ∈ p1, x.block < W.heap.size := by obtain ⟨m, hm⟩ := k1; exact DataW.trod_lt m _ _ _ hm
  have wt1 : ∀ n ∈ d1.weights Tryd.prog 23, n ≤ 140737488351232 := fun n hn => by have z := List.all_eq_true.1 hsz n (DataW.weights_mem_each (j := 1) (t := 23) rfl rfl n hn); exact of_decide_eq_true z
  obtain ⟨cs1, rfl, _⟩ := okWide_struct Tryd.underlying23 (hval 1 23 v1 rfl rfl)
  obtain ⟨fuel1, hf1⟩ := h1
  obtain ⟨y1, hK1, _⟩ := opens23 H enc W 0 _ true fuel1 _ _ hf1 wt1
  obtain ⟨a1, b1, c1, e1⟩ := y1
  obtain ⟨_, _, ecs, rfl, ⟨_, _, rfl, rfl, ⟨_, _, rfl, rfl, rfl⟩⟩⟩ := hK1
  obtain rfl : cs1 = #[.int .i64 a1, .int .i64 b1, .int .i64 c1, .int .i64 e1] := by cases cs1; simpa [Value.cells] using ecs
  refine (law_calls n a1 b1 c1 e1 W).mono fun e W' ⟨he, bel0⟩ => ?_
  have bel : Below W.heap.size W W' := bel0
  subst he
  exact ⟨_, rfl, _, _, _, [], _, [], hW', trodAll_mk1 (shut_bool Tryd.underlying4 _), (trodAll_cons_mk (shut_int Tryd.underlying3 y0) (trodAll_cons_mk (Below.trod laidOut (by kernel_rfl) (of_decide_eq_true (by kernel_rfl)) k1 bel lt1) trodAll_mk0)), rfl, bel.frame _, fun h => by cases h⟩
theorem nodeNew_row : Rows.NodeNewSaid :=
  OpenClaim.holds_of_wide 3 Tryd.f3 rfl rfl rfl rfl rfl rfl rfl ⟨rfl, rfl, rfl, rfl, rfl⟩ rfl rfl rfl rfl rfl (by kernel_rfl) Tryd.func3 (by kernel_rfl)
    (of_decide_eq_true (by kernel_rfl)) (by unfold Func.isWrapper; first | (rw [if_pos (by decide +kernel)]; kernel_rfl) | (rw [if_neg (by decide +kernel)]; exact ⟨rfl, rfl⟩))
    (fun os started H enc _ => lifted os started H enc)
theorem nodeNew_holds : Rows.NodeNewCardSaid :=
  Claim7.holds_tied_plain_at .later [] [.data] true (true, "a3b7e9bdd076534524b5a0108cb6966d9e922f09173cb22760237d3fac3ac5a8") false
    nodeNew_row (fun _ h => by cases h) (by kernel_rfl) (fun _ h => by cases h) nodeNew_row_tie rfl ⟨rfl, rfl⟩ (by kernel_rfl) rfl
    (fun f fn hf hfn => by
      obtain rfl : f = 3 := Option.some.inj ((show Tryd.prog.funcNamed "tideline/tidelinelaw17.NodeNew" = some 3 by kernel_rfl).symm.trans hf) |>.symm
      obtain rfl : fn = Tryd.f3 := (Option.some.inj (Tryd.func3.symm.trans hfn)).symm
      exact ⟨by kernel_rfl, fun j t ht => by
        rw [Tryd.params3] at ht
        have hm : t ∈ [3, 23] := by simpa using Array.mem_of_getElem? ht
        have hall : ([3, 23].all fun u => !Tryd.prog.wantsStandIn u) = true := by kernel_rfl
        exact (show Tryd.prog.wantsStandIn t = false by simpa using List.all_eq_true.1 hall t hm)⟩)
    (by kernel_rfl)
#print axioms nodeNew_holds
end Go.Proofs.YtdkkpngmplehfaaDoor
