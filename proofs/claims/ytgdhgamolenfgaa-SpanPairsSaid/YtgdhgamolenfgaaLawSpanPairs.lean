-- By wip/ownrow.py (a program of this session).
import Derived.Test.YtgdhgamolenfgaaRows
import Derived.Test.YtgdhgamolenfgaaPAllx7
import Derived.Test.YtgdhgamolenfgaaQSpanPairs
import Derived.Test.YtgdhgamolenfgaaPureSpanPairs
import Derived.Test.YtgdhgamolenfgaaSOpen
import Derived.Test.YtgdhgamolenfgaaSFit
import Derived.WalkKit
import Derived.ProofKit
import Derived.OpenShut
import Derived.ShutString
import Derived.ChangeOld
import Derived.Below
import Derived.SizedLaws
import Derived.Carry
namespace Go.Proofs.Ytgdhgamolenfgaa.spanPairs
open Go.ChangeShapes Go.WideShapes Go.ChangeAt Go.RowKit Go.Proofs.Ytgdhgamolenfgaa.Open Go.Proofs.Ytgdhgamolenfgaa.PAll Go.Proofs.YtgdhgamolenfgaaW.PrintWords
open Go.ChangeMaps (open_string shut_string)
set_option linter.unusedVariables false
theorem own : ownKnob Try.prog.godebug = none := by kernel_rfl
theorem laidOut : laidOutB Try.prog = true := by kernel_rfl
set_option maxRecDepth 100000 in
theorem lifted (os : Os) (started : os.Started) (H : Type) (enc : TypeId × Value → H) :
    ReturnsInHanded {} Try.checked os 7 .any (Rows.spanPairsSpec.pre6 enc Try.prog Try.f7 Rows.spanPairsRow.domain false) (Rows.spanPairsSpec.post enc Try.prog Try.f7 false true false false) := by
  refine Go.Proofs.Ytgdhgamolenfgaa.Glob.sized_shaped (C := Try.checked) own started (by kernel_rfl) Try.func7
    (ChangeSpec.witness6 (enc := enc) (C := Try.checked) false ⟨#[], #[.agg #[.string ByteArray.empty, .string ByteArray.empty, .bool false], .agg #[.string ByteArray.empty, .string ByteArray.empty, .bool false]], []⟩ 8 (by kernel_rfl) (by kernel_rfl) (by kernel_rfl) (by kernel_rfl)) ?_
  intro W base args ds gs before hshape hval0 hW hcnd hsz0 _
  have hG := Go.Proofs.Ytgdhgamolenfgaa.Glob.glob_of_shaped hshape
  have hsz : (DataW.weightsEach Try.prog (Try.f7.params.toList ++ Rows.spanPairsSpec.plain.varTypes Try.prog) (ds ++ gs)).all (· ≤ reachBytes) = true := hsz0
  have hval : ∀ (j : Nat) t v, Try.f7.params[j]? = some t → args[j]? = some v → Value.okWide Try.prog W .any base t v := hval0
  have hW' := hW
  obtain ⟨p, q, hA0, hV, rfl, hfz, hnd⟩ := hW
  have hA : DataW.TrodAll enc Try.prog W 0 (fun _ => true) true Try.f7.params.toList args.toList ds p := hA0
  rw [Try.params7] at hA hval hsz
  obtain ⟨v0, vs0, d0, ds0, p0, q0, hargs, rfl, rfl, h0, r0⟩ := trodAll_cons hA
  obtain ⟨v1, vs1, d1, ds1, p1, q1, rfl, rfl, rfl, h1, r1⟩ := trodAll_cons r0
  obtain ⟨rfl, rfl, rfl⟩ := trodAll_nil r1
  obtain rfl : args = #[v0, v1] := by cases args; simp_all
  obtain ⟨rfl, rfl⟩ := trodVars_none hV
  have k0 := h0
  have lt0 : ∀ x ∈ p0, x.block < W.heap.size := by obtain ⟨m, hm⟩ := k0; exact DataW.trod_lt m _ _ _ hm
  have wt0 : ∀ n ∈ d0.weights Try.prog 23, n ≤ 140737488351232 := fun n hn => by have z := List.all_eq_true.1 hsz n (DataW.weights_mem_each (j := 0) (t := 23) rfl rfl n hn); exact of_decide_eq_true z
  obtain ⟨cs0, rfl, _⟩ := okWide_struct Try.underlying23 (hval 0 23 v0 rfl rfl)
  obtain ⟨fuel0, hf0⟩ := h0
  obtain ⟨y0, hK0, w0⟩ := opens23 H enc W 0 _ true fuel0 _ _ hf0 wt0
  obtain ⟨a0_0, a0_1, a0_2⟩ := y0
  have e0 := k23_open hK0
  obtain rfl : cs0 = #[.string a0_0, .string a0_1, .bool a0_2] := by cases cs0; simpa [Value.cells] using e0
  have k1 := h1
  have lt1 : ∀ x ∈ p1, x.block < W.heap.size := by obtain ⟨m, hm⟩ := k1; exact DataW.trod_lt m _ _ _ hm
  have wt1 : ∀ n ∈ d1.weights Try.prog 23, n ≤ 140737488351232 := fun n hn => by have z := List.all_eq_true.1 hsz n (DataW.weights_mem_each (j := 1) (t := 23) rfl rfl n hn); exact of_decide_eq_true z
  obtain ⟨cs1, rfl, _⟩ := okWide_struct Try.underlying23 (hval 1 23 v1 rfl rfl)
  obtain ⟨fuel1, hf1⟩ := h1
  obtain ⟨y1, hK1, w1⟩ := opens23 H enc W 0 _ true fuel1 _ _ hf1 wt1
  obtain ⟨a1_0, a1_1, a1_2⟩ := y1
  have e1 := k23_open hK1
  obtain rfl : cs1 = #[.string a1_0, .string a1_1, .bool a1_2] := by cases cs1; simpa [Value.cells] using e1
  obtain ⟨k, hk⟩ := Pure.SpanPairs a0_0 a0_1 a0_2 a1_0 a1_1 a1_2 w0 w1
  refine (PAll.tidelinelaw02_SpanPairs.calls k a0_0 a0_1 a0_2 a1_0 a1_1 a1_2 true W  hG hk).mono fun e W' ⟨he, bel0⟩ => ?_
  have bel : Below W.heap.size W W' := bel0
  subst he
  exact ⟨_, rfl, _, _, _, [], _, [], hW', trodAll_mk1 (shut_bool Try.underlying4 _), (trodAll_cons_mk (Below.trod laidOut (by kernel_rfl) (of_decide_eq_true (by kernel_rfl)) k0 bel lt0) (trodAll_cons_mk (Below.trod laidOut (by kernel_rfl) (of_decide_eq_true (by kernel_rfl)) k1 bel lt1) trodAll_mk0)), rfl, bel.frame _, fun h => by cases h⟩
theorem over : Rows.spanPairsRow.holds Try.pinned (OpenSpec.ofChange Rows.spanPairsSpec) :=
  OpenClaim.holds_of_wide 7 Try.f7 rfl rfl rfl rfl rfl rfl rfl ⟨rfl, rfl, rfl, rfl, rfl⟩ rfl rfl rfl rfl rfl (by kernel_rfl) Try.func7 (by kernel_rfl)
    (of_decide_eq_true (by kernel_rfl)) (by unfold Func.isWrapper; first | (rw [if_pos (by decide +kernel)]; kernel_rfl) | (rw [if_neg (by decide +kernel)]; exact ⟨rfl, rfl⟩))
    (fun os started H enc _ => lifted os started H enc)
theorem proved : Rows.SpanPairsSaid := over
#print axioms proved
end Go.Proofs.Ytgdhgamolenfgaa.spanPairs
namespace Go.Proofs.Ytgdhgamolenfgaa
/-- The row, under a short name, for the claim. -/
theorem spanPairs_holds : Rows.SpanPairsSaid := spanPairs.proved
end Go.Proofs.Ytgdhgamolenfgaa
