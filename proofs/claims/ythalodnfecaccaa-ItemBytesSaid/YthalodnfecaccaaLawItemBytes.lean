-- By wip/ownrow.py (a program of this session).
import Derived.Test.YthalodnfecaccaaRows
import Derived.Test.YthalodnfecaccaaSLawIBytes
import Derived.Test.YthalodnfecaccaaQItemBytes
import Derived.Test.YthalodnfecaccaaPureItemBytes
import Derived.Test.YthalodnfecaccaaSOpen
import Derived.Test.YthalodnfecaccaaSFit
import Derived.WalkKit
import Derived.ProofKit
import Derived.OpenShut
import Derived.ShutString
import Derived.ChangeOld
import Derived.Below
import Derived.SizedLaws
import Derived.Carry
namespace Go.Proofs.Ythalodnfecaccaa.itemBytes
open Go.ChangeShapes Go.WideShapes Go.ChangeAt Go.RowKit Go.Proofs.Ythalodnfecaccaa.Open Go.Proofs.Ythalodnfecaccaa.PAll Go.Proofs.YthalodnfecaccaaW.PrintWords
open Go.ChangeMaps (open_string shut_string)
set_option linter.unusedVariables false
theorem own : ownKnob Try.prog.godebug = none := by kernel_rfl
theorem laidOut : laidOutB Try.prog = true := by kernel_rfl
set_option maxRecDepth 100000 in
theorem lifted (os : Os) (started : os.Started) (H : Type) (enc : TypeId × Value → H) :
    ReturnsInHanded {} Try.checked os 10 .any (Rows.itemBytesSpec.pre6 enc Try.prog Try.f10 Rows.itemBytesRow.domain false) (Rows.itemBytesSpec.post enc Try.prog Try.f10 false true false false) := by
  refine returnsInHanded_of_change_sized (C := Try.checked) own started (by kernel_rfl) Try.func10
    (ChangeSpec.witness6 (enc := enc) (C := Try.checked) false ⟨#[], #[.agg #[.string ByteArray.empty, .int .i64 0, .int .i64 0, .string ByteArray.empty, .bool false], .slice none 0 0], []⟩ 8 (by kernel_rfl) (by kernel_rfl) (by kernel_rfl) (by kernel_rfl)) ?_
  intro W base args ds gs before hval0 hW hcnd hsz0 _
  have hsz : (DataW.weightsEach Try.prog (Try.f10.params.toList ++ Rows.itemBytesSpec.plain.varTypes Try.prog) (ds ++ gs)).all (· ≤ reachBytes) = true := hsz0
  have hval : ∀ (j : Nat) t v, Try.f10.params[j]? = some t → args[j]? = some v → Value.okWide Try.prog W .any base t v := hval0
  have hW' := hW
  obtain ⟨p, q, hA0, hV, rfl, hfz, hnd⟩ := hW
  have hA : DataW.TrodAll enc Try.prog W 0 (fun _ => true) true Try.f10.params.toList args.toList ds p := hA0
  rw [Try.params10] at hA hval hsz
  obtain ⟨v0, vs0, d0, ds0, p0, q0, hargs, rfl, rfl, h0, r0⟩ := trodAll_cons hA
  obtain ⟨v1, vs1, d1, ds1, p1, q1, rfl, rfl, rfl, h1, r1⟩ := trodAll_cons r0
  obtain ⟨rfl, rfl, rfl⟩ := trodAll_nil r1
  obtain rfl : args = #[v0, v1] := by cases args; simp_all
  obtain ⟨rfl, rfl⟩ := trodVars_none hV
  have k0 := h0
  have lt0 : ∀ x ∈ p0, x.block < W.heap.size := by obtain ⟨m, hm⟩ := k0; exact DataW.trod_lt m _ _ _ hm
  have wt0 : ∀ n ∈ d0.weights Try.prog 25, n ≤ 140737488351232 := fun n hn => by have z := List.all_eq_true.1 hsz n (DataW.weights_mem_each (j := 0) (t := 25) rfl rfl n hn); exact of_decide_eq_true z
  obtain ⟨cs0, rfl, _⟩ := okWide_struct Try.underlying25 (hval 0 25 v0 rfl rfl)
  obtain ⟨fuel0, hf0⟩ := h0
  obtain ⟨y0, hK0, w0⟩ := opens25 H enc W 0 _ true fuel0 _ _ hf0 wt0
  obtain ⟨a0_0, ⟨a0_1, a0_2⟩, a0_3, a0_4⟩ := y0
  have e0 := k25_open hK0
  obtain rfl : cs0 = #[.string a0_0, .int .i64 a0_1, .int .i64 a0_2, .string a0_3, .bool a0_4] := by cases cs0; simpa [Value.cells] using e0
  have k1 := h1
  have lt1 : ∀ x ∈ p1, x.block < W.heap.size := by obtain ⟨m, hm⟩ := k1; exact DataW.trod_lt m _ _ _ hm
  have wt1 : ∀ n ∈ d1.weights Try.prog 49, n ≤ 140737488351232 := fun n hn => by have z := List.all_eq_true.1 hsz n (DataW.weights_mem_each (j := 1) (t := 49) rfl rfl n hn); exact of_decide_eq_true z
  obtain ⟨A1, len1, cap1, rfl⟩ := okWide_slice Try.underlying49 (hval 1 49 v1 rfl rfl)
  obtain ⟨fuel1, hf1⟩ := h1
  obtain ⟨l1, ⟨B1, c1, e1, hc1, hr1⟩, w1⟩ := opens_slice (B := 1) Try.underlying49 (by kernel_rfl) (by kernel_rfl) (opens_int Try.underlying5) H enc W 0 _ true fuel1 _ _ hf1 wt1
  simp only [Value.cells, List.cons.injEq, Value.slice.injEq, and_true] at e1
  obtain ⟨rfl, rfl, rfl⟩ := e1
  have hk := Pure.ItemBytes a0_0 a0_1 a0_2 a0_3 a0_4 l1 w0 w1
  refine (PAll.tidelinelaw03_ItemBytes.calls a0_0 a0_1 a0_2 a0_3 a0_4 _ _ l1 true W hr1 hc1 hk).mono fun e W' ⟨he, bel0⟩ => ?_
  have bel : Below W.heap.size W W' := bel0
  subst he
  exact ⟨_, rfl, _, _, _, [], _, [], hW', trodAll_mk1 (shut_bool Try.underlying4 _), (trodAll_cons_mk (Below.trod laidOut (by kernel_rfl) (of_decide_eq_true (by kernel_rfl)) k0 bel lt0) (trodAll_cons_mk (Below.trod laidOut (by kernel_rfl) (of_decide_eq_true (by kernel_rfl)) k1 bel lt1) trodAll_mk0)), rfl, bel.frame _, fun h => by cases h⟩
theorem over : Rows.itemBytesRow.holds Try.pinned (OpenSpec.ofChange Rows.itemBytesSpec) :=
  OpenClaim.holds_of_wide 10 Try.f10 rfl rfl rfl rfl rfl rfl rfl ⟨rfl, rfl, rfl, rfl, rfl⟩ rfl rfl rfl rfl rfl (by kernel_rfl) Try.func10 (by kernel_rfl)
    (of_decide_eq_true (by kernel_rfl)) (by unfold Func.isWrapper; first | (rw [if_pos (by decide +kernel)]; kernel_rfl) | (rw [if_neg (by decide +kernel)]; exact ⟨rfl, rfl⟩))
    (fun os started H enc _ => lifted os started H enc)
theorem proved : Rows.ItemBytesSaid := over
#print axioms proved
end Go.Proofs.Ythalodnfecaccaa.itemBytes
namespace Go.Proofs.Ythalodnfecaccaa
/-- The row, under a short name, for the claim. -/
theorem itemBytes_holds : Rows.ItemBytesSaid := itemBytes.proved
end Go.Proofs.Ythalodnfecaccaa
