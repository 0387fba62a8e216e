-- By hand (the row of the second form: what the law reads is of bulk at most 1048576).
import Derived.Test.YtgdhgamolenfgaaRows
import Derived.Test.YtgdhgamolenfgaaSLawSplits
import Derived.Test.YtgdhgamolenfgaaPureSpanSplits
import Derived.Test.YtgdhgamolenfgaaSGlob
import Derived.Test.YtgdhgamolenfgaaQSpanSplits
import Derived.Test.YtgdhgamolenfgaaSOpen
import Derived.Test.YtgdhgamolenfgaaSFit
import Derived.WalkKit
import Derived.ProofKit
import Derived.OpenShut
import Derived.ShutString
import Derived.ChangeOld
import Derived.Below
import Derived.SizedLaws
import Derived.Carry
import Derived.JoinedCond
namespace Go.Proofs.Ytgdhgamolenfgaa.spanSplits
open Go.ChangeShapes Go.WideShapes Go.ChangeAt Go.RowKit Go.Proofs.Ytgdhgamolenfgaa.Open Go.Proofs.Ytgdhgamolenfgaa.PAll Go.Proofs.YtgdhgamolenfgaaW.PrintWords
open Go.ChangeMaps (open_string shut_string)
set_option linter.unusedVariables false
theorem own : ownKnob Try.prog.godebug = none := by kernel_rfl
theorem laidOut : laidOutB Try.prog = true := by kernel_rfl
theorem bulk_pos {H : Type} (d : DataW H) : 1 ≤ Rows.uptoBulk d := by
  cases d with
  | lit v => cases v <;> simp only [Rows.uptoBulk] <;> omega
  | _ => simp only [Rows.uptoBulk] <;> omega
theorem bulk_len {H : Type} (ds : List (DataW H)) : ds.length ≤ Rows.uptoBulkAll ds := by
  induction ds with
  | nil => simp
  | cons d r ih =>
    have := bulk_pos d
    simp only [Rows.uptoBulkAll, List.length_cons]
    omega
set_option maxRecDepth 100000 in
theorem lifted (os : Os) (started : os.Started) (H : Type) (enc : TypeId × Value → H) (F : Stop.Interp) :
    ReturnsInHanded {} Try.checked os 4 .any ((Rows.OpenSpec.upto Rows.spanSplitsSpec).pre6 enc Try.prog Try.f4 Rows.spanSplitsUptoRow.domain false) (((Rows.OpenSpec.upto Rows.spanSplitsSpec).at F).post enc Try.prog Try.f4 false true false false) := by
  refine Go.Proofs.Ytgdhgamolenfgaa.Glob.cond_shaped (C := Try.checked) (s := Rows.OpenSpec.upto Rows.spanSplitsSpec) (k := Rows.uptoSmall) rfl own started (by kernel_rfl) Try.func4
    (OpenSpec.witness (enc := enc) (C := Try.checked) (s := Rows.OpenSpec.upto Rows.spanSplitsSpec) (k := Rows.uptoSmall) rfl false ⟨#[], #[.agg #[.string ByteArray.empty, .string ByteArray.empty, .bool false], .slice none 0 0], []⟩ 8 (by kernel_rfl) (by kernel_rfl) (by kernel_rfl)
      (x := ([.agg [.lit (.string []), .lit (.string []), .lit (.bool false)], .nil], [], [])) (by kernel_rfl) rfl (by kernel_rfl)) ?_
  intro W base args ds gs before hshape hval0 hW hcnd hk hsz0 _
  have hG := Go.Proofs.Ytgdhgamolenfgaa.Glob.glob_of_shaped hshape
  have hsz : (DataW.weightsEach Try.prog (Try.f4.params.toList ++ Rows.spanSplitsSpec.plain.varTypes Try.prog) (ds ++ gs)).all (· ≤ reachBytes) = true := hsz0
  have hval : ∀ (j : Nat) t v, Try.f4.params[j]? = some t → args[j]? = some v → Value.okWide Try.prog W .any base t v := hval0
  have hW' := hW
  obtain ⟨p, q, hA0, hV, rfl, hfz, hnd⟩ := hW
  have hA : DataW.TrodAll enc Try.prog W 0 (fun _ => true) true Try.f4.params.toList args.toList ds p := hA0
  rw [Try.params4] at hA hval hsz
  obtain ⟨v0, vs0, d0, ds0, p0, q0, hargs, rfl, rfl, h0, r0⟩ := trodAll_cons hA
  obtain ⟨v1, vs1, d1, ds1, p1, q1, rfl, rfl, rfl, h1, r1⟩ := trodAll_cons r0
  obtain ⟨rfl, rfl, rfl⟩ := trodAll_nil r1
  obtain rfl : args = #[v0, v1] := by cases args; simp_all
  obtain ⟨rfl, rfl⟩ := trodVars_none hV
  have k0 := h0
  have lt0 : ∀ x ∈ p0, x.block < W.heap.size := by obtain ⟨m, hm⟩ := k0; exact DataW.trod_lt m _ _ _ hm
  have wt0 : ∀ n ∈ d0.weights Try.prog 23, n ≤ 140737488351232 := fun n hn => by have z := List.all_eq_true.1 hsz n (DataW.weights_mem_each (j := 0) (t := 23) rfl rfl n hn); exact of_decide_eq_true z
  obtain ⟨cs0, rfl, _⟩ := okWide_struct Try.underlying23 (hval 0 23 v0 rfl rfl)
  obtain ⟨fuel0, hf0⟩ := h0
  obtain ⟨y0, hK0, w0⟩ := opens23 H enc W 0 _ true fuel0 _ _ hf0 wt0
  obtain ⟨a0_0, a0_1, a0_2⟩ := y0
  have e0 := k23_open hK0
  obtain rfl : cs0 = #[.string a0_0, .string a0_1, .bool a0_2] := by cases cs0; simpa [Value.cells] using e0
  have k1 := h1
  have lt1 : ∀ x ∈ p1, x.block < W.heap.size := by obtain ⟨m, hm⟩ := k1; exact DataW.trod_lt m _ _ _ hm
  have wt1 : ∀ n ∈ d1.weights Try.prog 29, n ≤ 140737488351232 := fun n hn => by have z := List.all_eq_true.1 hsz n (DataW.weights_mem_each (j := 1) (t := 29) rfl rfl n hn); exact of_decide_eq_true z
  obtain ⟨A1, len1, cap1, rfl⟩ := okWide_slice Try.underlying29 (hval 1 29 v1 rfl rfl)
  obtain ⟨fuel1, hf1⟩ := h1
  have hsml : Rows.uptoBulk d1 ≤ 1048576 := by
    have h := of_decide_eq_true hk
    simp only [List.append_nil, Rows.uptoBulkAll] at h
    omega
  have hlen : len1 ≤ 1048576 := by
    rcases DataW.trod_slice Try.underlying29 hf1 with ⟨h1, h2⟩ | ⟨a, len, cap, elems, rest, n, _, h1, h2, hb, hl, hm, hlen, hel, hsp, hns⟩
    · simp only [Value.cells, List.cons.injEq, Value.slice.injEq, and_true] at h1
      omega
    · simp only [Value.cells, List.cons.injEq, Value.slice.injEq, and_true] at h1
      simp only [Prod.mk.injEq] at h2
      obtain ⟨h2, _⟩ := h2
      subst h2
      simp only [Rows.uptoBulk] at hsml
      have := bulk_len (elems.map (fun x => x.fst))
      simp only [List.length_map] at this
      omega
  obtain ⟨l1, ⟨B1, c1, e1, hc1, hr1⟩, w1⟩ := opens_slice (B := 16) Try.underlying29 (by kernel_rfl) (by kernel_rfl) (opens_string Try.underlying9) H enc W 0 _ true fuel1 _ _ hf1 wt1
  simp only [Value.cells, List.cons.injEq, Value.slice.injEq, and_true] at e1
  obtain ⟨rfl, rfl, rfl⟩ := e1
  obtain ⟨k, hk2⟩ := Pure.SpanSplits a0_0 a0_1 a0_2 l1 hlen
  refine (PAll.tidelinelaw02_SpanSplits.calls k a0_0 a0_1 a0_2 _ _ l1 true W hr1 hc1 hG hk2).mono fun e W' ⟨he, bel0⟩ => ?_
  have bel : Below W.heap.size W W' := bel0
  subst he
  exact ⟨_, rfl, _, _, _, [], _, [], hW', trodAll_mk1 (shut_bool Try.underlying4 _), (trodAll_cons_mk (Below.trod laidOut (by kernel_rfl) (of_decide_eq_true (by kernel_rfl)) k0 bel lt0) (trodAll_cons_mk (Below.trod laidOut (by kernel_rfl) (of_decide_eq_true (by kernel_rfl)) k1 bel lt1) trodAll_mk0)), rfl, bel.frame _, fun h => by cases h⟩
theorem over : Rows.spanSplitsUptoRow.holds Try.pinned (Rows.OpenSpec.upto Rows.spanSplitsSpec) :=
  OpenClaim.holds_of_cond 4 Try.f4 rfl rfl rfl rfl rfl rfl rfl ⟨rfl, rfl, rfl, rfl, rfl⟩ rfl rfl rfl rfl rfl (by kernel_rfl) Try.func4 (by kernel_rfl)
    (of_decide_eq_true (by kernel_rfl)) (by unfold Func.isWrapper; first | (rw [if_pos (by decide +kernel)]; kernel_rfl) | (rw [if_neg (by decide +kernel)]; exact ⟨rfl, rfl⟩))
    (fun os started H enc _ F => lifted os started H enc F)
theorem proved : Rows.SpanSplitsUptoSaid := over
#print axioms proved
end Go.Proofs.Ytgdhgamolenfgaa.spanSplits
namespace Go.Proofs.Ytgdhgamolenfgaa
/-- The row, under a short name, for the claim. -/
theorem spanSplitsUpto_holds : Rows.SpanSplitsUptoSaid := spanSplits.proved
end Go.Proofs.Ytgdhgamolenfgaa
