-- By hand (the row of the second form: what the law reads is of bulk at most 1048576).
import Derived.Test.YtgdhgamolenfgaaRows
import Derived.Test.YtgdhgamolenfgaaPAllx7
import Derived.Test.YtgdhgamolenfgaaPureSpanParses
import Derived.Test.YtgdhgamolenfgaaSGlob
import Derived.WalkKit
import Derived.ProofKit
import Derived.OpenShut
import Derived.ShutString
import Derived.ChangeOld
import Derived.Below
import Derived.SizedLaws
import Derived.JoinedCond
namespace Go.Proofs.Ytgdhgamolenfgaa.spanParses
open Go.ChangeShapes Go.WideShapes Go.ChangeAt Go.RowKit
open Go.ChangeMaps (open_string shut_string)
set_option linter.unusedVariables false
theorem own : ownKnob Try.prog.godebug = none := by kernel_rfl
set_option maxRecDepth 100000 in
theorem lifted (os : Os) (started : os.Started) (H : Type) (enc : TypeId × Value → H) (F : Stop.Interp) :
    ReturnsInHanded {} Try.checked os 6 .any ((Rows.OpenSpec.upto Rows.spanParsesSpec).pre6 enc Try.prog Try.f6 Rows.spanParsesUptoRow.domain false) (((Rows.OpenSpec.upto Rows.spanParsesSpec).at F).post enc Try.prog Try.f6 false true false false) := by
  refine Go.Proofs.Ytgdhgamolenfgaa.Glob.cond_shaped (C := Try.checked) (s := Rows.OpenSpec.upto Rows.spanParsesSpec) (k := Rows.uptoSmall) rfl own started (by kernel_rfl) Try.func6
    (OpenSpec.witness (enc := enc) (C := Try.checked) (s := Rows.OpenSpec.upto Rows.spanParsesSpec) (k := Rows.uptoSmall) rfl false ⟨#[], #[.string ByteArray.empty], []⟩ 8 (by kernel_rfl) (by kernel_rfl) (by kernel_rfl)
      (x := ([.lit (.string [])], [], [])) (by kernel_rfl) rfl (by kernel_rfl)) ?_
  intro W base args ds gs before hshape hval0 hW hcnd hk _ _
  have hG := Go.Proofs.Ytgdhgamolenfgaa.Glob.glob_of_shaped hshape
  have hval : ∀ (j : Nat) t v, Try.f6.params[j]? = some t → args[j]? = some v → Value.okWide Try.prog W .any base t v := hval0
  have hW' := hW
  obtain ⟨p, q, hA0, hV, rfl, hfz, hnd⟩ := hW
  have hA : DataW.TrodAll enc Try.prog W 0 (fun _ => true) true Try.f6.params.toList args.toList ds p := hA0
  rw [Try.params6] at hA hval
  obtain ⟨v0, vs0, d0, ds0, p0, q0, hargs, rfl, rfl, h0, r0⟩ := trodAll_cons hA
  obtain ⟨rfl, rfl, rfl⟩ := trodAll_nil r0
  obtain rfl : args = #[v0] := by cases args; simp_all
  obtain ⟨rfl, rfl⟩ := trodVars_none hV
  obtain ⟨a0, rfl, rfl, rfl, y0⟩ := open_string Try.underlying9 (hval 0 9 v0 rfl rfl) h0
  have w0 : a0.size ≤ 1048576 := by
    have h := of_decide_eq_true hk
    simp only [List.append_nil, Rows.uptoBulkAll, Rows.uptoBulk] at h
    have e : a0.size = a0.data.toList.length := Array.length_toList.symm
    omega
  clear hA0 hval0
  obtain ⟨k, hk2⟩ := Pure.SpanParses a0 w0
  refine (PAll.tidelinelaw02_SpanParses.calls k a0 true W hG hk2).mono fun e W' ⟨he, bel⟩ => ?_
  subst he
  exact ⟨_, rfl, _, _, _, [], _, [], hW', trodAll_mk1 (shut_bool Try.underlying4 _), (trodAll_cons_mk (shut_string Try.underlying9 y0) trodAll_mk0), rfl, bel.frame _, fun h => by cases h⟩
theorem over : Rows.spanParsesUptoRow.holds Try.pinned (Rows.OpenSpec.upto Rows.spanParsesSpec) :=
  OpenClaim.holds_of_cond 6 Try.f6 rfl rfl rfl rfl rfl rfl rfl ⟨rfl, rfl, rfl, rfl, rfl⟩ rfl rfl rfl rfl rfl (by kernel_rfl) Try.func6 (by kernel_rfl)
    (of_decide_eq_true (by kernel_rfl)) (by unfold Func.isWrapper; first | (rw [if_pos (by decide +kernel)]; kernel_rfl) | (rw [if_neg (by decide +kernel)]; exact ⟨rfl, rfl⟩))
    (fun os started H enc _ F => lifted os started H enc F)
theorem proved : Rows.SpanParsesUptoSaid := over
#print axioms proved
end Go.Proofs.Ytgdhgamolenfgaa.spanParses
namespace Go.Proofs.Ytgdhgamolenfgaa
/-- The row, under a short name, for the claim. -/
theorem spanParsesUpto_holds : Rows.SpanParsesUptoSaid := spanParses.proved
end Go.Proofs.Ytgdhgamolenfgaa
