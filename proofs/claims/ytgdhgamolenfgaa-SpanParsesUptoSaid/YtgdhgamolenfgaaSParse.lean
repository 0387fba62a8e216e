import Derived.Test.YtgdhgamolenfgaaPAllx0
import Derived.Test.YtgdhgamolenfgaaPAllx4
import Derived.Test.YtgdhgamolenfgaaSEv
import Derived.Test.YtgdhgamolenfgaaSLists
import Derived.Test.YtgdhgamolenfgaaSHex
import Derived.Test.YtgdhgamolenfgaaSSpanE
import Derived.Lib.CutLaws
set_option linter.unusedVariables false
set_option linter.unusedSimpArgs false
namespace Go.Proofs.Ytgdhgamolenfgaa.Pure
open Go.RowKit Go.Proofs.Ytgdhgamolenfgaa.PAll Go.Proofs.YtgdhgamolenfgaaW.PrintWords Go.Proofs.YtgdhgamolenfgaaW.PrintLast Go.Proofs.YtgdhgamolenfgaaW.PrintMore
/-- What Parse answers, of what Cut has cut. -/
def parV (lo hi : ByteArray) (ok : Bool) : ByteArray × ByteArray × Bool × Int :=
  let op := hi.toList == ([42] : List UInt8)
  let h := unhE (if op = true then (⟨#[]⟩ : ByteArray) else hi)
  if ok = true ∧ (unhE lo).2 = 0 ∧ h.2 = 0 ∧ rgE (unhE lo).1 h.1 op = 0 then ((unhE lo).1, h.1, op, 0) else ((⟨#[]⟩ : ByteArray), (⟨#[]⟩ : ByteArray), false, 23)
theorem parse_j0 (lo hi : ByteArray) (ok op : Bool) (hl : lo.size ≤ 70368744177664) (hh : hi.size ≤ 70368744177664) :
    Ev (fun k => span_Parse.j0 k lo hi ok (⟨#[]⟩ : ByteArray) (⟨#[]⟩ : ByteArray) op)
      (if ok = true ∧ (unhE lo).2 = 0 ∧ (unhE hi).2 = 0 ∧ rgE (unhE lo).1 (unhE hi).1 op = 0 then ((unhE lo).1, (unhE hi).1, op, 0) else ((⟨#[]⟩ : ByteArray), (⟨#[]⟩ : ByteArray), false, 23)) := by
  refine Ev.step (fun k => by rw [span_Parse.j0]) ?_
  refine Ev.bind (unhex_f lo hl) (Ev.bind (unhex_f hi hh) ?_)
  by_cases h1 : ok = true
  · by_cases h2 : (unhE lo).2 = 0
    · by_cases h3 : (unhE hi).2 = 0
      · simp only [if_pos h1, if_pos h2, if_pos h3]
        refine Ev.bind (rgE_f _ _ op) ?_
        by_cases h4 : rgE (unhE lo).1 (unhE hi).1 op = 0
        · simp only [if_pos h4, h1, h2, h3, h4, and_self, if_true]; exact Ev.const rfl
        · simp only [if_neg h4, h4, and_false, if_false]; exact Ev.const rfl
      · simp only [if_pos h1, if_pos h2, if_neg h3, h3, false_and, and_false, if_false]; exact Ev.const rfl
    · simp only [if_pos h1, if_neg h2, h2, false_and, and_false, if_false]; exact Ev.const rfl
  · simp only [if_neg h1, h1, false_and, if_false]; exact Ev.const rfl
theorem parse_of (s lo hi : ByteArray) (ok : Bool) (hc : strings_Cut.f s (⟨#[46, 46]⟩ : ByteArray) = some (lo, hi, ok)) (hl : lo.size ≤ 70368744177664) (hh : hi.size ≤ 70368744177664) :
    Ev (fun k => span_Parse.f k s) (parV lo hi ok) := by
  refine Ev.congr (fun k => by rw [span_Parse.f, hc, Option.bind_some]) ?_
  unfold parV
  by_cases h : hi.toList = ([42] : List UInt8)
  · have e : (hi.toList == ([42] : List UInt8)) = true := by simpa using h
    simp only [if_pos h, e]
    exact parse_j0 lo ⟨#[]⟩ ok true hl (by show (0 : Nat) ≤ _; omega)
  · have e : (hi.toList == ([42] : List UInt8)) = false := by simpa using h
    simp only [if_neg h, e, if_neg (show ¬ (false = true) by decide)]
    exact parse_j0 lo hi ok false hl hh
/-- Cut at the first two dots. -/
theorem cut_at (a b : ByteArray) (ha : ∀ x ∈ a.data.toList, x ≠ 46) (hs : a.size + b.size < 4294967200) :
    strings_Cut.f (a ++ (⟨#[46, 46]⟩ : ByteArray) ++ b) (⟨#[46, 46]⟩ : ByteArray) = some (a, b, true) := by
  have e : (a ++ (⟨#[46, 46]⟩ : ByteArray) ++ b).data.toList = a.data.toList ++ (46 :: 46 :: b.data.toList) := by simp
  have sz : (a ++ (⟨#[46, 46]⟩ : ByteArray) ++ b).size = a.size + 2 + b.size := by rw [ByteArray.size_append, ByteArray.size_append]; rfl
  have al : a.data.toList.length = a.size := Array.length_toList
  have hi : Lib.index (a.data.toList ++ (46 :: 46 :: b.data.toList)) [46, 46] = (a.size : Int) := by
    refine Lib.index_first (by simp [al]) ?_ ?_
    · unfold Lib.occAt
      rw [← al, List.drop_left]
      simp
    · intro j hj
      unfold Lib.occAt
      rw [List.drop_append_of_le_length (by omega), List.drop_eq_getElem_cons (by omega : j < a.data.toList.length)]
      have := ha _ (List.getElem_mem (by omega : j < a.data.toList.length))
      simp [List.isPrefixOf]
      intro h
      exact absurd h.symm this
  unfold strings_Cut.f
  rw [if_pos (by rw [sz]; omega)]
  have c : Lib.cut (a ++ (⟨#[46, 46]⟩ : ByteArray) ++ b).data.toList (⟨#[46, 46]⟩ : ByteArray).data.toList = (a.data.toList, b.data.toList, true) := by
    unfold Lib.cut
    rw [e]
    show (if 0 ≤ Lib.index (a.data.toList ++ (46 :: 46 :: b.data.toList)) [46, 46] then ((a.data.toList ++ (46 :: 46 :: b.data.toList)).take (Lib.index (a.data.toList ++ (46 :: 46 :: b.data.toList)) [46, 46]).toNat, (a.data.toList ++ (46 :: 46 :: b.data.toList)).drop ((Lib.index (a.data.toList ++ (46 :: 46 :: b.data.toList)) [46, 46]).toNat + 2), true) else _) = _
    rw [hi, if_pos (by omega), Int.toNat_natCast, ← al, List.take_left, List.drop_append, List.drop_of_length_le (by omega)]
    simp
  rw [c]
theorem hex_nodot (s : ByteArray) : ∀ x ∈ (hexB s).data.toList, x ≠ 46 := by
  intro x hx h
  have hb : ((x.toNat : Nat) : Int) ∈ bytesOf (hexB s) := by
    unfold bytesOf
    exact List.mem_map.2 ⟨x, hx, rfl⟩
  rw [bytes_hexB] at hb
  unfold hexI at hb
  obtain ⟨b, hb1, hb2⟩ := List.mem_flatMap.1 hb
  have hbd := byte_bd s b hb1
  subst h
  simp only [List.mem_cons, List.not_mem_nil, or_false, hdI] at hb2
  have e46 : (((46 : UInt8).toNat : Nat) : Int) = 46 := rfl
  rw [e46] at hb2
  rcases hb2 with h | h <;> split at h <;> omega
end Go.Proofs.Ytgdhgamolenfgaa.Pure
