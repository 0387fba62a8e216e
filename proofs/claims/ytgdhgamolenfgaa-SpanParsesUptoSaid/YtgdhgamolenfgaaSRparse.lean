import Derived.Test.YtgdhgamolenfgaaPAllx0
import Derived.Test.YtgdhgamolenfgaaPAllx7
import Derived.Test.YtgdhgamolenfgaaSEv
import Derived.Test.YtgdhgamolenfgaaSLists
import Derived.Test.YtgdhgamolenfgaaSHex
import Derived.Test.YtgdhgamolenfgaaSSpanE
import Derived.Test.YtgdhgamolenfgaaSSpanR
import Derived.Test.YtgdhgamolenfgaaSHexref02
import Derived.Test.YtgdhgamolenfgaaSParse
import Derived.Lib.CutLaws
set_option linter.unusedVariables false
set_option linter.unusedSimpArgs false
namespace Go.Proofs.Ytgdhgamolenfgaa.Pure
open Go.RowKit Go.Proofs.Ytgdhgamolenfgaa.PAll Go.Proofs.YtgdhgamolenfgaaW.PrintWords Go.Proofs.YtgdhgamolenfgaaW.PrintLast Go.Proofs.YtgdhgamolenfgaaW.PrintMore
theorem pre2 (l : List UInt8) : ([46, 46] : List UInt8).isPrefixOf l = true ↔ l.take 2 = [46, 46] := by
  match l with
  | [] => simp
  | [a] => simp
  | a :: b :: r =>
    simp only [List.isPrefixOf_cons_cons, List.take_succ_cons, List.take_zero, Bool.and_eq_true, beq_iff_eq, List.isPrefixOf_nil_left, and_true, List.cons.injEq]
    constructor
    · rintro ⟨h1, h2⟩; exact ⟨h1.symm, h2.symm⟩
    · rintro ⟨h1, h2⟩; exact ⟨h1.symm, h2.symm⟩
theorem dots_iff (s : ByteArray) (i : Nat) : (s.extract i (i + 2)).toList = ([46, 46] : List UInt8) ↔ Lib.occAt s.data.toList [46, 46] i = true := by
  unfold Lib.occAt
  rw [pre2, Go.ByteArray.toList_eq, Lib.extract_eq]
  simp only [Nat.add_sub_cancel_left]
/-- Nothing was said. -/
def nonP : ByteArray × ByteArray × Bool × Int := ((⟨#[]⟩ : ByteArray), (⟨#[]⟩ : ByteArray), false, 23)
theorem rp_skip (s : ByteArray) (hs : s.size ≤ 140737488351232) (n : Nat) (hn : n ≤ 33) (r : ByteArray × ByteArray × Bool × Int) (h : ∀ j, j < n → j + 2 ≤ s.size ∧ Lib.occAt s.data.toList [46, 46] j = false)
    (hr : Ev (fun k => tidelineref02_Parse.l0 k s (n : Int)) r) (d : Nat) : ∀ i : Nat, i + d = n → Ev (fun k => tidelineref02_Parse.l0 k s (i : Int)) r := by
  induction d with
  | zero => intro i hi; rw [show i = n by omega]; exact hr
  | succ d ih =>
    intro i hi
    obtain ⟨h1, h2⟩ := h i (by omega)
    have hnd : ¬ (s.extract i (i + 2)).toList = ([46, 46] : List UInt8) := by rw [dots_iff, h2]; simp
    refine Ev.step (fun k => by rw [tidelineref02_Parse.l0]) ?_
    have e2 : wrap64 ((i : Int) + 2) = ((i + 2 : Nat) : Int) := by rw [wrap_id (by omega) (by omega)]; rfl
    rw [e2]
    simp only [if_pos (show ((i + 2 : Nat) : Int) ≤ (s.size : Int) by omega), decide_eq_true (show (i : Int) ≤ 32 by omega)]
    refine Ev.step (fun k => by rw [tidelineref02_Parse.j1]) ?_
    rw [e2]
    simp only [if_true, if_pos (show (0 : Int) ≤ (i : Int) by omega), if_pos (show (i : Int) ≤ ((i + 2 : Nat) : Int) by omega), if_pos (show ((i + 2 : Nat) : Int) ≤ (s.size : Int) by omega), Int.toNat_natCast, if_neg hnd]
    rw [wrap_succ (by omega)]
    exact ih (i + 1) (by omega)
theorem rp_end (s : ByteArray) (i : Nat) (hs : s.size ≤ 140737488351232) (h : s.size < i + 2 ∨ 32 < i) (hi : i ≤ 140737488351232) : Ev (fun k => tidelineref02_Parse.l0 k s (i : Int)) nonP := by
  refine Ev.step (fun k => by rw [tidelineref02_Parse.l0]) ?_
  have e2 : wrap64 ((i : Int) + 2) = ((i + 2 : Nat) : Int) := by rw [wrap_id (by omega) (by omega)]; rfl
  rw [e2]
  have J : Ev (fun k => tidelineref02_Parse.j1 k s (i : Int) false) nonP := by
    refine Ev.step (fun k => by rw [tidelineref02_Parse.j1]) ?_
    simp only [if_neg (show ¬ (false = true) by decide)]
    exact Ev.const rfl
  by_cases h1 : ((i + 2 : Nat) : Int) ≤ (s.size : Int)
  · simp only [if_pos h1, decide_eq_false (show ¬ (i : Int) ≤ 32 by omega)]; exact J
  · simp only [if_neg h1]; exact J
theorem unhE_run (s : ByteArray) : (runhE s).1 = (unhE s).1 ∧ ((runhE s).2 = true ↔ (unhE s).2 = 0) := by
  unfold runhE unhE
  cases unhexI (bytesOf s) <;> simp
theorem unhE_nil : unhE (⟨#[]⟩ : ByteArray) = (⟨#[]⟩, 0) := unhE_hexB (⟨#[]⟩ : ByteArray)
theorem unhE_size (t : ByteArray) (h : (unhE t).2 = 0) : 2 * (unhE t).1.size = t.size := by
  have := congrArg ByteArray.size (hexB_unhE t h)
  rw [hexB_size] at this
  exact this
theorem rgE_sz {lo hi : ByteArray} {op : Bool} (h : rgE lo hi op = 0) : lo.size ≤ 16 ∧ hi.size ≤ 16 := by
  unfold rgE at h
  split at h
  · simp at h
  · omega
theorem size_extract (s : ByteArray) (a b : Nat) (hb : b ≤ s.size) : (s.extract a b).size = b - a := by
  rw [ByteArray.size_extract]; omega
theorem rp_hit (s : ByteArray) (hs : s.size ≤ 140737488351232) (n : Nat) (hn : n ≤ 32) (h2 : n + 2 ≤ s.size) (ho : Lib.occAt s.data.toList [46, 46] n = true) :
    Ev (fun k => tidelineref02_Parse.l0 k s (n : Int)) (parV (s.extract 0 n) (s.extract (n + 2) s.size) true) := by
  have hnd : (s.extract n (n + 2)).toList = ([46, 46] : List UInt8) := (dots_iff s n).2 ho
  refine Ev.step (fun k => by rw [tidelineref02_Parse.l0]) ?_
  have e2 : wrap64 ((n : Int) + 2) = ((n + 2 : Nat) : Int) := by rw [wrap_id (by omega) (by omega)]; rfl
  rw [e2]
  simp only [if_pos (show ((n + 2 : Nat) : Int) ≤ (s.size : Int) by omega), decide_eq_true (show (n : Int) ≤ 32 by omega)]
  refine Ev.step (fun k => by rw [tidelineref02_Parse.j1]) ?_
  rw [e2]
  simp only [if_true, if_pos (show (0 : Int) ≤ (n : Int) by omega), if_pos (show (n : Int) ≤ ((n + 2 : Nat) : Int) by omega), if_pos (show ((n + 2 : Nat) : Int) ≤ (s.size : Int) by omega), if_pos (show (n : Int) ≤ (s.size : Int) by omega), if_pos (show (0 : Int) ≤ ((n + 2 : Nat) : Int) by omega), Int.toNat_natCast, if_pos hnd]
  have sl := size_extract s 0 n (by omega)
  have sh := size_extract s (n + 2) s.size (by omega)
  generalize s.extract 0 n = lo at *
  generalize s.extract (n + 2) s.size = hi at *
  refine Ev.bind (runhex_f lo (by omega)) ?_
  obtain ⟨r1, r2⟩ := unhE_run lo
  obtain ⟨q1, q2⟩ := unhE_run hi
  unfold parV
  by_cases h : hi.toList = ([42] : List UInt8)
  · have e : (hi.toList == ([42] : List UInt8)) = true := by simpa using h
    simp only [if_pos h, e, if_true, unhE_nil]
    by_cases ho2 : (unhE lo).2 = 0
    · simp only [if_pos (r2.2 ho2), r1]
      refine Ev.bind (rgE_ref _ _ true) ?_
      by_cases h4 : rgE (unhE lo).1 (⟨#[]⟩ : ByteArray) true = 0
      · simp only [if_pos h4, h4, ho2, and_self, if_true]; exact Ev.const rfl
      · simp only [if_neg h4, h4, and_false, if_false]; exact Ev.const rfl
    · have : ¬ (runhE lo).2 = true := fun hh => ho2 (r2.1 hh)
      simp only [if_neg this, ho2, false_and, and_false, if_false]; exact Ev.const rfl
  · have e : (hi.toList == ([42] : List UInt8)) = false := by simpa using h
    simp only [if_neg h, e, if_neg (show ¬ (false = true) by decide)]
    by_cases hz : s.size ≤ 66
    · simp only [if_pos (show (s.size : Int) ≤ 66 by omega)]
      refine Ev.bind (runhex_f hi (by omega)) ?_
      by_cases ho2 : (unhE lo).2 = 0
      · simp only [if_pos (r2.2 ho2), r1]
        by_cases ho3 : (unhE hi).2 = 0
        · simp only [if_pos (q2.2 ho3), q1]
          refine Ev.bind (rgE_ref _ _ false) ?_
          by_cases h4 : rgE (unhE lo).1 (unhE hi).1 false = 0
          · simp only [if_pos h4, h4, ho2, ho3, and_self, if_true]; exact Ev.const rfl
          · simp only [if_neg h4, h4, and_false, if_false]; exact Ev.const rfl
        · have : ¬ (runhE hi).2 = true := fun hh => ho3 (q2.1 hh)
          simp only [if_neg this, ho3, false_and, and_false, if_false]; exact Ev.const rfl
      · have : ¬ (runhE lo).2 = true := fun hh => ho2 (r2.1 hh)
        simp only [if_neg this, ho2, false_and, and_false, if_false]; exact Ev.const rfl
    · simp only [if_neg (show ¬ (s.size : Int) ≤ 66 by omega), ite_self]
      refine Ev.const ?_
      rw [if_neg]
      rintro ⟨_, _, h3, h4⟩
      have := unhE_size hi h3
      have := (rgE_sz h4).2
      omega
/-- The document's Parse is Parse. -/
theorem rparse_of (s lo hi : ByteArray) (ok : Bool) (hs : s.size < 4294967281) (hc : strings_Cut.f s (⟨#[46, 46]⟩ : ByteArray) = some (lo, hi, ok)) :
    Ev (fun k => tidelineref02_Parse.f k s) (parV lo hi ok) ∧ lo.size ≤ s.size ∧ hi.size ≤ s.size := by
  unfold strings_Cut.f at hc
  rw [if_pos hs] at hc
  simp only [Option.some.injEq, Prod.mk.injEq] at hc
  have e : ∀ r, Ev (fun k => tidelineref02_Parse.l0 k s ((0 : Nat) : Int)) r → Ev (fun k => tidelineref02_Parse.f k s) r := fun r h => Ev.congr (fun k => by rw [tidelineref02_Parse.f]; rfl) h
  rcases Lib.index_spec s.data.toList (⟨#[46, 46]⟩ : ByteArray).data.toList with ⟨hm, hno⟩ | ⟨n, hn, hnl, ho, hno⟩
  · obtain ⟨c1, c2, c3⟩ := Lib.cutB_miss s (⟨#[46, 46]⟩ : ByteArray) hm
    rw [c1, c2, c3] at hc
    obtain ⟨rfl, rfl, rfl⟩ := hc
    refine ⟨?_, Nat.le_refl _, Nat.zero_le _⟩
    have ep : parV s ByteArray.empty false = nonP := by unfold parV nonP; simp
    rw [ep]
    refine e _ (rp_skip s (by omega) (min 33 (s.size - 1)) (by omega) _ ?_ (rp_end s _ (by omega) (by omega) (by omega)) (min 33 (s.size - 1)) 0 (by omega))
    intro j hj
    exact ⟨by omega, hno j (by rw [Array.length_toList]; show j ≤ s.size; omega)⟩
  · have hroom : n + 2 ≤ s.size := by
      rcases Lib.indexB_cases s (⟨#[46, 46]⟩ : ByteArray) with h | ⟨i, h, h'⟩
      · have : Lib.index s.data.toList (⟨#[46, 46]⟩ : ByteArray).data.toList = -1 := h
        omega
      · have h2 : Lib.index s.data.toList (⟨#[46, 46]⟩ : ByteArray).data.toList = (i : Int) := h
        have h3 : i + 2 ≤ s.size := h'
        omega
    obtain ⟨c1, c2, c3⟩ := Lib.cutB_hit s (⟨#[46, 46]⟩ : ByteArray) n hn
    rw [c1, c2, c3] at hc
    have z : (⟨#[46, 46]⟩ : ByteArray).size = 2 := rfl
    rw [z] at hc
    obtain ⟨rfl, rfl, rfl⟩ := hc
    have sl := size_extract s 0 n (by omega)
    have sh := size_extract s (n + 2) s.size (by omega)
    refine ⟨?_, by omega, by omega⟩
    by_cases hb : n ≤ 32
    · refine e _ (rp_skip s (by omega) n (by omega) _ ?_ (rp_hit s (by omega) n hb hroom ho) n 0 (by omega))
      intro j hj
      exact ⟨by omega, hno j hj⟩
    · have ep : parV (s.extract 0 n) (s.extract (n + 2) s.size) true = nonP := by
        unfold parV nonP
        simp only
        rw [if_neg]
        rintro ⟨_, h3, _, h4⟩
        have := unhE_size _ h3
        have := (rgE_sz h4).1
        omega
      rw [ep]
      refine e _ (rp_skip s (by omega) 33 (by omega) _ ?_ (rp_end s 33 (by omega) (by omega) (by omega)) 33 0 (by omega))
      intro j hj
      exact ⟨by omega, hno j (by omega)⟩
end Go.Proofs.Ytgdhgamolenfgaa.Pure
