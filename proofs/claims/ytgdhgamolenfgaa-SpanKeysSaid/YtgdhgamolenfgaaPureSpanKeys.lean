/- For any two ranges and every text the law SpanKeys answers true: a key stands in what two ranges meet in just if it stands in both, and the other rules of Within, Empty and Holds hold. It has no condition but the form's own reach. -/
import Derived.Test.YtgdhgamolenfgaaPAllx0
import Derived.Test.YtgdhgamolenfgaaPAllx6
import Derived.Test.YtgdhgamolenfgaaQSpanKeys
import Derived.Test.YtgdhgamolenfgaaSEv
import Derived.Test.YtgdhgamolenfgaaSLists
import Derived.Test.YtgdhgamolenfgaaSShown02
import Derived.Test.YtgdhgamolenfgaaSRank
import Derived.Test.YtgdhgamolenfgaaSSpanE
import Derived.Test.YtgdhgamolenfgaaSEmpties
import Derived.Test.YtgdhgamolenfgaaSMeet
import Derived.Test.YtgdhgamolenfgaaSRangeN
set_option linter.unusedVariables false
set_option linter.unusedSimpArgs false
namespace Go.Proofs.Ytgdhgamolenfgaa.Pure
open Go.RowKit Go.Proofs.Ytgdhgamolenfgaa.PAll Go.Proofs.YtgdhgamolenfgaaW.PrintWords Go.Proofs.YtgdhgamolenfgaaW.PrintLast Go.Proofs.YtgdhgamolenfgaaW.PrintMore
theorem key_N (alo ahi : Nat) (als ahs aop : Bool) (blo bhi : Nat) (bls bhs bop : Bool) (e k : Nat) (ks : Bool) :
   ∀ (c d : Bool) (mlo mhi : Nat) (mls mhs mop : Bool), c = (aop || (!bop && decide (bhi < ahi))) → d = decide (alo < blo) → mlo = (if d = true then blo else alo) → mls = (if d = true then bls else als) →
   mhi = (if c = true then bhi else ahi) → mhs = (if c = true then bhs else ahs) → mop = (if c = true then bop else aop) →
   (if (empN alo ahi als ahs aop e || empN blo bhi bls bhs bop e) = true then false else if empN mlo mhi mls mhs mop e = true then false else hasN mlo mhi mls mhs mop e k ks) = (hasN alo ahi als ahs aop e k ks && hasN blo bhi bls bhs bop e k ks) := by
  intro c d mlo mhi mls mhs mop h1 h2 h3 h4 h5 h6 h7
  unfold empN hasN okN
  grind
/-- A key stands in the meeting just if it stands in both. -/
theorem has_meet (alo ahi : ByteArray) (aop : Bool) (blo bhi : ByteArray) (bop : Bool) (key : ByteArray) :
    ((meetK alo ahi aop blo bhi bop).2.2.2 && hasK (meetK alo ahi aop blo bhi bop).1 (meetK alo ahi aop blo bhi bop).2.1 (meetK alo ahi aop blo bhi bop).2.2.1 key) = (hasK alo ahi aop key && hasK blo bhi bop key) := by
  obtain ⟨S, hS⟩ : ∃ S : List (List UInt8), S = [alo.toList, ahi.toList, blo.toList, bhi.toList, key.toList, []] := ⟨_, rfl⟩
  have m1 : alo.toList ∈ S := by simp [hS]
  have m2 : ahi.toList ∈ S := by simp [hS]
  have m3 : blo.toList ∈ S := by simp [hS]
  have m4 : bhi.toList ∈ S := by simp [hS]
  have m5 : key.toList ∈ S := by simp [hS]
  have m6 : ([] : List UInt8) ∈ S := by simp [hS]
  have m7 : (mxs alo blo).toList ∈ S := by rw [mxs_list]; split <;> assumption
  have m8 : (endH ahi aop bhi bop).toList ∈ S := by unfold endH; split <;> assumption
  have h := key_N (rk S alo.toList) (rk S ahi.toList) (decide (alo.size ≤ 16)) (decide (ahi.size ≤ 16)) aop (rk S blo.toList) (rk S bhi.toList) (decide (blo.size ≤ 16)) (decide (bhi.size ≤ 16)) bop (rk S []) (rk S key.toList) (decide (key.size ≤ 16))
    _ _ (rk S (mxs alo blo).toList) (rk S (endH ahi aop bhi bop).toList) (decide ((mxs alo blo).size ≤ 16)) (decide ((endH ahi aop bhi bop).size ≤ 16)) (endO ahi aop bhi bop) rfl rfl
    (by rw [mxs_list, rk_less m1 m3]; split <;> rfl) (by rw [mxs_size, rk_less m1 m3]; split <;> rfl)
    (by unfold endH; rw [rk_less m4 m2]; split <;> rfl) (by unfold endH; rw [rk_less m4 m2]; split <;> rfl) (by unfold endO; rw [rk_less m4 m2])
  rw [← emp_N m6 m1 m2, ← emp_N m6 m3 m4, ← emp_N m6 m7 m8, ← has_N m6 m1 m2 m5, ← has_N m6 m3 m4 m5, ← has_N m6 m7 m8 m5] at h
  rw [← h]
  unfold meetK
  split
  · rfl
  · split
    · rfl
    · simp
theorem has_wit (alo ahi : ByteArray) (aop : Bool) (blo bhi : ByteArray) (bop : Bool) (key : ByteArray) (hw : witK alo ahi aop blo bhi bop = true) (hk : hasK alo ahi aop key = true) : hasK blo bhi bop key = true := by
  obtain ⟨S, hS⟩ : ∃ S : List (List UInt8), S = [alo.toList, ahi.toList, blo.toList, bhi.toList, key.toList, []] := ⟨_, rfl⟩
  have m1 : alo.toList ∈ S := by simp [hS]
  have m2 : ahi.toList ∈ S := by simp [hS]
  have m3 : blo.toList ∈ S := by simp [hS]
  have m4 : bhi.toList ∈ S := by simp [hS]
  have m5 : key.toList ∈ S := by simp [hS]
  have m6 : ([] : List UInt8) ∈ S := by simp [hS]
  rw [wit_N m6 m1 m2 m3 m4] at hw
  rw [has_N m6 m1 m2 m5] at hk
  rw [has_N m6 m3 m4 m5]
  unfold witN empN okN at hw
  unfold hasN okN at hk ⊢
  grind
theorem wit_shows (alo ahi : ByteArray) (aop : Bool) (blo bhi : ByteArray) (bop : Bool) (h1 : rgE alo ahi aop = 0) (h2 : rgE blo bhi bop = 0) (hw : witK alo ahi aop blo bhi bop = false) :
    empK alo ahi aop = false ∧ ((hasK alo ahi aop alo = true ∧ hasK blo bhi bop alo = false) ∨ (hasK alo ahi aop bhi = true ∧ hasK blo bhi bop bhi = false)) := by
  obtain ⟨S, hS⟩ : ∃ S : List (List UInt8), S = [alo.toList, ahi.toList, blo.toList, bhi.toList, []] := ⟨_, rfl⟩
  have m1 : alo.toList ∈ S := by simp [hS]
  have m2 : ahi.toList ∈ S := by simp [hS]
  have m3 : blo.toList ∈ S := by simp [hS]
  have m4 : bhi.toList ∈ S := by simp [hS]
  have m6 : ([] : List UInt8) ∈ S := by simp [hS]
  have e1 := decide_eq_true h1
  have e2 := decide_eq_true h2
  rw [ok_N m6 m1 m2] at e1
  rw [ok_N m6 m3 m4] at e2
  rw [wit_N m6 m1 m2 m3 m4] at hw
  rw [emp_N m6 m1 m2, has_N m6 m1 m2 m1, has_N m6 m3 m4 m1, has_N m6 m1 m2 m4, has_N m6 m3 m4 m4]
  have z1 := rk_nil m6 m1
  have z2 := rk_nil m6 m2
  have z3 := rk_nil m6 m3
  have z4 := rk_nil m6 m4
  unfold witN empN okN at hw
  unfold okN at e1 e2
  unfold empN hasN okN
  grind
theorem emp_has (lo hi : ByteArray) (op : Bool) (key : ByteArray) (h : empK lo hi op = true) : hasK lo hi op key = false := by
  obtain ⟨S, hS⟩ : ∃ S : List (List UInt8), S = [lo.toList, hi.toList, key.toList, []] := ⟨_, rfl⟩
  have m1 : lo.toList ∈ S := by simp [hS]
  have m2 : hi.toList ∈ S := by simp [hS]
  have m5 : key.toList ∈ S := by simp [hS]
  have m6 : ([] : List UInt8) ∈ S := by simp [hS]
  rw [emp_N m6 m1 m2] at h
  rw [has_N m6 m1 m2 m5]
  unfold empN okN at h
  unfold hasN okN
  grind
theorem full_has (lo hi : ByteArray) (op : Bool) (h : empK lo hi op = false) : hasK lo hi op lo = true := by
  obtain ⟨S, hS⟩ : ∃ S : List (List UInt8), S = [lo.toList, hi.toList, []] := ⟨_, rfl⟩
  have m1 : lo.toList ∈ S := by simp [hS]
  have m2 : hi.toList ∈ S := by simp [hS]
  have m6 : ([] : List UInt8) ∈ S := by simp [hS]
  rw [emp_N m6 m1 m2] at h
  rw [has_N m6 m1 m2 m1]
  unfold empN okN at h
  unfold hasN okN
  grind
theorem keys_j2 (lo hi : ByteArray) (op : Bool) (key : ByteArray) : Ev (fun k => tidelinelaw02_SpanKeys.j2 k key false lo hi op) true := by
  refine Ev.step (fun k => by rw [tidelinelaw02_SpanKeys.j2]) ?_
  simp only [if_neg (show ¬ (false = true) by decide)]
  refine Ev.bind (emp_f lo hi op) ?_
  cases h : empK lo hi op with
  | true =>
    simp only [if_true]
    refine Ev.bind (hasK_f lo hi op key) ?_
    rw [emp_has lo hi op key h]
    simp only [if_neg (show ¬ (false = true) by decide)]
    refine Ev.bind (hasK_f lo hi op lo) ?_
    rw [emp_has lo hi op lo h]
    exact Ev.const rfl
  | false =>
    simp only [if_neg (show ¬ (false = true) by decide)]
    refine Ev.bind (hasK_f lo hi op lo) ?_
    rw [full_has lo hi op h]
    exact Ev.const rfl
theorem keys_j1 (alo ahi : ByteArray) (aop : Bool) (blo bhi : ByteArray) (bop : Bool) (key : ByteArray) : Ev (fun k => tidelinelaw02_SpanKeys.j1 k key (witK alo ahi aop blo bhi bop) false alo ahi aop blo bhi bop) true := by
  refine Ev.step (fun k => by rw [tidelinelaw02_SpanKeys.j1]) ?_
  simp only [if_neg (show ¬ (false = true) by decide)]
  have J := keys_j2 alo ahi aop key
  refine Ev.bind (rgE_f alo ahi aop) ?_
  by_cases h1 : rgE alo ahi aop = 0
  · simp only [if_pos h1]
    refine Ev.bind (rgE_f blo bhi bop) ?_
    by_cases h2 : rgE blo bhi bop = 0
    · simp only [if_pos h2]
      cases hw : witK alo ahi aop blo bhi bop with
      | true => simp only [if_true]; exact J
      | false =>
        simp only [if_neg (show ¬ (false = true) by decide)]
        obtain ⟨he, hs⟩ := wit_shows alo ahi aop blo bhi bop h1 h2 hw
        refine Ev.bind (emp_f alo ahi aop) ?_
        rw [he]
        simp only [if_neg (show ¬ (false = true) by decide)]
        refine Ev.bind (hasK_f alo ahi aop alo) ?_
        rw [full_has alo ahi aop he]
        simp only [if_true]
        refine Ev.bind (hasK_f blo bhi bop alo) ?_
        cases h3 : hasK blo bhi bop alo with
        | false => exact J
        | true =>
          simp only [if_true]
          rcases hs with ⟨_, h4⟩ | ⟨h4, h5⟩
          · rw [h3] at h4; cases h4
          · refine Ev.bind (hasK_f alo ahi aop bhi) ?_
            rw [h4]
            simp only [if_true]
            refine Ev.bind (hasK_f blo bhi bop bhi) ?_
            rw [h5]
            exact J
    · simp only [if_neg h2]; exact J
  · simp only [if_neg h1]; exact J
theorem keys_j0 (alo ahi : ByteArray) (aop : Bool) (blo bhi : ByteArray) (bop : Bool) (key : ByteArray) : Ev (fun k => tidelinelaw02_SpanKeys.j0 k key false alo ahi aop blo bhi bop) true := by
  refine Ev.step (fun k => by rw [tidelinelaw02_SpanKeys.j0]) ?_
  simp only [if_neg (show ¬ (false = true) by decide)]
  have J := keys_j1 alo ahi aop blo bhi bop key
  refine Ev.bind (wit_f alo ahi aop blo bhi bop) ?_
  cases hw : witK alo ahi aop blo bhi bop with
  | true =>
    rw [hw] at J
    simp only [if_true]
    refine Ev.bind (hasK_f alo ahi aop key) ?_
    cases hk : hasK alo ahi aop key with
    | true =>
      simp only [if_true]
      refine Ev.bind (hasK_f blo bhi bop key) ?_
      rw [has_wit alo ahi aop blo bhi bop key hw hk]
      exact J
    | false => exact J
  | false => rw [hw] at J; exact J
theorem SpanKeys : tidelinelaw02_SpanKeys.Pure := by
  intro alo ahi aop blo bhi bop key _ _ _
  refine Ev.rounds ?_
  refine Ev.congr (fun k => by rw [tidelinelaw02_SpanKeys.f]) ?_
  refine Ev.bind shown_f ?_
  simp only [if_true]
  refine Ev.bind (meet_f alo ahi aop blo bhi bop) ?_
  have J := keys_j0 alo ahi aop blo bhi bop key
  have hm := has_meet alo ahi aop blo bhi bop key
  cases hi : (meetK alo ahi aop blo bhi bop).2.2.2 with
  | true =>
    rw [hi] at hm
    simp only [Bool.true_and] at hm
    simp only [if_true]
    refine Ev.bind (hasK_f _ _ _ key) (Ev.bind (hasK_f alo ahi aop key) ?_)
    rw [hm]
    cases hasK alo ahi aop key with
    | true =>
      simp only [if_true, Bool.true_and]
      refine Ev.bind (hasK_f blo bhi bop key) ?_
      simp only [bne_self_eq_false]
      exact J
    | false => simp only [Bool.false_and]; exact J
  | false =>
    rw [hi] at hm
    simp only [Bool.false_and] at hm
    simp only [if_neg (show ¬ (false = true) by decide)]
    refine Ev.bind (hasK_f alo ahi aop key) ?_
    cases h2 : hasK alo ahi aop key with
    | true =>
      rw [h2, Bool.true_and] at hm
      simp only [if_true]
      refine Ev.bind (hasK_f blo bhi bop key) ?_
      rw [← hm]
      exact J
    | false => exact J
end Go.Proofs.Ytgdhgamolenfgaa.Pure
