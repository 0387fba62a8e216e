import Derived.Test.YtgdhgamolenfgaaPAllx0
import Derived.Test.YtgdhgamolenfgaaPAllx6
import Derived.Test.YtgdhgamolenfgaaPAllx7
import Derived.Test.YtgdhgamolenfgaaSEv
import Derived.Test.YtgdhgamolenfgaaSLists
import Derived.Test.YtgdhgamolenfgaaSRank
import Derived.Test.YtgdhgamolenfgaaSSpanE
import Derived.Test.YtgdhgamolenfgaaSSpanR
import Derived.Test.YtgdhgamolenfgaaSEmpties
import Derived.Test.YtgdhgamolenfgaaSEmptiesR
import Derived.Test.YtgdhgamolenfgaaSMeet
import Derived.Test.YtgdhgamolenfgaaSRangeN
set_option linter.unusedVariables false
set_option linter.unusedSimpArgs false
namespace Go.Proofs.Ytgdhgamolenfgaa.Pure
open Go.RowKit Go.Proofs.Ytgdhgamolenfgaa.PAll Go.Proofs.YtgdhgamolenfgaaW.PrintWords Go.Proofs.YtgdhgamolenfgaaW.PrintLast Go.Proofs.YtgdhgamolenfgaaW.PrintMore
open Go.Proofs.Ytgdhgamolenfgaa.Str
theorem wit_ref (alo ahi : ByteArray) (aop : Bool) (blo bhi : ByteArray) (bop : Bool) : Ev (fun k => tidelineref02_Within.f k alo ahi aop blo bhi bop) (witK alo ahi aop blo bhi bop) := by
  refine Ev.congr (fun k => by rw [tidelineref02_Within.f]) (Ev.bind (rgE_ref alo ahi aop) ?_)
  unfold witK
  by_cases h : rgE alo ahi aop = 0
  · simp only [if_pos h, decide_eq_true h, Bool.true_and]
    refine Ev.bind (rgE_ref blo bhi bop) ?_
    refine Ev.step (fun k => by rw [tidelineref02_Within.j0]) ?_
    by_cases h2 : rgE blo bhi bop = 0
    · simp only [h2, bne_self_eq_false, if_neg (show ¬ (false = true) by decide), decide_true, Bool.true_and]
      refine Ev.bind (emp_ref alo ahi aop) ?_
      cases empK alo ahi aop with
      | true => exact Ev.const rfl
      | false =>
        refine Ev.const ?_
        cases Op.bytesLess alo.toList blo.toList <;> cases aop <;> cases bop <;> simp
    · have : (rgE blo bhi bop != 0) = true := by rw [bne_iff_ne]; exact h2
      simp only [this, if_true, decide_eq_false h2, Bool.false_and]; exact Ev.const rfl
  · simp only [if_neg h, decide_eq_false h]
    refine Ev.step (fun k => by rw [tidelineref02_Within.j0]) ?_
    simp only [if_true, Bool.false_and]
    exact Ev.const rfl
/-- Where two ranges meet, as the document says it. -/
def rmeetK (alo ahi : ByteArray) (aop : Bool) (blo bhi : ByteArray) (bop : Bool) : ByteArray × ByteArray × Bool × Bool :=
  if (decide (rgE alo ahi aop = 0) && (decide (rgE blo bhi bop = 0) && ((aop && bop) || Op.bytesLess (mxs alo blo).toList (endH ahi aop bhi bop).toList))) = true
  then (mxs alo blo, if (aop && bop) = true then (⟨#[]⟩ : ByteArray) else endH ahi aop bhi bop, aop && bop, true) else ((⟨#[]⟩ : ByteArray), (⟨#[]⟩ : ByteArray), false, false)
theorem rmeet_f (alo ahi : ByteArray) (aop : Bool) (blo bhi : ByteArray) (bop : Bool) : Ev (fun k => tidelineref02_Meet.f k alo ahi aop blo bhi bop) (rmeetK alo ahi aop blo bhi bop) := by
  refine Ev.congr (fun k => by rw [tidelineref02_Meet.f]) (Ev.bind (rgE_ref alo ahi aop) ?_)
  unfold rmeetK
  by_cases h : rgE alo ahi aop = 0
  · simp only [if_pos h, decide_eq_true h, Bool.true_and]
    refine Ev.bind (rgE_ref blo bhi bop) ?_
    by_cases h2 : rgE blo bhi bop = 0
    · simp only [if_pos h2, decide_eq_true h2, Bool.true_and]
      refine Ev.const ?_
      cases aop <;> cases bop <;> simp only [endH, Bool.and_self, Bool.and_true, Bool.and_false, Bool.true_or, Bool.false_or, Bool.not_true, Bool.not_false, Bool.true_and, Bool.false_and, if_true, if_neg (show ¬ (false = true) by decide)]
      · cases Op.bytesLess bhi.toList ahi.toList <;> simp only [if_true, if_neg (show ¬ (false = true) by decide)] <;> split <;> rfl
      · split <;> rfl
      · split <;> rfl
    · simp only [if_neg h2, decide_eq_false h2, Bool.false_and]; exact Ev.const rfl
  · simp only [if_neg h, decide_eq_false h, Bool.false_and]; exact Ev.const rfl
theorem pair_N (alo ahi : Nat) (als ahs aop : Bool) (blo bhi : Nat) (bls bhs bop : Bool) (e : Nat) (z1 : e ≤ alo) (z2 : e ≤ ahi) (z3 : e ≤ blo) (z4 : e ≤ bhi) :
   ∀ (c d : Bool) (mlo mhi : Nat) (mls mhs mop : Bool), c = (aop || (!bop && decide (bhi < ahi))) → d = decide (alo < blo) → mlo = (if d = true then blo else alo) → mls = (if d = true then bls else als) →
   mhi = (if c = true then bhi else ahi) → mhs = (if c = true then bhs else ahs) → mop = (if c = true then bop else aop) →
   (!(empN alo ahi als ahs aop e || empN blo bhi bls bhs bop e) && !empN mlo mhi mls mhs mop e) = (okN alo ahi als ahs aop e && (okN blo bhi bls bhs bop e && ((aop && bop) || decide (mlo < mhi)))) := by
  intro c d mlo mhi mls mhs mop h1 h2 h3 h4 h5 h6 h7
  subst h1 h2 h3 h4 h5 h6 h7
  unfold empN okN
  by_cases hb : bhi < ahi <;> by_cases hl : alo < blo <;> cases als <;> cases ahs <;> cases bls <;> cases bhs <;> cases aop <;> cases bop <;> simp [hb, hl] <;> (try omega) <;> (try (rw [Bool.eq_iff_iff]; simp; omega))
theorem meet_cond (alo ahi : ByteArray) (aop : Bool) (blo bhi : ByteArray) (bop : Bool) :
    (!(empK alo ahi aop || empK blo bhi bop) && !empK (mxs alo blo) (endH ahi aop bhi bop) (endO ahi aop bhi bop)) = (decide (rgE alo ahi aop = 0) && (decide (rgE blo bhi bop = 0) && ((aop && bop) || Op.bytesLess (mxs alo blo).toList (endH ahi aop bhi bop).toList))) := by
  obtain ⟨S, hS⟩ : ∃ S : List (List UInt8), S = [alo.toList, ahi.toList, blo.toList, bhi.toList, []] := ⟨_, rfl⟩
  have m1 : alo.toList ∈ S := by simp [hS]
  have m2 : ahi.toList ∈ S := by simp [hS]
  have m3 : blo.toList ∈ S := by simp [hS]
  have m4 : bhi.toList ∈ S := by simp [hS]
  have m6 : ([] : List UInt8) ∈ S := by simp [hS]
  have m7 : (mxs alo blo).toList ∈ S := by rw [mxs_list]; split <;> assumption
  have m8 : (endH ahi aop bhi bop).toList ∈ S := by unfold endH; split <;> assumption
  rw [emp_N m6 m1 m2, emp_N m6 m3 m4, emp_N m6 m7 m8, ok_N m6 m1 m2, ok_N m6 m3 m4, rk_less m7 m8]
  exact pair_N (rk S alo.toList) (rk S ahi.toList) (decide (alo.size ≤ 16)) (decide (ahi.size ≤ 16)) aop (rk S blo.toList) (rk S bhi.toList) (decide (blo.size ≤ 16)) (decide (bhi.size ≤ 16)) bop (rk S [])
    (rk_nil m6 m1) (rk_nil m6 m2) (rk_nil m6 m3) (rk_nil m6 m4)
    _ _ (rk S (mxs alo blo).toList) (rk S (endH ahi aop bhi bop).toList) (decide ((mxs alo blo).size ≤ 16)) (decide ((endH ahi aop bhi bop).size ≤ 16)) (endO ahi aop bhi bop) rfl rfl
    (by rw [mxs_list, rk_less m1 m3]; split <;> rfl) (by rw [mxs_size, rk_less m1 m3]; split <;> rfl)
    (by unfold endH; rw [rk_less m4 m2]; split <;> rfl) (by unfold endH; rw [rk_less m4 m2]; split <;> rfl) (by unfold endO; rw [rk_less m4 m2])
theorem open_nil {lo hi : ByteArray} (h : rgE lo hi true = 0) : hi = ⟨#[]⟩ := by
  have e := decide_eq_true h
  rw [rgE_zero] at e
  simp only [if_true, Bool.and_eq_true, beq_iff_eq] at e
  exact ba_eq.1 (by rw [e.2.2]; decide +kernel)
theorem meet_eq (alo ahi : ByteArray) (aop : Bool) (blo bhi : ByteArray) (bop : Bool) : meetK alo ahi aop blo bhi bop = rmeetK alo ahi aop blo bhi bop := by
  have hc := meet_cond alo ahi aop blo bhi bop
  unfold rmeetK
  rw [← hc]
  unfold meetK
  cases he : (empK alo ahi aop || empK blo bhi bop) with
  | true => simp
  | false =>
    cases hm : empK (mxs alo blo) (endH ahi aop bhi bop) (endO ahi aop bhi bop) with
    | true => simp
    | false =>
      rw [he, hm] at hc
      simp only [Bool.not_false, Bool.and_self, if_true, if_neg (show ¬ (false = true) by decide), Prod.mk.injEq, true_and, and_true]
      have hc' := hc.symm
      simp only [Bool.not_false, Bool.and_self, Bool.and_eq_true, decide_eq_true_eq] at hc'
      cases aop <;> cases bop <;> simp only [endH, endO, Bool.and_self, Bool.and_true, Bool.and_false, Bool.true_or, Bool.false_or, Bool.not_true, Bool.not_false, Bool.true_and, Bool.false_and, if_true, if_neg (show ¬ (false = true) by decide), ite_self, and_true, true_and, and_self]
      exact open_nil hc'.2.1
theorem mxs_comm (a b : ByteArray) : mxs a b = mxs b a := by
  unfold mxs
  cases h : Op.bytesLess a.toList b.toList with
  | true => rw [less_asymm h]; rfl
  | false =>
    rcases less_false h with h2 | h2
    · have := ba_eq.1 h2; subst this; simp
    · rw [h2]; simp
theorem endH_comm (ahi bhi : ByteArray) (aop bop : Bool) (h : ¬ (aop && bop) = true) : endH ahi aop bhi bop = endH bhi bop ahi aop := by
  unfold endH
  cases aop <;> cases bop <;> simp only [Bool.and_self, Bool.or_true, Bool.or_false, Bool.true_or, Bool.false_or, Bool.not_true, Bool.not_false, Bool.true_and, Bool.false_and, if_true, if_neg (show ¬ (false = true) by decide)]
  · cases h1 : Op.bytesLess bhi.toList ahi.toList with
    | true => rw [less_asymm h1]; rfl
    | false =>
      rcases less_false h1 with h2 | h2
      · have := ba_eq.1 h2; subst this; simp
      · rw [h2]; simp
  · simp at h
theorem rmeet_comm (alo ahi : ByteArray) (aop : Bool) (blo bhi : ByteArray) (bop : Bool) : rmeetK blo bhi bop alo ahi aop = rmeetK alo ahi aop blo bhi bop := by
  unfold rmeetK
  rw [mxs_comm blo alo, Bool.and_comm bop aop]
  by_cases h : (aop && bop) = true
  · rw [h]
    simp only [Bool.true_or, Bool.and_true, if_true]
    rw [Bool.and_comm]
  · rw [endH_comm ahi bhi aop bop h]
    simp only [h, Bool.false_or]
    rw [Bool.and_left_comm]
end Go.Proofs.Ytgdhgamolenfgaa.Pure
