/- For any three ranges the law SpanMeets answers true: what lies within two ranges lies within what they meet in and the other way round, Within goes on and is mutual only for the same or the empty, and Meet may be set in any order. It has no condition but the form's own reach. -/
import Derived.Test.YtgdhgamolenfgaaPAllx0
import Derived.Test.YtgdhgamolenfgaaPAllx5
import Derived.Test.YtgdhgamolenfgaaPAllx6
import Derived.Test.YtgdhgamolenfgaaQSpanMeets
import Derived.Test.YtgdhgamolenfgaaSEv
import Derived.Test.YtgdhgamolenfgaaSLists
import Derived.Test.YtgdhgamolenfgaaSShown02
import Derived.Test.YtgdhgamolenfgaaSRank
import Derived.Test.YtgdhgamolenfgaaSSpanE
import Derived.Test.YtgdhgamolenfgaaSEmpties
import Derived.Test.YtgdhgamolenfgaaSMeet
import Derived.Test.YtgdhgamolenfgaaSRangeN
set_option linter.unusedVariables false
set_option linter.unusedSimpArgs false
namespace Go.Proofs.Ytgdhgamolenfgaa.Pure
open Go.RowKit Go.Proofs.Ytgdhgamolenfgaa.PAll Go.Proofs.YtgdhgamolenfgaaW.PrintWords Go.Proofs.YtgdhgamolenfgaaW.PrintLast Go.Proofs.YtgdhgamolenfgaaW.PrintMore
open Go.Proofs.Ytgdhgamolenfgaa.Str
theorem wm_N (alo ahi : Nat) (als ahs aop : Bool) (blo bhi : Nat) (bls bhs bop : Bool) (clo chi : Nat) (cls chs cop : Bool) (e : Nat) (ha : okN alo ahi als ahs aop e = true) (hb : okN blo bhi bls bhs bop e = true) (hc : empN clo chi cls chs cop e = false)
   (z1 : e ≤ alo) (z2 : e ≤ ahi) (z3 : e ≤ blo) (z4 : e ≤ bhi) (z5 : e ≤ clo) (z6 : e ≤ chi) :
   ∀ (c d : Bool) (mlo mhi : Nat) (mls mhs mop : Bool), c = (aop || (!bop && decide (bhi < ahi))) → d = decide (alo < blo) → mlo = (if d = true then blo else alo) → mls = (if d = true then bls else als) →
   mhi = (if c = true then bhi else ahi) → mhs = (if c = true then bhs else ahs) → mop = (if c = true then bop else aop) →
   (if (empN alo ahi als ahs aop e || empN blo bhi bls bhs bop e) = true then false else if empN mlo mhi mls mhs mop e = true then false else witN clo chi cls chs cop mlo mhi mls mhs mop e) = (witN clo chi cls chs cop alo ahi als ahs aop e && witN clo chi cls chs cop blo bhi bls bhs bop e) := by
  intro c d mlo mhi mls mhs mop h1 h2 h3 h4 h5 h6 h7
  unfold witN
  unfold empN okN at *
  simp only [Bool.and_eq_true] at ha hb
  obtain ⟨a1, a2, a3⟩ := ha
  obtain ⟨b1, b2, b3⟩ := hb
  subst a1 a2 b1 b2
  cases aop <;> cases bop <;> cases cop <;> grind
theorem wit_meet (alo ahi : ByteArray) (aop : Bool) (blo bhi : ByteArray) (bop : Bool) (clo chi : ByteArray) (cop : Bool) (ha : rgE alo ahi aop = 0) (hb : rgE blo bhi bop = 0) (hc : empK clo chi cop = false) :
    ((meetK alo ahi aop blo bhi bop).2.2.2 && witK clo chi cop (meetK alo ahi aop blo bhi bop).1 (meetK alo ahi aop blo bhi bop).2.1 (meetK alo ahi aop blo bhi bop).2.2.1) = (witK clo chi cop alo ahi aop && witK clo chi cop blo bhi bop) := by
  obtain ⟨S, hS⟩ : ∃ S : List (List UInt8), S = [alo.toList, ahi.toList, blo.toList, bhi.toList, clo.toList, chi.toList, []] := ⟨_, rfl⟩
  have m1 : alo.toList ∈ S := by simp [hS]
  have m2 : ahi.toList ∈ S := by simp [hS]
  have m3 : blo.toList ∈ S := by simp [hS]
  have m4 : bhi.toList ∈ S := by simp [hS]
  have m5 : clo.toList ∈ S := by simp [hS]
  have m5' : chi.toList ∈ S := by simp [hS]
  have m6 : ([] : List UInt8) ∈ S := by simp [hS]
  have m7 : (mxs alo blo).toList ∈ S := by rw [mxs_list]; split <;> assumption
  have m8 : (endH ahi aop bhi bop).toList ∈ S := by unfold endH; split <;> assumption
  have ha' := decide_eq_true ha
  have hb' := decide_eq_true hb
  rw [ok_N m6 m1 m2] at ha'
  rw [ok_N m6 m3 m4] at hb'
  have hc' := hc
  rw [emp_N m6 m5 m5'] at hc'
  have h := wm_N (rk S alo.toList) (rk S ahi.toList) (decide (alo.size ≤ 16)) (decide (ahi.size ≤ 16)) aop (rk S blo.toList) (rk S bhi.toList) (decide (blo.size ≤ 16)) (decide (bhi.size ≤ 16)) bop
    (rk S clo.toList) (rk S chi.toList) (decide (clo.size ≤ 16)) (decide (chi.size ≤ 16)) cop (rk S []) ha' hb' hc' (rk_nil m6 m1) (rk_nil m6 m2) (rk_nil m6 m3) (rk_nil m6 m4) (rk_nil m6 m5) (rk_nil m6 m5')
    _ _ (rk S (mxs alo blo).toList) (rk S (endH ahi aop bhi bop).toList) (decide ((mxs alo blo).size ≤ 16)) (decide ((endH ahi aop bhi bop).size ≤ 16)) (endO ahi aop bhi bop) rfl rfl
    (by rw [mxs_list, rk_less m1 m3]; split <;> rfl) (by rw [mxs_size, rk_less m1 m3]; split <;> rfl)
    (by unfold endH; rw [rk_less m4 m2]; split <;> rfl) (by unfold endH; rw [rk_less m4 m2]; split <;> rfl) (by unfold endO; rw [rk_less m4 m2])
  rw [← emp_N m6 m1 m2, ← emp_N m6 m3 m4, ← emp_N m6 m7 m8, ← wit_N m6 m5 m5' m1 m2, ← wit_N m6 m5 m5' m3 m4, ← wit_N m6 m5 m5' m7 m8] at h
  rw [← h]
  unfold meetK
  split
  · rfl
  · split
    · rfl
    · simp
theorem wit_trans (alo ahi : ByteArray) (aop : Bool) (blo bhi : ByteArray) (bop : Bool) (clo chi : ByteArray) (cop : Bool) (h1 : witK alo ahi aop blo bhi bop = true) (h2 : witK blo bhi bop clo chi cop = true) : witK alo ahi aop clo chi cop = true := by
  obtain ⟨S, hS⟩ : ∃ S : List (List UInt8), S = [alo.toList, ahi.toList, blo.toList, bhi.toList, clo.toList, chi.toList, []] := ⟨_, rfl⟩
  have m1 : alo.toList ∈ S := by simp [hS]
  have m2 : ahi.toList ∈ S := by simp [hS]
  have m3 : blo.toList ∈ S := by simp [hS]
  have m4 : bhi.toList ∈ S := by simp [hS]
  have m5 : clo.toList ∈ S := by simp [hS]
  have m5' : chi.toList ∈ S := by simp [hS]
  have m6 : ([] : List UInt8) ∈ S := by simp [hS]
  rw [wit_N m6 m1 m2 m3 m4] at h1
  rw [wit_N m6 m3 m4 m5 m5'] at h2
  rw [wit_N m6 m1 m2 m5 m5']
  unfold witN empN okN at *
  grind
theorem wit_self (lo hi : ByteArray) (op : Bool) (h : rgE lo hi op = 0) : witK lo hi op lo hi op = true := by
  unfold witK
  rw [decide_eq_true h]
  cases empK lo hi op <;> cases op <;> simp [less_irrefl]
theorem wit_both (alo ahi : ByteArray) (aop : Bool) (blo bhi : ByteArray) (bop : Bool) (h1 : witK alo ahi aop blo bhi bop = true) (h2 : witK blo bhi bop alo ahi aop = true)
    (hne : (!(alo.toList == blo.toList) || (!(ahi.toList == bhi.toList) || (!(aop == bop)))) = true) : empK alo ahi aop = true ∧ empK blo bhi bop = true := by
  obtain ⟨S, hS⟩ : ∃ S : List (List UInt8), S = [alo.toList, ahi.toList, blo.toList, bhi.toList, []] := ⟨_, rfl⟩
  have m1 : alo.toList ∈ S := by simp [hS]
  have m2 : ahi.toList ∈ S := by simp [hS]
  have m3 : blo.toList ∈ S := by simp [hS]
  have m4 : bhi.toList ∈ S := by simp [hS]
  have m6 : ([] : List UInt8) ∈ S := by simp [hS]
  rw [wit_N m6 m1 m2 m3 m4] at h1
  rw [wit_N m6 m3 m4 m1 m2] at h2
  rw [rk_beq m1 m3, rk_beq m2 m4] at hne
  rw [emp_N m6 m1 m2, emp_N m6 m3 m4]
  have z1 := rk_nil m6 m1
  have z2 := rk_nil m6 m2
  have z3 := rk_nil m6 m3
  have z4 := rk_nil m6 m4
  unfold witN empN okN at *
  grind
theorem mxs_assoc (a b c : ByteArray) : mxs (mxs a b) c = mxs a (mxs b c) := by
  unfold mxs
  cases h1 : Op.bytesLess a.toList b.toList <;> cases h2 : Op.bytesLess b.toList c.toList <;> simp only [h1, h2, if_true, if_neg (show ¬ (false = true) by decide)]
  · rw [le_trans h2 h1]; simp
  · rw [less_trans h1 h2]; simp
theorem end_assoc (a : ByteArray) (ao : Bool) (b : ByteArray) (bo : Bool) (c : ByteArray) (co : Bool) :
    endH (endH a ao b bo) (endO a ao b bo) c co = endH a ao (endH b bo c co) (endO b bo c co) ∧ endO (endH a ao b bo) (endO a ao b bo) c co = endO a ao (endH b bo c co) (endO b bo c co) := by
  unfold endH endO
  cases ao <;> cases bo <;> cases co <;> cases h1 : Op.bytesLess b.toList a.toList <;> cases h2 : Op.bytesLess c.toList b.toList <;> simp [h1, h2]
  · have h3 : Op.bytesLess c.toList a.toList = false := le_trans h1 h2
    simp [h3]
  · have h3 : Op.bytesLess c.toList a.toList = true := less_trans h2 h1
    simp [h3]
theorem meet_is {alo ahi : ByteArray} {aop : Bool} {blo bhi : ByteArray} {bop : Bool} (h : (meetK alo ahi aop blo bhi bop).2.2.2 = true) :
    empK alo ahi aop = false ∧ empK blo bhi bop = false ∧ empK (mxs alo blo) (endH ahi aop bhi bop) (endO ahi aop bhi bop) = false ∧ meetK alo ahi aop blo bhi bop = (mxs alo blo, endH ahi aop bhi bop, endO ahi aop bhi bop, true) := by
  unfold meetK at h ⊢
  cases h1 : empK alo ahi aop <;> cases h2 : empK blo bhi bop <;> cases h3 : empK (mxs alo blo) (endH ahi aop bhi bop) (endO ahi aop bhi bop) <;> simp [h1, h2, h3] at h ⊢
theorem meet_assoc (alo ahi : ByteArray) (aop : Bool) (blo bhi : ByteArray) (bop : Bool) (clo chi : ByteArray) (cop : Bool) (h1 : (meetK alo ahi aop blo bhi bop).2.2.2 = true) (h2 : (meetK blo bhi bop clo chi cop).2.2.2 = true) :
    meetK (meetK alo ahi aop blo bhi bop).1 (meetK alo ahi aop blo bhi bop).2.1 (meetK alo ahi aop blo bhi bop).2.2.1 clo chi cop = meetK alo ahi aop (meetK blo bhi bop clo chi cop).1 (meetK blo bhi bop clo chi cop).2.1 (meetK blo bhi bop clo chi cop).2.2.1 := by
  obtain ⟨a1, a2, a3, a4⟩ := meet_is h1
  obtain ⟨b1, b2, b3, b4⟩ := meet_is h2
  rw [a4, b4]
  simp only
  obtain ⟨e1, e2⟩ := end_assoc ahi aop bhi bop chi cop
  rw [meetK, meetK, a3, b2, a1, b3, mxs_assoc, e1, e2]
theorem meets_j3 (alo ahi : ByteArray) (aop : Bool) (blo bhi : ByteArray) (bop : Bool) (clo chi : ByteArray) (cop : Bool) :
    Ev (fun k => tidelinelaw02_SpanMeets.j3 k (meetK alo ahi aop blo bhi bop).2.2.2 false alo ahi aop blo bhi bop clo chi cop (meetK alo ahi aop blo bhi bop).1 (meetK alo ahi aop blo bhi bop).2.1 (meetK alo ahi aop blo bhi bop).2.2.1) true := by
  refine Ev.step (fun k => by rw [tidelinelaw02_SpanMeets.j3]) ?_
  simp only [if_neg (show ¬ (false = true) by decide)]
  refine Ev.bind (meet_f _ _ _ clo chi cop) (Ev.bind (meet_f blo bhi bop clo chi cop) (Ev.bind (meet_f alo ahi aop _ _ _) ?_))
  by_cases h1 : (meetK alo ahi aop blo bhi bop).2.2.2 = true
  · simp only [if_pos h1]
    by_cases h2 : (meetK blo bhi bop clo chi cop).2.2.2 = true
    · simp only [if_pos h2, meet_assoc alo ahi aop blo bhi bop clo chi cop h1 h2, beq_self_eq_true, Bool.and_self, if_true]; exact Ev.const rfl
    · simp only [if_neg h2]; exact Ev.const rfl
  · simp only [if_neg h1]; exact Ev.const rfl
theorem meets_j2 (alo ahi : ByteArray) (aop : Bool) (blo bhi : ByteArray) (bop : Bool) (clo chi : ByteArray) (cop : Bool) :
    Ev (fun k => tidelinelaw02_SpanMeets.j2 k (meetK alo ahi aop blo bhi bop).2.2.2 false alo ahi aop blo bhi bop clo chi cop (meetK alo ahi aop blo bhi bop).1 (meetK alo ahi aop blo bhi bop).2.1 (meetK alo ahi aop blo bhi bop).2.2.1) true := by
  refine Ev.step (fun k => by rw [tidelinelaw02_SpanMeets.j2]) ?_
  simp only [if_neg (show ¬ (false = true) by decide)]
  have J := meets_j3 alo ahi aop blo bhi bop clo chi cop
  refine Ev.bind (wit_f alo ahi aop blo bhi bop) ?_
  cases h1 : witK alo ahi aop blo bhi bop with
  | false => exact J
  | true =>
    simp only [if_true]
    refine Ev.bind (wit_f blo bhi bop alo ahi aop) ?_
    cases h2 : witK blo bhi bop alo ahi aop with
    | false => exact J
    | true =>
      simp only [if_true]
      by_cases hne : (!(alo.toList == blo.toList) || (!(ahi.toList == bhi.toList) || (!(aop == bop)))) = true
      · simp only [if_pos hne]
        obtain ⟨e1, e2⟩ := wit_both alo ahi aop blo bhi bop h1 h2 hne
        refine Ev.bind (emp_f alo ahi aop) ?_
        rw [e1]
        simp only [if_true]
        refine Ev.bind (emp_f blo bhi bop) ?_
        rw [e2]
        exact J
      · simp only [if_neg hne]; exact J
theorem meets_j1 (alo ahi : ByteArray) (aop : Bool) (blo bhi : ByteArray) (bop : Bool) (clo chi : ByteArray) (cop : Bool) (ha : rgE alo ahi aop = 0) :
    Ev (fun k => tidelinelaw02_SpanMeets.j1 k (meetK alo ahi aop blo bhi bop).2.2.2 false alo ahi aop blo bhi bop clo chi cop (meetK alo ahi aop blo bhi bop).1 (meetK alo ahi aop blo bhi bop).2.1 (meetK alo ahi aop blo bhi bop).2.2.1) true := by
  refine Ev.step (fun k => by rw [tidelinelaw02_SpanMeets.j1]) ?_
  simp only [if_neg (show ¬ (false = true) by decide)]
  have J := meets_j2 alo ahi aop blo bhi bop clo chi cop
  have W := wit_f alo ahi aop alo ahi aop
  rw [wit_self alo ahi aop ha] at W
  have T : Ev (fun k => (span_Within.f k alo ahi aop alo ahi aop).bind fun t => tidelinelaw02_SpanMeets.j2 k (meetK alo ahi aop blo bhi bop).2.2.2 (!t) alo ahi aop blo bhi bop clo chi cop (meetK alo ahi aop blo bhi bop).1 (meetK alo ahi aop blo bhi bop).2.1 (meetK alo ahi aop blo bhi bop).2.2.1) true := Ev.bind W J
  refine Ev.bind (wit_f alo ahi aop blo bhi bop) ?_
  cases h1 : witK alo ahi aop blo bhi bop with
  | false => exact T
  | true =>
    simp only [if_true]
    refine Ev.bind (wit_f blo bhi bop clo chi cop) ?_
    cases h2 : witK blo bhi bop clo chi cop with
    | false => exact T
    | true =>
      simp only [if_true]
      refine Ev.bind (wit_f alo ahi aop clo chi cop) ?_
      rw [wit_trans alo ahi aop blo bhi bop clo chi cop h1 h2]
      exact T
theorem meets_j0 (alo ahi : ByteArray) (aop : Bool) (blo bhi : ByteArray) (bop : Bool) (clo chi : ByteArray) (cop : Bool) (t : Bool) (ht : t = decide (¬ (rgE alo ahi aop = 0 ∧ rgE blo bhi bop = 0 ∧ rgE clo chi cop = 0))) :
    Ev (fun k => tidelinelaw02_SpanMeets.j0 k t alo ahi aop blo bhi bop clo chi cop) true := by
  refine Ev.step (fun k => by rw [tidelinelaw02_SpanMeets.j0]) ?_
  by_cases hok : rgE alo ahi aop = 0 ∧ rgE blo bhi bop = 0 ∧ rgE clo chi cop = 0
  · rw [decide_eq_false (by simp [hok])] at ht
    subst ht
    simp only [if_neg (show ¬ (false = true) by decide)]
    obtain ⟨ha, hb, hc⟩ := hok
    have J := meets_j1 alo ahi aop blo bhi bop clo chi cop ha
    refine Ev.bind (meet_f alo ahi aop blo bhi bop) (Ev.bind (emp_f clo chi cop) ?_)
    cases he : empK clo chi cop with
    | true => exact J
    | false =>
      simp only [if_neg (show ¬ (false = true) by decide)]
      have hm := wit_meet alo ahi aop blo bhi bop clo chi cop ha hb he
      cases hi : (meetK alo ahi aop blo bhi bop).2.2.2 with
      | true =>
        rw [hi] at hm J
        simp only [Bool.true_and] at hm
        simp only [if_true]
        refine Ev.bind (wit_f clo chi cop _ _ _) (Ev.bind (wit_f clo chi cop alo ahi aop) ?_)
        rw [hm]
        cases witK clo chi cop alo ahi aop with
        | true =>
          simp only [if_true, Bool.true_and]
          refine Ev.bind (wit_f clo chi cop blo bhi bop) ?_
          simp only [bne_self_eq_false]
          exact J
        | false => simp only [Bool.false_and]; exact J
      | false =>
        rw [hi] at hm J
        simp only [Bool.false_and] at hm
        simp only [if_neg (show ¬ (false = true) by decide)]
        refine Ev.bind (wit_f clo chi cop alo ahi aop) ?_
        cases h2 : witK clo chi cop alo ahi aop with
        | true =>
          rw [h2, Bool.true_and] at hm
          simp only [if_true]
          refine Ev.bind (wit_f clo chi cop blo bhi bop) ?_
          rw [← hm]
          exact J
        | false => exact J
  · rw [decide_eq_true hok] at ht
    subst ht
    simp only [if_true]
    refine Ev.bind (wit_f alo ahi aop blo bhi bop) ?_
    cases h1 : witK alo ahi aop blo bhi bop with
    | false => exact Ev.const rfl
    | true =>
      simp only [if_true]
      refine Ev.bind (wit_f blo bhi bop clo chi cop) ?_
      cases h2 : witK blo bhi bop clo chi cop with
      | false => exact Ev.const rfl
      | true =>
        exfalso
        unfold witK at h1 h2
        simp only [Bool.and_eq_true, decide_eq_true_eq] at h1 h2
        exact hok ⟨h1.1, h1.2.1, h2.2.1⟩
theorem SpanMeets : tidelinelaw02_SpanMeets.Pure := by
  intro alo ahi aop blo bhi bop clo chi cop _ _ _
  refine Ev.rounds ?_
  refine Ev.congr (fun k => by rw [tidelinelaw02_SpanMeets.f]) ?_
  refine Ev.bind shown_f ?_
  simp only [if_true]
  have J := meets_j0 alo ahi aop blo bhi bop clo chi cop
  refine Ev.bind (rgE_f alo ahi aop) ?_
  by_cases ha : rgE alo ahi aop = 0
  · simp only [if_pos ha]
    refine Ev.bind (rgE_f blo bhi bop) ?_
    by_cases hb : rgE blo bhi bop = 0
    · simp only [if_pos hb]
      refine Ev.bind (rgE_f clo chi cop) ?_
      refine J _ ?_
      by_cases hc : rgE clo chi cop = 0
      · simp [ha, hb, hc]
      · simp [hc]
    · simp only [if_neg hb]; exact J true (by simp [hb])
  · simp only [if_neg ha]; exact J true (by simp [ha])
end Go.Proofs.Ytgdhgamolenfgaa.Pure
