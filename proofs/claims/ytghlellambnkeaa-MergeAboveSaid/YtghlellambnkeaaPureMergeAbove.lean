/- For all three lists the law MergeAbove answers true: what lacks nothing of what lacks nothing of a third lacks nothing of this; two that lack nothing of each other differ nowhere. It has no condition but the form's own reach. -/
import Derived.Test.YtghlellambnkeaaPAllx0
import Derived.Test.YtghlellambnkeaaPAllx3
import Derived.Test.YtghlellambnkeaaPAllx8
import Derived.Test.YtghlellambnkeaaQMergeAbove
import Derived.Test.YtghlellambnkeaaSEv
import Derived.Test.YtghlellambnkeaaSLists
import Derived.Test.YtghlellambnkeaaSItemcmp
import Derived.Test.YtghlellambnkeaaSMergeP
import Derived.Test.YtghlellambnkeaaSChk09
import Derived.Test.YtghlellambnkeaaSPairs09
import Derived.Test.YtghlellambnkeaaSClean09
import Derived.Test.YtghlellambnkeaaSBeyond09
import Derived.Test.YtghlellambnkeaaSAbove09
import Derived.Test.YtghlellambnkeaaSMerge
import Derived.Test.YtghlellambnkeaaSStr
set_option linter.unusedVariables false
set_option linter.unusedSimpArgs false
namespace Go.Proofs.Ytghlellambnkeaa.Pure
open Go.RowKit Go.Proofs.Ytghlellambnkeaa.PAll Go.Proofs.YtghlellambnkeaaW.PrintWords Go.Proofs.YtghlellambnkeaaW.PrintLast Go.Proofs.YtghlellambnkeaaW.PrintMore
open Go.Proofs.Ytghlellambnkeaa.MergeW Go.Proofs.Ytghlellambnkeaa.Str
theorem above_ev (a b : List S44) (h : a.length + b.length ≤ 1256584717457) (ha : chkL a = 0) (hb : chkL b = 0) : Ev (fun k => merge_Above.f k a b) (aboveB (mp a b), 0) := by
  refine Ev.congr (fun k => by rw [merge_Above.f]) (Ev.bind (chk2_f a b (by omega) (by omega)) ?_)
  have hc : chk2 a b = 0 := by unfold chk2; rw [if_pos ha]; exact hb
  rw [hc]
  exact Ev.const rfl
theorem differ_ev (a b : List S44) (h : a.length + b.length ≤ 1256584717457) (ha : chkL a = 0) (hb : chkL b = 0) : Ev (fun k => merge_Differ.f k a b) (differL (mp a b), 0) := by
  refine Ev.congr (fun k => by rw [merge_Differ.f]) (Ev.bind (chk2_f a b (by omega) (by omega)) ?_)
  have hc : chk2 a b = 0 := by unfold chk2; rw [if_pos ha]; exact hb
  have hl := mp_len a b
  rw [hc]
  simp only [if_pos (show (mp a b).length < 2513169434916 by omega), if_true]
  exact Ev.const rfl
theorem cleanB_parts {a b : List S44} (h : cleanB a b = true) : chkL a = 0 ∧ chkL b = 0 ∧ (mp a b).all okP = true := by
  unfold cleanB at h
  simp only [Bool.and_eq_true, decide_eq_true_eq] at h
  exact h
theorem MergeAbove : tidelinelaw09_MergeAbove.Pure := by
  intro a b c fa fb fc
  have la : a.length ≤ 2513169434843 := by have := fa.1; omega
  have lb : b.length ≤ 2513169434843 := by have := fb.1; omega
  have lc : c.length ≤ 2513169434843 := by have := fc.1; omega
  refine Ev.rounds ?_
  refine Ev.congr (fun k => by rw [tidelinelaw09_MergeAbove.f]) ?_
  obtain ⟨bb, hbb, hlim⟩ := bey_f [a, b, c] (by simp) (by intro l hl; simp at hl; rcases hl with rfl | rfl | rfl <;> assumption)
  refine Ev.bind hbb ?_
  have done : Ev (fun k => tidelinelaw09_MergeAbove.j0 k a b c true) true := by
    refine Ev.step (fun k => by rw [tidelinelaw09_MergeAbove.j0]) ?_
    simp only [if_true]; exact Ev.const rfl
  cases bb with
  | true => simp only [if_true]; exact done
  | false =>
    have hs := hlim rfl
    simp only [List.map_cons, List.map_nil, List.sum_cons, List.sum_nil] at hs
    simp only [if_neg (show ¬ (false = true) by decide)]
    refine Ev.bind (clean_f a b (by omega)) ?_
    cases h1 : cleanB a b with
    | false => simp only [if_neg (show ¬ (false = true) by decide)]; exact done
    | true =>
      simp only [if_true]
      refine Ev.bind (clean_f b c (by omega)) ?_
      cases h2 : cleanB b c with
      | false => simp only [if_neg (show ¬ (false = true) by decide)]; exact done
      | true =>
        simp only [if_true]
        refine Ev.bind (clean_f a c (by omega)) ?_
        cases h3 : cleanB a c with
        | false => exact done
        | true =>
          obtain ⟨ca, cb, hcl⟩ := cleanB_parts h1
          obtain ⟨_, cc, _⟩ := cleanB_parts h2
          have ma := mapOK ca
          have mb := mapOK cb
          have mc := mapOK cc
          refine Ev.step (fun k => by rw [tidelinelaw09_MergeAbove.j0]) ?_
          simp only [Bool.not_true, if_neg (show ¬ (false = true) by decide)]
          refine Ev.bind (above_ev a b (by omega) ca cb) ?_
          refine Ev.bind (above_ev b a (by omega) cb ca) ?_
          refine Ev.bind (above_ev b c (by omega) cb cc) ?_
          refine Ev.bind (above_ev a c (by omega) ca cc) ?_
          refine Ev.bind (differ_ev a b (by omega) ca cb) ?_
          refine Ev.bind (above_ev a a (by omega) ca ca) ?_
          have hself := above_self ma
          have hda := differ_above ma mb
          have hlen : (((differL (mp a b)).length : Int) == 0) = (aboveB (mp a b) && aboveB (mp b a)) := by
            cases hd : (((differL (mp a b)).length : Int) == 0) with
            | true =>
              have : differL (mp a b) = [] := List.eq_nil_of_length_eq_zero (by simpa using hd)
              obtain ⟨g1, g2⟩ := hda.1 this
              rw [g1, g2]; rfl
            | false =>
              cases hab : aboveB (mp a b) with
              | false => rfl
              | true =>
                cases hba : aboveB (mp b a) with
                | false => rfl
                | true =>
                  have := hda.2 ⟨hab, hba⟩
                  rw [this] at hd; simp at hd
          simp only [hself, if_true, hlen]
          have hsame : aboveB (mp a b) = true → aboveB (mp b a) = true → Ev (fun k => tidelinelaw09_same.f k a b) true := fun g1 g2 =>
            Ev.val (same_f a b (by omega)) (sameB_iff.2 (above_same ma mb hcl g1 g2))
          have fin : ∀ g1 : aboveB (mp a b) = true, Ev (fun k => if (aboveB (mp b a) == (true && aboveB (mp b a))) = true then (if aboveB (mp b a) = true then (tidelinelaw09_same.f k a b).bind fun t => some t else some true) else none) true := by
            intro g1
            simp only [Bool.true_and, beq_self_eq_true, if_true]
            cases hba : aboveB (mp b a) with
            | true => simp only [if_true]; exact Ev.bind (hsame g1 hba) (Ev.const rfl)
            | false => simp only [if_neg (show ¬ (false = true) by decide)]; exact Ev.const rfl
          cases hab : aboveB (mp a b) with
          | false =>
            simp only [if_neg (show ¬ (false = true) by decide), Bool.false_and, beq_self_eq_true, if_true]
            exact Ev.const rfl
          | true =>
            simp only [if_true]
            cases hbc : aboveB (mp b c) with
            | true =>
              have hac := above_trans ma mb mc hab hbc
              simp only [if_true, hac]
              exact fin hab
            | false =>
              simp only [if_neg (show ¬ (false = true) by decide)]
              exact fin hab
end Go.Proofs.Ytghlellambnkeaa.Pure
