/- For every list and every range the law MergeIn answers true: merge.In tells what is in a range as the document does, and what is handed in stays as it was, whatever becomes of the answer. It has no condition but the form's own reach. -/
import Derived.Test.YtghlellambnkeaaPAllx0
import Derived.Test.YtghlellambnkeaaPAllx5
import Derived.Test.YtghlellambnkeaaPAllx6
import Derived.Test.YtghlellambnkeaaQMergeIn
import Derived.Test.YtghlellambnkeaaSEv
import Derived.Test.YtghlellambnkeaaSLists
import Derived.Test.YtghlellambnkeaaSItemcmp
import Derived.Test.YtghlellambnkeaaSMergeP
import Derived.Test.YtghlellambnkeaaSChk09
import Derived.Test.YtghlellambnkeaaSClean09b
import Derived.Test.YtghlellambnkeaaSBeyond09
import Derived.Test.YtghlellambnkeaaSLawIn
import Derived.Test.YtghlellambnkeaaSStr
set_option linter.unusedVariables false
set_option linter.unusedSimpArgs false
namespace Go.Proofs.Ytghlellambnkeaa.Pure
open Go.RowKit Go.Proofs.Ytghlellambnkeaa.PAll Go.Proofs.YtghlellambnkeaaW.PrintWords Go.Proofs.YtghlellambnkeaaW.PrintLast Go.Proofs.YtghlellambnkeaaW.PrintMore
section
/-- What is wrong with a range. -/
def rgE (lo hi : ByteArray) (op : Bool) : Int := if lo.size > 16 ∨ hi.size > 16 then 20 else if op = true then (if hi.toList = [] then 0 else 21) else if Op.bytesLess hi.toList lo.toList = true then 21 else 0
/-- Has a range a key? -/
def hasK (lo hi : ByteArray) (op : Bool) (key : ByteArray) : Bool := decide (rgE lo hi op = 0) && decide (key.size ≤ 16) && !(Op.bytesLess key.toList lo.toList) && (op || Op.bytesLess key.toList hi.toList)
theorem below_f (key lo hi : ByteArray) (op : Bool) : span_below.f key lo hi op = some (op || Op.bytesLess key.toList hi.toList) := by
  unfold span_below.f; cases op <;> rfl
theorem rgE_f (lo hi : ByteArray) (op : Bool) : Ev (fun k => span_Check.f k lo hi op) (rgE lo hi op) := by
  have g : ∀ k, span_Check.f k lo hi op = span_Check.j0 k (decide (lo.size > 16 ∨ hi.size > 16)) lo hi op := by
    intro k
    unfold span_Check.f
    by_cases h : (lo.size : Int) > 16
    · rw [if_pos h, decide_eq_true h, decide_eq_true (show lo.size > 16 ∨ hi.size > 16 by omega)]
    · rw [if_neg h]
      by_cases h2 : (hi.size : Int) > 16
      · rw [decide_eq_true h2, decide_eq_true (show lo.size > 16 ∨ hi.size > 16 by omega)]
      · rw [decide_eq_false h2, decide_eq_false (show ¬ (lo.size > 16 ∨ hi.size > 16) by omega)]
  refine Ev.congr g (Ev.step (fun k => by rw [span_Check.j0]) ?_)
  unfold rgE
  by_cases h : lo.size > 16 ∨ hi.size > 16
  · rw [decide_eq_true h, if_pos h]; exact Ev.const rfl
  · rw [decide_eq_false h, if_neg h]
    simp only [if_neg (show ¬ (false = true) by decide)]
    cases op with
    | true =>
      simp only [if_true]
      refine Ev.step (fun k => by rw [span_Check.j1]) ?_
      by_cases h2 : hi.toList = []
      · simp only [h2, if_true]; exact Ev.const rfl
      · have : (hi.toList != ([] : List UInt8)) = true := by rw [bne_iff_ne]; exact h2
        simp only [this, if_neg h2, if_true]; exact Ev.const rfl
    | false =>
      simp only [if_neg (show ¬ (false = true) by decide)]
      refine Ev.step (fun k => by rw [span_Check.j1]) ?_
      simp only [if_neg (show ¬ (false = true) by decide)]
      by_cases h2 : Op.bytesLess hi.toList lo.toList = true
      · simp only [if_pos h2]; exact Ev.const rfl
      · simp only [if_neg h2]; exact Ev.const rfl
theorem hasK_f (lo hi : ByteArray) (op : Bool) (key : ByteArray) : Ev (fun k => span_Holds.f k lo hi op key) (hasK lo hi op key) := by
  refine Ev.congr (fun k => by rw [span_Holds.f]) ?_
  refine Ev.bind (rgE_f lo hi op) ?_
  unfold hasK
  by_cases h : rgE lo hi op = 0
  · simp only [if_pos h, decide_eq_true h, Bool.true_and]
    by_cases h2 : key.size ≤ 16
    · simp only [if_pos (show (key.size : Int) ≤ 16 by omega), decide_eq_true h2, Bool.true_and]
      cases h3 : Op.bytesLess key.toList lo.toList with
      | true => exact Ev.const rfl
      | false => simp only [if_neg (show ¬ (false = true) by decide), below_f, Option.bind_some, Bool.not_false, Bool.true_and]; exact Ev.const rfl
    · simp only [if_neg (show ¬ (key.size : Int) ≤ 16 by omega), decide_eq_false h2, Bool.false_and]; exact Ev.const rfl
  · simp only [if_neg h, decide_eq_false h, Bool.false_and]; exact Ev.const rfl
end
section
theorem rgE_ref (lo hi : ByteArray) (op : Bool) : Ev (fun k => tidelineref02_Check.f k lo hi op) (rgE lo hi op) := by
  have g : ∀ k, tidelineref02_Check.f k lo hi op = tidelineref02_Check.j0 k (decide (lo.size > 16 ∨ hi.size > 16)) lo hi op := by
    intro k
    unfold tidelineref02_Check.f
    by_cases h : (lo.size : Int) > 16
    · rw [if_pos h, decide_eq_true (show lo.size > 16 ∨ hi.size > 16 by omega)]
    · rw [if_neg h]
      by_cases h2 : (hi.size : Int) > 16
      · rw [decide_eq_true h2, decide_eq_true (show lo.size > 16 ∨ hi.size > 16 by omega)]
      · rw [decide_eq_false h2, decide_eq_false (show ¬ (lo.size > 16 ∨ hi.size > 16) by omega)]
  refine Ev.congr g (Ev.step (fun k => by rw [tidelineref02_Check.j0]) ?_)
  unfold rgE
  by_cases h : lo.size > 16 ∨ hi.size > 16
  · rw [decide_eq_true h, if_pos h]; exact Ev.const rfl
  · rw [decide_eq_false h, if_neg h]
    simp only [if_neg (show ¬ (false = true) by decide)]
    refine Ev.const ?_
    cases op with
    | true => by_cases h2 : hi.toList = [] <;> simp [h2]
    | false => by_cases h2 : Op.bytesLess hi.toList lo.toList = true <;> simp [h2]
end
section
theorem hasK_ref (lo hi : ByteArray) (op : Bool) (key : ByteArray) : Ev (fun k => tidelineref02_Holds.f k lo hi op key) (hasK lo hi op key) := by
  refine Ev.congr (fun k => by rw [tidelineref02_Holds.f]) ?_
  refine Ev.bind (rgE_ref lo hi op) ?_
  unfold hasK
  by_cases h : rgE lo hi op = 0
  · simp only [if_pos h, decide_eq_true h, Bool.true_and]
    by_cases h2 : key.size ≤ 16
    · simp only [if_pos (show (key.size : Int) ≤ 16 by omega), decide_eq_true h2, Bool.true_and]
      cases h3 : Op.bytesLess key.toList lo.toList with
      | true => exact Ev.const rfl
      | false =>
        simp only [if_neg (show ¬ (false = true) by decide), Bool.not_false, Bool.true_and]
        refine Ev.const ?_
        cases op <;> simp
    · simp only [if_neg (show ¬ (key.size : Int) ≤ 16 by omega), decide_eq_false h2, Bool.false_and]; exact Ev.const rfl
  · simp only [if_neg h, decide_eq_false h, Bool.false_and]; exact Ev.const rfl
end
section
theorem spoil_grow (d : Nat) : ∀ (i : Nat) (l : List S44), i + d = 12 → l.length + d ≤ 2513169434916 → Ev (fun k => tidelinelaw09_spoil.l1 k l (i : Int)) () := by
  induction d with
  | zero =>
    intro i l hd hl
    refine Ev.step (fun k => by rw [tidelinelaw09_spoil.l1]) ?_
    simp only [if_neg (show ¬ (i : Int) < 12 by omega)]
    exact Ev.const rfl
  | succ d ih =>
    intro i l hd hl
    refine Ev.step (fun k => by rw [tidelinelaw09_spoil.l1]) ?_
    simp only [if_pos (show (i : Int) < 12 by omega), if_pos (show l.length < 2513169434916 by omega)]
    rw [wrap_succ (by omega)]
    exact ih (i + 1) _ (by omega) (by simp; omega)
theorem spoil_turn (n : Nat) (hn : n + 12 ≤ 2513169434916) (d : Nat) : ∀ (i : Nat) (l : List S44), l.length = n → i + d = n → Ev (fun k => tidelinelaw09_spoil.l0 k l (i : Int)) () := by
  induction d with
  | zero =>
    intro i l hl hd
    refine Ev.step (fun k => by rw [tidelinelaw09_spoil.l0]) ?_
    simp only [if_neg (show ¬ (i : Int) < (l.length : Int) by omega)]
    exact spoil_grow 12 0 l rfl (by omega)
  | succ d ih =>
    intro i l hl hd
    refine Ev.step (fun k => by rw [tidelinelaw09_spoil.l0]) ?_
    simp only [if_pos (show (i : Int) < (l.length : Int) by omega), if_pos (show (0 : Int) ≤ (i : Int) by omega)]
    rw [wrap_succ (by omega)]
    exact ih (i + 1) _ (by simp; omega) (by omega)
theorem spoil_f (l : List S44) (hl : l.length + 12 ≤ 2513169434916) : Ev (fun k => tidelinelaw09_spoil.f k l) () :=
  Ev.congr (fun k => by rw [tidelinelaw09_spoil.f]; rfl) (spoil_turn l.length hl l.length 0 l rfl (Nat.zero_add _))
end
theorem inL_f (lo hi : ByteArray) (op : Bool) (l : List S44) (hl : l.length ≤ 2513169434900) (d : Nat) : ∀ (i : Nat) (acc : List S44), i + d = l.length → acc.length ≤ i →
    Ev (fun k => merge_In.l0 k acc l (l.length : Int) (i : Int) lo hi op) (acc ++ (l.drop i).filter (fun x => hasK lo hi op x.f0), 0) ∧ Ev (fun k => tidelineref09_In.l0 k l acc (i : Int) lo hi op) (acc ++ (l.drop i).filter (fun x => hasK lo hi op x.f0), 0) := by
  induction d with
  | zero =>
    intro i acc hd ha
    rw [List.drop_of_length_le (by omega)]
    refine ⟨Ev.step (fun k => by rw [merge_In.l0]) ?_, Ev.step (fun k => by rw [tidelineref09_In.l0]) ?_⟩
    · simp only [if_neg (show ¬ (i : Int) < (l.length : Int) by omega)]; exact Ev.const (by simp)
    · simp only [if_neg (show ¬ (i : Int) < (l.length : Int) by omega)]; exact Ev.const (by simp)
  | succ d ih =>
    intro i acc hd ha
    rw [List.drop_eq_getElem_cons (show i < l.length by omega)]
    refine ⟨Ev.step (fun k => by rw [merge_In.l0]) ?_, Ev.step (fun k => by rw [tidelineref09_In.l0]) ?_⟩
    · simp only [if_pos (show (i : Int) < (l.length : Int) by omega), if_pos (show (0 : Int) ≤ (i : Int) by omega), if_pos (show acc.length < 2513169434916 by omega)]
      rw [rd44 (show i < l.length by omega), wrap_succ (by omega)]
      refine Ev.bind (hasK_f lo hi op _) ?_
      cases hz : hasK lo hi op l[i].f0 with
      | true =>
        simp only [if_true]
        refine Ev.val (ih (i + 1) (acc ++ [l[i]]) (by omega) (by simp; omega)).1 ?_
        rw [List.filter_cons_of_pos (by simpa using hz)]; simp
      | false =>
        simp only [if_neg (show ¬ (false = true) by decide)]
        refine Ev.val (ih (i + 1) acc (by omega) (by omega)).1 ?_
        rw [List.filter_cons_of_neg (by simpa using hz)]
    · simp only [if_pos (show (i : Int) < (l.length : Int) by omega), if_pos (show (0 : Int) ≤ (i : Int) by omega), if_pos (show acc.length < 2513169434916 by omega)]
      rw [rd44 (show i < l.length by omega), wrap_succ (by omega)]
      refine Ev.bind (hasK_ref lo hi op _) ?_
      cases hz : hasK lo hi op l[i].f0 with
      | true =>
        simp only [if_true]
        refine Ev.val (ih (i + 1) (acc ++ [l[i]]) (by omega) (by simp; omega)).2 ?_
        rw [List.filter_cons_of_pos (by simpa using hz)]; simp
      | false =>
        simp only [if_neg (show ¬ (false = true) by decide)]
        refine Ev.val (ih (i + 1) acc (by omega) (by omega)).2 ?_
        rw [List.filter_cons_of_neg (by simpa using hz)]
/-- What is in a range. -/
def inA (l : List S44) (lo hi : ByteArray) (op : Bool) : List S44 × Int := if chkL l = 0 then (if rgE lo hi op = 0 then (l.filter (fun x => hasK lo hi op x.f0), 0) else ([], rgE lo hi op)) else ([], chkL l)
theorem inA_len (l : List S44) (lo hi : ByteArray) (op : Bool) : (inA l lo hi op).1.length ≤ l.length := by
  unfold inA
  split
  · split
    · exact List.length_filter_le _ _
    · simp
  · simp
theorem inA_f (lo hi : ByteArray) (op : Bool) (l : List S44) (hl : l.length ≤ 2513169434843) : Ev (fun k => merge_In.f k l lo hi op) (inA l lo hi op) := by
  refine Ev.congr (fun k => by rw [merge_In.f]) (Ev.bind (chk_f l hl) ?_)
  unfold inA
  by_cases hc : chkL l = 0
  · simp only [if_pos hc]
    refine Ev.bind (rgE_f lo hi op) ?_
    by_cases h : rgE lo hi op = 0
    · simp only [if_pos h]
      exact Ev.val (inL_f lo hi op l (by omega) l.length 0 [] (Nat.zero_add _) (Nat.le_refl _)).1 (by simp)
    · simp only [if_neg h]; exact Ev.const rfl
  · simp only [if_neg hc]; exact Ev.const rfl
theorem inA_ref (lo hi : ByteArray) (op : Bool) (l : List S44) (hl : l.length ≤ 2513169434843) : Ev (fun k => tidelineref09_In.f k l lo hi op) (inA l lo hi op) := by
  refine Ev.congr (fun k => by rw [tidelineref09_In.f]) (Ev.bind (chk_ref l hl) ?_)
  unfold inA
  by_cases hc : chkL l = 0
  · simp only [if_pos hc]
    refine Ev.bind (rgE_ref lo hi op) ?_
    by_cases h : rgE lo hi op = 0
    · simp only [if_pos h]
      exact Ev.val (inL_f lo hi op l (by omega) l.length 0 [] (Nat.zero_add _) (Nat.le_refl _)).2 (by simp)
    · simp only [if_neg h]; exact Ev.const rfl
  · simp only [if_neg hc]; exact Ev.const rfl
theorem MergeIn : tidelinelaw09_MergeIn.Pure := by
  intro a lo hi op fa fr
  have la : a.length ≤ 2513169434843 := by have := fa.1; omega
  refine Ev.rounds ?_
  refine Ev.congr (fun k => by rw [tidelinelaw09_MergeIn.f]) ?_
  obtain ⟨bb, hbb, hlim⟩ := bey_f [a] (by simp) (by intro l hl; simp at hl; subst hl; assumption)
  refine Ev.bind hbb ?_
  cases bb with
  | true => simp only [if_true]; exact Ev.const rfl
  | false =>
    simp only [if_neg (show ¬ (false = true) by decide)]
    have hlong : ∃ r, tidelinelaw09_longRange.f lo hi op = some r := by unfold tidelinelaw09_longRange.f; split <;> exact ⟨_, rfl⟩
    obtain ⟨r, hr⟩ := hlong
    refine Ev.bind (Ev.const hr) ?_
    cases r with
    | true => simp only [if_true]; exact Ev.const rfl
    | false =>
      have hin := inA_len a lo hi op
      simp only [if_neg (show ¬ (false = true) by decide), if_pos la]
      refine Ev.bind (inA_f lo hi op a la) (Ev.bind (inA_ref lo hi op a la) ?_)
      simp only [if_true]
      refine Ev.bind (same_f (inA a lo hi op).1 (inA a lo hi op).1 (by omega)) ?_
      rw [sameB_iff.2 rfl]
      simp only [if_true]
      refine Ev.bind (spoil_f (inA a lo hi op).1 (by omega)) ?_
      refine Ev.bind (same_f a a (by omega)) ?_
      rw [sameB_iff.2 rfl]
      simp only [if_true]
      exact Ev.const rfl
end Go.Proofs.Ytghlellambnkeaa.Pure
