import Derived.Test.YtghlellambnkeaaPAllx0
import Derived.Test.YtghlellambnkeaaPAllx4
import Derived.Test.YtghlellambnkeaaPAllx6
import Derived.Test.YtghlellambnkeaaSEv
import Derived.Test.YtghlellambnkeaaSLists
import Derived.Test.YtghlellambnkeaaSItemcmp
import Derived.Test.YtghlellambnkeaaSMergeP
set_option linter.unusedVariables false
set_option linter.unusedSimpArgs false
namespace Go.Proofs.Ytghlellambnkeaa.Pure
open Go.RowKit Go.Proofs.Ytghlellambnkeaa.PAll Go.Proofs.YtghlellambnkeaaW.PrintWords Go.Proofs.YtghlellambnkeaaW.PrintLast Go.Proofs.YtghlellambnkeaaW.PrintMore
/-! The lists of layer 09. -/
def verE (a b : Int) : Int := if 1 ≤ a ∧ a ≤ 1099511627776 ∧ 0 ≤ b ∧ b < 8 then 0 else 30
theorem verE_f (a b : Int) : item_CheckVersion.f a b = some (verE a b) := by
  unfold item_CheckVersion.f verE
  split
  · split
    · split
      · split
        · rw [if_pos ⟨by assumption, by assumption, by assumption, by assumption⟩]
        · rw [if_neg (fun h => by omega)]
      · rw [if_neg (fun h => by omega)]
    · rw [if_neg (fun h => by omega)]
  · rw [if_neg (fun h => by omega)]
theorem verE_ref (a b : Int) : tidelineref03_CheckVersion.f a b = some (verE a b) := by
  unfold tidelineref03_CheckVersion.f verE
  split
  · rw [if_neg (fun h => by omega)]
  · split
    · rw [if_neg (fun h => by omega)]
    · split
      · rw [if_neg (fun h => by omega)]
      · split
        · rw [if_neg (fun h => by omega)]
        · rw [if_pos (by omega)]
/-- What is wrong with an entry. -/
def entE (x : S44) : Int := if (x.f0.size : Int) > 16 then 20 else if verE x.f1.f0 x.f1.f1 = 0 then (if (x.f2.size : Int) > 32 then 31 else if x.f3 = true then (if x.f2.toList = ([] : List UInt8) then 0 else 32) else 0) else 30
theorem entE_f (x : S44) : item_Check.f x.f0 x.f1.f0 x.f1.f1 x.f2 x.f3 = some (entE x) := by
  unfold item_Check.f entE
  rw [verE_f]
  simp only [Option.bind_some]
  repeat' split
  all_goals rfl
theorem entE_ref (x : S44) : tidelineref03_Check.f x.f0 x.f1.f0 x.f1.f1 x.f2 x.f3 = some (entE x) := by
  unfold tidelineref03_Check.f entE
  rw [verE_ref]
  simp only [Option.bind_some]
  repeat' split
  all_goals rfl
theorem entE_there {x : S44} (h : entE x = 0) : 1 ≤ x.f1.f0 := by
  unfold entE at h
  split at h
  · simp at h
  · split at h
    · rename_i h2
      unfold verE at h2
      split at h2
      · rename_i h3; exact h3.1
      · simp at h2
    · simp at h
/-- What is wrong with a list, behind an entry. -/
def lstE : Option S44 → List S44 → Int
  | _, [] => 0
  | none, x :: l => if entE x = 0 then lstE (some x) l else entE x
  | some y, x :: l => if entE x = 0 then (if Op.bytesLess y.f0.toList x.f0.toList = true then lstE (some x) l else 90) else entE x
def chkL (l : List S44) : Int := lstE none l
theorem rd44 {l : List S44} {i : Nat} (h : i < l.length) : rd_T44 l (i : Int) = l[i] := by
  unfold rd_T44
  rw [Int.toNat_natCast, List.getD_eq_getElem?_getD, List.getElem?_eq_getElem h]; rfl
def prevE (l : List S44) (i : Nat) : Option S44 := if i = 0 then none else l[i-1]?
theorem chk_loop (l : List S44) (hl : l.length ≤ 2513169434843) (d : Nat) : ∀ i : Nat, i + d = l.length →
    Ev (fun k => merge_Check.l0 k l l (l.length : Int) (i : Int)) (lstE (prevE l i) (l.drop i)) ∧ Ev (fun k => tidelineref09_Check.l0 k l (i : Int)) (lstE (prevE l i) (l.drop i)) := by
  induction d with
  | zero =>
    intro i hd
    rw [List.drop_of_length_le (by omega)]
    refine ⟨?_, ?_⟩
    · refine Ev.step (fun k => by rw [merge_Check.l0]) ?_
      simp only [if_neg (show ¬ (i : Int) < (l.length : Int) by omega)]
      exact Ev.const (by cases prevE l i <;> rfl)
    · refine Ev.step (fun k => by rw [tidelineref09_Check.l0]) ?_
      simp only [if_neg (show ¬ (i : Int) < (l.length : Int) by omega)]
      exact Ev.const (by cases prevE l i <;> rfl)
  | succ d ih =>
    intro i hd
    obtain ⟨ih1, ih2⟩ := ih (i + 1) (by omega)
    have hp : prevE l (i + 1) = some l[i] := by unfold prevE; rw [if_neg (by omega)]; simp
    rw [hp] at ih1 ih2
    rw [List.drop_eq_getElem_cons (show i < l.length by omega)]
    cases i with
    | zero =>
      have h0 : prevE l 0 = none := rfl
      rw [h0]
      refine ⟨?_, ?_⟩
      · refine Ev.step (fun k => by rw [merge_Check.l0]) ?_
        simp only [if_pos (show ((0 : Nat) : Int) < (l.length : Int) by omega), if_pos (show (0 : Int) ≤ ((0 : Nat) : Int) by omega), if_neg (show ¬ ((0 : Nat) : Int) > 0 by omega)]
        rw [rd44 (show 0 < l.length by omega), wrap_succ (by omega)]
        refine Ev.bind (Ev.const (entE_f _)) ?_
        simp only [lstE]
        by_cases h : entE l[0] = 0
        · simp only [if_pos h]; exact ih1
        · simp only [if_neg h]; exact Ev.const rfl
      · refine Ev.step (fun k => by rw [tidelineref09_Check.l0]) ?_
        simp only [if_pos (show ((0 : Nat) : Int) < (l.length : Int) by omega), if_pos (show (0 : Int) ≤ ((0 : Nat) : Int) by omega), if_neg (show ¬ ((0 : Nat) : Int) > 0 by omega)]
        rw [rd44 (show 0 < l.length by omega), wrap_succ (by omega)]
        refine Ev.bind (Ev.const (entE_ref _)) ?_
        simp only [lstE]
        by_cases h : entE l[0] = 0
        · simp only [if_pos h]; exact ih2
        · simp only [if_neg h]; exact Ev.const rfl
    | succ j =>
      have h0 : prevE l (j + 1) = some l[j] := by unfold prevE; rw [if_neg (by omega)]; simp
      have e1 : wrap64 (((j + 1 : Nat) : Int) - 1) = (j : Int) := by rw [wrap_id (by omega) (by omega)]; omega
      rw [h0]
      refine ⟨?_, ?_⟩
      · refine Ev.step (fun k => by rw [merge_Check.l0]) ?_
        simp only [e1, if_pos (show ((j + 1 : Nat) : Int) < (l.length : Int) by omega), if_pos (show (0 : Int) ≤ ((j + 1 : Nat) : Int) by omega), if_pos (show ((j + 1 : Nat) : Int) > 0 by omega), if_pos (show (0 : Int) ≤ (j : Int) by omega), if_pos (show (j : Int) < (l.length : Int) by omega)]
        rw [rd44 (show j + 1 < l.length by omega), rd44 (show j < l.length by omega), wrap_succ (by omega)]
        refine Ev.bind (Ev.const (entE_f _)) ?_
        simp only [lstE]
        by_cases h : entE l[j+1] = 0
        · simp only [if_pos h]
          by_cases h2 : Op.bytesLess l[j].f0.toList l[j+1].f0.toList = true
          · simp only [if_pos h2]; exact ih1
          · simp only [if_neg h2]; exact Ev.const rfl
        · simp only [if_neg h]; exact Ev.const rfl
      · refine Ev.step (fun k => by rw [tidelineref09_Check.l0]) ?_
        simp only [e1, if_pos (show ((j + 1 : Nat) : Int) < (l.length : Int) by omega), if_pos (show (0 : Int) ≤ ((j + 1 : Nat) : Int) by omega), if_pos (show ((j + 1 : Nat) : Int) > 0 by omega), if_pos (show (0 : Int) ≤ (j : Int) by omega), if_pos (show (j : Int) < (l.length : Int) by omega)]
        rw [rd44 (show j + 1 < l.length by omega), rd44 (show j < l.length by omega), wrap_succ (by omega)]
        refine Ev.bind (Ev.const (entE_ref _)) ?_
        simp only [lstE]
        by_cases h : entE l[j+1] = 0
        · simp only [if_pos h]
          by_cases h2 : Op.bytesLess l[j].f0.toList l[j+1].f0.toList = true
          · simp only [if_pos h2]; exact ih2
          · simp only [if_neg h2]; exact Ev.const rfl
        · simp only [if_neg h]; exact Ev.const rfl
theorem chk_f (l : List S44) (hl : l.length ≤ 2513169434843) : Ev (fun k => merge_Check.f k l) (chkL l) := by
  refine Ev.congr (fun k => by rw [merge_Check.f]) ?_
  exact (chk_loop l hl l.length 0 (Nat.zero_add _)).1
theorem chk_ref (l : List S44) (hl : l.length ≤ 2513169434843) : Ev (fun k => tidelineref09_Check.f k l) (chkL l) := by
  refine Ev.congr (fun k => by rw [tidelineref09_Check.f]) ?_
  exact (chk_loop l hl l.length 0 (Nat.zero_add _)).2
/-- Of both. -/
def chk2 (a b : List S44) : Int := if chkL a = 0 then chkL b else chkL a
theorem chk2_f (a b : List S44) (ha : a.length ≤ 2513169434843) (hb : b.length ≤ 2513169434843) : Ev (fun k => merge_check.f k a b) (chk2 a b) := by
  refine Ev.congr (fun k => by rw [merge_check.f]) (Ev.bind (chk_f a ha) ?_)
  unfold chk2
  by_cases h : chkL a = 0
  · simp only [if_pos h]; exact Ev.bind (chk_f b hb) (Ev.const rfl)
  · simp only [if_neg h]; exact Ev.const rfl
theorem chk2_ref (a b : List S44) (ha : a.length ≤ 2513169434843) (hb : b.length ≤ 2513169434843) : Ev (fun k => tidelineref09_check.f k a b) (chk2 a b) := by
  refine Ev.congr (fun k => by rw [tidelineref09_check.f]) (Ev.bind (chk_ref a ha) ?_)
  unfold chk2
  by_cases h : chkL a = 0
  · simp only [if_pos h]; exact Ev.bind (chk_ref b hb) (Ev.const rfl)
  · simp only [if_neg h]; exact Ev.const rfl
end Go.Proofs.Ytghlellambnkeaa.Pure
