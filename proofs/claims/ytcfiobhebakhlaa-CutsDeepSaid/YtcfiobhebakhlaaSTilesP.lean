import Derived.Test.YtcfiobhebakhlaaPAllx0
import Derived.Test.YtcfiobhebakhlaaSEv
import Derived.Test.YtcfiobhebakhlaaSLists
import Derived.Test.YtcfiobhebakhlaaSSpanE
import Derived.Test.YtcfiobhebakhlaaSSpanR
import Derived.Test.YtcfiobhebakhlaaSEmpties
import Derived.Test.YtcfiobhebakhlaaSSplitE
import Derived.Test.YtcfiobhebakhlaaSTiles
import Derived.Test.YtcfiobhebakhlaaSStr
set_option linter.unusedVariables false
set_option linter.unusedSimpArgs false
namespace Go.Proofs.Ytcfiobhebakhlaa.Pure
open Go.RowKit Go.Proofs.Ytcfiobhebakhlaa.PAll Go.Proofs.YtcfiobhebakhlaaW.PrintWords Go.Proofs.YtcfiobhebakhlaaW.PrintLast Go.Proofs.YtcfiobhebakhlaaW.PrintMore
open Go.Proofs.Ytcfiobhebakhlaa.Str Go.Proofs.Ytcfiobhebakhlaa.Tiles
theorem rgE_zeroT (lo hi : ByteArray) (op : Bool) : decide (rgE lo hi op = 0) = (decide (lo.size ≤ 16) && (decide (hi.size ≤ 16) && (if op = true then hi.toList == [] else !(Op.bytesLess hi.toList lo.toList)))) := by
  unfold rgE
  by_cases h1 : lo.size > 16
  · have h1' : ¬ lo.size ≤ 16 := by omega
    simp [h1, h1']
  · have h1' : lo.size ≤ 16 := by omega
    by_cases h2 : hi.size > 16
    · have h2' : ¬ hi.size ≤ 16 := by omega
      simp [h2, h2']
    · have h2' : hi.size ≤ 16 := by omega
      cases op
      · cases h3 : Op.bytesLess hi.toList lo.toList <;> simp [h1', h2', h1, h2]
      · by_cases h3 : hi.toList = [] <;> simp [h1', h2', h1, h2, h3]
theorem rg0_iff {lo hi : ByteArray} {op : Bool} : rgE lo hi op = 0 ↔ lo.size ≤ 16 ∧ hi.size ≤ 16 ∧ (op = true → hi.toList = []) ∧ (op = false → Op.bytesLess hi.toList lo.toList = false) := by
  have h := rgE_zeroT lo hi op
  constructor
  · intro e
    rw [decide_eq_true e] at h
    have h := h.symm
    simp only [Bool.and_eq_true, decide_eq_true_eq] at h
    obtain ⟨h1, h2, h3⟩ := h
    refine ⟨h1, h2, fun ho => ?_, fun ho => ?_⟩
    · rw [ho] at h3; simpa using h3
    · rw [ho] at h3; simpa using h3
  · rintro ⟨h1, h2, h3, h4⟩
    have : decide (rgE lo hi op = 0) = true := by
      rw [h, decide_eq_true h1, decide_eq_true h2]
      cases op with
      | true => simp [h3 rfl]
      | false => simp [h4 rfl]
    exact of_decide_eq_true this
theorem emp_iff {lo hi : ByteArray} {op : Bool} : empK lo hi op = false ↔ rgE lo hi op = 0 ∧ (op = true ∨ Op.bytesLess lo.toList hi.toList = true) := by
  unfold empK
  rw [Bool.or_eq_false_iff, Bool.not_eq_false', decide_eq_true_eq, Bool.and_eq_false_iff]
  constructor
  · rintro ⟨h1, h2⟩
    refine ⟨h1, ?_⟩
    cases op with
    | true => exact .inl rfl
    | false =>
      right
      have h3 : ¬ lo.toList = hi.toList := by rcases h2 with h2 | h2; simp at h2; simpa using h2
      have := (rg0_iff.1 h1).2.2.2 rfl
      rcases less_false this with e | e
      · exact absurd e.symm h3
      · exact e
  · rintro ⟨h1, h2⟩
    refine ⟨h1, ?_⟩
    rcases h2 with rfl | h2
    · exact .inl rfl
    · right; simpa using less_ne h2
theorem nxt_cons (x y : S36) (l : List S36) : nxt (x :: y :: l) = (x, y) :: nxt (y :: l) := by simp [nxt]
theorem rngs_head (lo : ByteArray) (bs : List ByteArray) (hi : ByteArray) (op : Bool) : ∃ y t, rngs lo bs hi op = y :: t ∧ y.f0 = lo := by
  cases bs with
  | nil => exact ⟨_, _, rfl, rfl⟩
  | cons b r => exact ⟨_, _, rfl, rfl⟩
theorem rngs_ris (hi : ByteArray) (op : Bool) : ∀ (bs : List ByteArray) (lo : ByteArray), okB lo bs hi op = true → rgE lo hi op = 0 → (op = true ∨ Op.bytesLess lo.toList hi.toList = true) →
    (rngs lo bs hi op).all (fun r => !empK r.f0 r.f1 r.f2) = true ∧ riseB (nxt (rngs lo bs hi op)) = true ∧ fitB (nxt (rngs lo bs hi op)) = true := by
  intro bs
  induction bs with
  | nil =>
    intro lo _ h1 h2
    have := emp_iff.2 ⟨h1, h2⟩
    simp [rngs, this, nxt, riseB, fitB]
  | cons b r ih =>
    intro lo h0 h1 h2
    simp only [okB, Bool.and_eq_true, decide_eq_true_eq] at h0
    obtain ⟨hb1, hb2, hb3, hb4⟩ := h0
    obtain ⟨g1, g2, g3, g4⟩ := rg0_iff.1 h1
    have hb : op = true ∨ Op.bytesLess b.toList hi.toList = true := by simpa using hb3
    have hr : rgE b hi op = 0 := rg0_iff.2 ⟨hb1, g2, g3, fun ho => by rcases hb with hb | hb; rw [ho] at hb; cases hb; exact less_asymm hb⟩
    obtain ⟨i1, i2, i3⟩ := ih b hb4 hr hb
    obtain ⟨y, t, hy, hy0⟩ := rngs_head b r hi op
    have he : empK lo b false = false := emp_iff.2 ⟨rg0_iff.2 ⟨g1, hb1, (fun h => Bool.noConfusion h), fun _ => less_asymm hb2⟩, .inr hb2⟩
    simp only [rngs]
    rw [hy] at i1 i2 i3 ⊢
    refine ⟨?_, ?_, ?_⟩
    · rw [List.all_cons, i1]; simp [he]
    · rw [nxt_cons]; unfold riseB at i2 ⊢; rw [List.all_cons, i2]; simp [hy0, less_irrefl]
    · rw [nxt_cons]; unfold fitB at i3 ⊢; rw [List.all_cons, i3]; simp [hy0]
theorem rngs_get (hi : ByteArray) (op : Bool) : ∀ (bs : List ByteArray) (lo : ByteArray) (j : Nat), j ≤ bs.length →
    (rngs lo bs hi op)[j]? = some ⟨if j = 0 then lo else bs.getD (j - 1) ByteArray.empty, if j < bs.length then bs.getD j ByteArray.empty else hi, if j < bs.length then false else op⟩ := by
  intro bs
  induction bs with
  | nil =>
    intro lo j hj
    have : j = 0 := by simpa using hj
    subst this; rfl
  | cons b r ih =>
    intro lo j hj
    cases j with
    | zero => simp [rngs]
    | succ j =>
      simp only [rngs, List.getElem?_cons_succ]
      rw [ih b j (by simpa using hj)]
      cases j with
      | zero => simp
      | succ j => simp
theorem tilB_rngs (lo hi : ByteArray) (op : Bool) (bs : List ByteArray) (h0 : okB lo bs hi op = true) (h1 : rgE lo hi op = 0) (h2 : op = true ∨ Op.bytesLess lo.toList hi.toList = true) :
    tilB (rngs lo bs hi op) lo hi op = true ∧ risB (rngs lo bs hi op) = true := by
  obtain ⟨i1, i2, i3⟩ := rngs_ris hi op bs lo h0 h1 h2
  have hr : risB (rngs lo bs hi op) = true := by unfold risB; rw [i1, i2]; rfl
  refine ⟨?_, hr⟩
  have hl := rngs_length lo bs hi op
  have g0 := rngs_get hi op bs lo 0 (by omega)
  have g1 := rngs_get hi op bs lo bs.length (Nat.le_refl _)
  have e0 : (rd_T36 (rngs lo bs hi op) 0).f0 = lo := by
    unfold rd_T36; rw [List.getD_eq_getElem?_getD, show (0 : Int).toNat = 0 from rfl, g0]; rfl
  have e1 : (rd_T36 (rngs lo bs hi op) (((rngs lo bs hi op).length - 1 : Nat) : Int)).f1 = hi ∧ (rd_T36 (rngs lo bs hi op) (((rngs lo bs hi op).length - 1 : Nat) : Int)).f2 = op := by
    unfold rd_T36; rw [List.getD_eq_getElem?_getD, Int.toNat_natCast, hl, Nat.add_sub_cancel, g1]; simp
  unfold tilB
  rw [e0, e1.1, e1.2, hr, i3, decide_eq_true (show 0 < (rngs lo bs hi op).length by omega)]
  simp
end Go.Proofs.Ytcfiobhebakhlaa.Pure
