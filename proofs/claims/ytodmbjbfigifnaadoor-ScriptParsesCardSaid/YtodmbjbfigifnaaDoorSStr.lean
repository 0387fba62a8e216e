import Derived.WalkKit
import Derived.Laws.Strings
namespace Go.Proofs.YtodmbjbfigifnaaDoor.Str
theorem bne_nil {α : Type} [BEq α] (l : List α) : (l != []) = !l.isEmpty := by cases l <;> rfl
/-! The order of texts: one that is total, and what the walk is told of '<=', '>' and '>='. -/
theorem less_total : ∀ (x y : List UInt8), (Op.bytesLess x y || x == y) = !(Op.bytesLess y x)
  | [], [] => by simp [Op.bytesLess]
  | [], b :: y => by simp [Op.bytesLess]
  | a :: x, [] => by simp [Op.bytesLess]
  | a :: x, b :: y => by
    have ih := less_total x y
    rcases Nat.lt_trichotomy a.toNat b.toNat with h | h | h
    · have h1 : a < b := UInt8.lt_iff_toNat_lt.2 h
      have h2 : ¬ b < a := fun h' => by have := UInt8.lt_iff_toNat_lt.1 h'; omega
      have h3 : ¬ b = a := fun h' => by subst h'; omega
      simp [Op.bytesLess, h1, h2, h3]
    · have h1 : a = b := UInt8.toNat_inj.1 h
      subst h1
      have h2 : ¬ a < a := fun h' => by have := UInt8.lt_iff_toNat_lt.1 h'; omega
      simp only [Op.bytesLess, h2, decide_false, Bool.false_or, beq_self_eq_true, Bool.true_and]
      rw [← ih]
      simp
    · have h1 : b < a := UInt8.lt_iff_toNat_lt.2 h
      have h2 : ¬ a < b := fun h' => by have := UInt8.lt_iff_toNat_lt.1 h'; omega
      have h3 : ¬ a = b := fun h' => by subst h'; omega
      simp [Op.bytesLess, h1, h2, h3]
theorem gtr_less (x y : List UInt8) : (!(Op.bytesLess x y || x == y)) = Op.bytesLess y x := by rw [less_total]; simp
@[go_sem] theorem str_leq (t : TypeId) (a b : ByteArray) : binOp .leq t (.string a) (.string b) = pure (.bool (!(Op.bytesLess b.toList a.toList))) := by simp [binOp, Op.stringOp, ← less_total]
@[go_sem] theorem str_gtr (t : TypeId) (a b : ByteArray) : binOp .gtr t (.string a) (.string b) = pure (.bool (Op.bytesLess b.toList a.toList)) := by simp only [binOp, Op.stringOp, gtr_less]
@[go_sem] theorem str_geq (t : TypeId) (a b : ByteArray) : binOp .geq t (.string a) (.string b) = pure (.bool (!(Op.bytesLess a.toList b.toList))) := by simp [binOp, Op.stringOp]
theorem less_irrefl (x : List UInt8) : Op.bytesLess x x = false := by
  have := less_total x x; simp at this; exact this
theorem less_asymm {x y : List UInt8} (h : Op.bytesLess x y = true) : Op.bytesLess y x = false := by
  have := less_total x y; rw [h] at this; simpa using this.symm
theorem less_trans : ∀ {x y z : List UInt8}, Op.bytesLess x y = true → Op.bytesLess y z = true → Op.bytesLess x z = true
  | _, [], _, h, _ => by simp [Op.bytesLess] at h
  | _, _ :: _, [], _, h => by simp [Op.bytesLess] at h
  | [], _ :: _, _ :: _, _, _ => by simp [Op.bytesLess]
  | a :: x, b :: y, c :: z, h1, h2 => by
    simp only [Op.bytesLess, Bool.or_eq_true, decide_eq_true_eq, Bool.and_eq_true, beq_iff_eq] at h1 h2 ⊢
    rcases h1 with h1 | ⟨rfl, h1⟩
    · rcases h2 with h2 | ⟨rfl, h2⟩
      · exact .inl (UInt8.lt_trans h1 h2)
      · exact .inl h1
    · rcases h2 with h2 | ⟨rfl, h2⟩
      · exact .inl h2
      · exact .inr ⟨rfl, less_trans h1 h2⟩
theorem less_false {x y : List UInt8} (h : Op.bytesLess x y = false) : x = y ∨ Op.bytesLess y x = true := by
  have := less_total y x
  rw [h] at this
  simp only [Bool.not_false, Bool.or_eq_true, beq_iff_eq] at this
  rcases this with h | h
  · exact .inr h
  · exact .inl h.symm
theorem less_le_trans {x y z : List UInt8} (h1 : Op.bytesLess x y = true) (h2 : Op.bytesLess z y = false) : Op.bytesLess x z = true := by
  rcases less_false h2 with rfl | h
  · exact h1
  · exact less_trans h1 h
theorem le_less_trans {x y z : List UInt8} (h1 : Op.bytesLess y x = false) (h2 : Op.bytesLess y z = true) : Op.bytesLess x z = true := by
  rcases less_false h1 with rfl | h
  · exact h2
  · exact less_trans h h2
theorem le_trans {x y z : List UInt8} (h1 : Op.bytesLess y x = false) (h2 : Op.bytesLess z y = false) : Op.bytesLess z x = false := by
  cases h : Op.bytesLess z x with
  | false => rfl
  | true => rw [less_le_trans h h1] at h2; cases h2
theorem less_ne {x y : List UInt8} (h : Op.bytesLess x y = true) : x ≠ y := by
  rintro rfl; rw [less_irrefl] at h; cases h
end Go.Proofs.YtodmbjbfigifnaaDoor.Str
namespace Go.Proofs.YtodmbjbfigifnaaDoorW.PrintWords
open Go.Proofs.YtodmbjbfigifnaaDoor.Str
/-- The greater of two texts, as Go's max has it. -/
def mxs (a b : ByteArray) : ByteArray := if Op.bytesLess a.toList b.toList = true then b else a
@[go_sem] theorem str_max2 (x y : ByteArray) : Builtin.max2 (.string x) (.string y) = pure (.string (mxs x y)) := by
  simp only [Builtin.max2, Op.stringOp, mxs]
  cases Op.bytesLess x.toList y.toList <;> simp [asBool]
@[go_sem] theorem str_max (ats : Array TypeId) (ty : TypeId) (a b : ByteArray) : Builtin.max_ ats ty #[.string a, .string b] = pure (.string (mxs a b)) := by
  simp only [Builtin.max_, List.foldlM_cons, List.foldlM_nil, str_max2]
  simp
end Go.Proofs.YtodmbjbfigifnaaDoorW.PrintWords
