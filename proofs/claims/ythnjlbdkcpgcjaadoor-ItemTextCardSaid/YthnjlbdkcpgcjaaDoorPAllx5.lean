-- By wip/pr.py (a program of this session, over the kit's print): lines written by program. Not trusted: Lean checks them.
import Derived.Test.YthnjlbdkcpgcjaaDoorSFDig
import Derived.Test.YthnjlbdkcpgcjaaDoorPAllx0
import Derived.Test.YthnjlbdkcpgcjaaDoorPAllx3
import Derived.Test.YthnjlbdkcpgcjaaDoorPAllx4
namespace Go.Proofs.YthnjlbdkcpgcjaaDoor.PAll
open Go.RowKit Go.Proofs.YthnjlbdkcpgcjaaDoorW.PrintWords Go.Proofs.YthnjlbdkcpgcjaaDoorW.PrintLast Go.Proofs.YthnjlbdkcpgcjaaDoorW.PrintMore
attribute [local go_sem] max2_int min2_int max_two min_two max_three min_three max_four min_four   -- for this text's walks alone
set_option linter.unusedVariables false
set_option linter.unusedSimpArgs false

/-! ### tidelineref03_Print: function 6 -/
def tidelineref03_Print.f (k : Nat) (a0_0 : ByteArray) (a0_1 : Int) (a0_2 : Int) (a0_3 : ByteArray) (a0_4 : Bool) : Option (ByteArray × Int) := (tidelineref03_Check.f a0_0 a0_1 a0_2 a0_3 a0_4).bind fun t140 => (if t140 = 0 then ((tidelineref01_Hex.f k a0_0).bind fun t141 => (if 1 + t141.size ≤ 9223372036854775807 then (if ((⟨#[107]⟩ : ByteArray) ++ t141).size + 1 ≤ 9223372036854775807 then ((tidelineref01_Digits.f a0_1).bind fun t142 => (if (((⟨#[107]⟩ : ByteArray) ++ t141) ++ (⟨#[32]⟩ : ByteArray)).size + t142.size ≤ 9223372036854775807 then (if ((((⟨#[107]⟩ : ByteArray) ++ t141) ++ (⟨#[32]⟩ : ByteArray)) ++ t142).size + 1 ≤ 9223372036854775807 then ((tidelineref01_Digits.f a0_2).bind fun t143 => (if (((((⟨#[107]⟩ : ByteArray) ++ t141) ++ (⟨#[32]⟩ : ByteArray)) ++ t142) ++ (⟨#[46]⟩ : ByteArray)).size + t143.size ≤ 9223372036854775807 then (if ((((((⟨#[107]⟩ : ByteArray) ++ t141) ++ (⟨#[32]⟩ : ByteArray)) ++ t142) ++ (⟨#[46]⟩ : ByteArray)) ++ t143).size + 1 ≤ 9223372036854775807 then (if a0_4 = true then (if (((((((⟨#[107]⟩ : ByteArray) ++ t141) ++ (⟨#[32]⟩ : ByteArray)) ++ t142) ++ (⟨#[46]⟩ : ByteArray)) ++ t143) ++ (⟨#[32]⟩ : ByteArray)).size + 1 ≤ 9223372036854775807 then (some ((((((((⟨#[107]⟩ : ByteArray) ++ t141) ++ (⟨#[32]⟩ : ByteArray)) ++ t142) ++ (⟨#[46]⟩ : ByteArray)) ++ t143) ++ (⟨#[32]⟩ : ByteArray)) ++ (⟨#[120]⟩ : ByteArray), 0)) else (none)) else (if (((((((⟨#[107]⟩ : ByteArray) ++ t141) ++ (⟨#[32]⟩ : ByteArray)) ++ t142) ++ (⟨#[46]⟩ : ByteArray)) ++ t143) ++ (⟨#[32]⟩ : ByteArray)).size + 1 ≤ 9223372036854775807 then ((tidelineref01_Hex.f k a0_3).bind fun t144 => (if ((((((((⟨#[107]⟩ : ByteArray) ++ t141) ++ (⟨#[32]⟩ : ByteArray)) ++ t142) ++ (⟨#[46]⟩ : ByteArray)) ++ t143) ++ (⟨#[32]⟩ : ByteArray)) ++ (⟨#[61]⟩ : ByteArray)).size + t144.size ≤ 9223372036854775807 then (some (((((((((⟨#[107]⟩ : ByteArray) ++ t141) ++ (⟨#[32]⟩ : ByteArray)) ++ t142) ++ (⟨#[46]⟩ : ByteArray)) ++ t143) ++ (⟨#[32]⟩ : ByteArray)) ++ (⟨#[61]⟩ : ByteArray)) ++ t144, 0)) else (none))) else (none))) else (none)) else (none))) else (none)) else (none))) else (none)) else (none))) else (some ((⟨#[]⟩ : ByteArray), t140)))
theorem tidelineref03_Print.mono : ∀ a0 a1 a2 a3 a4 k, LeO (tidelineref03_Print.f k a0 a1 a2 a3 a4) (tidelineref03_Print.f (k + 1) a0 a1 a2 a3 a4) := by
  intro a0 a1 a2 a3 a4 k
  unfold tidelineref03_Print.f
  repeat' first
      | (with_reducible exact tidelineref01_Hex.mono _ _)
      | (with_reducible exact LeO.refl _)
      | (with_reducible exact LeO.none _)
      | (with_reducible refine LeO.ite ?_ ?_)
      | (with_reducible refine LeO.bind ?_ (fun _ => ?_))
      | exact tidelineref01_Hex.mono _ _
      | exact LeO.none _
      | refine LeO.ite ?_ ?_
      | refine LeO.bind ?_ (fun _ => ?_)
def tidelineref03_Print.T4 : Bool × List (List Nat × List Nat) := (true, [([], []), ([0], [0]), ([1], [1]), ([2], [2]), ([3], [3]), ([], []), ([5], [5]), ([6], [6]), ([7, 2], [7]), ([4, 8], [4, 8]), ([9], [9]), ([], []), ([11], [11]), ([12], [12]), ([13, 8], [13]), ([10, 14], [10, 14]), ([15], [15]), ([16, 14, 0, 1, 2, 3, 4, 5, 6, 7, 8, 9, 10, 11, 12, 13, 14, 15, 16], [16])])
def tidelineref03_Print.B4 : List Nat := [0, 1, 3, 7, 15, 0, 32, 96, 231, 511, 1023, 0, 2048, 6144, 14823, 32767, 65535, 131071]
theorem tidelineref03_Print.tab4 : rtab .any (opsOf Tryd.f6 4) = tidelineref03_Print.T4 := by kernel_rfl
theorem tidelineref03_Print.bits4 : waitsOk tidelineref03_Print.T4.2 tidelineref03_Print.B4 = true := by kernel_rfl
set_option maxHeartbeats 8000000 in
set_option maxRecDepth 100000 in
theorem tidelineref03_Print.calls (k : Nat) (a0_0 : ByteArray) (a0_1 : Int) (a0_2 : Int) (a0_3 : ByteArray) (a0_4 : Bool) (r1 : ByteArray) (r2 : Int) (w : World) (h : tidelineref03_Print.f k a0_0 a0_1 a0_2 a0_3 a0_4 = some (r1, r2)) :
    Calls Tryd.prog 6 #[.agg #[.string a0_0, .int .i64 a0_1, .int .i64 a0_2, .string a0_3, .bool a0_4]] w fun e w' => e = .returned (.tuple #[.string r1, .int .i64 r2]) ∧ Below w.heap.size w w' := by
  have hu25 := Tryd.underlying25
  have HB := Aside0.mk (Below.refl w.heap.size w)
  have H : ((tidelineref03_Check.f a0_0 a0_1 a0_2 a0_3 a0_4).bind fun t140 => (if t140 = 0 then ((tidelineref01_Hex.f k a0_0).bind fun t141 => (if 1 + t141.size ≤ 9223372036854775807 then (if ((⟨#[107]⟩ : ByteArray) ++ t141).size + 1 ≤ 9223372036854775807 then ((tidelineref01_Digits.f a0_1).bind fun t142 => (if (((⟨#[107]⟩ : ByteArray) ++ t141) ++ (⟨#[32]⟩ : ByteArray)).size + t142.size ≤ 9223372036854775807 then (if ((((⟨#[107]⟩ : ByteArray) ++ t141) ++ (⟨#[32]⟩ : ByteArray)) ++ t142).size + 1 ≤ 9223372036854775807 then ((tidelineref01_Digits.f a0_2).bind fun t143 => (if (((((⟨#[107]⟩ : ByteArray) ++ t141) ++ (⟨#[32]⟩ : ByteArray)) ++ t142) ++ (⟨#[46]⟩ : ByteArray)).size + t143.size ≤ 9223372036854775807 then (if ((((((⟨#[107]⟩ : ByteArray) ++ t141) ++ (⟨#[32]⟩ : ByteArray)) ++ t142) ++ (⟨#[46]⟩ : ByteArray)) ++ t143).size + 1 ≤ 9223372036854775807 then (if a0_4 = true then (if (((((((⟨#[107]⟩ : ByteArray) ++ t141) ++ (⟨#[32]⟩ : ByteArray)) ++ t142) ++ (⟨#[46]⟩ : ByteArray)) ++ t143) ++ (⟨#[32]⟩ : ByteArray)).size + 1 ≤ 9223372036854775807 then (some ((((((((⟨#[107]⟩ : ByteArray) ++ t141) ++ (⟨#[32]⟩ : ByteArray)) ++ t142) ++ (⟨#[46]⟩ : ByteArray)) ++ t143) ++ (⟨#[32]⟩ : ByteArray)) ++ (⟨#[120]⟩ : ByteArray), 0)) else (none)) else (if (((((((⟨#[107]⟩ : ByteArray) ++ t141) ++ (⟨#[32]⟩ : ByteArray)) ++ t142) ++ (⟨#[46]⟩ : ByteArray)) ++ t143) ++ (⟨#[32]⟩ : ByteArray)).size + 1 ≤ 9223372036854775807 then ((tidelineref01_Hex.f k a0_3).bind fun t144 => (if ((((((((⟨#[107]⟩ : ByteArray) ++ t141) ++ (⟨#[32]⟩ : ByteArray)) ++ t142) ++ (⟨#[46]⟩ : ByteArray)) ++ t143) ++ (⟨#[32]⟩ : ByteArray)) ++ (⟨#[61]⟩ : ByteArray)).size + t144.size ≤ 9223372036854775807 then (some (((((((((⟨#[107]⟩ : ByteArray) ++ t141) ++ (⟨#[32]⟩ : ByteArray)) ++ t142) ++ (⟨#[46]⟩ : ByteArray)) ++ t143) ++ (⟨#[32]⟩ : ByteArray)) ++ (⟨#[61]⟩ : ByteArray)) ++ t144, 0)) else (none))) else (none))) else (none)) else (none))) else (none)) else (none))) else (none)) else (none))) else (some ((⟨#[]⟩ : ByteArray), t140)))) = some (r1, r2) := h
  clear h
  replace H := Option.bind_eq_some_iff.mp H
  obtain ⟨t140, A20, H⟩ := H
  replace H : (if t140 = 0 then ((tidelineref01_Hex.f k a0_0).bind fun t141 => (if 1 + t141.size ≤ 9223372036854775807 then (if ((⟨#[107]⟩ : ByteArray) ++ t141).size + 1 ≤ 9223372036854775807 then ((tidelineref01_Digits.f a0_1).bind fun t142 => (if (((⟨#[107]⟩ : ByteArray) ++ t141) ++ (⟨#[32]⟩ : ByteArray)).size + t142.size ≤ 9223372036854775807 then (if ((((⟨#[107]⟩ : ByteArray) ++ t141) ++ (⟨#[32]⟩ : ByteArray)) ++ t142).size + 1 ≤ 9223372036854775807 then ((tidelineref01_Digits.f a0_2).bind fun t143 => (if (((((⟨#[107]⟩ : ByteArray) ++ t141) ++ (⟨#[32]⟩ : ByteArray)) ++ t142) ++ (⟨#[46]⟩ : ByteArray)).size + t143.size ≤ 9223372036854775807 then (if ((((((⟨#[107]⟩ : ByteArray) ++ t141) ++ (⟨#[32]⟩ : ByteArray)) ++ t142) ++ (⟨#[46]⟩ : ByteArray)) ++ t143).size + 1 ≤ 9223372036854775807 then (if a0_4 = true then (if (((((((⟨#[107]⟩ : ByteArray) ++ t141) ++ (⟨#[32]⟩ : ByteArray)) ++ t142) ++ (⟨#[46]⟩ : ByteArray)) ++ t143) ++ (⟨#[32]⟩ : ByteArray)).size + 1 ≤ 9223372036854775807 then (some ((((((((⟨#[107]⟩ : ByteArray) ++ t141) ++ (⟨#[32]⟩ : ByteArray)) ++ t142) ++ (⟨#[46]⟩ : ByteArray)) ++ t143) ++ (⟨#[32]⟩ : ByteArray)) ++ (⟨#[120]⟩ : ByteArray), 0)) else (none)) else (if (((((((⟨#[107]⟩ : ByteArray) ++ t141) ++ (⟨#[32]⟩ : ByteArray)) ++ t142) ++ (⟨#[46]⟩ : ByteArray)) ++ t143) ++ (⟨#[32]⟩ : ByteArray)).size + 1 ≤ 9223372036854775807 then ((tidelineref01_Hex.f k a0_3).bind fun t144 => (if ((((((((⟨#[107]⟩ : ByteArray) ++ t141) ++ (⟨#[32]⟩ : ByteArray)) ++ t142) ++ (⟨#[46]⟩ : ByteArray)) ++ t143) ++ (⟨#[32]⟩ : ByteArray)) ++ (⟨#[61]⟩ : ByteArray)).size + t144.size ≤ 9223372036854775807 then (some (((((((((⟨#[107]⟩ : ByteArray) ++ t141) ++ (⟨#[32]⟩ : ByteArray)) ++ t142) ++ (⟨#[46]⟩ : ByteArray)) ++ t143) ++ (⟨#[32]⟩ : ByteArray)) ++ (⟨#[61]⟩ : ByteArray)) ++ t144, 0)) else (none))) else (none))) else (none)) else (none))) else (none)) else (none))) else (none)) else (none))) else (some ((⟨#[]⟩ : ByteArray), t140))) = some (r1, r2) := H
  have A2 := Aside0.mk A20
  clear A20
  by_cases c3 : t140 = 0
  · rw [if_pos c3] at H
    have c3b0 : (t140 == 0) = true := beq_iff_eq.mpr c3
    have c3b1 : (t140 != 0) = false := bne_eq_false_iff_eq.mpr c3
    clear c3
    replace H := Option.bind_eq_some_iff.mp H
    obtain ⟨t141, A40, H⟩ := H
    replace H : (if 1 + t141.size ≤ 9223372036854775807 then (if ((⟨#[107]⟩ : ByteArray) ++ t141).size + 1 ≤ 9223372036854775807 then ((tidelineref01_Digits.f a0_1).bind fun t142 => (if (((⟨#[107]⟩ : ByteArray) ++ t141) ++ (⟨#[32]⟩ : ByteArray)).size + t142.size ≤ 9223372036854775807 then (if ((((⟨#[107]⟩ : ByteArray) ++ t141) ++ (⟨#[32]⟩ : ByteArray)) ++ t142).size + 1 ≤ 9223372036854775807 then ((tidelineref01_Digits.f a0_2).bind fun t143 => (if (((((⟨#[107]⟩ : ByteArray) ++ t141) ++ (⟨#[32]⟩ : ByteArray)) ++ t142) ++ (⟨#[46]⟩ : ByteArray)).size + t143.size ≤ 9223372036854775807 then (if ((((((⟨#[107]⟩ : ByteArray) ++ t141) ++ (⟨#[32]⟩ : ByteArray)) ++ t142) ++ (⟨#[46]⟩ : ByteArray)) ++ t143).size + 1 ≤ 9223372036854775807 then (if a0_4 = true then (if (((((((⟨#[107]⟩ : ByteArray) ++ t141) ++ (⟨#[32]⟩ : ByteArray)) ++ t142) ++ (⟨#[46]⟩ : ByteArray)) ++ t143) ++ (⟨#[32]⟩ : ByteArray)).size + 1 ≤ 9223372036854775807 then (some ((((((((⟨#[107]⟩ : ByteArray) ++ t141) ++ (⟨#[32]⟩ : ByteArray)) ++ t142) ++ (⟨#[46]⟩ : ByteArray)) ++ t143) ++ (⟨#[32]⟩ : ByteArray)) ++ (⟨#[120]⟩ : ByteArray), 0)) else (none)) else (if (((((((⟨#[107]⟩ : ByteArray) ++ t141) ++ (⟨#[32]⟩ : ByteArray)) ++ t142) ++ (⟨#[46]⟩ : ByteArray)) ++ t143) ++ (⟨#[32]⟩ : ByteArray)).size + 1 ≤ 9223372036854775807 then ((tidelineref01_Hex.f k a0_3).bind fun t144 => (if ((((((((⟨#[107]⟩ : ByteArray) ++ t141) ++ (⟨#[32]⟩ : ByteArray)) ++ t142) ++ (⟨#[46]⟩ : ByteArray)) ++ t143) ++ (⟨#[32]⟩ : ByteArray)) ++ (⟨#[61]⟩ : ByteArray)).size + t144.size ≤ 9223372036854775807 then (some (((((((((⟨#[107]⟩ : ByteArray) ++ t141) ++ (⟨#[32]⟩ : ByteArray)) ++ t142) ++ (⟨#[46]⟩ : ByteArray)) ++ t143) ++ (⟨#[32]⟩ : ByteArray)) ++ (⟨#[61]⟩ : ByteArray)) ++ t144, 0)) else (none))) else (none))) else (none)) else (none))) else (none)) else (none))) else (none)) else (none)) = some (r1, r2) := H
    have A4 := Aside0.mk A40
    clear A40
    by_cases c5 : 1 + t141.size ≤ 9223372036854775807
    · rw [if_pos c5] at H
      have c5b0 := eq_true c5
      have c5b1 : decide (1 + t141.size ≤ 9223372036854775807) = true := decide_eq_true c5
      try have c5b2 : (9223372036854775807 < 1 + t141.size) = False := eq_false (Nat.not_lt.2 c5)
      by_cases c6 : ((⟨#[107]⟩ : ByteArray) ++ t141).size + 1 ≤ 9223372036854775807
      · rw [if_pos c6] at H
        have c6b0 := eq_true c6
        have c6b1 : decide (((⟨#[107]⟩ : ByteArray) ++ t141).size + 1 ≤ 9223372036854775807) = true := decide_eq_true c6
        try have c6b2 : (9223372036854775807 < ((⟨#[107]⟩ : ByteArray) ++ t141).size + 1) = False := eq_false (Nat.not_lt.2 c6)
        try have c6b9 : (9223372036854775807 < 1 + t141.size + 1) = False := eq_false (by have h_ := c6; simp only [ByteArray.size_append] at h_; exact Nat.not_lt.2 h_)
        replace H := Option.bind_eq_some_iff.mp H
        obtain ⟨t142, A70, H⟩ := H
        replace H : (if (((⟨#[107]⟩ : ByteArray) ++ t141) ++ (⟨#[32]⟩ : ByteArray)).size + t142.size ≤ 9223372036854775807 then (if ((((⟨#[107]⟩ : ByteArray) ++ t141) ++ (⟨#[32]⟩ : ByteArray)) ++ t142).size + 1 ≤ 9223372036854775807 then ((tidelineref01_Digits.f a0_2).bind fun t143 => (if (((((⟨#[107]⟩ : ByteArray) ++ t141) ++ (⟨#[32]⟩ : ByteArray)) ++ t142) ++ (⟨#[46]⟩ : ByteArray)).size + t143.size ≤ 9223372036854775807 then (if ((((((⟨#[107]⟩ : ByteArray) ++ t141) ++ (⟨#[32]⟩ : ByteArray)) ++ t142) ++ (⟨#[46]⟩ : ByteArray)) ++ t143).size + 1 ≤ 9223372036854775807 then (if a0_4 = true then (if (((((((⟨#[107]⟩ : ByteArray) ++ t141) ++ (⟨#[32]⟩ : ByteArray)) ++ t142) ++ (⟨#[46]⟩ : ByteArray)) ++ t143) ++ (⟨#[32]⟩ : ByteArray)).size + 1 ≤ 9223372036854775807 then (some ((((((((⟨#[107]⟩ : ByteArray) ++ t141) ++ (⟨#[32]⟩ : ByteArray)) ++ t142) ++ (⟨#[46]⟩ : ByteArray)) ++ t143) ++ (⟨#[32]⟩ : ByteArray)) ++ (⟨#[120]⟩ : ByteArray), 0)) else (none)) else (if (((((((⟨#[107]⟩ : ByteArray) ++ t141) ++ (⟨#[32]⟩ : ByteArray)) ++ t142) ++ (⟨#[46]⟩ : ByteArray)) ++ t143) ++ (⟨#[32]⟩ : ByteArray)).size + 1 ≤ 9223372036854775807 then ((tidelineref01_Hex.f k a0_3).bind fun t144 => (if ((((((((⟨#[107]⟩ : ByteArray) ++ t141) ++ (⟨#[32]⟩ : ByteArray)) ++ t142) ++ (⟨#[46]⟩ : ByteArray)) ++ t143) ++ (⟨#[32]⟩ : ByteArray)) ++ (⟨#[61]⟩ : ByteArray)).size + t144.size ≤ 9223372036854775807 then (some (((((((((⟨#[107]⟩ : ByteArray) ++ t141) ++ (⟨#[32]⟩ : ByteArray)) ++ t142) ++ (⟨#[46]⟩ : ByteArray)) ++ t143) ++ (⟨#[32]⟩ : ByteArray)) ++ (⟨#[61]⟩ : ByteArray)) ++ t144, 0)) else (none))) else (none))) else (none)) else (none))) else (none)) else (none)) = some (r1, r2) := H
        have A7 := Aside0.mk A70
        clear A70
        by_cases c8 : (((⟨#[107]⟩ : ByteArray) ++ t141) ++ (⟨#[32]⟩ : ByteArray)).size + t142.size ≤ 9223372036854775807
        · rw [if_pos c8] at H
          have c8b0 := eq_true c8
          have c8b1 : decide ((((⟨#[107]⟩ : ByteArray) ++ t141) ++ (⟨#[32]⟩ : ByteArray)).size + t142.size ≤ 9223372036854775807) = true := decide_eq_true c8
          try have c8b2 : (9223372036854775807 < (((⟨#[107]⟩ : ByteArray) ++ t141) ++ (⟨#[32]⟩ : ByteArray)).size + t142.size) = False := eq_false (Nat.not_lt.2 c8)
          try have c8b9 : (9223372036854775807 < 1 + t141.size + 1 + t142.size) = False := eq_false (by have h_ := c8; simp only [ByteArray.size_append] at h_; exact Nat.not_lt.2 h_)
          by_cases c9 : ((((⟨#[107]⟩ : ByteArray) ++ t141) ++ (⟨#[32]⟩ : ByteArray)) ++ t142).size + 1 ≤ 9223372036854775807
          · rw [if_pos c9] at H
            have c9b0 := eq_true c9
            have c9b1 : decide (((((⟨#[107]⟩ : ByteArray) ++ t141) ++ (⟨#[32]⟩ : ByteArray)) ++ t142).size + 1 ≤ 9223372036854775807) = true := decide_eq_true c9
            try have c9b2 : (9223372036854775807 < ((((⟨#[107]⟩ : ByteArray) ++ t141) ++ (⟨#[32]⟩ : ByteArray)) ++ t142).size + 1) = False := eq_false (Nat.not_lt.2 c9)
            try have c9b9 : (9223372036854775807 < 1 + t141.size + 1 + t142.size + 1) = False := eq_false (by have h_ := c9; simp only [ByteArray.size_append] at h_; exact Nat.not_lt.2 h_)
            replace H := Option.bind_eq_some_iff.mp H
            obtain ⟨t143, A100, H⟩ := H
            replace H : (if (((((⟨#[107]⟩ : ByteArray) ++ t141) ++ (⟨#[32]⟩ : ByteArray)) ++ t142) ++ (⟨#[46]⟩ : ByteArray)).size + t143.size ≤ 9223372036854775807 then (if ((((((⟨#[107]⟩ : ByteArray) ++ t141) ++ (⟨#[32]⟩ : ByteArray)) ++ t142) ++ (⟨#[46]⟩ : ByteArray)) ++ t143).size + 1 ≤ 9223372036854775807 then (if a0_4 = true then (if (((((((⟨#[107]⟩ : ByteArray) ++ t141) ++ (⟨#[32]⟩ : ByteArray)) ++ t142) ++ (⟨#[46]⟩ : ByteArray)) ++ t143) ++ (⟨#[32]⟩ : ByteArray)).size + 1 ≤ 9223372036854775807 then (some ((((((((⟨#[107]⟩ : ByteArray) ++ t141) ++ (⟨#[32]⟩ : ByteArray)) ++ t142) ++ (⟨#[46]⟩ : ByteArray)) ++ t143) ++ (⟨#[32]⟩ : ByteArray)) ++ (⟨#[120]⟩ : ByteArray), 0)) else (none)) else (if (((((((⟨#[107]⟩ : ByteArray) ++ t141) ++ (⟨#[32]⟩ : ByteArray)) ++ t142) ++ (⟨#[46]⟩ : ByteArray)) ++ t143) ++ (⟨#[32]⟩ : ByteArray)).size + 1 ≤ 9223372036854775807 then ((tidelineref01_Hex.f k a0_3).bind fun t144 => (if ((((((((⟨#[107]⟩ : ByteArray) ++ t141) ++ (⟨#[32]⟩ : ByteArray)) ++ t142) ++ (⟨#[46]⟩ : ByteArray)) ++ t143) ++ (⟨#[32]⟩ : ByteArray)) ++ (⟨#[61]⟩ : ByteArray)).size + t144.size ≤ 9223372036854775807 then (some (((((((((⟨#[107]⟩ : ByteArray) ++ t141) ++ (⟨#[32]⟩ : ByteArray)) ++ t142) ++ (⟨#[46]⟩ : ByteArray)) ++ t143) ++ (⟨#[32]⟩ : ByteArray)) ++ (⟨#[61]⟩ : ByteArray)) ++ t144, 0)) else (none))) else (none))) else (none)) else (none)) = some (r1, r2) := H
            have A10 := Aside0.mk A100
            clear A100
            by_cases c11 : (((((⟨#[107]⟩ : ByteArray) ++ t141) ++ (⟨#[32]⟩ : ByteArray)) ++ t142) ++ (⟨#[46]⟩ : ByteArray)).size + t143.size ≤ 9223372036854775807
            · rw [if_pos c11] at H
              have c11b0 := eq_true c11
              have c11b1 : decide ((((((⟨#[107]⟩ : ByteArray) ++ t141) ++ (⟨#[32]⟩ : ByteArray)) ++ t142) ++ (⟨#[46]⟩ : ByteArray)).size + t143.size ≤ 9223372036854775807) = true := decide_eq_true c11
              try have c11b2 : (9223372036854775807 < (((((⟨#[107]⟩ : ByteArray) ++ t141) ++ (⟨#[32]⟩ : ByteArray)) ++ t142) ++ (⟨#[46]⟩ : ByteArray)).size + t143.size) = False := eq_false (Nat.not_lt.2 c11)
              try have c11b9 : (9223372036854775807 < 1 + t141.size + 1 + t142.size + 1 + t143.size) = False := eq_false (by have h_ := c11; simp only [ByteArray.size_append] at h_; exact Nat.not_lt.2 h_)
              by_cases c12 : ((((((⟨#[107]⟩ : ByteArray) ++ t141) ++ (⟨#[32]⟩ : ByteArray)) ++ t142) ++ (⟨#[46]⟩ : ByteArray)) ++ t143).size + 1 ≤ 9223372036854775807
              · rw [if_pos c12] at H
                have c12b0 := eq_true c12
                have c12b1 : decide (((((((⟨#[107]⟩ : ByteArray) ++ t141) ++ (⟨#[32]⟩ : ByteArray)) ++ t142) ++ (⟨#[46]⟩ : ByteArray)) ++ t143).size + 1 ≤ 9223372036854775807) = true := decide_eq_true c12
                try have c12b2 : (9223372036854775807 < ((((((⟨#[107]⟩ : ByteArray) ++ t141) ++ (⟨#[32]⟩ : ByteArray)) ++ t142) ++ (⟨#[46]⟩ : ByteArray)) ++ t143).size + 1) = False := eq_false (Nat.not_lt.2 c12)
                try have c12b9 : (9223372036854775807 < 1 + t141.size + 1 + t142.size + 1 + t143.size + 1) = False := eq_false (by have h_ := c12; simp only [ByteArray.size_append] at h_; exact Nat.not_lt.2 h_)
                by_cases c13 : a0_4 = true
                · subst c13
                  have H1 : (if (((((((⟨#[107]⟩ : ByteArray) ++ t141) ++ (⟨#[32]⟩ : ByteArray)) ++ t142) ++ (⟨#[46]⟩ : ByteArray)) ++ t143) ++ (⟨#[32]⟩ : ByteArray)).size + 1 ≤ 9223372036854775807 then (some ((((((((⟨#[107]⟩ : ByteArray) ++ t141) ++ (⟨#[32]⟩ : ByteArray)) ++ t142) ++ (⟨#[46]⟩ : ByteArray)) ++ t143) ++ (⟨#[32]⟩ : ByteArray)) ++ (⟨#[120]⟩ : ByteArray), 0)) else (none)) = some (r1, r2) := by rw [if_pos rfl] at H; exact H
                  clear H
                  have H := H1
                  clear H1
                  by_cases c14 : (((((((⟨#[107]⟩ : ByteArray) ++ t141) ++ (⟨#[32]⟩ : ByteArray)) ++ t142) ++ (⟨#[46]⟩ : ByteArray)) ++ t143) ++ (⟨#[32]⟩ : ByteArray)).size + 1 ≤ 9223372036854775807
                  · rw [if_pos c14] at H
                    have c14b0 := eq_true c14
                    have c14b1 : decide ((((((((⟨#[107]⟩ : ByteArray) ++ t141) ++ (⟨#[32]⟩ : ByteArray)) ++ t142) ++ (⟨#[46]⟩ : ByteArray)) ++ t143) ++ (⟨#[32]⟩ : ByteArray)).size + 1 ≤ 9223372036854775807) = true := decide_eq_true c14
                    try have c14b2 : (9223372036854775807 < (((((((⟨#[107]⟩ : ByteArray) ++ t141) ++ (⟨#[32]⟩ : ByteArray)) ++ t142) ++ (⟨#[46]⟩ : ByteArray)) ++ t143) ++ (⟨#[32]⟩ : ByteArray)).size + 1) = False := eq_false (Nat.not_lt.2 c14)
                    try have c14b9 : (9223372036854775807 < 1 + t141.size + 1 + t142.size + 1 + t143.size + 1 + 1) = False := eq_false (by have h_ := c14; simp only [ByteArray.size_append] at h_; exact Nat.not_lt.2 h_)
                    simp only [Option.some.injEq, Prod.mk.injEq] at H
                    obtain ⟨rfl, rfl⟩ := H
                    go_enter Tryd.func6, Tryd.ntmps6
                    try go_wp2_with (first | ((with_reducible refine gate_dst (N := 1) rfl ?_); refine box_event ?hg (N := 1) ?hd (cs := #[.string a0_0, .int .i64 a0_1, .int .i64 a0_2, .string a0_3, .bool true]) (t := 25) ?hr ?_; (case hd => rfl); (case hg => rfl); (case hr => first | (go_simp; done) | (go_simp; rfl)); intro gb139 hg w15 hbox hb; have n0_ := Aside0.mk (below_step (by repeat (first | (with_reducible first | exact HB.out | apply below_alloc | apply pw_below_drewN | apply below_drew1) | exact HB.out)) hb); have n1_ := Aside0.mk (hbox); have n2_ := Aside0.mk ((by rw [hg]; exact (below_size (by repeat (first | (with_reducible first | exact HB.out | apply below_alloc | apply pw_below_drewN | apply below_drew1) | exact HB.out))) : w.heap.size ≤ gb139)); have n3_ := Aside0.mk ((by rw [hg]; exact (below_size (by repeat (first | (with_reducible first | exact HB.out | apply below_alloc | apply pw_below_drewN | apply below_drew1) | exact HB.out))) : w.heap.size ≤ gb139)); clear HB; have HB := n0_; have BK139 := n1_; have GW139 := n2_; have GE139 := n3_; clear n0_ n1_ n2_ n3_; clear hb hbox hg; have hcz16_0 : w15.cell? ⟨gb139, 0, none⟩ = some (.string a0_0) := (blk_cell BK139.out 0).trans rfl; have hcz16_1 : w15.cell? ⟨gb139, 1, none⟩ = some (.int .i64 a0_1) := (blk_cell BK139.out 1).trans rfl; have hcz16_2 : w15.cell? ⟨gb139, 2, none⟩ = some (.int .i64 a0_2) := (blk_cell BK139.out 2).trans rfl; have hcz16_3 : w15.cell? ⟨gb139, 3, none⟩ = some (.string a0_3) := (blk_cell BK139.out 3).trans rfl; have hcz16_4 : w15.cell? ⟨gb139, 4, none⟩ = some (.bool true) := (blk_cell BK139.out 4).trans rfl; have hfz16_0 := blk_frozen BK139.out 0; have hfz16_1 := blk_frozen BK139.out 1; have hfz16_2 := blk_frozen BK139.out 2; have hfz16_3 := blk_frozen BK139.out 3; have hfz16_4 := blk_frozen BK139.out 4) | ((with_reducible refine gate_callee (f := 12) rfl ?_); refine goesL_ (some 7) rfl rfl Tryd.func12 (by kernel_rfl) rfl #[.agg #[.string a0_0, .int .i64 a0_1, .int .i64 a0_2, .string a0_3, .bool true]] rfl (by (try simp only [List.map_toArray, List.map_cons, List.map_nil]); first | done | rfl | (simp only [List.length_drop, List.length_take]; rfl)) ?_; (with_reducible refine (tidelineref03_Check.calls a0_0 a0_1 a0_2 a0_3 true t140 _ A2.out).mono ?_); rintro e w17 ⟨rfl, hb⟩; refine ⟨_, rfl, ?_⟩; have n0_ := Aside0.mk (blk_below (g := gb139) (o := .cells #[.string a0_0, .int .i64 a0_1, .int .i64 a0_2, .string a0_3, .bool true] 25 (0, 0)) (by (with_reducible repeat (first | refine blk_drewN ?_ _ | refine blk_drew ?_ | refine blk_alloc ?_ _)); exact BK139.out) hb); have n1_ := Aside0.mk (below_step (by repeat (first | (with_reducible first | exact HB.out | apply below_alloc | apply pw_below_drewN | apply below_drew1 | refine below_set ?_ GE139.out) | exact HB.out)) hb); clear BK139; clear HB; have BK139 := n0_; have HB := n1_; clear n0_ n1_; (try clear hb); (try clear hb2); (try clear hk); (try clear hi)))
                    have n0_ := Aside0.mk (blk_drew BK139.out)
                    have n1_ := Aside0.mk (below_drew1 HB.out)
                    clear BK139
                    clear HB
                    have BK139 := n0_
                    have HB := n1_
                    clear n0_ n1_
                    refine start_ (n := 18) (S := fun w' => w'.cell? ⟨gb139, 0, none⟩ = some (.string a0_0) ∧ w'.cell? ⟨gb139, 1, none⟩ = some (.int .i64 a0_1) ∧ w'.cell? ⟨gb139, 2, none⟩ = some (.int .i64 a0_2) ∧ w'.cell? ⟨gb139, 3, none⟩ = some (.string a0_3) ∧ w'.cell? ⟨gb139, 4, none⟩ = some (.bool true)) (ds := []) #[false, false, false, false, false, false, false, false, false, false, false, false, false, false, false, false, false, false] (by kernel_rfl) rfl rfl ⟨(blk_cell BK139.out 0).trans rfl, (blk_cell BK139.out 1).trans rfl, (blk_cell BK139.out 2).trans rfl, (blk_cell BK139.out 3).trans rfl, (blk_cell BK139.out 4).trans rfl⟩ (fun hHeld => ?_); refine with_tabW tidelineref03_Print.tab4 tidelineref03_Print.bits4 (fun HT_ HW_ => ?_)
                    generalize w17.drew = w18 at BK139 HB hHeld ⊢
                    refine pure_ (i := 0) (N := some 11) (v := ?_) (a' := ?_) #[true, false, false, false, false, false, false, false, false, false, false, false, false, false, false, false, false, false] rfl rfl (any_of HT_.out (by kernel_rfl)) (fun _ _ _ h => h) (Or.inl ⟨by rfl, ?_⟩) ?_ ?_
                    rotate_left
                    · intro w'
                      go_simp
                      with_reducible rfl
                    rotate_left
                    · simp only [Act.put, List.setIfInBounds_toArray, List.set_cons_zero, List.set_cons_succ, i64_w, i32_w]
                      rfl
                    refine pure_ (i := 5) (N := some 16) (v := ?_) (a' := ?_) #[true, false, false, false, false, true, false, false, false, false, false, false, false, false, false, false, false, false] rfl rfl (any_of HT_.out (by kernel_rfl)) (fun _ _ _ h => h) (Or.inl ⟨by rfl, ?_⟩) ?_ ?_
                    rotate_left
                    · intro w'
                      go_simp
                      with_reducible rfl
                    rotate_left
                    · simp only [Act.put, List.setIfInBounds_toArray, List.set_cons_zero, List.set_cons_succ, i64_w, i32_w]
                      rfl
                    refine pure_ (i := 6) (N := some 17) (v := ?_) (a' := ?_) #[true, false, false, false, false, true, true, false, false, false, false, false, false, false, false, false, false, false] rfl rfl (any_of HT_.out (by kernel_rfl)) (fun _ _ _ h => h) (Or.inl ⟨by rfl, ?_⟩) ?_ ?_
                    rotate_left
                    · intro w'
                      go_simp
                      with_reducible rfl
                    rotate_left
                    · simp only [Act.put, List.setIfInBounds_toArray, List.set_cons_zero, List.set_cons_succ, i64_w, i32_w]
                      rfl
                    refine pure_ (i := 11) (N := some 22) (v := ?_) (a' := ?_) #[true, false, false, false, false, true, true, false, false, false, false, true, false, false, false, false, false, false] rfl rfl (any_of HT_.out (by kernel_rfl)) (fun _ _ _ h => h) (Or.inl ⟨by rfl, ?_⟩) ?_ ?_
                    rotate_left
                    · intro w'
                      go_simp
                      with_reducible rfl
                    rotate_left
                    · simp only [Act.put, List.setIfInBounds_toArray, List.set_cons_zero, List.set_cons_succ, i64_w, i32_w]
                      rfl
                    refine pure_ (i := 12) (N := some 23) (v := ?_) (a' := ?_) #[true, false, false, false, false, true, true, false, false, false, false, true, true, false, false, false, false, false] rfl rfl (any_of HT_.out (by kernel_rfl)) (fun _ _ _ h => h) (Or.inl ⟨by rfl, ?_⟩) ?_ ?_
                    rotate_left
                    · intro w'
                      go_simp
                      with_reducible rfl
                    rotate_left
                    · simp only [Act.put, List.setIfInBounds_toArray, List.set_cons_zero, List.set_cons_succ, i64_w, i32_w]
                      rfl
                    refine take_ (i := 1) (N := some 12) (v := ?_) (a' := ?_) #[true, true, false, false, false, true, true, false, false, false, false, true, true, false, false, false, false, false] rfl rfl (take_ofW HT_.out HW_.out (by kernel_rfl)) (fun _ _ _ h => h) (Or.inl ⟨by rfl, ?_⟩) hHeld ?_ ?_
                    rotate_left
                    · rintro w' ⟨s0, s1, s2, s3, s4⟩
                      go_simp
                      with_reducible rfl
                    rotate_left
                    · simp only [Act.put, List.setIfInBounds_toArray, List.set_cons_zero, List.set_cons_succ, i64_w, i32_w]
                      rfl
                    refine take_ (i := 7) (N := some 18) (v := ?_) (a' := ?_) #[true, true, false, false, false, true, true, true, false, false, false, true, true, false, false, false, false, false] rfl rfl (take_ofW HT_.out HW_.out (by kernel_rfl)) (fun _ _ _ h => h) (Or.inl ⟨by rfl, ?_⟩) hHeld ?_ ?_
                    rotate_left
                    · rintro w' ⟨s0, s1, s2, s3, s4⟩
                      go_simp
                      with_reducible rfl
                    rotate_left
                    · simp only [Act.put, List.setIfInBounds_toArray, List.set_cons_zero, List.set_cons_succ, i64_w, i32_w]
                      rfl
                    refine take_ (i := 13) (N := some 24) (v := ?_) (a' := ?_) #[true, true, false, false, false, true, true, true, false, false, false, true, true, true, false, false, false, false] rfl rfl (take_ofW HT_.out HW_.out (by kernel_rfl)) (fun _ _ _ h => h) (Or.inl ⟨by rfl, ?_⟩) hHeld ?_ ?_
                    rotate_left
                    · rintro w' ⟨s0, s1, s2, s3, s4⟩
                      go_simp
                      with_reducible rfl
                    rotate_left
                    · simp only [Act.put, List.setIfInBounds_toArray, List.set_cons_zero, List.set_cons_succ, i64_w, i32_w]
                      rfl
                    refine one_ (i := 2) (N := some 13) #[true, true, true, false, false, true, true, true, false, false, false, true, true, true, false, false, false, false] rfl rfl (one_of HT_.out (by kernel_rfl)) (by decide) (fun K hK => ?_)
                    refine goes_ Tryd.func13 (by kernel_rfl) rfl #[.string a0_0] (by rfl) rfl rfl (by (try simp only [List.map_toArray, List.map_cons, List.map_nil]); first | done | rfl | (simp only [List.length_drop, List.length_take]; rfl)) ?_
                    with_reducible refine (tidelineref01_Hex.calls k a0_0 t141 _ A4.out).mono ?_
                    rintro e w19 ⟨rfl, hb⟩
                    refine ⟨_, rfl, ?_⟩
                    have n0_ := Aside0.mk (blk_below (g := gb139) (o := .cells #[.string a0_0, .int .i64 a0_1, .int .i64 a0_2, .string a0_3, .bool true] 25 (0, 0)) (by (with_reducible repeat (first | refine blk_drewN ?_ _ | refine blk_drew ?_ | refine blk_alloc ?_ _)); exact BK139.out) hb)
                    have n1_ := Aside0.mk (below_step (by repeat (first | (with_reducible first | exact HB.out | apply below_alloc | apply pw_below_drewN | apply below_drew1 | refine below_set ?_ GE139.out) | exact HB.out)) hb)
                    clear BK139
                    clear HB
                    have BK139 := n0_
                    have HB := n1_
                    clear n0_ n1_
                    (try clear hb)
                    (try clear hb2)
                    (try clear hk)
                    (try clear hi)
                    refine hK.out _ _ ⟨(blk_cell BK139.out 0).trans rfl, (blk_cell BK139.out 1).trans rfl, (blk_cell BK139.out 2).trans rfl, (blk_cell BK139.out 3).trans rfl, (blk_cell BK139.out 4).trans rfl⟩ (fun hHeld => ?_)
                    clear hK K
                    refine norm_ (a' := ?_) ?_ ?_
                    rotate_left
                    · show Act.put _ (some 13) _ = _
                      simp only [Act.put, List.setIfInBounds_toArray, List.set_cons_zero, List.set_cons_succ, i64_w, i32_w]
                      rfl
                    refine pure_ (i := 3) (N := some 14) (v := ?_) (a' := ?_) #[true, true, true, true, false, true, true, true, false, false, false, true, true, true, false, false, false, false] rfl rfl (any_of HT_.out (by kernel_rfl)) (fun _ _ _ h => h) (Or.inl ⟨by rfl, ?_⟩) ?_ ?_
                    rotate_left
                    · intro w'
                      go_simp
                      with_reducible rfl
                    rotate_left
                    · simp only [Act.put, List.setIfInBounds_toArray, List.set_cons_zero, List.set_cons_succ, i64_w, i32_w]
                      rfl
                    refine pure_ (i := 4) (N := some 15) (v := ?_) (a' := ?_) #[true, true, true, true, true, true, true, true, false, false, false, true, true, true, false, false, false, false] rfl rfl (any_of HT_.out (by kernel_rfl)) (fun _ _ _ h => h) (Or.inl ⟨by rfl, ?_⟩) ?_ ?_
                    rotate_left
                    · intro w'
                      go_simp
                      with_reducible rfl
                    rotate_left
                    · simp only [Act.put, List.setIfInBounds_toArray, List.set_cons_zero, List.set_cons_succ, i64_w, i32_w]
                      rfl
                    refine one_ (i := 8) (N := some 19) #[true, true, true, true, true, true, true, true, true, false, false, true, true, true, false, false, false, false] rfl rfl (one_of HT_.out (by kernel_rfl)) (by decide) (fun K hK => ?_)
                    refine goes_ Tryd.func14 (by kernel_rfl) rfl #[.int .i64 a0_1] (by rfl) rfl rfl (by (try simp only [List.map_toArray, List.map_cons, List.map_nil]); first | done | rfl | (simp only [List.length_drop, List.length_take]; rfl)) ?_
                    with_reducible refine (tidelineref01_Digits.calls a0_1 t142 _ A7.out).mono ?_
                    rintro e w20 ⟨rfl, hb⟩
                    refine ⟨_, rfl, ?_⟩
                    have n0_ := Aside0.mk (blk_below (g := gb139) (o := .cells #[.string a0_0, .int .i64 a0_1, .int .i64 a0_2, .string a0_3, .bool true] 25 (0, 0)) (by (with_reducible repeat (first | refine blk_drewN ?_ _ | refine blk_drew ?_ | refine blk_alloc ?_ _)); exact BK139.out) hb)
                    have n1_ := Aside0.mk (below_step (by repeat (first | (with_reducible first | exact HB.out | apply below_alloc | apply pw_below_drewN | apply below_drew1 | refine below_set ?_ GE139.out) | exact HB.out)) hb)
                    clear BK139
                    clear HB
                    have BK139 := n0_
                    have HB := n1_
                    clear n0_ n1_
                    (try clear hb)
                    (try clear hb2)
                    (try clear hk)
                    (try clear hi)
                    refine hK.out _ _ ⟨(blk_cell BK139.out 0).trans rfl, (blk_cell BK139.out 1).trans rfl, (blk_cell BK139.out 2).trans rfl, (blk_cell BK139.out 3).trans rfl, (blk_cell BK139.out 4).trans rfl⟩ (fun hHeld => ?_)
                    clear hK K
                    refine norm_ (a' := ?_) ?_ ?_
                    rotate_left
                    · show Act.put _ (some 19) _ = _
                      simp only [Act.put, List.setIfInBounds_toArray, List.set_cons_zero, List.set_cons_succ, i64_w, i32_w]
                      rfl
                    refine pure_ (i := 9) (N := some 20) (v := ?_) (a' := ?_) #[true, true, true, true, true, true, true, true, true, true, false, true, true, true, false, false, false, false] rfl rfl (any_of HT_.out (by kernel_rfl)) (fun _ _ _ h => h) (Or.inl ⟨by rfl, ?_⟩) ?_ ?_
                    rotate_left
                    · intro w'
                      go_simp
                      with_reducible rfl
                    rotate_left
                    · simp only [Act.put, List.setIfInBounds_toArray, List.set_cons_zero, List.set_cons_succ, i64_w, i32_w]
                      rfl
                    refine pure_ (i := 10) (N := some 21) (v := ?_) (a' := ?_) #[true, true, true, true, true, true, true, true, true, true, true, true, true, true, false, false, false, false] rfl rfl (any_of HT_.out (by kernel_rfl)) (fun _ _ _ h => h) (Or.inl ⟨by rfl, ?_⟩) ?_ ?_
                    rotate_left
                    · intro w'
                      go_simp
                      with_reducible rfl
                    rotate_left
                    · simp only [Act.put, List.setIfInBounds_toArray, List.set_cons_zero, List.set_cons_succ, i64_w, i32_w]
                      rfl
                    refine one_ (i := 14) (N := some 25) #[true, true, true, true, true, true, true, true, true, true, true, true, true, true, true, false, false, false] rfl rfl (one_of HT_.out (by kernel_rfl)) (by decide) (fun K hK => ?_)
                    refine goes_ Tryd.func14 (by kernel_rfl) rfl #[.int .i64 a0_2] (by rfl) rfl rfl (by (try simp only [List.map_toArray, List.map_cons, List.map_nil]); first | done | rfl | (simp only [List.length_drop, List.length_take]; rfl)) ?_
                    with_reducible refine (tidelineref01_Digits.calls a0_2 t143 _ A10.out).mono ?_
                    rintro e w21 ⟨rfl, hb⟩
                    refine ⟨_, rfl, ?_⟩
                    have n0_ := Aside0.mk (blk_below (g := gb139) (o := .cells #[.string a0_0, .int .i64 a0_1, .int .i64 a0_2, .string a0_3, .bool true] 25 (0, 0)) (by (with_reducible repeat (first | refine blk_drewN ?_ _ | refine blk_drew ?_ | refine blk_alloc ?_ _)); exact BK139.out) hb)
                    have n1_ := Aside0.mk (below_step (by repeat (first | (with_reducible first | exact HB.out | apply below_alloc | apply pw_below_drewN | apply below_drew1 | refine below_set ?_ GE139.out) | exact HB.out)) hb)
                    clear BK139
                    clear HB
                    have BK139 := n0_
                    have HB := n1_
                    clear n0_ n1_
                    (try clear hb)
                    (try clear hb2)
                    (try clear hk)
                    (try clear hi)
                    refine hK.out _ _ ⟨(blk_cell BK139.out 0).trans rfl, (blk_cell BK139.out 1).trans rfl, (blk_cell BK139.out 2).trans rfl, (blk_cell BK139.out 3).trans rfl, (blk_cell BK139.out 4).trans rfl⟩ (fun hHeld => ?_)
                    clear hK K
                    refine norm_ (a' := ?_) ?_ ?_
                    rotate_left
                    · show Act.put _ (some 25) _ = _
                      simp only [Act.put, List.setIfInBounds_toArray, List.set_cons_zero, List.set_cons_succ, i64_w, i32_w]
                      rfl
                    refine pure_ (i := 15) (N := some 26) (v := ?_) (a' := ?_) #[true, true, true, true, true, true, true, true, true, true, true, true, true, true, true, true, false, false] rfl rfl (any_of HT_.out (by kernel_rfl)) (fun _ _ _ h => h) (Or.inl ⟨by rfl, ?_⟩) ?_ ?_
                    rotate_left
                    · intro w'
                      go_simp
                      with_reducible rfl
                    rotate_left
                    · simp only [Act.put, List.setIfInBounds_toArray, List.set_cons_zero, List.set_cons_succ, i64_w, i32_w]
                      rfl
                    refine pure_ (i := 16) (N := some 27) (v := ?_) (a' := ?_) #[true, true, true, true, true, true, true, true, true, true, true, true, true, true, true, true, true, false] rfl rfl (any_of HT_.out (by kernel_rfl)) (fun _ _ _ h => h) (Or.inl ⟨by rfl, ?_⟩) ?_ ?_
                    rotate_left
                    · intro w'
                      go_simp
                      with_reducible rfl
                    rotate_left
                    · simp only [Act.put, List.setIfInBounds_toArray, List.set_cons_zero, List.set_cons_succ, i64_w, i32_w]
                      rfl
                    refine pure_ (i := 17) (N := some 5) (v := ?_) (a' := ?_) #[true, true, true, true, true, true, true, true, true, true, true, true, true, true, true, true, true, true] rfl rfl (any_of HT_.out (by kernel_rfl)) (fun _ _ _ h => h) (Or.inl ⟨by rfl, ?_⟩) ?_ ?_
                    rotate_left
                    · intro w'
                      go_simp
                      with_reducible rfl
                    rotate_left
                    · simp only [Act.put, List.setIfInBounds_toArray, List.set_cons_zero, List.set_cons_succ, i64_w, i32_w]
                      rfl
                    refine done_ (done_of HT_.out (by kernel_rfl)) ?_
                    have hcz22_0 : w21.cell? ⟨gb139, 0, none⟩ = some (.string a0_0) := (blk_cell BK139.out 0).trans rfl
                    have hcz22_1 : w21.cell? ⟨gb139, 1, none⟩ = some (.int .i64 a0_1) := (blk_cell BK139.out 1).trans rfl
                    have hcz22_2 : w21.cell? ⟨gb139, 2, none⟩ = some (.int .i64 a0_2) := (blk_cell BK139.out 2).trans rfl
                    have hcz22_3 : w21.cell? ⟨gb139, 3, none⟩ = some (.string a0_3) := (blk_cell BK139.out 3).trans rfl
                    have hcz22_4 : w21.cell? ⟨gb139, 4, none⟩ = some (.bool true) := (blk_cell BK139.out 4).trans rfl
                    have hfz22_0 := blk_frozen BK139.out 0
                    have hfz22_1 := blk_frozen BK139.out 1
                    have hfz22_2 := blk_frozen BK139.out 2
                    have hfz22_3 := blk_frozen BK139.out 3
                    have hfz22_4 := blk_frozen BK139.out 4
                    try go_wp2
                    go_ret2
                    exact ⟨by first | rfl | (simp [errW_none, errW_some] <;> rfl) | (simp [*, errW_none, errW_some] <;> rfl), by repeat (first | (with_reducible first | exact HB.out | apply below_alloc | apply pw_below_drewN | apply below_drew1 | refine below_set ?_ GE139.out) | exact HB.out)⟩
                  · rw [if_neg c14] at H
                    exact absurd H (by simp)
                · replace c13 := Bool.eq_false_iff.mpr c13
                  subst c13
                  have H1 : (if (((((((⟨#[107]⟩ : ByteArray) ++ t141) ++ (⟨#[32]⟩ : ByteArray)) ++ t142) ++ (⟨#[46]⟩ : ByteArray)) ++ t143) ++ (⟨#[32]⟩ : ByteArray)).size + 1 ≤ 9223372036854775807 then ((tidelineref01_Hex.f k a0_3).bind fun t144 => (if ((((((((⟨#[107]⟩ : ByteArray) ++ t141) ++ (⟨#[32]⟩ : ByteArray)) ++ t142) ++ (⟨#[46]⟩ : ByteArray)) ++ t143) ++ (⟨#[32]⟩ : ByteArray)) ++ (⟨#[61]⟩ : ByteArray)).size + t144.size ≤ 9223372036854775807 then (some (((((((((⟨#[107]⟩ : ByteArray) ++ t141) ++ (⟨#[32]⟩ : ByteArray)) ++ t142) ++ (⟨#[46]⟩ : ByteArray)) ++ t143) ++ (⟨#[32]⟩ : ByteArray)) ++ (⟨#[61]⟩ : ByteArray)) ++ t144, 0)) else (none))) else (none)) = some (r1, r2) := by rw [if_neg (show ¬ (false = true) by decide)] at H; exact H
                  clear H
                  have H := H1
                  clear H1
                  by_cases c23 : (((((((⟨#[107]⟩ : ByteArray) ++ t141) ++ (⟨#[32]⟩ : ByteArray)) ++ t142) ++ (⟨#[46]⟩ : ByteArray)) ++ t143) ++ (⟨#[32]⟩ : ByteArray)).size + 1 ≤ 9223372036854775807
                  · rw [if_pos c23] at H
                    have c23b0 := eq_true c23
                    have c23b1 : decide ((((((((⟨#[107]⟩ : ByteArray) ++ t141) ++ (⟨#[32]⟩ : ByteArray)) ++ t142) ++ (⟨#[46]⟩ : ByteArray)) ++ t143) ++ (⟨#[32]⟩ : ByteArray)).size + 1 ≤ 9223372036854775807) = true := decide_eq_true c23
                    try have c23b2 : (9223372036854775807 < (((((((⟨#[107]⟩ : ByteArray) ++ t141) ++ (⟨#[32]⟩ : ByteArray)) ++ t142) ++ (⟨#[46]⟩ : ByteArray)) ++ t143) ++ (⟨#[32]⟩ : ByteArray)).size + 1) = False := eq_false (Nat.not_lt.2 c23)
                    try have c23b9 : (9223372036854775807 < 1 + t141.size + 1 + t142.size + 1 + t143.size + 1 + 1) = False := eq_false (by have h_ := c23; simp only [ByteArray.size_append] at h_; exact Nat.not_lt.2 h_)
                    replace H := Option.bind_eq_some_iff.mp H
                    obtain ⟨t144, A240, H⟩ := H
                    replace H : (if ((((((((⟨#[107]⟩ : ByteArray) ++ t141) ++ (⟨#[32]⟩ : ByteArray)) ++ t142) ++ (⟨#[46]⟩ : ByteArray)) ++ t143) ++ (⟨#[32]⟩ : ByteArray)) ++ (⟨#[61]⟩ : ByteArray)).size + t144.size ≤ 9223372036854775807 then (some (((((((((⟨#[107]⟩ : ByteArray) ++ t141) ++ (⟨#[32]⟩ : ByteArray)) ++ t142) ++ (⟨#[46]⟩ : ByteArray)) ++ t143) ++ (⟨#[32]⟩ : ByteArray)) ++ (⟨#[61]⟩ : ByteArray)) ++ t144, 0)) else (none)) = some (r1, r2) := H
                    have A24 := Aside0.mk A240
                    clear A240
                    by_cases c25 : ((((((((⟨#[107]⟩ : ByteArray) ++ t141) ++ (⟨#[32]⟩ : ByteArray)) ++ t142) ++ (⟨#[46]⟩ : ByteArray)) ++ t143) ++ (⟨#[32]⟩ : ByteArray)) ++ (⟨#[61]⟩ : ByteArray)).size + t144.size ≤ 9223372036854775807
                    · rw [if_pos c25] at H
                      have c25b0 := eq_true c25
                      have c25b1 : decide (((((((((⟨#[107]⟩ : ByteArray) ++ t141) ++ (⟨#[32]⟩ : ByteArray)) ++ t142) ++ (⟨#[46]⟩ : ByteArray)) ++ t143) ++ (⟨#[32]⟩ : ByteArray)) ++ (⟨#[61]⟩ : ByteArray)).size + t144.size ≤ 9223372036854775807) = true := decide_eq_true c25
                      try have c25b2 : (9223372036854775807 < ((((((((⟨#[107]⟩ : ByteArray) ++ t141) ++ (⟨#[32]⟩ : ByteArray)) ++ t142) ++ (⟨#[46]⟩ : ByteArray)) ++ t143) ++ (⟨#[32]⟩ : ByteArray)) ++ (⟨#[61]⟩ : ByteArray)).size + t144.size) = False := eq_false (Nat.not_lt.2 c25)
                      try have c25b9 : (9223372036854775807 < 1 + t141.size + 1 + t142.size + 1 + t143.size + 1 + 1 + t144.size) = False := eq_false (by have h_ := c25; simp only [ByteArray.size_append] at h_; exact Nat.not_lt.2 h_)
                      simp only [Option.some.injEq, Prod.mk.injEq] at H
                      obtain ⟨rfl, rfl⟩ := H
                      go_enter Tryd.func6, Tryd.ntmps6
                      try go_wp2_with (first | ((with_reducible refine gate_dst (N := 1) rfl ?_); refine box_event ?hg (N := 1) ?hd (cs := #[.string a0_0, .int .i64 a0_1, .int .i64 a0_2, .string a0_3, .bool false]) (t := 25) ?hr ?_; (case hd => rfl); (case hg => rfl); (case hr => first | (go_simp; done) | (go_simp; rfl)); intro gb139 hg w26 hbox hb; have n0_ := Aside0.mk (below_step (by repeat (first | (with_reducible first | exact HB.out | apply below_alloc | apply pw_below_drewN | apply below_drew1) | exact HB.out)) hb); have n1_ := Aside0.mk (hbox); have n2_ := Aside0.mk ((by rw [hg]; exact (below_size (by repeat (first | (with_reducible first | exact HB.out | apply below_alloc | apply pw_below_drewN | apply below_drew1) | exact HB.out))) : w.heap.size ≤ gb139)); have n3_ := Aside0.mk ((by rw [hg]; exact (below_size (by repeat (first | (with_reducible first | exact HB.out | apply below_alloc | apply pw_below_drewN | apply below_drew1) | exact HB.out))) : w.heap.size ≤ gb139)); clear HB; have HB := n0_; have BK139 := n1_; have GW139 := n2_; have GE139 := n3_; clear n0_ n1_ n2_ n3_; clear hb hbox hg; have hcz27_0 : w26.cell? ⟨gb139, 0, none⟩ = some (.string a0_0) := (blk_cell BK139.out 0).trans rfl; have hcz27_1 : w26.cell? ⟨gb139, 1, none⟩ = some (.int .i64 a0_1) := (blk_cell BK139.out 1).trans rfl; have hcz27_2 : w26.cell? ⟨gb139, 2, none⟩ = some (.int .i64 a0_2) := (blk_cell BK139.out 2).trans rfl; have hcz27_3 : w26.cell? ⟨gb139, 3, none⟩ = some (.string a0_3) := (blk_cell BK139.out 3).trans rfl; have hcz27_4 : w26.cell? ⟨gb139, 4, none⟩ = some (.bool false) := (blk_cell BK139.out 4).trans rfl; have hfz27_0 := blk_frozen BK139.out 0; have hfz27_1 := blk_frozen BK139.out 1; have hfz27_2 := blk_frozen BK139.out 2; have hfz27_3 := blk_frozen BK139.out 3; have hfz27_4 := blk_frozen BK139.out 4) | ((with_reducible refine gate_callee (f := 12) rfl ?_); refine goesL_ (some 7) rfl rfl Tryd.func12 (by kernel_rfl) rfl #[.agg #[.string a0_0, .int .i64 a0_1, .int .i64 a0_2, .string a0_3, .bool false]] rfl (by (try simp only [List.map_toArray, List.map_cons, List.map_nil]); first | done | rfl | (simp only [List.length_drop, List.length_take]; rfl)) ?_; (with_reducible refine (tidelineref03_Check.calls a0_0 a0_1 a0_2 a0_3 false t140 _ A2.out).mono ?_); rintro e w28 ⟨rfl, hb⟩; refine ⟨_, rfl, ?_⟩; have n0_ := Aside0.mk (blk_below (g := gb139) (o := .cells #[.string a0_0, .int .i64 a0_1, .int .i64 a0_2, .string a0_3, .bool false] 25 (0, 0)) (by (with_reducible repeat (first | refine blk_drewN ?_ _ | refine blk_drew ?_ | refine blk_alloc ?_ _)); exact BK139.out) hb); have n1_ := Aside0.mk (below_step (by repeat (first | (with_reducible first | exact HB.out | apply below_alloc | apply pw_below_drewN | apply below_drew1 | refine below_set ?_ GE139.out) | exact HB.out)) hb); clear BK139; clear HB; have BK139 := n0_; have HB := n1_; clear n0_ n1_; (try clear hb); (try clear hb2); (try clear hk); (try clear hi)))
                      have n0_ := Aside0.mk (blk_drew BK139.out)
                      have n1_ := Aside0.mk (below_drew1 HB.out)
                      clear BK139
                      clear HB
                      have BK139 := n0_
                      have HB := n1_
                      clear n0_ n1_
                      refine start_ (n := 18) (S := fun w' => w'.cell? ⟨gb139, 0, none⟩ = some (.string a0_0) ∧ w'.cell? ⟨gb139, 1, none⟩ = some (.int .i64 a0_1) ∧ w'.cell? ⟨gb139, 2, none⟩ = some (.int .i64 a0_2) ∧ w'.cell? ⟨gb139, 3, none⟩ = some (.string a0_3) ∧ w'.cell? ⟨gb139, 4, none⟩ = some (.bool false)) (ds := []) #[false, false, false, false, false, false, false, false, false, false, false, false, false, false, false, false, false, false] (by kernel_rfl) rfl rfl ⟨(blk_cell BK139.out 0).trans rfl, (blk_cell BK139.out 1).trans rfl, (blk_cell BK139.out 2).trans rfl, (blk_cell BK139.out 3).trans rfl, (blk_cell BK139.out 4).trans rfl⟩ (fun hHeld => ?_); refine with_tabW tidelineref03_Print.tab4 tidelineref03_Print.bits4 (fun HT_ HW_ => ?_)
                      generalize w28.drew = w29 at BK139 HB hHeld ⊢
                      refine pure_ (i := 0) (N := some 11) (v := ?_) (a' := ?_) #[true, false, false, false, false, false, false, false, false, false, false, false, false, false, false, false, false, false] rfl rfl (any_of HT_.out (by kernel_rfl)) (fun _ _ _ h => h) (Or.inl ⟨by rfl, ?_⟩) ?_ ?_
                      rotate_left
                      · intro w'
                        go_simp
                        with_reducible rfl
                      rotate_left
                      · simp only [Act.put, List.setIfInBounds_toArray, List.set_cons_zero, List.set_cons_succ, i64_w, i32_w]
                        rfl
                      refine pure_ (i := 5) (N := some 16) (v := ?_) (a' := ?_) #[true, false, false, false, false, true, false, false, false, false, false, false, false, false, false, false, false, false] rfl rfl (any_of HT_.out (by kernel_rfl)) (fun _ _ _ h => h) (Or.inl ⟨by rfl, ?_⟩) ?_ ?_
                      rotate_left
                      · intro w'
                        go_simp
                        with_reducible rfl
                      rotate_left
                      · simp only [Act.put, List.setIfInBounds_toArray, List.set_cons_zero, List.set_cons_succ, i64_w, i32_w]
                        rfl
                      refine pure_ (i := 6) (N := some 17) (v := ?_) (a' := ?_) #[true, false, false, false, false, true, true, false, false, false, false, false, false, false, false, false, false, false] rfl rfl (any_of HT_.out (by kernel_rfl)) (fun _ _ _ h => h) (Or.inl ⟨by rfl, ?_⟩) ?_ ?_
                      rotate_left
                      · intro w'
                        go_simp
                        with_reducible rfl
                      rotate_left
                      · simp only [Act.put, List.setIfInBounds_toArray, List.set_cons_zero, List.set_cons_succ, i64_w, i32_w]
                        rfl
                      refine pure_ (i := 11) (N := some 22) (v := ?_) (a' := ?_) #[true, false, false, false, false, true, true, false, false, false, false, true, false, false, false, false, false, false] rfl rfl (any_of HT_.out (by kernel_rfl)) (fun _ _ _ h => h) (Or.inl ⟨by rfl, ?_⟩) ?_ ?_
                      rotate_left
                      · intro w'
                        go_simp
                        with_reducible rfl
                      rotate_left
                      · simp only [Act.put, List.setIfInBounds_toArray, List.set_cons_zero, List.set_cons_succ, i64_w, i32_w]
                        rfl
                      refine pure_ (i := 12) (N := some 23) (v := ?_) (a' := ?_) #[true, false, false, false, false, true, true, false, false, false, false, true, true, false, false, false, false, false] rfl rfl (any_of HT_.out (by kernel_rfl)) (fun _ _ _ h => h) (Or.inl ⟨by rfl, ?_⟩) ?_ ?_
                      rotate_left
                      · intro w'
                        go_simp
                        with_reducible rfl
                      rotate_left
                      · simp only [Act.put, List.setIfInBounds_toArray, List.set_cons_zero, List.set_cons_succ, i64_w, i32_w]
                        rfl
                      refine take_ (i := 1) (N := some 12) (v := ?_) (a' := ?_) #[true, true, false, false, false, true, true, false, false, false, false, true, true, false, false, false, false, false] rfl rfl (take_ofW HT_.out HW_.out (by kernel_rfl)) (fun _ _ _ h => h) (Or.inl ⟨by rfl, ?_⟩) hHeld ?_ ?_
                      rotate_left
                      · rintro w' ⟨s0, s1, s2, s3, s4⟩
                        go_simp
                        with_reducible rfl
                      rotate_left
                      · simp only [Act.put, List.setIfInBounds_toArray, List.set_cons_zero, List.set_cons_succ, i64_w, i32_w]
                        rfl
                      refine take_ (i := 7) (N := some 18) (v := ?_) (a' := ?_) #[true, true, false, false, false, true, true, true, false, false, false, true, true, false, false, false, false, false] rfl rfl (take_ofW HT_.out HW_.out (by kernel_rfl)) (fun _ _ _ h => h) (Or.inl ⟨by rfl, ?_⟩) hHeld ?_ ?_
                      rotate_left
                      · rintro w' ⟨s0, s1, s2, s3, s4⟩
                        go_simp
                        with_reducible rfl
                      rotate_left
                      · simp only [Act.put, List.setIfInBounds_toArray, List.set_cons_zero, List.set_cons_succ, i64_w, i32_w]
                        rfl
                      refine take_ (i := 13) (N := some 24) (v := ?_) (a' := ?_) #[true, true, false, false, false, true, true, true, false, false, false, true, true, true, false, false, false, false] rfl rfl (take_ofW HT_.out HW_.out (by kernel_rfl)) (fun _ _ _ h => h) (Or.inl ⟨by rfl, ?_⟩) hHeld ?_ ?_
                      rotate_left
                      · rintro w' ⟨s0, s1, s2, s3, s4⟩
                        go_simp
                        with_reducible rfl
                      rotate_left
                      · simp only [Act.put, List.setIfInBounds_toArray, List.set_cons_zero, List.set_cons_succ, i64_w, i32_w]
                        rfl
                      refine one_ (i := 2) (N := some 13) #[true, true, true, false, false, true, true, true, false, false, false, true, true, true, false, false, false, false] rfl rfl (one_of HT_.out (by kernel_rfl)) (by decide) (fun K hK => ?_)
                      refine goes_ Tryd.func13 (by kernel_rfl) rfl #[.string a0_0] (by rfl) rfl rfl (by (try simp only [List.map_toArray, List.map_cons, List.map_nil]); first | done | rfl | (simp only [List.length_drop, List.length_take]; rfl)) ?_
                      with_reducible refine (tidelineref01_Hex.calls k a0_0 t141 _ A4.out).mono ?_
                      rintro e w30 ⟨rfl, hb⟩
                      refine ⟨_, rfl, ?_⟩
                      have n0_ := Aside0.mk (blk_below (g := gb139) (o := .cells #[.string a0_0, .int .i64 a0_1, .int .i64 a0_2, .string a0_3, .bool false] 25 (0, 0)) (by (with_reducible repeat (first | refine blk_drewN ?_ _ | refine blk_drew ?_ | refine blk_alloc ?_ _)); exact BK139.out) hb)
                      have n1_ := Aside0.mk (below_step (by repeat (first | (with_reducible first | exact HB.out | apply below_alloc | apply pw_below_drewN | apply below_drew1 | refine below_set ?_ GE139.out) | exact HB.out)) hb)
                      clear BK139
                      clear HB
                      have BK139 := n0_
                      have HB := n1_
                      clear n0_ n1_
                      (try clear hb)
                      (try clear hb2)
                      (try clear hk)
                      (try clear hi)
                      refine hK.out _ _ ⟨(blk_cell BK139.out 0).trans rfl, (blk_cell BK139.out 1).trans rfl, (blk_cell BK139.out 2).trans rfl, (blk_cell BK139.out 3).trans rfl, (blk_cell BK139.out 4).trans rfl⟩ (fun hHeld => ?_)
                      clear hK K
                      refine norm_ (a' := ?_) ?_ ?_
                      rotate_left
                      · show Act.put _ (some 13) _ = _
                        simp only [Act.put, List.setIfInBounds_toArray, List.set_cons_zero, List.set_cons_succ, i64_w, i32_w]
                        rfl
                      refine pure_ (i := 3) (N := some 14) (v := ?_) (a' := ?_) #[true, true, true, true, false, true, true, true, false, false, false, true, true, true, false, false, false, false] rfl rfl (any_of HT_.out (by kernel_rfl)) (fun _ _ _ h => h) (Or.inl ⟨by rfl, ?_⟩) ?_ ?_
                      rotate_left
                      · intro w'
                        go_simp
                        with_reducible rfl
                      rotate_left
                      · simp only [Act.put, List.setIfInBounds_toArray, List.set_cons_zero, List.set_cons_succ, i64_w, i32_w]
                        rfl
                      refine pure_ (i := 4) (N := some 15) (v := ?_) (a' := ?_) #[true, true, true, true, true, true, true, true, false, false, false, true, true, true, false, false, false, false] rfl rfl (any_of HT_.out (by kernel_rfl)) (fun _ _ _ h => h) (Or.inl ⟨by rfl, ?_⟩) ?_ ?_
                      rotate_left
                      · intro w'
                        go_simp
                        with_reducible rfl
                      rotate_left
                      · simp only [Act.put, List.setIfInBounds_toArray, List.set_cons_zero, List.set_cons_succ, i64_w, i32_w]
                        rfl
                      refine one_ (i := 8) (N := some 19) #[true, true, true, true, true, true, true, true, true, false, false, true, true, true, false, false, false, false] rfl rfl (one_of HT_.out (by kernel_rfl)) (by decide) (fun K hK => ?_)
                      refine goes_ Tryd.func14 (by kernel_rfl) rfl #[.int .i64 a0_1] (by rfl) rfl rfl (by (try simp only [List.map_toArray, List.map_cons, List.map_nil]); first | done | rfl | (simp only [List.length_drop, List.length_take]; rfl)) ?_
                      with_reducible refine (tidelineref01_Digits.calls a0_1 t142 _ A7.out).mono ?_
                      rintro e w31 ⟨rfl, hb⟩
                      refine ⟨_, rfl, ?_⟩
                      have n0_ := Aside0.mk (blk_below (g := gb139) (o := .cells #[.string a0_0, .int .i64 a0_1, .int .i64 a0_2, .string a0_3, .bool false] 25 (0, 0)) (by (with_reducible repeat (first | refine blk_drewN ?_ _ | refine blk_drew ?_ | refine blk_alloc ?_ _)); exact BK139.out) hb)
                      have n1_ := Aside0.mk (below_step (by repeat (first | (with_reducible first | exact HB.out | apply below_alloc | apply pw_below_drewN | apply below_drew1 | refine below_set ?_ GE139.out) | exact HB.out)) hb)
                      clear BK139
                      clear HB
                      have BK139 := n0_
                      have HB := n1_
                      clear n0_ n1_
                      (try clear hb)
                      (try clear hb2)
                      (try clear hk)
                      (try clear hi)
                      refine hK.out _ _ ⟨(blk_cell BK139.out 0).trans rfl, (blk_cell BK139.out 1).trans rfl, (blk_cell BK139.out 2).trans rfl, (blk_cell BK139.out 3).trans rfl, (blk_cell BK139.out 4).trans rfl⟩ (fun hHeld => ?_)
                      clear hK K
                      refine norm_ (a' := ?_) ?_ ?_
                      rotate_left
                      · show Act.put _ (some 19) _ = _
                        simp only [Act.put, List.setIfInBounds_toArray, List.set_cons_zero, List.set_cons_succ, i64_w, i32_w]
                        rfl
                      refine pure_ (i := 9) (N := some 20) (v := ?_) (a' := ?_) #[true, true, true, true, true, true, true, true, true, true, false, true, true, true, false, false, false, false] rfl rfl (any_of HT_.out (by kernel_rfl)) (fun _ _ _ h => h) (Or.inl ⟨by rfl, ?_⟩) ?_ ?_
                      rotate_left
                      · intro w'
                        go_simp
                        with_reducible rfl
                      rotate_left
                      · simp only [Act.put, List.setIfInBounds_toArray, List.set_cons_zero, List.set_cons_succ, i64_w, i32_w]
                        rfl
                      refine pure_ (i := 10) (N := some 21) (v := ?_) (a' := ?_) #[true, true, true, true, true, true, true, true, true, true, true, true, true, true, false, false, false, false] rfl rfl (any_of HT_.out (by kernel_rfl)) (fun _ _ _ h => h) (Or.inl ⟨by rfl, ?_⟩) ?_ ?_
                      rotate_left
                      · intro w'
                        go_simp
                        with_reducible rfl
                      rotate_left
                      · simp only [Act.put, List.setIfInBounds_toArray, List.set_cons_zero, List.set_cons_succ, i64_w, i32_w]
                        rfl
                      refine one_ (i := 14) (N := some 25) #[true, true, true, true, true, true, true, true, true, true, true, true, true, true, true, false, false, false] rfl rfl (one_of HT_.out (by kernel_rfl)) (by decide) (fun K hK => ?_)
                      refine goes_ Tryd.func14 (by kernel_rfl) rfl #[.int .i64 a0_2] (by rfl) rfl rfl (by (try simp only [List.map_toArray, List.map_cons, List.map_nil]); first | done | rfl | (simp only [List.length_drop, List.length_take]; rfl)) ?_
                      with_reducible refine (tidelineref01_Digits.calls a0_2 t143 _ A10.out).mono ?_
                      rintro e w32 ⟨rfl, hb⟩
                      refine ⟨_, rfl, ?_⟩
                      have n0_ := Aside0.mk (blk_below (g := gb139) (o := .cells #[.string a0_0, .int .i64 a0_1, .int .i64 a0_2, .string a0_3, .bool false] 25 (0, 0)) (by (with_reducible repeat (first | refine blk_drewN ?_ _ | refine blk_drew ?_ | refine blk_alloc ?_ _)); exact BK139.out) hb)
                      have n1_ := Aside0.mk (below_step (by repeat (first | (with_reducible first | exact HB.out | apply below_alloc | apply pw_below_drewN | apply below_drew1 | refine below_set ?_ GE139.out) | exact HB.out)) hb)
                      clear BK139
                      clear HB
                      have BK139 := n0_
                      have HB := n1_
                      clear n0_ n1_
                      (try clear hb)
                      (try clear hb2)
                      (try clear hk)
                      (try clear hi)
                      refine hK.out _ _ ⟨(blk_cell BK139.out 0).trans rfl, (blk_cell BK139.out 1).trans rfl, (blk_cell BK139.out 2).trans rfl, (blk_cell BK139.out 3).trans rfl, (blk_cell BK139.out 4).trans rfl⟩ (fun hHeld => ?_)
                      clear hK K
                      refine norm_ (a' := ?_) ?_ ?_
                      rotate_left
                      · show Act.put _ (some 25) _ = _
                        simp only [Act.put, List.setIfInBounds_toArray, List.set_cons_zero, List.set_cons_succ, i64_w, i32_w]
                        rfl
                      refine pure_ (i := 15) (N := some 26) (v := ?_) (a' := ?_) #[true, true, true, true, true, true, true, true, true, true, true, true, true, true, true, true, false, false] rfl rfl (any_of HT_.out (by kernel_rfl)) (fun _ _ _ h => h) (Or.inl ⟨by rfl, ?_⟩) ?_ ?_
                      rotate_left
                      · intro w'
                        go_simp
                        with_reducible rfl
                      rotate_left
                      · simp only [Act.put, List.setIfInBounds_toArray, List.set_cons_zero, List.set_cons_succ, i64_w, i32_w]
                        rfl
                      refine pure_ (i := 16) (N := some 27) (v := ?_) (a' := ?_) #[true, true, true, true, true, true, true, true, true, true, true, true, true, true, true, true, true, false] rfl rfl (any_of HT_.out (by kernel_rfl)) (fun _ _ _ h => h) (Or.inl ⟨by rfl, ?_⟩) ?_ ?_
                      rotate_left
                      · intro w'
                        go_simp
                        with_reducible rfl
                      rotate_left
                      · simp only [Act.put, List.setIfInBounds_toArray, List.set_cons_zero, List.set_cons_succ, i64_w, i32_w]
                        rfl
                      refine pure_ (i := 17) (N := some 5) (v := ?_) (a' := ?_) #[true, true, true, true, true, true, true, true, true, true, true, true, true, true, true, true, true, true] rfl rfl (any_of HT_.out (by kernel_rfl)) (fun _ _ _ h => h) (Or.inl ⟨by rfl, ?_⟩) ?_ ?_
                      rotate_left
                      · intro w'
                        go_simp
                        with_reducible rfl
                      rotate_left
                      · simp only [Act.put, List.setIfInBounds_toArray, List.set_cons_zero, List.set_cons_succ, i64_w, i32_w]
                        rfl
                      refine done_ (done_of HT_.out (by kernel_rfl)) ?_
                      have hcz33_0 : w32.cell? ⟨gb139, 0, none⟩ = some (.string a0_0) := (blk_cell BK139.out 0).trans rfl
                      have hcz33_1 : w32.cell? ⟨gb139, 1, none⟩ = some (.int .i64 a0_1) := (blk_cell BK139.out 1).trans rfl
                      have hcz33_2 : w32.cell? ⟨gb139, 2, none⟩ = some (.int .i64 a0_2) := (blk_cell BK139.out 2).trans rfl
                      have hcz33_3 : w32.cell? ⟨gb139, 3, none⟩ = some (.string a0_3) := (blk_cell BK139.out 3).trans rfl
                      have hcz33_4 : w32.cell? ⟨gb139, 4, none⟩ = some (.bool false) := (blk_cell BK139.out 4).trans rfl
                      have hfz33_0 := blk_frozen BK139.out 0
                      have hfz33_1 := blk_frozen BK139.out 1
                      have hfz33_2 := blk_frozen BK139.out 2
                      have hfz33_3 := blk_frozen BK139.out 3
                      have hfz33_4 := blk_frozen BK139.out 4
                      try go_wp2_with (first | ((with_reducible refine gate_callee (f := 13) rfl ?_); refine goesL_ (some 36) rfl rfl Tryd.func13 (by kernel_rfl) rfl #[.string a0_3] rfl (by (try simp only [List.map_toArray, List.map_cons, List.map_nil]); first | done | rfl | (simp only [List.length_drop, List.length_take]; rfl)) ?_; (with_reducible refine (tidelineref01_Hex.calls k a0_3 t144 _ A24.out).mono ?_); rintro e w34 ⟨rfl, hb⟩; refine ⟨_, rfl, ?_⟩; have n0_ := Aside0.mk (blk_below (g := gb139) (o := .cells #[.string a0_0, .int .i64 a0_1, .int .i64 a0_2, .string a0_3, .bool false] 25 (0, 0)) (by (with_reducible repeat (first | refine blk_drewN ?_ _ | refine blk_drew ?_ | refine blk_alloc ?_ _)); exact BK139.out) hb); have n1_ := Aside0.mk (below_step (by repeat (first | (with_reducible first | exact HB.out | apply below_alloc | apply pw_below_drewN | apply below_drew1 | refine below_set ?_ GE139.out) | exact HB.out)) hb); clear BK139; clear HB; have BK139 := n0_; have HB := n1_; clear n0_ n1_; (try clear hb); (try clear hb2); (try clear hk); (try clear hi)))
                      go_ret2
                      exact ⟨by first | rfl | (simp [errW_none, errW_some] <;> rfl) | (simp [*, errW_none, errW_some] <;> rfl), by repeat (first | (with_reducible first | exact HB.out | apply below_alloc | apply pw_below_drewN | apply below_drew1 | refine below_set ?_ GE139.out) | exact HB.out)⟩
                    · rw [if_neg c25] at H
                      exact absurd H (by simp)
                  · rw [if_neg c23] at H
                    exact absurd H (by simp)
              · rw [if_neg c12] at H
                exact absurd H (by simp)
            · rw [if_neg c11] at H
              exact absurd H (by simp)
          · rw [if_neg c9] at H
            exact absurd H (by simp)
        · rw [if_neg c8] at H
          exact absurd H (by simp)
      · rw [if_neg c6] at H
        exact absurd H (by simp)
    · rw [if_neg c5] at H
      exact absurd H (by simp)
  · rw [if_neg c3] at H
    have c3b0 : (t140 == 0) = false := beq_eq_false_iff_ne.mpr c3
    have c3b1 : (t140 != 0) = true := bne_iff_ne.mpr c3
    simp only [Option.some.injEq, Prod.mk.injEq] at H
    obtain ⟨rfl, rfl⟩ := H
    go_enter Tryd.func6, Tryd.ntmps6
    go_wp2_with (first | ((with_reducible refine gate_dst (N := 1) rfl ?_); refine box_event ?hg (N := 1) ?hd (cs := #[.string a0_0, .int .i64 a0_1, .int .i64 a0_2, .string a0_3, .bool a0_4]) (t := 25) ?hr ?_; (case hd => rfl); (case hg => rfl); (case hr => first | (go_simp; done) | (go_simp; rfl)); intro gb139 hg w35 hbox hb; have n0_ := Aside0.mk (below_step (by repeat (first | (with_reducible first | exact HB.out | apply below_alloc | apply pw_below_drewN | apply below_drew1) | exact HB.out)) hb); have n1_ := Aside0.mk (hbox); have n2_ := Aside0.mk ((by rw [hg]; exact (below_size (by repeat (first | (with_reducible first | exact HB.out | apply below_alloc | apply pw_below_drewN | apply below_drew1) | exact HB.out))) : w.heap.size ≤ gb139)); have n3_ := Aside0.mk ((by rw [hg]; exact (below_size (by repeat (first | (with_reducible first | exact HB.out | apply below_alloc | apply pw_below_drewN | apply below_drew1) | exact HB.out))) : w.heap.size ≤ gb139)); clear HB; have HB := n0_; have BK139 := n1_; have GW139 := n2_; have GE139 := n3_; clear n0_ n1_ n2_ n3_; clear hb hbox hg; have hcz36_0 : w35.cell? ⟨gb139, 0, none⟩ = some (.string a0_0) := (blk_cell BK139.out 0).trans rfl; have hcz36_1 : w35.cell? ⟨gb139, 1, none⟩ = some (.int .i64 a0_1) := (blk_cell BK139.out 1).trans rfl; have hcz36_2 : w35.cell? ⟨gb139, 2, none⟩ = some (.int .i64 a0_2) := (blk_cell BK139.out 2).trans rfl; have hcz36_3 : w35.cell? ⟨gb139, 3, none⟩ = some (.string a0_3) := (blk_cell BK139.out 3).trans rfl; have hcz36_4 : w35.cell? ⟨gb139, 4, none⟩ = some (.bool a0_4) := (blk_cell BK139.out 4).trans rfl; have hfz36_0 := blk_frozen BK139.out 0; have hfz36_1 := blk_frozen BK139.out 1; have hfz36_2 := blk_frozen BK139.out 2; have hfz36_3 := blk_frozen BK139.out 3; have hfz36_4 := blk_frozen BK139.out 4) | ((with_reducible refine gate_callee (f := 12) rfl ?_); refine goesL_ (some 7) rfl rfl Tryd.func12 (by kernel_rfl) rfl #[.agg #[.string a0_0, .int .i64 a0_1, .int .i64 a0_2, .string a0_3, .bool a0_4]] rfl (by (try simp only [List.map_toArray, List.map_cons, List.map_nil]); first | done | rfl | (simp only [List.length_drop, List.length_take]; rfl)) ?_; (with_reducible refine (tidelineref03_Check.calls a0_0 a0_1 a0_2 a0_3 a0_4 t140 _ A2.out).mono ?_); rintro e w37 ⟨rfl, hb⟩; refine ⟨_, rfl, ?_⟩; have n0_ := Aside0.mk (blk_below (g := gb139) (o := .cells #[.string a0_0, .int .i64 a0_1, .int .i64 a0_2, .string a0_3, .bool a0_4] 25 (0, 0)) (by (with_reducible repeat (first | refine blk_drewN ?_ _ | refine blk_drew ?_ | refine blk_alloc ?_ _)); exact BK139.out) hb); have n1_ := Aside0.mk (below_step (by repeat (first | (with_reducible first | exact HB.out | apply below_alloc | apply pw_below_drewN | apply below_drew1 | refine below_set ?_ GE139.out) | exact HB.out)) hb); clear BK139; clear HB; have BK139 := n0_; have HB := n1_; clear n0_ n1_; (try clear hb); (try clear hb2); (try clear hk); (try clear hi)))
    go_ret2
    exact ⟨by first | rfl | (simp [errW_none, errW_some] <;> rfl) | (simp [*, errW_none, errW_some] <;> rfl), by repeat (first | (with_reducible first | exact HB.out | apply below_alloc | apply pw_below_drewN | apply below_drew1 | refine below_set ?_ GE139.out) | exact HB.out)⟩

end Go.Proofs.YthnjlbdkcpgcjaaDoor.PAll
