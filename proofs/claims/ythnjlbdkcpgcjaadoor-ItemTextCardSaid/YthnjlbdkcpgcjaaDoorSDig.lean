-- By wip/late.py (a program of this session) out of wip/words.
import Derived.Test.YthnjlbdkcpgcjaaDoorProg
import Derived.Test.YthnjlbdkcpgcjaaDoorWWords
import Derived.Test.YthnjlbdkcpgcjaaDoorWLast
import Derived.Test.YthnjlbdkcpgcjaaDoorWMore
import Derived.Test.YthnjlbdkcpgcjaaDoorSTabs
import Derived.Test.YthnjlbdkcpgcjaaDoorShelf
import Derived.Test.YthnjlbdkcpgcjaaDoorSStr
import Derived.Test.YthnjlbdkcpgcjaaDoorSMake
import Derived.WalkSmall
import Derived.Lib.AppendIntMem
import Derived.BigQuiet
import Derived.Deep.QuietTactic
import Derived.Lib.Hide
import Derived.WalkKit
set_option linter.unusedVariables false
set_option linter.unusedSimpArgs false
namespace Go.Proofs.YthnjlbdkcpgcjaaDoor.Dig
open Go.RowKit Go.Shelf Go.Lib Go.Proofs.YthnjlbdkcpgcjaaDoorW.PrintWords
/-! Numbers as text. -/
theorem itoa_nat (m : Nat) : itoa (m : Int) = decDigits m := by
  unfold itoa
  rw [if_neg (by omega), Int.toNat_natCast]
theorem digits_calls (m : Nat) (n : Int) (hm : max n 0 = (m : Int)) (h1 : n ≤ 9223372036854775807) (w : World) (hT : TabsOK w) :
    Calls Tryd.prog 11 #[.int .i64 n] w fun e w' => e = .returned (.string ⟨(decDigits m).toArray⟩) ∧ Below w.heap.size w w' := by
  go_enter Tryd.func11, Tryd.ntmps11
  go_wp2_with (go_at_call 20; refine (Tryd.strconv_Itoa (m : Int) (by omega) (by omega) _ hT.1).mono ?_; rintro e w1 ⟨rfl, q, os, rfl⟩)
  go_ret
  exact ⟨by rw [itoa_nat]; rfl, below_grow _ _ (Nat.le_refl _) _ _⟩
theorem digit_piece : ∀ i : Fin 10, (⟨#[48, 49, 50, 51, 52, 53, 54, 55, 56, 57]⟩ : ByteArray).extract i.val (i.val + 1) = ⟨#[UInt8.ofNat (48 + i.val)]⟩ := by decide +kernel
theorem dslice (i : Nat) (hi : i < 10) (w : World) : (Instr.slice 9 (.string ⟨#[48, 49, 50, 51, 52, 53, 54, 55, 56, 57]⟩) (some (.int .i64 (i : Int))) (some (.int .i64 ((i : Int) + 1))) none).run Tryd.prog w = .ok (.string ⟨#[UInt8.ofNat (48 + i)]⟩) w := by
  rw [run_slice_string _ 9 _ .i64 .i64 (i : Int) ((i : Int) + 1) Tryd.underlying9 (by omega) (by omega) (by show _ ≤ ((10 : Nat) : Int); omega)]
  rw [show ((i : Int) + 1).toNat = i + 1 by omega, Int.toNat_natCast, digit_piece ⟨i, hi⟩]
theorem nDigits_le (m : Nat) : nDigits m ≤ m + 1 := by
  induction m using Nat.strongRecOn with
  | _ m ih =>
    by_cases h : m < 10
    · rw [nDigits_small h]; omega
    · rw [nDigits_big h]
      have := ih (m / 10) (by omega)
      omega
theorem dec_size (m : Nat) : (⟨(decDigits m).toArray⟩ : ByteArray).size ≤ m + 1 := by
  show (decDigits m).toArray.size ≤ _
  rw [List.size_toArray, decDigits_length]
  exact nDigits_le m
theorem dec_snoc {m : Nat} (h : ¬ m < 10) : (⟨(decDigits (m / 10)).toArray⟩ : ByteArray) ++ ⟨#[UInt8.ofNat (48 + m % 10)]⟩ = ⟨(decDigits m).toArray⟩ := by
  rw [show decDigits m = decDigits (m / 10) ++ [UInt8.ofNat (48 + m % 10)] by rw [decDigits, dif_neg h]]
  apply ByteArray.ext
  simp
set_option maxRecDepth 100000 in
theorem rdigits : ∀ (m : Nat), m ≤ 9223372036854775807 → ∀ w, Calls Tryd.prog 14 #[.int .i64 (m : Int)] w fun e w' => e = .returned (.string ⟨(decDigits m).toArray⟩) ∧ ∃ q, w' = w.drewN q := by
  intro m
  induction m using Nat.strongRecOn with
  | _ m ih =>
    intro hm w
    by_cases h : m < 10
    · have c1 : decide ((m : Int) < 10) = true := decide_eq_true (by omega)
      have c2 : decide ((m : Int) < 0) = false := decide_eq_false (by omega)
      have hsl := dslice m h
      have HD := Aside0.mk (show decDigits m = [UInt8.ofNat (48 + m)] by rw [decDigits, dif_pos h])
      generalize UInt8.ofNat (48 + m) = p at hsl HD
      go_enter Tryd.func14, Tryd.ntmps14
      go_wp2
      go_ret
      exact ⟨by rw [HD.out]; rfl, 0, rfl⟩
    · have c1 : decide ((m : Int) < 10) = false := decide_eq_false (by omega)
      have HS := Aside0.mk (dec_snoc h)
      have HZ := Aside0.mk (dec_size (m / 10))
      have hd : m / 10 < m := by omega
      have hd2 : m / 10 + 2 ≤ m := by omega
      have hr : m % 10 < 10 := by omega
      have e1 : Int.tdiv (m : Int) 10 = ((m / 10 : Nat) : Int) := by rw [Int.tdiv_eq_ediv_of_nonneg (by omega)]; rfl
      have e2 : Int.tmod (m : Int) 10 = ((m % 10 : Nat) : Int) := by rw [Int.tmod_eq_emod_of_nonneg (by omega)]; rfl
      generalize m / 10 = d at HS HZ hd hd2 e1
      generalize m % 10 = r at HS hr e2
      have e3 : IntKind.i64.wrap (d : Int) = (d : Int) := by rw [IntKind.wrap_i64]; omega
      have e4 : IntKind.i64.wrap (r : Int) = (r : Int) := by rw [IntKind.wrap_i64]; omega
      have e5 : IntKind.i64.wrap ((r : Int) + 1) = (r : Int) + 1 := by rw [IntKind.wrap_i64]; omega
      have hsl := dslice r hr
      generalize UInt8.ofNat (48 + r) = p at hsl HS
      have hq : ∀ q, Calls Tryd.prog 14 #[.int .i64 (d : Int)] (w.drewN q) fun e w'' => e = .returned (.string ⟨(decDigits d).toArray⟩) ∧ ∃ m, w'' = w.drewN m := fun q => Calls.quiet_of (ih d hd (by omega) (w.drewN q))
      have hz : (⟨(decDigits d).toArray⟩ : ByteArray).size + 1 ≤ 9223372036854775807 := by have := HZ.out; omega
      generalize (⟨(decDigits d).toArray⟩ : ByteArray) = td at HS hq hz
      go_enter Tryd.func14, Tryd.ntmps14
      go_wp2
      go_quiet ((go_at_call 14; exact hq _))
      go_wp2
      go_ret
      exact ⟨by rw [← HS.out]; rfl, _, rfl⟩
end Go.Proofs.YthnjlbdkcpgcjaaDoor.Dig
