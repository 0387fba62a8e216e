import Derived.Test.YtodmbjbfigifnaaGreatDoorG0
import Derived.Test.YtodmbjbfigifnaaGreatDoorG1
import Derived.Test.YtodmbjbfigifnaaGreatDoorG2
import Derived.Test.YtodmbjbfigifnaaGreatDoorG4
import Derived.Test.YtodmbjbfigifnaaGreatDoorG5
import Derived.Lib.CutLaws
import Derived.Test.YtodmbjbfigifnaaGreatDoorProg
import Derived.Test.YtodmbjbfigifnaaGreatDoorG3
import Derived.Below
import Derived.Lib.Hide
import Derived.WalkKit
import Derived.RangeFuncBox
import Derived.BigQuiet
import Derived.Tactics
import Derived.OwnWalk
import Derived.WalkSmall
import Derived.WalkLawsBesides
import Derived.Laws.Slices
import Derived.Deep.QuietTactic
import Derived.Tactics2
import Derived.Defers
import Derived.Recover
import Derived.Laws.Pointers
import Derived.MapKept
import Derived.Laws.EntriesVeiled
import Derived.Shelf.Abstract
import Derived.BigRegion
import Derived.RegionTactic
import Derived.Deep.RegionWith
import Derived.Deep.RegionHeld
import Derived.Deep.RegionHeld3
namespace Go.Proofs.YtodmbjbfigifnaaGreatDoor.PAll
open Go.RowKit Go.Proofs.YtodmbjbfigifnaaGreatDoorW.PrintWords Go.Proofs.YtodmbjbfigifnaaGreatDoorW.PrintLast Go.Proofs.YtodmbjbfigifnaaGreatDoorW.PrintMore
attribute [local go_sem] max2_int min2_int max_two min_two max_three min_three max_four min_four   -- for this text's walks alone
set_option linter.unusedVariables false
set_option linter.unusedSimpArgs false
def tidelineref02_hex.l0 : Nat → ByteArray → ByteArray → Int → Option (ByteArray)
  | 0, _, _, _ => none
  | k + 1, x0, x3, x4 => if x4 < (x0.size : Int) then (if 0 ≤ x4 then (if 0 ≤ ((Int.tdiv (bt x0 x4) 16) % 256) then (if ((Int.tdiv (bt x0 x4) 16) % 256) ≤ ((((Int.tdiv (bt x0 x4) 16) % 256) + 1) % 256) then (if ((((Int.tdiv (bt x0 x4) 16) % 256) + 1) % 256) ≤ 16 then (if 0 ≤ (Int.tmod (bt x0 x4) 16) then (if (Int.tmod (bt x0 x4) 16) ≤ (((Int.tmod (bt x0 x4) 16) + 1) % 256) then (if (((Int.tmod (bt x0 x4) 16) + 1) % 256) ≤ 16 then (if ((⟨#[48, 49, 50, 51, 52, 53, 54, 55, 56, 57, 97, 98, 99, 100, 101, 102]⟩ : ByteArray).extract (((Int.tdiv (bt x0 x4) 16) % 256) : Int).toNat (((((Int.tdiv (bt x0 x4) 16) % 256) + 1) % 256) : Int).toNat).size + ((⟨#[48, 49, 50, 51, 52, 53, 54, 55, 56, 57, 97, 98, 99, 100, 101, 102]⟩ : ByteArray).extract ((Int.tmod (bt x0 x4) 16) : Int).toNat ((((Int.tmod (bt x0 x4) 16) + 1) % 256) : Int).toNat).size ≤ 9223372036854775807 then (if x3.size + (((⟨#[48, 49, 50, 51, 52, 53, 54, 55, 56, 57, 97, 98, 99, 100, 101, 102]⟩ : ByteArray).extract (((Int.tdiv (bt x0 x4) 16) % 256) : Int).toNat (((((Int.tdiv (bt x0 x4) 16) % 256) + 1) % 256) : Int).toNat) ++ ((⟨#[48, 49, 50, 51, 52, 53, 54, 55, 56, 57, 97, 98, 99, 100, 101, 102]⟩ : ByteArray).extract ((Int.tmod (bt x0 x4) 16) : Int).toNat ((((Int.tmod (bt x0 x4) 16) + 1) % 256) : Int).toNat)).size ≤ 9223372036854775807 then (tidelineref02_hex.l0 k x0 (x3 ++ (((⟨#[48, 49, 50, 51, 52, 53, 54, 55, 56, 57, 97, 98, 99, 100, 101, 102]⟩ : ByteArray).extract (((Int.tdiv (bt x0 x4) 16) % 256) : Int).toNat (((((Int.tdiv (bt x0 x4) 16) % 256) + 1) % 256) : Int).toNat) ++ ((⟨#[48, 49, 50, 51, 52, 53, 54, 55, 56, 57, 97, 98, 99, 100, 101, 102]⟩ : ByteArray).extract ((Int.tmod (bt x0 x4) 16) : Int).toNat ((((Int.tmod (bt x0 x4) 16) + 1) % 256) : Int).toNat))) (wrap64 (x4 + 1))) else (none)) else (none)) else (none)) else (none)) else (none)) else (none)) else (none)) else (none)) else (none)) else (some x3)
def tidelineref02_hex.f (k : Nat) (a0 : ByteArray) : Option (ByteArray) := tidelineref02_hex.l0 k a0 (⟨#[]⟩ : ByteArray) 0
theorem tidelineref02_hex.mono_l : ∀ k, (∀ y0 y1 y2, LeO (tidelineref02_hex.l0 k y0 y1 y2) (tidelineref02_hex.l0 (k + 1) y0 y1 y2))
  | 0 => fun _ _ _ r h => by simp [tidelineref02_hex.l0] at h
  | k + 1 => by
    have ih0 := tidelineref02_hex.mono_l k
    · intro y0 y1 y2
      unfold tidelineref02_hex.l0
      repeat' first
      | (with_reducible exact ih0 _ _ _)
      | (with_reducible exact LeO.refl _)
      | (with_reducible exact LeO.none _)
      | (with_reducible refine LeO.ite ?_ ?_)
      | (with_reducible refine LeO.bind ?_ (fun _ => ?_))
      | exact ih0 _ _ _
      | exact LeO.none _
      | refine LeO.ite ?_ ?_
      | refine LeO.bind ?_ (fun _ => ?_)
theorem tidelineref02_hex.mono : ∀ a0 k, LeO (tidelineref02_hex.f k a0) (tidelineref02_hex.f (k + 1) a0) := by
  intro a0 k
  have ih0 := tidelineref02_hex.mono_l k
  unfold tidelineref02_hex.f
  repeat' first
      | (with_reducible exact ih0 _ _ _)
      | (with_reducible exact LeO.refl _)
      | (with_reducible exact LeO.none _)
      | (with_reducible refine LeO.ite ?_ ?_)
      | (with_reducible refine LeO.bind ?_ (fun _ => ?_))
      | exact ih0 _ _ _
      | exact LeO.none _
      | refine LeO.ite ?_ ?_
      | refine LeO.bind ?_ (fun _ => ?_)
set_option maxHeartbeats 8000000 in
set_option maxRecDepth 100000 in
theorem tidelineref02_hex.calls (k : Nat) (a0 : ByteArray) (r : ByteArray) (w : World) (h : tidelineref02_hex.f k a0 = some r) :
    Calls Tryz.prog 32 #[.string a0] w fun e w' => e = .returned (.string r) ∧ Drawn0 w w' := by
  have H : (tidelineref02_hex.l0 k a0 (⟨#[]⟩ : ByteArray) 0) = some r := h
  clear h
  have H' := Aside0.mk H
  clear H
  go_enter Tryz.func32, Tryz.ntmps32
  go_wp2
  repeat (go_quiet (fail); try go_wp2)
  go_loopg [3, 4] k (fun kq v3 v4 w' => ∃ (x3_1 : ByteArray) (x4_1 : Int), v3 = .string x3_1 ∧ v4 = .int .i64 x4_1 ∧ Aside0 (tidelineref02_hex.l0 kq a0 x3_1 x4_1 = some r) ∧ Aside0 (kq ≤ k) ∧ Drawn0 w w')
  case atStart => exact ⟨((⟨#[]⟩ : ByteArray)), (0), (by first | rfl | (simp; done) | (simp [*]; done) | (simp [*, Go.Proofs.YtodmbjbfigifnaaGreatDoor.Str.bne_nil]; done)), (by first | rfl | (simp; done) | (simp [*]; done) | (simp [*, Go.Proofs.YtodmbjbfigifnaaGreatDoor.Str.bne_nil]; done)), H', ⟨Nat.le_refl _⟩, by repeat (first | exact Drawn0.refl _ | apply Drawn0.step)⟩
  case round =>
    clear H'
    obtain ⟨x3_1, x4_1, rfl, rfl, HA, HK1, ⟨m1, rfl⟩⟩ := hrel
    cases gk with
    | zero => exact absurd HA.out (by simp [tidelineref02_hex.l0])
    | succ k1 =>
      have H := HA.out
      clear HA
      simp only [tidelineref02_hex.l0] at H
      by_cases c2 : x4_1 < (a0.size : Int)
      · rw [if_pos c2] at H
        have c2b0 : decide (x4_1 < (a0.size : Int)) = true := decide_eq_true c2
        clear c2
        by_cases c3 : 0 ≤ x4_1
        · rw [if_pos c3] at H
          have c3b0 : decide (0 ≤ x4_1) = true := decide_eq_true c3
          clear c3
          obtain ⟨ji6, hji6⟩ : ∃ j_ : Int, ((Int.tdiv (bt a0 x4_1) 16) % 256) = j_ := ⟨_, rfl⟩
          have hji6w : (IntKind.u8.wrap (Int.tdiv (bt a0 x4_1) 16)) = ji6 := (IntKind.wrap_u8 _).trans hji6
          replace H : (if 0 ≤ (ji6) then (if (ji6) ≤ (((ji6) + 1) % 256) then (if (((ji6) + 1) % 256) ≤ 16 then (if 0 ≤ (Int.tmod (bt a0 x4_1) 16) then (if (Int.tmod (bt a0 x4_1) 16) ≤ (((Int.tmod (bt a0 x4_1) 16) + 1) % 256) then (if (((Int.tmod (bt a0 x4_1) 16) + 1) % 256) ≤ 16 then (if ((⟨#[48, 49, 50, 51, 52, 53, 54, 55, 56, 57, 97, 98, 99, 100, 101, 102]⟩ : ByteArray).extract ((ji6) : Int).toNat ((((ji6) + 1) % 256) : Int).toNat).size + ((⟨#[48, 49, 50, 51, 52, 53, 54, 55, 56, 57, 97, 98, 99, 100, 101, 102]⟩ : ByteArray).extract ((Int.tmod (bt a0 x4_1) 16) : Int).toNat ((((Int.tmod (bt a0 x4_1) 16) + 1) % 256) : Int).toNat).size ≤ 9223372036854775807 then (if x3_1.size + (((⟨#[48, 49, 50, 51, 52, 53, 54, 55, 56, 57, 97, 98, 99, 100, 101, 102]⟩ : ByteArray).extract ((ji6) : Int).toNat ((((ji6) + 1) % 256) : Int).toNat) ++ ((⟨#[48, 49, 50, 51, 52, 53, 54, 55, 56, 57, 97, 98, 99, 100, 101, 102]⟩ : ByteArray).extract ((Int.tmod (bt a0 x4_1) 16) : Int).toNat ((((Int.tmod (bt a0 x4_1) 16) + 1) % 256) : Int).toNat)).size ≤ 9223372036854775807 then (tidelineref02_hex.l0 k1 a0 (x3_1 ++ (((⟨#[48, 49, 50, 51, 52, 53, 54, 55, 56, 57, 97, 98, 99, 100, 101, 102]⟩ : ByteArray).extract ((ji6) : Int).toNat ((((ji6) + 1) % 256) : Int).toNat) ++ ((⟨#[48, 49, 50, 51, 52, 53, 54, 55, 56, 57, 97, 98, 99, 100, 101, 102]⟩ : ByteArray).extract ((Int.tmod (bt a0 x4_1) 16) : Int).toNat ((((Int.tmod (bt a0 x4_1) 16) + 1) % 256) : Int).toNat))) (wrap64 (x4_1 + 1))) else (none)) else (none)) else (none)) else (none)) else (none)) else (none)) else (none)) else (none)) = some r := by first | (rw [hji6] at H; exact H) | (simp only [hji6] at H ⊢; exact H)
          obtain ⟨jk6, hjk6⟩ : ∃ j_ : Int, (((ji6) + 1) % 256) = j_ := ⟨_, rfl⟩
          have hjk6w : (IntKind.u8.wrap (ji6 + 1)) = jk6 := (IntKind.wrap_u8 _).trans hjk6
          simp only [hjk6] at H
          by_cases c7 : 0 ≤ (ji6)
          · rw [if_pos c7] at H
            have c7b0 := eq_true c7
            have c7b1 : decide (0 ≤ (ji6)) = true := decide_eq_true c7
            clear c7
            by_cases c8 : (ji6) ≤ (jk6)
            · rw [if_pos c8] at H
              have c8b0 := eq_true c8
              have c8b1 : decide ((ji6) ≤ (jk6)) = true := decide_eq_true c8
              by_cases c9 : (jk6) ≤ 16
              · rw [if_pos c9] at H
                have c9b0 := eq_true c9
                have c9b1 : decide ((jk6) ≤ 16) = true := decide_eq_true c9
                obtain ⟨ji12, hji12⟩ : ∃ j_ : Int, (Int.tmod (bt a0 x4_1) 16) = j_ := ⟨_, rfl⟩
                replace H : (if 0 ≤ (ji12) then (if (ji12) ≤ (((ji12) + 1) % 256) then (if (((ji12) + 1) % 256) ≤ 16 then (if ((⟨#[48, 49, 50, 51, 52, 53, 54, 55, 56, 57, 97, 98, 99, 100, 101, 102]⟩ : ByteArray).extract ((ji6) : Int).toNat ((jk6) : Int).toNat).size + ((⟨#[48, 49, 50, 51, 52, 53, 54, 55, 56, 57, 97, 98, 99, 100, 101, 102]⟩ : ByteArray).extract ((ji12) : Int).toNat ((((ji12) + 1) % 256) : Int).toNat).size ≤ 9223372036854775807 then (if x3_1.size + (((⟨#[48, 49, 50, 51, 52, 53, 54, 55, 56, 57, 97, 98, 99, 100, 101, 102]⟩ : ByteArray).extract ((ji6) : Int).toNat ((jk6) : Int).toNat) ++ ((⟨#[48, 49, 50, 51, 52, 53, 54, 55, 56, 57, 97, 98, 99, 100, 101, 102]⟩ : ByteArray).extract ((ji12) : Int).toNat ((((ji12) + 1) % 256) : Int).toNat)).size ≤ 9223372036854775807 then (tidelineref02_hex.l0 k1 a0 (x3_1 ++ (((⟨#[48, 49, 50, 51, 52, 53, 54, 55, 56, 57, 97, 98, 99, 100, 101, 102]⟩ : ByteArray).extract ((ji6) : Int).toNat ((jk6) : Int).toNat) ++ ((⟨#[48, 49, 50, 51, 52, 53, 54, 55, 56, 57, 97, 98, 99, 100, 101, 102]⟩ : ByteArray).extract ((ji12) : Int).toNat ((((ji12) + 1) % 256) : Int).toNat))) (wrap64 (x4_1 + 1))) else (none)) else (none)) else (none)) else (none)) else (none)) = some r := by first | (rw [hji12] at H; exact H) | (simp only [hji12] at H ⊢; exact H)
                obtain ⟨jk12, hjk12⟩ : ∃ j_ : Int, (((ji12) + 1) % 256) = j_ := ⟨_, rfl⟩
                have hjk12w : (IntKind.u8.wrap (ji12 + 1)) = jk12 := (IntKind.wrap_u8 _).trans hjk12
                simp only [hjk12] at H
                by_cases c13 : 0 ≤ (ji12)
                · rw [if_pos c13] at H
                  have c13b0 := eq_true c13
                  have c13b1 : decide (0 ≤ (ji12)) = true := decide_eq_true c13
                  clear c13
                  by_cases c14 : (ji12) ≤ (jk12)
                  · rw [if_pos c14] at H
                    have c14b0 := eq_true c14
                    have c14b1 : decide ((ji12) ≤ (jk12)) = true := decide_eq_true c14
                    by_cases c15 : (jk12) ≤ 16
                    · rw [if_pos c15] at H
                      have c15b0 := eq_true c15
                      have c15b1 : decide ((jk12) ≤ 16) = true := decide_eq_true c15
                      by_cases c16 : ((⟨#[48, 49, 50, 51, 52, 53, 54, 55, 56, 57, 97, 98, 99, 100, 101, 102]⟩ : ByteArray).extract ((ji6) : Int).toNat ((jk6) : Int).toNat).size + ((⟨#[48, 49, 50, 51, 52, 53, 54, 55, 56, 57, 97, 98, 99, 100, 101, 102]⟩ : ByteArray).extract ((ji12) : Int).toNat ((jk12) : Int).toNat).size ≤ 9223372036854775807
                      · rw [if_pos c16] at H
                        have c16b0 := eq_true c16
                        have c16b1 : decide (((⟨#[48, 49, 50, 51, 52, 53, 54, 55, 56, 57, 97, 98, 99, 100, 101, 102]⟩ : ByteArray).extract ((ji6) : Int).toNat ((jk6) : Int).toNat).size + ((⟨#[48, 49, 50, 51, 52, 53, 54, 55, 56, 57, 97, 98, 99, 100, 101, 102]⟩ : ByteArray).extract ((ji12) : Int).toNat ((jk12) : Int).toNat).size ≤ 9223372036854775807) = true := decide_eq_true c16
                        try have c16b2 : (9223372036854775807 < ((⟨#[48, 49, 50, 51, 52, 53, 54, 55, 56, 57, 97, 98, 99, 100, 101, 102]⟩ : ByteArray).extract ((ji6) : Int).toNat ((jk6) : Int).toNat).size + ((⟨#[48, 49, 50, 51, 52, 53, 54, 55, 56, 57, 97, 98, 99, 100, 101, 102]⟩ : ByteArray).extract ((ji12) : Int).toNat ((jk12) : Int).toNat).size) = False := eq_false (Nat.not_lt.2 c16)
                        by_cases c17 : x3_1.size + (((⟨#[48, 49, 50, 51, 52, 53, 54, 55, 56, 57, 97, 98, 99, 100, 101, 102]⟩ : ByteArray).extract ((ji6) : Int).toNat ((jk6) : Int).toNat) ++ ((⟨#[48, 49, 50, 51, 52, 53, 54, 55, 56, 57, 97, 98, 99, 100, 101, 102]⟩ : ByteArray).extract ((ji12) : Int).toNat ((jk12) : Int).toNat)).size ≤ 9223372036854775807
                        · rw [if_pos c17] at H
                          have c17b0 := eq_true c17
                          have c17b1 : decide (x3_1.size + (((⟨#[48, 49, 50, 51, 52, 53, 54, 55, 56, 57, 97, 98, 99, 100, 101, 102]⟩ : ByteArray).extract ((ji6) : Int).toNat ((jk6) : Int).toNat) ++ ((⟨#[48, 49, 50, 51, 52, 53, 54, 55, 56, 57, 97, 98, 99, 100, 101, 102]⟩ : ByteArray).extract ((ji12) : Int).toNat ((jk12) : Int).toNat)).size ≤ 9223372036854775807) = true := decide_eq_true c17
                          try have c17b2 : (9223372036854775807 < x3_1.size + (((⟨#[48, 49, 50, 51, 52, 53, 54, 55, 56, 57, 97, 98, 99, 100, 101, 102]⟩ : ByteArray).extract ((ji6) : Int).toNat ((jk6) : Int).toNat) ++ ((⟨#[48, 49, 50, 51, 52, 53, 54, 55, 56, 57, 97, 98, 99, 100, 101, 102]⟩ : ByteArray).extract ((ji12) : Int).toNat ((jk12) : Int).toNat)).size) = False := eq_false (Nat.not_lt.2 c17)
                          have H' := Aside0.mk H
                          clear H
                          have p4 : 0 ≤ (x4_1 : Int) := of_decide_eq_true (by first | (with_reducible assumption) | assumption)
                          have q4 : x4_1 < (a0.size : Int) := of_decide_eq_true (by first | (with_reducible assumption) | assumption)
                          have hx4 := bt_at a0 x4_1
                          replace p4 := eq_true p4
                          replace q4 := eq_true q4
                          have p5 : 0 ≤ (x4_1 : Int) := of_decide_eq_true (by first | (with_reducible assumption) | assumption)
                          have q5 : x4_1 < (a0.size : Int) := of_decide_eq_true (by first | (with_reducible assumption) | assumption)
                          have hx5 := bt_at a0 x4_1
                          replace p5 := eq_true p5
                          replace q5 := eq_true q5
                          have p10 : 0 ≤ (x4_1 : Int) := of_decide_eq_true (by first | (with_reducible assumption) | assumption)
                          have q10 : x4_1 < (a0.size : Int) := of_decide_eq_true (by first | (with_reducible assumption) | assumption)
                          have hx10 := bt_at a0 x4_1
                          replace p10 := eq_true p10
                          replace q10 := eq_true q10
                          have p11 : 0 ≤ (x4_1 : Int) := of_decide_eq_true (by first | (with_reducible assumption) | assumption)
                          have q11 : x4_1 < (a0.size : Int) := of_decide_eq_true (by first | (with_reducible assumption) | assumption)
                          have hx11 := bt_at a0 x4_1
                          replace p11 := eq_true p11
                          replace q11 := eq_true q11
                          go_wp2
                          repeat (go_quiet (fail); try go_wp2)
                          go_roundg k1
                          case measure => have := HK1.out; omega
                          case rel => exact ⟨(x3_1 ++ (((⟨#[48, 49, 50, 51, 52, 53, 54, 55, 56, 57, 97, 98, 99, 100, 101, 102]⟩ : ByteArray).extract ((ji6) : Int).toNat ((jk6) : Int).toNat) ++ ((⟨#[48, 49, 50, 51, 52, 53, 54, 55, 56, 57, 97, 98, 99, 100, 101, 102]⟩ : ByteArray).extract ((ji12) : Int).toNat ((jk12) : Int).toNat))), (wrap64 (x4_1 + 1)), (by first | rfl | (simp; done) | (simp only [← hji6, ← hji12] <;> (first | rfl | simp)) | (simp [*]; done) | (simp [*, Go.Proofs.YtodmbjbfigifnaaGreatDoor.Str.bne_nil]; done)), (by first | rfl | (simp; done) | (simp [*]; done) | (simp [*, Go.Proofs.YtodmbjbfigifnaaGreatDoor.Str.bne_nil]; done)), H', ⟨by have := HK1.out; omega⟩, by repeat (first | exact Drawn0.refl _ | apply Drawn0.step)⟩
                        · rw [if_neg c17] at H
                          exact absurd H (by simp)
                      · rw [if_neg c16] at H
                        exact absurd H (by simp)
                    · rw [if_neg c15] at H
                      exact absurd H (by simp)
                  · rw [if_neg c14] at H
                    exact absurd H (by simp)
                · rw [if_neg c13] at H
                  exact absurd H (by simp)
              · rw [if_neg c9] at H
                exact absurd H (by simp)
            · rw [if_neg c8] at H
              exact absurd H (by simp)
          · rw [if_neg c7] at H
            exact absurd H (by simp)
        · rw [if_neg c3] at H
          exact absurd H (by simp)
      · rw [if_neg c2] at H
        have c2b0 : decide (x4_1 < (a0.size : Int)) = false := decide_eq_false c2
        clear c2
        obtain rfl := Option.some.inj H
        go_wp2
        repeat (go_quiet (fail); try go_wp2)
        go_ret
        exact ⟨by first | rfl | (simp; done) | (simp [*]; done) | (simp [*, Go.Proofs.YtodmbjbfigifnaaGreatDoor.Str.bne_nil]; done), by repeat (first | exact Drawn0.refl _ | apply Drawn0.step)⟩
def tidelineref02_Print.f (k : Nat) (a0_0 : ByteArray) (a0_1 : ByteArray) (a0_2 : Bool) : Option (ByteArray × Int) := (tidelineref02_Check.f k a0_0 a0_1 a0_2).bind fun t188 => (if t188 = 0 then (if a0_2 = true then ((tidelineref02_hex.f k a0_0).bind fun t189 => (if t189.size + 3 ≤ 9223372036854775807 then (some (t189 ++ (⟨#[46, 46, 42]⟩ : ByteArray), 0)) else (none))) else ((tidelineref02_hex.f k a0_0).bind fun t190 => (if t190.size + 2 ≤ 9223372036854775807 then ((tidelineref02_hex.f k a0_1).bind fun t191 => (if (t190 ++ (⟨#[46, 46]⟩ : ByteArray)).size + t191.size ≤ 9223372036854775807 then (some ((t190 ++ (⟨#[46, 46]⟩ : ByteArray)) ++ t191, 0)) else (none))) else (none)))) else (some ((⟨#[]⟩ : ByteArray), t188)))
theorem tidelineref02_Print.mono : ∀ a0 a1 a2 k, LeO (tidelineref02_Print.f k a0 a1 a2) (tidelineref02_Print.f (k + 1) a0 a1 a2) := by
  intro a0 a1 a2 k
  unfold tidelineref02_Print.f
  repeat' first
      | (with_reducible exact tidelineref02_Check.mono _ _ _ _)
      | (with_reducible exact tidelineref02_hex.mono _ _)
      | (with_reducible exact LeO.refl _)
      | (with_reducible exact LeO.none _)
      | (with_reducible refine LeO.ite ?_ ?_)
      | (with_reducible refine LeO.bind ?_ (fun _ => ?_))
      | exact tidelineref02_Check.mono _ _ _ _
      | exact tidelineref02_hex.mono _ _
      | exact LeO.none _
      | refine LeO.ite ?_ ?_
      | refine LeO.bind ?_ (fun _ => ?_)
set_option maxHeartbeats 8000000 in
set_option maxRecDepth 100000 in
theorem tidelineref02_Print.calls (k : Nat) (a0_0 : ByteArray) (a0_1 : ByteArray) (a0_2 : Bool) (r1 : ByteArray) (r2 : Int) (w : World) (h : tidelineref02_Print.f k a0_0 a0_1 a0_2 = some (r1, r2)) :
    Calls Tryz.prog 18 #[.agg #[.string a0_0, .string a0_1, .bool a0_2]] w fun e w' => e = .returned (.tuple #[.string r1, .int .i64 r2]) ∧ Below w.heap.size w w' := by
  have hu23 := Tryz.underlying23
  have HB := Aside0.mk (Below.refl w.heap.size w)
  have H : ((tidelineref02_Check.f k a0_0 a0_1 a0_2).bind fun t188 => (if t188 = 0 then (if a0_2 = true then ((tidelineref02_hex.f k a0_0).bind fun t189 => (if t189.size + 3 ≤ 9223372036854775807 then (some (t189 ++ (⟨#[46, 46, 42]⟩ : ByteArray), 0)) else (none))) else ((tidelineref02_hex.f k a0_0).bind fun t190 => (if t190.size + 2 ≤ 9223372036854775807 then ((tidelineref02_hex.f k a0_1).bind fun t191 => (if (t190 ++ (⟨#[46, 46]⟩ : ByteArray)).size + t191.size ≤ 9223372036854775807 then (some ((t190 ++ (⟨#[46, 46]⟩ : ByteArray)) ++ t191, 0)) else (none))) else (none)))) else (some ((⟨#[]⟩ : ByteArray), t188)))) = some (r1, r2) := h
  clear h
  replace H := Option.bind_eq_some_iff.mp H
  obtain ⟨t188, A20, H⟩ := H
  replace H : (if t188 = 0 then (if a0_2 = true then ((tidelineref02_hex.f k a0_0).bind fun t189 => (if t189.size + 3 ≤ 9223372036854775807 then (some (t189 ++ (⟨#[46, 46, 42]⟩ : ByteArray), 0)) else (none))) else ((tidelineref02_hex.f k a0_0).bind fun t190 => (if t190.size + 2 ≤ 9223372036854775807 then ((tidelineref02_hex.f k a0_1).bind fun t191 => (if (t190 ++ (⟨#[46, 46]⟩ : ByteArray)).size + t191.size ≤ 9223372036854775807 then (some ((t190 ++ (⟨#[46, 46]⟩ : ByteArray)) ++ t191, 0)) else (none))) else (none)))) else (some ((⟨#[]⟩ : ByteArray), t188))) = some (r1, r2) := H
  have A2 := Aside0.mk A20
  clear A20
  by_cases c3 : t188 = 0
  · rw [if_pos c3] at H
    have c3b0 : (t188 == 0) = true := beq_iff_eq.mpr c3
    have c3b1 : (t188 != 0) = false := bne_eq_false_iff_eq.mpr c3
    clear c3
    by_cases c4 : a0_2 = true
    · subst c4
      have H1 : ((tidelineref02_hex.f k a0_0).bind fun t189 => (if t189.size + 3 ≤ 9223372036854775807 then (some (t189 ++ (⟨#[46, 46, 42]⟩ : ByteArray), 0)) else (none))) = some (r1, r2) := by rw [if_pos rfl] at H; exact H
      clear H
      have H := H1
      clear H1
      replace H := Option.bind_eq_some_iff.mp H
      obtain ⟨t189, A50, H⟩ := H
      replace H : (if t189.size + 3 ≤ 9223372036854775807 then (some (t189 ++ (⟨#[46, 46, 42]⟩ : ByteArray), 0)) else (none)) = some (r1, r2) := H
      have A5 := Aside0.mk A50
      clear A50
      by_cases c6 : t189.size + 3 ≤ 9223372036854775807
      · rw [if_pos c6] at H
        have c6b0 := eq_true c6
        have c6b1 : decide (t189.size + 3 ≤ 9223372036854775807) = true := decide_eq_true c6
        try have c6b2 : (9223372036854775807 < t189.size + 3) = False := eq_false (Nat.not_lt.2 c6)
        simp only [Option.some.injEq, Prod.mk.injEq] at H
        obtain ⟨rfl, rfl⟩ := H
        go_enter Tryz.func18, Tryz.ntmps18
        go_wp2_with (first | ((with_reducible refine gate_dst (N := 1) rfl ?_); refine box_event ?hg (N := 1) ?hd (cs := #[.string a0_0, .string a0_1, .bool true]) (t := 23) ?hr ?_; (case hd => rfl); (case hg => rfl); (case hr => first | (go_simp; done) | (go_simp; rfl)); intro gb187 hg w7 hbox hb; have n0_ := Aside0.mk (below_step (by repeat (first | (with_reducible first | exact HB.out | apply below_alloc | apply pw_below_drewN | apply below_drew1) | exact HB.out)) hb); have n1_ := Aside0.mk (hbox); have n2_ := Aside0.mk ((by rw [hg]; exact (below_size (by repeat (first | (with_reducible first | exact HB.out | apply below_alloc | apply pw_below_drewN | apply below_drew1) | exact HB.out))) : w.heap.size ≤ gb187)); have n3_ := Aside0.mk ((by rw [hg]; exact (below_size (by repeat (first | (with_reducible first | exact HB.out | apply below_alloc | apply pw_below_drewN | apply below_drew1) | exact HB.out))) : w.heap.size ≤ gb187)); clear HB; have HB := n0_; have BK187 := n1_; have GW187 := n2_; have GE187 := n3_; clear n0_ n1_ n2_ n3_; clear hb hbox hg; have hcz8_0 : w7.cell? ⟨gb187, 0, none⟩ = some (.string a0_0) := (blk_cell BK187.out 0).trans rfl; have hcz8_1 : w7.cell? ⟨gb187, 1, none⟩ = some (.string a0_1) := (blk_cell BK187.out 1).trans rfl; have hcz8_2 : w7.cell? ⟨gb187, 2, none⟩ = some (.bool true) := (blk_cell BK187.out 2).trans rfl; have hfz8_0 := blk_frozen BK187.out 0; have hfz8_1 := blk_frozen BK187.out 1; have hfz8_2 := blk_frozen BK187.out 2) | (go_at_call 31; (with_reducible refine (tidelineref02_Check.calls k a0_0 a0_1 true t188 _ A2.out).mono ?_); rintro e w9 ⟨rfl, hb⟩; have n0_ := Aside0.mk (blk_below (g := gb187) (o := .cells #[.string a0_0, .string a0_1, .bool true] 23 (0, 0)) (by (with_reducible repeat (first | refine blk_drewN ?_ _ | refine blk_drew ?_ | refine blk_alloc ?_ _)); exact BK187.out) hb); have n1_ := Aside0.mk (below_step (by repeat (first | (with_reducible first | exact HB.out | apply below_alloc | apply pw_below_drewN | apply below_drew1 | refine below_set ?_ GE187.out) | exact HB.out)) hb); clear BK187; clear HB; have BK187 := n0_; have HB := n1_; clear n0_ n1_; (try clear hb); (try clear hb2); (try clear hk); (try clear hi); have hcz10_0 : w9.cell? ⟨gb187, 0, none⟩ = some (.string a0_0) := (blk_cell BK187.out 0).trans rfl; have hcz10_1 : w9.cell? ⟨gb187, 1, none⟩ = some (.string a0_1) := (blk_cell BK187.out 1).trans rfl; have hcz10_2 : w9.cell? ⟨gb187, 2, none⟩ = some (.bool true) := (blk_cell BK187.out 2).trans rfl; have hfz10_0 := blk_frozen BK187.out 0; have hfz10_1 := blk_frozen BK187.out 1; have hfz10_2 := blk_frozen BK187.out 2) | (go_at_call 32; (with_reducible refine (tidelineref02_hex.calls k a0_0 t189 _ A5.out).mono ?_); rintro e w' ⟨rfl, ⟨nd, rfl⟩⟩; (try first | exact ⟨rfl, _, World.drewN_drewN _ _ _⟩ | exact ⟨rfl, _, Eq.trans (World.drewN_drewN _ _ _) (congrArg (World.drewN _) (Nat.add_assoc _ _ _))⟩)))
        repeat (go_quiet (first | ((with_reducible refine gate_dst (N := 1) rfl ?_); refine box_event ?hg (N := 1) ?hd (cs := #[.string a0_0, .string a0_1, .bool true]) (t := 23) ?hr ?_; (case hd => rfl); (case hg => rfl); (case hr => first | (go_simp; done) | (go_simp; rfl)); intro gb187 hg w7 hbox hb; have n0_ := Aside0.mk (below_step (by repeat (first | (with_reducible first | exact HB.out | apply below_alloc | apply pw_below_drewN | apply below_drew1) | exact HB.out)) hb); have n1_ := Aside0.mk (hbox); have n2_ := Aside0.mk ((by rw [hg]; exact (below_size (by repeat (first | (with_reducible first | exact HB.out | apply below_alloc | apply pw_below_drewN | apply below_drew1) | exact HB.out))) : w.heap.size ≤ gb187)); have n3_ := Aside0.mk ((by rw [hg]; exact (below_size (by repeat (first | (with_reducible first | exact HB.out | apply below_alloc | apply pw_below_drewN | apply below_drew1) | exact HB.out))) : w.heap.size ≤ gb187)); clear HB; have HB := n0_; have BK187 := n1_; have GW187 := n2_; have GE187 := n3_; clear n0_ n1_ n2_ n3_; clear hb hbox hg; have hcz8_0 : w7.cell? ⟨gb187, 0, none⟩ = some (.string a0_0) := (blk_cell BK187.out 0).trans rfl; have hcz8_1 : w7.cell? ⟨gb187, 1, none⟩ = some (.string a0_1) := (blk_cell BK187.out 1).trans rfl; have hcz8_2 : w7.cell? ⟨gb187, 2, none⟩ = some (.bool true) := (blk_cell BK187.out 2).trans rfl; have hfz8_0 := blk_frozen BK187.out 0; have hfz8_1 := blk_frozen BK187.out 1; have hfz8_2 := blk_frozen BK187.out 2) | (go_at_call 31; (with_reducible refine (tidelineref02_Check.calls k a0_0 a0_1 true t188 _ A2.out).mono ?_); rintro e w9 ⟨rfl, hb⟩; have n0_ := Aside0.mk (blk_below (g := gb187) (o := .cells #[.string a0_0, .string a0_1, .bool true] 23 (0, 0)) (by (with_reducible repeat (first | refine blk_drewN ?_ _ | refine blk_drew ?_ | refine blk_alloc ?_ _)); exact BK187.out) hb); have n1_ := Aside0.mk (below_step (by repeat (first | (with_reducible first | exact HB.out | apply below_alloc | apply pw_below_drewN | apply below_drew1 | refine below_set ?_ GE187.out) | exact HB.out)) hb); clear BK187; clear HB; have BK187 := n0_; have HB := n1_; clear n0_ n1_; (try clear hb); (try clear hb2); (try clear hk); (try clear hi); have hcz10_0 : w9.cell? ⟨gb187, 0, none⟩ = some (.string a0_0) := (blk_cell BK187.out 0).trans rfl; have hcz10_1 : w9.cell? ⟨gb187, 1, none⟩ = some (.string a0_1) := (blk_cell BK187.out 1).trans rfl; have hcz10_2 : w9.cell? ⟨gb187, 2, none⟩ = some (.bool true) := (blk_cell BK187.out 2).trans rfl; have hfz10_0 := blk_frozen BK187.out 0; have hfz10_1 := blk_frozen BK187.out 1; have hfz10_2 := blk_frozen BK187.out 2) | (go_at_call 32; (with_reducible refine (tidelineref02_hex.calls k a0_0 t189 _ A5.out).mono ?_); rintro e w' ⟨rfl, ⟨nd, rfl⟩⟩; (try first | exact ⟨rfl, _, World.drewN_drewN _ _ _⟩ | exact ⟨rfl, _, Eq.trans (World.drewN_drewN _ _ _) (congrArg (World.drewN _) (Nat.add_assoc _ _ _))⟩))); try go_wp2_with (first | ((with_reducible refine gate_dst (N := 1) rfl ?_); refine box_event ?hg (N := 1) ?hd (cs := #[.string a0_0, .string a0_1, .bool true]) (t := 23) ?hr ?_; (case hd => rfl); (case hg => rfl); (case hr => first | (go_simp; done) | (go_simp; rfl)); intro gb187 hg w7 hbox hb; have n0_ := Aside0.mk (below_step (by repeat (first | (with_reducible first | exact HB.out | apply below_alloc | apply pw_below_drewN | apply below_drew1) | exact HB.out)) hb); have n1_ := Aside0.mk (hbox); have n2_ := Aside0.mk ((by rw [hg]; exact (below_size (by repeat (first | (with_reducible first | exact HB.out | apply below_alloc | apply pw_below_drewN | apply below_drew1) | exact HB.out))) : w.heap.size ≤ gb187)); have n3_ := Aside0.mk ((by rw [hg]; exact (below_size (by repeat (first | (with_reducible first | exact HB.out | apply below_alloc | apply pw_below_drewN | apply below_drew1) | exact HB.out))) : w.heap.size ≤ gb187)); clear HB; have HB := n0_; have BK187 := n1_; have GW187 := n2_; have GE187 := n3_; clear n0_ n1_ n2_ n3_; clear hb hbox hg; have hcz8_0 : w7.cell? ⟨gb187, 0, none⟩ = some (.string a0_0) := (blk_cell BK187.out 0).trans rfl; have hcz8_1 : w7.cell? ⟨gb187, 1, none⟩ = some (.string a0_1) := (blk_cell BK187.out 1).trans rfl; have hcz8_2 : w7.cell? ⟨gb187, 2, none⟩ = some (.bool true) := (blk_cell BK187.out 2).trans rfl; have hfz8_0 := blk_frozen BK187.out 0; have hfz8_1 := blk_frozen BK187.out 1; have hfz8_2 := blk_frozen BK187.out 2) | (go_at_call 31; (with_reducible refine (tidelineref02_Check.calls k a0_0 a0_1 true t188 _ A2.out).mono ?_); rintro e w9 ⟨rfl, hb⟩; have n0_ := Aside0.mk (blk_below (g := gb187) (o := .cells #[.string a0_0, .string a0_1, .bool true] 23 (0, 0)) (by (with_reducible repeat (first | refine blk_drewN ?_ _ | refine blk_drew ?_ | refine blk_alloc ?_ _)); exact BK187.out) hb); have n1_ := Aside0.mk (below_step (by repeat (first | (with_reducible first | exact HB.out | apply below_alloc | apply pw_below_drewN | apply below_drew1 | refine below_set ?_ GE187.out) | exact HB.out)) hb); clear BK187; clear HB; have BK187 := n0_; have HB := n1_; clear n0_ n1_; (try clear hb); (try clear hb2); (try clear hk); (try clear hi); have hcz10_0 : w9.cell? ⟨gb187, 0, none⟩ = some (.string a0_0) := (blk_cell BK187.out 0).trans rfl; have hcz10_1 : w9.cell? ⟨gb187, 1, none⟩ = some (.string a0_1) := (blk_cell BK187.out 1).trans rfl; have hcz10_2 : w9.cell? ⟨gb187, 2, none⟩ = some (.bool true) := (blk_cell BK187.out 2).trans rfl; have hfz10_0 := blk_frozen BK187.out 0; have hfz10_1 := blk_frozen BK187.out 1; have hfz10_2 := blk_frozen BK187.out 2) | (go_at_call 32; (with_reducible refine (tidelineref02_hex.calls k a0_0 t189 _ A5.out).mono ?_); rintro e w' ⟨rfl, ⟨nd, rfl⟩⟩; (try first | exact ⟨rfl, _, World.drewN_drewN _ _ _⟩ | exact ⟨rfl, _, Eq.trans (World.drewN_drewN _ _ _) (congrArg (World.drewN _) (Nat.add_assoc _ _ _))⟩))))
        go_ret2
        exact ⟨by first | rfl | (simp [errW_none, errW_some] <;> rfl) | (simp [*, errW_none, errW_some] <;> rfl), by repeat (first | (with_reducible first | exact HB.out | apply below_alloc | apply pw_below_drewN | apply below_drew1 | refine below_set ?_ GE187.out) | exact HB.out)⟩
      · rw [if_neg c6] at H
        exact absurd H (by simp)
    · replace c4 := Bool.eq_false_iff.mpr c4
      subst c4
      have H1 : ((tidelineref02_hex.f k a0_0).bind fun t190 => (if t190.size + 2 ≤ 9223372036854775807 then ((tidelineref02_hex.f k a0_1).bind fun t191 => (if (t190 ++ (⟨#[46, 46]⟩ : ByteArray)).size + t191.size ≤ 9223372036854775807 then (some ((t190 ++ (⟨#[46, 46]⟩ : ByteArray)) ++ t191, 0)) else (none))) else (none))) = some (r1, r2) := by rw [if_neg (show ¬ (false = true) by decide)] at H; exact H
      clear H
      have H := H1
      clear H1
      replace H := Option.bind_eq_some_iff.mp H
      obtain ⟨t190, A110, H⟩ := H
      replace H : (if t190.size + 2 ≤ 9223372036854775807 then ((tidelineref02_hex.f k a0_1).bind fun t191 => (if (t190 ++ (⟨#[46, 46]⟩ : ByteArray)).size + t191.size ≤ 9223372036854775807 then (some ((t190 ++ (⟨#[46, 46]⟩ : ByteArray)) ++ t191, 0)) else (none))) else (none)) = some (r1, r2) := H
      have A11 := Aside0.mk A110
      clear A110
      by_cases c12 : t190.size + 2 ≤ 9223372036854775807
      · rw [if_pos c12] at H
        have c12b0 := eq_true c12
        have c12b1 : decide (t190.size + 2 ≤ 9223372036854775807) = true := decide_eq_true c12
        try have c12b2 : (9223372036854775807 < t190.size + 2) = False := eq_false (Nat.not_lt.2 c12)
        replace H := Option.bind_eq_some_iff.mp H
        obtain ⟨t191, A130, H⟩ := H
        replace H : (if (t190 ++ (⟨#[46, 46]⟩ : ByteArray)).size + t191.size ≤ 9223372036854775807 then (some ((t190 ++ (⟨#[46, 46]⟩ : ByteArray)) ++ t191, 0)) else (none)) = some (r1, r2) := H
        have A13 := Aside0.mk A130
        clear A130
        by_cases c14 : (t190 ++ (⟨#[46, 46]⟩ : ByteArray)).size + t191.size ≤ 9223372036854775807
        · rw [if_pos c14] at H
          have c14b0 := eq_true c14
          have c14b1 : decide ((t190 ++ (⟨#[46, 46]⟩ : ByteArray)).size + t191.size ≤ 9223372036854775807) = true := decide_eq_true c14
          try have c14b2 : (9223372036854775807 < (t190 ++ (⟨#[46, 46]⟩ : ByteArray)).size + t191.size) = False := eq_false (Nat.not_lt.2 c14)
          try have c14b9 : (9223372036854775807 < t190.size + 2 + t191.size) = False := eq_false (by have h_ := c14; simp only [ByteArray.size_append] at h_; exact Nat.not_lt.2 h_)
          simp only [Option.some.injEq, Prod.mk.injEq] at H
          obtain ⟨rfl, rfl⟩ := H
          go_enter Tryz.func18, Tryz.ntmps18
          go_wp2_with (first | ((with_reducible refine gate_dst (N := 1) rfl ?_); refine box_event ?hg (N := 1) ?hd (cs := #[.string a0_0, .string a0_1, .bool false]) (t := 23) ?hr ?_; (case hd => rfl); (case hg => rfl); (case hr => first | (go_simp; done) | (go_simp; rfl)); intro gb187 hg w15 hbox hb; have n0_ := Aside0.mk (below_step (by repeat (first | (with_reducible first | exact HB.out | apply below_alloc | apply pw_below_drewN | apply below_drew1) | exact HB.out)) hb); have n1_ := Aside0.mk (hbox); have n2_ := Aside0.mk ((by rw [hg]; exact (below_size (by repeat (first | (with_reducible first | exact HB.out | apply below_alloc | apply pw_below_drewN | apply below_drew1) | exact HB.out))) : w.heap.size ≤ gb187)); have n3_ := Aside0.mk ((by rw [hg]; exact (below_size (by repeat (first | (with_reducible first | exact HB.out | apply below_alloc | apply pw_below_drewN | apply below_drew1) | exact HB.out))) : w.heap.size ≤ gb187)); clear HB; have HB := n0_; have BK187 := n1_; have GW187 := n2_; have GE187 := n3_; clear n0_ n1_ n2_ n3_; clear hb hbox hg; have hcz16_0 : w15.cell? ⟨gb187, 0, none⟩ = some (.string a0_0) := (blk_cell BK187.out 0).trans rfl; have hcz16_1 : w15.cell? ⟨gb187, 1, none⟩ = some (.string a0_1) := (blk_cell BK187.out 1).trans rfl; have hcz16_2 : w15.cell? ⟨gb187, 2, none⟩ = some (.bool false) := (blk_cell BK187.out 2).trans rfl; have hfz16_0 := blk_frozen BK187.out 0; have hfz16_1 := blk_frozen BK187.out 1; have hfz16_2 := blk_frozen BK187.out 2) | (go_at_call 31; (with_reducible refine (tidelineref02_Check.calls k a0_0 a0_1 false t188 _ A2.out).mono ?_); rintro e w17 ⟨rfl, hb⟩; have n0_ := Aside0.mk (blk_below (g := gb187) (o := .cells #[.string a0_0, .string a0_1, .bool false] 23 (0, 0)) (by (with_reducible repeat (first | refine blk_drewN ?_ _ | refine blk_drew ?_ | refine blk_alloc ?_ _)); exact BK187.out) hb); have n1_ := Aside0.mk (below_step (by repeat (first | (with_reducible first | exact HB.out | apply below_alloc | apply pw_below_drewN | apply below_drew1 | refine below_set ?_ GE187.out) | exact HB.out)) hb); clear BK187; clear HB; have BK187 := n0_; have HB := n1_; clear n0_ n1_; (try clear hb); (try clear hb2); (try clear hk); (try clear hi); have hcz18_0 : w17.cell? ⟨gb187, 0, none⟩ = some (.string a0_0) := (blk_cell BK187.out 0).trans rfl; have hcz18_1 : w17.cell? ⟨gb187, 1, none⟩ = some (.string a0_1) := (blk_cell BK187.out 1).trans rfl; have hcz18_2 : w17.cell? ⟨gb187, 2, none⟩ = some (.bool false) := (blk_cell BK187.out 2).trans rfl; have hfz18_0 := blk_frozen BK187.out 0; have hfz18_1 := blk_frozen BK187.out 1; have hfz18_2 := blk_frozen BK187.out 2) | (go_at_call 32; (with_reducible refine (tidelineref02_hex.calls k a0_0 t190 _ A11.out).mono ?_); rintro e w' ⟨rfl, ⟨nd, rfl⟩⟩; (try first | exact ⟨rfl, _, World.drewN_drewN _ _ _⟩ | exact ⟨rfl, _, Eq.trans (World.drewN_drewN _ _ _) (congrArg (World.drewN _) (Nat.add_assoc _ _ _))⟩)) | (go_at_call 32; (with_reducible refine (tidelineref02_hex.calls k a0_1 t191 _ A13.out).mono ?_); rintro e w' ⟨rfl, ⟨nd, rfl⟩⟩; (try first | exact ⟨rfl, _, World.drewN_drewN _ _ _⟩ | exact ⟨rfl, _, Eq.trans (World.drewN_drewN _ _ _) (congrArg (World.drewN _) (Nat.add_assoc _ _ _))⟩)))
          repeat (go_quiet (first | ((with_reducible refine gate_dst (N := 1) rfl ?_); refine box_event ?hg (N := 1) ?hd (cs := #[.string a0_0, .string a0_1, .bool false]) (t := 23) ?hr ?_; (case hd => rfl); (case hg => rfl); (case hr => first | (go_simp; done) | (go_simp; rfl)); intro gb187 hg w15 hbox hb; have n0_ := Aside0.mk (below_step (by repeat (first | (with_reducible first | exact HB.out | apply below_alloc | apply pw_below_drewN | apply below_drew1) | exact HB.out)) hb); have n1_ := Aside0.mk (hbox); have n2_ := Aside0.mk ((by rw [hg]; exact (below_size (by repeat (first | (with_reducible first | exact HB.out | apply below_alloc | apply pw_below_drewN | apply below_drew1) | exact HB.out))) : w.heap.size ≤ gb187)); have n3_ := Aside0.mk ((by rw [hg]; exact (below_size (by repeat (first | (with_reducible first | exact HB.out | apply below_alloc | apply pw_below_drewN | apply below_drew1) | exact HB.out))) : w.heap.size ≤ gb187)); clear HB; have HB := n0_; have BK187 := n1_; have GW187 := n2_; have GE187 := n3_; clear n0_ n1_ n2_ n3_; clear hb hbox hg; have hcz16_0 : w15.cell? ⟨gb187, 0, none⟩ = some (.string a0_0) := (blk_cell BK187.out 0).trans rfl; have hcz16_1 : w15.cell? ⟨gb187, 1, none⟩ = some (.string a0_1) := (blk_cell BK187.out 1).trans rfl; have hcz16_2 : w15.cell? ⟨gb187, 2, none⟩ = some (.bool false) := (blk_cell BK187.out 2).trans rfl; have hfz16_0 := blk_frozen BK187.out 0; have hfz16_1 := blk_frozen BK187.out 1; have hfz16_2 := blk_frozen BK187.out 2) | (go_at_call 31; (with_reducible refine (tidelineref02_Check.calls k a0_0 a0_1 false t188 _ A2.out).mono ?_); rintro e w17 ⟨rfl, hb⟩; have n0_ := Aside0.mk (blk_below (g := gb187) (o := .cells #[.string a0_0, .string a0_1, .bool false] 23 (0, 0)) (by (with_reducible repeat (first | refine blk_drewN ?_ _ | refine blk_drew ?_ | refine blk_alloc ?_ _)); exact BK187.out) hb); have n1_ := Aside0.mk (below_step (by repeat (first | (with_reducible first | exact HB.out | apply below_alloc | apply pw_below_drewN | apply below_drew1 | refine below_set ?_ GE187.out) | exact HB.out)) hb); clear BK187; clear HB; have BK187 := n0_; have HB := n1_; clear n0_ n1_; (try clear hb); (try clear hb2); (try clear hk); (try clear hi); have hcz18_0 : w17.cell? ⟨gb187, 0, none⟩ = some (.string a0_0) := (blk_cell BK187.out 0).trans rfl; have hcz18_1 : w17.cell? ⟨gb187, 1, none⟩ = some (.string a0_1) := (blk_cell BK187.out 1).trans rfl; have hcz18_2 : w17.cell? ⟨gb187, 2, none⟩ = some (.bool false) := (blk_cell BK187.out 2).trans rfl; have hfz18_0 := blk_frozen BK187.out 0; have hfz18_1 := blk_frozen BK187.out 1; have hfz18_2 := blk_frozen BK187.out 2) | (go_at_call 32; (with_reducible refine (tidelineref02_hex.calls k a0_0 t190 _ A11.out).mono ?_); rintro e w' ⟨rfl, ⟨nd, rfl⟩⟩; (try first | exact ⟨rfl, _, World.drewN_drewN _ _ _⟩ | exact ⟨rfl, _, Eq.trans (World.drewN_drewN _ _ _) (congrArg (World.drewN _) (Nat.add_assoc _ _ _))⟩)) | (go_at_call 32; (with_reducible refine (tidelineref02_hex.calls k a0_1 t191 _ A13.out).mono ?_); rintro e w' ⟨rfl, ⟨nd, rfl⟩⟩; (try first | exact ⟨rfl, _, World.drewN_drewN _ _ _⟩ | exact ⟨rfl, _, Eq.trans (World.drewN_drewN _ _ _) (congrArg (World.drewN _) (Nat.add_assoc _ _ _))⟩))); try go_wp2_with (first | ((with_reducible refine gate_dst (N := 1) rfl ?_); refine box_event ?hg (N := 1) ?hd (cs := #[.string a0_0, .string a0_1, .bool false]) (t := 23) ?hr ?_; (case hd => rfl); (case hg => rfl); (case hr => first | (go_simp; done) | (go_simp; rfl)); intro gb187 hg w15 hbox hb; have n0_ := Aside0.mk (below_step (by repeat (first | (with_reducible first | exact HB.out | apply below_alloc | apply pw_below_drewN | apply below_drew1) | exact HB.out)) hb); have n1_ := Aside0.mk (hbox); have n2_ := Aside0.mk ((by rw [hg]; exact (below_size (by repeat (first | (with_reducible first | exact HB.out | apply below_alloc | apply pw_below_drewN | apply below_drew1) | exact HB.out))) : w.heap.size ≤ gb187)); have n3_ := Aside0.mk ((by rw [hg]; exact (below_size (by repeat (first | (with_reducible first | exact HB.out | apply below_alloc | apply pw_below_drewN | apply below_drew1) | exact HB.out))) : w.heap.size ≤ gb187)); clear HB; have HB := n0_; have BK187 := n1_; have GW187 := n2_; have GE187 := n3_; clear n0_ n1_ n2_ n3_; clear hb hbox hg; have hcz16_0 : w15.cell? ⟨gb187, 0, none⟩ = some (.string a0_0) := (blk_cell BK187.out 0).trans rfl; have hcz16_1 : w15.cell? ⟨gb187, 1, none⟩ = some (.string a0_1) := (blk_cell BK187.out 1).trans rfl; have hcz16_2 : w15.cell? ⟨gb187, 2, none⟩ = some (.bool false) := (blk_cell BK187.out 2).trans rfl; have hfz16_0 := blk_frozen BK187.out 0; have hfz16_1 := blk_frozen BK187.out 1; have hfz16_2 := blk_frozen BK187.out 2) | (go_at_call 31; (with_reducible refine (tidelineref02_Check.calls k a0_0 a0_1 false t188 _ A2.out).mono ?_); rintro e w17 ⟨rfl, hb⟩; have n0_ := Aside0.mk (blk_below (g := gb187) (o := .cells #[.string a0_0, .string a0_1, .bool false] 23 (0, 0)) (by (with_reducible repeat (first | refine blk_drewN ?_ _ | refine blk_drew ?_ | refine blk_alloc ?_ _)); exact BK187.out) hb); have n1_ := Aside0.mk (below_step (by repeat (first | (with_reducible first | exact HB.out | apply below_alloc | apply pw_below_drewN | apply below_drew1 | refine below_set ?_ GE187.out) | exact HB.out)) hb); clear BK187; clear HB; have BK187 := n0_; have HB := n1_; clear n0_ n1_; (try clear hb); (try clear hb2); (try clear hk); (try clear hi); have hcz18_0 : w17.cell? ⟨gb187, 0, none⟩ = some (.string a0_0) := (blk_cell BK187.out 0).trans rfl; have hcz18_1 : w17.cell? ⟨gb187, 1, none⟩ = some (.string a0_1) := (blk_cell BK187.out 1).trans rfl; have hcz18_2 : w17.cell? ⟨gb187, 2, none⟩ = some (.bool false) := (blk_cell BK187.out 2).trans rfl; have hfz18_0 := blk_frozen BK187.out 0; have hfz18_1 := blk_frozen BK187.out 1; have hfz18_2 := blk_frozen BK187.out 2) | (go_at_call 32; (with_reducible refine (tidelineref02_hex.calls k a0_0 t190 _ A11.out).mono ?_); rintro e w' ⟨rfl, ⟨nd, rfl⟩⟩; (try first | exact ⟨rfl, _, World.drewN_drewN _ _ _⟩ | exact ⟨rfl, _, Eq.trans (World.drewN_drewN _ _ _) (congrArg (World.drewN _) (Nat.add_assoc _ _ _))⟩)) | (go_at_call 32; (with_reducible refine (tidelineref02_hex.calls k a0_1 t191 _ A13.out).mono ?_); rintro e w' ⟨rfl, ⟨nd, rfl⟩⟩; (try first | exact ⟨rfl, _, World.drewN_drewN _ _ _⟩ | exact ⟨rfl, _, Eq.trans (World.drewN_drewN _ _ _) (congrArg (World.drewN _) (Nat.add_assoc _ _ _))⟩))))
          go_ret2
          exact ⟨by first | rfl | (simp [errW_none, errW_some] <;> rfl) | (simp [*, errW_none, errW_some] <;> rfl), by repeat (first | (with_reducible first | exact HB.out | apply below_alloc | apply pw_below_drewN | apply below_drew1 | refine below_set ?_ GE187.out) | exact HB.out)⟩
        · rw [if_neg c14] at H
          exact absurd H (by simp)
      · rw [if_neg c12] at H
        exact absurd H (by simp)
  · rw [if_neg c3] at H
    have c3b0 : (t188 == 0) = false := beq_eq_false_iff_ne.mpr c3
    have c3b1 : (t188 != 0) = true := bne_iff_ne.mpr c3
    simp only [Option.some.injEq, Prod.mk.injEq] at H
    obtain ⟨rfl, rfl⟩ := H
    go_enter Tryz.func18, Tryz.ntmps18
    go_wp2_with (first | ((with_reducible refine gate_dst (N := 1) rfl ?_); refine box_event ?hg (N := 1) ?hd (cs := #[.string a0_0, .string a0_1, .bool a0_2]) (t := 23) ?hr ?_; (case hd => rfl); (case hg => rfl); (case hr => first | (go_simp; done) | (go_simp; rfl)); intro gb187 hg w19 hbox hb; have n0_ := Aside0.mk (below_step (by repeat (first | (with_reducible first | exact HB.out | apply below_alloc | apply pw_below_drewN | apply below_drew1) | exact HB.out)) hb); have n1_ := Aside0.mk (hbox); have n2_ := Aside0.mk ((by rw [hg]; exact (below_size (by repeat (first | (with_reducible first | exact HB.out | apply below_alloc | apply pw_below_drewN | apply below_drew1) | exact HB.out))) : w.heap.size ≤ gb187)); have n3_ := Aside0.mk ((by rw [hg]; exact (below_size (by repeat (first | (with_reducible first | exact HB.out | apply below_alloc | apply pw_below_drewN | apply below_drew1) | exact HB.out))) : w.heap.size ≤ gb187)); clear HB; have HB := n0_; have BK187 := n1_; have GW187 := n2_; have GE187 := n3_; clear n0_ n1_ n2_ n3_; clear hb hbox hg; have hcz20_0 : w19.cell? ⟨gb187, 0, none⟩ = some (.string a0_0) := (blk_cell BK187.out 0).trans rfl; have hcz20_1 : w19.cell? ⟨gb187, 1, none⟩ = some (.string a0_1) := (blk_cell BK187.out 1).trans rfl; have hcz20_2 : w19.cell? ⟨gb187, 2, none⟩ = some (.bool a0_2) := (blk_cell BK187.out 2).trans rfl; have hfz20_0 := blk_frozen BK187.out 0; have hfz20_1 := blk_frozen BK187.out 1; have hfz20_2 := blk_frozen BK187.out 2) | (go_at_call 31; (with_reducible refine (tidelineref02_Check.calls k a0_0 a0_1 a0_2 t188 _ A2.out).mono ?_); rintro e w21 ⟨rfl, hb⟩; have n0_ := Aside0.mk (blk_below (g := gb187) (o := .cells #[.string a0_0, .string a0_1, .bool a0_2] 23 (0, 0)) (by (with_reducible repeat (first | refine blk_drewN ?_ _ | refine blk_drew ?_ | refine blk_alloc ?_ _)); exact BK187.out) hb); have n1_ := Aside0.mk (below_step (by repeat (first | (with_reducible first | exact HB.out | apply below_alloc | apply pw_below_drewN | apply below_drew1 | refine below_set ?_ GE187.out) | exact HB.out)) hb); clear BK187; clear HB; have BK187 := n0_; have HB := n1_; clear n0_ n1_; (try clear hb); (try clear hb2); (try clear hk); (try clear hi)))
    repeat (go_quiet (first | ((with_reducible refine gate_dst (N := 1) rfl ?_); refine box_event ?hg (N := 1) ?hd (cs := #[.string a0_0, .string a0_1, .bool a0_2]) (t := 23) ?hr ?_; (case hd => rfl); (case hg => rfl); (case hr => first | (go_simp; done) | (go_simp; rfl)); intro gb187 hg w19 hbox hb; have n0_ := Aside0.mk (below_step (by repeat (first | (with_reducible first | exact HB.out | apply below_alloc | apply pw_below_drewN | apply below_drew1) | exact HB.out)) hb); have n1_ := Aside0.mk (hbox); have n2_ := Aside0.mk ((by rw [hg]; exact (below_size (by repeat (first | (with_reducible first | exact HB.out | apply below_alloc | apply pw_below_drewN | apply below_drew1) | exact HB.out))) : w.heap.size ≤ gb187)); have n3_ := Aside0.mk ((by rw [hg]; exact (below_size (by repeat (first | (with_reducible first | exact HB.out | apply below_alloc | apply pw_below_drewN | apply below_drew1) | exact HB.out))) : w.heap.size ≤ gb187)); clear HB; have HB := n0_; have BK187 := n1_; have GW187 := n2_; have GE187 := n3_; clear n0_ n1_ n2_ n3_; clear hb hbox hg; have hcz20_0 : w19.cell? ⟨gb187, 0, none⟩ = some (.string a0_0) := (blk_cell BK187.out 0).trans rfl; have hcz20_1 : w19.cell? ⟨gb187, 1, none⟩ = some (.string a0_1) := (blk_cell BK187.out 1).trans rfl; have hcz20_2 : w19.cell? ⟨gb187, 2, none⟩ = some (.bool a0_2) := (blk_cell BK187.out 2).trans rfl; have hfz20_0 := blk_frozen BK187.out 0; have hfz20_1 := blk_frozen BK187.out 1; have hfz20_2 := blk_frozen BK187.out 2) | (go_at_call 31; (with_reducible refine (tidelineref02_Check.calls k a0_0 a0_1 a0_2 t188 _ A2.out).mono ?_); rintro e w21 ⟨rfl, hb⟩; have n0_ := Aside0.mk (blk_below (g := gb187) (o := .cells #[.string a0_0, .string a0_1, .bool a0_2] 23 (0, 0)) (by (with_reducible repeat (first | refine blk_drewN ?_ _ | refine blk_drew ?_ | refine blk_alloc ?_ _)); exact BK187.out) hb); have n1_ := Aside0.mk (below_step (by repeat (first | (with_reducible first | exact HB.out | apply below_alloc | apply pw_below_drewN | apply below_drew1 | refine below_set ?_ GE187.out) | exact HB.out)) hb); clear BK187; clear HB; have BK187 := n0_; have HB := n1_; clear n0_ n1_; (try clear hb); (try clear hb2); (try clear hk); (try clear hi))); try go_wp2_with (first | ((with_reducible refine gate_dst (N := 1) rfl ?_); refine box_event ?hg (N := 1) ?hd (cs := #[.string a0_0, .string a0_1, .bool a0_2]) (t := 23) ?hr ?_; (case hd => rfl); (case hg => rfl); (case hr => first | (go_simp; done) | (go_simp; rfl)); intro gb187 hg w19 hbox hb; have n0_ := Aside0.mk (below_step (by repeat (first | (with_reducible first | exact HB.out | apply below_alloc | apply pw_below_drewN | apply below_drew1) | exact HB.out)) hb); have n1_ := Aside0.mk (hbox); have n2_ := Aside0.mk ((by rw [hg]; exact (below_size (by repeat (first | (with_reducible first | exact HB.out | apply below_alloc | apply pw_below_drewN | apply below_drew1) | exact HB.out))) : w.heap.size ≤ gb187)); have n3_ := Aside0.mk ((by rw [hg]; exact (below_size (by repeat (first | (with_reducible first | exact HB.out | apply below_alloc | apply pw_below_drewN | apply below_drew1) | exact HB.out))) : w.heap.size ≤ gb187)); clear HB; have HB := n0_; have BK187 := n1_; have GW187 := n2_; have GE187 := n3_; clear n0_ n1_ n2_ n3_; clear hb hbox hg; have hcz20_0 : w19.cell? ⟨gb187, 0, none⟩ = some (.string a0_0) := (blk_cell BK187.out 0).trans rfl; have hcz20_1 : w19.cell? ⟨gb187, 1, none⟩ = some (.string a0_1) := (blk_cell BK187.out 1).trans rfl; have hcz20_2 : w19.cell? ⟨gb187, 2, none⟩ = some (.bool a0_2) := (blk_cell BK187.out 2).trans rfl; have hfz20_0 := blk_frozen BK187.out 0; have hfz20_1 := blk_frozen BK187.out 1; have hfz20_2 := blk_frozen BK187.out 2) | (go_at_call 31; (with_reducible refine (tidelineref02_Check.calls k a0_0 a0_1 a0_2 t188 _ A2.out).mono ?_); rintro e w21 ⟨rfl, hb⟩; have n0_ := Aside0.mk (blk_below (g := gb187) (o := .cells #[.string a0_0, .string a0_1, .bool a0_2] 23 (0, 0)) (by (with_reducible repeat (first | refine blk_drewN ?_ _ | refine blk_drew ?_ | refine blk_alloc ?_ _)); exact BK187.out) hb); have n1_ := Aside0.mk (below_step (by repeat (first | (with_reducible first | exact HB.out | apply below_alloc | apply pw_below_drewN | apply below_drew1 | refine below_set ?_ GE187.out) | exact HB.out)) hb); clear BK187; clear HB; have BK187 := n0_; have HB := n1_; clear n0_ n1_; (try clear hb); (try clear hb2); (try clear hk); (try clear hi))))
    go_ret2
    exact ⟨by first | rfl | (simp [errW_none, errW_some] <;> rfl) | (simp [*, errW_none, errW_some] <;> rfl), by repeat (first | (with_reducible first | exact HB.out | apply below_alloc | apply pw_below_drewN | apply below_drew1 | refine below_set ?_ GE187.out) | exact HB.out)⟩
end Go.Proofs.YtodmbjbfigifnaaGreatDoor.PAll
set_option linter.unusedVariables false
set_option linter.unusedSimpArgs false
namespace Go.Proofs.YtodmbjbfigifnaaGreatDoor.Pure
open Go.RowKit Go.Proofs.YtodmbjbfigifnaaGreatDoor.PAll Go.Proofs.YtodmbjbfigifnaaGreatDoorW.PrintWords Go.Proofs.YtodmbjbfigifnaaGreatDoorW.PrintLast Go.Proofs.YtodmbjbfigifnaaGreatDoorW.PrintMore
namespace R2
theorem tdiv16 (x : Int) (h0 : 0 ≤ x) (h1 : x < 256) : (Int.tdiv x 16) % 256 = x / 16 := by
  rw [Int.tdiv_eq_ediv_of_nonneg h0]; omega
theorem tmod16 (x : Int) (h0 : 0 ≤ x) : Int.tmod x 16 = x % 16 := Int.tmod_eq_emod_of_nonneg h0
theorem cut_hd : ∀ n : Fin 16, (⟨#[48, 49, 50, 51, 52, 53, 54, 55, 56, 57, 97, 98, 99, 100, 101, 102]⟩ : ByteArray).extract n.val (n.val + 1) = strOfNums [hdI ((n.val : Nat) : Int)] := by decide +kernel
theorem cut_hd' (n : Int) (h0 : 0 ≤ n) (h1 : n < 16) : (⟨#[48, 49, 50, 51, 52, 53, 54, 55, 56, 57, 97, 98, 99, 100, 101, 102]⟩ : ByteArray).extract n.toNat ((n + 1) % 256).toNat = strOfNums [hdI n] := by
  have := cut_hd ⟨n.toNat, by omega⟩
  rw [show ((n + 1) % 256).toNat = n.toNat + 1 by omega]
  simpa [Int.toNat_of_nonneg h0] using this
theorem son_append (a b : List Int) : strOfNums a ++ strOfNums b = strOfNums (a ++ b) := by
  apply ba_eq.1
  simp only [strOfNums, Go.ByteArray.toList_eq]
  simp
theorem son_size (l : List Int) : (strOfNums l).size = l.length := by simp [strOfNums, ByteArray.size]
theorem rhex_loop (s : ByteArray) (hs : s.size ≤ 35184372088832) (d : Nat) : ∀ i : Nat, i + d = s.size → Ev (fun k => tidelineref02_hex.l0 k s (strOfNums (hexI ((bytesOf s).take i))) (i : Int)) (hexB s) := by
  induction d with
  | zero =>
    intro i hd
    refine Ev.step (fun k => by rw [tidelineref02_hex.l0]) ?_
    simp only [if_neg (show ¬ (i : Int) < (s.size : Int) by omega)]
    rw [List.take_of_length_le (by rw [bytesOf_length]; omega)]
    exact Ev.const rfl
  | succ d ih =>
    intro i hd
    refine Ev.step (fun k => by rw [tidelineref02_hex.l0]) ?_
    have hl : i < (bytesOf s).length := by rw [bytesOf_length]; omega
    rw [bt_nat s i hl]
    have hb := byte_bd s _ (List.getElem_mem hl)
    have hih := ih (i + 1) (by omega)
    rw [take_snoc _ i hl, hexI_append] at hih
    have hlen : (hexI ((bytesOf s).take i)).length ≤ 2 * i := by rw [hexI_length, List.length_take]; omega
    generalize hx : (bytesOf s)[i] = x at hb hih
    rw [tdiv16 x hb.1 hb.2, tmod16 x hb.1]
    rw [cut_hd' (x / 16) (by omega) (by omega), cut_hd' (x % 16) (by omega) (by omega), son_append]
    simp only [if_pos (show (i : Int) < (s.size : Int) by omega), if_pos (show (0 : Int) ≤ (i : Int) by omega), if_pos (show 0 ≤ x / 16 by omega), if_pos (show x / 16 ≤ (x / 16 + 1) % 256 by omega), if_pos (show (x / 16 + 1) % 256 ≤ 16 by omega),
      if_pos (show 0 ≤ x % 16 by omega), if_pos (show x % 16 ≤ (x % 16 + 1) % 256 by omega), if_pos (show (x % 16 + 1) % 256 ≤ 16 by omega), son_size, son_append, List.length_append, List.length_cons, List.length_nil,
      if_pos (show (0 + 1) + (0 + 1) ≤ 9223372036854775807 by omega), if_pos (show (hexI ((bytesOf s).take i)).length + ((0 + 1) + (0 + 1)) ≤ 9223372036854775807 by omega)]
    rw [wrap_succ (by omega)]
    exact hih
theorem rhex_f (s : ByteArray) (hs : s.size ≤ 35184372088832) : Ev (fun k => tidelineref02_hex.f k s) (hexB s) := by
  refine Ev.congr (fun k => by rw [tidelineref02_hex.f]) ?_
  exact rhex_loop s hs s.size 0 (by omega)
theorem dig_f (c : Int) (h0 : 0 ≤ c) (h1 : c < 256) : Ev (fun k => tidelineref02_digit.f k c) (nibI c) := by
  have g : ∀ k, tidelineref02_digit.f k c = tidelineref02_digit.j0 k c (decide (48 ≤ c ∧ c ≤ 57)) := by
    intro k
    unfold tidelineref02_digit.f
    by_cases h : c ≥ 48
    · rw [if_pos h]; congr 1; have : 48 ≤ c := h; simp [this]
    · rw [if_neg h]; congr 1; have : ¬ 48 ≤ c := h; simp [this]
  refine Ev.congr g (Ev.step (fun k => by rw [tidelineref02_digit.j0]) ?_)
  unfold nibI
  by_cases h : 48 ≤ c ∧ c ≤ 57
  · simp only [decide_eq_true h, if_true, if_pos h]
    exact Ev.const (by rw [show (c - 48) % 256 = c - 48 by omega])
  · simp only [decide_eq_false h, if_neg (show ¬ (false = true) by decide), if_neg h]
    by_cases h2 : c ≥ 97
    · simp only [if_pos h2]
      by_cases h3 : c ≤ 102
      · simp only [if_pos h3, if_pos (show 97 ≤ c ∧ c ≤ 102 from ⟨h2, h3⟩)]
        exact Ev.const (by rw [show (c - 97) % 256 + 10 = c - 87 by omega])
      · simp only [if_neg h3, if_neg (show ¬ (97 ≤ c ∧ c ≤ 102) by omega)]; exact Ev.const rfl
    · simp only [if_neg h2, if_neg (show ¬ (97 ≤ c ∧ c ≤ 102) by omega)]; exact Ev.const rfl
theorem drop_two {l : List Int} {i : Nat} (h : i + 1 < l.length) : l.drop i = l[i] :: l[i + 1] :: l.drop (i + 2) := by
  rw [List.drop_eq_getElem_cons (show i < l.length by omega), List.drop_eq_getElem_cons h]
/-- What the document's unhex answers. -/
def runhE (s : ByteArray) : ByteArray × Bool := match unhexI (bytesOf s) with | some l => (strOfNums l, true) | none => (⟨#[]⟩, false)
theorem runhex_loop (s : ByteArray) (hs : s.size ≤ 70368744177664) (d : Nat) : ∀ (i : Nat) (acc : List Int), i + 2 * d = s.size → acc.length ≤ i →
    Ev (fun k => tidelineref02_unhex.l0 k s acc (i : Int)) (match unhexI ((bytesOf s).drop i) with | some l => (strOfNums (acc ++ l), true) | none => (⟨#[]⟩, false)) := by
  induction d with
  | zero =>
    intro i acc hi ha
    refine Ev.step (fun k => by rw [tidelineref02_unhex.l0]) ?_
    simp only [if_neg (show ¬ (i : Int) < (s.size : Int) by omega)]
    rw [List.drop_of_length_le (by rw [bytesOf_length]; omega)]
    simp only [unhexI, List.append_nil]
    exact Ev.const rfl
  | succ d ih =>
    intro i acc hi ha
    refine Ev.step (fun k => by rw [tidelineref02_unhex.l0]) ?_
    have hl : i + 1 < (bytesOf s).length := by rw [bytesOf_length]; omega
    rw [wrap_succ (by omega), bt_nat s i (by omega), bt_nat s (i + 1) hl]
    simp only [if_pos (show (i : Int) < (s.size : Int) by omega), if_pos (show (0 : Int) ≤ (i : Int) by omega), if_pos (show (0 : Int) ≤ ((i + 1 : Nat) : Int) by omega), if_pos (show ((i + 1 : Nat) : Int) < (s.size : Int) by omega), if_pos (show acc.length < 140737488355328 by omega)]
    have hb0 := byte_bd s _ (List.getElem_mem (show i < (bytesOf s).length by omega))
    have hb1 := byte_bd s _ (List.getElem_mem hl)
    have hih := fun v => ih (i + 2) (acc ++ [v]) (by omega) (by simp; omega)
    rw [drop_two hl]
    generalize (bytesOf s)[i] = a at *
    generalize (bytesOf s)[i + 1] = b at *
    refine Ev.bind (dig_f a hb0.1 hb0.2) (Ev.bind (dig_f b hb1.1 hb1.2) ?_)
    have na := nibI_bd a
    have nb := nibI_bd b
    by_cases ha' : 0 ≤ nibI a
    · by_cases hb' : 0 ≤ nibI b
      · simp only [if_neg (show ¬ nibI a < 0 by omega), if_neg (show ¬ nibI b < 0 by omega), unhexI, if_pos (show 0 ≤ nibI a ∧ 0 ≤ nibI b from ⟨ha', hb'⟩)]
        rw [wrap_id (x := 16 * nibI a) (by omega) (by omega), wrap_id (x := 16 * nibI a + nibI b) (by omega) (by omega), show (16 * nibI a + nibI b) % 256 = 16 * nibI a + nibI b by omega, show wrap64 ((i : Int) + 2) = ((i + 2 : Nat) : Int) by rw [wrap_id (by omega) (by omega)]; rfl]
        refine Ev.val (hih _) ?_
        cases unhexI ((bytesOf s).drop (i + 2)) <;> simp
      · simp only [if_neg (show ¬ nibI a < 0 by omega), if_pos (show nibI b < 0 by omega), unhexI, if_neg (show ¬ (0 ≤ nibI a ∧ 0 ≤ nibI b) from fun h => hb' h.2)]
        exact Ev.const rfl
    · simp only [if_pos (show nibI a < 0 by omega), unhexI, if_neg (show ¬ (0 ≤ nibI a ∧ 0 ≤ nibI b) from fun h => ha' h.1)]
      exact Ev.const rfl
theorem runhex_f (s : ByteArray) (hs : s.size ≤ 70368744177664) : Ev (fun k => tidelineref02_unhex.f k s) (runhE s) := by
  refine Ev.congr (fun k => by rw [tidelineref02_unhex.f]) ?_
  unfold runhE
  by_cases h : (s.size : Int) % 2 = 0
  · simp only [if_pos h]
    have := runhex_loop s hs (s.size / 2) 0 [] (by omega) (by simp)
    rw [List.drop_zero] at this
    exact this
  · simp only [if_neg h]
    rw [unhexI_odd _ (s.size / 2) (by rw [bytesOf_length]; omega)]
    exact Ev.const rfl
end R2
end Go.Proofs.YtodmbjbfigifnaaGreatDoor.Pure
set_option linter.unusedVariables false
set_option linter.unusedSimpArgs false
namespace Go.Proofs.YtodmbjbfigifnaaGreatDoor.Pure
open Go.RowKit Go.Proofs.YtodmbjbfigifnaaGreatDoor.PAll Go.Proofs.YtodmbjbfigifnaaGreatDoorW.PrintWords Go.Proofs.YtodmbjbfigifnaaGreatDoorW.PrintLast Go.Proofs.YtodmbjbfigifnaaGreatDoorW.PrintMore
open R2
theorem pre2 (l : List UInt8) : ([46, 46] : List UInt8).isPrefixOf l = true ↔ l.take 2 = [46, 46] := by
  match l with
  | [] => simp
  | [a] => simp
  | a :: b :: r =>
    simp only [List.isPrefixOf_cons_cons, List.take_succ_cons, List.take_zero, Bool.and_eq_true, beq_iff_eq, List.isPrefixOf_nil_left, and_true, List.cons.injEq]
    constructor
    · rintro ⟨h1, h2⟩; exact ⟨h1.symm, h2.symm⟩
    · rintro ⟨h1, h2⟩; exact ⟨h1.symm, h2.symm⟩
theorem dots_iff (s : ByteArray) (i : Nat) : (s.extract i (i + 2)).toList = ([46, 46] : List UInt8) ↔ Lib.occAt s.data.toList [46, 46] i = true := by
  unfold Lib.occAt
  rw [pre2, Go.ByteArray.toList_eq, Lib.extract_eq]
  simp only [Nat.add_sub_cancel_left]
/-- Nothing was said. -/
def nonP : ByteArray × ByteArray × Bool × Int := ((⟨#[]⟩ : ByteArray), (⟨#[]⟩ : ByteArray), false, 23)
theorem rp_skip (s : ByteArray) (hs : s.size ≤ 140737488351232) (n : Nat) (hn : n ≤ 33) (r : ByteArray × ByteArray × Bool × Int) (h : ∀ j, j < n → j + 2 ≤ s.size ∧ Lib.occAt s.data.toList [46, 46] j = false)
    (hr : Ev (fun k => tidelineref02_Parse.l0 k s (n : Int)) r) (d : Nat) : ∀ i : Nat, i + d = n → Ev (fun k => tidelineref02_Parse.l0 k s (i : Int)) r := by
  induction d with
  | zero => intro i hi; rw [show i = n by omega]; exact hr
  | succ d ih =>
    intro i hi
    obtain ⟨h1, h2⟩ := h i (by omega)
    have hnd : ¬ (s.extract i (i + 2)).toList = ([46, 46] : List UInt8) := by rw [dots_iff, h2]; simp
    refine Ev.step (fun k => by rw [tidelineref02_Parse.l0]) ?_
    have e2 : wrap64 ((i : Int) + 2) = ((i + 2 : Nat) : Int) := by rw [wrap_id (by omega) (by omega)]; rfl
    rw [e2]
    simp only [if_pos (show ((i + 2 : Nat) : Int) ≤ (s.size : Int) by omega), decide_eq_true (show (i : Int) ≤ 32 by omega)]
    refine Ev.step (fun k => by rw [tidelineref02_Parse.j1]) ?_
    rw [e2]
    simp only [if_true, if_pos (show (0 : Int) ≤ (i : Int) by omega), if_pos (show (i : Int) ≤ ((i + 2 : Nat) : Int) by omega), if_pos (show ((i + 2 : Nat) : Int) ≤ (s.size : Int) by omega), Int.toNat_natCast, if_neg hnd]
    rw [wrap_succ (by omega)]
    exact ih (i + 1) (by omega)
theorem rp_end (s : ByteArray) (i : Nat) (hs : s.size ≤ 140737488351232) (h : s.size < i + 2 ∨ 32 < i) (hi : i ≤ 140737488351232) : Ev (fun k => tidelineref02_Parse.l0 k s (i : Int)) nonP := by
  refine Ev.step (fun k => by rw [tidelineref02_Parse.l0]) ?_
  have e2 : wrap64 ((i : Int) + 2) = ((i + 2 : Nat) : Int) := by rw [wrap_id (by omega) (by omega)]; rfl
  rw [e2]
  have J : Ev (fun k => tidelineref02_Parse.j1 k s (i : Int) false) nonP := by
    refine Ev.step (fun k => by rw [tidelineref02_Parse.j1]) ?_
    simp only [if_neg (show ¬ (false = true) by decide)]
    exact Ev.const rfl
  by_cases h1 : ((i + 2 : Nat) : Int) ≤ (s.size : Int)
  · simp only [if_pos h1, decide_eq_false (show ¬ (i : Int) ≤ 32 by omega)]; exact J
  · simp only [if_neg h1]; exact J
theorem unhE_run (s : ByteArray) : (R2.runhE s).1 = (unhE s).1 ∧ ((R2.runhE s).2 = true ↔ (unhE s).2 = 0) := by
  unfold R2.runhE unhE
  cases unhexI (bytesOf s) <;> simp
theorem unhE_nil : unhE (⟨#[]⟩ : ByteArray) = (⟨#[]⟩, 0) := unhE_hexB (⟨#[]⟩ : ByteArray)
theorem unhE_size (t : ByteArray) (h : (unhE t).2 = 0) : 2 * (unhE t).1.size = t.size := by
  have := congrArg ByteArray.size (hexB_unhE t h)
  rw [hexB_size] at this
  exact this
theorem rgE_sz {lo hi : ByteArray} {op : Bool} (h : rgE lo hi op = 0) : lo.size ≤ 16 ∧ hi.size ≤ 16 := by
  unfold rgE at h
  split at h
  · simp at h
  · omega
theorem size_extract (s : ByteArray) (a b : Nat) (hb : b ≤ s.size) : (s.extract a b).size = b - a := by
  rw [ByteArray.size_extract]; omega
theorem rp_hit (s : ByteArray) (hs : s.size ≤ 140737488351232) (n : Nat) (hn : n ≤ 32) (h2 : n + 2 ≤ s.size) (ho : Lib.occAt s.data.toList [46, 46] n = true) :
    Ev (fun k => tidelineref02_Parse.l0 k s (n : Int)) (parV (s.extract 0 n) (s.extract (n + 2) s.size) true) := by
  have hnd : (s.extract n (n + 2)).toList = ([46, 46] : List UInt8) := (dots_iff s n).2 ho
  refine Ev.step (fun k => by rw [tidelineref02_Parse.l0]) ?_
  have e2 : wrap64 ((n : Int) + 2) = ((n + 2 : Nat) : Int) := by rw [wrap_id (by omega) (by omega)]; rfl
  rw [e2]
  simp only [if_pos (show ((n + 2 : Nat) : Int) ≤ (s.size : Int) by omega), decide_eq_true (show (n : Int) ≤ 32 by omega)]
  refine Ev.step (fun k => by rw [tidelineref02_Parse.j1]) ?_
  rw [e2]
  simp only [if_true, if_pos (show (0 : Int) ≤ (n : Int) by omega), if_pos (show (n : Int) ≤ ((n + 2 : Nat) : Int) by omega), if_pos (show ((n + 2 : Nat) : Int) ≤ (s.size : Int) by omega), if_pos (show (n : Int) ≤ (s.size : Int) by omega), if_pos (show (0 : Int) ≤ ((n + 2 : Nat) : Int) by omega), Int.toNat_natCast, if_pos hnd]
  have sl := size_extract s 0 n (by omega)
  have sh := size_extract s (n + 2) s.size (by omega)
  generalize s.extract 0 n = lo at *
  generalize s.extract (n + 2) s.size = hi at *
  refine Ev.bind (R2.runhex_f lo (by omega)) ?_
  obtain ⟨r1, r2⟩ := unhE_run lo
  obtain ⟨q1, q2⟩ := unhE_run hi
  unfold parV
  by_cases h : hi.toList = ([42] : List UInt8)
  · have e : (hi.toList == ([42] : List UInt8)) = true := by simpa using h
    simp only [if_pos h, e, if_true, unhE_nil]
    by_cases ho2 : (unhE lo).2 = 0
    · simp only [if_pos (r2.2 ho2), r1]
      refine Ev.bind (rgE_ref _ _ true) ?_
      by_cases h4 : rgE (unhE lo).1 (⟨#[]⟩ : ByteArray) true = 0
      · simp only [if_pos h4, h4, ho2, and_self, if_true]; exact Ev.const rfl
      · simp only [if_neg h4, h4, and_false, if_false]; exact Ev.const rfl
    · have : ¬ (R2.runhE lo).2 = true := fun hh => ho2 (r2.1 hh)
      simp only [if_neg this, ho2, false_and, and_false, if_false]; exact Ev.const rfl
  · have e : (hi.toList == ([42] : List UInt8)) = false := by simpa using h
    simp only [if_neg h, e, if_neg (show ¬ (false = true) by decide)]
    by_cases hz : s.size ≤ 66
    · simp only [if_pos (show (s.size : Int) ≤ 66 by omega)]
      refine Ev.bind (R2.runhex_f hi (by omega)) ?_
      by_cases ho2 : (unhE lo).2 = 0
      · simp only [if_pos (r2.2 ho2), r1]
        by_cases ho3 : (unhE hi).2 = 0
        · simp only [if_pos (q2.2 ho3), q1]
          refine Ev.bind (rgE_ref _ _ false) ?_
          by_cases h4 : rgE (unhE lo).1 (unhE hi).1 false = 0
          · simp only [if_pos h4, h4, ho2, ho3, and_self, if_true]; exact Ev.const rfl
          · simp only [if_neg h4, h4, and_false, if_false]; exact Ev.const rfl
        · have : ¬ (R2.runhE hi).2 = true := fun hh => ho3 (q2.1 hh)
          simp only [if_neg this, ho3, false_and, and_false, if_false]; exact Ev.const rfl
      · have : ¬ (R2.runhE lo).2 = true := fun hh => ho2 (r2.1 hh)
        simp only [if_neg this, ho2, false_and, and_false, if_false]; exact Ev.const rfl
    · simp only [if_neg (show ¬ (s.size : Int) ≤ 66 by omega), ite_self]
      refine Ev.const ?_
      rw [if_neg]
      rintro ⟨_, _, h3, h4⟩
      have := unhE_size hi h3
      have := (rgE_sz h4).2
      omega
/-- The document's Parse is Parse. -/
theorem rparse_of (s lo hi : ByteArray) (ok : Bool) (hs : s.size < 4294967281) (hc : strings_Cut.f s (⟨#[46, 46]⟩ : ByteArray) = some (lo, hi, ok)) :
    Ev (fun k => tidelineref02_Parse.f k s) (parV lo hi ok) ∧ lo.size ≤ s.size ∧ hi.size ≤ s.size := by
  unfold strings_Cut.f at hc
  rw [if_pos hs] at hc
  simp only [Option.some.injEq, Prod.mk.injEq] at hc
  have e : ∀ r, Ev (fun k => tidelineref02_Parse.l0 k s ((0 : Nat) : Int)) r → Ev (fun k => tidelineref02_Parse.f k s) r := fun r h => Ev.congr (fun k => by rw [tidelineref02_Parse.f]; rfl) h
  rcases Lib.index_spec s.data.toList (⟨#[46, 46]⟩ : ByteArray).data.toList with ⟨hm, hno⟩ | ⟨n, hn, hnl, ho, hno⟩
  · obtain ⟨c1, c2, c3⟩ := Lib.cutB_miss s (⟨#[46, 46]⟩ : ByteArray) hm
    rw [c1, c2, c3] at hc
    obtain ⟨rfl, rfl, rfl⟩ := hc
    refine ⟨?_, Nat.le_refl _, Nat.zero_le _⟩
    have ep : parV s ByteArray.empty false = nonP := by unfold parV nonP; simp
    rw [ep]
    refine e _ (rp_skip s (by omega) (min 33 (s.size - 1)) (by omega) _ ?_ (rp_end s _ (by omega) (by omega) (by omega)) (min 33 (s.size - 1)) 0 (by omega))
    intro j hj
    exact ⟨by omega, hno j (by rw [Array.length_toList]; show j ≤ s.size; omega)⟩
  · have hroom : n + 2 ≤ s.size := by
      rcases Lib.indexB_cases s (⟨#[46, 46]⟩ : ByteArray) with h | ⟨i, h, h'⟩
      · have : Lib.index s.data.toList (⟨#[46, 46]⟩ : ByteArray).data.toList = -1 := h
        omega
      · have h2 : Lib.index s.data.toList (⟨#[46, 46]⟩ : ByteArray).data.toList = (i : Int) := h
        have h3 : i + 2 ≤ s.size := h'
        omega
    obtain ⟨c1, c2, c3⟩ := Lib.cutB_hit s (⟨#[46, 46]⟩ : ByteArray) n hn
    rw [c1, c2, c3] at hc
    have z : (⟨#[46, 46]⟩ : ByteArray).size = 2 := rfl
    rw [z] at hc
    obtain ⟨rfl, rfl, rfl⟩ := hc
    have sl := size_extract s 0 n (by omega)
    have sh := size_extract s (n + 2) s.size (by omega)
    refine ⟨?_, by omega, by omega⟩
    by_cases hb : n ≤ 32
    · refine e _ (rp_skip s (by omega) n (by omega) _ ?_ (rp_hit s (by omega) n hb hroom ho) n 0 (by omega))
      intro j hj
      exact ⟨by omega, hno j hj⟩
    · have ep : parV (s.extract 0 n) (s.extract (n + 2) s.size) true = nonP := by
        unfold parV nonP
        simp only
        rw [if_neg]
        rintro ⟨_, h3, _, h4⟩
        have := unhE_size _ h3
        have := (rgE_sz h4).1
        omega
      rw [ep]
      refine e _ (rp_skip s (by omega) 33 (by omega) _ ?_ (rp_end s 33 (by omega) (by omega) (by omega)) 33 0 (by omega))
      intro j hj
      exact ⟨by omega, hno j (by omega)⟩
end Go.Proofs.YtodmbjbfigifnaaGreatDoor.Pure
set_option linter.unusedVariables false
set_option linter.unusedSimpArgs false
namespace Go.Proofs.YtodmbjbfigifnaaGreatDoor.Sc
open Go.RowKit Go.Proofs.YtodmbjbfigifnaaGreatDoor.Glob Go.Proofs.YtodmbjbfigifnaaGreatDoor.Dig Go.Proofs.YtodmbjbfigifnaaGreatDoorW.PrintWords Go.Proofs.YtodmbjbfigifnaaGreatDoor.PAll Go.Proofs.YtodmbjbfigifnaaGreatDoor.Pure
def wordP (kd : Int) : ByteArray := (tidelineref21_word.f kd).getD ⟨#[]⟩
theorem ite_ex {α : Type} {c : Prop} [Decidable c] {x : α} {e : Option α} (h : ∃ r, e = some r) : ∃ r, (if c then some x else e) = some r := by
  by_cases hc : c
  · exact ⟨x, if_pos hc⟩
  · obtain ⟨r, hr⟩ := h; exact ⟨r, (if_neg hc).trans hr⟩
theorem wordP_f (kd : Int) : tidelineref21_word.f kd = some (wordP kd) := by
  have h : ∃ r, tidelineref21_word.f kd = some r := by
    unfold tidelineref21_word.f
    repeat refine ite_ex ?_
    exact ⟨_, rfl⟩
  obtain ⟨r, h⟩ := h
  unfold wordP
  rw [h]
  rfl
/-- The last of the kinds 1 to n whose word is t. -/
def kindUpto (t : ByteArray) : Nat → Int
  | 0 => 0
  | n + 1 => if wordP ((n + 1 : Nat) : Int) = t then ((n + 1 : Nat) : Int) else kindUpto t n
theorem shape_lets : ∀ x ∈ lets, tidelineref21_shape.f 9 x.2.1 = some ⟨(x.2.2.map UInt8.ofNat).toArray⟩ := by decide +kernel
theorem shape_zero : tidelineref21_shape.f 9 0 = some ⟨#[110]⟩ := by decide +kernel
theorem w_put : wordP ((1 : Nat) : Int) = ⟨#[112, 117, 116]⟩ := by decide +kernel
theorem w_del : wordP ((2 : Nat) : Int) = ⟨#[100, 101, 108]⟩ := by decide +kernel
theorem w_get : wordP ((3 : Nat) : Int) = ⟨#[103, 101, 116]⟩ := by decide +kernel
theorem w_scan : wordP ((4 : Nat) : Int) = ⟨#[115, 99, 97, 110]⟩ := by decide +kernel
theorem w_fold : wordP ((5 : Nat) : Int) = ⟨#[102, 111, 108, 100]⟩ := by decide +kernel
theorem w_open : wordP ((6 : Nat) : Int) = ⟨#[111, 112, 101, 110]⟩ := by decide +kernel
theorem w_raw : wordP ((10 : Nat) : Int) = ⟨#[114, 97, 119]⟩ := by decide +kernel
theorem w_tick : wordP ((11 : Nat) : Int) = ⟨#[116, 105, 99, 107]⟩ := by decide +kernel
theorem w_crash : wordP ((12 : Nat) : Int) = ⟨#[99, 114, 97, 115, 104]⟩ := by decide +kernel
theorem w_start : wordP ((13 : Nat) : Int) = ⟨#[115, 116, 97, 114, 116]⟩ := by decide +kernel
theorem w_map : wordP ((14 : Nat) : Int) = ⟨#[109, 97, 112]⟩ := by decide +kernel
theorem w_talks : wordP ((15 : Nat) : Int) = ⟨#[116, 97, 108, 107, 115]⟩ := by decide +kernel
theorem w_count : wordP ((16 : Nat) : Int) = ⟨#[99, 111, 117, 110, 116]⟩ := by decide +kernel
theorem w_go : wordP ((7 : Nat) : Int) = ⟨#[103, 111]⟩ := by decide +kernel
theorem w_drop : wordP ((8 : Nat) : Int) = ⟨#[100, 114, 111, 112]⟩ := by decide +kernel
theorem w_twice : wordP ((9 : Nat) : Int) = ⟨#[116, 119, 105, 99, 101]⟩ := by decide +kernel
theorem w_bag : wordP ((17 : Nat) : Int) = ⟨#[98, 97, 103]⟩ := by decide +kernel
theorem kind_look (t : ByteArray) : kindUpto t 17 = match lets.lookup t with | none => 0 | some x => x.1 := by
  by_cases h_put : t = ⟨#[112, 117, 116]⟩
  · subst h_put; decide +kernel
  by_cases h_del : t = ⟨#[100, 101, 108]⟩
  · subst h_del; decide +kernel
  by_cases h_get : t = ⟨#[103, 101, 116]⟩
  · subst h_get; decide +kernel
  by_cases h_scan : t = ⟨#[115, 99, 97, 110]⟩
  · subst h_scan; decide +kernel
  by_cases h_fold : t = ⟨#[102, 111, 108, 100]⟩
  · subst h_fold; decide +kernel
  by_cases h_open : t = ⟨#[111, 112, 101, 110]⟩
  · subst h_open; decide +kernel
  by_cases h_raw : t = ⟨#[114, 97, 119]⟩
  · subst h_raw; decide +kernel
  by_cases h_tick : t = ⟨#[116, 105, 99, 107]⟩
  · subst h_tick; decide +kernel
  by_cases h_crash : t = ⟨#[99, 114, 97, 115, 104]⟩
  · subst h_crash; decide +kernel
  by_cases h_start : t = ⟨#[115, 116, 97, 114, 116]⟩
  · subst h_start; decide +kernel
  by_cases h_map : t = ⟨#[109, 97, 112]⟩
  · subst h_map; decide +kernel
  by_cases h_talks : t = ⟨#[116, 97, 108, 107, 115]⟩
  · subst h_talks; decide +kernel
  by_cases h_count : t = ⟨#[99, 111, 117, 110, 116]⟩
  · subst h_count; decide +kernel
  by_cases h_go : t = ⟨#[103, 111]⟩
  · subst h_go; decide +kernel
  by_cases h_drop : t = ⟨#[100, 114, 111, 112]⟩
  · subst h_drop; decide +kernel
  by_cases h_twice : t = ⟨#[116, 119, 105, 99, 101]⟩
  · subst h_twice; decide +kernel
  by_cases h_bag : t = ⟨#[98, 97, 103]⟩
  · subst h_bag; decide +kernel
  have e_put : (t == ⟨#[112, 117, 116]⟩) = false := by rw [Bool.eq_false_iff]; exact fun e => h_put ((MapKept.bytes_beq _ _).1 e)
  have f_put : ¬ (⟨#[112, 117, 116]⟩ : ByteArray) = t := fun e => h_put e.symm
  have e_del : (t == ⟨#[100, 101, 108]⟩) = false := by rw [Bool.eq_false_iff]; exact fun e => h_del ((MapKept.bytes_beq _ _).1 e)
  have f_del : ¬ (⟨#[100, 101, 108]⟩ : ByteArray) = t := fun e => h_del e.symm
  have e_get : (t == ⟨#[103, 101, 116]⟩) = false := by rw [Bool.eq_false_iff]; exact fun e => h_get ((MapKept.bytes_beq _ _).1 e)
  have f_get : ¬ (⟨#[103, 101, 116]⟩ : ByteArray) = t := fun e => h_get e.symm
  have e_scan : (t == ⟨#[115, 99, 97, 110]⟩) = false := by rw [Bool.eq_false_iff]; exact fun e => h_scan ((MapKept.bytes_beq _ _).1 e)
  have f_scan : ¬ (⟨#[115, 99, 97, 110]⟩ : ByteArray) = t := fun e => h_scan e.symm
  have e_fold : (t == ⟨#[102, 111, 108, 100]⟩) = false := by rw [Bool.eq_false_iff]; exact fun e => h_fold ((MapKept.bytes_beq _ _).1 e)
  have f_fold : ¬ (⟨#[102, 111, 108, 100]⟩ : ByteArray) = t := fun e => h_fold e.symm
  have e_open : (t == ⟨#[111, 112, 101, 110]⟩) = false := by rw [Bool.eq_false_iff]; exact fun e => h_open ((MapKept.bytes_beq _ _).1 e)
  have f_open : ¬ (⟨#[111, 112, 101, 110]⟩ : ByteArray) = t := fun e => h_open e.symm
  have e_raw : (t == ⟨#[114, 97, 119]⟩) = false := by rw [Bool.eq_false_iff]; exact fun e => h_raw ((MapKept.bytes_beq _ _).1 e)
  have f_raw : ¬ (⟨#[114, 97, 119]⟩ : ByteArray) = t := fun e => h_raw e.symm
  have e_tick : (t == ⟨#[116, 105, 99, 107]⟩) = false := by rw [Bool.eq_false_iff]; exact fun e => h_tick ((MapKept.bytes_beq _ _).1 e)
  have f_tick : ¬ (⟨#[116, 105, 99, 107]⟩ : ByteArray) = t := fun e => h_tick e.symm
  have e_crash : (t == ⟨#[99, 114, 97, 115, 104]⟩) = false := by rw [Bool.eq_false_iff]; exact fun e => h_crash ((MapKept.bytes_beq _ _).1 e)
  have f_crash : ¬ (⟨#[99, 114, 97, 115, 104]⟩ : ByteArray) = t := fun e => h_crash e.symm
  have e_start : (t == ⟨#[115, 116, 97, 114, 116]⟩) = false := by rw [Bool.eq_false_iff]; exact fun e => h_start ((MapKept.bytes_beq _ _).1 e)
  have f_start : ¬ (⟨#[115, 116, 97, 114, 116]⟩ : ByteArray) = t := fun e => h_start e.symm
  have e_map : (t == ⟨#[109, 97, 112]⟩) = false := by rw [Bool.eq_false_iff]; exact fun e => h_map ((MapKept.bytes_beq _ _).1 e)
  have f_map : ¬ (⟨#[109, 97, 112]⟩ : ByteArray) = t := fun e => h_map e.symm
  have e_talks : (t == ⟨#[116, 97, 108, 107, 115]⟩) = false := by rw [Bool.eq_false_iff]; exact fun e => h_talks ((MapKept.bytes_beq _ _).1 e)
  have f_talks : ¬ (⟨#[116, 97, 108, 107, 115]⟩ : ByteArray) = t := fun e => h_talks e.symm
  have e_count : (t == ⟨#[99, 111, 117, 110, 116]⟩) = false := by rw [Bool.eq_false_iff]; exact fun e => h_count ((MapKept.bytes_beq _ _).1 e)
  have f_count : ¬ (⟨#[99, 111, 117, 110, 116]⟩ : ByteArray) = t := fun e => h_count e.symm
  have e_go : (t == ⟨#[103, 111]⟩) = false := by rw [Bool.eq_false_iff]; exact fun e => h_go ((MapKept.bytes_beq _ _).1 e)
  have f_go : ¬ (⟨#[103, 111]⟩ : ByteArray) = t := fun e => h_go e.symm
  have e_drop : (t == ⟨#[100, 114, 111, 112]⟩) = false := by rw [Bool.eq_false_iff]; exact fun e => h_drop ((MapKept.bytes_beq _ _).1 e)
  have f_drop : ¬ (⟨#[100, 114, 111, 112]⟩ : ByteArray) = t := fun e => h_drop e.symm
  have e_twice : (t == ⟨#[116, 119, 105, 99, 101]⟩) = false := by rw [Bool.eq_false_iff]; exact fun e => h_twice ((MapKept.bytes_beq _ _).1 e)
  have f_twice : ¬ (⟨#[116, 119, 105, 99, 101]⟩ : ByteArray) = t := fun e => h_twice e.symm
  have e_bag : (t == ⟨#[98, 97, 103]⟩) = false := by rw [Bool.eq_false_iff]; exact fun e => h_bag ((MapKept.bytes_beq _ _).1 e)
  have f_bag : ¬ (⟨#[98, 97, 103]⟩ : ByteArray) = t := fun e => h_bag e.symm
  have hl : lets.lookup t = none := by
    unfold lets
    simp only [List.lookup_cons, List.lookup_nil, e_put, e_del, e_get, e_scan, e_fold, e_open, e_raw, e_tick, e_crash, e_start, e_map, e_talks, e_count, e_go, e_drop, e_twice, e_bag]
  rw [hl]
  rw [show kindUpto t 17 = if wordP ((17 : Nat) : Int) = t then ((17 : Nat) : Int) else kindUpto t 16 from rfl, w_bag, if_neg f_bag]
  rw [show kindUpto t 16 = if wordP ((16 : Nat) : Int) = t then ((16 : Nat) : Int) else kindUpto t 15 from rfl, w_count, if_neg f_count]
  rw [show kindUpto t 15 = if wordP ((15 : Nat) : Int) = t then ((15 : Nat) : Int) else kindUpto t 14 from rfl, w_talks, if_neg f_talks]
  rw [show kindUpto t 14 = if wordP ((14 : Nat) : Int) = t then ((14 : Nat) : Int) else kindUpto t 13 from rfl, w_map, if_neg f_map]
  rw [show kindUpto t 13 = if wordP ((13 : Nat) : Int) = t then ((13 : Nat) : Int) else kindUpto t 12 from rfl, w_start, if_neg f_start]
  rw [show kindUpto t 12 = if wordP ((12 : Nat) : Int) = t then ((12 : Nat) : Int) else kindUpto t 11 from rfl, w_crash, if_neg f_crash]
  rw [show kindUpto t 11 = if wordP ((11 : Nat) : Int) = t then ((11 : Nat) : Int) else kindUpto t 10 from rfl, w_tick, if_neg f_tick]
  rw [show kindUpto t 10 = if wordP ((10 : Nat) : Int) = t then ((10 : Nat) : Int) else kindUpto t 9 from rfl, w_raw, if_neg f_raw]
  rw [show kindUpto t 9 = if wordP ((9 : Nat) : Int) = t then ((9 : Nat) : Int) else kindUpto t 8 from rfl, w_twice, if_neg f_twice]
  rw [show kindUpto t 8 = if wordP ((8 : Nat) : Int) = t then ((8 : Nat) : Int) else kindUpto t 7 from rfl, w_drop, if_neg f_drop]
  rw [show kindUpto t 7 = if wordP ((7 : Nat) : Int) = t then ((7 : Nat) : Int) else kindUpto t 6 from rfl, w_go, if_neg f_go]
  rw [show kindUpto t 6 = if wordP ((6 : Nat) : Int) = t then ((6 : Nat) : Int) else kindUpto t 5 from rfl, w_open, if_neg f_open]
  rw [show kindUpto t 5 = if wordP ((5 : Nat) : Int) = t then ((5 : Nat) : Int) else kindUpto t 4 from rfl, w_fold, if_neg f_fold]
  rw [show kindUpto t 4 = if wordP ((4 : Nat) : Int) = t then ((4 : Nat) : Int) else kindUpto t 3 from rfl, w_scan, if_neg f_scan]
  rw [show kindUpto t 3 = if wordP ((3 : Nat) : Int) = t then ((3 : Nat) : Int) else kindUpto t 2 from rfl, w_get, if_neg f_get]
  rw [show kindUpto t 2 = if wordP ((2 : Nat) : Int) = t then ((2 : Nat) : Int) else kindUpto t 1 from rfl, w_del, if_neg f_del]
  rw [show kindUpto t 1 = if wordP ((1 : Nat) : Int) = t then ((1 : Nat) : Int) else kindUpto t 0 from rfl, w_put, if_neg f_put]
  rfl
end Go.Proofs.YtodmbjbfigifnaaGreatDoor.Sc
set_option linter.unusedVariables false
set_option linter.unusedSimpArgs false
namespace Go.Proofs.YtodmbjbfigifnaaGreatDoor.Sc
open Go.RowKit Go.Proofs.YtodmbjbfigifnaaGreatDoor.Glob Go.Proofs.YtodmbjbfigifnaaGreatDoor.Dig Go.Proofs.YtodmbjbfigifnaaGreatDoorW.PrintWords Go.Proofs.YtodmbjbfigifnaaGreatDoor.PAll Go.Proofs.YtodmbjbfigifnaaGreatDoor.Pure
theorem bt_list0 (s : ByteArray) (h : 0 < s.size) : ∃ b l, s.data.toList = b :: l ∧ bt s 0 = (b.toNat : Int) := by
  have hl : 0 < s.data.toList.length := by rw [show s.data.toList.length = s.size from Array.length_toList]; exact h
  cases hs : s.data.toList with
  | nil => rw [hs] at hl; simp at hl
  | cons b l =>
    refine ⟨b, l, rfl, ?_⟩
    have := Dig.bt_nat s 0 hl
    rw [show (0 : Int) = ((0 : Nat) : Int) from rfl, this]
    simp [hs]
theorem rbytes_f (c : UInt8) (t : ByteArray) (ht : t.size ≤ 400) : ∃ r ok, Ev (fun k => tidelineref21_bytes.f k t (c.toNat : Int)) (r, ok) ∧ (match bytW c t with | some s => ok = true ∧ r = s | none => ok = false) := by
  by_cases h0 : t.toList = ([] : List UInt8)
  · refine ⟨⟨#[]⟩, false, Ev.congr (fun k => by rw [tidelineref21_bytes.f, if_pos h0]) (Ev.const rfl), ?_⟩
    have h1 : t.size = 0 := (toList_nil t).1 h0
    have h2 : t.data.toList = [] := List.eq_nil_of_length_eq_zero ((show t.data.toList.length = t.size from Array.length_toList).trans h1)
    unfold bytW
    rw [if_neg (by rw [h2]; simp [Lib.hasPrefix])]
  · have h1 : 0 < t.size := Nat.pos_of_ne_zero fun e => h0 ((toList_nil t).2 e)
    obtain ⟨b, l, hbl, hb⟩ := bt_list0 t h1
    have hpre : Lib.hasPrefix t.data.toList [c] = true ↔ b = c := by
      rw [hbl]
      unfold Lib.hasPrefix
      simp [List.isPrefixOf]
      exact ⟨fun e => e.symm, fun e => e.symm⟩
    by_cases hc : b = c
    · have hbt : bt t 0 = (c.toNat : Int) := by rw [hb, hc]
      refine ⟨(unhE (t.extract 1 t.size)).1, ((unhE (t.extract 1 t.size)).2 == 0), Ev.congr (fun k => by rw [tidelineref21_bytes.f, if_neg h0, if_pos (by omega), if_pos hbt, if_pos (by omega)]) (Ev.bind (runhex_f (t.extract 1 t.size) (by have := ext_size t 1; omega)) (Ev.const rfl)), ?_⟩
      unfold bytW
      rw [if_pos (hpre.2 hc)]
      by_cases hu : (unhE (t.extract 1 t.size)).2 = 0
      · rw [if_pos hu]; exact ⟨by rw [hu]; rfl, rfl⟩
      · rw [if_neg hu]; exact beq_eq_false_iff_ne.2 hu
    · have hbt : ¬ bt t 0 = (c.toNat : Int) := by rw [hb]; exact fun e => hc (UInt8.toNat_inj.1 (by omega))
      refine ⟨⟨#[]⟩, false, Ev.congr (fun k => by rw [tidelineref21_bytes.f, if_neg h0, if_pos (by omega), if_neg hbt]) (Ev.const rfl), ?_⟩
      unfold bytW
      rw [if_neg (fun e => hc (hpre.1 e))]
theorem rspan_f (t : ByteArray) (ht : t.size ≤ 400) : Ev (fun k => tidelineref02_Parse.f k t) (spV t) := by
  obtain ⟨lo, hi, ok, hc, _, _⟩ := cut_le t ht
  have e : spV t = parV lo hi ok := by unfold spV; rw [hc]
  rw [e]
  exact (rparse_of t lo hi ok (by omega) hc).1
theorem rfield_f (o : OpT) {c : Nat} (hc : isLet c) (t : ByteArray) (ht : t.size ≤ 400) :
    ∃ (r : OpT) (ok : Bool), Ev (fun k => tidelineref21_field.f k o.f0 o.f1 o.f2 o.f3 o.f4 o.f5 o.f6.f0 o.f6.f1 o.f6.f2 ((c : Nat) : Int) t) (r.f0, r.f1, r.f2, r.f3, r.f4, r.f5, r.f6.f0, r.f6.f1, r.f6.f2, ok) ∧ (match fieldW c t o with | some o' => ok = true ∧ r = o' | none => ok = false) := by
  have hn := ref_f t (by omega) 9223372036854775807
  have num : ∀ (f : Int → OpT), (match (numW t).map f with | some o' => ((numP t.data.toList 9223372036854775807).2 == 0) = true ∧ f (numP t.data.toList 9223372036854775807).1 = o' | none => ((numP t.data.toList 9223372036854775807).2 == 0) = false) := by
    intro f
    unfold numW
    by_cases h : (numP t.data.toList 9223372036854775807).2 = 0
    · rw [if_pos h]; exact ⟨by rw [h]; rfl, rfl⟩
    · rw [if_neg h]; exact beq_eq_false_iff_ne.2 h
  rcases hc with rfl | rfl | rfl | rfl | rfl | rfl
  · exact ⟨{ o with f1 := (numP t.data.toList 9223372036854775807).1 }, _, Ev.congr (fun k => by rw [tidelineref21_field.f]) (Ev.bind hn (Ev.const rfl)), num _⟩
  · exact ⟨{ o with f2 := (numP t.data.toList 9223372036854775807).1 }, _, Ev.congr (fun k => by rw [tidelineref21_field.f]) (Ev.bind hn (Ev.const rfl)), num _⟩
  · exact ⟨{ o with f3 := (numP t.data.toList 9223372036854775807).1 }, _, Ev.congr (fun k => by rw [tidelineref21_field.f]) (Ev.bind hn (Ev.const rfl)), num _⟩
  · obtain ⟨r, ok, hev, hm⟩ := rbytes_f 107 t ht
    have h2 : Ev (fun k => (tidelineref21_bytes.f k t 107).bind fun bt => some (o.f0, o.f1, o.f2, o.f3, bt.1, o.f5, o.f6.f0, o.f6.f1, o.f6.f2, bt.2)) (o.f0, o.f1, o.f2, o.f3, r, o.f5, o.f6.f0, o.f6.f1, o.f6.f2, ok) := Ev.bind hev (Ev.const rfl)
    refine ⟨{ o with f4 := r }, ok, Ev.congr (fun k => by rw [tidelineref21_field.f]) (Ev.bind hn (Ev.congr (fun k => rfl) h2)), ?_⟩
    have e : fieldW 107 t o = (bytW 107 t).map fun s => { o with f4 := s } := rfl
    rw [e]
    cases hb : bytW 107 t with
    | none => rw [hb] at hm; exact hm
    | some s => rw [hb] at hm; exact ⟨hm.1, by rw [hm.2]⟩
  · obtain ⟨r, ok, hev, hm⟩ := rbytes_f 61 t ht
    have h2 : Ev (fun k => (tidelineref21_bytes.f k t 61).bind fun bt => some (o.f0, o.f1, o.f2, o.f3, o.f4, bt.1, o.f6.f0, o.f6.f1, o.f6.f2, bt.2)) (o.f0, o.f1, o.f2, o.f3, o.f4, r, o.f6.f0, o.f6.f1, o.f6.f2, ok) := Ev.bind hev (Ev.const rfl)
    refine ⟨{ o with f5 := r }, ok, Ev.congr (fun k => by rw [tidelineref21_field.f]) (Ev.bind hn (Ev.congr (fun k => rfl) h2)), ?_⟩
    have e : fieldW 118 t o = (bytW 61 t).map fun s => { o with f5 := s } := rfl
    rw [e]
    cases hb : bytW 61 t with
    | none => rw [hb] at hm; exact hm
    | some s => rw [hb] at hm; exact ⟨hm.1, by rw [hm.2]⟩
  · have h2 : Ev (fun k => (tidelineref02_Parse.f k t).bind fun bt => some (o.f0, o.f1, o.f2, o.f3, o.f4, o.f5, bt.1, bt.2.1, bt.2.2.1, (bt.2.2.2 == 0))) (o.f0, o.f1, o.f2, o.f3, o.f4, o.f5, (spV t).1, (spV t).2.1, (spV t).2.2.1, ((spV t).2.2.2 == 0)) := Ev.bind (rspan_f t ht) (Ev.const rfl)
    refine ⟨{ o with f6 := ⟨(spV t).1, (spV t).2.1, (spV t).2.2.1⟩ }, ((spV t).2.2.2 == 0), Ev.congr (fun k => by rw [tidelineref21_field.f]) (Ev.bind hn (Ev.congr (fun k => rfl) h2)), ?_⟩
    have e : fieldW 114 t o = (spnW t).map fun s => { o with f6 := s } := rfl
    rw [e]
    unfold spnW
    by_cases h : (spV t).2.2.2 = 0
    · rw [if_pos h]; exact ⟨by rw [h]; rfl, rfl⟩
    · rw [if_neg h]; exact beq_eq_false_iff_ne.2 h
end Go.Proofs.YtodmbjbfigifnaaGreatDoor.Sc
set_option linter.unusedVariables false
set_option linter.unusedSimpArgs false
namespace Go.Proofs.YtodmbjbfigifnaaGreatDoor.Sc
open Go.RowKit Go.Proofs.YtodmbjbfigifnaaGreatDoorW.PrintWords Go.Proofs.YtodmbjbfigifnaaGreatDoor.AppSrc Go.Proofs.YtodmbjbfigifnaaGreatDoor.PAll Go.Proofs.YtodmbjbfigifnaaGreatDoor.Pure
def sv (l : List ByteArray) : List Value := l.map Value.string
theorem infoS : ∃ i, Tryz.prog.info? 9 = some i ∧ i.zero = some (.string ⟨#[]⟩) ∧ i.size = 1 ∧ i.bytes = 16 := by
  have h : (Tryz.prog.info? 9).map (fun i => (i.zero, i.size, i.bytes)) = some (some (.string ⟨#[]⟩), 1, 16) := by kernel_rfl
  obtain ⟨i0, hi, hz⟩ := Option.map_eq_some_iff.1 h
  simp only [Prod.mk.injEq] at hz
  exact ⟨i0, hi, hz.1, hz.2.1, hz.2.2⟩
theorem srcOne (w : World) (s : ByteArray) : Src Tryz.prog 1 39 (.slice (some ⟨w.heap.size, 0, none⟩) 1 1) 1 [.string s] (w.alloc (.cells #[.string s] 9)) := by
  refine Src.ofSlice _ Tryz.underlying39 ⟨w.heap.size, 0, none⟩ 1 1 _ rfl (fun j u hj => ?_) (by intro u hu; simp only [List.mem_singleton] at hu; subst hu; rfl)
  match j, hj with
  | 0, hj => cases hj; rw [show ((⟨w.heap.size, 0, none⟩ : Addr).add 0) = ⟨w.heap.size, 0, none⟩ by simp [Addr.add]]; exact (blk_cell (heap_alloc_new _ _) 0).trans rfl
  | j + 1, hj => simp at hj
/-- One text more behind a row of texts of one's own. -/
theorem one_run {w : World} {base : Nat} {v : Value} {l : List ByteArray} (s : ByteArray) (h : w.ownsRow base 9 1 v l.length (sv l)) (hbase : base ≤ w.heap.size) (hl : l.length ≤ 4398046511104) :
    ∃ v' w1, (Builtin.append_ #[39, 39] 39 #[v, .slice (some ⟨w.heap.size, 0, none⟩) 1 1]).run Tryz.prog (w.alloc (.cells #[.string s] 9)) = .ok v' w1 ∧ w1.ownsRow base 9 1 v' (l ++ [s]).length (sv (l ++ [s])) ∧ Below base w w1 := by
  obtain ⟨i0, hi, hz0, hz1, hz2⟩ := infoS
  have hb0 : Below w.heap.size w (w.alloc (.cells #[.string s] 9)) := below_alloc (Below.refl _ _) _
  obtain ⟨v', w1, hr, h1, h2, h3⟩ := run_append_own_src (P := Tryz.prog) (w.alloc (.cells #[.string s] 9)) base 39 39 39 9 i0 (.string ⟨#[]⟩) 1 16 Tryz.underlying39 hi hz0 hz1 hz2 rfl (by decide) v l.length (sv l) (pw_own_below h hb0) _ 1 _ (srcOne w s) (by simp only [maxLen]; omega) (by omega) (Nat.le_trans hbase hb0.size)
  have e : sv l ++ [.string s] = sv (l ++ [s]) := by simp [sv]
  rw [e] at h1
  have hne : ∀ k, k < base → some k ≠ v.ownBlock := by
    intro k hk e'
    rcases h.2 with ⟨e2, _⟩ | ⟨g, cap, cur, e2, hg, _⟩
    · rw [e2] at e'; simp [Value.ownBlock] at e'
    · rw [e2] at e'
      have : g = k := by simpa [Value.ownBlock] using e'.symm
      omega
  have hb : Below base w w1 := (hb0.mono hbase).trans ⟨h2.os, h2.tape, h2.output, h2.size, fun k hk => h2.block k (by have := hb0.size; omega) (hne k hk)⟩
  exact ⟨v', w1, hr, by simpa using h1, hb⟩
theorem own_row0 (w : World) : (w.alloc (.cells #[] 9)).ownsRow w.heap.size 9 1 (.slice (some ⟨w.heap.size, 0, none⟩) 0 0) 0 (sv []) :=
  ⟨rfl, .inr ⟨w.heap.size, 0, _, rfl, Nat.le_refl _, heap_alloc_new _ _, Nat.le_refl _, Nat.zero_le _, rfl, rfl⟩⟩
/-- How far the document's split has come. -/
structure Spl (s : ByteArray) (c : UInt8) (out : List ByteArray) (f i : Nat) : Prop where
  fi : f ≤ i
  le : i ≤ s.size
  free : c ∉ (s.data.toList.drop f).take (i - f)
  out : piecesB s c = out ++ (piecesL c (s.data.toList.drop f)).map (fun l => ⟨l.toArray⟩)
theorem Spl.start (s : ByteArray) (c : UInt8) : Spl s c [] 0 0 := ⟨Nat.le_refl _, Nat.zero_le _, by simp, rfl⟩
theorem ext_toB (s : ByteArray) (f i : Nat) : s.extract f i = ⟨((s.data.toList.drop f).take (i - f)).toArray⟩ := by
  rw [← toB (s.extract f i)]
  congr 1
  congr 1
  rw [Lib.extract_data]
/-- The byte at i is none of c. -/
theorem Spl.skip {s : ByteArray} {c : UInt8} {out : List ByteArray} {f i : Nat} (h : Spl s c out f i) (hi : i < s.data.toList.length) (hc : s.data.toList[i] ≠ c) : Spl s c out f (i + 1) := by
  have hl : s.data.toList.length = s.size := Array.length_toList
  refine ⟨by have := h.fi; omega, by omega, ?_, h.out⟩
  have hf := h.fi
  rw [show i + 1 - f = (i - f) + 1 by omega, List.take_succ_eq_append_getElem (by rw [List.length_drop]; omega), List.mem_append, not_or]
  refine ⟨h.free, ?_⟩
  rw [List.mem_singleton, List.getElem_drop]
  simp only [show f + (i - f) = i by omega]
  exact fun e => hc e.symm
/-- The byte at i is c. -/
theorem Spl.cut {s : ByteArray} {c : UInt8} {out : List ByteArray} {f i : Nat} (h : Spl s c out f i) (hi : i < s.data.toList.length) (hc : s.data.toList[i] = c) : Spl s c (out ++ [s.extract f i]) (i + 1) (i + 1) := by
  have hl : s.data.toList.length = s.size := Array.length_toList
  have hf := h.fi
  refine ⟨Nat.le_refl _, by omega, by simp, ?_⟩
  have e : s.data.toList.drop f = (s.data.toList.drop f).take (i - f) ++ c :: s.data.toList.drop (i + 1) := by
    have h1 : (s.data.toList.drop f).drop (i - f) = c :: s.data.toList.drop (i + 1) := by
      rw [List.drop_drop, show f + (i - f) = i by omega, List.drop_eq_getElem_cons hi, hc]
    rw [← h1, List.take_append_drop]
  rw [h.out, List.append_assoc]
  congr 1
  rw [e, piecesL_app _ h.free, List.map_cons, ← ext_toB]
  rfl
theorem Spl.last {s : ByteArray} {c : UInt8} {out : List ByteArray} {f i : Nat} (h : Spl s c out f i) (hi : s.size ≤ i) : piecesB s c = out ++ [s.extract f s.size] := by
  have hl : s.data.toList.length = s.size := Array.length_toList
  have hle := h.le
  have hf := h.fi
  have e : (s.data.toList.drop f).take (i - f) = s.data.toList.drop f := List.take_of_length_le (by rw [List.length_drop]; omega)
  have hfree := h.free
  rw [e] at hfree
  rw [h.out, piecesL_none hfree, List.map_cons, List.map_nil, ext_toB, List.take_of_length_le (by rw [List.length_drop]; omega)]
theorem Spl.len {s : ByteArray} {c : UInt8} {out : List ByteArray} {f i : Nat} (h : Spl s c out f i) : out.length ≤ s.size := by
  have h1 := congrArg List.length h.out
  unfold piecesB at h1
  rw [List.length_map, List.length_append, List.length_map] at h1
  have h2 := pieces_len c s.data.toList
  have h3 : 1 ≤ (piecesL c (s.data.toList.drop f)).length := by
    cases hq : piecesL c (s.data.toList.drop f) with
    | nil => exact absurd hq (piecesL_ne _ _)
    | cons a b => simp
  have hl : s.data.toList.length = s.size := Array.length_toList
  omega
set_option maxRecDepth 100000 in
set_option maxHeartbeats 1000000 in
theorem rsplit_calls (s : ByteArray) (c : UInt8) (hs : s.size ≤ 1099511627776) (w : World) : Calls Tryz.prog 33 #[.string s, .int .u8 c.toNat] w fun e w' => ∃ v, e = .returned v ∧ w'.ownsRow w.heap.size 9 1 v (piecesB s c).length (sv (piecesB s c)) ∧ Below w.heap.size w w' := by
  go_enter Tryz.func33, Tryz.ntmps33
  go_wp2
  go_loopw [5, 6, 7] (fun o f i wr => ∃ (out : List ByteArray) (fn n : Nat), f = .int .i64 (fn : Int) ∧ i = .int .i64 (n : Int) ∧ Spl s c out fn n ∧ wr.ownsRow w.heap.size 9 1 o out.length (sv out) ∧ Below w.heap.size w wr) (fun _ _ i _ => s.size - (intOf i).toNat)
  case atStart => exact ⟨[], 0, 0, rfl, rfl, Spl.start s c, own_row0 w, below_alloc (Below.refl _ _) _⟩
  case round =>
    obtain ⟨out, fn, n, rfl, rfl, hS, hO, hB⟩ := hrel
    have f1 : (0 : Int) ≤ (n : Int) := by omega
    have f2 : (0 : Int) ≤ (fn : Int) := by omega
    have f3 : (fn : Int) ≤ (n : Int) := by have := hS.fi; omega
    have f4 : (n : Int) ≤ (s.size : Int) := by have := hS.le; omega
    have hL : s.data.toList.length = s.size := Array.length_toList
    have hol := hS.len
    have hsz := hB.size
    have HS := Aside0.mk hS
    have HO := Aside0.mk hO
    have HB := Aside0.mk hB
    by_cases hlt : (n : Int) < (s.size : Int)
    · have hn : n < s.data.toList.length := by omega
      have hn2 : n < s.size := by omega
      have e1 : IntKind.i64.wrap ((n : Int) + 1) = (n : Int) + 1 := IntWalk.i64_in _ (by omega)
      have hgt : s[n] = s.data.toList[n] := rfl
      by_cases hc : s.data.toList[n] = c
      · have hq : (((s[n]).toNat : Int) == (c.toNat : Int)) = true := by rw [hgt, hc]; simp
        obtain ⟨v', w1, hr, hO1, hB1⟩ := one_run (s.extract fn n) hO hsz (by omega)
        have HO1 := Aside0.mk hO1
        have HB1 := Aside0.mk (hB.trans hB1)
        have HS1 := Aside0.mk (hS.cut hn hc)
        clear hS hO hB hL hol hsz hn hc hgt hO1 hB1
        go_wp2_with (at_builtin; refine wpList_append_run rfl rfl rfl rfl hr ?_)
        exact ⟨⟨_, n + 1, n + 1, by simp, by simp, HS1.out, HO1.out, HB1.out⟩, by simp [intOf]; omega⟩
      · have hq : (((s[n]).toNat : Int) == (c.toNat : Int)) = false := by
          rw [beq_eq_false_iff_ne, hgt]
          exact fun e => hc (UInt8.toNat_inj.1 (by omega))
        have HS1 := Aside0.mk (hS.skip hn hc)
        clear hS hO hB hL hol hsz hn hc hgt
        go_wp2
        exact ⟨⟨out, fn, n + 1, rfl, by simp, HS1.out, HO.out, HB.out⟩, by simp [intOf]; omega⟩
    · have f5 : (fn : Int) ≤ (s.size : Int) := by omega
      have hl := hS.last (by omega)
      obtain ⟨v', w1, hr, hO1, hB1⟩ := one_run (s.extract fn s.size) hO hsz (by omega)
      rw [← hl] at hO1
      have HO1 := Aside0.mk hO1
      have HB1 := Aside0.mk (hB.trans hB1)
      clear hS hO hB hL hol hsz hl hO1 hB1
      go_wp2_with (at_builtin; refine wpList_append_run rfl rfl rfl rfl hr ?_)
      go_ret
      exact ⟨_, rfl, HO1.out, HB1.out⟩
end Go.Proofs.YtodmbjbfigifnaaGreatDoor.Sc
set_option linter.unusedVariables false
set_option linter.unusedSimpArgs false
namespace Go.Proofs.YtodmbjbfigifnaaGreatDoor.Sc
open Go.RowKit Go.Shelf Go.Proofs.YtodmbjbfigifnaaGreatDoor.Glob Go.Proofs.YtodmbjbfigifnaaGreatDoor.Dig Go.Proofs.YtodmbjbfigifnaaGreatDoorW.PrintWords Go.Proofs.YtodmbjbfigifnaaGreatDoor.PAll Go.Proofs.YtodmbjbfigifnaaGreatDoor.Pure
/-- What Parse answers. -/
def ansW (s : ByteArray) : OpT × Int := match parW s with | some o => (o, 0) | none => (zOp, 210)
theorem res_two {P : Program} {fn : Func} {p q : Tmp} {ty ty2 : TypeId} (h : fn.results = #[.cell p ty, .cell q ty2]) (tmps : Array Value) (w : World) (g g2 : Nat) (t : TypeId) (cs : Array Value) (fr : Nat × Nat) (d : TypeDesc) {v : Value}
    (hp : tmps.getD p undef = .pointer (some ⟨g, 0, none⟩)) (hq : tmps.getD q undef = .pointer (some ⟨g2, 0, none⟩)) (hg : w.heap[g]? = some (.cells cs t fr)) (hv : (loadVar ty2 ⟨g2, 0, none⟩ : Sem Value).run P w = .ok v w)
    (hu : P.underlying ty = some d) (hd : (match d with | .struct _ | .array _ _ => true | _ => false) = true) (hi : (P.info? ty).map (·.size) = some cs.size) :
    (results fn tmps).run P w = .ok (.tuple #[.agg cs, v]) w := by
  have hp' : tmps[p]?.getD undef = .pointer (some ⟨g, 0, none⟩) := by simpa using hp
  have hq' : tmps[q]?.getD undef = .pointer (some ⟨g2, 0, none⟩) := by simpa using hq
  simp [results, h, hp', hq', asAddr, run_loadVar_row w g t ty cs fr d hg hu hd hi, hv]
theorem res_ok {W : World} {p q : Nat} {o : OpT} {e : Int} (h : Res W p q o e) (tmps : Array Value) (hp : tmps.getD 2 undef = .pointer (some ⟨p, 0, none⟩)) (hq : tmps.getD 3 undef = .pointer (some ⟨q, 0, none⟩)) :
    (results Tryz.f9 tmps).run Tryz.prog W = .ok (.tuple #[opV o, .int .i64 e]) W := by
  refine res_two (v := .int .i64 e) rfl tmps W p q _ _ (0, 0) _ hp hq h.op ?_ Tryz.underlying25 rfl (by kernel_rfl)
  have hc := (blk_cell h.er 0).trans (show _ = some (Value.int .i64 e) from rfl)
  simp [go_sem, hc]
set_option maxRecDepth 100000 in
set_option maxHeartbeats 4000000 in
theorem parse_long (s : ByteArray) (hs : 400 < s.size) (w : World) : Calls Tryz.prog 9 #[.string s] w fun e w' => e = .returned (.tuple #[opV zOp, .int .i64 210]) ∧ Below w.heap.size w w' := by
  have hl : (s.size : Int) > 400 := by omega
  have hmf : ∀ (fn : Fn) (first cap : Array Value) (w : World), (Instr.makeFunc fn first cap).run Tryz.prog w = .ok (.func fn first cap) w := fun _ _ _ _ => rfl
  go_enter_defers Tryz.func9, Tryz.ntmps9
  go_wp2_with (first
    | ((with_reducible refine gate_dst (N := 2) rfl ?_); refine box_event ?hg (N := 2) ?hd (cs := #[.int .i64 0, .int .i64 0, .int .i64 0, .int .i64 0, .string ⟨#[]⟩, .string ⟨#[]⟩, .string ⟨#[]⟩, .string ⟨#[]⟩, .bool false]) (t := 25) ?hr ?_; (case hd => rfl); (case hg => rfl); (case hr => first | (go_simp; done) | (go_simp; rfl)); intro p hg w1 hbox hb; have HP := Aside0.mk hbox; have HB1 := Aside0.mk hb; have HGP : Aside0 (w.heap.size ≤ p) := ⟨by omega⟩; clear hb hg hbox)
    | ((with_reducible refine gate_dst (N := 3) rfl ?_); refine box_event ?hg (N := 3) ?hd (cs := #[.int .i64 0]) (t := 27) ?hr ?_; (case hd => rfl); (case hg => rfl); (case hr => first | (go_simp; done) | (go_simp; rfl)); intro q hg w2 hbox hb; have hR2 : Res w2 p q zOp 0 := ⟨blk_below HP.out hb, hbox⟩; have HB2 := Aside0.mk (below_step HB1.out hb); have HGQ : Aside0 (w.heap.size ≤ q) := ⟨by have := HB1.out.size; omega⟩; have hc0 := (blk_cell hR2.op 0).trans (show _ = some (Value.int .i64 0) from rfl); have hf0 := blk_frozen hR2.op 0; have hc1 := (blk_cell hR2.op 1).trans (show _ = some (Value.int .i64 0) from rfl); have hf1 := blk_frozen hR2.op 1; have hc2 := (blk_cell hR2.op 2).trans (show _ = some (Value.int .i64 0) from rfl); have hf2 := blk_frozen hR2.op 2; have hc3 := (blk_cell hR2.op 3).trans (show _ = some (Value.int .i64 0) from rfl); have hf3 := blk_frozen hR2.op 3; have hc4 := (blk_cell hR2.op 4).trans (show _ = some (Value.string ⟨#[]⟩) from rfl); have hf4 := blk_frozen hR2.op 4; have hc5 := (blk_cell hR2.op 5).trans (show _ = some (Value.string ⟨#[]⟩) from rfl); have hf5 := blk_frozen hR2.op 5; have hc6 := (blk_cell hR2.op 6).trans (show _ = some (Value.string ⟨#[]⟩) from rfl); have hf6 := blk_frozen hR2.op 6; have hc7 := (blk_cell hR2.op 7).trans (show _ = some (Value.string ⟨#[]⟩) from rfl); have hf7 := blk_frozen hR2.op 7; have hc8 := (blk_cell hR2.op 8).trans (show _ = some (Value.bool false) from rfl); have hf8 := blk_frozen hR2.op 8; have hce := (blk_cell hR2.er 0).trans (show _ = some (Value.int .i64 0) from rfl); have hfe := blk_frozen hR2.er 0; have hne : p ≠ q := blk_ne hR2.op hR2.er (by decide); have hne2 : q ≠ p := Ne.symm hne; have HR2 := Aside0.mk hR2; clear hb hg hbox hR2))
  exact ⟨_, res_ok (HR2.out.sets zOp 210) _ rfl rfl, rfl, (setOp_below HB2.out HGP.out zOp).setCell (p := ⟨q, 0, none⟩) HGQ.out _⟩
/-- What a line of the right length says. -/
theorem caught {s : ByteArray} {w w2 W : World} {p q : Nat} {tmps : Array Value} (HR2 : Res w2 p q zOp 0) (HB2 : Below w.heap.size w w2) (HGP : w.heap.size ≤ p) (HGQ : w.heap.size ≤ q) (hb : Below w2.heap.size w2 W) (hn : parW s = none)
    (hp : tmps.getD 2 undef = .pointer (some ⟨p, 0, none⟩)) (hq : tmps.getD 3 undef = .pointer (some ⟨q, 0, none⟩)) :
    Leaves Tryz.prog Tryz.f9 tmps (fun e w' => e = .returned (.tuple #[opV (ansW s).1, .int .i64 (ansW s).2]) ∧ Below w.heap.size w w') [{ target := .fn (.func 20) #[.pointer (some ⟨p, 0, none⟩), .pointer (some ⟨q, 0, none⟩)], args := #[] }] (.panicking noneP) W := by
  refine leaves_cons (f := 20) (args := #[.pointer (some ⟨p, 0, none⟩), .pointer (some ⟨q, 0, none⟩)]) (by simp) (by simp [go_sem]) ?_
  refine (catch_none w.heap.size p q zOp 0 W (HR2.below hb) HGP HGQ (Nat.le_trans HB2.size hb.size)).mono ?_
  rintro e u' w' ⟨rfl, rfl, hr, hb'⟩
  have ha : ansW s = (zOp, 210) := by unfold ansW; rw [hn]
  refine ⟨_, res_ok hr _ hp hq, ?_, (below_step HB2 hb).trans hb'⟩
  rw [ha]
/-- The reader, just made. -/
theorem rdr_new {w2 w3 W : World} {b : Nat} {ws : List ByteArray} (hG : GlobOK w2) (h3 : w3 = w2.alloc (.cells (ws.map Value.string).toArray 9)) (hb : Below w3.heap.size w3 W) (hx : W.heap[b]? = some (.cells #[.slice (some ⟨w2.heap.size, 0, none⟩) ws.length ws.length, .int .i64 0, .int .i64 0, .int .i64 0, .int .i64 0, .string ⟨#[]⟩, .string ⟨#[]⟩, .string ⟨#[]⟩, .string ⟨#[]⟩, .bool false] 51 (0, 0))) (hlo : w3.heap.size ≤ b) (hsh : ∀ x ∈ ws, x.size ≤ 400) (hl : ws.length ≤ 401) :
    Rdr w2 W b w2.heap.size ws (some ⟨w2.heap.size, 0, none⟩) 0 zOp := by
  subst h3
  have hB := below_alloc (Below.refl w2.heap.size w2) (.cells (ws.map Value.string).toArray 9)
  exact ⟨hx, fun _ => rfl, blk_below (heap_alloc_new _ _) hb, Nat.le_trans hB.size hlo, below_step hB hb, hG, Nat.zero_le _, hsh, hl⟩
theorem piecesB_short (s : ByteArray) (c : UInt8) (h : s.size ≤ 400) : (∀ x ∈ piecesB s c, x.size ≤ 400) ∧ (piecesB s c).length ≤ 401 := by
  have hl : s.data.toList.length = s.size := Array.length_toList
  refine ⟨fun x hx => ?_, ?_⟩
  · obtain ⟨l, hm, rfl⟩ := List.mem_map.1 hx
    have := pieces_le s.data.toList l hm
    show l.toArray.size ≤ 400
    rw [List.size_toArray]
    omega
  · unfold piecesB
    rw [List.length_map]
    have := pieces_len c s.data.toList
    omega
set_option maxRecDepth 100000 in
set_option maxHeartbeats 4000000 in
theorem parse_none (s t : ByteArray) (ts : List ByteArray) (hs : s.size ≤ 400) (hp : piecesB s 32 = t :: ts) (hx : lets.lookup t = none) (w : World) (hG : GlobOK w) : Calls Tryz.prog 9 #[.string s] w fun e w' => e = .returned (.tuple #[opV (ansW s).1, .int .i64 (ansW s).2]) ∧ Below w.heap.size w w' := by
  have hl : ¬ (s.size : Int) > 400 := by omega
  have hn : parW s = none := by unfold parW; rw [if_neg (by omega), hp]; simp only [hx]; rfl
  have HSH := Aside0.mk (piecesB_short s 32 hs)
  have HSP := fun w2 hG2 => split_calls s 32 (by omega) w2 hG2
  rw [hp] at HSH
  simp only [hp] at HSP
  have HN := Aside0.mk hn
  have HGL := Aside0.mk hG
  have HX := Aside0.mk hx
  clear hs hp hn hG hx
  have hmf : ∀ (fn : Fn) (first cap : Array Value) (w : World), (Instr.makeFunc fn first cap).run Tryz.prog w = .ok (.func fn first cap) w := fun _ _ _ _ => rfl
  go_enter_defers Tryz.func9, Tryz.ntmps9
  go_wp2_with (first
    | ((with_reducible refine gate_dst (N := 2) rfl ?_); refine box_event ?hg (N := 2) ?hd (cs := #[.int .i64 0, .int .i64 0, .int .i64 0, .int .i64 0, .string ⟨#[]⟩, .string ⟨#[]⟩, .string ⟨#[]⟩, .string ⟨#[]⟩, .bool false]) (t := 25) ?hr ?_; (case hd => rfl); (case hg => rfl); (case hr => first | (go_simp; done) | (go_simp; rfl)); intro p hg w1 hbox hb; have HP := Aside0.mk hbox; have HB1 := Aside0.mk hb; have HGP : Aside0 (w.heap.size ≤ p) := ⟨by omega⟩; clear hb hg hbox)
    | ((with_reducible refine gate_dst (N := 3) rfl ?_); refine box_event ?hg (N := 3) ?hd (cs := #[.int .i64 0]) (t := 27) ?hr ?_; (case hd => rfl); (case hg => rfl); (case hr => first | (go_simp; done) | (go_simp; rfl)); intro q hg w2 hbox hb; have hR2 : Res w2 p q zOp 0 := ⟨blk_below HP.out hb, hbox⟩; have HB2 := Aside0.mk (below_step HB1.out hb); have HGQ : Aside0 (w.heap.size ≤ q) := ⟨by have := HB1.out.size; omega⟩; have HR2 := Aside0.mk hR2; clear hb hg hbox hR2)
    | (go_at_call 21; refine (HSP _ (HGL.out.below HB2.out)).mono ?_; rintro e w3 ⟨rfl, hw3⟩; have HW3 := Aside0.mk hw3; clear hw3)
    | ((with_reducible refine gate_dst (N := 17) rfl ?_); refine box_event ?hg (N := 17) ?hd (cs := #[.slice (some ⟨w2.heap.size, 0, none⟩) (ts.length + 1) (ts.length + 1), .int .i64 0, .int .i64 0, .int .i64 0, .int .i64 0, .string ⟨#[]⟩, .string ⟨#[]⟩, .string ⟨#[]⟩, .string ⟨#[]⟩, .bool false]) (t := 51) ?hr ?_; (case hd => rfl); (case hg => rfl); (case hr => first | (go_simp; done) | (go_simp; rfl)); intro b hg w4 hbox hb; have HR := Aside0.mk (rdr_new (HGL.out.below HB2.out) HW3.out hb hbox (by omega) HSH.out.1 HSH.out.2); clear hb hg hbox)
    | (go_at_call 22; refine (forms_calls _).mono ?_; rintro e w5 ⟨m, rfl, hF⟩; have HR5 := Aside0.mk (HR.out.below hF.be); have HF := Aside0.mk hF; clear hF)
    | (go_at_call 23; refine (word_ok HR5.out (by simp)).mono ?_; rintro e w6 ⟨rfl, hW⟩; obtain ⟨v, hlk, hv⟩ := look_calls HF.out HR5.out hW t; rw [HX.out] at hlk hv; simp only [Option.isSome_none] at hlk; subst hv; obtain ⟨A6, hR6⟩ := hW.st; have HB6 := Aside0.mk (below_step hR6.be (below_alloc (Below.refl _ _) (.cells #[.int .i64 0, .slice none 0 0] 54))); clear hR6 hW)
    | (go_at_call 24; refine (must_no _).mono ?_; rintro e w7 ⟨rfl, rfl⟩))
  exact caught HR2.out HB2.out HGP.out HGQ.out HB6.out HN.out rfl rfl
theorem FVal.row {W : World} {kind kind' : Int} {Af : Option Addr} {n cf : Nat} {fs : List Nat} (h : FVal W (.agg #[.int .i64 kind', .slice Af n cf]) kind fs) {j : Nat} (hj : j < fs.length) : ∃ g, Af = some ⟨g, 0, Option.none⟩ ∧ W.cell? ⟨g, j, Option.none⟩ = some (fnV fs[j]) := by
  obtain ⟨A, c, he, h⟩ := h
  simp only [Value.agg.injEq, Array.mk.injEq, List.cons.injEq, Value.slice.injEq, Value.int.injEq, and_true, true_and] at he
  obtain ⟨_, rfl, _, _⟩ := he
  rcases h with rfl | ⟨g, cur, rfl, hg, hf⟩
  · simp at hj
  · exact ⟨g, rfl, (blk_cell hg j).trans (hf j _ (List.getElem?_eq_getElem hj))⟩
theorem look_hit {wf w0 w1 W : World} {b g m i : Nat} {ws : List ByteArray} {A : Option Addr} {i0 : Nat} {o o0 : OpT} (hF : Forms wf w1 m specs) (hr : Rdr w0 w1 b g ws A i0 o0) (h : Went w0 w1 W b g ws i o) {t : ByteArray} {kind : Int} {cs : List Nat} (hx : lets.lookup t = some (kind, cs)) :
    ∃ Af cf, (Instr.lookup 56 (.map (some m)) (.string t) true).run Tryz.prog W = .ok (.tuple #[.agg #[.int .i64 kind, .slice Af cs.length cf], .bool true]) W ∧ FVal W (.agg #[.int .i64 kind, .slice Af cs.length cf]) kind (cs.map fidOf) := by
  obtain ⟨v, hlk, hv⟩ := look_calls hF hr h t
  rw [hx] at hlk hv
  have hv' : FVal W v kind (cs.map fidOf) := hv
  have hv2 := hv'
  obtain ⟨Af, cf, rfl, _⟩ := hv'
  rw [List.length_map] at hlk hv2
  exact ⟨Af, cf, hlk, hv2⟩
/-- The form in its box, the kind laid into the command. -/
theorem stored {w0 w1 W : World} {b g : Nat} {ws : List ByteArray} {A : Option Addr} {i0 i : Nat} {o0 o : OpT} (hr : Rdr w0 w1 b g ws A i0 o0) (h : Went w0 w1 W b g ws i o) {kind : Int} {cs : List Nat} {Af : Option Addr} {cf : Nat} (hv : FVal W (.agg #[.int .i64 kind, .slice Af cs.length cf]) kind (cs.map fidOf)) :
    (W.alloc (.cells #[.int .i64 kind, .slice Af cs.length cf] 54)).cell? ⟨b, 1, none⟩ = some (.int .i64 o.f0) ∧ (W.alloc (.cells #[.int .i64 kind, .slice Af cs.length cf] 54)).frozen? ⟨b, 1, none⟩ = false ∧ W.heap.size ≠ b ∧ b ≠ W.heap.size ∧
    Went w0 (W.alloc (.cells #[.int .i64 kind, .slice Af cs.length cf] 54)) ((W.alloc (.cells #[.int .i64 kind, .slice Af cs.length cf] 54)).setCell ⟨b, 1, none⟩ (.int .i64 kind)) b g ws i { o with f0 := kind } ∧
    FVal ((W.alloc (.cells #[.int .i64 kind, .slice Af cs.length cf] 54)).setCell ⟨b, 1, none⟩ (.int .i64 kind)) (.agg #[.int .i64 kind, .slice Af cs.length cf]) kind (cs.map fidOf) := by
  obtain ⟨A6, hR6⟩ := h.st
  have hB7 := below_alloc (Below.refl W.heap.size W) (.cells #[.int .i64 kind, .slice Af cs.length cf] 54)
  have hR7 := hR6.below hB7
  have hnb : W.heap.size ≠ b := by have := blk_lt hR6.box; omega
  have hW8 := hR7.put 1 (.int .i64 kind) (o2 := { o with f0 := kind }) hR7.le hR7.at_ rfl
  exact ⟨(blk_cell hR7.box 1).trans rfl, hR7.fz 1, hnb, Ne.symm hnb, hW8, (hv.below hB7).went hR7 hW8⟩
theorem fieldsW_step {cs : List Nat} {ts : List ByteArray} {o : OpT} {k : Nat} (hk : k < cs.length) : fieldsW (cs.drop k) (ts.drop k) o = ((ts[k]?).bind fun t => fieldW cs[k] t o).bind fun o' => fieldsW (cs.drop (k + 1)) (ts.drop (k + 1)) o' := by
  rw [List.drop_eq_getElem_cons hk]
  by_cases hi : k < ts.length
  · rw [List.drop_eq_getElem_cons hi, List.getElem?_eq_getElem hi, Option.bind_some]
    rfl
  · rw [List.getElem?_eq_none (by omega), List.drop_of_length_le (show ts.length ≤ k by omega)]
    rfl
theorem fieldsW_end {cs : List Nat} {ts : List ByteArray} {o : OpT} {k : Nat} (hk : ¬ k < cs.length) : fieldsW (cs.drop k) (ts.drop k) o = if k < ts.length then none else some o := by
  rw [List.drop_of_length_le (by omega)]
  by_cases hi : k < ts.length
  · rw [if_pos hi, List.drop_eq_getElem_cons hi]; rfl
  · rw [if_neg hi, List.drop_of_length_le (by omega)]; rfl
set_option maxRecDepth 100000 in
set_option maxHeartbeats 4000000 in
theorem parse_some (s t : ByteArray) (ts : List ByteArray) (hs : s.size ≤ 400) (hp : piecesB s 32 = t :: ts) (kind : Int) (cs : List Nat) (hx : lets.lookup t = some (kind, cs)) (w : World) (hG : GlobOK w) : Calls Tryz.prog 9 #[.string s] w fun e w' => e = .returned (.tuple #[opV (ansW s).1, .int .i64 (ansW s).2]) ∧ Below w.heap.size w w' := by
  have hl : ¬ (s.size : Int) > 400 := by omega
  have hn : fieldsW (cs.drop 0) (ts.drop 0) { zOp with f0 := kind } = parW s := by unfold parW; rw [if_neg (by omega), hp]; simp only [hx]; rfl
  obtain ⟨kk, hmem⟩ := lookup_mem hx
  have hlet := lets_let _ hmem
  have HLET := Aside0.mk hlet
  have HSH := Aside0.mk (piecesB_short s 32 hs)
  have HSP := fun w2 hG2 => split_calls s 32 (by omega) w2 hG2
  rw [hp] at HSH
  simp only [hp] at HSP
  have HN := Aside0.mk hn
  have HGL := Aside0.mk hG
  have HX := Aside0.mk hx
  clear hs hp hn hG hx hmem hlet
  have hmf : ∀ (fn : Fn) (first cap : Array Value) (w : World), (Instr.makeFunc fn first cap).run Tryz.prog w = .ok (.func fn first cap) w := fun _ _ _ _ => rfl
  go_enter_defers Tryz.func9, Tryz.ntmps9
  go_wp2_with (first
    | ((with_reducible refine gate_dst (N := 2) rfl ?_); refine box_event ?hg (N := 2) ?hd (cs := #[.int .i64 0, .int .i64 0, .int .i64 0, .int .i64 0, .string ⟨#[]⟩, .string ⟨#[]⟩, .string ⟨#[]⟩, .string ⟨#[]⟩, .bool false]) (t := 25) ?hr ?_; (case hd => rfl); (case hg => rfl); (case hr => first | (go_simp; done) | (go_simp; rfl)); intro p hg w1 hbox hb; have HP := Aside0.mk hbox; have HB1 := Aside0.mk hb; have HGP : Aside0 (w.heap.size ≤ p) := ⟨by omega⟩; clear hb hg hbox)
    | ((with_reducible refine gate_dst (N := 3) rfl ?_); refine box_event ?hg (N := 3) ?hd (cs := #[.int .i64 0]) (t := 27) ?hr ?_; (case hd => rfl); (case hg => rfl); (case hr => first | (go_simp; done) | (go_simp; rfl)); intro q hg w2 hbox hb; have hR2 : Res w2 p q zOp 0 := ⟨blk_below HP.out hb, hbox⟩; have HB2 := Aside0.mk (below_step HB1.out hb); have HGQ : Aside0 (w.heap.size ≤ q) := ⟨by have := HB1.out.size; omega⟩; have HR2 := Aside0.mk hR2; clear hb hg hbox hR2)
    | (go_at_call 21; refine (HSP _ (HGL.out.below HB2.out)).mono ?_; rintro e w3 ⟨rfl, hw3⟩; have HW3 := Aside0.mk hw3; clear hw3)
    | ((with_reducible refine gate_dst (N := 17) rfl ?_); refine box_event ?hg (N := 17) ?hd (cs := #[.slice (some ⟨w2.heap.size, 0, none⟩) (ts.length + 1) (ts.length + 1), .int .i64 0, .int .i64 0, .int .i64 0, .int .i64 0, .string ⟨#[]⟩, .string ⟨#[]⟩, .string ⟨#[]⟩, .string ⟨#[]⟩, .bool false]) (t := 51) ?hr ?_; (case hd => rfl); (case hg => rfl); (case hr => first | (go_simp; done) | (go_simp; rfl)); intro b hg w4 hbox hb; have HR := Aside0.mk (rdr_new (HGL.out.below HB2.out) HW3.out hb hbox (by omega) HSH.out.1 HSH.out.2); clear hb hg hbox)
    | (go_at_call 22; refine (forms_calls _).mono ?_; rintro e w5 ⟨m, rfl, hF⟩; have HR5 := Aside0.mk (HR.out.below hF.be); have HF := Aside0.mk hF; clear hF)
    | (go_at_call 23; refine (word_ok HR5.out (by simp)).mono ?_; rintro e w6 ⟨rfl, hW⟩; obtain ⟨Af, cf, hlk, hv⟩ := look_hit HF.out HR5.out hW HX.out; obtain ⟨hc1, hf1, hnb, hnb2, hw8, hv8⟩ := stored HR5.out hW hv; have HW8 := Aside0.mk hw8; have HV8 := Aside0.mk hv8; clear hW hv hw8 hv8)
    | (go_at_call 24; refine (must_ok _).mono ?_; rintro e w7 ⟨rfl, rfl⟩))
  go_loopw [36] (fun i wr => ∃ (k : Nat) (o : OpT) (A : Option Addr), i = .int .i64 (k : Int) ∧ k ≤ cs.length ∧ Rdr w2 wr b w2.heap.size (t :: ts) A (k + 1) o ∧ FVal wr (.agg #[.int .i64 kind, .slice Af cs.length cf]) kind (cs.map fidOf) ∧ fieldsW (cs.drop k) (ts.drop k) o = parW s) (fun i _ => cs.length - (intOf i).toNat)
  case atStart =>
    obtain ⟨A8, hR8⟩ := HW8.out.st
    exact ⟨0, _, A8, rfl, Nat.zero_le _, hR8, HV8.out, HN.out⟩
  case round =>
    obtain ⟨k, o, A, rfl, hk, hR, hV, hfin⟩ := hrel
    have f1 : (0 : Int) ≤ (k : Int) := by omega
    by_cases hlt : (k : Int) < (cs.length : Int)
    · have hk1 : k < cs.length := by omega
      obtain ⟨g2, rfl, hcell⟩ := hV.row (j := k) (by simpa using hk1)
      rw [List.getElem_map] at hcell
      have hc := HLET.out.2 _ (List.getElem_mem hk1)
      rw [fieldsW_step hk1] at hfin
      generalize cs[k] = c at hcell hc hfin
      have hen := fid_enters hc
      have e1 : IntKind.i64.wrap ((k : Int) + 1) = (k : Int) + 1 := IntWalk.i64_in _ (by have := HLET.out.1; omega)
      cases hst : ((ts[k]?).bind fun t => fieldW c t o) with
      | none =>
        have hno := reads_no hc hR (show (((t :: ts)[k + 1]?).bind fun t => fieldW c t o) = none from hst)
        rw [hst] at hfin
        have HN2 := Aside0.mk (show parW s = none from hfin.symm)
        unfold fnV at hcell
        generalize fidOf c = f at hcell hno hen
        clear hR hV hfin hst hc
        go_wp2_with (go_at_fn f; refine hno.mono ?_; rintro e w9 ⟨rfl, hb⟩; have HB9 := Aside0.mk hb; clear hb)
        exact caught HR2.out HB2.out HGP.out HGQ.out HB9.out HN2.out rfl rfl
      | some o' =>
        have hok := reads_ok hc hR (show (((t :: ts)[k + 1]?).bind fun t => fieldW c t o) = some o' from hst)
        rw [hst] at hfin
        have HF2 := Aside0.mk (show fieldsW (cs.drop (k + 1)) (ts.drop (k + 1)) o' = parW s from hfin)
        have HRk := Aside0.mk hR
        have HVk := Aside0.mk hV
        unfold fnV at hcell
        generalize fidOf c = f at hcell hok hen
        clear hR hV hfin hst hc
        go_wp2_with (go_at_fn f; refine hok.mono ?_; rintro e w9 ⟨rfl, hW⟩; have HW9 := Aside0.mk hW; clear hW)
        obtain ⟨A9, hR9⟩ := HW9.out.st
        refine ⟨⟨k + 1, o', A9, by simp, by omega, hR9, HVk.out.went HRk.out HW9.out, HF2.out⟩, by simp [intOf]; omega⟩
    · have hk2 : ¬ k < cs.length := by omega
      rw [fieldsW_end hk2] at hfin
      have hsl := hR.slice
      rw [show (t :: ts).length - (k + 1) = ts.length - k by simp] at hsl
      by_cases hrest : k < ts.length
      · rw [if_pos hrest] at hfin
        have HN2 := Aside0.mk (show parW s = none from hfin.symm)
        obtain ⟨m', hm'⟩ : ∃ m' : Nat, ts.length - k = m' + 1 := ⟨ts.length - k - 1, by omega⟩
        rw [hm'] at hsl
        have hz1 : (((m' + 1 : Nat) : Int) == 0) = false := beq_eq_false_iff_ne.2 (by omega)
        have hz2 : ((m' : Int) + 1 == 0) = false := beq_eq_false_iff_ne.2 (by omega)
        have HB9 := Aside0.mk hR.be
        clear hR hV hfin hm' hrest hk2
        go_wp2_with (go_at_call 24; refine (must_no _).mono ?_; rintro e w7 ⟨rfl, rfl⟩)
        exact caught HR2.out HB2.out HGP.out HGQ.out HB9.out HN2.out rfl rfl
      · rw [if_neg hrest] at hfin
        rw [show ts.length - k = 0 by omega] at hsl
        have ha : ansW s = (o, 0) := by unfold ansW; rw [← hfin]
        have hr := HR2.out.below hR.be
        have hb1 := (blk_cell hR.box 1).trans (show _ = some (Value.int .i64 o.f0) from rfl)
        have hb2 := (blk_cell hR.box 2).trans (show _ = some (Value.int .i64 o.f1) from rfl)
        have hb3 := (blk_cell hR.box 3).trans (show _ = some (Value.int .i64 o.f2) from rfl)
        have hb4 := (blk_cell hR.box 4).trans (show _ = some (Value.int .i64 o.f3) from rfl)
        have hb5 := (blk_cell hR.box 5).trans (show _ = some (Value.string o.f4) from rfl)
        have hb6 := (blk_cell hR.box 6).trans (show _ = some (Value.string o.f5) from rfl)
        have hb7 := (blk_cell hR.box 7).trans (show _ = some (Value.string o.f6.f0) from rfl)
        have hb8 := (blk_cell hR.box 8).trans (show _ = some (Value.string o.f6.f1) from rfl)
        have hb9 := (blk_cell hR.box 9).trans (show _ = some (Value.bool o.f6.f2) from rfl)
        have hp0 := (blk_cell hr.op 0).trans (show _ = some (Value.int .i64 0) from rfl)
        have hg0 := blk_frozen hr.op 0
        have hp1 := (blk_cell hr.op 1).trans (show _ = some (Value.int .i64 0) from rfl)
        have hg1 := blk_frozen hr.op 1
        have hp2 := (blk_cell hr.op 2).trans (show _ = some (Value.int .i64 0) from rfl)
        have hg2 := blk_frozen hr.op 2
        have hp3 := (blk_cell hr.op 3).trans (show _ = some (Value.int .i64 0) from rfl)
        have hg3 := blk_frozen hr.op 3
        have hp4 := (blk_cell hr.op 4).trans (show _ = some (Value.string ⟨#[]⟩) from rfl)
        have hg4 := blk_frozen hr.op 4
        have hp5 := (blk_cell hr.op 5).trans (show _ = some (Value.string ⟨#[]⟩) from rfl)
        have hg5 := blk_frozen hr.op 5
        have hp6 := (blk_cell hr.op 6).trans (show _ = some (Value.string ⟨#[]⟩) from rfl)
        have hg6 := blk_frozen hr.op 6
        have hp7 := (blk_cell hr.op 7).trans (show _ = some (Value.string ⟨#[]⟩) from rfl)
        have hg7 := blk_frozen hr.op 7
        have hp8 := (blk_cell hr.op 8).trans (show _ = some (Value.bool false) from rfl)
        have hg8 := blk_frozen hr.op 8
        have hqc := (blk_cell hr.er 0).trans (show _ = some (Value.int .i64 0) from rfl)
        have hqf := blk_frozen hr.er 0
        have hne : p ≠ q := blk_ne hr.op hr.er (by decide)
        have hne2 : q ≠ p := Ne.symm hne
        have hne3 : p ≠ b := blk_ne hr.op hR.box (by decide)
        have hne4 : b ≠ p := Ne.symm hne3
        have HA := Aside0.mk ha
        have HRES := Aside0.mk hr
        have HB9 := Aside0.mk hR.be
        clear hR hV hfin hrest hk2 ha hr
        go_wp2_with (go_at_call 24; refine (must_ok _).mono ?_; rintro e w7 ⟨rfl, rfl⟩)
        refine leaves_cons (f := 20) (args := #[.pointer (some ⟨p, 0, Option.none⟩), .pointer (some ⟨q, 0, Option.none⟩)]) (by simp) (by simp [go_sem]) ?_
        refine (catch_idle p q _).mono ?_
        rintro e u' w'' ⟨rfl, rfl, rfl⟩
        refine ⟨_, res_ok (HRES.out.sets o 0) _ rfl rfl, ?_, ?_⟩
        · rw [HA.out]
        · exact (setOp_below (below_step HB2.out HB9.out) HGP.out o).setCell (p := ⟨q, 0, Option.none⟩) HGQ.out _
/-- script.Parse: what a line says. -/
theorem parse_calls (s : ByteArray) (w : World) (hG : GlobOK w) : Calls Tryz.prog 9 #[.string s] w fun e w' => e = .returned (.tuple #[opV (ansW s).1, .int .i64 (ansW s).2]) ∧ Below w.heap.size w w' := by
  by_cases hs : 400 < s.size
  · have ha : ansW s = (zOp, 210) := by unfold ansW parW; rw [if_pos hs]
    rw [ha]
    exact parse_long s hs w
  · have hs2 : s.size ≤ 400 := by omega
    cases hp : piecesB s 32 with
    | nil =>
      have := congrArg List.length hp
      unfold piecesB at this
      rw [List.length_map] at this
      exact absurd (List.eq_nil_of_length_eq_zero this) (piecesL_ne _ _)
    | cons t ts =>
      cases hx : lets.lookup t with
      | none => exact parse_none s t ts hs2 hp hx w hG
      | some x => exact parse_some s t ts hs2 hp x.1 x.2 hx w hG
end Go.Proofs.YtodmbjbfigifnaaGreatDoor.Sc
set_option linter.unusedVariables false
set_option linter.unusedSimpArgs false
namespace Go.Proofs.YtodmbjbfigifnaaGreatDoor.Sc
open Go.RowKit Go.Proofs.YtodmbjbfigifnaaGreatDoor.Glob Go.Proofs.YtodmbjbfigifnaaGreatDoor.Dig Go.Proofs.YtodmbjbfigifnaaGreatDoorW.PrintWords Go.Proofs.YtodmbjbfigifnaaGreatDoor.PAll Go.Proofs.YtodmbjbfigifnaaGreatDoor.Pure
theorem res_cell_tmp {P : Program} {fn : Func} {p q : Tmp} {ty : TypeId} (h : fn.results = #[.cell p ty, .tmp q]) (tmps : Array Value) (w : World) (g : Nat) (t : TypeId) (cs : Array Value) (fr : Nat × Nat) (d : TypeDesc) {v : Value}
    (hp : tmps.getD p undef = .pointer (some ⟨g, 0, Option.none⟩)) (hq : tmps.getD q undef = v) (hg : w.heap[g]? = some (.cells cs t fr))
    (hu : P.underlying ty = some d) (hd : (match d with | .struct _ | .array _ _ => true | _ => false) = true) (hi : (P.info? ty).map (·.size) = some cs.size) :
    (results fn tmps).run P w = .ok (.tuple #[.agg cs, v]) w := by
  have hp' : tmps[p]?.getD undef = .pointer (some ⟨g, 0, Option.none⟩) := by simpa using hp
  have hq' : tmps[q]?.getD undef = v := by simpa using hq
  simp [results, h, hp', hq', asAddr, run_loadVar_row w g t ty cs fr d hg hu hd hi]
theorem own_words {W : World} {base n : Nat} {v : Value} {t : ByteArray} {ts : List ByteArray} (h : W.ownsRow base 9 1 v n (sv (t :: ts))) : ∃ g cap, v = .slice (some ⟨g, 0, Option.none⟩) (ts.length + 1) cap ∧ ts.length + 1 ≤ cap ∧ (∃ cur, W.heap[g]? = some (.cells cur 9 (0, 0))) ∧ ∀ (j : Nat) (x : ByteArray), (t :: ts)[j]? = some x → W.cell? ⟨g, j, Option.none⟩ = some (.string x) := by
  obtain ⟨hl, h⟩ := h
  have hn : n = ts.length + 1 := by simpa [sv] using hl.symm
  subst hn
  rcases h with ⟨_, h0⟩ | ⟨g, cap, cur, rfl, _, hg, hc, _, _, ht⟩
  · omega
  · refine ⟨g, cap, rfl, hc, ⟨cur, hg⟩, fun j x hj => ?_⟩
    have h1 : (sv (t :: ts))[j]? = some (.string x) := by unfold sv; rw [List.getElem?_map, hj]; rfl
    rw [← ht] at h1
    have hlt := (List.getElem?_eq_some_iff.1 h1).1
    rw [List.length_take] at hlt
    rw [List.getElem?_take_of_lt (by omega)] at h1
    rw [blk_cell hg j, ← Array.getElem?_toList]
    exact h1
set_option maxRecDepth 100000 in
set_option maxHeartbeats 1000000 in
theorem rparse_long (s : ByteArray) (hs : 400 < s.size) (w : World) : Calls Tryz.prog 19 #[.string s] w fun e w' => e = .returned (.tuple #[opV zOp, .int .i64 210]) ∧ Below w.heap.size w w' := by
  have hl : (s.size : Int) > 400 := by omega
  go_enter Tryz.func19, Tryz.ntmps19
  go_wp2_with ((with_reducible refine gate_dst (N := 2) rfl ?_); refine box_event ?hg (N := 2) ?hd (cs := #[.int .i64 0, .int .i64 0, .int .i64 0, .int .i64 0, .string ⟨#[]⟩, .string ⟨#[]⟩, .string ⟨#[]⟩, .string ⟨#[]⟩, .bool false]) (t := 25) ?hr ?_; (case hd => rfl); (case hg => rfl); (case hr => first | (go_simp; done) | (go_simp; rfl)); intro p hg w1 hbox hb; have HP := Aside0.mk hbox; have HB1 := Aside0.mk hb; have HGP : Aside0 (w.heap.size ≤ p) := ⟨by omega⟩; have hp0 := (blk_cell hbox 0).trans (show _ = some (Value.int .i64 0) from rfl); have hg0 := blk_frozen hbox 0; have hp1 := (blk_cell hbox 1).trans (show _ = some (Value.int .i64 0) from rfl); have hg1 := blk_frozen hbox 1; have hp2 := (blk_cell hbox 2).trans (show _ = some (Value.int .i64 0) from rfl); have hg2 := blk_frozen hbox 2; have hp3 := (blk_cell hbox 3).trans (show _ = some (Value.int .i64 0) from rfl); have hg3 := blk_frozen hbox 3; have hp4 := (blk_cell hbox 4).trans (show _ = some (Value.string ⟨#[]⟩) from rfl); have hg4 := blk_frozen hbox 4; have hp5 := (blk_cell hbox 5).trans (show _ = some (Value.string ⟨#[]⟩) from rfl); have hg5 := blk_frozen hbox 5; have hp6 := (blk_cell hbox 6).trans (show _ = some (Value.string ⟨#[]⟩) from rfl); have hg6 := blk_frozen hbox 6; have hp7 := (blk_cell hbox 7).trans (show _ = some (Value.string ⟨#[]⟩) from rfl); have hg7 := blk_frozen hbox 7; have hp8 := (blk_cell hbox 8).trans (show _ = some (Value.bool false) from rfl); have hg8 := blk_frozen hbox 8; clear hb hg hbox)
  refine bodyPost_ret (res_cell_tmp rfl _ _ p 25 (opA zOp) (0, 0) _ rfl rfl (setOp_same (o0 := zOp) HP.out zOp) Tryz.underlying25 rfl (by kernel_rfl)) rfl ?_
  exact ⟨rfl, setOp_below HB1.out HGP.out zOp⟩
theorem lets_pos : ∀ x ∈ lets, (x.2.1 == 0) = false := by decide +kernel
theorem shape_of {kk : ByteArray} {kd : Int} {cs : List Nat} (h : (kk, kd, cs) ∈ lets) (hc : ∀ c ∈ cs, isLet c) : ∃ sh : ByteArray, tidelineref21_shape.f 9 kd = some sh ∧ sh.size = cs.length ∧ ∀ (j : Nat) (c : Nat), cs[j]? = some c → ∀ hj : j < sh.size, (sh[j]).toNat = c := by
  have hs := shape_lets _ h
  refine ⟨_, hs, ?_, ?_⟩
  · show Array.size (List.toArray _) = _
    rw [List.size_toArray, List.length_map]
  · intro j c hj hlt
    have hlt2 := (List.getElem?_eq_some_iff.1 hj).1
    have e : (⟨(cs.map UInt8.ofNat).toArray⟩ : ByteArray)[j] = UInt8.ofNat cs[j] := by
      show (cs.map UInt8.ofNat).toArray[j] = _
      simp
    have e2 : cs[j] = c := (List.getElem?_eq_some_iff.1 hj).2
    show ((⟨(cs.map UInt8.ofNat).toArray⟩ : ByteArray)[j]).toNat = c
    rw [e, e2]
    rcases hc c (e2 ▸ List.getElem_mem hlt2) with rfl | rfl | rfl | rfl | rfl | rfl <;> rfl
/-- What the first loop keeps. -/
structure K1 (w3 W : World) (t : ByteArray) (k : Nat) : Prop where
  box : W.heap[w3.heap.size]? = some (.cells (opA { zOp with f0 := kindUpto t k }) 25 (0, 0))
  be : Below w3.heap.size w3 W
theorem K1.drawn {w3 W W' : World} {t : ByteArray} {k : Nat} (h : K1 w3 W t k) (hd : Drawn0 W W') : K1 w3 W' t k := ⟨blk_below h.box hd.below, below_step h.be hd.below⟩
theorem K1.hit {w3 W : World} {t : ByteArray} {k : Nat} (h : K1 w3 W t k) (hw : wordP ((k + 1 : Nat) : Int) = t) : K1 w3 (W.setCell ⟨w3.heap.size, 0, Option.none⟩ (.int .i64 ((k : Int) + 1))) t (k + 1) :=
  ⟨blk_put h.box 0 _ (by rw [show kindUpto t (k + 1) = if wordP ((k + 1 : Nat) : Int) = t then ((k + 1 : Nat) : Int) else kindUpto t k from rfl, if_pos hw]; rfl), below_set h.be (Nat.le_refl _)⟩
theorem K1.miss {w3 W : World} {t : ByteArray} {k : Nat} (h : K1 w3 W t k) (hw : ¬ wordP ((k + 1 : Nat) : Int) = t) : K1 w3 W t (k + 1) :=
  ⟨by rw [show kindUpto t (k + 1) = if wordP ((k + 1 : Nat) : Int) = t then ((k + 1 : Nat) : Int) else kindUpto t k from rfl, if_neg hw]; exact h.box, h.be⟩
theorem fieldsW_len : ∀ (cs : List Nat) (ts : List ByteArray) (o : OpT), ts.length ≠ cs.length → fieldsW cs ts o = Option.none
  | [], [], _, h => absurd rfl h
  | [], _ :: _, _, _ => rfl
  | _ :: _, [], _, _ => rfl
  | c :: cs, t :: ts, o, h => by
    unfold fieldsW
    cases fieldW c t o with
    | none => rfl
    | some o' => exact fieldsW_len cs ts o' (by simpa using h)
/-- What the second loop keeps. -/
structure K2 (w3 W : World) (o : OpT) : Prop where
  box : W.heap[w3.heap.size]? = some (.cells (opA o) 25 (0, 0))
  be : Below w3.heap.size w3 W
section
variable {w3 W W' : World} {o : OpT}
theorem K2.then (h : K2 w3 W o) (hb : Below W.heap.size W W') : K2 w3 W' o := ⟨blk_below h.box hb, below_step h.be hb⟩
theorem K2.alloc (h : K2 w3 W o) (ob : Obj) : K2 w3 (W.alloc ob) o := h.then (below_alloc (Below.refl _ _) ob)
theorem K2.far (h : K2 w3 W o) {b : Nat} (hb : w3.heap.size < b) (r : OpT) : K2 w3 (setOp W b r) o := ⟨setOp_far h.box (by omega) r, setOp_below h.be (Nat.le_of_lt hb) r⟩
theorem K2.far9 (h : K2 w3 W o) {b : Nat} (hb : w3.heap.size < b) (r : OpT) : K2 w3 (((((((((W.setCell ⟨b, 0, Option.none⟩ (.int .i64 r.f0)).setCell ⟨b, 1, Option.none⟩ (.int .i64 r.f1)).setCell ⟨b, 2, Option.none⟩ (.int .i64 r.f2)).setCell ⟨b, 3, Option.none⟩ (.int .i64 r.f3)).setCell ⟨b, 4, Option.none⟩ (.string r.f4)).setCell ⟨b, 5, Option.none⟩ (.string r.f5)).setCell ⟨b, 6, Option.none⟩ (.string r.f6.f0)).setCell ⟨b, 7, Option.none⟩ (.string r.f6.f1)).setCell ⟨b, 8, Option.none⟩ (.bool r.f6.f2)) o := h.far hb r
theorem K2.drew (h : K2 w3 W o) : K2 w3 W.drew o := h.then (Below.refl _ _).drew
theorem K2.put (h : K2 w3 W o) (r : OpT) : K2 w3 (setOp W w3.heap.size r) r := ⟨setOp_same (o0 := o) h.box r, setOp_below h.be (Nat.le_refl _) r⟩
theorem K2.lt (h : K2 w3 W o) : w3.heap.size < W.heap.size := blk_lt h.box
theorem K2.held (h : K2 w3 W o) {g j : Nat} {x : ByteArray} (hr : w3.cell? ⟨g, j, Option.none⟩ = some (.string x)) : W.cell? ⟨w3.heap.size, 0, Option.none⟩ = some (Value.int .i64 o.f0) ∧ W.cell? ⟨w3.heap.size, 1, Option.none⟩ = some (Value.int .i64 o.f1) ∧ W.cell? ⟨w3.heap.size, 2, Option.none⟩ = some (Value.int .i64 o.f2) ∧ W.cell? ⟨w3.heap.size, 3, Option.none⟩ = some (Value.int .i64 o.f3) ∧ W.cell? ⟨w3.heap.size, 4, Option.none⟩ = some (Value.string o.f4) ∧ W.cell? ⟨w3.heap.size, 5, Option.none⟩ = some (Value.string o.f5) ∧ W.cell? ⟨w3.heap.size, 6, Option.none⟩ = some (Value.string o.f6.f0) ∧ W.cell? ⟨w3.heap.size, 7, Option.none⟩ = some (Value.string o.f6.f1) ∧ W.cell? ⟨w3.heap.size, 8, Option.none⟩ = some (Value.bool o.f6.f2) ∧ W.cell? ⟨g, j, Option.none⟩ = some (.string x) ∧ Aside0 (K2 w3 W o) :=
  ⟨(blk_cell h.box 0).trans rfl, (blk_cell h.box 1).trans rfl, (blk_cell h.box 2).trans rfl, (blk_cell h.box 3).trans rfl, (blk_cell h.box 4).trans rfl, (blk_cell h.box 5).trans rfl, (blk_cell h.box 6).trans rfl, (blk_cell h.box 7).trans rfl, (blk_cell h.box 8).trans rfl, (h.be.cell (World.block_lt_of_cell? w3 _ hr)).trans hr, ⟨h⟩⟩
end
set_option maxRecDepth 100000 in
set_option maxHeartbeats 2500000 in
theorem rparse_short (s t : ByteArray) (ts : List ByteArray) (hs : s.size ≤ 400) (hp : piecesB s 32 = t :: ts) (w : World) : Calls Tryz.prog 19 #[.string s] w fun e w' => e = .returned (.tuple #[opV (ansW s).1, .int .i64 (ansW s).2]) ∧ Below w.heap.size w w' := by
  have hl : ¬ (s.size : Int) > 400 := by omega
  have HSP := Aside0.mk hp
  clear hp
  go_enter Tryz.func19, Tryz.ntmps19
  go_wp2_with (first
    | ((with_reducible refine gate_dst (N := 2) rfl ?_); refine box_event ?hg (N := 2) ?hd (cs := #[.int .i64 0, .int .i64 0, .int .i64 0, .int .i64 0, .string ⟨#[]⟩, .string ⟨#[]⟩, .string ⟨#[]⟩, .string ⟨#[]⟩, .bool false]) (t := 25) ?hr ?_; (case hd => rfl); (case hg => rfl); (case hr => first | (go_simp; done) | (go_simp; rfl)); intro p hg w1 hbox hb; have HP := Aside0.mk hbox; have HB1 := Aside0.mk hb; have HGP : Aside0 (w.heap.size ≤ p) := ⟨by omega⟩; clear hb hg hbox)
    | (go_at_call 33; refine (rsplit_calls s 32 (by omega) _).mono ?_; rintro e w3 ⟨v, rfl, hO, hb⟩; rw [HSP.out] at hO; obtain ⟨g, cap, rfl, hcap, hrow, hcells⟩ := own_words hO; have HROW := Aside0.mk (And.intro hrow hcells); have HB3 := Aside0.mk hb; have HP3 := Aside0.mk (blk_below HP.out hb); clear hb hrow hcells hO))
  go_loopw [6] (fun i wr => ∃ k : Nat, i = .int .i64 ((k : Int) + 1) ∧ k ≤ 17 ∧ K1 w3 wr t k) (fun i _ => 18 - (intOf i).toNat)
  case atStart => exact ⟨0, rfl, Nat.zero_le _, heap_alloc_new w3 _, below_alloc (Below.refl _ _) _⟩
  case round =>
    obtain ⟨k, rfl, hk, hK⟩ := hrel
    have e1 : IntKind.i64.wrap ((k : Int) + 1 + 1) = (k : Int) + 1 + 1 := IntWalk.i64_in _ (by omega)
    by_cases hlt : (k : Int) + 1 ≤ 17
    · have hrow0 : ∀ W, K1 w3 W t k → W.cell? ⟨g, 0, Option.none⟩ = some (.string t) := fun W h => (h.be.cell (World.block_lt_of_cell? w3 _ (HROW.out.2 0 t rfl))).trans (HROW.out.2 0 t rfl)
      have HR0 := Aside0.mk hrow0
      have HK : Aside0 (K1 w3 wr.drew t k) := ⟨hK.drawn ⟨1, rfl⟩⟩
      have hwd := fun W => tidelineref21_word.calls ((k : Int) + 1) _ W (wordP_f ((k : Int) + 1))
      have hkk : ((k + 1 : Nat) : Int) = (k : Int) + 1 := by omega
      have hnext : ∀ W, K1 w3 W t k → (wordP ((k : Int) + 1) = t → K1 w3 (W.setCell ⟨w3.heap.size, 0, Option.none⟩ (.int .i64 ((k : Int) + 1))) t (k + 1)) ∧ (¬ wordP ((k : Int) + 1) = t → K1 w3 W t (k + 1)) := fun W h => ⟨fun e => h.hit (by rw [hkk]; exact e), fun e => h.miss (by rw [hkk]; exact e)⟩
      have HNX := Aside0.mk hnext
      clear hrow0 hnext hK hkk
      generalize wordP ((k : Int) + 1) = u at hwd HNX
      go_wp2
      go_region_held3 (fun W => W.cell? ⟨g, 0, Option.none⟩ = some (.string t) ∧ Aside0 (K1 w3 W t k)) (first | exact ⟨HR0.out _ HK9.out, HK9⟩ | exact ⟨HR0.out _ HK.out, HK⟩)
        (first | (go_at_call 14; refine (hwd _).mono ?_; rintro e w9 ⟨rfl, hd⟩; have HK9 := Aside0.mk (HK.out.drawn hd); clear hd))
      all_goals
        have hcz := (blk_cell HK9.out.box 0).trans (show _ = some (Value.int .i64 (kindUpto t k)) from rfl)
        have hfz := blk_frozen HK9.out.box 0
      all_goals go_wp2
      · have hw : u = t := by
          have h_ : (u.toList == t.toList) = true := by assumption
          exact ba_eq.1 (beq_iff_eq.1 h_)
        exact ⟨⟨k + 1, by simp, by omega, (HNX.out _ HK9.out).1 hw⟩, by simp [intOf]; omega⟩
      · have hw : ¬ u = t := by
          have h_ : (u.toList == t.toList) = false := by assumption
          rw [beq_eq_false_iff_ne] at h_
          exact fun e => h_ (ba_eq.2 e)
        exact ⟨⟨k + 1, by simp, by omega, (HNX.out _ HK9.out).2 hw⟩, by simp [intOf]; omega⟩
    · obtain rfl : k = 17 := by omega
      have hkl := kind_look t
      have hcz := (blk_cell hK.box 0).trans (show _ = some (Value.int .i64 (kindUpto t 17)) from rfl)
      have HK := Aside0.mk hK
      cases hx : lets.lookup t with
      | none =>
        rw [hx] at hkl
        simp only at hkl
        rw [hkl] at hcz
        have hn : parW s = Option.none := by unfold parW; rw [if_neg (by omega), HSP.out]; simp only [hx]; rfl
        have HN := Aside0.mk hn
        have HKL := Aside0.mk hkl
        clear hK hkl hx hn e1
        go_wp2_with (go_at_call 15; refine (tidelineref21_shape.calls 9 0 _ _ shape_zero).mono ?_; rintro e w9 ⟨rfl, hd⟩; have hcz9 := (blk_cell (HK.out.drawn hd).box 0).trans (show _ = some (Value.int .i64 (kindUpto t 17)) from rfl); rw [HKL.out] at hcz9; have hp9 := blk_below HP3.out (HK.out.drawn hd).be; have hp0 := (blk_cell hp9 0).trans (show _ = some (Value.int .i64 0) from rfl); have hg0 := blk_frozen hp9 0; have hp1 := (blk_cell hp9 1).trans (show _ = some (Value.int .i64 0) from rfl); have hg1 := blk_frozen hp9 1; have hp2 := (blk_cell hp9 2).trans (show _ = some (Value.int .i64 0) from rfl); have hg2 := blk_frozen hp9 2; have hp3 := (blk_cell hp9 3).trans (show _ = some (Value.int .i64 0) from rfl); have hg3 := blk_frozen hp9 3; have hp4 := (blk_cell hp9 4).trans (show _ = some (Value.string ⟨#[]⟩) from rfl); have hg4 := blk_frozen hp9 4; have hp5 := (blk_cell hp9 5).trans (show _ = some (Value.string ⟨#[]⟩) from rfl); have hg5 := blk_frozen hp9 5; have hp6 := (blk_cell hp9 6).trans (show _ = some (Value.string ⟨#[]⟩) from rfl); have hg6 := blk_frozen hp9 6; have hp7 := (blk_cell hp9 7).trans (show _ = some (Value.string ⟨#[]⟩) from rfl); have hg7 := blk_frozen hp9 7; have hp8 := (blk_cell hp9 8).trans (show _ = some (Value.bool false) from rfl); have hg8 := blk_frozen hp9 8; have HP9 := Aside0.mk hp9; have HB9 := Aside0.mk (below_step (below_step HB1.out HB3.out) (HK.out.drawn hd).be); clear hp9 hd)
        refine bodyPost_ret (res_cell_tmp rfl _ _ p 25 (opA zOp) (0, 0) _ rfl rfl (setOp_same (o0 := zOp) HP9.out zOp) Tryz.underlying25 rfl (by kernel_rfl)) rfl ?_
        exact ⟨by unfold ansW; rw [HN.out]; rfl, setOp_below HB9.out HGP.out zOp⟩
      | some x =>
        obtain ⟨kd, cs⟩ := x
        rename World => wrA
        rw [hx] at hkl
        simp only at hkl
        rw [hkl] at hcz
        obtain ⟨kk, hmem⟩ := lookup_mem hx
        have hlet : cs.length ≤ 3 ∧ ∀ c ∈ cs, isLet c := lets_let _ hmem
        have hkz : (kd == 0) = false := lets_pos _ hmem
        have hn : fieldsW (cs.drop 0) (ts.drop 0) { zOp with f0 := kd } = parW s := by unfold parW; rw [if_neg (by omega), HSP.out]; simp only [hx]; rfl
        obtain ⟨sh, hsh, hshs, hshj⟩ := shape_of hmem hlet.2
        have HLET := Aside0.mk hlet
        have HSH := Aside0.mk hshj
        have HN := Aside0.mk hn
        have HKL := Aside0.mk hkl
        have e2 : IntKind.i64.wrap (1 + (cs.length : Int)) = 1 + (cs.length : Int) := IntWalk.i64_in _ (by have := hlet.1; omega)
        clear hK hkl hx hn e1 hmem hlet hshj
        go_wp2_with (go_at_call 15; refine (tidelineref21_shape.calls 9 kd sh _ hsh).mono ?_; rintro e w9 ⟨rfl, hd⟩; have hcz9 := (blk_cell (HK.out.drawn hd).box 0).trans (show _ = some (Value.int .i64 (kindUpto t 17)) from rfl); rw [HKL.out] at hcz9; have HK9 := Aside0.mk (HK.out.drawn hd); have hp9 := blk_below HP3.out (HK.out.drawn hd).be; have hp0 := (blk_cell hp9 0).trans (show _ = some (Value.int .i64 0) from rfl); have hg0 := blk_frozen hp9 0; have hp1 := (blk_cell hp9 1).trans (show _ = some (Value.int .i64 0) from rfl); have hg1 := blk_frozen hp9 1; have hp2 := (blk_cell hp9 2).trans (show _ = some (Value.int .i64 0) from rfl); have hg2 := blk_frozen hp9 2; have hp3 := (blk_cell hp9 3).trans (show _ = some (Value.int .i64 0) from rfl); have hg3 := blk_frozen hp9 3; have hp4 := (blk_cell hp9 4).trans (show _ = some (Value.string ⟨#[]⟩) from rfl); have hg4 := blk_frozen hp9 4; have hp5 := (blk_cell hp9 5).trans (show _ = some (Value.string ⟨#[]⟩) from rfl); have hg5 := blk_frozen hp9 5; have hp6 := (blk_cell hp9 6).trans (show _ = some (Value.string ⟨#[]⟩) from rfl); have hg6 := blk_frozen hp9 6; have hp7 := (blk_cell hp9 7).trans (show _ = some (Value.string ⟨#[]⟩) from rfl); have hg7 := blk_frozen hp9 7; have hp8 := (blk_cell hp9 8).trans (show _ = some (Value.bool false) from rfl); have hg8 := blk_frozen hp9 8; have HP9 := Aside0.mk hp9; have HB9 := Aside0.mk (below_step (below_step HB1.out HB3.out) (HK.out.drawn hd).be); clear hp9 hd)
        · have hne : ts.length ≠ cs.length := by
            have h_ : ((ts.length : Int) + 1 != 1 + (cs.length : Int)) = true := by assumption
            rw [bne_iff_ne] at h_
            omega
          refine bodyPost_ret (res_cell_tmp rfl _ _ p 25 (opA zOp) (0, 0) _ rfl rfl (setOp_same (o0 := zOp) HP9.out zOp) Tryz.underlying25 rfl (by kernel_rfl)) rfl ?_
          have hn : parW s = Option.none := by rw [← HN.out]; exact fieldsW_len cs ts _ hne
          exact ⟨by unfold ansW; rw [hn]; rfl, setOp_below HB9.out HGP.out zOp⟩
        · have hle : ts.length = cs.length := by
            have h_ : ((ts.length : Int) + 1 != 1 + (cs.length : Int)) = false := by assumption
            have h2 : (ts.length : Int) + 1 = 1 + (cs.length : Int) := by simpa using h_
            omega
          have HLE := Aside0.mk hle
          have HK29 : Aside0 (K2 w3 w9 { zOp with f0 := kd }) := ⟨⟨by have := HK9.out.box; rw [HKL.out] at this; exact this, HK9.out.be⟩⟩
          clear hle hcz hcz9 hp0 hp1 hp2 hp3 hp4 hp5 hp6 hp7 hp8 hg0 hg1 hg2 hg3 hg4 hg5 hg6 hg7 hg8
          go_loopw [8] (fun i wr => ∃ j : Nat, i = .int .i64 (j : Int) ∧ j ≤ cs.length ∧ ∃ o : OpT, K2 w3 wr o ∧ fieldsW (cs.drop j) (ts.drop j) o = parW s) (fun i _ => cs.length - (intOf i).toNat)
          case atStart => exact ⟨0, rfl, Nat.zero_le _, _, HK29.out, HN.out⟩
          case round =>
            obtain ⟨j, rfl, hj, o, hK, hfin⟩ := hrel
            have f1 : (0 : Int) ≤ (j : Int) := by omega
            by_cases hlt : (j : Int) < (cs.length : Int)
            · have hj1 : j < cs.length := by omega
              have hjt : j < ts.length := by have := HLE.out; omega
              have e3 : IntKind.i64.wrap ((j : Int) + 1) = (j : Int) + 1 := IntWalk.i64_in _ (by have := HLET.out.1; omega)
              have hrow := HROW.out.2 (j + 1) ts[j] (by rw [List.getElem?_cons_succ, List.getElem?_eq_getElem hjt])
              rw [fieldsW_step hj1, List.getElem?_eq_getElem hjt, Option.bind_some] at hfin
              have hcL := HLET.out.2 _ (List.getElem_mem hj1)
              have hsj := HSH.out j cs[j] (List.getElem?_eq_getElem hj1)
              have hsz : ts[j].size ≤ 400 := (piecesB_short s 32 hs).1 _ (by rw [HSP.out]; exact List.mem_cons_of_mem _ (List.getElem_mem hjt))
              obtain ⟨r, ok, hev, hm⟩ := rfield_f o hcL ts[j] hsz
              obtain ⟨kf, hkf⟩ := hev.rounds
              have hfc := fun W => tidelineref21_field.calls kf _ _ _ _ _ _ _ _ _ _ _ _ _ _ _ _ _ _ _ _ _ W hkf
              generalize ts[j] = x at *
              generalize cs[j] = c at *
              have HM := Aside0.mk hm
              have HFIN := Aside0.mk hfin
              have HROWJ := Aside0.mk hrow
              have HK : Aside0 (K2 w3 wr.drew o) := ⟨hK.drew⟩
              have HKW := Aside0.mk hK
              have f4 : (j : Int) + 1 < (ts.length : Int) + 1 := by omega
              have f5 : (0 : Int) ≤ (j : Int) + 1 := by omega
              clear hm hfin hrow hK hcL hsz hev hkf hj1 hjt
              go_wp2
              go_region_held3 (fun W => W.cell? ⟨w3.heap.size, 0, Option.none⟩ = some (Value.int .i64 o.f0) ∧ W.cell? ⟨w3.heap.size, 1, Option.none⟩ = some (Value.int .i64 o.f1) ∧ W.cell? ⟨w3.heap.size, 2, Option.none⟩ = some (Value.int .i64 o.f2) ∧ W.cell? ⟨w3.heap.size, 3, Option.none⟩ = some (Value.int .i64 o.f3) ∧ W.cell? ⟨w3.heap.size, 4, Option.none⟩ = some (Value.string o.f4) ∧ W.cell? ⟨w3.heap.size, 5, Option.none⟩ = some (Value.string o.f5) ∧ W.cell? ⟨w3.heap.size, 6, Option.none⟩ = some (Value.string o.f6.f0) ∧ W.cell? ⟨w3.heap.size, 7, Option.none⟩ = some (Value.string o.f6.f1) ∧ W.cell? ⟨w3.heap.size, 8, Option.none⟩ = some (Value.bool o.f6.f2) ∧ W.cell? ⟨g, j + 1, Option.none⟩ = some (.string x) ∧ Aside0 (K2 w3 W o)) (first | with_reducible exact HK5.out.held HROWJ.out | with_reducible exact (HK5.out.alloc _).held HROWJ.out | with_reducible exact (HK5.out.far9 HLO.out r).held HROWJ.out | with_reducible exact HK.out.held HROWJ.out | with_reducible exact (HKW.out.alloc _).drew.held HROWJ.out)
                (first
                | (go_at_call 34; with_reducible refine (hfc _).mono ?_; rintro e w5 ⟨rfl, hb⟩; have HK5 : Aside0 (K2 w3 w5 o) := ⟨HK.out.then hb⟩; clear hb)
                | (go_at_call 34; with_reducible refine (hfc _).mono ?_; rintro e w5 ⟨rfl, hb⟩; have HK5 : Aside0 (K2 w3 w5 o) := ⟨(HKW.out.alloc _).drew.then hb⟩; have HLO : Aside0 (w3.heap.size < wr.heap.size) := ⟨HKW.out.lt⟩; have hA : w5.heap[wr.heap.size]? = some (.cells #[.int .i64 0, .int .i64 0, .int .i64 0, .int .i64 0, .string ⟨#[]⟩, .string ⟨#[]⟩, .string ⟨#[]⟩, .string ⟨#[]⟩, .bool false] 25 (0, 0)) := blk_below (blk_drew (heap_alloc_new wr _)) hb; have hq0 := (blk_cell hA 0).trans (show _ = some (Value.int .i64 0) from rfl); have hqf0 := blk_frozen hA 0; have hq1 := (blk_cell hA 1).trans (show _ = some (Value.int .i64 0) from rfl); have hqf1 := blk_frozen hA 1; have hq2 := (blk_cell hA 2).trans (show _ = some (Value.int .i64 0) from rfl); have hqf2 := blk_frozen hA 2; have hq3 := (blk_cell hA 3).trans (show _ = some (Value.int .i64 0) from rfl); have hqf3 := blk_frozen hA 3; have hq4 := (blk_cell hA 4).trans (show _ = some (Value.string ⟨#[]⟩) from rfl); have hqf4 := blk_frozen hA 4; have hq5 := (blk_cell hA 5).trans (show _ = some (Value.string ⟨#[]⟩) from rfl); have hqf5 := blk_frozen hA 5; have hq6 := (blk_cell hA 6).trans (show _ = some (Value.string ⟨#[]⟩) from rfl); have hqf6 := blk_frozen hA 6; have hq7 := (blk_cell hA 7).trans (show _ = some (Value.string ⟨#[]⟩) from rfl); have hqf7 := blk_frozen hA 7; have hq8 := (blk_cell hA 8).trans (show _ = some (Value.bool false) from rfl); have hqf8 := blk_frozen hA 8; have HA := Aside0.mk hA; clear hb hA))
              all_goals rename_i hHeld
              all_goals first
                | with_reducible refine (?_ : ∀ W, K2 w3 W o → W.heap[w5.heap.size]? = some (.cells #[.int .i64 r.f0, .int .i64 r.f1, .int .i64 r.f2, .int .i64 r.f3, .string r.f4, .string r.f5, .string r.f6.f0, .string r.f6.f1, .bool r.f6.f2] 25 (0, 0)) → Exit.then _ _ Exit.normal _ W) _ (HK5.out.alloc _) (heap_alloc_new _ _)
                | refine (?_ : ∀ W, K2 w3 W o → W.heap[wr.heap.size]? = some (.cells #[.int .i64 r.f0, .int .i64 r.f1, .int .i64 r.f2, .int .i64 r.f3, .string r.f4, .string r.f5, .string r.f6.f0, .string r.f6.f1, .bool r.f6.f2] 25 (0, 0)) → Exit.then _ _ Exit.normal _ W) _ (HK5.out.far9 HLO.out r) (setOp_same (o0 := zOp) HA.out r)
              all_goals
                intro W hKf hNb
                clear hHeld
                have hm := HM.out
                have hfin := HFIN.out
                cases hst : fieldW c x o with
                | none =>
                  rw [hst] at hm hfin
                  obtain rfl : ok = false := hm
                  have HN2 := Aside0.mk (show parW s = Option.none from hfin.symm)
                  have hP := blk_below HP3.out hKf.be
                  have hp0 := (blk_cell hP 0).trans (show _ = some (Value.int .i64 0) from rfl)
                  have hpf0 := blk_frozen hP 0
                  have hp1 := (blk_cell hP 1).trans (show _ = some (Value.int .i64 0) from rfl)
                  have hpf1 := blk_frozen hP 1
                  have hp2 := (blk_cell hP 2).trans (show _ = some (Value.int .i64 0) from rfl)
                  have hpf2 := blk_frozen hP 2
                  have hp3 := (blk_cell hP 3).trans (show _ = some (Value.int .i64 0) from rfl)
                  have hpf3 := blk_frozen hP 3
                  have hp4 := (blk_cell hP 4).trans (show _ = some (Value.string ⟨#[]⟩) from rfl)
                  have hpf4 := blk_frozen hP 4
                  have hp5 := (blk_cell hP 5).trans (show _ = some (Value.string ⟨#[]⟩) from rfl)
                  have hpf5 := blk_frozen hP 5
                  have hp6 := (blk_cell hP 6).trans (show _ = some (Value.string ⟨#[]⟩) from rfl)
                  have hpf6 := blk_frozen hP 6
                  have hp7 := (blk_cell hP 7).trans (show _ = some (Value.string ⟨#[]⟩) from rfl)
                  have hpf7 := blk_frozen hP 7
                  have hp8 := (blk_cell hP 8).trans (show _ = some (Value.bool false) from rfl)
                  have hpf8 := blk_frozen hP 8
                  have HPW := Aside0.mk hP
                  have HBW := Aside0.mk (below_step (below_step HB1.out HB3.out) hKf.be)
                  clear hfin hst hP hKf hNb
                  go_wp2
                  refine bodyPost_ret (res_cell_tmp rfl _ _ p 25 (opA zOp) (0, 0) _ rfl rfl (setOp_same (o0 := zOp) HPW.out zOp) Tryz.underlying25 rfl (by kernel_rfl)) rfl ?_
                  exact ⟨by unfold ansW; rw [HN2.out]; rfl, setOp_below HBW.out HGP.out zOp⟩
                | some o' =>
                  rw [hst] at hm hfin
                  obtain ⟨rfl, rfl⟩ : ok = true ∧ r = o' := hm
                  have HF2 := Aside0.mk (show fieldsW (cs.drop (j + 1)) (ts.drop (j + 1)) r = parW s from hfin)
                  have hz0 := (blk_cell hKf.box 0).trans (show _ = some (Value.int .i64 o.f0) from rfl)
                  have hzf0 := blk_frozen hKf.box 0
                  have hz1 := (blk_cell hKf.box 1).trans (show _ = some (Value.int .i64 o.f1) from rfl)
                  have hzf1 := blk_frozen hKf.box 1
                  have hz2 := (blk_cell hKf.box 2).trans (show _ = some (Value.int .i64 o.f2) from rfl)
                  have hzf2 := blk_frozen hKf.box 2
                  have hz3 := (blk_cell hKf.box 3).trans (show _ = some (Value.int .i64 o.f3) from rfl)
                  have hzf3 := blk_frozen hKf.box 3
                  have hz4 := (blk_cell hKf.box 4).trans (show _ = some (Value.string o.f4) from rfl)
                  have hzf4 := blk_frozen hKf.box 4
                  have hz5 := (blk_cell hKf.box 5).trans (show _ = some (Value.string o.f5) from rfl)
                  have hzf5 := blk_frozen hKf.box 5
                  have hz6 := (blk_cell hKf.box 6).trans (show _ = some (Value.string o.f6.f0) from rfl)
                  have hzf6 := blk_frozen hKf.box 6
                  have hz7 := (blk_cell hKf.box 7).trans (show _ = some (Value.string o.f6.f1) from rfl)
                  have hzf7 := blk_frozen hKf.box 7
                  have hz8 := (blk_cell hKf.box 8).trans (show _ = some (Value.bool o.f6.f2) from rfl)
                  have hzf8 := blk_frozen hKf.box 8
                  have hn0 := (blk_cell hNb 0).trans (show _ = some (Value.int .i64 r.f0) from rfl)
                  have hn1 := (blk_cell hNb 1).trans (show _ = some (Value.int .i64 r.f1) from rfl)
                  have hn2 := (blk_cell hNb 2).trans (show _ = some (Value.int .i64 r.f2) from rfl)
                  have hn3 := (blk_cell hNb 3).trans (show _ = some (Value.int .i64 r.f3) from rfl)
                  have hn4 := (blk_cell hNb 4).trans (show _ = some (Value.string r.f4) from rfl)
                  have hn5 := (blk_cell hNb 5).trans (show _ = some (Value.string r.f5) from rfl)
                  have hn6 := (blk_cell hNb 6).trans (show _ = some (Value.string r.f6.f0) from rfl)
                  have hn7 := (blk_cell hNb 7).trans (show _ = some (Value.string r.f6.f1) from rfl)
                  have hn8 := (blk_cell hNb 8).trans (show _ = some (Value.bool r.f6.f2) from rfl)
                  have HKP := Aside0.mk (hKf.put r)
                  clear hfin hst hKf hNb
                  go_wp2
                  exact ⟨⟨j + 1, by first | rfl | simp | omega, by omega, r, HKP.out, HF2.out⟩, by simp [intOf]; omega⟩
            · have hj2 : ¬ j < cs.length := by omega
              rw [fieldsW_end hj2, if_neg (by have := HLE.out; omega)] at hfin
              have ha : ansW s = (o, 0) := by unfold ansW; rw [← hfin]
              have hP := blk_below HP3.out hK.be
              have hp0 := (blk_cell hP 0).trans (show _ = some (Value.int .i64 0) from rfl)
              have hpf0 := blk_frozen hP 0
              have hp1 := (blk_cell hP 1).trans (show _ = some (Value.int .i64 0) from rfl)
              have hpf1 := blk_frozen hP 1
              have hp2 := (blk_cell hP 2).trans (show _ = some (Value.int .i64 0) from rfl)
              have hpf2 := blk_frozen hP 2
              have hp3 := (blk_cell hP 3).trans (show _ = some (Value.int .i64 0) from rfl)
              have hpf3 := blk_frozen hP 3
              have hp4 := (blk_cell hP 4).trans (show _ = some (Value.string ⟨#[]⟩) from rfl)
              have hpf4 := blk_frozen hP 4
              have hp5 := (blk_cell hP 5).trans (show _ = some (Value.string ⟨#[]⟩) from rfl)
              have hpf5 := blk_frozen hP 5
              have hp6 := (blk_cell hP 6).trans (show _ = some (Value.string ⟨#[]⟩) from rfl)
              have hpf6 := blk_frozen hP 6
              have hp7 := (blk_cell hP 7).trans (show _ = some (Value.string ⟨#[]⟩) from rfl)
              have hpf7 := blk_frozen hP 7
              have hp8 := (blk_cell hP 8).trans (show _ = some (Value.bool false) from rfl)
              have hpf8 := blk_frozen hP 8
              have hz0 := (blk_cell hK.box 0).trans (show _ = some (Value.int .i64 o.f0) from rfl)
              have hz1 := (blk_cell hK.box 1).trans (show _ = some (Value.int .i64 o.f1) from rfl)
              have hz2 := (blk_cell hK.box 2).trans (show _ = some (Value.int .i64 o.f2) from rfl)
              have hz3 := (blk_cell hK.box 3).trans (show _ = some (Value.int .i64 o.f3) from rfl)
              have hz4 := (blk_cell hK.box 4).trans (show _ = some (Value.string o.f4) from rfl)
              have hz5 := (blk_cell hK.box 5).trans (show _ = some (Value.string o.f5) from rfl)
              have hz6 := (blk_cell hK.box 6).trans (show _ = some (Value.string o.f6.f0) from rfl)
              have hz7 := (blk_cell hK.box 7).trans (show _ = some (Value.string o.f6.f1) from rfl)
              have hz8 := (blk_cell hK.box 8).trans (show _ = some (Value.bool o.f6.f2) from rfl)
              have hnp : p ≠ w3.heap.size := by have := blk_lt HP3.out; omega
              have hnp2 : w3.heap.size ≠ p := Ne.symm hnp
              have HPW := Aside0.mk hP
              have HA2 := Aside0.mk ha
              have HBW := Aside0.mk (below_step (below_step HB1.out HB3.out) hK.be)
              clear hfin ha hP hK hj2
              go_wp2
              refine bodyPost_ret (res_cell_tmp rfl _ _ p 25 (opA o) (0, 0) _ rfl rfl (setOp_same (o0 := zOp) HPW.out o) Tryz.underlying25 rfl (by kernel_rfl)) rfl ?_
              exact ⟨by rw [HA2.out]; rfl, setOp_below HBW.out HGP.out o⟩
/-- The document's Parse answers what the program's does. -/
theorem rparse_calls (s : ByteArray) (w : World) : Calls Tryz.prog 19 #[.string s] w fun e w' => e = .returned (.tuple #[opV (ansW s).1, .int .i64 (ansW s).2]) ∧ Below w.heap.size w w' := by
  by_cases hs : 400 < s.size
  · have ha : ansW s = (zOp, 210) := by unfold ansW parW; rw [if_pos hs]
    rw [ha]
    exact rparse_long s hs w
  · cases hp : piecesB s 32 with
    | nil =>
      have := congrArg List.length hp
      unfold piecesB at this
      rw [List.length_map] at this
      exact absurd (List.eq_nil_of_length_eq_zero this) (piecesL_ne _ _)
    | cons t ts => exact rparse_short s t ts (by omega) hp w
end Go.Proofs.YtodmbjbfigifnaaGreatDoor.Sc
set_option linter.unusedVariables false
set_option linter.unusedSimpArgs false
namespace Go.Proofs.YtodmbjbfigifnaaGreatDoor.Pure
open Go.RowKit Go.Proofs.YtodmbjbfigifnaaGreatDoor.PAll Go.Proofs.YtodmbjbfigifnaaGreatDoorW.PrintWords Go.Proofs.YtodmbjbfigifnaaGreatDoorW.PrintLast Go.Proofs.YtodmbjbfigifnaaGreatDoorW.PrintMore
/-- What Print answers. -/
def prtV (lo hi : ByteArray) (op : Bool) : ByteArray × Int :=
  if rgE lo hi op = 0 then ((if op = true then hexB lo ++ (⟨#[46, 46, 42]⟩ : ByteArray) else hexB lo ++ (⟨#[46, 46]⟩ : ByteArray) ++ hexB hi), 0) else ((⟨#[]⟩ : ByteArray), rgE lo hi op)
theorem rgE_sizes {lo hi : ByteArray} {op : Bool} (h : rgE lo hi op = 0) : lo.size ≤ 16 ∧ hi.size ≤ 16 := by
  unfold rgE at h
  split at h
  · simp at h
  · omega
theorem prt_f (lo hi : ByteArray) (op : Bool) : Ev (fun k => span_Print.f k lo hi op) (prtV lo hi op) := by
  refine Ev.congr (fun k => by rw [span_Print.f]) (Ev.bind (rgE_f lo hi op) ?_)
  unfold prtV
  by_cases h : rgE lo hi op = 0
  · obtain ⟨h1, h2⟩ := rgE_sizes h
    simp only [if_pos h]
    have s1 := hexB_size lo
    have s2 := hexB_size hi
    cases op with
    | true =>
      simp only [if_true]
      refine Ev.bind (hex_f lo (by omega)) ?_
      simp only [if_pos (show (hexB lo).size + 3 ≤ 9223372036854775807 by omega)]
      exact Ev.const rfl
    | false =>
      simp only [if_neg (show ¬ (false = true) by decide)]
      refine Ev.bind (hex_f lo (by omega)) ?_
      simp only [if_pos (show (hexB lo).size + 2 ≤ 9223372036854775807 by omega)]
      refine Ev.bind (hex_f hi (by omega)) ?_
      have s3 : (hexB lo ++ (⟨#[46, 46]⟩ : ByteArray)).size = (hexB lo).size + 2 := by rw [ByteArray.size_append]; rfl
      simp only [if_pos (show (hexB lo ++ (⟨#[46, 46]⟩ : ByteArray)).size + (hexB hi).size ≤ 9223372036854775807 by omega)]
      exact Ev.const rfl
  · simp only [if_neg h]; exact Ev.const rfl
end Go.Proofs.YtodmbjbfigifnaaGreatDoor.Pure
