import Derived.Test.YtodmbjbfigifnaaGreatDoorProg
import Derived.Test.YtodmbjbfigifnaaGreatDoorG0
import Derived.Test.YtodmbjbfigifnaaGreatDoorG1
import Derived.Test.YtodmbjbfigifnaaGreatDoorG6
import Derived.Below
import Derived.RangeFuncBox
import Derived.BigQuiet
import Derived.Deep.QuietTactic
import Derived.Lib.Hide
import Derived.Tactics
import Derived.WalkKit
import Derived.OwnWalk
import Derived.BigRegion
import Derived.RegionTactic
import Derived.Deep.RegionWith
import Derived.Deep.RegionHeld
import Derived.Deep.RegionHeld3
import Derived.WalkSmall
import Derived.WalkLawsBesides
import Derived.Laws.Slices
import Derived.Test.YtodmbjbfigifnaaGreatDoorG4
import Derived.Test.YtodmbjbfigifnaaGreatDoorG5
import Derived.Lib.Join
import Derived.Lib.ItoaNum
import Derived.Test.YtodmbjbfigifnaaGreatDoorG3
set_option linter.unusedVariables false
set_option linter.unusedSimpArgs false
namespace Go.Proofs.YtodmbjbfigifnaaGreatDoor.Sc
open Go.RowKit Go.Proofs.YtodmbjbfigifnaaGreatDoor.Glob Go.Proofs.YtodmbjbfigifnaaGreatDoor.Dig Go.Proofs.YtodmbjbfigifnaaGreatDoorW.PrintWords Go.Proofs.YtodmbjbfigifnaaGreatDoor.PAll Go.Proofs.YtodmbjbfigifnaaGreatDoor.Pure
def dg (n : Int) : ByteArray := ⟨(Lib.decDigits (max n 0).toNat).toArray⟩
def keyT (o : OpT) : ByteArray := ⟨#[107]⟩ ++ hexB o.f4
def valT (o : OpT) : ByteArray := ⟨#[61]⟩ ++ hexB o.f5
def rngT (o : OpT) : ByteArray := (prtV o.f6.f0 o.f6.f1 o.f6.f2).1
/-- A command's words. -/
def wsV (o : OpT) : Option (List ByteArray) :=
  if o.f0 = 1 then some [⟨#[112, 117, 116]⟩, dg o.f1, keyT o, valT o] else
  if o.f0 = 2 then some [⟨#[100, 101, 108]⟩, dg o.f1, keyT o] else
  if o.f0 = 3 then some [⟨#[103, 101, 116]⟩, dg o.f1, keyT o] else
  if o.f0 = 4 then some [⟨#[115, 99, 97, 110]⟩, dg o.f1, rngT o] else
  if o.f0 = 5 then some [⟨#[102, 111, 108, 100]⟩, dg o.f1, rngT o] else
  if o.f0 = 6 then some [⟨#[111, 112, 101, 110]⟩, dg o.f1, dg o.f2] else
  if o.f0 = 7 then some [⟨#[103, 111]⟩, dg o.f3] else
  if o.f0 = 8 then some [⟨#[100, 114, 111, 112]⟩, dg o.f3] else
  if o.f0 = 9 then some [⟨#[116, 119, 105, 99, 101]⟩, dg o.f3] else
  if o.f0 = 10 then some [⟨#[114, 97, 119]⟩, dg o.f1, valT o] else
  if o.f0 = 17 then some [⟨#[98, 97, 103]⟩] else
  if o.f0 = 11 then some [⟨#[116, 105, 99, 107]⟩, dg o.f1] else
  if o.f0 = 12 then some [⟨#[99, 114, 97, 115, 104]⟩, dg o.f1] else
  if o.f0 = 13 then some [⟨#[115, 116, 97, 114, 116]⟩, dg o.f1] else
  if o.f0 = 14 then some [⟨#[109, 97, 112]⟩, dg o.f1] else
  if o.f0 = 15 then some [⟨#[116, 97, 108, 107, 115]⟩, dg o.f1] else
  if o.f0 = 16 then some [⟨#[99, 111, 117, 110, 116]⟩, dg o.f1] else none
/-- A command's bounds. -/
structure OpB (o : OpT) : Prop where
  n : o.f1 ≤ 9223372036854775807
  p : o.f2 ≤ 9223372036854775807
  i : o.f3 ≤ 9223372036854775807
  k : o.f4.size ≤ 1073741824
  v : o.f5.size ≤ 1073741824
  a : o.f6.f0.size ≤ 1073741824
  b : o.f6.f1.size ≤ 1073741824
theorem dig_calls {n : Int} (h : n ≤ 9223372036854775807) (w : World) (hG : GlobOK w) : Calls Tryz.prog 25 #[.int .i64 n] w fun e w' => e = .returned (.string (dg n)) ∧ Below w.heap.size w w' :=
  nums_Digits.calls n (dg n) w hG (by unfold nums_Digits.f; rw [if_pos h]; rfl)
theorem hex_calls {s : ByteArray} (h : s.size ≤ 1073741824) (w : World) : Calls Tryz.prog 26 #[.string s] w fun e w' => e = .returned (.string (hexB s)) ∧ Below w.heap.size w w' := by
  obtain ⟨k, hk⟩ := hex_f s (by omega)
  exact nums_Hex.calls k s _ w (hk k (Nat.le_refl k))
theorem sprint_calls (lo hi : ByteArray) (op : Bool) (w : World) : Calls Tryz.prog 27 #[.agg #[.string lo, .string hi, .bool op]] w fun e w' => e = .returned (.tuple #[.string (prtV lo hi op).1, .int .i64 (prtV lo hi op).2]) ∧ Below w.heap.size w w' := by
  obtain ⟨k, hk⟩ := prt_f lo hi op
  exact span_Print.calls k lo hi op _ _ w (hk k (Nat.le_refl k))
/-- The command in its box. -/
structure Ob (w W : World) (o : OpT) : Prop where
  box : W.heap[w.heap.size]? = some (.cells (opA o) 25 (0, 0))
  be : Below w.heap.size w W
theorem Ob.then {w W W' : World} {o : OpT} (h : Ob w W o) (hb : Below W.heap.size W W') : Ob w W' o := ⟨blk_below h.box hb, below_step h.be hb⟩
theorem Ob.drew {w W : World} {o : OpT} (h : Ob w W o) : Ob w W.drew o := ⟨blk_drew h.box, h.be.drew⟩
theorem Ob.held {w W : World} {o : OpT} (h : Ob w W o) : W.cell? ⟨w.heap.size, 1, none⟩ = some (.int .i64 o.f1) ∧ W.cell? ⟨w.heap.size, 3, none⟩ = some (.int .i64 o.f3) ∧ W.cell? ⟨w.heap.size, 4, none⟩ = some (.string o.f4) ∧ W.cell? ⟨w.heap.size, 5, none⟩ = some (.string o.f5) ∧ Aside0 (Ob w W o) :=
  ⟨(blk_cell h.box 1).trans rfl, (blk_cell h.box 3).trans rfl, (blk_cell h.box 4).trans rfl, (blk_cell h.box 5).trans rfl, ⟨h⟩⟩
/-- What script.words answers. -/
def WordsP (o : OpT) (w : World) (e : Ending) (w' : World) : Prop := (match wsV o with
      | none => e = .returned (.tuple #[.slice none 0 0, .bool false])
      | some ws => ∃ g, e = .returned (.tuple #[.slice (some ⟨g, 0, none⟩) ws.length ws.length, .bool true]) ∧ w'.heap[g]? = some (.cells (sv ws).toArray 9 (0, 0))) ∧ Below w.heap.size w w'
theorem WordsP.yes {o : OpT} {w W : World} {ws : List ByteArray} (h : wsV o = some ws) (hb : Below w.heap.size w W) : WordsP o w (.returned (.tuple #[.slice (some ⟨W.heap.size, 0, none⟩) ws.length ws.length, .bool true])) (W.alloc (.cells (sv ws).toArray 9)) := by
  unfold WordsP
  rw [h]
  exact ⟨⟨_, rfl, heap_alloc_new _ _⟩, below_alloc hb _⟩
theorem WordsP.no {o : OpT} {w W : World} (h : wsV o = none) (hb : Below w.heap.size w W) : WordsP o w (.returned (.tuple #[.slice none 0 0, .bool false])) W := by
  unfold WordsP
  rw [h]
  exact ⟨rfl, hb⟩
def sixA : Array Value := #[.int .i64 11, .string ⟨#[116, 105, 99, 107]⟩, .int .i64 12, .string ⟨#[99, 114, 97, 115, 104]⟩, .int .i64 13, .string ⟨#[115, 116, 97, 114, 116]⟩, .int .i64 14, .string ⟨#[109, 97, 112]⟩, .int .i64 15, .string ⟨#[116, 97, 108, 107, 115]⟩, .int .i64 16, .string ⟨#[99, 111, 117, 110, 116]⟩]
def sixW (k : Nat) : ByteArray := [⟨#[116, 105, 99, 107]⟩, ⟨#[99, 114, 97, 115, 104]⟩, ⟨#[115, 116, 97, 114, 116]⟩, ⟨#[109, 97, 112]⟩, ⟨#[116, 97, 108, 107, 115]⟩, ⟨#[99, 111, 117, 110, 116]⟩].getD k ⟨#[]⟩
theorem six_at : ∀ k : Nat, k < 6 → sixA[k * 2]? = some (.int .i64 (11 + (k : Int))) ∧ sixA[k * 2 + 1]? = some (.string (sixW k))
  | 0, _ | 1, _ | 2, _ | 3, _ | 4, _ | 5, _ => ⟨rfl, rfl⟩
  | k + 6, h => by omega
/-- The further kinds' loop. -/
structure Sx (w w9 W : World) (o : OpT) : Prop where
  ob : Ob w W o
  row : W.heap[w9.heap.size]? = some (.cells sixA 61 (0, 0))
theorem Sx.then {w w9 W W' : World} {o : OpT} (h : Sx w w9 W o) (hb : Below W.heap.size W W') : Sx w w9 W' o := ⟨h.ob.then hb, blk_below h.row hb⟩
theorem six_ws {o : OpT} : ∀ k : Nat, k < 6 → (11 : Int) + (k : Int) = o.f0 → wsV o = some [sixW k, dg o.f1]
  | 0, _, hm | 1, _, hm | 2, _, hm | 3, _, hm | 4, _, hm | 5, _, hm => by unfold wsV; rw [← hm]; rfl
  | k + 6, h, _ => by omega
theorem no_ws {o : OpT} (h : ∀ n : Int, n ∈ ([1, 2, 3, 4, 5, 6, 7, 8, 9, 10, 17] : List Int) → o.f0 ≠ n) (hno : ∀ j : Nat, j < 6 → (11 : Int) + (j : Int) ≠ o.f0) : wsV o = none := by
  unfold wsV
  rw [if_neg (h 1 (by simp)), if_neg (h 2 (by simp)), if_neg (h 3 (by simp)), if_neg (h 4 (by simp)), if_neg (h 5 (by simp)), if_neg (h 6 (by simp)), if_neg (h 7 (by simp)), if_neg (h 8 (by simp)), if_neg (h 9 (by simp)), if_neg (h 10 (by simp)), if_neg (h 17 (by simp)),
    if_neg (fun e => hno 0 (by omega) (by omega)), if_neg (fun e => hno 1 (by omega) (by omega)), if_neg (fun e => hno 2 (by omega) (by omega)), if_neg (fun e => hno 3 (by omega) (by omega)), if_neg (fun e => hno 4 (by omega) (by omega)), if_neg (fun e => hno 5 (by omega) (by omega))]
set_option maxRecDepth 100000 in
set_option maxHeartbeats 2500000 in
theorem words_calls (o : OpT) (hB : OpB o) (w : World) (hG : GlobOK w) : Calls Tryz.prog 12 #[opX o] w (WordsP o w) := by
  have HB := Aside0.mk hB
  have HG := Aside0.mk hG
  clear hB hG
  go_enter Tryz.func12, Tryz.ntmps12
  go_wp2
  have HK : Aside0 (Ob w (w.alloc (.cells (opA o) 25)).drew o) := ⟨Ob.drew ⟨heap_alloc_new _ _, below_alloc (Below.refl _ _) _⟩⟩
  go_region_held3 (fun W => W.cell? ⟨w.heap.size, 1, none⟩ = some (.int .i64 o.f1) ∧ W.cell? ⟨w.heap.size, 3, none⟩ = some (.int .i64 o.f3) ∧ W.cell? ⟨w.heap.size, 4, none⟩ = some (.string o.f4) ∧ W.cell? ⟨w.heap.size, 5, none⟩ = some (.string o.f5) ∧ Aside0 (Ob w W o)) (first | with_reducible exact HK5.out.held | with_reducible exact HK4.out.held | exact HK.out.held)
    (first
    | (go_at_call 25; go_loud (first
      | (refine (dig_calls HB.out.n _ (HG.out.below HK.out.be)).mono ?_; rintro e w4 ⟨rfl, hb⟩; have HK4 := Aside0.mk (HK.out.then hb); clear hb)
      | (refine (dig_calls HB.out.i _ (HG.out.below HK4.out.be)).mono ?_; rintro e w5 ⟨rfl, hb⟩; have HK5 := Aside0.mk (HK4.out.then hb); clear hb))))
  all_goals go_wp2
  obtain ⟨X4, hX4⟩ : ∃ X, X = hexB o.f4 := ⟨_, rfl⟩
  obtain ⟨X5, hX5⟩ : ∃ X, X = hexB o.f5 := ⟨_, rfl⟩
  have p4 : 1 + X4.size ≤ 9223372036854775807 := by have := HB.out.k; rw [hX4, hexB_size]; omega
  have p5 : 1 + X5.size ≤ 9223372036854775807 := by have := HB.out.v; rw [hX5, hexB_size]; omega
  have q4 : ¬ 9223372036854775807 < 1 + X4.size := by omega
  have q5 : ¬ 9223372036854775807 < 1 + X5.size := by omega
  have hx4 := fun W => hex_calls HB.out.k W
  have hx5 := fun W => hex_calls HB.out.v W
  simp only [← hX4] at hx4
  simp only [← hX5] at hx5
  have HX4 := Aside0.mk hX4
  have HX5 := Aside0.mk hX5
  have HC4 := Aside0.mk hx4
  have HC5 := Aside0.mk hx5
  clear hX4 hX5 hx4 hx5
  have HK6 : Aside0 (Ob w w5.drew o) := ⟨HK5.out.drew⟩
  go_region_held3 (fun W => W.cell? ⟨w.heap.size, 1, none⟩ = some (.int .i64 o.f1) ∧ W.cell? ⟨w.heap.size, 3, none⟩ = some (.int .i64 o.f3) ∧ W.cell? ⟨w.heap.size, 4, none⟩ = some (.string o.f4) ∧ W.cell? ⟨w.heap.size, 5, none⟩ = some (.string o.f5) ∧ Aside0 (Ob w W o)) (first | with_reducible exact HK8.out.held | with_reducible exact HK7.out.held | exact HK6.out.held)
    (first
    | (go_at_call 26; (first
      | (with_reducible refine (HC4.out _).mono ?_; rintro e w7 ⟨rfl, hb⟩; have HK7 := Aside0.mk (HK6.out.then hb); clear hb)
      | (with_reducible refine (HC5.out _).mono ?_; rintro e w8 ⟨rfl, hb⟩; have HK8 := Aside0.mk (HK7.out.then hb); clear hb))))
  all_goals (
    clear p4 p5 q4 q5
    obtain ⟨Y, hY⟩ : ∃ Y, Y = prtV o.f6.f0 o.f6.f1 o.f6.f2 := ⟨_, rfl⟩
    have hsp := fun W => sprint_calls o.f6.f0 o.f6.f1 o.f6.f2 W
    simp only [← hY] at hsp
    obtain ⟨y1, y2⟩ := Y
    dsimp only at hsp
    have HSP := Aside0.mk hsp
    have HY := Aside0.mk hY
    clear hY hsp
    have hf0 := (blk_cell HK8.out.box 0).trans (show _ = some (Value.int .i64 o.f0) from rfl)
    have hf6 := (blk_cell HK8.out.box 6).trans (show _ = some (Value.string o.f6.f0) from rfl)
    have hf7 := (blk_cell HK8.out.box 7).trans (show _ = some (Value.string o.f6.f1) from rfl)
    have hf8 := (blk_cell HK8.out.box 8).trans (show _ = some (Value.bool o.f6.f2) from rfl)
    -- LEAVES
    by_cases c1 : o.f0 = 1
    · have b1 : (o.f0 == 1) = true := beq_iff_eq.2 c1
      go_wp2_with (go_at_call 27; with_reducible refine (HSP.out _).mono ?_; rintro e w9 ⟨rfl, hb⟩; have HK9 := Aside0.mk (HK8.out.then hb); have hg0 := (blk_cell HK9.out.box 0).trans (show _ = some (Value.int .i64 o.f0) from rfl); clear hb hf0 hf6 hf7 hf8)
      go_ret2
      exact WordsP.yes (ws := [⟨#[112, 117, 116]⟩, dg o.f1, ⟨#[107]⟩ ++ X4, ⟨#[61]⟩ ++ X5]) (by unfold wsV keyT valT; rw [if_pos c1, HX4.out, HX5.out]) HK9.out.be
    have b1 : (o.f0 == 1) = false := beq_eq_false_iff_ne.2 c1
    by_cases c2 : o.f0 = 2
    · have b2 : (o.f0 == 2) = true := beq_iff_eq.2 c2
      go_wp2_with (go_at_call 27; with_reducible refine (HSP.out _).mono ?_; rintro e w9 ⟨rfl, hb⟩; have HK9 := Aside0.mk (HK8.out.then hb); have hg0 := (blk_cell HK9.out.box 0).trans (show _ = some (Value.int .i64 o.f0) from rfl); clear hb hf0 hf6 hf7 hf8)
      go_ret2
      exact WordsP.yes (ws := [⟨#[100, 101, 108]⟩, dg o.f1, ⟨#[107]⟩ ++ X4]) (by unfold wsV keyT; rw [if_neg c1, if_pos c2, HX4.out]) HK9.out.be
    have b2 : (o.f0 == 2) = false := beq_eq_false_iff_ne.2 c2
    by_cases c3 : o.f0 = 3
    · have b3 : (o.f0 == 3) = true := beq_iff_eq.2 c3
      go_wp2_with (go_at_call 27; with_reducible refine (HSP.out _).mono ?_; rintro e w9 ⟨rfl, hb⟩; have HK9 := Aside0.mk (HK8.out.then hb); have hg0 := (blk_cell HK9.out.box 0).trans (show _ = some (Value.int .i64 o.f0) from rfl); clear hb hf0 hf6 hf7 hf8)
      go_ret2
      exact WordsP.yes (ws := [⟨#[103, 101, 116]⟩, dg o.f1, ⟨#[107]⟩ ++ X4]) (by unfold wsV keyT; rw [if_neg c1, if_neg c2, if_pos c3, HX4.out]) HK9.out.be
    have b3 : (o.f0 == 3) = false := beq_eq_false_iff_ne.2 c3
    by_cases c4 : o.f0 = 4
    · have b4 : (o.f0 == 4) = true := beq_iff_eq.2 c4
      go_wp2_with (go_at_call 27; with_reducible refine (HSP.out _).mono ?_; rintro e w9 ⟨rfl, hb⟩; have HK9 := Aside0.mk (HK8.out.then hb); have hg0 := (blk_cell HK9.out.box 0).trans (show _ = some (Value.int .i64 o.f0) from rfl); clear hb hf0 hf6 hf7 hf8)
      go_ret2
      exact WordsP.yes (ws := [⟨#[115, 99, 97, 110]⟩, dg o.f1, y1]) (by unfold wsV rngT; rw [if_neg c1, if_neg c2, if_neg c3, if_pos c4, ← HY.out]) HK9.out.be
    have b4 : (o.f0 == 4) = false := beq_eq_false_iff_ne.2 c4
    by_cases c5 : o.f0 = 5
    · have b5 : (o.f0 == 5) = true := beq_iff_eq.2 c5
      go_wp2_with (go_at_call 27; with_reducible refine (HSP.out _).mono ?_; rintro e w9 ⟨rfl, hb⟩; have HK9 := Aside0.mk (HK8.out.then hb); have hg0 := (blk_cell HK9.out.box 0).trans (show _ = some (Value.int .i64 o.f0) from rfl); clear hb hf0 hf6 hf7 hf8)
      go_ret2
      exact WordsP.yes (ws := [⟨#[102, 111, 108, 100]⟩, dg o.f1, y1]) (by unfold wsV rngT; rw [if_neg c1, if_neg c2, if_neg c3, if_neg c4, if_pos c5, ← HY.out]) HK9.out.be
    have b5 : (o.f0 == 5) = false := beq_eq_false_iff_ne.2 c5
    by_cases c6 : o.f0 = 6
    · have b6 : (o.f0 == 6) = true := beq_iff_eq.2 c6
      go_wp2_with (first | (go_at_call 27; with_reducible refine (HSP.out _).mono ?_; rintro e w9 ⟨rfl, hb⟩; have HK9 := Aside0.mk (HK8.out.then hb); have hg0 := (blk_cell HK9.out.box 0).trans (show _ = some (Value.int .i64 o.f0) from rfl); have hg2 := (blk_cell HK9.out.box 2).trans (show _ = some (Value.int .i64 o.f2) from rfl); clear hb hf0 hf6 hf7 hf8) | (go_at_call 25; refine (dig_calls HB.out.p _ (HG.out.below HK9.out.be)).mono ?_; rintro e w10 ⟨rfl, hb⟩; have HK10 := Aside0.mk (HK9.out.then hb); clear hb))
      go_ret2
      exact WordsP.yes (ws := [⟨#[111, 112, 101, 110]⟩, dg o.f1, dg o.f2]) (by unfold wsV; rw [if_neg c1, if_neg c2, if_neg c3, if_neg c4, if_neg c5, if_pos c6]) HK10.out.be
    have b6 : (o.f0 == 6) = false := beq_eq_false_iff_ne.2 c6
    by_cases c7 : o.f0 = 7
    · have b7 : (o.f0 == 7) = true := beq_iff_eq.2 c7
      go_wp2_with (go_at_call 27; with_reducible refine (HSP.out _).mono ?_; rintro e w9 ⟨rfl, hb⟩; have HK9 := Aside0.mk (HK8.out.then hb); have hg0 := (blk_cell HK9.out.box 0).trans (show _ = some (Value.int .i64 o.f0) from rfl); clear hb hf0 hf6 hf7 hf8)
      go_ret2
      exact WordsP.yes (ws := [⟨#[103, 111]⟩, dg o.f3]) (by unfold wsV; rw [if_neg c1, if_neg c2, if_neg c3, if_neg c4, if_neg c5, if_neg c6, if_pos c7]) HK9.out.be
    have b7 : (o.f0 == 7) = false := beq_eq_false_iff_ne.2 c7
    by_cases c8 : o.f0 = 8
    · have b8 : (o.f0 == 8) = true := beq_iff_eq.2 c8
      go_wp2_with (go_at_call 27; with_reducible refine (HSP.out _).mono ?_; rintro e w9 ⟨rfl, hb⟩; have HK9 := Aside0.mk (HK8.out.then hb); have hg0 := (blk_cell HK9.out.box 0).trans (show _ = some (Value.int .i64 o.f0) from rfl); clear hb hf0 hf6 hf7 hf8)
      go_ret2
      exact WordsP.yes (ws := [⟨#[100, 114, 111, 112]⟩, dg o.f3]) (by unfold wsV; rw [if_neg c1, if_neg c2, if_neg c3, if_neg c4, if_neg c5, if_neg c6, if_neg c7, if_pos c8]) HK9.out.be
    have b8 : (o.f0 == 8) = false := beq_eq_false_iff_ne.2 c8
    by_cases c9 : o.f0 = 9
    · have b9 : (o.f0 == 9) = true := beq_iff_eq.2 c9
      go_wp2_with (go_at_call 27; with_reducible refine (HSP.out _).mono ?_; rintro e w9 ⟨rfl, hb⟩; have HK9 := Aside0.mk (HK8.out.then hb); have hg0 := (blk_cell HK9.out.box 0).trans (show _ = some (Value.int .i64 o.f0) from rfl); clear hb hf0 hf6 hf7 hf8)
      go_ret2
      exact WordsP.yes (ws := [⟨#[116, 119, 105, 99, 101]⟩, dg o.f3]) (by unfold wsV; rw [if_neg c1, if_neg c2, if_neg c3, if_neg c4, if_neg c5, if_neg c6, if_neg c7, if_neg c8, if_pos c9]) HK9.out.be
    have b9 : (o.f0 == 9) = false := beq_eq_false_iff_ne.2 c9
    by_cases c10 : o.f0 = 10
    · have b10 : (o.f0 == 10) = true := beq_iff_eq.2 c10
      go_wp2_with (go_at_call 27; with_reducible refine (HSP.out _).mono ?_; rintro e w9 ⟨rfl, hb⟩; have HK9 := Aside0.mk (HK8.out.then hb); have hg0 := (blk_cell HK9.out.box 0).trans (show _ = some (Value.int .i64 o.f0) from rfl); clear hb hf0 hf6 hf7 hf8)
      go_ret2
      exact WordsP.yes (ws := [⟨#[114, 97, 119]⟩, dg o.f1, ⟨#[61]⟩ ++ X5]) (by unfold wsV valT; rw [if_neg c1, if_neg c2, if_neg c3, if_neg c4, if_neg c5, if_neg c6, if_neg c7, if_neg c8, if_neg c9, if_pos c10, HX5.out]) HK9.out.be
    have b10 : (o.f0 == 10) = false := beq_eq_false_iff_ne.2 c10
    by_cases c17 : o.f0 = 17
    · have b17 : (o.f0 == 17) = true := beq_iff_eq.2 c17
      go_wp2_with (go_at_call 27; with_reducible refine (HSP.out _).mono ?_; rintro e w9 ⟨rfl, hb⟩; have HK9 := Aside0.mk (HK8.out.then hb); have hg0 := (blk_cell HK9.out.box 0).trans (show _ = some (Value.int .i64 o.f0) from rfl); clear hb hf0 hf6 hf7 hf8)
      go_ret2
      exact WordsP.yes (ws := [⟨#[98, 97, 103]⟩]) (by unfold wsV; rw [if_neg c1, if_neg c2, if_neg c3, if_neg c4, if_neg c5, if_neg c6, if_neg c7, if_neg c8, if_neg c9, if_neg c10, if_pos c17]) HK9.out.be
    have b17 : (o.f0 == 17) = false := beq_eq_false_iff_ne.2 c17
    -- LOOP
    go_wp2_with (go_at_call 27; with_reducible refine (HSP.out _).mono ?_; rintro e w9 ⟨rfl, hb⟩; have HK9 := Aside0.mk (HK8.out.then hb); have hg0 := (blk_cell HK9.out.box 0).trans (show _ = some (Value.int .i64 o.f0) from rfl); clear hb hf0 hf6 hf7 hf8)
    have HS9 : Aside0 (Sx w w9 (w9.alloc (.cells sixA 61)) o) := ⟨⟨HK9.out.then (below_alloc (Below.refl _ _) _), heap_alloc_new _ _⟩⟩
    clear hg0
    go_loopw [95] (fun i wr => ∃ k : Nat, i = .int .i64 (k : Int) ∧ k ≤ 6 ∧ (∀ j : Nat, j < k → (11 : Int) + (j : Int) ≠ o.f0) ∧ Sx w w9 wr o) (fun i _ => 6 - (intOf i).toNat)
    case atStart => exact ⟨0, rfl, Nat.zero_le _, fun j h => absurd h (Nat.not_lt_zero j), HS9.out⟩
    case round =>
      obtain ⟨k, rfl, hk, hno, hS⟩ := hrel
      have f1 : (0 : Int) ≤ (k : Int) := by omega
      have e1 : IntKind.i64.wrap ((k : Int) + 1) = (k : Int) + 1 := IntWalk.i64_in _ (by omega)
      by_cases hlt : (k : Int) < 6
      · have hk1 : k < 6 := by omega
        obtain ⟨s1, s2⟩ := six_at k hk1
        have hc0 := (blk_cell hS.row (k * 2)).trans s1
        have hc1 := (blk_cell hS.row (k * 2 + 1)).trans s2
        have hg0 := (blk_cell hS.ob.box 0).trans (show _ = some (Value.int .i64 o.f0) from rfl)
        have hnl : w.heap.size < wr.heap.size := blk_lt hS.ob.box
        have hn1 : w.heap.size ≠ wr.heap.size := by omega
        have hn2 : wr.heap.size ≠ w.heap.size := by omega
        have hga := fun ob => (blk_cell (blk_alloc hS.ob.box ob) 0).trans (show _ = some (Value.int .i64 o.f0) from rfl)
        have HS := Aside0.mk hS
        have HN := Aside0.mk hno
        clear hS hno s1 s2
        by_cases hm : (11 : Int) + (k : Int) = o.f0
        · have bm : ((11 : Int) + (k : Int) == o.f0) = true := beq_iff_eq.2 hm
          go_wp2
          go_ret2
          have hy := WordsP.yes (w := w) (W := wr.alloc (.cells #[.int .i64 o.f0, .string (sixW k)] 61)) (six_ws k hk1 hm) (below_alloc HS.out.ob.be _)
          rw [World.size_alloc] at hy
          exact hy
        · have bm : ((11 : Int) + (k : Int) == o.f0) = false := beq_eq_false_iff_ne.2 hm
          have hn9 : ∀ j : Nat, j < k + 1 → (11 : Int) + (j : Int) ≠ o.f0 := by
            intro j hj
            by_cases e : j = k
            · subst e; exact hm
            · exact HN.out j (by omega)
          have HN2 := Aside0.mk hn9
          clear hn9
          go_wp2
          exact ⟨⟨k + 1, by first | rfl | simp | omega, by omega, HN2.out, HS.out.then (below_alloc (Below.refl _ _) _)⟩, by simp [intOf]; omega⟩
      · have hno6 : ∀ j : Nat, j < 6 → (11 : Int) + (j : Int) ≠ o.f0 := fun j hj => hno j (by omega)
        have HNO := Aside0.mk hno6
        have HS := Aside0.mk hS
        clear hno hno6 hS
        go_wp2
        go_ret2
        exact WordsP.no (no_ws (by simp only [List.mem_cons, List.not_mem_nil, or_false]; rintro n (rfl | rfl | rfl | rfl | rfl | rfl | rfl | rfl | rfl | rfl | rfl) <;> assumption) HNO.out) HS.out.ob.be)
end Go.Proofs.YtodmbjbfigifnaaGreatDoor.Sc
set_option linter.unusedVariables false
set_option linter.unusedSimpArgs false
namespace Go.Proofs.YtodmbjbfigifnaaGreatDoor.Dig
open Go.RowKit Go.Shelf Go.Lib Go.Proofs.YtodmbjbfigifnaaGreatDoorW.PrintWords Go.Proofs.YtodmbjbfigifnaaGreatDoor.PAll
theorem digit_of (c : UInt8) (h : isD c = true) : UInt8.ofNat (48 + (c.toNat - 48)) = c := by
  have hc := isD_iff h
  rw [show 48 + (c.toNat - 48) = c.toNat by omega]
  exact UInt8.ofNat_toNat
/-- Digits without a nought ahead are the numeral of what they are worth. -/
theorem dec_back (l : List UInt8) (x : Nat) (hx : x ≠ 0) (h : l.all isD = true) : decDigits (vd x l) = decDigits x ++ l := by
  induction l generalizing x with
  | nil =>
    show decDigits (vd x []) = _
    rw [List.append_nil]
    unfold vd
    rw [List.foldl_nil]
  | cons c l ih =>
    rw [List.all_cons, Bool.and_eq_true] at h
    have hc := isD_iff h.1
    rw [vd_cons, ih _ (by omega) h.2]
    have hx' : ¬ x * 10 + (c.toNat - 48) < 10 := by omega
    have e : decDigits (x * 10 + (c.toNat - 48)) = decDigits x ++ [c] := by
      rw [decDigits, dif_neg hx', show (x * 10 + (c.toNat - 48)) / 10 = x by omega, show (x * 10 + (c.toNat - 48)) % 10 = c.toNat - 48 by omega, digit_of c h.1]
    rw [e, List.append_assoc]
    rfl
theorem num_canon {l : List UInt8} {most n : Int} (h : numP l most = (n, 0)) : l = decDigits n.toNat ∧ 0 ≤ n ∧ n ≤ 9223372036854775807 ∧ n ≤ most := by
  unfold numP at h
  by_cases h0 : l.length = 0
  · rw [if_pos h0] at h; simp at h
  · rw [if_neg h0] at h
    by_cases hb : l.getD 0 0 = 48 ∧ l ≠ [48]
    · rw [if_pos hb] at h; simp at h
    · rw [if_neg hb] at h
      by_cases ha : l.all isD = true
      · rw [if_pos ha, numU_vd l ha] at h
        by_cases h1 : 9223372036854775807 < vd 0 l
        · rw [if_pos h1] at h; simp at h
        · rw [if_neg h1] at h
          by_cases h2 : most < (vd 0 l : Int)
          · rw [if_pos h2] at h; simp at h
          · rw [if_neg h2] at h
            have hn : (vd 0 l : Int) = n := congrArg Prod.fst h
            refine ⟨?_, by omega, by omega, by omega⟩
            rw [← hn, Int.toNat_natCast]
            cases l with
            | nil => exact absurd rfl h0
            | cons c l =>
              rw [List.all_cons, Bool.and_eq_true] at ha
              have hc := isD_iff ha.1
              rw [vd_cons, show 0 * 10 + (c.toNat - 48) = c.toNat - 48 by omega]
              have e1 : decDigits (c.toNat - 48) = [c] := by rw [decDigits, dif_pos (by omega), digit_of c ha.1]
              by_cases hz : c.toNat - 48 = 0
              · have hc48 : c = 48 := UInt8.toNat_inj.1 (by have : (48 : UInt8).toNat = 48 := rfl; omega)
                have hl : l = [] := Classical.byContradiction fun hne => hb ⟨by rw [hc48]; rfl, by rw [hc48]; simpa using hne⟩
                rw [hl]
                unfold vd
                rw [List.foldl_nil, e1]
              · rw [dec_back l _ hz ha.2, e1]
                rfl
      · rw [if_neg ha] at h; simp at h
end Go.Proofs.YtodmbjbfigifnaaGreatDoor.Dig
set_option linter.unusedVariables false
set_option linter.unusedSimpArgs false
namespace Go.Proofs.YtodmbjbfigifnaaGreatDoor.Pure
open Go.RowKit Go.Proofs.YtodmbjbfigifnaaGreatDoor.PAll Go.Proofs.YtodmbjbfigifnaaGreatDoorW.PrintWords Go.Proofs.YtodmbjbfigifnaaGreatDoorW.PrintLast Go.Proofs.YtodmbjbfigifnaaGreatDoorW.PrintMore
theorem parV_sizes {lo hi : ByteArray} {ok : Bool} (h : (parV lo hi ok).2.2.2 = 0) : rgE (parV lo hi ok).1 (parV lo hi ok).2.1 (parV lo hi ok).2.2.1 = 0 ∧ ok = true ∧ hexB (parV lo hi ok).1 = lo ∧
    ((parV lo hi ok).2.2.1 = true ∧ hi.toList = [42] ∨ (parV lo hi ok).2.2.1 = false ∧ hexB (parV lo hi ok).2.1 = hi) := by
  unfold parV at h ⊢
  simp only at h ⊢
  generalize e : (hi.toList == ([42] : List UInt8)) = op at h ⊢
  cases op with
  | true =>
    simp only [if_true] at h ⊢
    by_cases hc : ok = true ∧ (unhE lo).2 = 0 ∧ (unhE (⟨#[]⟩ : ByteArray)).2 = 0 ∧ rgE (unhE lo).1 (unhE (⟨#[]⟩ : ByteArray)).1 true = 0
    · rw [if_pos hc]
      exact ⟨hc.2.2.2, hc.1, hexB_unhE lo hc.2.1, .inl ⟨rfl, by simpa using e⟩⟩
    · rw [if_neg hc] at h; simp at h
  | false =>
    simp only [if_neg (show ¬ (false = true) by decide)] at h ⊢
    by_cases hc : ok = true ∧ (unhE lo).2 = 0 ∧ (unhE hi).2 = 0 ∧ rgE (unhE lo).1 (unhE hi).1 false = 0
    · rw [if_pos hc]
      exact ⟨hc.2.2.2, hc.1, hexB_unhE lo hc.2.1, .inr ⟨rfl, hexB_unhE hi hc.2.2.1⟩⟩
    · rw [if_neg hc] at h; simp at h
theorem cut_back (s lo hi : ByteArray) (hs : s.size < 4294967281) (hc : strings_Cut.f s (⟨#[46, 46]⟩ : ByteArray) = some (lo, hi, true)) : lo ++ (⟨#[46, 46]⟩ : ByteArray) ++ hi = s := by
  unfold strings_Cut.f at hc
  rw [if_pos hs] at hc
  simp only [Option.some.injEq, Prod.mk.injEq] at hc
  rcases Lib.index_spec s.data.toList (⟨#[46, 46]⟩ : ByteArray).data.toList with ⟨hm, _⟩ | ⟨n, hn, hnl, ho, _⟩
  · obtain ⟨c1, c2, c3⟩ := Lib.cutB_miss s (⟨#[46, 46]⟩ : ByteArray) hm
    rw [c3] at hc
    exact absurd hc.2.2 (by decide)
  · obtain ⟨c1, c2, c3⟩ := Lib.cutB_hit s (⟨#[46, 46]⟩ : ByteArray) n hn
    rw [c1, c2] at hc
    obtain ⟨rfl, rfl, _⟩ := hc
    have hp := (pre2 _).1 ho
    have z : (⟨#[46, 46]⟩ : ByteArray).size = 2 := rfl
    rw [z]
    apply ba_eq.1
    have e1 : (s.extract 0 n).data.toList = s.data.toList.take n := by rw [Lib.extract_eq]; simp
    have e2 : (s.extract (n + 2) s.size).data.toList = s.data.toList.drop (n + 2) := by rw [Lib.extract_to_end]
    rw [Go.ByteArray.toList_eq, Go.ByteArray.toList_eq, ByteArray.data_append, ByteArray.data_append, Array.toList_append, Array.toList_append, e1, e2]
    show s.data.toList.take n ++ [46, 46] ++ s.data.toList.drop (n + 2) = _
    rw [← hp, List.append_assoc, ← List.drop_drop, List.take_append_drop, List.take_append_drop]
theorem par_prt (s lo hi : ByteArray) (ok : Bool) (hs : s.size < 4294967281) (hc : strings_Cut.f s (⟨#[46, 46]⟩ : ByteArray) = some (lo, hi, ok)) (h : (parV lo hi ok).2.2.2 = 0) :
    prtV (parV lo hi ok).1 (parV lo hi ok).2.1 (parV lo hi ok).2.2.1 = (s, 0) ∧ (parV lo hi ok).1.size ≤ 16 ∧ (parV lo hi ok).2.1.size ≤ 16 := by
  obtain ⟨h3, h4, h5, h6⟩ := parV_sizes h
  subst h4
  have hb := cut_back s lo hi hs hc
  refine ⟨?_, rgE_sizes h3⟩
  unfold prtV
  rw [if_pos h3]
  refine Prod.ext ?_ rfl
  rcases h6 with ⟨h7, h8⟩ | ⟨h7, h8⟩
  · rw [h7]
    simp only [if_true]
    rw [h5, ← hb]
    have e : hi = (⟨#[42]⟩ : ByteArray) := ba_eq.1 (by rw [h8]; decide +kernel)
    rw [e]
    apply ba_eq.1
    rw [Go.ByteArray.toList_eq, Go.ByteArray.toList_eq]
    simp
  · rw [h7]
    simp only [if_neg (show ¬ (false = true) by decide)]
    rw [h5, h8, hb]
end Go.Proofs.YtodmbjbfigifnaaGreatDoor.Pure
set_option linter.unusedVariables false
set_option linter.unusedSimpArgs false
namespace Go.Proofs.YtodmbjbfigifnaaGreatDoor.Sc
open Go.RowKit Go.Proofs.YtodmbjbfigifnaaGreatDoor.Glob Go.Proofs.YtodmbjbfigifnaaGreatDoor.Dig Go.Proofs.YtodmbjbfigifnaaGreatDoorW.PrintWords Go.Proofs.YtodmbjbfigifnaaGreatDoor.PAll Go.Proofs.YtodmbjbfigifnaaGreatDoor.Pure
/-- Words, with blanks between. -/
def joinB (ws : List ByteArray) : ByteArray := ⟨(Lib.join (ws.map fun x => x.data.toList) [32]).toArray⟩
theorem op_ext {a b : OpT} (h0 : a.f0 = b.f0) (h1 : a.f1 = b.f1) (h2 : a.f2 = b.f2) (h3 : a.f3 = b.f3) (h4 : a.f4 = b.f4) (h5 : a.f5 = b.f5) (h6 : a.f6.f0 = b.f6.f0) (h7 : a.f6.f1 = b.f6.f1) (h8 : a.f6.f2 = b.f6.f2) : a = b := by
  obtain ⟨a0, a1, a2, a3, a4, a5, ⟨a6, a7, a8⟩⟩ := a
  obtain ⟨b0, b1, b2, b3, b4, b5, ⟨b6, b7, b8⟩⟩ := b
  simp only at h0 h1 h2 h3 h4 h5 h6 h7 h8
  subst h0 h1 h2 h3 h4 h5 h6 h7 h8
  rfl
instance decOp : DecidableEq OpT := fun a b => decidable_of_iff (a.f0 = b.f0 ∧ a.f1 = b.f1 ∧ a.f2 = b.f2 ∧ a.f3 = b.f3 ∧ a.f4 = b.f4 ∧ a.f5 = b.f5 ∧ a.f6.f0 = b.f6.f0 ∧ a.f6.f1 = b.f6.f1 ∧ a.f6.f2 = b.f6.f2)
  ⟨fun ⟨h0, h1, h2, h3, h4, h5, h6, h7, h8⟩ => op_ext h0 h1 h2 h3 h4 h5 h6 h7 h8, fun h => h ▸ ⟨rfl, rfl, rfl, rfl, rfl, rfl, rfl, rfl, rfl⟩⟩
/-- What script.Print answers. -/
def printV (o : OpT) : ByteArray × Int :=
  if 400 < o.f4.size then (⟨#[]⟩, 210) else if 400 < o.f5.size then (⟨#[]⟩, 210) else match wsV o with
    | none => (⟨#[]⟩, 210)
    | some ws => if (ansW (joinB ws)).2 = 0 ∧ (ansW (joinB ws)).1 = o then (joinB ws, 0) else (⟨#[]⟩, 210)
theorem dg_back {t : ByteArray} {n : Int} (h : numW t = some n) : dg n = t ∧ n ≤ 9223372036854775807 := by
  unfold numW at h
  split at h
  · rename_i h2
    obtain ⟨h3, h4, h5, _⟩ := num_canon (l := t.data.toList) (most := 9223372036854775807) (n := (numP t.data.toList 9223372036854775807).1) (Prod.ext rfl h2)
    obtain rfl := Option.some.inj h
    refine ⟨?_, h5⟩
    unfold dg
    rw [show max (numP t.data.toList 9223372036854775807).1 0 = (numP t.data.toList 9223372036854775807).1 by omega, ← h3]
  · cases h
theorem pre_cons {t : ByteArray} {c : UInt8} (h : Lib.hasPrefix t.data.toList [c] = true) : ⟨#[c]⟩ ++ t.extract 1 t.size = t := by
  have e2 : (t.extract 1 t.size).data.toList = t.data.toList.drop 1 := Lib.extract_to_end t 1
  apply ba_eq.1
  rw [Go.ByteArray.toList_eq, Go.ByteArray.toList_eq, ByteArray.data_append, Array.toList_append, e2]
  show [c] ++ t.data.toList.drop 1 = t.data.toList
  unfold Lib.hasPrefix at h
  cases hl : t.data.toList with
  | nil => rw [hl] at h; simp at h
  | cons x l => rw [hl] at h; simp at h; subst h; rfl
theorem byt_back {c : UInt8} {t s : ByteArray} (h : bytW c t = some s) : ⟨#[c]⟩ ++ hexB s = t ∧ s.size ≤ t.size := by
  unfold bytW at h
  split at h
  · rename_i hp
    split at h
    · rename_i hq
      obtain rfl := Option.some.inj h
      have hb := hexB_unhE _ hq
      have hz := hexB_size (unhE (t.extract 1 t.size)).1
      rw [hb] at hz ⊢
      exact ⟨pre_cons hp, by have := ext_size t 1; omega⟩
    · cases h
  · cases h
theorem spn_back {t : ByteArray} {r : S23} (ht : t.size ≤ 400) (h : spnW t = some r) : (prtV r.f0 r.f1 r.f2).1 = t ∧ r.f0.size ≤ 16 ∧ r.f1.size ≤ 16 := by
  unfold spnW at h
  split at h
  · rename_i h2
    obtain rfl := Option.some.inj h
    obtain ⟨lo, hi, ok, hc, _, _⟩ := cut_le t ht
    have e : spV t = parV lo hi ok := by unfold spV; rw [hc]
    rw [e] at h2 ⊢
    obtain ⟨h3, h4, h5⟩ := par_prt t lo hi ok (by omega) hc h2
    exact ⟨congrArg Prod.fst h3, h4, h5⟩
  · cases h
theorem fields_nil {ts : List ByteArray} {o o' : OpT} (h : fieldsW [] ts o = some o') : ts = [] ∧ o = o' := by
  cases ts with
  | nil => exact ⟨rfl, Option.some.inj h⟩
  | cons t ts => cases h
theorem fields_cons {c : Nat} {cs : List Nat} {ts : List ByteArray} {o o' : OpT} (h : fieldsW (c :: cs) ts o = some o') : ∃ a r o1, ts = a :: r ∧ fieldW c a o = some o1 ∧ fieldsW cs r o1 = some o' := by
  cases ts with
  | nil => cases h
  | cons t ts =>
    obtain ⟨o1, h1, h2⟩ := Option.bind_eq_some_iff.1 (show (fieldW c t o).bind (fieldsW cs ts) = some o' from h)
    exact ⟨t, ts, o1, rfl, h1, h2⟩
section
variable {t : ByteArray} {o o1 : OpT}
theorem f_node (h : fieldW 110 t o = some o1) : ∃ n, o1 = { o with f1 := n } ∧ dg n = t ∧ n ≤ 9223372036854775807 := by
  obtain ⟨n, h1, rfl⟩ := map_some (show (numW t).map _ = some o1 from h)
  exact ⟨n, rfl, dg_back h1⟩
theorem f_peer (h : fieldW 112 t o = some o1) : ∃ n, o1 = { o with f2 := n } ∧ dg n = t ∧ n ≤ 9223372036854775807 := by
  obtain ⟨n, h1, rfl⟩ := map_some (show (numW t).map _ = some o1 from h)
  exact ⟨n, rfl, dg_back h1⟩
theorem f_place (h : fieldW 105 t o = some o1) : ∃ n, o1 = { o with f3 := n } ∧ dg n = t ∧ n ≤ 9223372036854775807 := by
  obtain ⟨n, h1, rfl⟩ := map_some (show (numW t).map _ = some o1 from h)
  exact ⟨n, rfl, dg_back h1⟩
theorem f_key (h : fieldW 107 t o = some o1) : ∃ s, o1 = { o with f4 := s } ∧ ⟨#[107]⟩ ++ hexB s = t ∧ s.size ≤ t.size := by
  obtain ⟨n, h1, rfl⟩ := map_some (show (bytW 107 t).map _ = some o1 from h)
  exact ⟨n, rfl, byt_back h1⟩
theorem f_value (h : fieldW 118 t o = some o1) : ∃ s, o1 = { o with f5 := s } ∧ ⟨#[61]⟩ ++ hexB s = t ∧ s.size ≤ t.size := by
  obtain ⟨n, h1, rfl⟩ := map_some (show (bytW 61 t).map _ = some o1 from h)
  exact ⟨n, rfl, byt_back h1⟩
theorem f_span (ht : t.size ≤ 400) (h : fieldW 114 t o = some o1) : ∃ r, o1 = { o with f6 := r } ∧ (prtV r.f0 r.f1 r.f2).1 = t ∧ r.f0.size ≤ 16 ∧ r.f1.size ≤ 16 := by
  obtain ⟨n, h1, rfl⟩ := map_some (show (spnW t).map _ = some o1 from h)
  exact ⟨n, rfl, spn_back ht h1⟩
end
theorem lookup_mem_self {s : ByteArray} {x : Int × List Nat} : ∀ {l : List (ByteArray × Int × List Nat)}, l.lookup s = some x → (s, x) ∈ l
  | [], h => by cases h
  | (k, y) :: l, h => by
    simp only [List.lookup_cons] at h
    cases hs : s == k with
    | true => rw [hs] at h; cases h; rw [(MapKept.bytes_beq _ _).1 hs]; exact List.mem_cons_self ..
    | false => rw [hs] at h; exact List.mem_cons_of_mem _ (lookup_mem_self h)
/-- A command that was read has the line's words. -/
theorem words_back {t : ByteArray} {ts : List ByteArray} {x : Int × List Nat} {o : OpT} (hx : lets.lookup t = some x) (hf : fieldsW x.2 ts { zOp with f0 := x.1 } = some o) (hs : ∀ y ∈ ts, y.size ≤ 400) :
    wsV o = some (t :: ts) ∧ OpB o ∧ o.f4.size ≤ 400 ∧ o.f5.size ≤ 400 := by
  have hm := lookup_mem_self hx
  simp only [lets, List.mem_cons, List.not_mem_nil, or_false, Prod.mk.injEq] at hm
  have z0 : (⟨#[]⟩ : ByteArray).size = 0 := rfl
  rcases hm with ⟨rfl, rfl⟩ | ⟨rfl, rfl⟩ | ⟨rfl, rfl⟩ | ⟨rfl, rfl⟩ | ⟨rfl, rfl⟩ | ⟨rfl, rfl⟩ | ⟨rfl, rfl⟩ | ⟨rfl, rfl⟩ | ⟨rfl, rfl⟩ | ⟨rfl, rfl⟩ | ⟨rfl, rfl⟩ | ⟨rfl, rfl⟩ | ⟨rfl, rfl⟩ | ⟨rfl, rfl⟩ | ⟨rfl, rfl⟩ | ⟨rfl, rfl⟩ | ⟨rfl, rfl⟩
  -- put
  · obtain ⟨a, r, o1, rfl, h1, hf⟩ := fields_cons hf
    obtain ⟨n, rfl, h2, h3⟩ := f_node h1
    obtain ⟨b, r, o2, rfl, h4, hf⟩ := fields_cons hf
    obtain ⟨k, rfl, h5, h6⟩ := f_key h4
    obtain ⟨c, r, o3, rfl, h7, hf⟩ := fields_cons hf
    obtain ⟨v, rfl, h8, h9⟩ := f_value h7
    obtain ⟨rfl, rfl⟩ := fields_nil hf
    have y1 := hs b (by simp)
    have y2 := hs c (by simp)
    refine ⟨?_, ⟨h3, by show (0 : Int) ≤ _; omega, by show (0 : Int) ≤ _; omega, by show k.size ≤ _; omega, by show v.size ≤ _; omega, by show (0 : Nat) ≤ _; omega, by show (0 : Nat) ≤ _; omega⟩, by show k.size ≤ _; omega, by show v.size ≤ _; omega⟩
    show some [⟨#[112, 117, 116]⟩, dg n, ⟨#[107]⟩ ++ hexB k, ⟨#[61]⟩ ++ hexB v] = _
    rw [h2, h5, h8]
  -- del, get
  iterate 2
    · obtain ⟨a, r, o1, rfl, h1, hf⟩ := fields_cons hf
      obtain ⟨n, rfl, h2, h3⟩ := f_node h1
      obtain ⟨b, r, o2, rfl, h4, hf⟩ := fields_cons hf
      obtain ⟨k, rfl, h5, h6⟩ := f_key h4
      obtain ⟨rfl, rfl⟩ := fields_nil hf
      have y1 := hs b (by simp)
      refine ⟨?_, ⟨h3, by show (0 : Int) ≤ _; omega, by show (0 : Int) ≤ _; omega, by show k.size ≤ _; omega, by show (0 : Nat) ≤ _; omega, by show (0 : Nat) ≤ _; omega, by show (0 : Nat) ≤ _; omega⟩, by show k.size ≤ _; omega, by show (0 : Nat) ≤ _; omega⟩
      show some [_, dg n, ⟨#[107]⟩ ++ hexB k] = _
      rw [h2, h5]
  -- scan, fold
  iterate 2
    · obtain ⟨a, r, o1, rfl, h1, hf⟩ := fields_cons hf
      obtain ⟨n, rfl, h2, h3⟩ := f_node h1
      obtain ⟨b, r, o2, rfl, h4, hf⟩ := fields_cons hf
      obtain ⟨k, rfl, h5, h6, h7⟩ := f_span (hs b (by simp)) h4
      obtain ⟨rfl, rfl⟩ := fields_nil hf
      refine ⟨?_, ⟨h3, by show (0 : Int) ≤ _; omega, by show (0 : Int) ≤ _; omega, by show (0 : Nat) ≤ _; omega, by show (0 : Nat) ≤ _; omega, by show k.f0.size ≤ _; omega, by show k.f1.size ≤ _; omega⟩, by show (0 : Nat) ≤ _; omega, by show (0 : Nat) ≤ _; omega⟩
      show some [_, dg n, (prtV k.f0 k.f1 k.f2).1] = _
      rw [h2, h5]
  -- open
  · obtain ⟨a, r, o1, rfl, h1, hf⟩ := fields_cons hf
    obtain ⟨n, rfl, h2, h3⟩ := f_node h1
    obtain ⟨b, r, o2, rfl, h4, hf⟩ := fields_cons hf
    obtain ⟨k, rfl, h5, h6⟩ := f_peer h4
    obtain ⟨rfl, rfl⟩ := fields_nil hf
    refine ⟨?_, ⟨h3, h6, by show (0 : Int) ≤ _; omega, by show (0 : Nat) ≤ _; omega, by show (0 : Nat) ≤ _; omega, by show (0 : Nat) ≤ _; omega, by show (0 : Nat) ≤ _; omega⟩, by show (0 : Nat) ≤ _; omega, by show (0 : Nat) ≤ _; omega⟩
    show some [_, dg n, dg k] = _
    rw [h2, h5]
  -- raw
  · obtain ⟨a, r, o1, rfl, h1, hf⟩ := fields_cons hf
    obtain ⟨n, rfl, h2, h3⟩ := f_node h1
    obtain ⟨b, r, o2, rfl, h4, hf⟩ := fields_cons hf
    obtain ⟨k, rfl, h5, h6⟩ := f_value h4
    obtain ⟨rfl, rfl⟩ := fields_nil hf
    have y1 := hs b (by simp)
    refine ⟨?_, ⟨h3, by show (0 : Int) ≤ _; omega, by show (0 : Int) ≤ _; omega, by show (0 : Nat) ≤ _; omega, by show k.size ≤ _; omega, by show (0 : Nat) ≤ _; omega, by show (0 : Nat) ≤ _; omega⟩, by show (0 : Nat) ≤ _; omega, by show k.size ≤ _; omega⟩
    show some [_, dg n, ⟨#[61]⟩ ++ hexB k] = _
    rw [h2, h5]
  -- tick, crash, start, map, talks, count
  iterate 6
    · obtain ⟨a, r, o1, rfl, h1, hf⟩ := fields_cons hf
      obtain ⟨n, rfl, h2, h3⟩ := f_node h1
      obtain ⟨rfl, rfl⟩ := fields_nil hf
      refine ⟨?_, ⟨h3, by show (0 : Int) ≤ _; omega, by show (0 : Int) ≤ _; omega, by show (0 : Nat) ≤ _; omega, by show (0 : Nat) ≤ _; omega, by show (0 : Nat) ≤ _; omega, by show (0 : Nat) ≤ _; omega⟩, by show (0 : Nat) ≤ _; omega, by show (0 : Nat) ≤ _; omega⟩
      show some [_, dg n] = _
      rw [h2]
  -- go, drop, twice
  iterate 3
    · obtain ⟨a, r, o1, rfl, h1, hf⟩ := fields_cons hf
      obtain ⟨n, rfl, h2, h3⟩ := f_place h1
      obtain ⟨rfl, rfl⟩ := fields_nil hf
      refine ⟨?_, ⟨by show (0 : Int) ≤ _; omega, by show (0 : Int) ≤ _; omega, h3, by show (0 : Nat) ≤ _; omega, by show (0 : Nat) ≤ _; omega, by show (0 : Nat) ≤ _; omega, by show (0 : Nat) ≤ _; omega⟩, by show (0 : Nat) ≤ _; omega, by show (0 : Nat) ≤ _; omega⟩
      show some [_, dg n] = _
      rw [h2]
  -- bag
  · obtain ⟨rfl, rfl⟩ := fields_nil hf
    exact ⟨rfl, ⟨by show (0 : Int) ≤ _; omega, by show (0 : Int) ≤ _; omega, by show (0 : Int) ≤ _; omega, by show (0 : Nat) ≤ _; omega, by show (0 : Nat) ≤ _; omega, by show (0 : Nat) ≤ _; omega, by show (0 : Nat) ≤ _; omega⟩, by show (0 : Nat) ≤ _; omega, by show (0 : Nat) ≤ _; omega⟩
/-- A line that is a command: its words are the command's. -/
theorem par_words {s : ByteArray} {o : OpT} (h : parW s = some o) : s.size ≤ 400 ∧ wsV o = some (piecesB s 32) ∧ OpB o ∧ o.f4.size ≤ 400 ∧ o.f5.size ≤ 400 := by
  unfold parW at h
  split at h
  · cases h
  · rename_i hs
    have hsh := (piecesB_short s 32 (by omega)).1
    cases hp : piecesB s 32 with
    | nil => rw [hp] at h; cases h
    | cons t ts =>
      rw [hp] at h hsh
      obtain ⟨x, hx, hf⟩ := Option.bind_eq_some_iff.1 (show (lets.lookup t).bind _ = some o from h)
      obtain ⟨h1, h2⟩ := words_back hx hf fun y hy => hsh y (List.mem_cons_of_mem _ hy)
      exact ⟨by omega, h1, h2⟩
end Go.Proofs.YtodmbjbfigifnaaGreatDoor.Sc
set_option linter.unusedVariables false
set_option linter.unusedSimpArgs false
namespace Go.Proofs.YtodmbjbfigifnaaGreatDoor.Sc
open Go.RowKit Go.Proofs.YtodmbjbfigifnaaGreatDoor.Glob Go.Proofs.YtodmbjbfigifnaaGreatDoor.Dig Go.Proofs.YtodmbjbfigifnaaGreatDoorW.PrintWords Go.Proofs.YtodmbjbfigifnaaGreatDoor.PAll Go.Proofs.YtodmbjbfigifnaaGreatDoor.Pure
theorem op_diff {a b : OpT} (h : a ≠ b) (d : Nat) (w : World) : (Op.equalIn (d + 3) 25 (.agg #[.int .i64 a.f0, .int .i64 a.f1, .int .i64 a.f2, .int .i64 a.f3, .string a.f4, .string a.f5, .string a.f6.f0, .string a.f6.f1, .bool a.f6.f2]) (.agg #[.int .i64 b.f0, .int .i64 b.f1, .int .i64 b.f2, .int .i64 b.f3, .string b.f4, .string b.f5, .string b.f6.f0, .string b.f6.f1, .bool b.f6.f2])).run Tryz.prog w = .ok false w := by
  rw [eqA25]
  refine congrArg (fun x => Result.ok x w) (Bool.eq_false_iff.2 fun e => h ?_)
  simp only [Bool.and_eq_true, beq_iff_eq] at e
  obtain ⟨e0, e1, e2, e3, e4, e5, e6, e7, e8⟩ := e
  exact op_ext e0 e1 e2 e3 (ba_eq.1 e4) (ba_eq.1 e5) (ba_eq.1 e6) (ba_eq.1 e7) e8
theorem op_same (a : OpT) (d : Nat) (w : World) : (Op.equalIn (d + 3) 25 (.agg #[.int .i64 a.f0, .int .i64 a.f1, .int .i64 a.f2, .int .i64 a.f3, .string a.f4, .string a.f5, .string a.f6.f0, .string a.f6.f1, .bool a.f6.f2]) (.agg #[.int .i64 a.f0, .int .i64 a.f1, .int .i64 a.f2, .int .i64 a.f3, .string a.f4, .string a.f5, .string a.f6.f0, .string a.f6.f1, .bool a.f6.f2])).run Tryz.prog w = .ok true w := by
  rw [eqA25]
  simp only [beq_self_eq_true, Bool.and_self]
/-- A command in a box: its cells. -/
theorem op_cells {W : World} {b : Nat} {o : OpT} (h : W.heap[b]? = some (.cells (opA o) 25 (0, 0))) : W.cell? ⟨b, 0, none⟩ = some (.int .i64 o.f0) ∧ W.cell? ⟨b, 1, none⟩ = some (.int .i64 o.f1) ∧ W.cell? ⟨b, 2, none⟩ = some (.int .i64 o.f2) ∧ W.cell? ⟨b, 3, none⟩ = some (.int .i64 o.f3) ∧ W.cell? ⟨b, 4, none⟩ = some (.string o.f4) ∧ W.cell? ⟨b, 5, none⟩ = some (.string o.f5) ∧ W.cell? ⟨b, 6, none⟩ = some (.string o.f6.f0) ∧ W.cell? ⟨b, 7, none⟩ = some (.string o.f6.f1) ∧ W.cell? ⟨b, 8, none⟩ = some (.bool o.f6.f2) :=
  ⟨(blk_cell h 0).trans rfl, (blk_cell h 1).trans rfl, (blk_cell h 2).trans rfl, (blk_cell h 3).trans rfl, (blk_cell h 4).trans rfl, (blk_cell h 5).trans rfl, (blk_cell h 6).trans rfl, (blk_cell h 7).trans rfl, (blk_cell h 8).trans rfl⟩
theorem printV_none {o : OpT} (h4 : ¬ 400 < o.f4.size) (h5 : ¬ 400 < o.f5.size) (h : wsV o = none) : printV o = (⟨#[]⟩, 210) := by
  unfold printV
  rw [if_neg h4, if_neg h5, h]
theorem printV_some {o : OpT} {ws : List ByteArray} (h4 : ¬ 400 < o.f4.size) (h5 : ¬ 400 < o.f5.size) (h : wsV o = some ws) : printV o = if (ansW (joinB ws)).2 = 0 ∧ (ansW (joinB ws)).1 = o then (joinB ws, 0) else (⟨#[]⟩, 210) := by
  unfold printV
  rw [if_neg h4, if_neg h5, h]
theorem dg_size {n : Int} (h : n ≤ 9223372036854775807) : (dg n).size ≤ 20 := by
  show (Lib.decDigits (max n 0).toNat).toArray.size ≤ _
  rw [List.size_toArray, Lib.decDigits_length]
  have := nDigits_pow 19 (max n 0).toNat (by omega)
  omega
theorem rng_size (o : OpT) : (rngT o).size ≤ 100 := by
  unfold rngT prtV
  split
  · rename_i h
    obtain ⟨h1, h2⟩ := rgE_sizes h
    have s1 := hexB_size o.f6.f0
    have s2 := hexB_size o.f6.f1
    split
    · show (hexB o.f6.f0 ++ (⟨#[46, 46, 42]⟩ : ByteArray)).size ≤ 100
      rw [ByteArray.size_append]
      show (hexB o.f6.f0).size + 3 ≤ 100
      omega
    · show (hexB o.f6.f0 ++ (⟨#[46, 46]⟩ : ByteArray) ++ hexB o.f6.f1).size ≤ 100
      rw [ByteArray.size_append, ByteArray.size_append]
      show (hexB o.f6.f0).size + 2 + (hexB o.f6.f1).size ≤ 100
      omega
  · exact Nat.zero_le _
theorem join_len : ∀ (xs : List (List UInt8)) (c : UInt8) (m : Nat), (∀ x ∈ xs, x.length ≤ m) → (Lib.join xs [c]).length ≤ xs.length * (m + 1)
  | [], c, m, _ => by rw [Lib.join_nil]; exact Nat.zero_le _
  | x :: r, c, m, h => by
    rw [Lib.join_cons, List.length_append, Lib.joinTail_length]
    have hl : ∀ l : List (List UInt8), (∀ y ∈ l, y.length ≤ m) → Lib.lens l ≤ l.length * m := by
      intro l
      induction l with
      | nil => intro _; exact Nat.zero_le _
      | cons y l ih =>
        intro hy
        have := ih (fun z hz => hy z (List.mem_cons_of_mem _ hz))
        have hy0 := hy y (List.mem_cons_self ..)
        unfold Lib.lens at this ⊢
        rw [List.map_cons, List.sum_cons, List.length_cons, Nat.succ_mul]
        omega
    have h1 := hl r (fun y hy => h y (List.mem_cons_of_mem _ hy))
    have h2 := h x (List.mem_cons_self ..)
    have e1 : ([c] : List UInt8).length = 1 := rfl
    have e2 : (x :: r).length = r.length + 1 := rfl
    rw [e1, e2, Nat.one_mul, Nat.succ_mul, Nat.mul_succ]
    omega
def ShortW (r : Option (List ByteArray)) : Prop := ∀ ws, r = some ws → ws.length ≤ 4 ∧ ∀ x ∈ ws, x.size ≤ 1000
theorem ite_short {c : Prop} [Decidable c] {x y : Option (List ByteArray)} (hx : ShortW x) (hy : ShortW y) : ShortW (if c then x else y) := by
  split
  · exact hx
  · exact hy
theorem none_short : ShortW none := fun _ h => by cases h
theorem some_short {ws : List ByteArray} (h1 : ws.length ≤ 4) (h2 : ∀ x ∈ ws, x.size ≤ 1000) : ShortW (some ws) := by
  intro ws' h
  obtain rfl := Option.some.inj h
  exact ⟨h1, h2⟩
theorem ws_short {o : OpT} (hB : OpB o) (h4 : ¬ 400 < o.f4.size) (h5 : ¬ 400 < o.f5.size) {ws : List ByteArray} (h : wsV o = some ws) : ws.length ≤ 4 ∧ ∀ x ∈ ws, x.data.toList.length ≤ 1000 := by
  have k1 : (keyT o).size ≤ 1000 := by unfold keyT; rw [ByteArray.size_append, hexB_size]; show 1 + _ ≤ _; omega
  have k2 : (valT o).size ≤ 1000 := by unfold valT; rw [ByteArray.size_append, hexB_size]; show 1 + _ ≤ _; omega
  have k3 := rng_size o
  have d1 := dg_size hB.n
  have d2 := dg_size hB.p
  have d3 := dg_size hB.i
  have c1 : ∀ x : ByteArray, x.data.toList.length = x.size := fun x => Array.length_toList
  have hx : ShortW (wsV o) := by
    unfold wsV
    repeat' (refine ite_short ?_ ?_)
    all_goals first
      | exact none_short
      | (refine some_short (by simp) ?_
         simp only [List.forall_mem_cons, List.not_mem_nil, false_implies, implies_true, and_true]
         (repeat' apply And.intro) <;> first | omega | decide)
  obtain ⟨h1, h2⟩ := hx ws h
  exact ⟨h1, fun x hx => by rw [c1]; exact h2 x hx⟩
theorem join_calls (g : Nat) (ws : List ByteArray) (w : World) (h : w.heap[g]? = some (.cells (sv ws).toArray 9 (0, 0))) (hl : ws.length ≤ 4) (hs : ∀ x ∈ ws, x.data.toList.length ≤ 1000) :
    Calls Tryz.prog 13 #[.slice (some ⟨g, 0, none⟩) ws.length ws.length, .string ⟨#[32]⟩] w fun e w' => e = .returned (.string (joinB ws)) ∧ Below w.heap.size w w' := by
  have hj := join_len (ws.map (fun x => x.data.toList)) 32 1000 (by
    intro x hx
    obtain ⟨y, hy, rfl⟩ := List.mem_map.1 hx
    exact hs y hy)
  rw [List.length_map] at hj
  have hj2 : ws.length * (1000 + 1) ≤ 4 * (1000 + 1) := Nat.mul_le_mul_right _ hl
  refine Tryz.strings_Join g 0 ws.length ws ⟨#[32]⟩ w ?_ (blk_lt h) (by omega) (Nat.le_refl _) (Nat.le_trans hj (by omega))
  intro j x hx
  rw [Nat.zero_add, blk_cell h j, List.getElem?_toArray]
  unfold sv
  rw [List.getElem?_map, hx]
  rfl
set_option maxRecDepth 100000 in
set_option maxHeartbeats 2500000 in
theorem print_calls (o : OpT) (hB : OpB o) (w : World) (hG : GlobOK w) : Calls Tryz.prog 7 #[opX o] w fun e w' => e = .returned (.tuple #[.string (printV o).1, .int .i64 (printV o).2]) ∧ Below w.heap.size w w' := by
  have HK : Aside0 (Ob w (w.alloc (.cells (opA o) 25)) o) := ⟨⟨heap_alloc_new _ _, below_alloc (Below.refl _ _) _⟩⟩
  obtain ⟨k0, k1, k2, k3, k4, k5, k6, k7, k8⟩ := op_cells HK.out.box
  by_cases h4 : 400 < o.f4.size
  · have h4' : (o.f4.size : Int) > 400 := by omega
    have hv : printV o = (⟨#[]⟩, 210) := by unfold printV; rw [if_pos h4]
    rw [hv]
    go_enter Tryz.func7, Tryz.ntmps7
    go_wp2
    go_ret2
    exact ⟨rfl, HK.out.be⟩
  have h4' : ¬ (o.f4.size : Int) > 400 := by omega
  by_cases h5 : 400 < o.f5.size
  · have h5' : (o.f5.size : Int) > 400 := by omega
    have hv : printV o = (⟨#[]⟩, 210) := by unfold printV; rw [if_neg h4, if_pos h5]
    rw [hv]
    go_enter Tryz.func7, Tryz.ntmps7
    go_wp2
    go_ret2
    exact ⟨rfl, HK.out.be⟩
  have h5' : ¬ (o.f5.size : Int) > 400 := by omega
  have HG := Aside0.mk hG
  have HB := Aside0.mk hB
  clear hG hB
  cases hw : wsV o with
  | none =>
    rw [printV_none h4 h5 hw]
    have HW := Aside0.mk hw
    clear hw
    go_enter Tryz.func7, Tryz.ntmps7
    go_wp2_with (go_at_call 12; refine (words_calls o HB.out _ (HG.out.below HK.out.be)).mono ?_; rintro e w1 ⟨h1, hb⟩; rw [HW.out] at h1; obtain rfl := h1; have HK1 := Aside0.mk (HK.out.then hb); clear hb)
    go_ret2
    exact ⟨rfl, HK1.out.be⟩
  | some ws =>
    have HSH := Aside0.mk (ws_short HB.out h4 h5 hw)
    rw [printV_some h4 h5 hw]
    have hj := fun g W h => join_calls g ws W h HSH.out.1 HSH.out.2
    have hpc0 := fun W hG => parse_calls (joinB ws) W hG
    generalize joinB ws = s at hj hpc0 ⊢
    generalize ansW s = R at hpc0 ⊢
    obtain ⟨q, n⟩ := R
    have hpc : ∀ W, GlobOK W → Calls Tryz.prog 9 #[.string s] W fun e w' => e = .returned (.tuple #[opX q, .int .i64 n]) ∧ Below W.heap.size W w' := hpc0
    have HW := Aside0.mk hw
    have HJ := Aside0.mk hj
    have HPC := Aside0.mk hpc
    clear hw hj hpc hpc0
    dsimp only
    by_cases hn : n = 0
    · subst hn
      have b0 : ((0 : Int) == 0) = true := rfl
      by_cases hq : q = o
      · obtain rfl : o = q := hq.symm
        rw [if_pos ⟨rfl, rfl⟩]
        have hEq := op_same o
        go_enter Tryz.func7, Tryz.ntmps7
        go_wp2_with (first
          | (go_at_call 12; refine (words_calls o HB.out _ (HG.out.below HK.out.be)).mono ?_; rintro e w1 ⟨h1, hb⟩; rw [HW.out] at h1; obtain ⟨g, rfl, hrow⟩ := h1; have HK1 := Aside0.mk (HK.out.then hb); have HROW := Aside0.mk hrow; clear hb hrow k0 k1 k2 k3 k4 k5 k6 k7 k8)
          | (go_at_call 13; refine (HJ.out g w1 HROW.out).mono ?_; rintro e w2 ⟨rfl, hb⟩; have HK2 := Aside0.mk (HK1.out.then hb); clear hb)
          | (go_at_call 9; go_loud (refine (HPC.out _ (HG.out.below HK2.out.be)).mono ?_; rintro e w3 ⟨rfl, hb⟩; have HK3 := Aside0.mk (HK2.out.then hb); have hnl : w.heap.size < w3.heap.size := blk_lt HK3.out.box; have hn1 : w.heap.size ≠ w3.heap.size := (by omega); have hn2 : w3.heap.size ≠ w.heap.size := (by omega); have g0 := fun ob => (op_cells (blk_alloc HK3.out.box ob)).1; have g1 := fun ob => (op_cells (blk_alloc HK3.out.box ob)).2.1; have g2 := fun ob => (op_cells (blk_alloc HK3.out.box ob)).2.2.1; have g3 := fun ob => (op_cells (blk_alloc HK3.out.box ob)).2.2.2.1; have g4 := fun ob => (op_cells (blk_alloc HK3.out.box ob)).2.2.2.2.1; have g5 := fun ob => (op_cells (blk_alloc HK3.out.box ob)).2.2.2.2.2.1; have g6 := fun ob => (op_cells (blk_alloc HK3.out.box ob)).2.2.2.2.2.2.1; have g7 := fun ob => (op_cells (blk_alloc HK3.out.box ob)).2.2.2.2.2.2.2.1; have g8 := fun ob => (op_cells (blk_alloc HK3.out.box ob)).2.2.2.2.2.2.2.2; clear hb)))
        go_ret2
        exact ⟨rfl, below_alloc HK3.out.be _⟩
      · rw [if_neg (fun h => hq h.2)]
        have hEq := op_diff hq
        go_enter Tryz.func7, Tryz.ntmps7
        go_wp2_with (first
          | (go_at_call 12; refine (words_calls o HB.out _ (HG.out.below HK.out.be)).mono ?_; rintro e w1 ⟨h1, hb⟩; rw [HW.out] at h1; obtain ⟨g, rfl, hrow⟩ := h1; have HK1 := Aside0.mk (HK.out.then hb); have HROW := Aside0.mk hrow; clear hb hrow k0 k1 k2 k3 k4 k5 k6 k7 k8)
          | (go_at_call 13; refine (HJ.out g w1 HROW.out).mono ?_; rintro e w2 ⟨rfl, hb⟩; have HK2 := Aside0.mk (HK1.out.then hb); clear hb)
          | (go_at_call 9; go_loud (refine (HPC.out _ (HG.out.below HK2.out.be)).mono ?_; rintro e w3 ⟨rfl, hb⟩; have HK3 := Aside0.mk (HK2.out.then hb); have hnl : w.heap.size < w3.heap.size := blk_lt HK3.out.box; have hn1 : w.heap.size ≠ w3.heap.size := (by omega); have hn2 : w3.heap.size ≠ w.heap.size := (by omega); have g0 := fun ob => (op_cells (blk_alloc HK3.out.box ob)).1; have g1 := fun ob => (op_cells (blk_alloc HK3.out.box ob)).2.1; have g2 := fun ob => (op_cells (blk_alloc HK3.out.box ob)).2.2.1; have g3 := fun ob => (op_cells (blk_alloc HK3.out.box ob)).2.2.2.1; have g4 := fun ob => (op_cells (blk_alloc HK3.out.box ob)).2.2.2.2.1; have g5 := fun ob => (op_cells (blk_alloc HK3.out.box ob)).2.2.2.2.2.1; have g6 := fun ob => (op_cells (blk_alloc HK3.out.box ob)).2.2.2.2.2.2.1; have g7 := fun ob => (op_cells (blk_alloc HK3.out.box ob)).2.2.2.2.2.2.2.1; have g8 := fun ob => (op_cells (blk_alloc HK3.out.box ob)).2.2.2.2.2.2.2.2; clear hb)))
        go_ret2
        exact ⟨rfl, below_alloc HK3.out.be _⟩
    · rw [if_neg (fun h => hn h.1)]
      have b0 : (n == 0) = false := beq_eq_false_iff_ne.2 hn
      go_enter Tryz.func7, Tryz.ntmps7
      go_wp2_with (first
        | (go_at_call 12; refine (words_calls o HB.out _ (HG.out.below HK.out.be)).mono ?_; rintro e w1 ⟨h1, hb⟩; rw [HW.out] at h1; obtain ⟨g, rfl, hrow⟩ := h1; have HK1 := Aside0.mk (HK.out.then hb); have HROW := Aside0.mk hrow; clear hb hrow k0 k1 k2 k3 k4 k5 k6 k7 k8)
        | (go_at_call 13; refine (HJ.out g w1 HROW.out).mono ?_; rintro e w2 ⟨rfl, hb⟩; have HK2 := Aside0.mk (HK1.out.then hb); clear hb)
        | (go_at_call 9; go_loud (refine (HPC.out _ (HG.out.below HK2.out.be)).mono ?_; rintro e w3 ⟨rfl, hb⟩; have HK3 := Aside0.mk (HK2.out.then hb); have hnl : w.heap.size < w3.heap.size := blk_lt HK3.out.box; have hn1 : w.heap.size ≠ w3.heap.size := (by omega); have hn2 : w3.heap.size ≠ w.heap.size := (by omega); have g0 := fun ob => (op_cells (blk_alloc HK3.out.box ob)).1; have g1 := fun ob => (op_cells (blk_alloc HK3.out.box ob)).2.1; have g2 := fun ob => (op_cells (blk_alloc HK3.out.box ob)).2.2.1; have g3 := fun ob => (op_cells (blk_alloc HK3.out.box ob)).2.2.2.1; have g4 := fun ob => (op_cells (blk_alloc HK3.out.box ob)).2.2.2.2.1; have g5 := fun ob => (op_cells (blk_alloc HK3.out.box ob)).2.2.2.2.2.1; have g6 := fun ob => (op_cells (blk_alloc HK3.out.box ob)).2.2.2.2.2.2.1; have g7 := fun ob => (op_cells (blk_alloc HK3.out.box ob)).2.2.2.2.2.2.2.1; have g8 := fun ob => (op_cells (blk_alloc HK3.out.box ob)).2.2.2.2.2.2.2.2; clear hb)))
      go_ret2
      exact ⟨rfl, below_alloc HK3.out.be _⟩
end Go.Proofs.YtodmbjbfigifnaaGreatDoor.Sc
set_option linter.unusedVariables false
namespace Go.Proofs.YtodmbjbfigifnaaGreatDoor.PAll
open Go.RowKit Go.Proofs.YtodmbjbfigifnaaGreatDoor.Glob Go.Proofs.YtodmbjbfigifnaaGreatDoor.Sc Go.Proofs.YtodmbjbfigifnaaGreatDoorW.PrintWords
def script_Parse.f (a0 : ByteArray) : Option (Int × Int × Int × Int × ByteArray × ByteArray × ByteArray × ByteArray × Bool × Int) := some ((ansW a0).1.f0, (ansW a0).1.f1, (ansW a0).1.f2, (ansW a0).1.f3, (ansW a0).1.f4, (ansW a0).1.f5, (ansW a0).1.f6.f0, (ansW a0).1.f6.f1, (ansW a0).1.f6.f2, (ansW a0).2)
theorem script_Parse.calls (a0 : ByteArray) (r1 : Int) (r2 : Int) (r3 : Int) (r4 : Int) (r5 : ByteArray) (r6 : ByteArray) (r7 : ByteArray) (r8 : ByteArray) (r9 : Bool) (r10 : Int) (w : World) (hG : GlobOK w) (h : script_Parse.f a0 = some (r1, r2, r3, r4, r5, r6, r7, r8, r9, r10)) :
    Calls Tryz.prog 9 #[.string a0] w fun e w' => e = .returned (.tuple #[.agg #[.int .i64 r1, .int .i64 r2, .int .i64 r3, .int .i64 r4, .string r5, .string r6, .string r7, .string r8, .bool r9], .int .i64 r10]) ∧ Below w.heap.size w w' := by
  have h2 := Option.some.inj h
  simp only [Prod.mk.injEq] at h2
  obtain ⟨rfl, rfl, rfl, rfl, rfl, rfl, rfl, rfl, rfl, rfl⟩ := h2
  exact parse_calls a0 w hG
def tidelineref21_Parse.f (a0 : ByteArray) : Option (Int × Int × Int × Int × ByteArray × ByteArray × ByteArray × ByteArray × Bool × Int) := some ((ansW a0).1.f0, (ansW a0).1.f1, (ansW a0).1.f2, (ansW a0).1.f3, (ansW a0).1.f4, (ansW a0).1.f5, (ansW a0).1.f6.f0, (ansW a0).1.f6.f1, (ansW a0).1.f6.f2, (ansW a0).2)
theorem tidelineref21_Parse.calls (a0 : ByteArray) (r1 : Int) (r2 : Int) (r3 : Int) (r4 : Int) (r5 : ByteArray) (r6 : ByteArray) (r7 : ByteArray) (r8 : ByteArray) (r9 : Bool) (r10 : Int) (w : World) (h : tidelineref21_Parse.f a0 = some (r1, r2, r3, r4, r5, r6, r7, r8, r9, r10)) :
    Calls Tryz.prog 19 #[.string a0] w fun e w' => e = .returned (.tuple #[.agg #[.int .i64 r1, .int .i64 r2, .int .i64 r3, .int .i64 r4, .string r5, .string r6, .string r7, .string r8, .bool r9], .int .i64 r10]) ∧ Below w.heap.size w w' := by
  have h2 := Option.some.inj h
  simp only [Prod.mk.injEq] at h2
  obtain ⟨rfl, rfl, rfl, rfl, rfl, rfl, rfl, rfl, rfl, rfl⟩ := h2
  exact rparse_calls a0 w
def script_Print.f (a0_0 : Int) (a0_1 : Int) (a0_2 : Int) (a0_3 : Int) (a0_4 : ByteArray) (a0_5 : ByteArray) (a0_6 : ByteArray) (a0_7 : ByteArray) (a0_8 : Bool) : Option (ByteArray × Int) :=
  if a0_1 ≤ 9223372036854775807 then if a0_2 ≤ 9223372036854775807 then if a0_3 ≤ 9223372036854775807 then if a0_4.size ≤ 1073741824 then if a0_5.size ≤ 1073741824 then if a0_6.size ≤ 1073741824 then if a0_7.size ≤ 1073741824 then
    some (printV ⟨a0_0, a0_1, a0_2, a0_3, a0_4, a0_5, ⟨a0_6, a0_7, a0_8⟩⟩) else none else none else none else none else none else none else none
theorem script_Print.calls (a0_0 : Int) (a0_1 : Int) (a0_2 : Int) (a0_3 : Int) (a0_4 : ByteArray) (a0_5 : ByteArray) (a0_6 : ByteArray) (a0_7 : ByteArray) (a0_8 : Bool) (r1 : ByteArray) (r2 : Int) (w : World) (hG : GlobOK w) (h : script_Print.f a0_0 a0_1 a0_2 a0_3 a0_4 a0_5 a0_6 a0_7 a0_8 = some (r1, r2)) :
    Calls Tryz.prog 7 #[.agg #[.int .i64 a0_0, .int .i64 a0_1, .int .i64 a0_2, .int .i64 a0_3, .string a0_4, .string a0_5, .string a0_6, .string a0_7, .bool a0_8]] w fun e w' => e = .returned (.tuple #[.string r1, .int .i64 r2]) ∧ Below w.heap.size w w' := by
  unfold script_Print.f at h
  by_cases h1 : a0_1 ≤ 9223372036854775807
  · by_cases h2 : a0_2 ≤ 9223372036854775807
    · by_cases h3 : a0_3 ≤ 9223372036854775807
      · by_cases h4 : a0_4.size ≤ 1073741824
        · by_cases h5 : a0_5.size ≤ 1073741824
          · by_cases h6 : a0_6.size ≤ 1073741824
            · by_cases h7 : a0_7.size ≤ 1073741824
              · rw [if_pos h1, if_pos h2, if_pos h3, if_pos h4, if_pos h5, if_pos h6, if_pos h7] at h
                have hp := print_calls ⟨a0_0, a0_1, a0_2, a0_3, a0_4, a0_5, ⟨a0_6, a0_7, a0_8⟩⟩ ⟨h1, h2, h3, h4, h5, h6, h7⟩ w hG
                rw [Option.some.inj h] at hp
                exact hp
              · rw [if_pos h1, if_pos h2, if_pos h3, if_pos h4, if_pos h5, if_pos h6, if_neg h7] at h; cases h
            · rw [if_pos h1, if_pos h2, if_pos h3, if_pos h4, if_pos h5, if_neg h6] at h; cases h
          · rw [if_pos h1, if_pos h2, if_pos h3, if_pos h4, if_neg h5] at h; cases h
        · rw [if_pos h1, if_pos h2, if_pos h3, if_neg h4] at h; cases h
      · rw [if_pos h1, if_pos h2, if_neg h3] at h; cases h
    · rw [if_pos h1, if_neg h2] at h; cases h
  · rw [if_neg h1] at h; cases h
end Go.Proofs.YtodmbjbfigifnaaGreatDoor.PAll
namespace Go.Proofs.YtodmbjbfigifnaaGreatDoor.PAll
open Go.RowKit Go.Proofs.YtodmbjbfigifnaaGreatDoorW.PrintWords Go.Proofs.YtodmbjbfigifnaaGreatDoorW.PrintLast Go.Proofs.YtodmbjbfigifnaaGreatDoorW.PrintMore
attribute [local go_sem] max2_int min2_int max_two min_two max_three min_three max_four min_four   -- for this text's walks alone
set_option linter.unusedVariables false
set_option linter.unusedSimpArgs false
attribute [local go_sem high] eqA25
mutual
def tidelineref21_Print.j0 : Nat → ByteArray → Bool → Int → Int → Int → Int → ByteArray → ByteArray → ByteArray → ByteArray → Bool → Option (ByteArray × Int)
  | 0, _, _, _, _, _, _, _, _, _, _, _ => none
  | k + 1, x4, x42, x193000, x193001, x193002, x193003, x193004, x193005, x193006, x193007, x193008 => if x42 = true then (some ((⟨#[]⟩ : ByteArray), 210)) else ((tidelineref21_shape.f k x193000).bind fun t194 => (tidelineref21_Print.l0 k x4 t194 0 x193000 x193001 x193002 x193003 x193004 x193005 x193006 x193007 x193008))
def tidelineref21_Print.l0 : Nat → ByteArray → ByteArray → Int → Int → Int → Int → Int → ByteArray → ByteArray → ByteArray → ByteArray → Bool → Option (ByteArray × Int)
  | 0, _, _, _, _, _, _, _, _, _, _, _, _ => none
  | k + 1, x4, x5, x6, x193000, x193001, x193002, x193003, x193004, x193005, x193006, x193007, x193008 => if x6 < (x5.size : Int) then (if x4.size + 1 ≤ 9223372036854775807 then (if 0 ≤ x6 then (if (bt x5 x6) = 110 then ((tidelineref01_Digits.f x193001).bind fun t206 => (if (x4 ++ (⟨#[32]⟩ : ByteArray)).size + t206.size ≤ 9223372036854775807 then (tidelineref21_Print.l0 k ((x4 ++ (⟨#[32]⟩ : ByteArray)) ++ t206) x5 (wrap64 (x6 + 1)) x193000 x193001 x193002 x193003 x193004 x193005 x193006 x193007 x193008) else (none))) else (if (bt x5 x6) = 112 then ((tidelineref01_Digits.f x193002).bind fun t207 => (if (x4 ++ (⟨#[32]⟩ : ByteArray)).size + t207.size ≤ 9223372036854775807 then (tidelineref21_Print.l0 k ((x4 ++ (⟨#[32]⟩ : ByteArray)) ++ t207) x5 (wrap64 (x6 + 1)) x193000 x193001 x193002 x193003 x193004 x193005 x193006 x193007 x193008) else (none))) else (if (bt x5 x6) = 105 then ((tidelineref01_Digits.f x193003).bind fun t208 => (if (x4 ++ (⟨#[32]⟩ : ByteArray)).size + t208.size ≤ 9223372036854775807 then (tidelineref21_Print.l0 k ((x4 ++ (⟨#[32]⟩ : ByteArray)) ++ t208) x5 (wrap64 (x6 + 1)) x193000 x193001 x193002 x193003 x193004 x193005 x193006 x193007 x193008) else (none))) else (if (bt x5 x6) = 107 then (if (x4 ++ (⟨#[32]⟩ : ByteArray)).size + 1 ≤ 9223372036854775807 then ((tidelineref01_Hex.f k x193004).bind fun t209 => (if ((x4 ++ (⟨#[32]⟩ : ByteArray)) ++ (⟨#[107]⟩ : ByteArray)).size + t209.size ≤ 9223372036854775807 then (tidelineref21_Print.l0 k (((x4 ++ (⟨#[32]⟩ : ByteArray)) ++ (⟨#[107]⟩ : ByteArray)) ++ t209) x5 (wrap64 (x6 + 1)) x193000 x193001 x193002 x193003 x193004 x193005 x193006 x193007 x193008) else (none))) else (none)) else (if (bt x5 x6) = 118 then (if (x4 ++ (⟨#[32]⟩ : ByteArray)).size + 1 ≤ 9223372036854775807 then ((tidelineref01_Hex.f k x193005).bind fun t210 => (if ((x4 ++ (⟨#[32]⟩ : ByteArray)) ++ (⟨#[61]⟩ : ByteArray)).size + t210.size ≤ 9223372036854775807 then (tidelineref21_Print.l0 k (((x4 ++ (⟨#[32]⟩ : ByteArray)) ++ (⟨#[61]⟩ : ByteArray)) ++ t210) x5 (wrap64 (x6 + 1)) x193000 x193001 x193002 x193003 x193004 x193005 x193006 x193007 x193008) else (none))) else (none)) else ((tidelineref02_Print.f k x193006 x193007 x193008).bind fun bt211 => (if bt211.2 = 0 then (if (x4 ++ (⟨#[32]⟩ : ByteArray)).size + bt211.1.size ≤ 9223372036854775807 then (tidelineref21_Print.l0 k ((x4 ++ (⟨#[32]⟩ : ByteArray)) ++ bt211.1) x5 (wrap64 (x6 + 1)) x193000 x193001 x193002 x193003 x193004 x193005 x193006 x193007 x193008) else (none)) else (some ((⟨#[]⟩ : ByteArray), 210))))))))) else (none)) else (none)) else ((tidelineref21_Parse.f x4).bind fun bt195 => (if bt195.2.2.2.2.2.2.2.2.2 = 0 then (if (!(bt195.1 == x193000) || (!(bt195.2.1 == x193001) || (!(bt195.2.2.1 == x193002) || (!(bt195.2.2.2.1 == x193003) || (!(bt195.2.2.2.2.1.toList == x193004.toList) || (!(bt195.2.2.2.2.2.1.toList == x193005.toList) || ((!(bt195.2.2.2.2.2.2.1.toList == x193006.toList) || (!(bt195.2.2.2.2.2.2.2.1.toList == x193007.toList) || (!(bt195.2.2.2.2.2.2.2.2.1 == x193008))))))))))) = true then (some ((⟨#[]⟩ : ByteArray), 210)) else (some (x4, 0))) else (some ((⟨#[]⟩ : ByteArray), 210))))
end
def tidelineref21_Print.f (k : Nat) (a0_0 : Int) (a0_1 : Int) (a0_2 : Int) (a0_3 : Int) (a0_4 : ByteArray) (a0_5 : ByteArray) (a0_6 : ByteArray) (a0_7 : ByteArray) (a0_8 : Bool) : Option (ByteArray × Int) := (tidelineref21_word.f a0_0).bind fun t193 => (if t193.toList = ([] : List UInt8) then (tidelineref21_Print.j0 k t193 true a0_0 a0_1 a0_2 a0_3 a0_4 a0_5 a0_6 a0_7 a0_8) else (if a0_1 < 0 then (tidelineref21_Print.j0 k t193 true a0_0 a0_1 a0_2 a0_3 a0_4 a0_5 a0_6 a0_7 a0_8) else (if a0_2 < 0 then (tidelineref21_Print.j0 k t193 true a0_0 a0_1 a0_2 a0_3 a0_4 a0_5 a0_6 a0_7 a0_8) else (if a0_3 < 0 then (tidelineref21_Print.j0 k t193 true a0_0 a0_1 a0_2 a0_3 a0_4 a0_5 a0_6 a0_7 a0_8) else (if (a0_4.size : Int) > 400 then (tidelineref21_Print.j0 k t193 true a0_0 a0_1 a0_2 a0_3 a0_4 a0_5 a0_6 a0_7 a0_8) else (tidelineref21_Print.j0 k t193 (decide ((a0_5.size : Int) > 400)) a0_0 a0_1 a0_2 a0_3 a0_4 a0_5 a0_6 a0_7 a0_8))))))
theorem tidelineref21_Print.mono_l : ∀ k, (∀ y0 y1 y2 y3 y4 y5 y6 y7 y8 y9 y10, LeO (tidelineref21_Print.j0 k y0 y1 y2 y3 y4 y5 y6 y7 y8 y9 y10) (tidelineref21_Print.j0 (k + 1) y0 y1 y2 y3 y4 y5 y6 y7 y8 y9 y10)) ∧ (∀ y0 y1 y2 y3 y4 y5 y6 y7 y8 y9 y10 y11, LeO (tidelineref21_Print.l0 k y0 y1 y2 y3 y4 y5 y6 y7 y8 y9 y10 y11) (tidelineref21_Print.l0 (k + 1) y0 y1 y2 y3 y4 y5 y6 y7 y8 y9 y10 y11))
  | 0 => ⟨fun _ _ _ _ _ _ _ _ _ _ _ r h => by simp [tidelineref21_Print.j0] at h, fun _ _ _ _ _ _ _ _ _ _ _ _ r h => by simp [tidelineref21_Print.l0] at h⟩
  | k + 1 => by
    obtain ⟨ih0, ih1⟩ := tidelineref21_Print.mono_l k
    refine ⟨?_, ?_⟩
    · intro y0 y1 y2 y3 y4 y5 y6 y7 y8 y9 y10
      unfold tidelineref21_Print.j0
      repeat' first
      | (with_reducible exact ih0 _ _ _ _ _ _ _ _ _ _ _)
      | (with_reducible exact ih1 _ _ _ _ _ _ _ _ _ _ _ _)
      | (with_reducible exact tidelineref01_Hex.mono _ _)
      | (with_reducible exact tidelineref02_Print.mono _ _ _ _)
      | (with_reducible exact tidelineref21_shape.mono _ _)
      | (with_reducible exact LeO.refl _)
      | (with_reducible exact LeO.none _)
      | (with_reducible refine LeO.ite ?_ ?_)
      | (with_reducible refine LeO.bind ?_ (fun _ => ?_))
      | exact ih0 _ _ _ _ _ _ _ _ _ _ _
      | exact ih1 _ _ _ _ _ _ _ _ _ _ _ _
      | exact tidelineref01_Hex.mono _ _
      | exact tidelineref02_Print.mono _ _ _ _
      | exact tidelineref21_shape.mono _ _
      | exact LeO.none _
      | refine LeO.ite ?_ ?_
      | refine LeO.bind ?_ (fun _ => ?_)
    · intro y0 y1 y2 y3 y4 y5 y6 y7 y8 y9 y10 y11
      unfold tidelineref21_Print.l0
      repeat' first
      | (with_reducible exact ih0 _ _ _ _ _ _ _ _ _ _ _)
      | (with_reducible exact ih1 _ _ _ _ _ _ _ _ _ _ _ _)
      | (with_reducible exact tidelineref01_Hex.mono _ _)
      | (with_reducible exact tidelineref02_Print.mono _ _ _ _)
      | (with_reducible exact tidelineref21_shape.mono _ _)
      | (with_reducible exact LeO.refl _)
      | (with_reducible exact LeO.none _)
      | (with_reducible refine LeO.ite ?_ ?_)
      | (with_reducible refine LeO.bind ?_ (fun _ => ?_))
      | exact ih0 _ _ _ _ _ _ _ _ _ _ _
      | exact ih1 _ _ _ _ _ _ _ _ _ _ _ _
      | exact tidelineref01_Hex.mono _ _
      | exact tidelineref02_Print.mono _ _ _ _
      | exact tidelineref21_shape.mono _ _
      | exact LeO.none _
      | refine LeO.ite ?_ ?_
      | refine LeO.bind ?_ (fun _ => ?_)
theorem tidelineref21_Print.mono : ∀ a0 a1 a2 a3 a4 a5 a6 a7 a8 k, LeO (tidelineref21_Print.f k a0 a1 a2 a3 a4 a5 a6 a7 a8) (tidelineref21_Print.f (k + 1) a0 a1 a2 a3 a4 a5 a6 a7 a8) := by
  intro a0 a1 a2 a3 a4 a5 a6 a7 a8 k
  obtain ⟨ih0, ih1⟩ := tidelineref21_Print.mono_l k
  unfold tidelineref21_Print.f
  repeat' first
      | (with_reducible exact ih0 _ _ _ _ _ _ _ _ _ _ _)
      | (with_reducible exact ih1 _ _ _ _ _ _ _ _ _ _ _ _)
      | (with_reducible exact tidelineref01_Hex.mono _ _)
      | (with_reducible exact tidelineref02_Print.mono _ _ _ _)
      | (with_reducible exact tidelineref21_shape.mono _ _)
      | (with_reducible exact LeO.refl _)
      | (with_reducible exact LeO.none _)
      | (with_reducible refine LeO.ite ?_ ?_)
      | (with_reducible refine LeO.bind ?_ (fun _ => ?_))
      | exact ih0 _ _ _ _ _ _ _ _ _ _ _
      | exact ih1 _ _ _ _ _ _ _ _ _ _ _ _
      | exact tidelineref01_Hex.mono _ _
      | exact tidelineref02_Print.mono _ _ _ _
      | exact tidelineref21_shape.mono _ _
      | exact LeO.none _
      | refine LeO.ite ?_ ?_
      | refine LeO.bind ?_ (fun _ => ?_)
set_option maxHeartbeats 8000000 in
set_option maxRecDepth 100000 in
theorem tidelineref21_Print.calls (k : Nat) (a0_0 : Int) (a0_1 : Int) (a0_2 : Int) (a0_3 : Int) (a0_4 : ByteArray) (a0_5 : ByteArray) (a0_6 : ByteArray) (a0_7 : ByteArray) (a0_8 : Bool) (r1 : ByteArray) (r2 : Int) (w : World) (h : tidelineref21_Print.f k a0_0 a0_1 a0_2 a0_3 a0_4 a0_5 a0_6 a0_7 a0_8 = some (r1, r2)) :
    Calls Tryz.prog 8 #[.agg #[.int .i64 a0_0, .int .i64 a0_1, .int .i64 a0_2, .int .i64 a0_3, .string a0_4, .string a0_5, .string a0_6, .string a0_7, .bool a0_8]] w fun e w' => e = .returned (.tuple #[.string r1, .int .i64 r2]) ∧ Below w.heap.size w w' := by
  have hu25 := Tryz.underlying25
  have hu23 := Tryz.underlying23
  have HB := Aside0.mk (Below.refl w.heap.size w)
  have H : ((tidelineref21_word.f a0_0).bind fun t193 => (if t193.toList = ([] : List UInt8) then (tidelineref21_Print.j0 k t193 true a0_0 a0_1 a0_2 a0_3 a0_4 a0_5 a0_6 a0_7 a0_8) else (if a0_1 < 0 then (tidelineref21_Print.j0 k t193 true a0_0 a0_1 a0_2 a0_3 a0_4 a0_5 a0_6 a0_7 a0_8) else (if a0_2 < 0 then (tidelineref21_Print.j0 k t193 true a0_0 a0_1 a0_2 a0_3 a0_4 a0_5 a0_6 a0_7 a0_8) else (if a0_3 < 0 then (tidelineref21_Print.j0 k t193 true a0_0 a0_1 a0_2 a0_3 a0_4 a0_5 a0_6 a0_7 a0_8) else (if (a0_4.size : Int) > 400 then (tidelineref21_Print.j0 k t193 true a0_0 a0_1 a0_2 a0_3 a0_4 a0_5 a0_6 a0_7 a0_8) else (tidelineref21_Print.j0 k t193 (decide ((a0_5.size : Int) > 400)) a0_0 a0_1 a0_2 a0_3 a0_4 a0_5 a0_6 a0_7 a0_8))))))) = some (r1, r2) := h
  clear h
  replace H := Option.bind_eq_some_iff.mp H
  obtain ⟨t193, A20, H⟩ := H
  replace H : (if t193.toList = ([] : List UInt8) then (tidelineref21_Print.j0 k t193 true a0_0 a0_1 a0_2 a0_3 a0_4 a0_5 a0_6 a0_7 a0_8) else (if a0_1 < 0 then (tidelineref21_Print.j0 k t193 true a0_0 a0_1 a0_2 a0_3 a0_4 a0_5 a0_6 a0_7 a0_8) else (if a0_2 < 0 then (tidelineref21_Print.j0 k t193 true a0_0 a0_1 a0_2 a0_3 a0_4 a0_5 a0_6 a0_7 a0_8) else (if a0_3 < 0 then (tidelineref21_Print.j0 k t193 true a0_0 a0_1 a0_2 a0_3 a0_4 a0_5 a0_6 a0_7 a0_8) else (if (a0_4.size : Int) > 400 then (tidelineref21_Print.j0 k t193 true a0_0 a0_1 a0_2 a0_3 a0_4 a0_5 a0_6 a0_7 a0_8) else (tidelineref21_Print.j0 k t193 (decide ((a0_5.size : Int) > 400)) a0_0 a0_1 a0_2 a0_3 a0_4 a0_5 a0_6 a0_7 a0_8)))))) = some (r1, r2) := H
  have A2 := Aside0.mk A20
  clear A20
  have HC3 := Aside0.mk H
  clear H
  go_enter Tryz.func8, Tryz.ntmps8
  go_upto_region 2 with (first | ((with_reducible refine gate_dst (N := 1) rfl ?_); (try (refine gate_guard (by rfl) ?_; dsimp only)); refine box_event ?hg (N := 1) ?hd (cs := #[.int .i64 a0_0, .int .i64 a0_1, .int .i64 a0_2, .int .i64 a0_3, .string a0_4, .string a0_5, .string a0_6, .string a0_7, .bool a0_8]) (t := 25) ?hr ?_; (case hd => rfl); (case hg => rfl); (case hr => first | (go_simp; done) | (go_simp; rfl)); intro gb192 hg w4 hbox hb; have n0_ := Aside0.mk (below_step (by repeat (first | (with_reducible first | exact HB.out | apply below_alloc | apply pw_below_drewN | apply below_drew1) | exact HB.out)) hb); have n1_ := Aside0.mk (hbox); have n2_ := Aside0.mk ((by rw [hg]; exact (below_size (by repeat (first | (with_reducible first | exact HB.out | apply below_alloc | apply pw_below_drewN | apply below_drew1) | exact HB.out))) : w.heap.size ≤ gb192)); have n3_ := Aside0.mk ((by rw [hg]; exact (below_size (by repeat (first | (with_reducible first | exact HB.out | apply below_alloc | apply pw_below_drewN | apply below_drew1) | exact HB.out))) : w.heap.size ≤ gb192)); clear HB; have HB := n0_; have BK192 := n1_; have GW192 := n2_; have GE192 := n3_; clear n0_ n1_ n2_ n3_; clear hb hbox hg; have hcz5_0 : w4.cell? ⟨gb192, 0, none⟩ = some (.int .i64 a0_0) := (blk_cell BK192.out 0).trans rfl; have hcz5_1 : w4.cell? ⟨gb192, 1, none⟩ = some (.int .i64 a0_1) := (blk_cell BK192.out 1).trans rfl; have hcz5_2 : w4.cell? ⟨gb192, 2, none⟩ = some (.int .i64 a0_2) := (blk_cell BK192.out 2).trans rfl; have hcz5_3 : w4.cell? ⟨gb192, 3, none⟩ = some (.int .i64 a0_3) := (blk_cell BK192.out 3).trans rfl; have hcz5_4 : w4.cell? ⟨gb192, 4, none⟩ = some (.string a0_4) := (blk_cell BK192.out 4).trans rfl; have hcz5_5 : w4.cell? ⟨gb192, 5, none⟩ = some (.string a0_5) := (blk_cell BK192.out 5).trans rfl; have hcz5_6 : w4.cell? ⟨gb192, 6, none⟩ = some (.string a0_6) := (blk_cell BK192.out 6).trans rfl; have hcz5_7 : w4.cell? ⟨gb192, 7, none⟩ = some (.string a0_7) := (blk_cell BK192.out 7).trans rfl; have hcz5_8 : w4.cell? ⟨gb192, 8, none⟩ = some (.bool a0_8) := (blk_cell BK192.out 8).trans rfl; have hfz5_0 := blk_frozen BK192.out 0; have hfz5_1 := blk_frozen BK192.out 1; have hfz5_2 := blk_frozen BK192.out 2; have hfz5_3 := blk_frozen BK192.out 3; have hfz5_4 := blk_frozen BK192.out 4; have hfz5_5 := blk_frozen BK192.out 5; have hfz5_6 := blk_frozen BK192.out 6; have hfz5_7 := blk_frozen BK192.out 7; have hfz5_8 := blk_frozen BK192.out 8) | ((with_reducible refine gate_callee (f := 14) rfl ?_); refine goesL_ (some 13) rfl rfl Tryz.func14 (by kernel_rfl) rfl #[.int .i64 a0_0] rfl (by (try simp only [List.map_toArray, List.map_cons, List.map_nil]); first | done | rfl | (simp only [List.length_drop, List.length_take]; rfl)) ?_; (with_reducible refine (tidelineref21_word.calls a0_0 t193 _ A2.out).mono ?_); rintro e w' ⟨rfl, ⟨nd, rfl⟩⟩; refine ⟨_, rfl, ?_⟩))
  (try simp only [Act.put, List.setIfInBounds_toArray, List.set_cons_zero, List.set_cons_succ])
  go_cut [42] (fun v42 wc => ∃ (kq : Nat) (x42_2 : Bool), v42 = .bool x42_2 ∧ Aside0 (tidelineref21_Print.j0 kq t193 x42_2 a0_0 a0_1 a0_2 a0_3 a0_4 a0_5 a0_6 a0_7 a0_8 = some (r1, r2)) ∧ Aside0 (kq ≤ k) ∧ Aside0 (wc.heap[gb192]? = some (.cells #[.int .i64 a0_0, .int .i64 a0_1, .int .i64 a0_2, .int .i64 a0_3, .string a0_4, .string a0_5, .string a0_6, .string a0_7, .bool a0_8] 25 (0, 0))) ∧ Aside0 (Below w.heap.size w wc))
  case first =>
    have H := HC3.out
    clear HC3
    by_cases c6 : t193.toList = ([] : List UInt8)
    · rw [if_pos c6] at H
      have c6b0 : (t193.toList == ([] : List UInt8)) = true := beq_iff_eq.mpr c6
      (try (have c6b8 := c6b0; simp only [List.beq_nil_eq] at c6b8))
      have c6b1 : (t193.toList != ([] : List UInt8)) = false := bne_eq_false_iff_eq.mpr c6
      clear c6
      (first | rw [c6b0] | (simp only [i64_w, i32_w]; rw [c6b0]) | skip)
      have H' := Aside0.mk H
      clear H
      go_wp2
      go_meet
      case rel => exact ⟨_, (true), (by first | rfl | (simp; done) | (simp [*]; done) | (simp [*, Go.Proofs.YtodmbjbfigifnaaGreatDoor.Str.bne_nil]; done)), H', ⟨by first | omega | exact Nat.le_refl _⟩, ⟨by (with_reducible repeat (first | refine blk_drewN ?_ _ | refine blk_drew ?_ | refine blk_alloc ?_ _)); exact BK192.out⟩, ⟨by repeat (first | (with_reducible first | exact HB.out | apply below_alloc | apply pw_below_drewN | apply below_drew1 | refine below_set ?_ GE192.out) | exact HB.out)⟩⟩
    · rw [if_neg c6] at H
      have c6b0 : (t193.toList == ([] : List UInt8)) = false := beq_eq_false_iff_ne.mpr c6
      (try (have c6b8 := c6b0; simp only [List.beq_nil_eq] at c6b8))
      have c6b1 : (t193.toList != ([] : List UInt8)) = true := bne_iff_ne.mpr c6
      (first | rw [c6b0] | (simp only [i64_w, i32_w]; rw [c6b0]) | skip)
      by_cases c7 : a0_1 < 0
      · rw [if_pos c7] at H
        have c7b0 : decide (a0_1 < 0) = true := decide_eq_true c7
        clear c7
        have H' := Aside0.mk H
        clear H
        have hcz8_0 : w4.cell? ⟨gb192, 0, none⟩ = some (.int .i64 a0_0) := (blk_cell BK192.out 0).trans rfl
        have hcz8_1 : w4.cell? ⟨gb192, 1, none⟩ = some (.int .i64 a0_1) := (blk_cell BK192.out 1).trans rfl
        have hcz8_2 : w4.cell? ⟨gb192, 2, none⟩ = some (.int .i64 a0_2) := (blk_cell BK192.out 2).trans rfl
        have hcz8_3 : w4.cell? ⟨gb192, 3, none⟩ = some (.int .i64 a0_3) := (blk_cell BK192.out 3).trans rfl
        have hcz8_4 : w4.cell? ⟨gb192, 4, none⟩ = some (.string a0_4) := (blk_cell BK192.out 4).trans rfl
        have hcz8_5 : w4.cell? ⟨gb192, 5, none⟩ = some (.string a0_5) := (blk_cell BK192.out 5).trans rfl
        have hcz8_6 : w4.cell? ⟨gb192, 6, none⟩ = some (.string a0_6) := (blk_cell BK192.out 6).trans rfl
        have hcz8_7 : w4.cell? ⟨gb192, 7, none⟩ = some (.string a0_7) := (blk_cell BK192.out 7).trans rfl
        have hcz8_8 : w4.cell? ⟨gb192, 8, none⟩ = some (.bool a0_8) := (blk_cell BK192.out 8).trans rfl
        have hfz8_0 := blk_frozen BK192.out 0
        have hfz8_1 := blk_frozen BK192.out 1
        have hfz8_2 := blk_frozen BK192.out 2
        have hfz8_3 := blk_frozen BK192.out 3
        have hfz8_4 := blk_frozen BK192.out 4
        have hfz8_5 := blk_frozen BK192.out 5
        have hfz8_6 := blk_frozen BK192.out 6
        have hfz8_7 := blk_frozen BK192.out 7
        have hfz8_8 := blk_frozen BK192.out 8
        go_wp2
        go_meet
        case rel => exact ⟨_, (true), (by first | rfl | (simp; done) | (simp [*]; done) | (simp [*, Go.Proofs.YtodmbjbfigifnaaGreatDoor.Str.bne_nil]; done)), H', ⟨by first | omega | exact Nat.le_refl _⟩, ⟨by (with_reducible repeat (first | refine blk_drewN ?_ _ | refine blk_drew ?_ | refine blk_alloc ?_ _)); exact BK192.out⟩, ⟨by repeat (first | (with_reducible first | exact HB.out | apply below_alloc | apply pw_below_drewN | apply below_drew1 | refine below_set ?_ GE192.out) | exact HB.out)⟩⟩
      · rw [if_neg c7] at H
        have c7b0 : decide (a0_1 < 0) = false := decide_eq_false c7
        clear c7
        by_cases c9 : a0_2 < 0
        · rw [if_pos c9] at H
          have c9b0 : decide (a0_2 < 0) = true := decide_eq_true c9
          clear c9
          have H' := Aside0.mk H
          clear H
          have hcz10_0 : w4.cell? ⟨gb192, 0, none⟩ = some (.int .i64 a0_0) := (blk_cell BK192.out 0).trans rfl
          have hcz10_1 : w4.cell? ⟨gb192, 1, none⟩ = some (.int .i64 a0_1) := (blk_cell BK192.out 1).trans rfl
          have hcz10_2 : w4.cell? ⟨gb192, 2, none⟩ = some (.int .i64 a0_2) := (blk_cell BK192.out 2).trans rfl
          have hcz10_3 : w4.cell? ⟨gb192, 3, none⟩ = some (.int .i64 a0_3) := (blk_cell BK192.out 3).trans rfl
          have hcz10_4 : w4.cell? ⟨gb192, 4, none⟩ = some (.string a0_4) := (blk_cell BK192.out 4).trans rfl
          have hcz10_5 : w4.cell? ⟨gb192, 5, none⟩ = some (.string a0_5) := (blk_cell BK192.out 5).trans rfl
          have hcz10_6 : w4.cell? ⟨gb192, 6, none⟩ = some (.string a0_6) := (blk_cell BK192.out 6).trans rfl
          have hcz10_7 : w4.cell? ⟨gb192, 7, none⟩ = some (.string a0_7) := (blk_cell BK192.out 7).trans rfl
          have hcz10_8 : w4.cell? ⟨gb192, 8, none⟩ = some (.bool a0_8) := (blk_cell BK192.out 8).trans rfl
          have hfz10_0 := blk_frozen BK192.out 0
          have hfz10_1 := blk_frozen BK192.out 1
          have hfz10_2 := blk_frozen BK192.out 2
          have hfz10_3 := blk_frozen BK192.out 3
          have hfz10_4 := blk_frozen BK192.out 4
          have hfz10_5 := blk_frozen BK192.out 5
          have hfz10_6 := blk_frozen BK192.out 6
          have hfz10_7 := blk_frozen BK192.out 7
          have hfz10_8 := blk_frozen BK192.out 8
          go_wp2
          go_meet
          case rel => exact ⟨_, (true), (by first | rfl | (simp; done) | (simp [*]; done) | (simp [*, Go.Proofs.YtodmbjbfigifnaaGreatDoor.Str.bne_nil]; done)), H', ⟨by first | omega | exact Nat.le_refl _⟩, ⟨by (with_reducible repeat (first | refine blk_drewN ?_ _ | refine blk_drew ?_ | refine blk_alloc ?_ _)); exact BK192.out⟩, ⟨by repeat (first | (with_reducible first | exact HB.out | apply below_alloc | apply pw_below_drewN | apply below_drew1 | refine below_set ?_ GE192.out) | exact HB.out)⟩⟩
        · rw [if_neg c9] at H
          have c9b0 : decide (a0_2 < 0) = false := decide_eq_false c9
          clear c9
          by_cases c11 : a0_3 < 0
          · rw [if_pos c11] at H
            have c11b0 : decide (a0_3 < 0) = true := decide_eq_true c11
            clear c11
            have H' := Aside0.mk H
            clear H
            have hcz12_0 : w4.cell? ⟨gb192, 0, none⟩ = some (.int .i64 a0_0) := (blk_cell BK192.out 0).trans rfl
            have hcz12_1 : w4.cell? ⟨gb192, 1, none⟩ = some (.int .i64 a0_1) := (blk_cell BK192.out 1).trans rfl
            have hcz12_2 : w4.cell? ⟨gb192, 2, none⟩ = some (.int .i64 a0_2) := (blk_cell BK192.out 2).trans rfl
            have hcz12_3 : w4.cell? ⟨gb192, 3, none⟩ = some (.int .i64 a0_3) := (blk_cell BK192.out 3).trans rfl
            have hcz12_4 : w4.cell? ⟨gb192, 4, none⟩ = some (.string a0_4) := (blk_cell BK192.out 4).trans rfl
            have hcz12_5 : w4.cell? ⟨gb192, 5, none⟩ = some (.string a0_5) := (blk_cell BK192.out 5).trans rfl
            have hcz12_6 : w4.cell? ⟨gb192, 6, none⟩ = some (.string a0_6) := (blk_cell BK192.out 6).trans rfl
            have hcz12_7 : w4.cell? ⟨gb192, 7, none⟩ = some (.string a0_7) := (blk_cell BK192.out 7).trans rfl
            have hcz12_8 : w4.cell? ⟨gb192, 8, none⟩ = some (.bool a0_8) := (blk_cell BK192.out 8).trans rfl
            have hfz12_0 := blk_frozen BK192.out 0
            have hfz12_1 := blk_frozen BK192.out 1
            have hfz12_2 := blk_frozen BK192.out 2
            have hfz12_3 := blk_frozen BK192.out 3
            have hfz12_4 := blk_frozen BK192.out 4
            have hfz12_5 := blk_frozen BK192.out 5
            have hfz12_6 := blk_frozen BK192.out 6
            have hfz12_7 := blk_frozen BK192.out 7
            have hfz12_8 := blk_frozen BK192.out 8
            go_wp2
            go_meet
            case rel => exact ⟨_, (true), (by first | rfl | (simp; done) | (simp [*]; done) | (simp [*, Go.Proofs.YtodmbjbfigifnaaGreatDoor.Str.bne_nil]; done)), H', ⟨by first | omega | exact Nat.le_refl _⟩, ⟨by (with_reducible repeat (first | refine blk_drewN ?_ _ | refine blk_drew ?_ | refine blk_alloc ?_ _)); exact BK192.out⟩, ⟨by repeat (first | (with_reducible first | exact HB.out | apply below_alloc | apply pw_below_drewN | apply below_drew1 | refine below_set ?_ GE192.out) | exact HB.out)⟩⟩
          · rw [if_neg c11] at H
            have c11b0 : decide (a0_3 < 0) = false := decide_eq_false c11
            clear c11
            by_cases c13 : (a0_4.size : Int) > 400
            · rw [if_pos c13] at H
              have c13b0 : decide (400 < (a0_4.size : Int)) = true := decide_eq_true c13
              have c13b1 : decide (400 < a0_4.size) = true := decide_eq_true (by omega)
              clear c13
              have H' := Aside0.mk H
              clear H
              have hcz14_0 : w4.cell? ⟨gb192, 0, none⟩ = some (.int .i64 a0_0) := (blk_cell BK192.out 0).trans rfl
              have hcz14_1 : w4.cell? ⟨gb192, 1, none⟩ = some (.int .i64 a0_1) := (blk_cell BK192.out 1).trans rfl
              have hcz14_2 : w4.cell? ⟨gb192, 2, none⟩ = some (.int .i64 a0_2) := (blk_cell BK192.out 2).trans rfl
              have hcz14_3 : w4.cell? ⟨gb192, 3, none⟩ = some (.int .i64 a0_3) := (blk_cell BK192.out 3).trans rfl
              have hcz14_4 : w4.cell? ⟨gb192, 4, none⟩ = some (.string a0_4) := (blk_cell BK192.out 4).trans rfl
              have hcz14_5 : w4.cell? ⟨gb192, 5, none⟩ = some (.string a0_5) := (blk_cell BK192.out 5).trans rfl
              have hcz14_6 : w4.cell? ⟨gb192, 6, none⟩ = some (.string a0_6) := (blk_cell BK192.out 6).trans rfl
              have hcz14_7 : w4.cell? ⟨gb192, 7, none⟩ = some (.string a0_7) := (blk_cell BK192.out 7).trans rfl
              have hcz14_8 : w4.cell? ⟨gb192, 8, none⟩ = some (.bool a0_8) := (blk_cell BK192.out 8).trans rfl
              have hfz14_0 := blk_frozen BK192.out 0
              have hfz14_1 := blk_frozen BK192.out 1
              have hfz14_2 := blk_frozen BK192.out 2
              have hfz14_3 := blk_frozen BK192.out 3
              have hfz14_4 := blk_frozen BK192.out 4
              have hfz14_5 := blk_frozen BK192.out 5
              have hfz14_6 := blk_frozen BK192.out 6
              have hfz14_7 := blk_frozen BK192.out 7
              have hfz14_8 := blk_frozen BK192.out 8
              go_wp2
              go_meet
              case rel => exact ⟨_, (true), (by first | rfl | (simp; done) | (simp [*]; done) | (simp [*, Go.Proofs.YtodmbjbfigifnaaGreatDoor.Str.bne_nil]; done)), H', ⟨by first | omega | exact Nat.le_refl _⟩, ⟨by (with_reducible repeat (first | refine blk_drewN ?_ _ | refine blk_drew ?_ | refine blk_alloc ?_ _)); exact BK192.out⟩, ⟨by repeat (first | (with_reducible first | exact HB.out | apply below_alloc | apply pw_below_drewN | apply below_drew1 | refine below_set ?_ GE192.out) | exact HB.out)⟩⟩
            · rw [if_neg c13] at H
              have c13b0 : decide (400 < (a0_4.size : Int)) = false := decide_eq_false c13
              have c13b1 : decide (400 < a0_4.size) = false := decide_eq_false (by omega)
              clear c13
              have H' := Aside0.mk H
              clear H
              have hcz15_0 : w4.cell? ⟨gb192, 0, none⟩ = some (.int .i64 a0_0) := (blk_cell BK192.out 0).trans rfl
              have hcz15_1 : w4.cell? ⟨gb192, 1, none⟩ = some (.int .i64 a0_1) := (blk_cell BK192.out 1).trans rfl
              have hcz15_2 : w4.cell? ⟨gb192, 2, none⟩ = some (.int .i64 a0_2) := (blk_cell BK192.out 2).trans rfl
              have hcz15_3 : w4.cell? ⟨gb192, 3, none⟩ = some (.int .i64 a0_3) := (blk_cell BK192.out 3).trans rfl
              have hcz15_4 : w4.cell? ⟨gb192, 4, none⟩ = some (.string a0_4) := (blk_cell BK192.out 4).trans rfl
              have hcz15_5 : w4.cell? ⟨gb192, 5, none⟩ = some (.string a0_5) := (blk_cell BK192.out 5).trans rfl
              have hcz15_6 : w4.cell? ⟨gb192, 6, none⟩ = some (.string a0_6) := (blk_cell BK192.out 6).trans rfl
              have hcz15_7 : w4.cell? ⟨gb192, 7, none⟩ = some (.string a0_7) := (blk_cell BK192.out 7).trans rfl
              have hcz15_8 : w4.cell? ⟨gb192, 8, none⟩ = some (.bool a0_8) := (blk_cell BK192.out 8).trans rfl
              have hfz15_0 := blk_frozen BK192.out 0
              have hfz15_1 := blk_frozen BK192.out 1
              have hfz15_2 := blk_frozen BK192.out 2
              have hfz15_3 := blk_frozen BK192.out 3
              have hfz15_4 := blk_frozen BK192.out 4
              have hfz15_5 := blk_frozen BK192.out 5
              have hfz15_6 := blk_frozen BK192.out 6
              have hfz15_7 := blk_frozen BK192.out 7
              have hfz15_8 := blk_frozen BK192.out 8
              go_wp2
              go_meet
              case rel => exact ⟨_, (decide ((a0_5.size : Int) > 400)), (by first | rfl | (simp; done) | (simp [*]; done) | (simp [*, Go.Proofs.YtodmbjbfigifnaaGreatDoor.Str.bne_nil]; done)), H', ⟨by first | omega | exact Nat.le_refl _⟩, ⟨by (with_reducible repeat (first | refine blk_drewN ?_ _ | refine blk_drew ?_ | refine blk_alloc ?_ _)); exact BK192.out⟩, ⟨by repeat (first | (with_reducible first | exact HB.out | apply below_alloc | apply pw_below_drewN | apply below_drew1 | refine below_set ?_ GE192.out) | exact HB.out)⟩⟩
  case rest =>
    clear HC3
    try clear c1
    try clear p2
    try clear c6
    try clear c6b0
    try clear c6b1
    try clear c7
    try clear c7b0
    try clear c8
    try clear c9
    try clear c9b0
    try clear c11
    try clear c11b0
    try clear c13
    try clear c13b0
    try clear c13b1
    try clear c14
    try clear hcz10_0
    try clear hcz10_1
    try clear hcz10_2
    try clear hcz10_3
    try clear hcz10_4
    try clear hcz10_5
    try clear hcz10_6
    try clear hcz10_7
    try clear hcz10_8
    try clear hcz12_0
    try clear hcz12_1
    try clear hcz12_2
    try clear hcz12_3
    try clear hcz12_4
    try clear hcz12_5
    try clear hcz12_6
    try clear hcz12_7
    try clear hcz12_8
    try clear hcz14_0
    try clear hcz14_1
    try clear hcz14_2
    try clear hcz14_3
    try clear hcz14_4
    try clear hcz14_5
    try clear hcz14_6
    try clear hcz14_7
    try clear hcz14_8
    try clear hcz15_0
    try clear hcz15_1
    try clear hcz15_2
    try clear hcz15_3
    try clear hcz15_4
    try clear hcz15_5
    try clear hcz15_6
    try clear hcz15_7
    try clear hcz15_8
    try clear hcz5_0
    try clear hcz5_1
    try clear hcz5_2
    try clear hcz5_3
    try clear hcz5_4
    try clear hcz5_5
    try clear hcz5_6
    try clear hcz5_7
    try clear hcz5_8
    try clear hcz8_0
    try clear hcz8_1
    try clear hcz8_2
    try clear hcz8_3
    try clear hcz8_4
    try clear hcz8_5
    try clear hcz8_6
    try clear hcz8_7
    try clear hcz8_8
    try clear hfz10_0
    try clear hfz10_1
    try clear hfz10_2
    try clear hfz10_3
    try clear hfz10_4
    try clear hfz10_5
    try clear hfz10_6
    try clear hfz10_7
    try clear hfz10_8
    try clear hfz12_0
    try clear hfz12_1
    try clear hfz12_2
    try clear hfz12_3
    try clear hfz12_4
    try clear hfz12_5
    try clear hfz12_6
    try clear hfz12_7
    try clear hfz12_8
    try clear hfz14_0
    try clear hfz14_1
    try clear hfz14_2
    try clear hfz14_3
    try clear hfz14_4
    try clear hfz14_5
    try clear hfz14_6
    try clear hfz14_7
    try clear hfz14_8
    try clear hfz15_0
    try clear hfz15_1
    try clear hfz15_2
    try clear hfz15_3
    try clear hfz15_4
    try clear hfz15_5
    try clear hfz15_6
    try clear hfz15_7
    try clear hfz15_8
    try clear hfz5_0
    try clear hfz5_1
    try clear hfz5_2
    try clear hfz5_3
    try clear hfz5_4
    try clear hfz5_5
    try clear hfz5_6
    try clear hfz5_7
    try clear hfz5_8
    try clear hfz8_0
    try clear hfz8_1
    try clear hfz8_2
    try clear hfz8_3
    try clear hfz8_4
    try clear hfz8_5
    try clear hfz8_6
    try clear hfz8_7
    try clear hfz8_8
    obtain ⟨kq, x42_2, rfl, HA, HJ2, BK192, HB⟩ := hcut
    cases kq with
    | zero => exact absurd HA.out (by simp [tidelineref21_Print.j0])
    | succ kj2 =>
      have H := HA.out
      clear HA
      simp only [tidelineref21_Print.j0] at H
      by_cases c16 : x42_2 = true
      · subst c16
        have H1 : (some ((⟨#[]⟩ : ByteArray), 210)) = some (r1, r2) := by rw [if_pos rfl] at H; exact H
        clear H
        have H := H1
        clear H1
        simp only [Option.some.injEq, Prod.mk.injEq] at H
        obtain ⟨rfl, rfl⟩ := H
        go_wp2
        go_ret2
        exact ⟨by first | rfl | (simp [errW_none, errW_some] <;> rfl) | (simp [*, errW_none, errW_some] <;> rfl), by repeat (first | (with_reducible first | exact HB.out | apply below_alloc | apply pw_below_drewN | apply below_drew1 | refine below_set ?_ GE192.out) | exact HB.out)⟩
      · replace c16 := Bool.eq_false_iff.mpr c16
        subst c16
        have H1 : ((tidelineref21_shape.f kj2 a0_0).bind fun t194 => (tidelineref21_Print.l0 kj2 t193 t194 0 a0_0 a0_1 a0_2 a0_3 a0_4 a0_5 a0_6 a0_7 a0_8)) = some (r1, r2) := by rw [if_neg (show ¬ (false = true) by decide)] at H; exact H
        clear H
        have H := H1
        clear H1
        replace H := Option.bind_eq_some_iff.mp H
        obtain ⟨t194, A170, H⟩ := H
        replace H : (tidelineref21_Print.l0 kj2 t193 t194 0 a0_0 a0_1 a0_2 a0_3 a0_4 a0_5 a0_6 a0_7 a0_8) = some (r1, r2) := H
        have A17 := Aside0.mk A170
        clear A170
        have H' := Aside0.mk H
        clear H
        have hcz18_0 : wc.cell? ⟨gb192, 0, none⟩ = some (.int .i64 a0_0) := (blk_cell BK192.out 0).trans rfl
        have hcz18_1 : wc.cell? ⟨gb192, 1, none⟩ = some (.int .i64 a0_1) := (blk_cell BK192.out 1).trans rfl
        have hcz18_2 : wc.cell? ⟨gb192, 2, none⟩ = some (.int .i64 a0_2) := (blk_cell BK192.out 2).trans rfl
        have hcz18_3 : wc.cell? ⟨gb192, 3, none⟩ = some (.int .i64 a0_3) := (blk_cell BK192.out 3).trans rfl
        have hcz18_4 : wc.cell? ⟨gb192, 4, none⟩ = some (.string a0_4) := (blk_cell BK192.out 4).trans rfl
        have hcz18_5 : wc.cell? ⟨gb192, 5, none⟩ = some (.string a0_5) := (blk_cell BK192.out 5).trans rfl
        have hcz18_6 : wc.cell? ⟨gb192, 6, none⟩ = some (.string a0_6) := (blk_cell BK192.out 6).trans rfl
        have hcz18_7 : wc.cell? ⟨gb192, 7, none⟩ = some (.string a0_7) := (blk_cell BK192.out 7).trans rfl
        have hcz18_8 : wc.cell? ⟨gb192, 8, none⟩ = some (.bool a0_8) := (blk_cell BK192.out 8).trans rfl
        have hfz18_0 := blk_frozen BK192.out 0
        have hfz18_1 := blk_frozen BK192.out 1
        have hfz18_2 := blk_frozen BK192.out 2
        have hfz18_3 := blk_frozen BK192.out 3
        have hfz18_4 := blk_frozen BK192.out 4
        have hfz18_5 := blk_frozen BK192.out 5
        have hfz18_6 := blk_frozen BK192.out 6
        have hfz18_7 := blk_frozen BK192.out 7
        have hfz18_8 := blk_frozen BK192.out 8
        go_wp2_with (first | ((with_reducible refine gate_callee (f := 15) rfl ?_); refine goesL_ (some 45) rfl rfl Tryz.func15 (by kernel_rfl) rfl #[.int .i64 a0_0] rfl (by (try simp only [List.map_toArray, List.map_cons, List.map_nil]); first | done | rfl | (simp only [List.length_drop, List.length_take]; rfl)) ?_; (with_reducible refine (tidelineref21_shape.calls kj2 a0_0 t194 _ A17.out).mono ?_); rintro e w' ⟨rfl, ⟨nd, rfl⟩⟩; refine ⟨_, rfl, ?_⟩))
        go_loopg [4, 6] kj2 (fun kq v4 v6 w' => ∃ (x4_2 : ByteArray) (x6_2 : Int), v4 = .string x4_2 ∧ v6 = .int .i64 x6_2 ∧ Aside0 (tidelineref21_Print.l0 kq x4_2 t194 x6_2 a0_0 a0_1 a0_2 a0_3 a0_4 a0_5 a0_6 a0_7 a0_8 = some (r1, r2)) ∧ Aside0 (kq ≤ kj2) ∧ Aside0 (w'.heap[gb192]? = some (.cells #[.int .i64 a0_0, .int .i64 a0_1, .int .i64 a0_2, .int .i64 a0_3, .string a0_4, .string a0_5, .string a0_6, .string a0_7, .bool a0_8] 25 (0, 0))) ∧ Aside0 (Below w.heap.size w w'))
        case atStart => exact ⟨(t193), (0), (by first | rfl | (simp; done) | (simp [*]; done) | (simp [*, Go.Proofs.YtodmbjbfigifnaaGreatDoor.Str.bne_nil]; done)), (by first | rfl | (simp; done) | (simp [*]; done) | (simp [*, Go.Proofs.YtodmbjbfigifnaaGreatDoor.Str.bne_nil]; done)), H', ⟨Nat.le_refl _⟩, ⟨by (with_reducible repeat (first | refine blk_drewN ?_ _ | refine blk_drew ?_ | refine blk_alloc ?_ _)); exact BK192.out⟩, ⟨by repeat (first | (with_reducible first | exact HB.out | apply below_alloc | apply pw_below_drewN | apply below_drew1 | refine below_set ?_ GE192.out) | exact HB.out)⟩⟩
        case round =>
          clear H'
          try clear c1
          try clear p2
          try clear c6
          try clear c6b0
          try clear c6b1
          try clear c7
          try clear c7b0
          try clear c8
          try clear c9
          try clear c9b0
          try clear c11
          try clear c11b0
          try clear c13
          try clear c13b0
          try clear c13b1
          try clear c14
          try clear c15
          try clear c16
          try clear hcz10_0
          try clear hcz10_1
          try clear hcz10_2
          try clear hcz10_3
          try clear hcz10_4
          try clear hcz10_5
          try clear hcz10_6
          try clear hcz10_7
          try clear hcz10_8
          try clear hcz12_0
          try clear hcz12_1
          try clear hcz12_2
          try clear hcz12_3
          try clear hcz12_4
          try clear hcz12_5
          try clear hcz12_6
          try clear hcz12_7
          try clear hcz12_8
          try clear hcz14_0
          try clear hcz14_1
          try clear hcz14_2
          try clear hcz14_3
          try clear hcz14_4
          try clear hcz14_5
          try clear hcz14_6
          try clear hcz14_7
          try clear hcz14_8
          try clear hcz15_0
          try clear hcz15_1
          try clear hcz15_2
          try clear hcz15_3
          try clear hcz15_4
          try clear hcz15_5
          try clear hcz15_6
          try clear hcz15_7
          try clear hcz15_8
          try clear hcz18_0
          try clear hcz18_1
          try clear hcz18_2
          try clear hcz18_3
          try clear hcz18_4
          try clear hcz18_5
          try clear hcz18_6
          try clear hcz18_7
          try clear hcz18_8
          try clear hcz5_0
          try clear hcz5_1
          try clear hcz5_2
          try clear hcz5_3
          try clear hcz5_4
          try clear hcz5_5
          try clear hcz5_6
          try clear hcz5_7
          try clear hcz5_8
          try clear hcz8_0
          try clear hcz8_1
          try clear hcz8_2
          try clear hcz8_3
          try clear hcz8_4
          try clear hcz8_5
          try clear hcz8_6
          try clear hcz8_7
          try clear hcz8_8
          try clear hfz10_0
          try clear hfz10_1
          try clear hfz10_2
          try clear hfz10_3
          try clear hfz10_4
          try clear hfz10_5
          try clear hfz10_6
          try clear hfz10_7
          try clear hfz10_8
          try clear hfz12_0
          try clear hfz12_1
          try clear hfz12_2
          try clear hfz12_3
          try clear hfz12_4
          try clear hfz12_5
          try clear hfz12_6
          try clear hfz12_7
          try clear hfz12_8
          try clear hfz14_0
          try clear hfz14_1
          try clear hfz14_2
          try clear hfz14_3
          try clear hfz14_4
          try clear hfz14_5
          try clear hfz14_6
          try clear hfz14_7
          try clear hfz14_8
          try clear hfz15_0
          try clear hfz15_1
          try clear hfz15_2
          try clear hfz15_3
          try clear hfz15_4
          try clear hfz15_5
          try clear hfz15_6
          try clear hfz15_7
          try clear hfz15_8
          try clear hfz18_0
          try clear hfz18_1
          try clear hfz18_2
          try clear hfz18_3
          try clear hfz18_4
          try clear hfz18_5
          try clear hfz18_6
          try clear hfz18_7
          try clear hfz18_8
          try clear hfz5_0
          try clear hfz5_1
          try clear hfz5_2
          try clear hfz5_3
          try clear hfz5_4
          try clear hfz5_5
          try clear hfz5_6
          try clear hfz5_7
          try clear hfz5_8
          try clear hfz8_0
          try clear hfz8_1
          try clear hfz8_2
          try clear hfz8_3
          try clear hfz8_4
          try clear hfz8_5
          try clear hfz8_6
          try clear hfz8_7
          try clear hfz8_8
          try clear p2
          obtain ⟨x4_2, x6_2, rfl, rfl, HA, HK2, BK192, HB⟩ := hrel
          cases gk with
          | zero => exact absurd HA.out (by simp [tidelineref21_Print.l0])
          | succ k2 =>
            have H := HA.out
            clear HA
            simp only [tidelineref21_Print.l0] at H
            by_cases c19 : x6_2 < (t194.size : Int)
            · rw [if_pos c19] at H
              have c19b0 : decide (x6_2 < (t194.size : Int)) = true := decide_eq_true c19
              clear c19
              by_cases c20 : x4_2.size + 1 ≤ 9223372036854775807
              · rw [if_pos c20] at H
                have c20b0 := eq_true c20
                have c20b1 : decide (x4_2.size + 1 ≤ 9223372036854775807) = true := decide_eq_true c20
                try have c20b2 : (9223372036854775807 < x4_2.size + 1) = False := eq_false (Nat.not_lt.2 c20)
                by_cases c21 : 0 ≤ x6_2
                · rw [if_pos c21] at H
                  have c21b0 : decide (0 ≤ x6_2) = true := decide_eq_true c21
                  clear c21
                  by_cases c23 : (bt t194 x6_2) = 110
                  · rw [if_pos c23] at H
                    have c23b0 : ((bt t194 x6_2) == 110) = true := beq_iff_eq.mpr c23
                    have c23b1 : ((bt t194 x6_2) != 110) = false := bne_eq_false_iff_eq.mpr c23
                    clear c23
                    replace H := Option.bind_eq_some_iff.mp H
                    obtain ⟨t206, A240, H⟩ := H
                    replace H : (if (x4_2 ++ (⟨#[32]⟩ : ByteArray)).size + t206.size ≤ 9223372036854775807 then (tidelineref21_Print.l0 k2 ((x4_2 ++ (⟨#[32]⟩ : ByteArray)) ++ t206) t194 (wrap64 (x6_2 + 1)) a0_0 a0_1 a0_2 a0_3 a0_4 a0_5 a0_6 a0_7 a0_8) else (none)) = some (r1, r2) := H
                    have A24 := Aside0.mk A240
                    clear A240
                    by_cases c25 : (x4_2 ++ (⟨#[32]⟩ : ByteArray)).size + t206.size ≤ 9223372036854775807
                    · rw [if_pos c25] at H
                      have c25b0 := eq_true c25
                      have c25b1 : decide ((x4_2 ++ (⟨#[32]⟩ : ByteArray)).size + t206.size ≤ 9223372036854775807) = true := decide_eq_true c25
                      try have c25b2 : (9223372036854775807 < (x4_2 ++ (⟨#[32]⟩ : ByteArray)).size + t206.size) = False := eq_false (Nat.not_lt.2 c25)
                      try have c25b9 : (9223372036854775807 < x4_2.size + 1 + t206.size) = False := eq_false (by have h_ := c25; simp only [ByteArray.size_append] at h_; exact Nat.not_lt.2 h_)
                      have H' := Aside0.mk H
                      clear H
                      have p22 : 0 ≤ (x6_2 : Int) := of_decide_eq_true (by first | (with_reducible assumption) | assumption)
                      have q22 : x6_2 < (t194.size : Int) := of_decide_eq_true (by first | (with_reducible assumption) | assumption)
                      have hx22 := bt_at t194 x6_2
                      replace p22 := eq_true p22
                      replace q22 := eq_true q22
                      have hcz26_0 : wr.cell? ⟨gb192, 0, none⟩ = some (.int .i64 a0_0) := (blk_cell BK192.out 0).trans rfl
                      have hcz26_1 : wr.cell? ⟨gb192, 1, none⟩ = some (.int .i64 a0_1) := (blk_cell BK192.out 1).trans rfl
                      have hcz26_2 : wr.cell? ⟨gb192, 2, none⟩ = some (.int .i64 a0_2) := (blk_cell BK192.out 2).trans rfl
                      have hcz26_3 : wr.cell? ⟨gb192, 3, none⟩ = some (.int .i64 a0_3) := (blk_cell BK192.out 3).trans rfl
                      have hcz26_4 : wr.cell? ⟨gb192, 4, none⟩ = some (.string a0_4) := (blk_cell BK192.out 4).trans rfl
                      have hcz26_5 : wr.cell? ⟨gb192, 5, none⟩ = some (.string a0_5) := (blk_cell BK192.out 5).trans rfl
                      have hcz26_6 : wr.cell? ⟨gb192, 6, none⟩ = some (.string a0_6) := (blk_cell BK192.out 6).trans rfl
                      have hcz26_7 : wr.cell? ⟨gb192, 7, none⟩ = some (.string a0_7) := (blk_cell BK192.out 7).trans rfl
                      have hcz26_8 : wr.cell? ⟨gb192, 8, none⟩ = some (.bool a0_8) := (blk_cell BK192.out 8).trans rfl
                      have hfz26_0 := blk_frozen BK192.out 0
                      have hfz26_1 := blk_frozen BK192.out 1
                      have hfz26_2 := blk_frozen BK192.out 2
                      have hfz26_3 := blk_frozen BK192.out 3
                      have hfz26_4 := blk_frozen BK192.out 4
                      have hfz26_5 := blk_frozen BK192.out 5
                      have hfz26_6 := blk_frozen BK192.out 6
                      have hfz26_7 := blk_frozen BK192.out 7
                      have hfz26_8 := blk_frozen BK192.out 8
                      go_wp2_with (first | ((with_reducible refine gate_callee (f := 16) rfl ?_); refine goesL_ (some 73) rfl rfl Tryz.func16 (by kernel_rfl) rfl #[.int .i64 a0_1] rfl (by (try simp only [List.map_toArray, List.map_cons, List.map_nil]); first | done | rfl | (simp only [List.length_drop, List.length_take]; rfl)) ?_; (with_reducible refine (tidelineref01_Digits.calls a0_1 t206 _ A24.out).mono ?_); rintro e w27 ⟨rfl, hb⟩; refine ⟨_, rfl, ?_⟩; have n0_ := Aside0.mk (blk_below (g := gb192) (o := .cells #[.int .i64 a0_0, .int .i64 a0_1, .int .i64 a0_2, .int .i64 a0_3, .string a0_4, .string a0_5, .string a0_6, .string a0_7, .bool a0_8] 25 (0, 0)) (by (with_reducible repeat (first | refine blk_drewN ?_ _ | refine blk_drew ?_ | refine blk_alloc ?_ _)); exact BK192.out) hb); have n1_ := Aside0.mk (below_step (by repeat (first | (with_reducible first | exact HB.out | apply below_alloc | apply pw_below_drewN | apply below_drew1 | refine below_set ?_ GE192.out) | exact HB.out)) hb); clear BK192; clear HB; have BK192 := n0_; have HB := n1_; clear n0_ n1_; (try clear hb); (try clear hb2); (try clear hk); (try clear hi)))
                      go_roundg k2
                      case measure => have := HJ2.out; have := HK2.out; omega
                      case rel => exact ⟨((x4_2 ++ (⟨#[32]⟩ : ByteArray)) ++ t206), (wrap64 (x6_2 + 1)), (by first | rfl | (simp; done) | (simp [*]; done) | (simp [*, Go.Proofs.YtodmbjbfigifnaaGreatDoor.Str.bne_nil]; done)), (by first | rfl | (simp; done) | (simp [*]; done) | (simp [*, Go.Proofs.YtodmbjbfigifnaaGreatDoor.Str.bne_nil]; done)), H', ⟨by have := HJ2.out; have := HK2.out; omega⟩, ⟨by (with_reducible repeat (first | refine blk_drewN ?_ _ | refine blk_drew ?_ | refine blk_alloc ?_ _)); exact BK192.out⟩, ⟨by repeat (first | (with_reducible first | exact HB.out | apply below_alloc | apply pw_below_drewN | apply below_drew1 | refine below_set ?_ GE192.out) | exact HB.out)⟩⟩
                    · rw [if_neg c25] at H
                      exact absurd H (by simp)
                  · rw [if_neg c23] at H
                    have c23b0 : ((bt t194 x6_2) == 110) = false := beq_eq_false_iff_ne.mpr c23
                    have c23b1 : ((bt t194 x6_2) != 110) = true := bne_iff_ne.mpr c23
                    by_cases c28 : (bt t194 x6_2) = 112
                    · rw [if_pos c28] at H
                      have c28b0 : ((bt t194 x6_2) == 112) = true := beq_iff_eq.mpr c28
                      have c28b1 : ((bt t194 x6_2) != 112) = false := bne_eq_false_iff_eq.mpr c28
                      clear c28
                      replace H := Option.bind_eq_some_iff.mp H
                      obtain ⟨t207, A290, H⟩ := H
                      replace H : (if (x4_2 ++ (⟨#[32]⟩ : ByteArray)).size + t207.size ≤ 9223372036854775807 then (tidelineref21_Print.l0 k2 ((x4_2 ++ (⟨#[32]⟩ : ByteArray)) ++ t207) t194 (wrap64 (x6_2 + 1)) a0_0 a0_1 a0_2 a0_3 a0_4 a0_5 a0_6 a0_7 a0_8) else (none)) = some (r1, r2) := H
                      have A29 := Aside0.mk A290
                      clear A290
                      by_cases c30 : (x4_2 ++ (⟨#[32]⟩ : ByteArray)).size + t207.size ≤ 9223372036854775807
                      · rw [if_pos c30] at H
                        have c30b0 := eq_true c30
                        have c30b1 : decide ((x4_2 ++ (⟨#[32]⟩ : ByteArray)).size + t207.size ≤ 9223372036854775807) = true := decide_eq_true c30
                        try have c30b2 : (9223372036854775807 < (x4_2 ++ (⟨#[32]⟩ : ByteArray)).size + t207.size) = False := eq_false (Nat.not_lt.2 c30)
                        try have c30b9 : (9223372036854775807 < x4_2.size + 1 + t207.size) = False := eq_false (by have h_ := c30; simp only [ByteArray.size_append] at h_; exact Nat.not_lt.2 h_)
                        have H' := Aside0.mk H
                        clear H
                        have p22 : 0 ≤ (x6_2 : Int) := of_decide_eq_true (by first | (with_reducible assumption) | assumption)
                        have q22 : x6_2 < (t194.size : Int) := of_decide_eq_true (by first | (with_reducible assumption) | assumption)
                        have hx22 := bt_at t194 x6_2
                        replace p22 := eq_true p22
                        replace q22 := eq_true q22
                        have hcz31_0 : wr.cell? ⟨gb192, 0, none⟩ = some (.int .i64 a0_0) := (blk_cell BK192.out 0).trans rfl
                        have hcz31_1 : wr.cell? ⟨gb192, 1, none⟩ = some (.int .i64 a0_1) := (blk_cell BK192.out 1).trans rfl
                        have hcz31_2 : wr.cell? ⟨gb192, 2, none⟩ = some (.int .i64 a0_2) := (blk_cell BK192.out 2).trans rfl
                        have hcz31_3 : wr.cell? ⟨gb192, 3, none⟩ = some (.int .i64 a0_3) := (blk_cell BK192.out 3).trans rfl
                        have hcz31_4 : wr.cell? ⟨gb192, 4, none⟩ = some (.string a0_4) := (blk_cell BK192.out 4).trans rfl
                        have hcz31_5 : wr.cell? ⟨gb192, 5, none⟩ = some (.string a0_5) := (blk_cell BK192.out 5).trans rfl
                        have hcz31_6 : wr.cell? ⟨gb192, 6, none⟩ = some (.string a0_6) := (blk_cell BK192.out 6).trans rfl
                        have hcz31_7 : wr.cell? ⟨gb192, 7, none⟩ = some (.string a0_7) := (blk_cell BK192.out 7).trans rfl
                        have hcz31_8 : wr.cell? ⟨gb192, 8, none⟩ = some (.bool a0_8) := (blk_cell BK192.out 8).trans rfl
                        have hfz31_0 := blk_frozen BK192.out 0
                        have hfz31_1 := blk_frozen BK192.out 1
                        have hfz31_2 := blk_frozen BK192.out 2
                        have hfz31_3 := blk_frozen BK192.out 3
                        have hfz31_4 := blk_frozen BK192.out 4
                        have hfz31_5 := blk_frozen BK192.out 5
                        have hfz31_6 := blk_frozen BK192.out 6
                        have hfz31_7 := blk_frozen BK192.out 7
                        have hfz31_8 := blk_frozen BK192.out 8
                        go_wp2_with (first | ((with_reducible refine gate_callee (f := 16) rfl ?_); refine goesL_ (some 80) rfl rfl Tryz.func16 (by kernel_rfl) rfl #[.int .i64 a0_2] rfl (by (try simp only [List.map_toArray, List.map_cons, List.map_nil]); first | done | rfl | (simp only [List.length_drop, List.length_take]; rfl)) ?_; (with_reducible refine (tidelineref01_Digits.calls a0_2 t207 _ A29.out).mono ?_); rintro e w32 ⟨rfl, hb⟩; refine ⟨_, rfl, ?_⟩; have n0_ := Aside0.mk (blk_below (g := gb192) (o := .cells #[.int .i64 a0_0, .int .i64 a0_1, .int .i64 a0_2, .int .i64 a0_3, .string a0_4, .string a0_5, .string a0_6, .string a0_7, .bool a0_8] 25 (0, 0)) (by (with_reducible repeat (first | refine blk_drewN ?_ _ | refine blk_drew ?_ | refine blk_alloc ?_ _)); exact BK192.out) hb); have n1_ := Aside0.mk (below_step (by repeat (first | (with_reducible first | exact HB.out | apply below_alloc | apply pw_below_drewN | apply below_drew1 | refine below_set ?_ GE192.out) | exact HB.out)) hb); clear BK192; clear HB; have BK192 := n0_; have HB := n1_; clear n0_ n1_; (try clear hb); (try clear hb2); (try clear hk); (try clear hi)))
                        go_roundg k2
                        case measure => have := HJ2.out; have := HK2.out; omega
                        case rel => exact ⟨((x4_2 ++ (⟨#[32]⟩ : ByteArray)) ++ t207), (wrap64 (x6_2 + 1)), (by first | rfl | (simp; done) | (simp [*]; done) | (simp [*, Go.Proofs.YtodmbjbfigifnaaGreatDoor.Str.bne_nil]; done)), (by first | rfl | (simp; done) | (simp [*]; done) | (simp [*, Go.Proofs.YtodmbjbfigifnaaGreatDoor.Str.bne_nil]; done)), H', ⟨by have := HJ2.out; have := HK2.out; omega⟩, ⟨by (with_reducible repeat (first | refine blk_drewN ?_ _ | refine blk_drew ?_ | refine blk_alloc ?_ _)); exact BK192.out⟩, ⟨by repeat (first | (with_reducible first | exact HB.out | apply below_alloc | apply pw_below_drewN | apply below_drew1 | refine below_set ?_ GE192.out) | exact HB.out)⟩⟩
                      · rw [if_neg c30] at H
                        exact absurd H (by simp)
                    · rw [if_neg c28] at H
                      have c28b0 : ((bt t194 x6_2) == 112) = false := beq_eq_false_iff_ne.mpr c28
                      have c28b1 : ((bt t194 x6_2) != 112) = true := bne_iff_ne.mpr c28
                      by_cases c33 : (bt t194 x6_2) = 105
                      · rw [if_pos c33] at H
                        have c33b0 : ((bt t194 x6_2) == 105) = true := beq_iff_eq.mpr c33
                        have c33b1 : ((bt t194 x6_2) != 105) = false := bne_eq_false_iff_eq.mpr c33
                        clear c33
                        replace H := Option.bind_eq_some_iff.mp H
                        obtain ⟨t208, A340, H⟩ := H
                        replace H : (if (x4_2 ++ (⟨#[32]⟩ : ByteArray)).size + t208.size ≤ 9223372036854775807 then (tidelineref21_Print.l0 k2 ((x4_2 ++ (⟨#[32]⟩ : ByteArray)) ++ t208) t194 (wrap64 (x6_2 + 1)) a0_0 a0_1 a0_2 a0_3 a0_4 a0_5 a0_6 a0_7 a0_8) else (none)) = some (r1, r2) := H
                        have A34 := Aside0.mk A340
                        clear A340
                        by_cases c35 : (x4_2 ++ (⟨#[32]⟩ : ByteArray)).size + t208.size ≤ 9223372036854775807
                        · rw [if_pos c35] at H
                          have c35b0 := eq_true c35
                          have c35b1 : decide ((x4_2 ++ (⟨#[32]⟩ : ByteArray)).size + t208.size ≤ 9223372036854775807) = true := decide_eq_true c35
                          try have c35b2 : (9223372036854775807 < (x4_2 ++ (⟨#[32]⟩ : ByteArray)).size + t208.size) = False := eq_false (Nat.not_lt.2 c35)
                          try have c35b9 : (9223372036854775807 < x4_2.size + 1 + t208.size) = False := eq_false (by have h_ := c35; simp only [ByteArray.size_append] at h_; exact Nat.not_lt.2 h_)
                          have H' := Aside0.mk H
                          clear H
                          have p22 : 0 ≤ (x6_2 : Int) := of_decide_eq_true (by first | (with_reducible assumption) | assumption)
                          have q22 : x6_2 < (t194.size : Int) := of_decide_eq_true (by first | (with_reducible assumption) | assumption)
                          have hx22 := bt_at t194 x6_2
                          replace p22 := eq_true p22
                          replace q22 := eq_true q22
                          have hcz36_0 : wr.cell? ⟨gb192, 0, none⟩ = some (.int .i64 a0_0) := (blk_cell BK192.out 0).trans rfl
                          have hcz36_1 : wr.cell? ⟨gb192, 1, none⟩ = some (.int .i64 a0_1) := (blk_cell BK192.out 1).trans rfl
                          have hcz36_2 : wr.cell? ⟨gb192, 2, none⟩ = some (.int .i64 a0_2) := (blk_cell BK192.out 2).trans rfl
                          have hcz36_3 : wr.cell? ⟨gb192, 3, none⟩ = some (.int .i64 a0_3) := (blk_cell BK192.out 3).trans rfl
                          have hcz36_4 : wr.cell? ⟨gb192, 4, none⟩ = some (.string a0_4) := (blk_cell BK192.out 4).trans rfl
                          have hcz36_5 : wr.cell? ⟨gb192, 5, none⟩ = some (.string a0_5) := (blk_cell BK192.out 5).trans rfl
                          have hcz36_6 : wr.cell? ⟨gb192, 6, none⟩ = some (.string a0_6) := (blk_cell BK192.out 6).trans rfl
                          have hcz36_7 : wr.cell? ⟨gb192, 7, none⟩ = some (.string a0_7) := (blk_cell BK192.out 7).trans rfl
                          have hcz36_8 : wr.cell? ⟨gb192, 8, none⟩ = some (.bool a0_8) := (blk_cell BK192.out 8).trans rfl
                          have hfz36_0 := blk_frozen BK192.out 0
                          have hfz36_1 := blk_frozen BK192.out 1
                          have hfz36_2 := blk_frozen BK192.out 2
                          have hfz36_3 := blk_frozen BK192.out 3
                          have hfz36_4 := blk_frozen BK192.out 4
                          have hfz36_5 := blk_frozen BK192.out 5
                          have hfz36_6 := blk_frozen BK192.out 6
                          have hfz36_7 := blk_frozen BK192.out 7
                          have hfz36_8 := blk_frozen BK192.out 8
                          go_wp2_with (first | ((with_reducible refine gate_callee (f := 16) rfl ?_); refine goesL_ (some 87) rfl rfl Tryz.func16 (by kernel_rfl) rfl #[.int .i64 a0_3] rfl (by (try simp only [List.map_toArray, List.map_cons, List.map_nil]); first | done | rfl | (simp only [List.length_drop, List.length_take]; rfl)) ?_; (with_reducible refine (tidelineref01_Digits.calls a0_3 t208 _ A34.out).mono ?_); rintro e w37 ⟨rfl, hb⟩; refine ⟨_, rfl, ?_⟩; have n0_ := Aside0.mk (blk_below (g := gb192) (o := .cells #[.int .i64 a0_0, .int .i64 a0_1, .int .i64 a0_2, .int .i64 a0_3, .string a0_4, .string a0_5, .string a0_6, .string a0_7, .bool a0_8] 25 (0, 0)) (by (with_reducible repeat (first | refine blk_drewN ?_ _ | refine blk_drew ?_ | refine blk_alloc ?_ _)); exact BK192.out) hb); have n1_ := Aside0.mk (below_step (by repeat (first | (with_reducible first | exact HB.out | apply below_alloc | apply pw_below_drewN | apply below_drew1 | refine below_set ?_ GE192.out) | exact HB.out)) hb); clear BK192; clear HB; have BK192 := n0_; have HB := n1_; clear n0_ n1_; (try clear hb); (try clear hb2); (try clear hk); (try clear hi)))
                          go_roundg k2
                          case measure => have := HJ2.out; have := HK2.out; omega
                          case rel => exact ⟨((x4_2 ++ (⟨#[32]⟩ : ByteArray)) ++ t208), (wrap64 (x6_2 + 1)), (by first | rfl | (simp; done) | (simp [*]; done) | (simp [*, Go.Proofs.YtodmbjbfigifnaaGreatDoor.Str.bne_nil]; done)), (by first | rfl | (simp; done) | (simp [*]; done) | (simp [*, Go.Proofs.YtodmbjbfigifnaaGreatDoor.Str.bne_nil]; done)), H', ⟨by have := HJ2.out; have := HK2.out; omega⟩, ⟨by (with_reducible repeat (first | refine blk_drewN ?_ _ | refine blk_drew ?_ | refine blk_alloc ?_ _)); exact BK192.out⟩, ⟨by repeat (first | (with_reducible first | exact HB.out | apply below_alloc | apply pw_below_drewN | apply below_drew1 | refine below_set ?_ GE192.out) | exact HB.out)⟩⟩
                        · rw [if_neg c35] at H
                          exact absurd H (by simp)
                      · rw [if_neg c33] at H
                        have c33b0 : ((bt t194 x6_2) == 105) = false := beq_eq_false_iff_ne.mpr c33
                        have c33b1 : ((bt t194 x6_2) != 105) = true := bne_iff_ne.mpr c33
                        by_cases c38 : (bt t194 x6_2) = 107
                        · rw [if_pos c38] at H
                          have c38b0 : ((bt t194 x6_2) == 107) = true := beq_iff_eq.mpr c38
                          have c38b1 : ((bt t194 x6_2) != 107) = false := bne_eq_false_iff_eq.mpr c38
                          clear c38
                          by_cases c39 : (x4_2 ++ (⟨#[32]⟩ : ByteArray)).size + 1 ≤ 9223372036854775807
                          · rw [if_pos c39] at H
                            have c39b0 := eq_true c39
                            have c39b1 : decide ((x4_2 ++ (⟨#[32]⟩ : ByteArray)).size + 1 ≤ 9223372036854775807) = true := decide_eq_true c39
                            try have c39b2 : (9223372036854775807 < (x4_2 ++ (⟨#[32]⟩ : ByteArray)).size + 1) = False := eq_false (Nat.not_lt.2 c39)
                            try have c39b9 : (9223372036854775807 < x4_2.size + 1 + 1) = False := eq_false (by have h_ := c39; simp only [ByteArray.size_append] at h_; exact Nat.not_lt.2 h_)
                            replace H := Option.bind_eq_some_iff.mp H
                            obtain ⟨t209, A400, H⟩ := H
                            replace H : (if ((x4_2 ++ (⟨#[32]⟩ : ByteArray)) ++ (⟨#[107]⟩ : ByteArray)).size + t209.size ≤ 9223372036854775807 then (tidelineref21_Print.l0 k2 (((x4_2 ++ (⟨#[32]⟩ : ByteArray)) ++ (⟨#[107]⟩ : ByteArray)) ++ t209) t194 (wrap64 (x6_2 + 1)) a0_0 a0_1 a0_2 a0_3 a0_4 a0_5 a0_6 a0_7 a0_8) else (none)) = some (r1, r2) := H
                            have A40 := Aside0.mk A400
                            clear A400
                            by_cases c41 : ((x4_2 ++ (⟨#[32]⟩ : ByteArray)) ++ (⟨#[107]⟩ : ByteArray)).size + t209.size ≤ 9223372036854775807
                            · rw [if_pos c41] at H
                              have c41b0 := eq_true c41
                              have c41b1 : decide (((x4_2 ++ (⟨#[32]⟩ : ByteArray)) ++ (⟨#[107]⟩ : ByteArray)).size + t209.size ≤ 9223372036854775807) = true := decide_eq_true c41
                              try have c41b2 : (9223372036854775807 < ((x4_2 ++ (⟨#[32]⟩ : ByteArray)) ++ (⟨#[107]⟩ : ByteArray)).size + t209.size) = False := eq_false (Nat.not_lt.2 c41)
                              try have c41b9 : (9223372036854775807 < x4_2.size + 1 + 1 + t209.size) = False := eq_false (by have h_ := c41; simp only [ByteArray.size_append] at h_; exact Nat.not_lt.2 h_)
                              have H' := Aside0.mk H
                              clear H
                              have p22 : 0 ≤ (x6_2 : Int) := of_decide_eq_true (by first | (with_reducible assumption) | assumption)
                              have q22 : x6_2 < (t194.size : Int) := of_decide_eq_true (by first | (with_reducible assumption) | assumption)
                              have hx22 := bt_at t194 x6_2
                              replace p22 := eq_true p22
                              replace q22 := eq_true q22
                              have hcz42_0 : wr.cell? ⟨gb192, 0, none⟩ = some (.int .i64 a0_0) := (blk_cell BK192.out 0).trans rfl
                              have hcz42_1 : wr.cell? ⟨gb192, 1, none⟩ = some (.int .i64 a0_1) := (blk_cell BK192.out 1).trans rfl
                              have hcz42_2 : wr.cell? ⟨gb192, 2, none⟩ = some (.int .i64 a0_2) := (blk_cell BK192.out 2).trans rfl
                              have hcz42_3 : wr.cell? ⟨gb192, 3, none⟩ = some (.int .i64 a0_3) := (blk_cell BK192.out 3).trans rfl
                              have hcz42_4 : wr.cell? ⟨gb192, 4, none⟩ = some (.string a0_4) := (blk_cell BK192.out 4).trans rfl
                              have hcz42_5 : wr.cell? ⟨gb192, 5, none⟩ = some (.string a0_5) := (blk_cell BK192.out 5).trans rfl
                              have hcz42_6 : wr.cell? ⟨gb192, 6, none⟩ = some (.string a0_6) := (blk_cell BK192.out 6).trans rfl
                              have hcz42_7 : wr.cell? ⟨gb192, 7, none⟩ = some (.string a0_7) := (blk_cell BK192.out 7).trans rfl
                              have hcz42_8 : wr.cell? ⟨gb192, 8, none⟩ = some (.bool a0_8) := (blk_cell BK192.out 8).trans rfl
                              have hfz42_0 := blk_frozen BK192.out 0
                              have hfz42_1 := blk_frozen BK192.out 1
                              have hfz42_2 := blk_frozen BK192.out 2
                              have hfz42_3 := blk_frozen BK192.out 3
                              have hfz42_4 := blk_frozen BK192.out 4
                              have hfz42_5 := blk_frozen BK192.out 5
                              have hfz42_6 := blk_frozen BK192.out 6
                              have hfz42_7 := blk_frozen BK192.out 7
                              have hfz42_8 := blk_frozen BK192.out 8
                              go_wp2_with (first | ((with_reducible refine gate_callee (f := 17) rfl ?_); refine goesL_ (some 95) rfl rfl Tryz.func17 (by kernel_rfl) rfl #[.string a0_4] rfl (by (try simp only [List.map_toArray, List.map_cons, List.map_nil]); first | done | rfl | (simp only [List.length_drop, List.length_take]; rfl)) ?_; (with_reducible refine (tidelineref01_Hex.calls k2 a0_4 t209 _ A40.out).mono ?_); rintro e w43 ⟨rfl, hb⟩; refine ⟨_, rfl, ?_⟩; have n0_ := Aside0.mk (blk_below (g := gb192) (o := .cells #[.int .i64 a0_0, .int .i64 a0_1, .int .i64 a0_2, .int .i64 a0_3, .string a0_4, .string a0_5, .string a0_6, .string a0_7, .bool a0_8] 25 (0, 0)) (by (with_reducible repeat (first | refine blk_drewN ?_ _ | refine blk_drew ?_ | refine blk_alloc ?_ _)); exact BK192.out) hb); have n1_ := Aside0.mk (below_step (by repeat (first | (with_reducible first | exact HB.out | apply below_alloc | apply pw_below_drewN | apply below_drew1 | refine below_set ?_ GE192.out) | exact HB.out)) hb); clear BK192; clear HB; have BK192 := n0_; have HB := n1_; clear n0_ n1_; (try clear hb); (try clear hb2); (try clear hk); (try clear hi)))
                              go_roundg k2
                              case measure => have := HJ2.out; have := HK2.out; omega
                              case rel => exact ⟨(((x4_2 ++ (⟨#[32]⟩ : ByteArray)) ++ (⟨#[107]⟩ : ByteArray)) ++ t209), (wrap64 (x6_2 + 1)), (by first | rfl | (simp; done) | (simp [*]; done) | (simp [*, Go.Proofs.YtodmbjbfigifnaaGreatDoor.Str.bne_nil]; done)), (by first | rfl | (simp; done) | (simp [*]; done) | (simp [*, Go.Proofs.YtodmbjbfigifnaaGreatDoor.Str.bne_nil]; done)), H', ⟨by have := HJ2.out; have := HK2.out; omega⟩, ⟨by (with_reducible repeat (first | refine blk_drewN ?_ _ | refine blk_drew ?_ | refine blk_alloc ?_ _)); exact BK192.out⟩, ⟨by repeat (first | (with_reducible first | exact HB.out | apply below_alloc | apply pw_below_drewN | apply below_drew1 | refine below_set ?_ GE192.out) | exact HB.out)⟩⟩
                            · rw [if_neg c41] at H
                              exact absurd H (by simp)
                          · rw [if_neg c39] at H
                            exact absurd H (by simp)
                        · rw [if_neg c38] at H
                          have c38b0 : ((bt t194 x6_2) == 107) = false := beq_eq_false_iff_ne.mpr c38
                          have c38b1 : ((bt t194 x6_2) != 107) = true := bne_iff_ne.mpr c38
                          by_cases c44 : (bt t194 x6_2) = 118
                          · rw [if_pos c44] at H
                            have c44b0 : ((bt t194 x6_2) == 118) = true := beq_iff_eq.mpr c44
                            have c44b1 : ((bt t194 x6_2) != 118) = false := bne_eq_false_iff_eq.mpr c44
                            clear c44
                            by_cases c45 : (x4_2 ++ (⟨#[32]⟩ : ByteArray)).size + 1 ≤ 9223372036854775807
                            · rw [if_pos c45] at H
                              have c45b0 := eq_true c45
                              have c45b1 : decide ((x4_2 ++ (⟨#[32]⟩ : ByteArray)).size + 1 ≤ 9223372036854775807) = true := decide_eq_true c45
                              try have c45b2 : (9223372036854775807 < (x4_2 ++ (⟨#[32]⟩ : ByteArray)).size + 1) = False := eq_false (Nat.not_lt.2 c45)
                              try have c45b9 : (9223372036854775807 < x4_2.size + 1 + 1) = False := eq_false (by have h_ := c45; simp only [ByteArray.size_append] at h_; exact Nat.not_lt.2 h_)
                              replace H := Option.bind_eq_some_iff.mp H
                              obtain ⟨t210, A460, H⟩ := H
                              replace H : (if ((x4_2 ++ (⟨#[32]⟩ : ByteArray)) ++ (⟨#[61]⟩ : ByteArray)).size + t210.size ≤ 9223372036854775807 then (tidelineref21_Print.l0 k2 (((x4_2 ++ (⟨#[32]⟩ : ByteArray)) ++ (⟨#[61]⟩ : ByteArray)) ++ t210) t194 (wrap64 (x6_2 + 1)) a0_0 a0_1 a0_2 a0_3 a0_4 a0_5 a0_6 a0_7 a0_8) else (none)) = some (r1, r2) := H
                              have A46 := Aside0.mk A460
                              clear A460
                              by_cases c47 : ((x4_2 ++ (⟨#[32]⟩ : ByteArray)) ++ (⟨#[61]⟩ : ByteArray)).size + t210.size ≤ 9223372036854775807
                              · rw [if_pos c47] at H
                                have c47b0 := eq_true c47
                                have c47b1 : decide (((x4_2 ++ (⟨#[32]⟩ : ByteArray)) ++ (⟨#[61]⟩ : ByteArray)).size + t210.size ≤ 9223372036854775807) = true := decide_eq_true c47
                                try have c47b2 : (9223372036854775807 < ((x4_2 ++ (⟨#[32]⟩ : ByteArray)) ++ (⟨#[61]⟩ : ByteArray)).size + t210.size) = False := eq_false (Nat.not_lt.2 c47)
                                try have c47b9 : (9223372036854775807 < x4_2.size + 1 + 1 + t210.size) = False := eq_false (by have h_ := c47; simp only [ByteArray.size_append] at h_; exact Nat.not_lt.2 h_)
                                have H' := Aside0.mk H
                                clear H
                                have p22 : 0 ≤ (x6_2 : Int) := of_decide_eq_true (by first | (with_reducible assumption) | assumption)
                                have q22 : x6_2 < (t194.size : Int) := of_decide_eq_true (by first | (with_reducible assumption) | assumption)
                                have hx22 := bt_at t194 x6_2
                                replace p22 := eq_true p22
                                replace q22 := eq_true q22
                                have hcz48_0 : wr.cell? ⟨gb192, 0, none⟩ = some (.int .i64 a0_0) := (blk_cell BK192.out 0).trans rfl
                                have hcz48_1 : wr.cell? ⟨gb192, 1, none⟩ = some (.int .i64 a0_1) := (blk_cell BK192.out 1).trans rfl
                                have hcz48_2 : wr.cell? ⟨gb192, 2, none⟩ = some (.int .i64 a0_2) := (blk_cell BK192.out 2).trans rfl
                                have hcz48_3 : wr.cell? ⟨gb192, 3, none⟩ = some (.int .i64 a0_3) := (blk_cell BK192.out 3).trans rfl
                                have hcz48_4 : wr.cell? ⟨gb192, 4, none⟩ = some (.string a0_4) := (blk_cell BK192.out 4).trans rfl
                                have hcz48_5 : wr.cell? ⟨gb192, 5, none⟩ = some (.string a0_5) := (blk_cell BK192.out 5).trans rfl
                                have hcz48_6 : wr.cell? ⟨gb192, 6, none⟩ = some (.string a0_6) := (blk_cell BK192.out 6).trans rfl
                                have hcz48_7 : wr.cell? ⟨gb192, 7, none⟩ = some (.string a0_7) := (blk_cell BK192.out 7).trans rfl
                                have hcz48_8 : wr.cell? ⟨gb192, 8, none⟩ = some (.bool a0_8) := (blk_cell BK192.out 8).trans rfl
                                have hfz48_0 := blk_frozen BK192.out 0
                                have hfz48_1 := blk_frozen BK192.out 1
                                have hfz48_2 := blk_frozen BK192.out 2
                                have hfz48_3 := blk_frozen BK192.out 3
                                have hfz48_4 := blk_frozen BK192.out 4
                                have hfz48_5 := blk_frozen BK192.out 5
                                have hfz48_6 := blk_frozen BK192.out 6
                                have hfz48_7 := blk_frozen BK192.out 7
                                have hfz48_8 := blk_frozen BK192.out 8
                                go_wp2_with (first | ((with_reducible refine gate_callee (f := 17) rfl ?_); refine goesL_ (some 103) rfl rfl Tryz.func17 (by kernel_rfl) rfl #[.string a0_5] rfl (by (try simp only [List.map_toArray, List.map_cons, List.map_nil]); first | done | rfl | (simp only [List.length_drop, List.length_take]; rfl)) ?_; (with_reducible refine (tidelineref01_Hex.calls k2 a0_5 t210 _ A46.out).mono ?_); rintro e w49 ⟨rfl, hb⟩; refine ⟨_, rfl, ?_⟩; have n0_ := Aside0.mk (blk_below (g := gb192) (o := .cells #[.int .i64 a0_0, .int .i64 a0_1, .int .i64 a0_2, .int .i64 a0_3, .string a0_4, .string a0_5, .string a0_6, .string a0_7, .bool a0_8] 25 (0, 0)) (by (with_reducible repeat (first | refine blk_drewN ?_ _ | refine blk_drew ?_ | refine blk_alloc ?_ _)); exact BK192.out) hb); have n1_ := Aside0.mk (below_step (by repeat (first | (with_reducible first | exact HB.out | apply below_alloc | apply pw_below_drewN | apply below_drew1 | refine below_set ?_ GE192.out) | exact HB.out)) hb); clear BK192; clear HB; have BK192 := n0_; have HB := n1_; clear n0_ n1_; (try clear hb); (try clear hb2); (try clear hk); (try clear hi)))
                                go_roundg k2
                                case measure => have := HJ2.out; have := HK2.out; omega
                                case rel => exact ⟨(((x4_2 ++ (⟨#[32]⟩ : ByteArray)) ++ (⟨#[61]⟩ : ByteArray)) ++ t210), (wrap64 (x6_2 + 1)), (by first | rfl | (simp; done) | (simp [*]; done) | (simp [*, Go.Proofs.YtodmbjbfigifnaaGreatDoor.Str.bne_nil]; done)), (by first | rfl | (simp; done) | (simp [*]; done) | (simp [*, Go.Proofs.YtodmbjbfigifnaaGreatDoor.Str.bne_nil]; done)), H', ⟨by have := HJ2.out; have := HK2.out; omega⟩, ⟨by (with_reducible repeat (first | refine blk_drewN ?_ _ | refine blk_drew ?_ | refine blk_alloc ?_ _)); exact BK192.out⟩, ⟨by repeat (first | (with_reducible first | exact HB.out | apply below_alloc | apply pw_below_drewN | apply below_drew1 | refine below_set ?_ GE192.out) | exact HB.out)⟩⟩
                              · rw [if_neg c47] at H
                                exact absurd H (by simp)
                            · rw [if_neg c45] at H
                              exact absurd H (by simp)
                          · rw [if_neg c44] at H
                            have c44b0 : ((bt t194 x6_2) == 118) = false := beq_eq_false_iff_ne.mpr c44
                            have c44b1 : ((bt t194 x6_2) != 118) = true := bne_iff_ne.mpr c44
                            replace H := Option.bind_eq_some_iff.mp H
                            obtain ⟨⟨t211, t212⟩, A500, H⟩ := H
                            replace H : (if t212 = 0 then (if (x4_2 ++ (⟨#[32]⟩ : ByteArray)).size + t211.size ≤ 9223372036854775807 then (tidelineref21_Print.l0 k2 ((x4_2 ++ (⟨#[32]⟩ : ByteArray)) ++ t211) t194 (wrap64 (x6_2 + 1)) a0_0 a0_1 a0_2 a0_3 a0_4 a0_5 a0_6 a0_7 a0_8) else (none)) else (some ((⟨#[]⟩ : ByteArray), 210))) = some (r1, r2) := H
                            have A50 := Aside0.mk A500
                            clear A500
                            by_cases c51 : t212 = 0
                            · rw [if_pos c51] at H
                              have c51b0 : (t212 == 0) = true := beq_iff_eq.mpr c51
                              have c51b1 : (t212 != 0) = false := bne_eq_false_iff_eq.mpr c51
                              clear c51
                              by_cases c52 : (x4_2 ++ (⟨#[32]⟩ : ByteArray)).size + t211.size ≤ 9223372036854775807
                              · rw [if_pos c52] at H
                                have c52b0 := eq_true c52
                                have c52b1 : decide ((x4_2 ++ (⟨#[32]⟩ : ByteArray)).size + t211.size ≤ 9223372036854775807) = true := decide_eq_true c52
                                try have c52b2 : (9223372036854775807 < (x4_2 ++ (⟨#[32]⟩ : ByteArray)).size + t211.size) = False := eq_false (Nat.not_lt.2 c52)
                                try have c52b9 : (9223372036854775807 < x4_2.size + 1 + t211.size) = False := eq_false (by have h_ := c52; simp only [ByteArray.size_append] at h_; exact Nat.not_lt.2 h_)
                                have H' := Aside0.mk H
                                clear H
                                have p22 : 0 ≤ (x6_2 : Int) := of_decide_eq_true (by first | (with_reducible assumption) | assumption)
                                have q22 : x6_2 < (t194.size : Int) := of_decide_eq_true (by first | (with_reducible assumption) | assumption)
                                have hx22 := bt_at t194 x6_2
                                replace p22 := eq_true p22
                                replace q22 := eq_true q22
                                have hcz53_0 : wr.cell? ⟨gb192, 0, none⟩ = some (.int .i64 a0_0) := (blk_cell BK192.out 0).trans rfl
                                have hcz53_1 : wr.cell? ⟨gb192, 1, none⟩ = some (.int .i64 a0_1) := (blk_cell BK192.out 1).trans rfl
                                have hcz53_2 : wr.cell? ⟨gb192, 2, none⟩ = some (.int .i64 a0_2) := (blk_cell BK192.out 2).trans rfl
                                have hcz53_3 : wr.cell? ⟨gb192, 3, none⟩ = some (.int .i64 a0_3) := (blk_cell BK192.out 3).trans rfl
                                have hcz53_4 : wr.cell? ⟨gb192, 4, none⟩ = some (.string a0_4) := (blk_cell BK192.out 4).trans rfl
                                have hcz53_5 : wr.cell? ⟨gb192, 5, none⟩ = some (.string a0_5) := (blk_cell BK192.out 5).trans rfl
                                have hcz53_6 : wr.cell? ⟨gb192, 6, none⟩ = some (.string a0_6) := (blk_cell BK192.out 6).trans rfl
                                have hcz53_7 : wr.cell? ⟨gb192, 7, none⟩ = some (.string a0_7) := (blk_cell BK192.out 7).trans rfl
                                have hcz53_8 : wr.cell? ⟨gb192, 8, none⟩ = some (.bool a0_8) := (blk_cell BK192.out 8).trans rfl
                                have hfz53_0 := blk_frozen BK192.out 0
                                have hfz53_1 := blk_frozen BK192.out 1
                                have hfz53_2 := blk_frozen BK192.out 2
                                have hfz53_3 := blk_frozen BK192.out 3
                                have hfz53_4 := blk_frozen BK192.out 4
                                have hfz53_5 := blk_frozen BK192.out 5
                                have hfz53_6 := blk_frozen BK192.out 6
                                have hfz53_7 := blk_frozen BK192.out 7
                                have hfz53_8 := blk_frozen BK192.out 8
                                go_wp2_with (first | ((with_reducible refine gate_callee (f := 18) rfl ?_); refine goesL_ (some 60) rfl rfl Tryz.func18 (by kernel_rfl) rfl #[.agg #[.string a0_6, .string a0_7, .bool a0_8]] rfl (by (try simp only [List.map_toArray, List.map_cons, List.map_nil]); first | done | rfl | (simp only [List.length_drop, List.length_take]; rfl)) ?_; (with_reducible refine (tidelineref02_Print.calls k2 a0_6 a0_7 a0_8 t211 t212 _ A50.out).mono ?_); rintro e w54 ⟨rfl, hb⟩; refine ⟨_, rfl, ?_⟩; have n0_ := Aside0.mk (blk_below (g := gb192) (o := .cells #[.int .i64 a0_0, .int .i64 a0_1, .int .i64 a0_2, .int .i64 a0_3, .string a0_4, .string a0_5, .string a0_6, .string a0_7, .bool a0_8] 25 (0, 0)) (by (with_reducible repeat (first | refine blk_drewN ?_ _ | refine blk_drew ?_ | refine blk_alloc ?_ _)); exact BK192.out) hb); have n1_ := Aside0.mk (below_step (by repeat (first | (with_reducible first | exact HB.out | apply below_alloc | apply pw_below_drewN | apply below_drew1 | refine below_set ?_ GE192.out) | exact HB.out)) hb); clear BK192; clear HB; have BK192 := n0_; have HB := n1_; clear n0_ n1_; (try clear hb); (try clear hb2); (try clear hk); (try clear hi)))
                                go_roundg k2
                                case measure => have := HJ2.out; have := HK2.out; omega
                                case rel => exact ⟨((x4_2 ++ (⟨#[32]⟩ : ByteArray)) ++ t211), (wrap64 (x6_2 + 1)), (by first | rfl | (simp; done) | (simp [*]; done) | (simp [*, Go.Proofs.YtodmbjbfigifnaaGreatDoor.Str.bne_nil]; done)), (by first | rfl | (simp; done) | (simp [*]; done) | (simp [*, Go.Proofs.YtodmbjbfigifnaaGreatDoor.Str.bne_nil]; done)), H', ⟨by have := HJ2.out; have := HK2.out; omega⟩, ⟨by (with_reducible repeat (first | refine blk_drewN ?_ _ | refine blk_drew ?_ | refine blk_alloc ?_ _)); exact BK192.out⟩, ⟨by repeat (first | (with_reducible first | exact HB.out | apply below_alloc | apply pw_below_drewN | apply below_drew1 | refine below_set ?_ GE192.out) | exact HB.out)⟩⟩
                              · rw [if_neg c52] at H
                                exact absurd H (by simp)
                            · rw [if_neg c51] at H
                              have c51b0 : (t212 == 0) = false := beq_eq_false_iff_ne.mpr c51
                              have c51b1 : (t212 != 0) = true := bne_iff_ne.mpr c51
                              simp only [Option.some.injEq, Prod.mk.injEq] at H
                              obtain ⟨rfl, rfl⟩ := H
                              have p22 : 0 ≤ (x6_2 : Int) := of_decide_eq_true (by first | (with_reducible assumption) | assumption)
                              have q22 : x6_2 < (t194.size : Int) := of_decide_eq_true (by first | (with_reducible assumption) | assumption)
                              have hx22 := bt_at t194 x6_2
                              replace p22 := eq_true p22
                              replace q22 := eq_true q22
                              have hcz55_0 : wr.cell? ⟨gb192, 0, none⟩ = some (.int .i64 a0_0) := (blk_cell BK192.out 0).trans rfl
                              have hcz55_1 : wr.cell? ⟨gb192, 1, none⟩ = some (.int .i64 a0_1) := (blk_cell BK192.out 1).trans rfl
                              have hcz55_2 : wr.cell? ⟨gb192, 2, none⟩ = some (.int .i64 a0_2) := (blk_cell BK192.out 2).trans rfl
                              have hcz55_3 : wr.cell? ⟨gb192, 3, none⟩ = some (.int .i64 a0_3) := (blk_cell BK192.out 3).trans rfl
                              have hcz55_4 : wr.cell? ⟨gb192, 4, none⟩ = some (.string a0_4) := (blk_cell BK192.out 4).trans rfl
                              have hcz55_5 : wr.cell? ⟨gb192, 5, none⟩ = some (.string a0_5) := (blk_cell BK192.out 5).trans rfl
                              have hcz55_6 : wr.cell? ⟨gb192, 6, none⟩ = some (.string a0_6) := (blk_cell BK192.out 6).trans rfl
                              have hcz55_7 : wr.cell? ⟨gb192, 7, none⟩ = some (.string a0_7) := (blk_cell BK192.out 7).trans rfl
                              have hcz55_8 : wr.cell? ⟨gb192, 8, none⟩ = some (.bool a0_8) := (blk_cell BK192.out 8).trans rfl
                              have hfz55_0 := blk_frozen BK192.out 0
                              have hfz55_1 := blk_frozen BK192.out 1
                              have hfz55_2 := blk_frozen BK192.out 2
                              have hfz55_3 := blk_frozen BK192.out 3
                              have hfz55_4 := blk_frozen BK192.out 4
                              have hfz55_5 := blk_frozen BK192.out 5
                              have hfz55_6 := blk_frozen BK192.out 6
                              have hfz55_7 := blk_frozen BK192.out 7
                              have hfz55_8 := blk_frozen BK192.out 8
                              go_wp2_with (first | ((with_reducible refine gate_callee (f := 18) rfl ?_); refine goesL_ (some 60) rfl rfl Tryz.func18 (by kernel_rfl) rfl #[.agg #[.string a0_6, .string a0_7, .bool a0_8]] rfl (by (try simp only [List.map_toArray, List.map_cons, List.map_nil]); first | done | rfl | (simp only [List.length_drop, List.length_take]; rfl)) ?_; (with_reducible refine (tidelineref02_Print.calls k2 a0_6 a0_7 a0_8 t211 t212 _ A50.out).mono ?_); rintro e w56 ⟨rfl, hb⟩; refine ⟨_, rfl, ?_⟩; have n0_ := Aside0.mk (blk_below (g := gb192) (o := .cells #[.int .i64 a0_0, .int .i64 a0_1, .int .i64 a0_2, .int .i64 a0_3, .string a0_4, .string a0_5, .string a0_6, .string a0_7, .bool a0_8] 25 (0, 0)) (by (with_reducible repeat (first | refine blk_drewN ?_ _ | refine blk_drew ?_ | refine blk_alloc ?_ _)); exact BK192.out) hb); have n1_ := Aside0.mk (below_step (by repeat (first | (with_reducible first | exact HB.out | apply below_alloc | apply pw_below_drewN | apply below_drew1 | refine below_set ?_ GE192.out) | exact HB.out)) hb); clear BK192; clear HB; have BK192 := n0_; have HB := n1_; clear n0_ n1_; (try clear hb); (try clear hb2); (try clear hk); (try clear hi)))
                              go_ret2
                              exact ⟨by first | rfl | (simp [errW_none, errW_some] <;> rfl) | (simp [*, errW_none, errW_some] <;> rfl), by repeat (first | (with_reducible first | exact HB.out | apply below_alloc | apply pw_below_drewN | apply below_drew1 | refine below_set ?_ GE192.out) | exact HB.out)⟩
                · rw [if_neg c21] at H
                  exact absurd H (by simp)
              · rw [if_neg c20] at H
                exact absurd H (by simp)
            · rw [if_neg c19] at H
              have c19b0 : decide (x6_2 < (t194.size : Int)) = false := decide_eq_false c19
              clear c19
              replace H := Option.bind_eq_some_iff.mp H
              obtain ⟨⟨t195, t196, t197, t198, t199, t200, t201, t202, t203, t204⟩, A570, H⟩ := H
              replace H : (if t204 = 0 then (if (!(t195 == a0_0) || (!(t196 == a0_1) || (!(t197 == a0_2) || (!(t198 == a0_3) || (!(t199.toList == a0_4.toList) || (!(t200.toList == a0_5.toList) || ((!(t201.toList == a0_6.toList) || (!(t202.toList == a0_7.toList) || (!(t203 == a0_8))))))))))) = true then (some ((⟨#[]⟩ : ByteArray), 210)) else (some (x4_2, 0))) else (some ((⟨#[]⟩ : ByteArray), 210))) = some (r1, r2) := H
              have A57 := Aside0.mk A570
              clear A570
              by_cases c58 : t204 = 0
              · rw [if_pos c58] at H
                have c58b0 : (t204 == 0) = true := beq_iff_eq.mpr c58
                have c58b1 : (t204 != 0) = false := bne_eq_false_iff_eq.mpr c58
                clear c58
                by_cases c59 : (!(t195 == a0_0) || (!(t196 == a0_1) || (!(t197 == a0_2) || (!(t198 == a0_3) || (!(t199.toList == a0_4.toList) || (!(t200.toList == a0_5.toList) || ((!(t201.toList == a0_6.toList) || (!(t202.toList == a0_7.toList) || (!(t203 == a0_8))))))))))) = true
                · rw [if_pos c59] at H
                  have c59b0 : (!(t195 == a0_0) || (!(t196 == a0_1) || (!(t197 == a0_2) || (!(t198 == a0_3) || (!(t199.toList == a0_4.toList) || (!(t200.toList == a0_5.toList) || ((!(t201.toList == a0_6.toList) || (!(t202.toList == a0_7.toList) || (!(t203 == a0_8))))))))))) = true := c59
                  clear c59
                  simp only [Option.some.injEq, Prod.mk.injEq] at H
                  obtain ⟨rfl, rfl⟩ := H
                  go_wp2_with (first | ((with_reducible refine gate_callee (f := 19) rfl ?_); refine goesL_ (some 107) rfl rfl Tryz.func19 (by kernel_rfl) rfl #[.string x4_2] rfl (by (try simp only [List.map_toArray, List.map_cons, List.map_nil]); first | done | rfl | (simp only [List.length_drop, List.length_take]; rfl)) ?_; (with_reducible refine (tidelineref21_Parse.calls x4_2 t195 t196 t197 t198 t199 t200 t201 t202 t203 t204 _ A57.out).mono ?_); rintro e w60 ⟨rfl, hb⟩; refine ⟨_, rfl, ?_⟩; have n0_ := Aside0.mk (blk_below (g := gb192) (o := .cells #[.int .i64 a0_0, .int .i64 a0_1, .int .i64 a0_2, .int .i64 a0_3, .string a0_4, .string a0_5, .string a0_6, .string a0_7, .bool a0_8] 25 (0, 0)) (by (with_reducible repeat (first | refine blk_drewN ?_ _ | refine blk_drew ?_ | refine blk_alloc ?_ _)); exact BK192.out) hb); have n1_ := Aside0.mk (below_step (by repeat (first | (with_reducible first | exact HB.out | apply below_alloc | apply pw_below_drewN | apply below_drew1 | refine below_set ?_ GE192.out) | exact HB.out)) hb); clear BK192; clear HB; have BK192 := n0_; have HB := n1_; clear n0_ n1_; (try clear hb); (try clear hb2); (try clear hk); (try clear hi)) | ((with_reducible refine gate_dst (N := 9) rfl ?_); (try (refine gate_guard (by rfl) ?_; dsimp only)); refine box_event ?hg (N := 9) ?hd (cs := #[.int .i64 0, .int .i64 0, .int .i64 0, .int .i64 0, .string (⟨#[]⟩ : ByteArray), .string (⟨#[]⟩ : ByteArray), .string (⟨#[]⟩ : ByteArray), .string (⟨#[]⟩ : ByteArray), .bool false]) (t := 25) ?hr ?_; (case hd => rfl); (case hg => rfl); (case hr => first | (go_simp; done) | (go_simp; rfl)); intro gb205 hg w61 hbox hb; have n0_ := Aside0.mk (blk_below (g := gb192) (o := .cells #[.int .i64 a0_0, .int .i64 a0_1, .int .i64 a0_2, .int .i64 a0_3, .string a0_4, .string a0_5, .string a0_6, .string a0_7, .bool a0_8] 25 (0, 0)) (by (with_reducible repeat (first | refine blk_drewN ?_ _ | refine blk_drew ?_ | refine blk_alloc ?_ _)); exact BK192.out) hb); have n1_ := Aside0.mk (below_step (by repeat (first | (with_reducible first | exact HB.out | apply below_alloc | apply pw_below_drewN | apply below_drew1 | refine below_set ?_ GE192.out) | exact HB.out)) hb); have n2_ := Aside0.mk (hbox); have n3_ := Aside0.mk ((by rw [hg]; exact (below_size (by repeat (first | (with_reducible first | exact HB.out | apply below_alloc | apply pw_below_drewN | apply below_drew1 | refine below_set ?_ GE192.out) | exact HB.out))) : w.heap.size ≤ gb205)); have n4_ := Aside0.mk ((by rw [hg]; exact (below_size (by repeat (first | (with_reducible first | exact HB.out | apply below_alloc | apply pw_below_drewN | apply below_drew1 | refine below_set ?_ GE192.out) | exact HB.out))) : w.heap.size ≤ gb205)); have n5_ := Aside0.mk ((by rw [hg]; exact Nat.ne_of_lt (blk_lt (g := gb192) (o := .cells #[.int .i64 a0_0, .int .i64 a0_1, .int .i64 a0_2, .int .i64 a0_3, .string a0_4, .string a0_5, .string a0_6, .string a0_7, .bool a0_8] 25 (0, 0)) (by (with_reducible repeat (first | refine blk_drewN ?_ _ | refine blk_drew ?_ | refine blk_alloc ?_ _)); exact BK192.out)) : gb192 ≠ gb205)); have n6_ := Aside0.mk ((by rw [hg]; exact Nat.ne_of_gt (blk_lt (g := gb192) (o := .cells #[.int .i64 a0_0, .int .i64 a0_1, .int .i64 a0_2, .int .i64 a0_3, .string a0_4, .string a0_5, .string a0_6, .string a0_7, .bool a0_8] 25 (0, 0)) (by (with_reducible repeat (first | refine blk_drewN ?_ _ | refine blk_drew ?_ | refine blk_alloc ?_ _)); exact BK192.out)) : gb205 ≠ gb192)); clear BK192; clear HB; have BK192 := n0_; have HB := n1_; have BK205 := n2_; have GW205 := n3_; have GE205 := n4_; have NB192_205 := n5_; have NB205_192 := n6_; clear n0_ n1_ n2_ n3_ n4_ n5_ n6_; clear hb hbox hg; have hnb62 := NB205_192.out; have hnc62 := NB192_205.out; have hcz63_0 : w61.cell? ⟨gb205, 0, none⟩ = some (.int .i64 0) := (blk_cell BK205.out 0).trans rfl; have hcz63_1 : w61.cell? ⟨gb205, 1, none⟩ = some (.int .i64 0) := (blk_cell BK205.out 1).trans rfl; have hcz63_2 : w61.cell? ⟨gb205, 2, none⟩ = some (.int .i64 0) := (blk_cell BK205.out 2).trans rfl; have hcz63_3 : w61.cell? ⟨gb205, 3, none⟩ = some (.int .i64 0) := (blk_cell BK205.out 3).trans rfl; have hcz63_4 : w61.cell? ⟨gb205, 4, none⟩ = some (.string (⟨#[]⟩ : ByteArray)) := (blk_cell BK205.out 4).trans rfl; have hcz63_5 : w61.cell? ⟨gb205, 5, none⟩ = some (.string (⟨#[]⟩ : ByteArray)) := (blk_cell BK205.out 5).trans rfl; have hcz63_6 : w61.cell? ⟨gb205, 6, none⟩ = some (.string (⟨#[]⟩ : ByteArray)) := (blk_cell BK205.out 6).trans rfl; have hcz63_7 : w61.cell? ⟨gb205, 7, none⟩ = some (.string (⟨#[]⟩ : ByteArray)) := (blk_cell BK205.out 7).trans rfl; have hcz63_8 : w61.cell? ⟨gb205, 8, none⟩ = some (.bool false) := (blk_cell BK205.out 8).trans rfl; have hfz63_0 := blk_frozen BK205.out 0; have hfz63_1 := blk_frozen BK205.out 1; have hfz63_2 := blk_frozen BK205.out 2; have hfz63_3 := blk_frozen BK205.out 3; have hfz63_4 := blk_frozen BK205.out 4; have hfz63_5 := blk_frozen BK205.out 5; have hfz63_6 := blk_frozen BK205.out 6; have hfz63_7 := blk_frozen BK205.out 7; have hfz63_8 := blk_frozen BK205.out 8; have hcz64_0 : w61.cell? ⟨gb192, 0, none⟩ = some (.int .i64 a0_0) := (blk_cell BK192.out 0).trans rfl; have hcz64_1 : w61.cell? ⟨gb192, 1, none⟩ = some (.int .i64 a0_1) := (blk_cell BK192.out 1).trans rfl; have hcz64_2 : w61.cell? ⟨gb192, 2, none⟩ = some (.int .i64 a0_2) := (blk_cell BK192.out 2).trans rfl; have hcz64_3 : w61.cell? ⟨gb192, 3, none⟩ = some (.int .i64 a0_3) := (blk_cell BK192.out 3).trans rfl; have hcz64_4 : w61.cell? ⟨gb192, 4, none⟩ = some (.string a0_4) := (blk_cell BK192.out 4).trans rfl; have hcz64_5 : w61.cell? ⟨gb192, 5, none⟩ = some (.string a0_5) := (blk_cell BK192.out 5).trans rfl; have hcz64_6 : w61.cell? ⟨gb192, 6, none⟩ = some (.string a0_6) := (blk_cell BK192.out 6).trans rfl; have hcz64_7 : w61.cell? ⟨gb192, 7, none⟩ = some (.string a0_7) := (blk_cell BK192.out 7).trans rfl; have hcz64_8 : w61.cell? ⟨gb192, 8, none⟩ = some (.bool a0_8) := (blk_cell BK192.out 8).trans rfl; have hfz64_0 := blk_frozen BK192.out 0; have hfz64_1 := blk_frozen BK192.out 1; have hfz64_2 := blk_frozen BK192.out 2; have hfz64_3 := blk_frozen BK192.out 3; have hfz64_4 := blk_frozen BK192.out 4; have hfz64_5 := blk_frozen BK192.out 5; have hfz64_6 := blk_frozen BK192.out 6; have hfz64_7 := blk_frozen BK192.out 7; have hfz64_8 := blk_frozen BK192.out 8))
                  go_ret2
                  exact ⟨by first | rfl | (simp [errW_none, errW_some] <;> rfl) | (simp [*, errW_none, errW_some] <;> rfl), by repeat (first | (with_reducible first | exact HB.out | apply below_alloc | apply pw_below_drewN | apply below_drew1 | refine below_set ?_ GE192.out | refine below_set ?_ GE205.out) | exact HB.out)⟩
                · rw [if_neg c59] at H
                  have c59b0 : (!(t195 == a0_0) || (!(t196 == a0_1) || (!(t197 == a0_2) || (!(t198 == a0_3) || (!(t199.toList == a0_4.toList) || (!(t200.toList == a0_5.toList) || ((!(t201.toList == a0_6.toList) || (!(t202.toList == a0_7.toList) || (!(t203 == a0_8))))))))))) = false := by simpa using c59
                  clear c59
                  simp only [Option.some.injEq, Prod.mk.injEq] at H
                  obtain ⟨rfl, rfl⟩ := H
                  go_wp2_with (first | ((with_reducible refine gate_callee (f := 19) rfl ?_); refine goesL_ (some 107) rfl rfl Tryz.func19 (by kernel_rfl) rfl #[.string x4_2] rfl (by (try simp only [List.map_toArray, List.map_cons, List.map_nil]); first | done | rfl | (simp only [List.length_drop, List.length_take]; rfl)) ?_; (with_reducible refine (tidelineref21_Parse.calls x4_2 t195 t196 t197 t198 t199 t200 t201 t202 t203 t204 _ A57.out).mono ?_); rintro e w65 ⟨rfl, hb⟩; refine ⟨_, rfl, ?_⟩; have n0_ := Aside0.mk (blk_below (g := gb192) (o := .cells #[.int .i64 a0_0, .int .i64 a0_1, .int .i64 a0_2, .int .i64 a0_3, .string a0_4, .string a0_5, .string a0_6, .string a0_7, .bool a0_8] 25 (0, 0)) (by (with_reducible repeat (first | refine blk_drewN ?_ _ | refine blk_drew ?_ | refine blk_alloc ?_ _)); exact BK192.out) hb); have n1_ := Aside0.mk (below_step (by repeat (first | (with_reducible first | exact HB.out | apply below_alloc | apply pw_below_drewN | apply below_drew1 | refine below_set ?_ GE192.out) | exact HB.out)) hb); clear BK192; clear HB; have BK192 := n0_; have HB := n1_; clear n0_ n1_; (try clear hb); (try clear hb2); (try clear hk); (try clear hi)) | ((with_reducible refine gate_dst (N := 9) rfl ?_); (try (refine gate_guard (by rfl) ?_; dsimp only)); refine box_event ?hg (N := 9) ?hd (cs := #[.int .i64 0, .int .i64 0, .int .i64 0, .int .i64 0, .string (⟨#[]⟩ : ByteArray), .string (⟨#[]⟩ : ByteArray), .string (⟨#[]⟩ : ByteArray), .string (⟨#[]⟩ : ByteArray), .bool false]) (t := 25) ?hr ?_; (case hd => rfl); (case hg => rfl); (case hr => first | (go_simp; done) | (go_simp; rfl)); intro gb205 hg w66 hbox hb; have n0_ := Aside0.mk (blk_below (g := gb192) (o := .cells #[.int .i64 a0_0, .int .i64 a0_1, .int .i64 a0_2, .int .i64 a0_3, .string a0_4, .string a0_5, .string a0_6, .string a0_7, .bool a0_8] 25 (0, 0)) (by (with_reducible repeat (first | refine blk_drewN ?_ _ | refine blk_drew ?_ | refine blk_alloc ?_ _)); exact BK192.out) hb); have n1_ := Aside0.mk (below_step (by repeat (first | (with_reducible first | exact HB.out | apply below_alloc | apply pw_below_drewN | apply below_drew1 | refine below_set ?_ GE192.out) | exact HB.out)) hb); have n2_ := Aside0.mk (hbox); have n3_ := Aside0.mk ((by rw [hg]; exact (below_size (by repeat (first | (with_reducible first | exact HB.out | apply below_alloc | apply pw_below_drewN | apply below_drew1 | refine below_set ?_ GE192.out) | exact HB.out))) : w.heap.size ≤ gb205)); have n4_ := Aside0.mk ((by rw [hg]; exact (below_size (by repeat (first | (with_reducible first | exact HB.out | apply below_alloc | apply pw_below_drewN | apply below_drew1 | refine below_set ?_ GE192.out) | exact HB.out))) : w.heap.size ≤ gb205)); have n5_ := Aside0.mk ((by rw [hg]; exact Nat.ne_of_lt (blk_lt (g := gb192) (o := .cells #[.int .i64 a0_0, .int .i64 a0_1, .int .i64 a0_2, .int .i64 a0_3, .string a0_4, .string a0_5, .string a0_6, .string a0_7, .bool a0_8] 25 (0, 0)) (by (with_reducible repeat (first | refine blk_drewN ?_ _ | refine blk_drew ?_ | refine blk_alloc ?_ _)); exact BK192.out)) : gb192 ≠ gb205)); have n6_ := Aside0.mk ((by rw [hg]; exact Nat.ne_of_gt (blk_lt (g := gb192) (o := .cells #[.int .i64 a0_0, .int .i64 a0_1, .int .i64 a0_2, .int .i64 a0_3, .string a0_4, .string a0_5, .string a0_6, .string a0_7, .bool a0_8] 25 (0, 0)) (by (with_reducible repeat (first | refine blk_drewN ?_ _ | refine blk_drew ?_ | refine blk_alloc ?_ _)); exact BK192.out)) : gb205 ≠ gb192)); clear BK192; clear HB; have BK192 := n0_; have HB := n1_; have BK205 := n2_; have GW205 := n3_; have GE205 := n4_; have NB192_205 := n5_; have NB205_192 := n6_; clear n0_ n1_ n2_ n3_ n4_ n5_ n6_; clear hb hbox hg; have hnb67 := NB205_192.out; have hnc67 := NB192_205.out; have hcz68_0 : w66.cell? ⟨gb205, 0, none⟩ = some (.int .i64 0) := (blk_cell BK205.out 0).trans rfl; have hcz68_1 : w66.cell? ⟨gb205, 1, none⟩ = some (.int .i64 0) := (blk_cell BK205.out 1).trans rfl; have hcz68_2 : w66.cell? ⟨gb205, 2, none⟩ = some (.int .i64 0) := (blk_cell BK205.out 2).trans rfl; have hcz68_3 : w66.cell? ⟨gb205, 3, none⟩ = some (.int .i64 0) := (blk_cell BK205.out 3).trans rfl; have hcz68_4 : w66.cell? ⟨gb205, 4, none⟩ = some (.string (⟨#[]⟩ : ByteArray)) := (blk_cell BK205.out 4).trans rfl; have hcz68_5 : w66.cell? ⟨gb205, 5, none⟩ = some (.string (⟨#[]⟩ : ByteArray)) := (blk_cell BK205.out 5).trans rfl; have hcz68_6 : w66.cell? ⟨gb205, 6, none⟩ = some (.string (⟨#[]⟩ : ByteArray)) := (blk_cell BK205.out 6).trans rfl; have hcz68_7 : w66.cell? ⟨gb205, 7, none⟩ = some (.string (⟨#[]⟩ : ByteArray)) := (blk_cell BK205.out 7).trans rfl; have hcz68_8 : w66.cell? ⟨gb205, 8, none⟩ = some (.bool false) := (blk_cell BK205.out 8).trans rfl; have hfz68_0 := blk_frozen BK205.out 0; have hfz68_1 := blk_frozen BK205.out 1; have hfz68_2 := blk_frozen BK205.out 2; have hfz68_3 := blk_frozen BK205.out 3; have hfz68_4 := blk_frozen BK205.out 4; have hfz68_5 := blk_frozen BK205.out 5; have hfz68_6 := blk_frozen BK205.out 6; have hfz68_7 := blk_frozen BK205.out 7; have hfz68_8 := blk_frozen BK205.out 8; have hcz69_0 : w66.cell? ⟨gb192, 0, none⟩ = some (.int .i64 a0_0) := (blk_cell BK192.out 0).trans rfl; have hcz69_1 : w66.cell? ⟨gb192, 1, none⟩ = some (.int .i64 a0_1) := (blk_cell BK192.out 1).trans rfl; have hcz69_2 : w66.cell? ⟨gb192, 2, none⟩ = some (.int .i64 a0_2) := (blk_cell BK192.out 2).trans rfl; have hcz69_3 : w66.cell? ⟨gb192, 3, none⟩ = some (.int .i64 a0_3) := (blk_cell BK192.out 3).trans rfl; have hcz69_4 : w66.cell? ⟨gb192, 4, none⟩ = some (.string a0_4) := (blk_cell BK192.out 4).trans rfl; have hcz69_5 : w66.cell? ⟨gb192, 5, none⟩ = some (.string a0_5) := (blk_cell BK192.out 5).trans rfl; have hcz69_6 : w66.cell? ⟨gb192, 6, none⟩ = some (.string a0_6) := (blk_cell BK192.out 6).trans rfl; have hcz69_7 : w66.cell? ⟨gb192, 7, none⟩ = some (.string a0_7) := (blk_cell BK192.out 7).trans rfl; have hcz69_8 : w66.cell? ⟨gb192, 8, none⟩ = some (.bool a0_8) := (blk_cell BK192.out 8).trans rfl; have hfz69_0 := blk_frozen BK192.out 0; have hfz69_1 := blk_frozen BK192.out 1; have hfz69_2 := blk_frozen BK192.out 2; have hfz69_3 := blk_frozen BK192.out 3; have hfz69_4 := blk_frozen BK192.out 4; have hfz69_5 := blk_frozen BK192.out 5; have hfz69_6 := blk_frozen BK192.out 6; have hfz69_7 := blk_frozen BK192.out 7; have hfz69_8 := blk_frozen BK192.out 8))
                  go_ret2
                  exact ⟨by first | rfl | (simp [errW_none, errW_some] <;> rfl) | (simp [*, errW_none, errW_some] <;> rfl), by repeat (first | (with_reducible first | exact HB.out | apply below_alloc | apply pw_below_drewN | apply below_drew1 | refine below_set ?_ GE192.out | refine below_set ?_ GE205.out) | exact HB.out)⟩
              · rw [if_neg c58] at H
                have c58b0 : (t204 == 0) = false := beq_eq_false_iff_ne.mpr c58
                have c58b1 : (t204 != 0) = true := bne_iff_ne.mpr c58
                simp only [Option.some.injEq, Prod.mk.injEq] at H
                obtain ⟨rfl, rfl⟩ := H
                go_wp2_with (first | ((with_reducible refine gate_callee (f := 19) rfl ?_); refine goesL_ (some 107) rfl rfl Tryz.func19 (by kernel_rfl) rfl #[.string x4_2] rfl (by (try simp only [List.map_toArray, List.map_cons, List.map_nil]); first | done | rfl | (simp only [List.length_drop, List.length_take]; rfl)) ?_; (with_reducible refine (tidelineref21_Parse.calls x4_2 t195 t196 t197 t198 t199 t200 t201 t202 t203 t204 _ A57.out).mono ?_); rintro e w70 ⟨rfl, hb⟩; refine ⟨_, rfl, ?_⟩; have n0_ := Aside0.mk (blk_below (g := gb192) (o := .cells #[.int .i64 a0_0, .int .i64 a0_1, .int .i64 a0_2, .int .i64 a0_3, .string a0_4, .string a0_5, .string a0_6, .string a0_7, .bool a0_8] 25 (0, 0)) (by (with_reducible repeat (first | refine blk_drewN ?_ _ | refine blk_drew ?_ | refine blk_alloc ?_ _)); exact BK192.out) hb); have n1_ := Aside0.mk (below_step (by repeat (first | (with_reducible first | exact HB.out | apply below_alloc | apply pw_below_drewN | apply below_drew1 | refine below_set ?_ GE192.out) | exact HB.out)) hb); clear BK192; clear HB; have BK192 := n0_; have HB := n1_; clear n0_ n1_; (try clear hb); (try clear hb2); (try clear hk); (try clear hi)) | ((with_reducible refine gate_dst (N := 9) rfl ?_); (try (refine gate_guard (by rfl) ?_; dsimp only)); refine box_event ?hg (N := 9) ?hd (cs := #[.int .i64 0, .int .i64 0, .int .i64 0, .int .i64 0, .string (⟨#[]⟩ : ByteArray), .string (⟨#[]⟩ : ByteArray), .string (⟨#[]⟩ : ByteArray), .string (⟨#[]⟩ : ByteArray), .bool false]) (t := 25) ?hr ?_; (case hd => rfl); (case hg => rfl); (case hr => first | (go_simp; done) | (go_simp; rfl)); intro gb205 hg w71 hbox hb; have n0_ := Aside0.mk (blk_below (g := gb192) (o := .cells #[.int .i64 a0_0, .int .i64 a0_1, .int .i64 a0_2, .int .i64 a0_3, .string a0_4, .string a0_5, .string a0_6, .string a0_7, .bool a0_8] 25 (0, 0)) (by (with_reducible repeat (first | refine blk_drewN ?_ _ | refine blk_drew ?_ | refine blk_alloc ?_ _)); exact BK192.out) hb); have n1_ := Aside0.mk (below_step (by repeat (first | (with_reducible first | exact HB.out | apply below_alloc | apply pw_below_drewN | apply below_drew1 | refine below_set ?_ GE192.out) | exact HB.out)) hb); have n2_ := Aside0.mk (hbox); have n3_ := Aside0.mk ((by rw [hg]; exact (below_size (by repeat (first | (with_reducible first | exact HB.out | apply below_alloc | apply pw_below_drewN | apply below_drew1 | refine below_set ?_ GE192.out) | exact HB.out))) : w.heap.size ≤ gb205)); have n4_ := Aside0.mk ((by rw [hg]; exact (below_size (by repeat (first | (with_reducible first | exact HB.out | apply below_alloc | apply pw_below_drewN | apply below_drew1 | refine below_set ?_ GE192.out) | exact HB.out))) : w.heap.size ≤ gb205)); have n5_ := Aside0.mk ((by rw [hg]; exact Nat.ne_of_lt (blk_lt (g := gb192) (o := .cells #[.int .i64 a0_0, .int .i64 a0_1, .int .i64 a0_2, .int .i64 a0_3, .string a0_4, .string a0_5, .string a0_6, .string a0_7, .bool a0_8] 25 (0, 0)) (by (with_reducible repeat (first | refine blk_drewN ?_ _ | refine blk_drew ?_ | refine blk_alloc ?_ _)); exact BK192.out)) : gb192 ≠ gb205)); have n6_ := Aside0.mk ((by rw [hg]; exact Nat.ne_of_gt (blk_lt (g := gb192) (o := .cells #[.int .i64 a0_0, .int .i64 a0_1, .int .i64 a0_2, .int .i64 a0_3, .string a0_4, .string a0_5, .string a0_6, .string a0_7, .bool a0_8] 25 (0, 0)) (by (with_reducible repeat (first | refine blk_drewN ?_ _ | refine blk_drew ?_ | refine blk_alloc ?_ _)); exact BK192.out)) : gb205 ≠ gb192)); clear BK192; clear HB; have BK192 := n0_; have HB := n1_; have BK205 := n2_; have GW205 := n3_; have GE205 := n4_; have NB192_205 := n5_; have NB205_192 := n6_; clear n0_ n1_ n2_ n3_ n4_ n5_ n6_; clear hb hbox hg; have hnb72 := NB205_192.out; have hnc72 := NB192_205.out; have hcz73_0 : w71.cell? ⟨gb205, 0, none⟩ = some (.int .i64 0) := (blk_cell BK205.out 0).trans rfl; have hcz73_1 : w71.cell? ⟨gb205, 1, none⟩ = some (.int .i64 0) := (blk_cell BK205.out 1).trans rfl; have hcz73_2 : w71.cell? ⟨gb205, 2, none⟩ = some (.int .i64 0) := (blk_cell BK205.out 2).trans rfl; have hcz73_3 : w71.cell? ⟨gb205, 3, none⟩ = some (.int .i64 0) := (blk_cell BK205.out 3).trans rfl; have hcz73_4 : w71.cell? ⟨gb205, 4, none⟩ = some (.string (⟨#[]⟩ : ByteArray)) := (blk_cell BK205.out 4).trans rfl; have hcz73_5 : w71.cell? ⟨gb205, 5, none⟩ = some (.string (⟨#[]⟩ : ByteArray)) := (blk_cell BK205.out 5).trans rfl; have hcz73_6 : w71.cell? ⟨gb205, 6, none⟩ = some (.string (⟨#[]⟩ : ByteArray)) := (blk_cell BK205.out 6).trans rfl; have hcz73_7 : w71.cell? ⟨gb205, 7, none⟩ = some (.string (⟨#[]⟩ : ByteArray)) := (blk_cell BK205.out 7).trans rfl; have hcz73_8 : w71.cell? ⟨gb205, 8, none⟩ = some (.bool false) := (blk_cell BK205.out 8).trans rfl; have hfz73_0 := blk_frozen BK205.out 0; have hfz73_1 := blk_frozen BK205.out 1; have hfz73_2 := blk_frozen BK205.out 2; have hfz73_3 := blk_frozen BK205.out 3; have hfz73_4 := blk_frozen BK205.out 4; have hfz73_5 := blk_frozen BK205.out 5; have hfz73_6 := blk_frozen BK205.out 6; have hfz73_7 := blk_frozen BK205.out 7; have hfz73_8 := blk_frozen BK205.out 8))
                go_ret2
                exact ⟨by first | rfl | (simp [errW_none, errW_some] <;> rfl) | (simp [*, errW_none, errW_some] <;> rfl), by repeat (first | (with_reducible first | exact HB.out | apply below_alloc | apply pw_below_drewN | apply below_drew1 | refine below_set ?_ GE192.out | refine below_set ?_ GE205.out) | exact HB.out)⟩
end Go.Proofs.YtodmbjbfigifnaaGreatDoor.PAll
namespace Go.Proofs.YtodmbjbfigifnaaGreatDoor.PAll
def fit23 (x : S23) : Prop := x.f0.size ≤ 140737488351232 ∧ x.f1.size ≤ 140737488351232 ∧ True
def fit25 (x : S25) : Prop := (Lit.int .i64 x.f0).wf = true ∧ (Lit.int .i64 x.f1).wf = true ∧ (Lit.int .i64 x.f2).wf = true ∧ (Lit.int .i64 x.f3).wf = true ∧ x.f4.size ≤ 140737488351232 ∧ x.f5.size ≤ 140737488351232 ∧ fit23 x.f6
end Go.Proofs.YtodmbjbfigifnaaGreatDoor.PAll
set_option linter.unusedVariables false
set_option linter.unusedSimpArgs false
namespace Go.Proofs.YtodmbjbfigifnaaGreatDoor.Pure
open Go.RowKit Go.Proofs.YtodmbjbfigifnaaGreatDoor.PAll Go.Proofs.YtodmbjbfigifnaaGreatDoorW.PrintWords Go.Proofs.YtodmbjbfigifnaaGreatDoorW.PrintLast Go.Proofs.YtodmbjbfigifnaaGreatDoorW.PrintMore
theorem prt_ref (lo hi : ByteArray) (op : Bool) : Ev (fun k => tidelineref02_Print.f k lo hi op) (prtV lo hi op) := by
  refine Ev.congr (fun k => by rw [tidelineref02_Print.f]) (Ev.bind (rgE_ref lo hi op) ?_)
  unfold prtV
  by_cases h : rgE lo hi op = 0
  · obtain ⟨h1, h2⟩ := rgE_sizes h
    simp only [if_pos h]
    have s1 := hexB_size lo
    have s2 := hexB_size hi
    cases op with
    | true =>
      simp only [if_true]
      refine Ev.bind (R2.rhex_f lo (by omega)) ?_
      simp only [if_pos (show (hexB lo).size + 3 ≤ 9223372036854775807 by omega)]
      exact Ev.const rfl
    | false =>
      simp only [if_neg (show ¬ (false = true) by decide)]
      refine Ev.bind (R2.rhex_f lo (by omega)) ?_
      simp only [if_pos (show (hexB lo).size + 2 ≤ 9223372036854775807 by omega)]
      refine Ev.bind (R2.rhex_f hi (by omega)) ?_
      have s3 : (hexB lo ++ (⟨#[46, 46]⟩ : ByteArray)).size = (hexB lo).size + 2 := by rw [ByteArray.size_append]; rfl
      simp only [if_pos (show (hexB lo ++ (⟨#[46, 46]⟩ : ByteArray)).size + (hexB hi).size ≤ 9223372036854775807 by omega)]
      exact Ev.const rfl
  · simp only [if_neg h]; exact Ev.const rfl
end Go.Proofs.YtodmbjbfigifnaaGreatDoor.Pure
