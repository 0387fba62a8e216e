import Derived.Test.YtodmbjbfigifnaaDoorProg
import Derived.Test.YtodmbjbfigifnaaDoorWWords
import Derived.Test.YtodmbjbfigifnaaDoorWLast
import Derived.Test.YtodmbjbfigifnaaDoorWMore
import Derived.Test.YtodmbjbfigifnaaDoorPAllx6
import Derived.Test.YtodmbjbfigifnaaDoorMgD
import Derived.Test.YtodmbjbfigifnaaDoorMgA
import Derived.Below
import Derived.RangeFuncBox
import Derived.BigQuiet
import Derived.Deep.QuietTactic
import Derived.Lib.Hide
import Derived.Tactics
import Derived.WalkKit
import Derived.OwnWalk
import Derived.BigRegion
import Derived.RegionTactic
import Derived.Deep.RegionWith
import Derived.Deep.RegionHeld
import Derived.Deep.RegionHeld3
import Derived.WalkSmall
import Derived.WalkLawsBesides
import Derived.Laws.Slices
import Derived.Test.YtodmbjbfigifnaaDoorPAllx0
import Derived.Test.YtodmbjbfigifnaaDoorMgC
import Derived.Test.YtodmbjbfigifnaaDoorMgE
import Derived.Lib.Join
import Derived.Lib.ItoaNum
section
-- By wip/late.py (a program of this session) out of wip/words.
set_option linter.unusedVariables false
set_option linter.unusedSimpArgs false
namespace Go.Proofs.YtodmbjbfigifnaaDoor.Sc
open Go.RowKit Go.Proofs.YtodmbjbfigifnaaDoor.Glob Go.Proofs.YtodmbjbfigifnaaDoor.Dig Go.Proofs.YtodmbjbfigifnaaDoorW.PrintWords Go.Proofs.YtodmbjbfigifnaaDoor.PAll Go.Proofs.YtodmbjbfigifnaaDoor.Pure
/-! The words of a command: script.words. -/
def dg (n : Int) : ByteArray := ⟨(Lib.decDigits (max n 0).toNat).toArray⟩
def keyT (o : OpT) : ByteArray := ⟨#[107]⟩ ++ hexB o.f4
def valT (o : OpT) : ByteArray := ⟨#[61]⟩ ++ hexB o.f5
def rngT (o : OpT) : ByteArray := (prtV o.f6.f0 o.f6.f1 o.f6.f2).1
/-- A command's words. -/
def wsV (o : OpT) : Option (List ByteArray) :=
  if o.f0 = 1 then some [⟨#[112, 117, 116]⟩, dg o.f1, keyT o, valT o] else
  if o.f0 = 2 then some [⟨#[100, 101, 108]⟩, dg o.f1, keyT o] else
  if o.f0 = 3 then some [⟨#[103, 101, 116]⟩, dg o.f1, keyT o] else
  if o.f0 = 4 then some [⟨#[115, 99, 97, 110]⟩, dg o.f1, rngT o] else
  if o.f0 = 5 then some [⟨#[102, 111, 108, 100]⟩, dg o.f1, rngT o] else
  if o.f0 = 6 then some [⟨#[111, 112, 101, 110]⟩, dg o.f1, dg o.f2] else
  if o.f0 = 7 then some [⟨#[103, 111]⟩, dg o.f3] else
  if o.f0 = 8 then some [⟨#[100, 114, 111, 112]⟩, dg o.f3] else
  if o.f0 = 9 then some [⟨#[116, 119, 105, 99, 101]⟩, dg o.f3] else
  if o.f0 = 10 then some [⟨#[114, 97, 119]⟩, dg o.f1, valT o] else
  if o.f0 = 17 then some [⟨#[98, 97, 103]⟩] else
  if o.f0 = 11 then some [⟨#[116, 105, 99, 107]⟩, dg o.f1] else
  if o.f0 = 12 then some [⟨#[99, 114, 97, 115, 104]⟩, dg o.f1] else
  if o.f0 = 13 then some [⟨#[115, 116, 97, 114, 116]⟩, dg o.f1] else
  if o.f0 = 14 then some [⟨#[109, 97, 112]⟩, dg o.f1] else
  if o.f0 = 15 then some [⟨#[116, 97, 108, 107, 115]⟩, dg o.f1] else
  if o.f0 = 16 then some [⟨#[99, 111, 117, 110, 116]⟩, dg o.f1] else none
/-- A command's bounds. -/
structure OpB (o : OpT) : Prop where
  n : o.f1 ≤ 9223372036854775807
  p : o.f2 ≤ 9223372036854775807
  i : o.f3 ≤ 9223372036854775807
  k : o.f4.size ≤ 1073741824
  v : o.f5.size ≤ 1073741824
  a : o.f6.f0.size ≤ 1073741824
  b : o.f6.f1.size ≤ 1073741824
theorem dig_calls {n : Int} (h : n ≤ 9223372036854775807) (w : World) (hG : GlobOK w) : Calls Tryd.prog 34 #[.int .i64 n] w fun e w' => e = .returned (.string (dg n)) ∧ Below w.heap.size w w' :=
  nums_Digits.calls n (dg n) w hG (by unfold nums_Digits.f; rw [if_pos h]; rfl)
theorem hex_calls {s : ByteArray} (h : s.size ≤ 1073741824) (w : World) : Calls Tryd.prog 35 #[.string s] w fun e w' => e = .returned (.string (hexB s)) ∧ Below w.heap.size w w' := by
  obtain ⟨k, hk⟩ := hex_f s (by omega)
  exact nums_Hex.calls k s _ w (hk k (Nat.le_refl k))
theorem sprint_calls (lo hi : ByteArray) (op : Bool) (w : World) : Calls Tryd.prog 36 #[.agg #[.string lo, .string hi, .bool op]] w fun e w' => e = .returned (.tuple #[.string (prtV lo hi op).1, .int .i64 (prtV lo hi op).2]) ∧ Below w.heap.size w w' := by
  obtain ⟨k, hk⟩ := prt_f lo hi op
  exact span_Print.calls k lo hi op _ _ w (hk k (Nat.le_refl k))
/-- The command in its box. -/
structure Ob (w W : World) (o : OpT) : Prop where
  box : W.heap[w.heap.size]? = some (.cells (opA o) 31 (0, 0))
  be : Below w.heap.size w W
theorem Ob.then {w W W' : World} {o : OpT} (h : Ob w W o) (hb : Below W.heap.size W W') : Ob w W' o := ⟨blk_below h.box hb, below_step h.be hb⟩
theorem Ob.drew {w W : World} {o : OpT} (h : Ob w W o) : Ob w W.drew o := ⟨blk_drew h.box, h.be.drew⟩
theorem Ob.held {w W : World} {o : OpT} (h : Ob w W o) : W.cell? ⟨w.heap.size, 1, none⟩ = some (.int .i64 o.f1) ∧ W.cell? ⟨w.heap.size, 3, none⟩ = some (.int .i64 o.f3) ∧ W.cell? ⟨w.heap.size, 4, none⟩ = some (.string o.f4) ∧ W.cell? ⟨w.heap.size, 5, none⟩ = some (.string o.f5) ∧ Aside0 (Ob w W o) :=
  ⟨(blk_cell h.box 1).trans rfl, (blk_cell h.box 3).trans rfl, (blk_cell h.box 4).trans rfl, (blk_cell h.box 5).trans rfl, ⟨h⟩⟩
/-- What script.words answers. -/
def WordsP (o : OpT) (w : World) (e : Ending) (w' : World) : Prop := (match wsV o with
      | none => e = .returned (.tuple #[.slice none 0 0, .bool false])
      | some ws => ∃ g, e = .returned (.tuple #[.slice (some ⟨g, 0, none⟩) ws.length ws.length, .bool true]) ∧ w'.heap[g]? = some (.cells (sv ws).toArray 9 (0, 0))) ∧ Below w.heap.size w w'
theorem WordsP.yes {o : OpT} {w W : World} {ws : List ByteArray} (h : wsV o = some ws) (hb : Below w.heap.size w W) : WordsP o w (.returned (.tuple #[.slice (some ⟨W.heap.size, 0, none⟩) ws.length ws.length, .bool true])) (W.alloc (.cells (sv ws).toArray 9)) := by
  unfold WordsP
  rw [h]
  exact ⟨⟨_, rfl, heap_alloc_new _ _⟩, below_alloc hb _⟩
theorem WordsP.no {o : OpT} {w W : World} (h : wsV o = none) (hb : Below w.heap.size w W) : WordsP o w (.returned (.tuple #[.slice none 0 0, .bool false])) W := by
  unfold WordsP
  rw [h]
  exact ⟨rfl, hb⟩
def sixA : Array Value := #[.int .i64 11, .string ⟨#[116, 105, 99, 107]⟩, .int .i64 12, .string ⟨#[99, 114, 97, 115, 104]⟩, .int .i64 13, .string ⟨#[115, 116, 97, 114, 116]⟩, .int .i64 14, .string ⟨#[109, 97, 112]⟩, .int .i64 15, .string ⟨#[116, 97, 108, 107, 115]⟩, .int .i64 16, .string ⟨#[99, 111, 117, 110, 116]⟩]
def sixW (k : Nat) : ByteArray := [⟨#[116, 105, 99, 107]⟩, ⟨#[99, 114, 97, 115, 104]⟩, ⟨#[115, 116, 97, 114, 116]⟩, ⟨#[109, 97, 112]⟩, ⟨#[116, 97, 108, 107, 115]⟩, ⟨#[99, 111, 117, 110, 116]⟩].getD k ⟨#[]⟩
theorem six_at : ∀ k : Nat, k < 6 → sixA[k * 2]? = some (.int .i64 (11 + (k : Int))) ∧ sixA[k * 2 + 1]? = some (.string (sixW k))
  | 0, _ | 1, _ | 2, _ | 3, _ | 4, _ | 5, _ => ⟨rfl, rfl⟩
  | k + 6, h => by omega
/-- The further kinds' loop. -/
structure Sx (w w9 W : World) (o : OpT) : Prop where
  ob : Ob w W o
  row : W.heap[w9.heap.size]? = some (.cells sixA 70 (0, 0))
theorem Sx.then {w w9 W W' : World} {o : OpT} (h : Sx w w9 W o) (hb : Below W.heap.size W W') : Sx w w9 W' o := ⟨h.ob.then hb, blk_below h.row hb⟩
theorem six_ws {o : OpT} : ∀ k : Nat, k < 6 → (11 : Int) + (k : Int) = o.f0 → wsV o = some [sixW k, dg o.f1]
  | 0, _, hm | 1, _, hm | 2, _, hm | 3, _, hm | 4, _, hm | 5, _, hm => by unfold wsV; rw [← hm]; rfl
  | k + 6, h, _ => by omega
theorem no_ws {o : OpT} (h : ∀ n : Int, n ∈ ([1, 2, 3, 4, 5, 6, 7, 8, 9, 10, 17] : List Int) → o.f0 ≠ n) (hno : ∀ j : Nat, j < 6 → (11 : Int) + (j : Int) ≠ o.f0) : wsV o = none := by
  unfold wsV
  rw [if_neg (h 1 (by simp)), if_neg (h 2 (by simp)), if_neg (h 3 (by simp)), if_neg (h 4 (by simp)), if_neg (h 5 (by simp)), if_neg (h 6 (by simp)), if_neg (h 7 (by simp)), if_neg (h 8 (by simp)), if_neg (h 9 (by simp)), if_neg (h 10 (by simp)), if_neg (h 17 (by simp)),
    if_neg (fun e => hno 0 (by omega) (by omega)), if_neg (fun e => hno 1 (by omega) (by omega)), if_neg (fun e => hno 2 (by omega) (by omega)), if_neg (fun e => hno 3 (by omega) (by omega)), if_neg (fun e => hno 4 (by omega) (by omega)), if_neg (fun e => hno 5 (by omega) (by omega))]
set_option maxRecDepth 100000 in
set_option maxHeartbeats 2500000 in
theorem words_calls (o : OpT) (hB : OpB o) (w : World) (hG : GlobOK w) : Calls Tryd.prog 20 #[opX o] w (WordsP o w) := by
  have HB := Aside0.mk hB
  have HG := Aside0.mk hG
  clear hB hG
  go_enter Tryd.func20, Tryd.ntmps20
  go_wp2
  have HK : Aside0 (Ob w (w.alloc (.cells (opA o) 31)).drew o) := ⟨Ob.drew ⟨heap_alloc_new _ _, below_alloc (Below.refl _ _) _⟩⟩
  go_region_held3 (fun W => W.cell? ⟨w.heap.size, 1, none⟩ = some (.int .i64 o.f1) ∧ W.cell? ⟨w.heap.size, 3, none⟩ = some (.int .i64 o.f3) ∧ W.cell? ⟨w.heap.size, 4, none⟩ = some (.string o.f4) ∧ W.cell? ⟨w.heap.size, 5, none⟩ = some (.string o.f5) ∧ Aside0 (Ob w W o)) (first | with_reducible exact HK5.out.held | with_reducible exact HK4.out.held | exact HK.out.held)
    (first
    | (go_at_call 34; go_loud (first
      | (refine (dig_calls HB.out.n _ (HG.out.below HK.out.be)).mono ?_; rintro e w4 ⟨rfl, hb⟩; have HK4 := Aside0.mk (HK.out.then hb); clear hb)
      | (refine (dig_calls HB.out.i _ (HG.out.below HK4.out.be)).mono ?_; rintro e w5 ⟨rfl, hb⟩; have HK5 := Aside0.mk (HK4.out.then hb); clear hb))))
  all_goals go_wp2
  obtain ⟨X4, hX4⟩ : ∃ X, X = hexB o.f4 := ⟨_, rfl⟩
  obtain ⟨X5, hX5⟩ : ∃ X, X = hexB o.f5 := ⟨_, rfl⟩
  have p4 : 1 + X4.size ≤ 9223372036854775807 := by have := HB.out.k; rw [hX4, hexB_size]; omega
  have p5 : 1 + X5.size ≤ 9223372036854775807 := by have := HB.out.v; rw [hX5, hexB_size]; omega
  have q4 : ¬ 9223372036854775807 < 1 + X4.size := by omega
  have q5 : ¬ 9223372036854775807 < 1 + X5.size := by omega
  have hx4 := fun W => hex_calls HB.out.k W
  have hx5 := fun W => hex_calls HB.out.v W
  simp only [← hX4] at hx4
  simp only [← hX5] at hx5
  have HX4 := Aside0.mk hX4
  have HX5 := Aside0.mk hX5
  have HC4 := Aside0.mk hx4
  have HC5 := Aside0.mk hx5
  clear hX4 hX5 hx4 hx5
  have HK6 : Aside0 (Ob w w5.drew o) := ⟨HK5.out.drew⟩
  go_region_held3 (fun W => W.cell? ⟨w.heap.size, 1, none⟩ = some (.int .i64 o.f1) ∧ W.cell? ⟨w.heap.size, 3, none⟩ = some (.int .i64 o.f3) ∧ W.cell? ⟨w.heap.size, 4, none⟩ = some (.string o.f4) ∧ W.cell? ⟨w.heap.size, 5, none⟩ = some (.string o.f5) ∧ Aside0 (Ob w W o)) (first | with_reducible exact HK8.out.held | with_reducible exact HK7.out.held | exact HK6.out.held)
    (first
    | (go_at_call 35; (first
      | (with_reducible refine (HC4.out _).mono ?_; rintro e w7 ⟨rfl, hb⟩; have HK7 := Aside0.mk (HK6.out.then hb); clear hb)
      | (with_reducible refine (HC5.out _).mono ?_; rintro e w8 ⟨rfl, hb⟩; have HK8 := Aside0.mk (HK7.out.then hb); clear hb))))
  all_goals (
    clear p4 p5 q4 q5
    obtain ⟨Y, hY⟩ : ∃ Y, Y = prtV o.f6.f0 o.f6.f1 o.f6.f2 := ⟨_, rfl⟩
    have hsp := fun W => sprint_calls o.f6.f0 o.f6.f1 o.f6.f2 W
    simp only [← hY] at hsp
    obtain ⟨y1, y2⟩ := Y
    dsimp only at hsp
    have HSP := Aside0.mk hsp
    have HY := Aside0.mk hY
    clear hY hsp
    have hf0 := (blk_cell HK8.out.box 0).trans (show _ = some (Value.int .i64 o.f0) from rfl)
    have hf6 := (blk_cell HK8.out.box 6).trans (show _ = some (Value.string o.f6.f0) from rfl)
    have hf7 := (blk_cell HK8.out.box 7).trans (show _ = some (Value.string o.f6.f1) from rfl)
    have hf8 := (blk_cell HK8.out.box 8).trans (show _ = some (Value.bool o.f6.f2) from rfl)
    -- LEAVES
    by_cases c1 : o.f0 = 1
    · have b1 : (o.f0 == 1) = true := beq_iff_eq.2 c1
      go_wp2_with (go_at_call 36; with_reducible refine (HSP.out _).mono ?_; rintro e w9 ⟨rfl, hb⟩; have HK9 := Aside0.mk (HK8.out.then hb); have hg0 := (blk_cell HK9.out.box 0).trans (show _ = some (Value.int .i64 o.f0) from rfl); clear hb hf0 hf6 hf7 hf8)
      go_ret2
      exact WordsP.yes (ws := [⟨#[112, 117, 116]⟩, dg o.f1, ⟨#[107]⟩ ++ X4, ⟨#[61]⟩ ++ X5]) (by unfold wsV keyT valT; rw [if_pos c1, HX4.out, HX5.out]) HK9.out.be
    have b1 : (o.f0 == 1) = false := beq_eq_false_iff_ne.2 c1
    by_cases c2 : o.f0 = 2
    · have b2 : (o.f0 == 2) = true := beq_iff_eq.2 c2
      go_wp2_with (go_at_call 36; with_reducible refine (HSP.out _).mono ?_; rintro e w9 ⟨rfl, hb⟩; have HK9 := Aside0.mk (HK8.out.then hb); have hg0 := (blk_cell HK9.out.box 0).trans (show _ = some (Value.int .i64 o.f0) from rfl); clear hb hf0 hf6 hf7 hf8)
      go_ret2
      exact WordsP.yes (ws := [⟨#[100, 101, 108]⟩, dg o.f1, ⟨#[107]⟩ ++ X4]) (by unfold wsV keyT; rw [if_neg c1, if_pos c2, HX4.out]) HK9.out.be
    have b2 : (o.f0 == 2) = false := beq_eq_false_iff_ne.2 c2
    by_cases c3 : o.f0 = 3
    · have b3 : (o.f0 == 3) = true := beq_iff_eq.2 c3
      go_wp2_with (go_at_call 36; with_reducible refine (HSP.out _).mono ?_; rintro e w9 ⟨rfl, hb⟩; have HK9 := Aside0.mk (HK8.out.then hb); have hg0 := (blk_cell HK9.out.box 0).trans (show _ = some (Value.int .i64 o.f0) from rfl); clear hb hf0 hf6 hf7 hf8)
      go_ret2
      exact WordsP.yes (ws := [⟨#[103, 101, 116]⟩, dg o.f1, ⟨#[107]⟩ ++ X4]) (by unfold wsV keyT; rw [if_neg c1, if_neg c2, if_pos c3, HX4.out]) HK9.out.be
    have b3 : (o.f0 == 3) = false := beq_eq_false_iff_ne.2 c3
    by_cases c4 : o.f0 = 4
    · have b4 : (o.f0 == 4) = true := beq_iff_eq.2 c4
      go_wp2_with (go_at_call 36; with_reducible refine (HSP.out _).mono ?_; rintro e w9 ⟨rfl, hb⟩; have HK9 := Aside0.mk (HK8.out.then hb); have hg0 := (blk_cell HK9.out.box 0).trans (show _ = some (Value.int .i64 o.f0) from rfl); clear hb hf0 hf6 hf7 hf8)
      go_ret2
      exact WordsP.yes (ws := [⟨#[115, 99, 97, 110]⟩, dg o.f1, y1]) (by unfold wsV rngT; rw [if_neg c1, if_neg c2, if_neg c3, if_pos c4, ← HY.out]) HK9.out.be
    have b4 : (o.f0 == 4) = false := beq_eq_false_iff_ne.2 c4
    by_cases c5 : o.f0 = 5
    · have b5 : (o.f0 == 5) = true := beq_iff_eq.2 c5
      go_wp2_with (go_at_call 36; with_reducible refine (HSP.out _).mono ?_; rintro e w9 ⟨rfl, hb⟩; have HK9 := Aside0.mk (HK8.out.then hb); have hg0 := (blk_cell HK9.out.box 0).trans (show _ = some (Value.int .i64 o.f0) from rfl); clear hb hf0 hf6 hf7 hf8)
      go_ret2
      exact WordsP.yes (ws := [⟨#[102, 111, 108, 100]⟩, dg o.f1, y1]) (by unfold wsV rngT; rw [if_neg c1, if_neg c2, if_neg c3, if_neg c4, if_pos c5, ← HY.out]) HK9.out.be
    have b5 : (o.f0 == 5) = false := beq_eq_false_iff_ne.2 c5
    by_cases c6 : o.f0 = 6
    · have b6 : (o.f0 == 6) = true := beq_iff_eq.2 c6
      go_wp2_with (first | (go_at_call 36; with_reducible refine (HSP.out _).mono ?_; rintro e w9 ⟨rfl, hb⟩; have HK9 := Aside0.mk (HK8.out.then hb); have hg0 := (blk_cell HK9.out.box 0).trans (show _ = some (Value.int .i64 o.f0) from rfl); have hg2 := (blk_cell HK9.out.box 2).trans (show _ = some (Value.int .i64 o.f2) from rfl); clear hb hf0 hf6 hf7 hf8) | (go_at_call 34; refine (dig_calls HB.out.p _ (HG.out.below HK9.out.be)).mono ?_; rintro e w10 ⟨rfl, hb⟩; have HK10 := Aside0.mk (HK9.out.then hb); clear hb))
      go_ret2
      exact WordsP.yes (ws := [⟨#[111, 112, 101, 110]⟩, dg o.f1, dg o.f2]) (by unfold wsV; rw [if_neg c1, if_neg c2, if_neg c3, if_neg c4, if_neg c5, if_pos c6]) HK10.out.be
    have b6 : (o.f0 == 6) = false := beq_eq_false_iff_ne.2 c6
    by_cases c7 : o.f0 = 7
    · have b7 : (o.f0 == 7) = true := beq_iff_eq.2 c7
      go_wp2_with (go_at_call 36; with_reducible refine (HSP.out _).mono ?_; rintro e w9 ⟨rfl, hb⟩; have HK9 := Aside0.mk (HK8.out.then hb); have hg0 := (blk_cell HK9.out.box 0).trans (show _ = some (Value.int .i64 o.f0) from rfl); clear hb hf0 hf6 hf7 hf8)
      go_ret2
      exact WordsP.yes (ws := [⟨#[103, 111]⟩, dg o.f3]) (by unfold wsV; rw [if_neg c1, if_neg c2, if_neg c3, if_neg c4, if_neg c5, if_neg c6, if_pos c7]) HK9.out.be
    have b7 : (o.f0 == 7) = false := beq_eq_false_iff_ne.2 c7
    by_cases c8 : o.f0 = 8
    · have b8 : (o.f0 == 8) = true := beq_iff_eq.2 c8
      go_wp2_with (go_at_call 36; with_reducible refine (HSP.out _).mono ?_; rintro e w9 ⟨rfl, hb⟩; have HK9 := Aside0.mk (HK8.out.then hb); have hg0 := (blk_cell HK9.out.box 0).trans (show _ = some (Value.int .i64 o.f0) from rfl); clear hb hf0 hf6 hf7 hf8)
      go_ret2
      exact WordsP.yes (ws := [⟨#[100, 114, 111, 112]⟩, dg o.f3]) (by unfold wsV; rw [if_neg c1, if_neg c2, if_neg c3, if_neg c4, if_neg c5, if_neg c6, if_neg c7, if_pos c8]) HK9.out.be
    have b8 : (o.f0 == 8) = false := beq_eq_false_iff_ne.2 c8
    by_cases c9 : o.f0 = 9
    · have b9 : (o.f0 == 9) = true := beq_iff_eq.2 c9
      go_wp2_with (go_at_call 36; with_reducible refine (HSP.out _).mono ?_; rintro e w9 ⟨rfl, hb⟩; have HK9 := Aside0.mk (HK8.out.then hb); have hg0 := (blk_cell HK9.out.box 0).trans (show _ = some (Value.int .i64 o.f0) from rfl); clear hb hf0 hf6 hf7 hf8)
      go_ret2
      exact WordsP.yes (ws := [⟨#[116, 119, 105, 99, 101]⟩, dg o.f3]) (by unfold wsV; rw [if_neg c1, if_neg c2, if_neg c3, if_neg c4, if_neg c5, if_neg c6, if_neg c7, if_neg c8, if_pos c9]) HK9.out.be
    have b9 : (o.f0 == 9) = false := beq_eq_false_iff_ne.2 c9
    by_cases c10 : o.f0 = 10
    · have b10 : (o.f0 == 10) = true := beq_iff_eq.2 c10
      go_wp2_with (go_at_call 36; with_reducible refine (HSP.out _).mono ?_; rintro e w9 ⟨rfl, hb⟩; have HK9 := Aside0.mk (HK8.out.then hb); have hg0 := (blk_cell HK9.out.box 0).trans (show _ = some (Value.int .i64 o.f0) from rfl); clear hb hf0 hf6 hf7 hf8)
      go_ret2
      exact WordsP.yes (ws := [⟨#[114, 97, 119]⟩, dg o.f1, ⟨#[61]⟩ ++ X5]) (by unfold wsV valT; rw [if_neg c1, if_neg c2, if_neg c3, if_neg c4, if_neg c5, if_neg c6, if_neg c7, if_neg c8, if_neg c9, if_pos c10, HX5.out]) HK9.out.be
    have b10 : (o.f0 == 10) = false := beq_eq_false_iff_ne.2 c10
    by_cases c17 : o.f0 = 17
    · have b17 : (o.f0 == 17) = true := beq_iff_eq.2 c17
      go_wp2_with (go_at_call 36; with_reducible refine (HSP.out _).mono ?_; rintro e w9 ⟨rfl, hb⟩; have HK9 := Aside0.mk (HK8.out.then hb); have hg0 := (blk_cell HK9.out.box 0).trans (show _ = some (Value.int .i64 o.f0) from rfl); clear hb hf0 hf6 hf7 hf8)
      go_ret2
      exact WordsP.yes (ws := [⟨#[98, 97, 103]⟩]) (by unfold wsV; rw [if_neg c1, if_neg c2, if_neg c3, if_neg c4, if_neg c5, if_neg c6, if_neg c7, if_neg c8, if_neg c9, if_neg c10, if_pos c17]) HK9.out.be
    have b17 : (o.f0 == 17) = false := beq_eq_false_iff_ne.2 c17
    -- LOOP
    go_wp2_with (go_at_call 36; with_reducible refine (HSP.out _).mono ?_; rintro e w9 ⟨rfl, hb⟩; have HK9 := Aside0.mk (HK8.out.then hb); have hg0 := (blk_cell HK9.out.box 0).trans (show _ = some (Value.int .i64 o.f0) from rfl); clear hb hf0 hf6 hf7 hf8)
    have HS9 : Aside0 (Sx w w9 (w9.alloc (.cells sixA 70)) o) := ⟨⟨HK9.out.then (below_alloc (Below.refl _ _) _), heap_alloc_new _ _⟩⟩
    clear hg0
    go_loopw [95] (fun i wr => ∃ k : Nat, i = .int .i64 (k : Int) ∧ k ≤ 6 ∧ (∀ j : Nat, j < k → (11 : Int) + (j : Int) ≠ o.f0) ∧ Sx w w9 wr o) (fun i _ => 6 - (intOf i).toNat)
    case atStart => exact ⟨0, rfl, Nat.zero_le _, fun j h => absurd h (Nat.not_lt_zero j), HS9.out⟩
    case round =>
      obtain ⟨k, rfl, hk, hno, hS⟩ := hrel
      have f1 : (0 : Int) ≤ (k : Int) := by omega
      have e1 : IntKind.i64.wrap ((k : Int) + 1) = (k : Int) + 1 := IntWalk.i64_in _ (by omega)
      by_cases hlt : (k : Int) < 6
      · have hk1 : k < 6 := by omega
        obtain ⟨s1, s2⟩ := six_at k hk1
        have hc0 := (blk_cell hS.row (k * 2)).trans s1
        have hc1 := (blk_cell hS.row (k * 2 + 1)).trans s2
        have hg0 := (blk_cell hS.ob.box 0).trans (show _ = some (Value.int .i64 o.f0) from rfl)
        have hnl : w.heap.size < wr.heap.size := blk_lt hS.ob.box
        have hn1 : w.heap.size ≠ wr.heap.size := by omega
        have hn2 : wr.heap.size ≠ w.heap.size := by omega
        have hga := fun ob => (blk_cell (blk_alloc hS.ob.box ob) 0).trans (show _ = some (Value.int .i64 o.f0) from rfl)
        have HS := Aside0.mk hS
        have HN := Aside0.mk hno
        clear hS hno s1 s2
        by_cases hm : (11 : Int) + (k : Int) = o.f0
        · have bm : ((11 : Int) + (k : Int) == o.f0) = true := beq_iff_eq.2 hm
          go_wp2
          go_ret2
          have hy := WordsP.yes (w := w) (W := wr.alloc (.cells #[.int .i64 o.f0, .string (sixW k)] 70)) (six_ws k hk1 hm) (below_alloc HS.out.ob.be _)
          rw [World.size_alloc] at hy
          exact hy
        · have bm : ((11 : Int) + (k : Int) == o.f0) = false := beq_eq_false_iff_ne.2 hm
          have hn9 : ∀ j : Nat, j < k + 1 → (11 : Int) + (j : Int) ≠ o.f0 := by
            intro j hj
            by_cases e : j = k
            · subst e; exact hm
            · exact HN.out j (by omega)
          have HN2 := Aside0.mk hn9
          clear hn9
          go_wp2
          exact ⟨⟨k + 1, by first | rfl | simp | omega, by omega, HN2.out, HS.out.then (below_alloc (Below.refl _ _) _)⟩, by simp [intOf]; omega⟩
      · have hno6 : ∀ j : Nat, j < 6 → (11 : Int) + (j : Int) ≠ o.f0 := fun j hj => hno j (by omega)
        have HNO := Aside0.mk hno6
        have HS := Aside0.mk hS
        clear hno hno6 hS
        go_wp2
        go_ret2
        exact WordsP.no (no_ws (by simp only [List.mem_cons, List.not_mem_nil, or_false]; rintro n (rfl | rfl | rfl | rfl | rfl | rfl | rfl | rfl | rfl | rfl | rfl) <;> assumption) HNO.out) HS.out.ob.be)
end Go.Proofs.YtodmbjbfigifnaaDoor.Sc
end

section
-- By wip/late.py (a program of this session) out of wip/words.
set_option linter.unusedVariables false
set_option linter.unusedSimpArgs false
namespace Go.Proofs.YtodmbjbfigifnaaDoor.Sc
open Go.RowKit Go.Proofs.YtodmbjbfigifnaaDoor.Glob Go.Proofs.YtodmbjbfigifnaaDoor.Dig Go.Proofs.YtodmbjbfigifnaaDoorW.PrintWords Go.Proofs.YtodmbjbfigifnaaDoor.PAll Go.Proofs.YtodmbjbfigifnaaDoor.Pure
/-! What script.Print answers; of a command that was read it is the line. -/
/-- Words, with blanks between. -/
def joinB (ws : List ByteArray) : ByteArray := ⟨(Lib.join (ws.map fun x => x.data.toList) [32]).toArray⟩
open Classical in
/-- What script.Print answers. -/
noncomputable def printV (o : OpT) : ByteArray × Int :=
  if 400 < o.f4.size then (⟨#[]⟩, 210) else if 400 < o.f5.size then (⟨#[]⟩, 210) else match wsV o with
    | none => (⟨#[]⟩, 210)
    | some ws => if (ansW (joinB ws)).2 = 0 ∧ (ansW (joinB ws)).1 = o then (joinB ws, 0) else (⟨#[]⟩, 210)
theorem joinL_join (c : UInt8) : ∀ ps : List (List UInt8), joinL c ps = Lib.join ps [c]
  | [] => rfl
  | [p] => (Lib.join_one p [c]).symm
  | p :: q :: r => by
    rw [joinL, joinL_join c (q :: r), Lib.join_cons, Lib.join_cons]
    unfold Lib.joinTail
    simp
theorem join_back (s : ByteArray) : joinB (piecesB s 32) = s := by
  unfold joinB piecesB
  rw [List.map_map]
  have e : ((fun x : ByteArray => x.data.toList) ∘ fun l : List UInt8 => (⟨l.toArray⟩ : ByteArray)) = id := by
    funext l
    simp
  rw [e, List.map_id, ← joinL_join, join_pieces]
theorem dg_back {t : ByteArray} {n : Int} (h : numW t = some n) : dg n = t ∧ n ≤ 9223372036854775807 := by
  unfold numW at h
  split at h
  · rename_i h2
    obtain ⟨h3, h4, h5, _⟩ := num_canon (l := t.data.toList) (most := 9223372036854775807) (n := (numP t.data.toList 9223372036854775807).1) (Prod.ext rfl h2)
    obtain rfl := Option.some.inj h
    refine ⟨?_, h5⟩
    unfold dg
    rw [show max (numP t.data.toList 9223372036854775807).1 0 = (numP t.data.toList 9223372036854775807).1 by omega, ← h3]
  · cases h
theorem pre_cons {t : ByteArray} {c : UInt8} (h : Lib.hasPrefix t.data.toList [c] = true) : ⟨#[c]⟩ ++ t.extract 1 t.size = t := by
  have e2 : (t.extract 1 t.size).data.toList = t.data.toList.drop 1 := Lib.extract_to_end t 1
  apply ba_eq.1
  rw [Go.ByteArray.toList_eq, Go.ByteArray.toList_eq, ByteArray.data_append, Array.toList_append, e2]
  show [c] ++ t.data.toList.drop 1 = t.data.toList
  unfold Lib.hasPrefix at h
  cases hl : t.data.toList with
  | nil => rw [hl] at h; simp at h
  | cons x l => rw [hl] at h; simp at h; subst h; rfl
theorem byt_back {c : UInt8} {t s : ByteArray} (h : bytW c t = some s) : ⟨#[c]⟩ ++ hexB s = t ∧ s.size ≤ t.size := by
  unfold bytW at h
  split at h
  · rename_i hp
    split at h
    · rename_i hq
      obtain rfl := Option.some.inj h
      have hb := hexB_unhE _ hq
      have hz := hexB_size (unhE (t.extract 1 t.size)).1
      rw [hb] at hz ⊢
      exact ⟨pre_cons hp, by have := ext_size t 1; omega⟩
    · cases h
  · cases h
theorem spn_back {t : ByteArray} {r : S29} (ht : t.size ≤ 400) (h : spnW t = some r) : (prtV r.f0 r.f1 r.f2).1 = t ∧ r.f0.size ≤ 16 ∧ r.f1.size ≤ 16 := by
  unfold spnW at h
  split at h
  · rename_i h2
    obtain rfl := Option.some.inj h
    obtain ⟨lo, hi, ok, hc, _, _⟩ := cut_le t ht
    have e : spV t = parV lo hi ok := by unfold spV; rw [hc]
    rw [e] at h2 ⊢
    obtain ⟨h3, h4, h5⟩ := par_prt t lo hi ok (by omega) hc h2
    exact ⟨congrArg Prod.fst h3, h4, h5⟩
  · cases h
theorem fields_nil {ts : List ByteArray} {o o' : OpT} (h : fieldsW [] ts o = some o') : ts = [] ∧ o = o' := by
  cases ts with
  | nil => exact ⟨rfl, Option.some.inj h⟩
  | cons t ts => cases h
theorem fields_cons {c : Nat} {cs : List Nat} {ts : List ByteArray} {o o' : OpT} (h : fieldsW (c :: cs) ts o = some o') : ∃ a r o1, ts = a :: r ∧ fieldW c a o = some o1 ∧ fieldsW cs r o1 = some o' := by
  cases ts with
  | nil => cases h
  | cons t ts =>
    obtain ⟨o1, h1, h2⟩ := Option.bind_eq_some_iff.1 (show (fieldW c t o).bind (fieldsW cs ts) = some o' from h)
    exact ⟨t, ts, o1, rfl, h1, h2⟩
section
variable {t : ByteArray} {o o1 : OpT}
theorem f_node (h : fieldW 110 t o = some o1) : ∃ n, o1 = { o with f1 := n } ∧ dg n = t ∧ n ≤ 9223372036854775807 := by
  obtain ⟨n, h1, rfl⟩ := map_some (show (numW t).map _ = some o1 from h)
  exact ⟨n, rfl, dg_back h1⟩
theorem f_peer (h : fieldW 112 t o = some o1) : ∃ n, o1 = { o with f2 := n } ∧ dg n = t ∧ n ≤ 9223372036854775807 := by
  obtain ⟨n, h1, rfl⟩ := map_some (show (numW t).map _ = some o1 from h)
  exact ⟨n, rfl, dg_back h1⟩
theorem f_place (h : fieldW 105 t o = some o1) : ∃ n, o1 = { o with f3 := n } ∧ dg n = t ∧ n ≤ 9223372036854775807 := by
  obtain ⟨n, h1, rfl⟩ := map_some (show (numW t).map _ = some o1 from h)
  exact ⟨n, rfl, dg_back h1⟩
theorem f_key (h : fieldW 107 t o = some o1) : ∃ s, o1 = { o with f4 := s } ∧ ⟨#[107]⟩ ++ hexB s = t ∧ s.size ≤ t.size := by
  obtain ⟨n, h1, rfl⟩ := map_some (show (bytW 107 t).map _ = some o1 from h)
  exact ⟨n, rfl, byt_back h1⟩
theorem f_value (h : fieldW 118 t o = some o1) : ∃ s, o1 = { o with f5 := s } ∧ ⟨#[61]⟩ ++ hexB s = t ∧ s.size ≤ t.size := by
  obtain ⟨n, h1, rfl⟩ := map_some (show (bytW 61 t).map _ = some o1 from h)
  exact ⟨n, rfl, byt_back h1⟩
theorem f_span (ht : t.size ≤ 400) (h : fieldW 114 t o = some o1) : ∃ r, o1 = { o with f6 := r } ∧ (prtV r.f0 r.f1 r.f2).1 = t ∧ r.f0.size ≤ 16 ∧ r.f1.size ≤ 16 := by
  obtain ⟨n, h1, rfl⟩ := map_some (show (spnW t).map _ = some o1 from h)
  exact ⟨n, rfl, spn_back ht h1⟩
end
theorem lookup_mem_self {s : ByteArray} {x : Int × List Nat} : ∀ {l : List (ByteArray × Int × List Nat)}, l.lookup s = some x → (s, x) ∈ l
  | [], h => by cases h
  | (k, y) :: l, h => by
    simp only [List.lookup_cons] at h
    cases hs : s == k with
    | true => rw [hs] at h; cases h; rw [(MapKept.bytes_beq _ _).1 hs]; exact List.mem_cons_self ..
    | false => rw [hs] at h; exact List.mem_cons_of_mem _ (lookup_mem_self h)
/-- A command that was read has the line's words. -/
theorem words_back {t : ByteArray} {ts : List ByteArray} {x : Int × List Nat} {o : OpT} (hx : lets.lookup t = some x) (hf : fieldsW x.2 ts { zOp with f0 := x.1 } = some o) (hs : ∀ y ∈ ts, y.size ≤ 400) :
    wsV o = some (t :: ts) ∧ OpB o ∧ o.f4.size ≤ 400 ∧ o.f5.size ≤ 400 := by
  have hm := lookup_mem_self hx
  simp only [lets, List.mem_cons, List.not_mem_nil, or_false, Prod.mk.injEq] at hm
  have z0 : (⟨#[]⟩ : ByteArray).size = 0 := rfl
  rcases hm with ⟨rfl, rfl⟩ | ⟨rfl, rfl⟩ | ⟨rfl, rfl⟩ | ⟨rfl, rfl⟩ | ⟨rfl, rfl⟩ | ⟨rfl, rfl⟩ | ⟨rfl, rfl⟩ | ⟨rfl, rfl⟩ | ⟨rfl, rfl⟩ | ⟨rfl, rfl⟩ | ⟨rfl, rfl⟩ | ⟨rfl, rfl⟩ | ⟨rfl, rfl⟩ | ⟨rfl, rfl⟩ | ⟨rfl, rfl⟩ | ⟨rfl, rfl⟩ | ⟨rfl, rfl⟩
  -- put
  · obtain ⟨a, r, o1, rfl, h1, hf⟩ := fields_cons hf
    obtain ⟨n, rfl, h2, h3⟩ := f_node h1
    obtain ⟨b, r, o2, rfl, h4, hf⟩ := fields_cons hf
    obtain ⟨k, rfl, h5, h6⟩ := f_key h4
    obtain ⟨c, r, o3, rfl, h7, hf⟩ := fields_cons hf
    obtain ⟨v, rfl, h8, h9⟩ := f_value h7
    obtain ⟨rfl, rfl⟩ := fields_nil hf
    have y1 := hs b (by simp)
    have y2 := hs c (by simp)
    refine ⟨?_, ⟨h3, by show (0 : Int) ≤ _; omega, by show (0 : Int) ≤ _; omega, by show k.size ≤ _; omega, by show v.size ≤ _; omega, by show (0 : Nat) ≤ _; omega, by show (0 : Nat) ≤ _; omega⟩, by show k.size ≤ _; omega, by show v.size ≤ _; omega⟩
    show some [⟨#[112, 117, 116]⟩, dg n, ⟨#[107]⟩ ++ hexB k, ⟨#[61]⟩ ++ hexB v] = _
    rw [h2, h5, h8]
  -- del, get
  iterate 2
    · obtain ⟨a, r, o1, rfl, h1, hf⟩ := fields_cons hf
      obtain ⟨n, rfl, h2, h3⟩ := f_node h1
      obtain ⟨b, r, o2, rfl, h4, hf⟩ := fields_cons hf
      obtain ⟨k, rfl, h5, h6⟩ := f_key h4
      obtain ⟨rfl, rfl⟩ := fields_nil hf
      have y1 := hs b (by simp)
      refine ⟨?_, ⟨h3, by show (0 : Int) ≤ _; omega, by show (0 : Int) ≤ _; omega, by show k.size ≤ _; omega, by show (0 : Nat) ≤ _; omega, by show (0 : Nat) ≤ _; omega, by show (0 : Nat) ≤ _; omega⟩, by show k.size ≤ _; omega, by show (0 : Nat) ≤ _; omega⟩
      show some [_, dg n, ⟨#[107]⟩ ++ hexB k] = _
      rw [h2, h5]
  -- scan, fold
  iterate 2
    · obtain ⟨a, r, o1, rfl, h1, hf⟩ := fields_cons hf
      obtain ⟨n, rfl, h2, h3⟩ := f_node h1
      obtain ⟨b, r, o2, rfl, h4, hf⟩ := fields_cons hf
      obtain ⟨k, rfl, h5, h6, h7⟩ := f_span (hs b (by simp)) h4
      obtain ⟨rfl, rfl⟩ := fields_nil hf
      refine ⟨?_, ⟨h3, by show (0 : Int) ≤ _; omega, by show (0 : Int) ≤ _; omega, by show (0 : Nat) ≤ _; omega, by show (0 : Nat) ≤ _; omega, by show k.f0.size ≤ _; omega, by show k.f1.size ≤ _; omega⟩, by show (0 : Nat) ≤ _; omega, by show (0 : Nat) ≤ _; omega⟩
      show some [_, dg n, (prtV k.f0 k.f1 k.f2).1] = _
      rw [h2, h5]
  -- open
  · obtain ⟨a, r, o1, rfl, h1, hf⟩ := fields_cons hf
    obtain ⟨n, rfl, h2, h3⟩ := f_node h1
    obtain ⟨b, r, o2, rfl, h4, hf⟩ := fields_cons hf
    obtain ⟨k, rfl, h5, h6⟩ := f_peer h4
    obtain ⟨rfl, rfl⟩ := fields_nil hf
    refine ⟨?_, ⟨h3, h6, by show (0 : Int) ≤ _; omega, by show (0 : Nat) ≤ _; omega, by show (0 : Nat) ≤ _; omega, by show (0 : Nat) ≤ _; omega, by show (0 : Nat) ≤ _; omega⟩, by show (0 : Nat) ≤ _; omega, by show (0 : Nat) ≤ _; omega⟩
    show some [_, dg n, dg k] = _
    rw [h2, h5]
  -- raw
  · obtain ⟨a, r, o1, rfl, h1, hf⟩ := fields_cons hf
    obtain ⟨n, rfl, h2, h3⟩ := f_node h1
    obtain ⟨b, r, o2, rfl, h4, hf⟩ := fields_cons hf
    obtain ⟨k, rfl, h5, h6⟩ := f_value h4
    obtain ⟨rfl, rfl⟩ := fields_nil hf
    have y1 := hs b (by simp)
    refine ⟨?_, ⟨h3, by show (0 : Int) ≤ _; omega, by show (0 : Int) ≤ _; omega, by show (0 : Nat) ≤ _; omega, by show k.size ≤ _; omega, by show (0 : Nat) ≤ _; omega, by show (0 : Nat) ≤ _; omega⟩, by show (0 : Nat) ≤ _; omega, by show k.size ≤ _; omega⟩
    show some [_, dg n, ⟨#[61]⟩ ++ hexB k] = _
    rw [h2, h5]
  -- tick, crash, start, map, talks, count
  iterate 6
    · obtain ⟨a, r, o1, rfl, h1, hf⟩ := fields_cons hf
      obtain ⟨n, rfl, h2, h3⟩ := f_node h1
      obtain ⟨rfl, rfl⟩ := fields_nil hf
      refine ⟨?_, ⟨h3, by show (0 : Int) ≤ _; omega, by show (0 : Int) ≤ _; omega, by show (0 : Nat) ≤ _; omega, by show (0 : Nat) ≤ _; omega, by show (0 : Nat) ≤ _; omega, by show (0 : Nat) ≤ _; omega⟩, by show (0 : Nat) ≤ _; omega, by show (0 : Nat) ≤ _; omega⟩
      show some [_, dg n] = _
      rw [h2]
  -- go, drop, twice
  iterate 3
    · obtain ⟨a, r, o1, rfl, h1, hf⟩ := fields_cons hf
      obtain ⟨n, rfl, h2, h3⟩ := f_place h1
      obtain ⟨rfl, rfl⟩ := fields_nil hf
      refine ⟨?_, ⟨by show (0 : Int) ≤ _; omega, by show (0 : Int) ≤ _; omega, h3, by show (0 : Nat) ≤ _; omega, by show (0 : Nat) ≤ _; omega, by show (0 : Nat) ≤ _; omega, by show (0 : Nat) ≤ _; omega⟩, by show (0 : Nat) ≤ _; omega, by show (0 : Nat) ≤ _; omega⟩
      show some [_, dg n] = _
      rw [h2]
  -- bag
  · obtain ⟨rfl, rfl⟩ := fields_nil hf
    exact ⟨rfl, ⟨by show (0 : Int) ≤ _; omega, by show (0 : Int) ≤ _; omega, by show (0 : Int) ≤ _; omega, by show (0 : Nat) ≤ _; omega, by show (0 : Nat) ≤ _; omega, by show (0 : Nat) ≤ _; omega, by show (0 : Nat) ≤ _; omega⟩, by show (0 : Nat) ≤ _; omega, by show (0 : Nat) ≤ _; omega⟩
/-- A line that is a command: its words are the command's. -/
theorem par_words {s : ByteArray} {o : OpT} (h : parW s = some o) : s.size ≤ 400 ∧ wsV o = some (piecesB s 32) ∧ OpB o ∧ o.f4.size ≤ 400 ∧ o.f5.size ≤ 400 := by
  unfold parW at h
  split at h
  · cases h
  · rename_i hs
    have hsh := (piecesB_short s 32 (by omega)).1
    cases hp : piecesB s 32 with
    | nil => rw [hp] at h; cases h
    | cons t ts =>
      rw [hp] at h hsh
      obtain ⟨x, hx, hf⟩ := Option.bind_eq_some_iff.1 (show (lets.lookup t).bind _ = some o from h)
      obtain ⟨h1, h2⟩ := words_back hx hf fun y hy => hsh y (List.mem_cons_of_mem _ hy)
      exact ⟨by omega, h1, h2⟩
theorem print_back {s : ByteArray} {o : OpT} (h : parW s = some o) : printV o = (s, 0) := by
  obtain ⟨h1, h2, h3, h4, h5⟩ := par_words h
  have ha : ansW s = (o, 0) := by unfold ansW; rw [h]
  unfold printV
  rw [if_neg (by omega), if_neg (by omega), h2]
  simp only [join_back, ha, and_self, if_true]
/-- What a line says is within the bounds, be it a command or none. -/
theorem ans_B (s : ByteArray) : OpB (ansW s).1 := by
  unfold ansW
  cases h : parW s with
  | none => exact ⟨by show (0 : Int) ≤ _; omega, by show (0 : Int) ≤ _; omega, by show (0 : Int) ≤ _; omega, by show (0 : Nat) ≤ _; omega, by show (0 : Nat) ≤ _; omega, by show (0 : Nat) ≤ _; omega, by show (0 : Nat) ≤ _; omega⟩
  | some o => exact (par_words h).2.2.1
/-- A line that is a command is written so again. -/
theorem ans_back {s : ByteArray} (h : (ansW s).2 = 0) : printV (ansW s).1 = (s, 0) := by
  unfold ansW at h ⊢
  cases hp : parW s with
  | none => rw [hp] at h; exact absurd h (by decide)
  | some o => exact print_back hp
end Go.Proofs.YtodmbjbfigifnaaDoor.Sc
end
