/- For every list of commands, every list of gaps and either end the law ScriptBack answers true: commands that have texts, written line by line, are read again. Its condition: the package-level variables that it reads (tables of strconv, math/bits and unicode/utf8, ErrRange, ErrSyntax) hold what start-up laid in them, which the card ties to the program's text, and the form's own reach. -/
import Derived.Test.YtodmbjbfigifnaaGreatDoorProg
import Derived.Test.YtodmbjbfigifnaaGreatDoorG0
import Derived.Test.YtodmbjbfigifnaaGreatDoorG6
import Derived.Below
import Derived.RangeFuncBox
import Derived.BigQuiet
import Derived.Lib.Hide
import Derived.Tactics
import Derived.WalkKit
import Derived.OwnWalk
import Derived.WalkSmall
import Derived.WalkLawsBesides
import Derived.Laws.Slices
import Derived.Test.YtodmbjbfigifnaaGreatDoorG3
import Derived.Test.YtodmbjbfigifnaaGreatDoorG7
import Derived.Test.YtodmbjbfigifnaaGreatDoorG4
import Derived.Test.YtodmbjbfigifnaaGreatDoorG8
import Derived.Lib.Join
import Derived.Test.YtodmbjbfigifnaaGreatDoorRows
import Derived.Test.YtodmbjbfigifnaaGreatDoorCards
import Derived.Test.YtodmbjbfigifnaaGreatDoorTie
import Derived.ProofKit
import Derived.OpenShut
import Derived.ShutString
import Derived.ChangeOld
import Derived.SizedLaws
import Derived.Carry
import Derived.LaidMore
import Derived.Lay
import Derived.Lib.LaidTab
import Derived.Stop.LaidErr
import Derived.Stop.Joined
import Derived.SevenTiedAt
set_option linter.unusedVariables false
set_option linter.unusedSimpArgs false
namespace Go.Proofs.YtodmbjbfigifnaaGreatDoor.Sc
open Go.RowKit Go.Proofs.YtodmbjbfigifnaaGreatDoor.Glob Go.Proofs.YtodmbjbfigifnaaGreatDoorW.PrintWords Go.Proofs.YtodmbjbfigifnaaGreatDoor.AppSrc Go.Proofs.YtodmbjbfigifnaaGreatDoor.PAll Go.Proofs.YtodmbjbfigifnaaGreatDoor.Pure
def rvO (l : List OpT) : List Value := l.flatMap opC
theorem rvO_len (l : List OpT) : (rvO l).length = l.length * 9 := by
  induction l with
  | nil => rfl
  | cons x l ih =>
    have : rvO (x :: l) = opC x ++ rvO l := rfl
    rw [this, List.length_append, ih, List.length_cons]
    simp only [opC, List.length_cons, List.length_nil]
    omega
theorem infoO : ∃ i z, Tryz.prog.info? 25 = some i ∧ i.zero = some z ∧ i.size = 9 ∧ i.bytes = 104 ∧ z.cells.size = 9 := by
  have h : (Tryz.prog.info? 25).map (fun i => (i.zero, i.size, i.bytes)) = some (some (.agg #[.int .i64 0, .int .i64 0, .int .i64 0, .int .i64 0, .string ⟨#[]⟩, .string ⟨#[]⟩, .string ⟨#[]⟩, .string ⟨#[]⟩, .bool false]), 9, 104) := by kernel_rfl
  obtain ⟨i0, hi, hz⟩ := Option.map_eq_some_iff.1 h
  simp only [Prod.mk.injEq] at hz
  exact ⟨i0, _, hi, hz.1, hz.2.1, hz.2.2, rfl⟩
theorem srcOp (w : World) (o : OpT) : Src Tryz.prog 9 33 (.slice (some ⟨w.heap.size, 0, none⟩) 1 1) 1 (opC o) (w.alloc (.cells (opC o).toArray 25)) := by
  refine Src.ofSlice _ Tryz.underlying33 ⟨w.heap.size, 0, none⟩ 1 1 _ rfl (fun j u hj => ?_) (by intro u hu; simp only [opC, List.mem_cons, List.not_mem_nil, or_false] at hu; rcases hu with rfl | rfl | rfl | rfl | rfl | rfl | rfl | rfl | rfl <;> rfl)
  rw [add_plain, blk_cell (heap_alloc_new _ _) _]
  simpa using hj
theorem oneO_run {w : World} {base : Nat} {v : Value} {l : List OpT} (o : OpT) (h : w.ownsRow base 25 9 v l.length (rvO l)) (hbase : base ≤ w.heap.size) (hl : l.length ≤ 4000) :
    ∃ v' w1, (Builtin.append_ #[33, 33] 33 #[v, .slice (some ⟨w.heap.size, 0, none⟩) 1 1]).run Tryz.prog (w.alloc (.cells (opC o).toArray 25)) = .ok v' w1 ∧ w1.ownsRow base 25 9 v' (l ++ [o]).length (rvO (l ++ [o])) ∧ Below base w w1 := by
  obtain ⟨i0, z, hi, hz0, hz1, hz2, hz3⟩ := infoO
  have hb0 : Below w.heap.size w (w.alloc (.cells (opC o).toArray 25)) := below_alloc (Below.refl _ _) _
  obtain ⟨v', w1, hr, h1, h2, h3⟩ := run_append_own_src (P := Tryz.prog) (w.alloc (.cells (opC o).toArray 25)) base 33 33 33 25 i0 z 9 104 Tryz.underlying33 hi hz0 hz1 hz2 hz3 (by decide) v l.length (rvO l) (pw_own_below h hb0) _ 1 _ (srcOp w o) (by simp only [maxLen]; omega) (by omega) (Nat.le_trans hbase hb0.size)
  have e : rvO l ++ opC o = rvO (l ++ [o]) := by simp [rvO]
  rw [e] at h1
  have hne : ∀ k, k < base → some k ≠ v.ownBlock := by
    intro k hk e'
    rcases h.2 with ⟨e2, _⟩ | ⟨g, cap, cur, e2, hg, _⟩
    · rw [e2] at e'; simp [Value.ownBlock] at e'
    · rw [e2] at e'
      have : g = k := by simpa [Value.ownBlock] using e'.symm
      omega
  have hb : Below base w w1 := (hb0.mono hbase).trans ⟨h2.os, h2.tape, h2.output, h2.size, fun k hk => h2.block k (by have := hb0.size; omega) (hne k hk)⟩
  exact ⟨v', w1, hr, by simpa using h1, hb⟩
/-- What a text's lines say. -/
def readL : List ByteArray → Nat → List OpT → List OpT × Int × Int
  | [], _, acc => (acc, 0, 0)
  | t :: ts, i, acc => if t.toList = [] then readL ts (i + 1) acc else match parW t with
    | none => ([], (i : Int) + 1, 210)
    | some o => if acc.length = 4000 then ([], (i : Int) + 1, 210) else readL ts (i + 1) (acc ++ [o])
theorem readL_step {ts : List ByteArray} {k : Nat} {acc : List OpT} (h : k < ts.length) : readL (ts.drop k) k acc = if ts[k].toList = [] then readL (ts.drop (k + 1)) (k + 1) acc else match parW ts[k] with
    | none => ([], (k : Int) + 1, 210)
    | some o => if acc.length = 4000 then ([], (k : Int) + 1, 210) else readL (ts.drop (k + 1)) (k + 1) (acc ++ [o]) := by
  rw [List.drop_eq_getElem_cons h]; rfl
theorem readL_end {ts : List ByteArray} {k : Nat} {acc : List OpT} (h : ¬ k < ts.length) : readL (ts.drop k) k acc = (acc, 0, 0) := by
  rw [List.drop_of_length_le (by omega)]; rfl
/-- How far a reading of lines has come. -/
structure Rl (w2 W : World) (v : Value) (ws : List ByteArray) (k : Nat) (acc : List OpT) (fin : List OpT × Int × Int) : Prop where
  row : W.ownsRow w2.heap.size 25 9 v acc.length (rvO acc)
  be : Below w2.heap.size w2 W
  few : acc.length ≤ 4000
  rest : readL (ws.drop k) k acc = fin
theorem own_slice {W : World} {base : Nat} {v : Value} {l : List OpT} (h : W.ownsRow base 25 9 v l.length (rvO l)) : ∃ A c, v = .slice A l.length c := by
  rcases h.2 with ⟨rfl, h0⟩ | ⟨g, cap, cur, rfl, _⟩
  · exact ⟨_, _, by rw [h0]⟩
  · exact ⟨_, _, rfl⟩
theorem own_less {W : World} {base g : Nat} {v : Value} {n : Nat} {l : List Value} (h : W.ownsRow base 25 9 v n l) (hb : g ≤ base) : W.ownsRow g 25 9 v n l := by
  obtain ⟨hl, h⟩ := h
  refine ⟨hl, ?_⟩
  rcases h with h | ⟨b, cap, cur, hv, hg, hr⟩
  · exact .inl h
  · exact .inr ⟨b, cap, cur, hv, Nat.le_trans hb hg, hr⟩
theorem Rl.then {w2 W W' : World} {v : Value} {ws : List ByteArray} {k : Nat} {acc : List OpT} {fin : List OpT × Int × Int} (h : Rl w2 W v ws k acc fin) (hb : Below W.heap.size W W') : Rl w2 W' v ws k acc fin := ⟨pw_own_below h.row hb, below_step h.be hb, h.few, h.rest⟩
theorem nil_own (W : World) (base : Nat) : W.ownsRow base 25 9 (.slice none 0 0) ([] : List OpT).length (rvO []) := World.ownsRow_nil _ _ _ _
theorem ansW_some {s : ByteArray} {o : OpT} (h : parW s = some o) : ansW s = (o, 0) := by unfold ansW; rw [h]
theorem ansW_none {s : ByteArray} (h : parW s = none) : ansW s = (zOp, 210) := by unfold ansW; rw [h]
set_option maxRecDepth 100000 in
set_option maxHeartbeats 2500000 in
theorem read_calls (s : ByteArray) (hs : s.size ≤ 1073741824) (w : World) (hG : GlobOK w) : Calls Tryz.prog 10 #[.string s] w fun e w' => ∃ v, e = .returned (.tuple #[v, .int .i64 (readL (piecesB s 10) 0 []).2.1, .int .i64 (readL (piecesB s 10) 0 []).2.2]) ∧ w'.ownsRow w.heap.size 25 9 v (readL (piecesB s 10) 0 []).1.length (rvO (readL (piecesB s 10) 0 []).1) ∧ Below w.heap.size w w' := by
  have hsp := split_calls s 10 (by omega) w hG
  have hlen : (piecesB s 10).length ≤ s.size + 1 := by
    unfold piecesB
    rw [List.length_map]
    have := pieces_len 10 s.data.toList
    have hl : s.data.toList.length = s.size := Array.length_toList
    omega
  generalize piecesB s 10 = ws at *
  have HG := Aside0.mk hG
  have HLEN := Aside0.mk hlen
  have HSZ := Aside0.mk hs
  clear hG hlen hs
  go_enter Tryz.func10, Tryz.ntmps10
  go_wp2_with (go_at_call 21; refine hsp.mono ?_; rintro e w2 ⟨rfl, hw2⟩; have HW2 := Aside0.mk hw2; clear hw2)
  go_loopw [5, 13] (fun l i wr => ∃ k : Nat, i = .int .i64 (k : Int) ∧ k ≤ ws.length ∧ ∃ acc, Rl w2 wr l ws k acc (readL ws 0 [])) (fun _ i _ => ws.length - (intOf i).toNat)
  case atStart => exact ⟨0, rfl, Nat.zero_le _, [], World.ownsRow_nil _ _ _ _, Below.refl _ _, Nat.zero_le _, rfl⟩
  case round =>
    obtain ⟨k, rfl, hk, acc, hR⟩ := hrel
    obtain ⟨A, cc, rfl⟩ := own_slice hR.row
    have f1 : (0 : Int) ≤ (k : Int) := by omega
    have e1 : IntKind.i64.wrap ((k : Int) + 1) = (k : Int) + 1 := IntWalk.i64_in _ (by have := HLEN.out; have := HSZ.out; omega)
    have HB0 : Aside0 (Below w.heap.size w w2) := ⟨by rw [HW2.out]; exact below_alloc (Below.refl _ _) _⟩
    by_cases hlt : (k : Int) < (ws.length : Int)
    · have hk1 : k < ws.length := by omega
      have hrest := hR.rest
      rw [readL_step hk1] at hrest
      have hrow : w2.heap[w.heap.size]? = some (.cells (ws.map Value.string).toArray 9 (0, 0)) := by rw [HW2.out]; exact heap_alloc_new _ _
      have hcell : wr.cell? ⟨w.heap.size, k, none⟩ = some (.string ws[k]) := by
        rw [blk_cell (blk_below hrow hR.be) k, List.getElem?_toArray, List.getElem?_map, List.getElem?_eq_getElem hk1]; rfl
      generalize ws[k] = x at hrest hcell
      have HR := Aside0.mk hR
      have HRS := Aside0.mk hrest
      have hGx : GlobOK wr := HG.out.below (below_step HB0.out hR.be)
      have hpc := parse_calls x wr hGx
      clear hR hrest hrow hk1 hGx
      by_cases ht : x.toList = []
      · have hq : (x.toList == []) = true := by rw [ht]; rfl
        have HR2 : Aside0 (Rl w2 wr (.slice A acc.length cc) ws (k + 1) acc (readL ws 0 [])) := ⟨⟨HR.out.row, HR.out.be, HR.out.few, by have h := HRS.out; rw [if_pos ht] at h; exact h⟩⟩
        clear hpc
        go_wp2
        exact ⟨⟨k + 1, by first | rfl | simp | omega, by omega, acc, HR2.out⟩, by simp [intOf]; omega⟩
      · have hq : (x.toList == []) = false := by rw [beq_eq_false_iff_ne]; exact ht
        have hrest := HRS.out
        rw [if_neg ht] at hrest
        cases hp : parW x with
        | none =>
          rw [ansW_none hp] at hpc
          rw [hp] at hrest
          have hrest' : (([], (k : Int) + 1, 210) : List OpT × Int × Int) = readL ws 0 [] := hrest
          have hpc' : Calls Tryz.prog 9 #[.string x] wr fun e w' => e = .returned (.tuple #[opX zOp, .int .i64 210]) ∧ Below wr.heap.size wr w' := hpc
          have HFIN := Aside0.mk hrest'
          clear hpc hrest hrest' hp
          go_wp2_with (go_at_call 9; refine hpc'.mono ?_; rintro e w6 ⟨rfl, hb⟩; have HB6 := Aside0.mk (below_step (below_step HB0.out HR.out.be) hb); clear hb)
          go_ret3
          rw [← HFIN.out]
          exact ⟨_, rfl, nil_own _ _, below_alloc HB6.out _⟩
        | some o =>
          rw [ansW_some hp] at hpc
          rw [hp] at hrest
          have hpc' : Calls Tryz.prog 9 #[.string x] wr fun e w' => e = .returned (.tuple #[opX o, .int .i64 0]) ∧ Below wr.heap.size wr w' := hpc
          by_cases hf : acc.length = 4000
          · have hq2 : ((acc.length : Int) == 4000) = true := by rw [hf]; rfl
            have hrest' : (([], (k : Int) + 1, 210) : List OpT × Int × Int) = readL ws 0 [] := by simpa [hf] using hrest
            have HFIN := Aside0.mk hrest'
            have HF := Aside0.mk hf
            clear hpc hrest hrest' hp hf
            go_wp2_with (go_at_call 9; refine hpc'.mono ?_; rintro e w6 ⟨rfl, hb⟩; have HB6 := Aside0.mk (below_step (below_step HB0.out HR.out.be) hb); clear hb)
            go_ret3
            rw [← HFIN.out]
            exact ⟨_, rfl, nil_own _ _, below_alloc HB6.out _⟩
          · have hq2 : ((acc.length : Int) == 4000) = false := by rw [beq_eq_false_iff_ne]; omega
            have hrest' : readL (ws.drop (k + 1)) (k + 1) (acc ++ [o]) = readL ws 0 [] := by simpa [hf] using hrest
            have HFIN := Aside0.mk hrest'
            have HF := Aside0.mk hf
            clear hpc hrest hrest' hp hf
            go_wp2_with (first | (at_builtin; refine wpList_append_run rfl rfl rfl rfl HRUN.out ?_) | (go_at_call 9; refine hpc'.mono ?_; rintro e w6 ⟨rfl, hb⟩; (have HR6 := Aside0.mk (HR.out.then (below_alloc hb (.cells (opC o).toArray 25))); have hr0 := oneO_run o HR6.out.row HR6.out.be.size (by have := HR6.out.few; omega); rcases hr0 with ⟨v', w7, hr, hO7, hB7⟩; rw [World.size_alloc] at hr; simp only [opC] at hr; have HRUN := Aside0.mk hr; have HO7 := Aside0.mk hO7; have HB7 := Aside0.mk hB7; clear hb hr hO7 hB7)))
            exact ⟨⟨k + 1, by first | rfl | simp | omega, by omega, acc ++ [o], HO7.out, HR6.out.be.trans HB7.out, by have := HF.out; have := HR6.out.few; rw [List.length_append, List.length_singleton]; omega, HFIN.out⟩, by simp [intOf]; omega⟩
    · have hrest := hR.rest
      rw [readL_end (by omega)] at hrest
      have HFIN := Aside0.mk hrest
      have HR := Aside0.mk hR
      clear hR hrest
      go_wp2
      go_ret3
      rw [← HFIN.out]
      exact ⟨_, rfl, own_less HR.out.row HB0.out.size, below_step HB0.out HR.out.be⟩
end Go.Proofs.YtodmbjbfigifnaaGreatDoor.Sc
set_option linter.unusedVariables false
namespace Go.Proofs.YtodmbjbfigifnaaGreatDoor.PAll
open Go.RowKit Go.Proofs.YtodmbjbfigifnaaGreatDoor.Glob Go.Proofs.YtodmbjbfigifnaaGreatDoor.Sc Go.Proofs.YtodmbjbfigifnaaGreatDoor.Pure Go.Proofs.YtodmbjbfigifnaaGreatDoorW.PrintWords
theorem rvO_cut : ∀ (l : List S25) (j : Nat) (p : S25), l[j]? = some p → ((rvO l).drop (j * 9)).take 9 = opC p
  | x :: l, 0, p, h => by
    obtain rfl : x = p := by simpa using h
    rfl
  | x :: l, j + 1, p, h => by
    rw [List.getElem?_cons_succ] at h
    have ih := rvO_cut l j p h
    have e : rvO (x :: l) = opC x ++ rvO l := rfl
    have hl : (opC x).length = 9 := rfl
    rw [e, List.drop_append, List.drop_of_length_le (by omega), List.nil_append, hl, show (j + 1) * 9 - 9 = j * 9 by omega]
    exact ih
theorem read_R {W : World} {base : Nat} {v : Value} {l : List S25} (h : W.ownsRow base 25 9 v l.length (rvO l)) : Kd.R k25 25 W base (fun _ => True) v l := by
  refine ⟨fun _ _ => trivial, rvO l, h, rvO_len l, fun j p hj => ?_⟩
  show k25.M _ _ _ _ (((rvO l).drop (j * 9)).take 9)
  rw [rvO_cut l j p hj]
  exact k25_mkM _ _ _ p
def script_Read.f (a0 : ByteArray) : Option (List S25 × Int × Int) := if a0.size ≤ 1073741824 then some (readL (piecesB a0 10) 0 []) else none
theorem script_Read.calls (a0 : ByteArray) (r1 : List S25) (r2 r3 : Int) (w : World) (hG : GlobOK w) (h : script_Read.f a0 = some (r1, r2, r3)) :
    Calls Tryz.prog 10 #[.string a0] w fun e w' => ∃ v0_ : Value, e = .returned (.tuple #[v0_, .int .i64 r2, .int .i64 r3]) ∧ Kd.R k25 25 w' w.heap.size (fun _ => True) v0_ r1 ∧ Below w.heap.size w w' := by
  unfold script_Read.f at h
  by_cases hs : a0.size ≤ 1073741824
  · rw [if_pos hs] at h
    have hr := read_calls a0 hs w hG
    rw [Option.some.inj h] at hr
    refine hr.mono ?_
    rintro e w' ⟨v, rfl, ho, hb⟩
    exact ⟨v, rfl, read_R ho, hb⟩
  · rw [if_neg hs] at h; cases h
end Go.Proofs.YtodmbjbfigifnaaGreatDoor.PAll
namespace Go.Proofs.YtodmbjbfigifnaaGreatDoor.PAll
open Go.RowKit Go.Proofs.YtodmbjbfigifnaaGreatDoorW.PrintWords Go.Proofs.YtodmbjbfigifnaaGreatDoorW.PrintLast Go.Proofs.YtodmbjbfigifnaaGreatDoorW.PrintMore
attribute [local go_sem] max2_int min2_int max_two min_two max_three min_three max_four min_four   -- for this text's walks alone
set_option linter.unusedVariables false
set_option linter.unusedSimpArgs false
attribute [local go_sem high] eqA25
def tidelinelaw21_same.l0 : Nat → List (S25) → List (S25) → Int → Option (Bool)
  | 0, _, _, _ => none
  | k + 1, x0, x1, x5 => if x5 < (x0.length : Int) then (if 0 ≤ x5 then (if x5 < (x1.length : Int) then (if (!(((rd_T25 x0 x5).f0) == ((rd_T25 x1 x5).f0)) || (!(((rd_T25 x0 x5).f1) == ((rd_T25 x1 x5).f1)) || (!(((rd_T25 x0 x5).f2) == ((rd_T25 x1 x5).f2)) || (!(((rd_T25 x0 x5).f3) == ((rd_T25 x1 x5).f3)) || (!((((rd_T25 x0 x5).f4).toList) == (((rd_T25 x1 x5).f4).toList)) || (!((((rd_T25 x0 x5).f5).toList) == (((rd_T25 x1 x5).f5).toList)) || ((!((((rd_T25 x0 x5).f6.f0).toList) == (((rd_T25 x1 x5).f6.f0).toList)) || (!((((rd_T25 x0 x5).f6.f1).toList) == (((rd_T25 x1 x5).f6.f1).toList)) || (!(((rd_T25 x0 x5).f6.f2) == ((rd_T25 x1 x5).f6.f2)))))))))))) = true then (some false) else (tidelinelaw21_same.l0 k x0 x1 (wrap64 (x5 + 1)))) else (none)) else (none)) else (some true)
def tidelinelaw21_same.f (k : Nat) (l0 : List (S25)) (l1 : List (S25)) : Option (Bool) := if (l0.length : Int) = (l1.length : Int) then (tidelinelaw21_same.l0 k l0 l1 0) else (some false)
theorem tidelinelaw21_same.mono_l : ∀ k, (∀ y0 y1 y2, LeO (tidelinelaw21_same.l0 k y0 y1 y2) (tidelinelaw21_same.l0 (k + 1) y0 y1 y2))
  | 0 => fun _ _ _ r h => by simp [tidelinelaw21_same.l0] at h
  | k + 1 => by
    have ih0 := tidelinelaw21_same.mono_l k
    · intro y0 y1 y2
      unfold tidelinelaw21_same.l0
      repeat' first
      | (with_reducible exact ih0 _ _ _)
      | (with_reducible exact LeO.refl _)
      | (with_reducible exact LeO.none _)
      | (with_reducible refine LeO.ite ?_ ?_)
      | (with_reducible refine LeO.bind ?_ (fun _ => ?_))
      | exact ih0 _ _ _
      | exact LeO.none _
      | refine LeO.ite ?_ ?_
      | refine LeO.bind ?_ (fun _ => ?_)
theorem tidelinelaw21_same.mono : ∀ a0 a1 k, LeO (tidelinelaw21_same.f k a0 a1) (tidelinelaw21_same.f (k + 1) a0 a1) := by
  intro a0 a1 k
  have ih0 := tidelinelaw21_same.mono_l k
  unfold tidelinelaw21_same.f
  repeat' first
      | (with_reducible exact ih0 _ _ _)
      | (with_reducible exact LeO.refl _)
      | (with_reducible exact LeO.none _)
      | (with_reducible refine LeO.ite ?_ ?_)
      | (with_reducible refine LeO.bind ?_ (fun _ => ?_))
      | exact ih0 _ _ _
      | exact LeO.none _
      | refine LeO.ite ?_ ?_
      | refine LeO.bind ?_ (fun _ => ?_)
set_option maxHeartbeats 8000000 in
set_option maxRecDepth 100000 in
theorem tidelinelaw21_same.calls (k : Nat) (A0 : Option Addr) (c0 : Nat) (l0 : List (S25)) (A1 : Option Addr) (c1 : Nat) (l1 : List (S25)) (r : Bool) (w : World) (hr0 : Kd.C k25 w A0 l0.length l0) (hc0 : l0.length ≤ c0) (hr1 : Kd.C k25 w A1 l1.length l1) (hc1 : l1.length ≤ c1) (h : tidelinelaw21_same.f k l0 l1 = some r) :
    Calls Tryz.prog 11 #[.slice A0 l0.length c0, .slice A1 l1.length c1] w fun e w' => e = .returned (.bool r) ∧ Drawn0 w w' := by
  have hu25 := Tryz.underlying25
  have HR0 := Aside0.mk hr0
  have HC0 := Aside0.mk hc0
  clear hr0 hc0
  have HR1 := Aside0.mk hr1
  have HC1 := Aside0.mk hc1
  clear hr1 hc1
  have H : (if (l0.length : Int) = (l1.length : Int) then (tidelinelaw21_same.l0 k l0 l1 0) else (some false)) = some r := h
  clear h
  by_cases c3 : (l0.length : Int) = (l1.length : Int)
  · rw [if_pos c3] at H
    have c3b0 : ((l0.length : Int) == (l1.length : Int)) = true := beq_iff_eq.mpr c3
    have c3b1 : ((l0.length : Int) != (l1.length : Int)) = false := bne_eq_false_iff_eq.mpr c3
    have c3b2 : (l0.length == l1.length) = true := by first | simpa using c3 | (simp at c3 ⊢; omega)
    clear c3
    have H' := Aside0.mk H
    clear H
    go_enter Tryz.func11, Tryz.ntmps11
    go_wp2
    repeat (go_quiet (fail); try go_wp2)
    go_loopg [5] k (fun kq v5 w' => ∃ (x5_1 : Int), v5 = .int .i64 x5_1 ∧ Aside0 (tidelinelaw21_same.l0 kq l0 l1 x5_1 = some r) ∧ Aside0 (kq ≤ k) ∧ Drawn0 w w')
    case atStart => exact ⟨(0), (by first | rfl | (simp; done) | (simp [*]; done) | (simp [*, Go.Proofs.YtodmbjbfigifnaaGreatDoor.Str.bne_nil]; done)), H', ⟨Nat.le_refl _⟩, by repeat (first | exact Drawn0.refl _ | apply Drawn0.step)⟩
    case round =>
      clear H'
      try clear c1
      try clear p2
      try clear c3
      try clear c3b0
      try clear c3b1
      try clear c3b2
      obtain ⟨x5_1, rfl, HA, HK1, ⟨m1, rfl⟩⟩ := hrel
      cases gk with
      | zero => exact absurd HA.out (by simp [tidelinelaw21_same.l0])
      | succ k1 =>
        have H := HA.out
        clear HA
        simp only [tidelinelaw21_same.l0] at H
        by_cases c4 : x5_1 < (l0.length : Int)
        · rw [if_pos c4] at H
          have c4b0 : decide (x5_1 < (l0.length : Int)) = true := decide_eq_true c4
          clear c4
          by_cases c5 : 0 ≤ x5_1
          · rw [if_pos c5] at H
            have c5b0 : decide (0 ≤ x5_1) = true := decide_eq_true c5
            clear c5
            by_cases c6 : x5_1 < (l1.length : Int)
            · rw [if_pos c6] at H
              have c6b0 : decide (x5_1 < (l1.length : Int)) = true := decide_eq_true c6
              clear c6
              by_cases c7 : (!(((rd_T25 l0 x5_1).f0) == ((rd_T25 l1 x5_1).f0)) || (!(((rd_T25 l0 x5_1).f1) == ((rd_T25 l1 x5_1).f1)) || (!(((rd_T25 l0 x5_1).f2) == ((rd_T25 l1 x5_1).f2)) || (!(((rd_T25 l0 x5_1).f3) == ((rd_T25 l1 x5_1).f3)) || (!((((rd_T25 l0 x5_1).f4).toList) == (((rd_T25 l1 x5_1).f4).toList)) || (!((((rd_T25 l0 x5_1).f5).toList) == (((rd_T25 l1 x5_1).f5).toList)) || ((!((((rd_T25 l0 x5_1).f6.f0).toList) == (((rd_T25 l1 x5_1).f6.f0).toList)) || (!((((rd_T25 l0 x5_1).f6.f1).toList) == (((rd_T25 l1 x5_1).f6.f1).toList)) || (!(((rd_T25 l0 x5_1).f6.f2) == ((rd_T25 l1 x5_1).f6.f2)))))))))))) = true
              · rw [if_pos c7] at H
                have c7b0 : (!(((rd_T25 l0 x5_1).f0) == ((rd_T25 l1 x5_1).f0)) || (!(((rd_T25 l0 x5_1).f1) == ((rd_T25 l1 x5_1).f1)) || (!(((rd_T25 l0 x5_1).f2) == ((rd_T25 l1 x5_1).f2)) || (!(((rd_T25 l0 x5_1).f3) == ((rd_T25 l1 x5_1).f3)) || (!((((rd_T25 l0 x5_1).f4).toList) == (((rd_T25 l1 x5_1).f4).toList)) || (!((((rd_T25 l0 x5_1).f5).toList) == (((rd_T25 l1 x5_1).f5).toList)) || ((!((((rd_T25 l0 x5_1).f6.f0).toList) == (((rd_T25 l1 x5_1).f6.f0).toList)) || (!((((rd_T25 l0 x5_1).f6.f1).toList) == (((rd_T25 l1 x5_1).f6.f1).toList)) || (!(((rd_T25 l0 x5_1).f6.f2) == ((rd_T25 l1 x5_1).f6.f2)))))))))))) = true := c7
                clear c7
                obtain rfl := Option.some.inj H
                have p240 : 0 ≤ (x5_1 : Int) := of_decide_eq_true (by first | (with_reducible assumption) | assumption)
                have q240 : x5_1 < (l0.length : Int) := of_decide_eq_true (by first | (with_reducible assumption) | assumption)
                obtain ⟨ad240, e240, hx240_0, hx240_1, hx240_2, hx240_3, hx240_4, hx240_5, hx240_6, hx240_7, hx240_8⟩ := at_T25 HR0.out x5_1 p240 q240
                cases e240
                replace p240 := eq_true p240
                replace q240 := eq_true q240
                have p241 : 0 ≤ (x5_1 : Int) := of_decide_eq_true (by first | (with_reducible assumption) | assumption)
                have q241 : x5_1 < (l1.length : Int) := of_decide_eq_true (by first | (with_reducible assumption) | assumption)
                obtain ⟨ad241, e241, hx241_0, hx241_1, hx241_2, hx241_3, hx241_4, hx241_5, hx241_6, hx241_7, hx241_8⟩ := at_T25 HR1.out x5_1 p241 q241
                cases e241
                replace p241 := eq_true p241
                replace q241 := eq_true q241
                go_wp2
                repeat (go_quiet (fail); try go_wp2)
                go_ret
                exact ⟨by first | rfl | (simp; done) | (simp [*]; done) | (simp [*, Go.Proofs.YtodmbjbfigifnaaGreatDoor.Str.bne_nil]; done), by repeat (first | exact Drawn0.refl _ | apply Drawn0.step)⟩
              · rw [if_neg c7] at H
                have c7b0 : (!(((rd_T25 l0 x5_1).f0) == ((rd_T25 l1 x5_1).f0)) || (!(((rd_T25 l0 x5_1).f1) == ((rd_T25 l1 x5_1).f1)) || (!(((rd_T25 l0 x5_1).f2) == ((rd_T25 l1 x5_1).f2)) || (!(((rd_T25 l0 x5_1).f3) == ((rd_T25 l1 x5_1).f3)) || (!((((rd_T25 l0 x5_1).f4).toList) == (((rd_T25 l1 x5_1).f4).toList)) || (!((((rd_T25 l0 x5_1).f5).toList) == (((rd_T25 l1 x5_1).f5).toList)) || ((!((((rd_T25 l0 x5_1).f6.f0).toList) == (((rd_T25 l1 x5_1).f6.f0).toList)) || (!((((rd_T25 l0 x5_1).f6.f1).toList) == (((rd_T25 l1 x5_1).f6.f1).toList)) || (!(((rd_T25 l0 x5_1).f6.f2) == ((rd_T25 l1 x5_1).f6.f2)))))))))))) = false := by simpa using c7
                clear c7
                have H' := Aside0.mk H
                clear H
                have p240 : 0 ≤ (x5_1 : Int) := of_decide_eq_true (by first | (with_reducible assumption) | assumption)
                have q240 : x5_1 < (l0.length : Int) := of_decide_eq_true (by first | (with_reducible assumption) | assumption)
                obtain ⟨ad240, e240, hx240_0, hx240_1, hx240_2, hx240_3, hx240_4, hx240_5, hx240_6, hx240_7, hx240_8⟩ := at_T25 HR0.out x5_1 p240 q240
                cases e240
                replace p240 := eq_true p240
                replace q240 := eq_true q240
                have p241 : 0 ≤ (x5_1 : Int) := of_decide_eq_true (by first | (with_reducible assumption) | assumption)
                have q241 : x5_1 < (l1.length : Int) := of_decide_eq_true (by first | (with_reducible assumption) | assumption)
                obtain ⟨ad241, e241, hx241_0, hx241_1, hx241_2, hx241_3, hx241_4, hx241_5, hx241_6, hx241_7, hx241_8⟩ := at_T25 HR1.out x5_1 p241 q241
                cases e241
                replace p241 := eq_true p241
                replace q241 := eq_true q241
                go_wp2
                repeat (go_quiet (fail); try go_wp2)
                go_roundg k1
                case measure => have := HK1.out; omega
                case rel => exact ⟨(wrap64 (x5_1 + 1)), (by first | rfl | (simp; done) | (simp [*]; done) | (simp [*, Go.Proofs.YtodmbjbfigifnaaGreatDoor.Str.bne_nil]; done)), H', ⟨by have := HK1.out; omega⟩, by repeat (first | exact Drawn0.refl _ | apply Drawn0.step)⟩
            · rw [if_neg c6] at H
              exact absurd H (by simp)
          · rw [if_neg c5] at H
            exact absurd H (by simp)
        · rw [if_neg c4] at H
          have c4b0 : decide (x5_1 < (l0.length : Int)) = false := decide_eq_false c4
          clear c4
          obtain rfl := Option.some.inj H
          go_wp2
          repeat (go_quiet (fail); try go_wp2)
          go_ret
          exact ⟨by first | rfl | (simp; done) | (simp [*]; done) | (simp [*, Go.Proofs.YtodmbjbfigifnaaGreatDoor.Str.bne_nil]; done), by repeat (first | exact Drawn0.refl _ | apply Drawn0.step)⟩
  · rw [if_neg c3] at H
    have c3b0 : ((l0.length : Int) == (l1.length : Int)) = false := beq_eq_false_iff_ne.mpr c3
    have c3b1 : ((l0.length : Int) != (l1.length : Int)) = true := bne_iff_ne.mpr c3
    have c3b2 : (l0.length == l1.length) = false := by first | simpa using c3 | (simp at c3 ⊢; omega)
    obtain rfl := Option.some.inj H
    go_enter Tryz.func11, Tryz.ntmps11
    go_wp2
    repeat (go_quiet (fail); try go_wp2)
    go_ret
    exact ⟨by first | rfl | (simp; done) | (simp [*]; done) | (simp [*, Go.Proofs.YtodmbjbfigifnaaGreatDoor.Str.bne_nil]; done), by repeat (first | exact Drawn0.refl _ | apply Drawn0.step)⟩
end Go.Proofs.YtodmbjbfigifnaaGreatDoor.PAll
namespace Go.Proofs.YtodmbjbfigifnaaGreatDoor.PAll
open Go.RowKit Go.Proofs.YtodmbjbfigifnaaGreatDoorW.PrintWords Go.Proofs.YtodmbjbfigifnaaGreatDoorW.PrintLast Go.Proofs.YtodmbjbfigifnaaGreatDoorW.PrintMore
attribute [local go_sem] max2_int min2_int max_two min_two max_three min_three max_four min_four   -- for this text's walks alone
set_option linter.unusedVariables false
set_option linter.unusedSimpArgs false

mutual
def tidelinelaw21_ScriptBack.l0 : Nat → List (S25) → List Bool → Bool → ByteArray → List (S25) → Int → Option (Bool)
  | 0, _, _, _, _, _, _ => none
  | k + 1, x0, x1, x2, x8, x9, x10 => if x10 < (x0.length : Int) then (tidelinelaw21_ScriptBack.j1 k x0 x1 x2 x8 x9 x10 (decide ((x9.length : Int) < 4000))) else (tidelinelaw21_ScriptBack.j1 k x0 x1 x2 x8 x9 x10 false)
def tidelinelaw21_ScriptBack.j1 : Nat → List (S25) → List Bool → Bool → ByteArray → List (S25) → Int → Bool → Option (Bool)
  | 0, _, _, _, _, _, _, _ => none
  | k + 1, x0, x1, x2, x8, x9, x10, x27 => if x27 = true then (if 0 ≤ x10 then (if x10 < (x0.length : Int) then ((tidelinelaw21_long.f ((rd_T25 x0 x10).f0) ((rd_T25 x0 x10).f1) ((rd_T25 x0 x10).f2) ((rd_T25 x0 x10).f3) ((rd_T25 x0 x10).f4) ((rd_T25 x0 x10).f5) ((rd_T25 x0 x10).f6.f0) ((rd_T25 x0 x10).f6.f1) ((rd_T25 x0 x10).f6.f2)).bind fun t246 => (if t246 = true then (some true) else ((tidelineref21_Print.f k ((rd_T25 x0 x10).f0) ((rd_T25 x0 x10).f1) ((rd_T25 x0 x10).f2) ((rd_T25 x0 x10).f3) ((rd_T25 x0 x10).f4) ((rd_T25 x0 x10).f5) ((rd_T25 x0 x10).f6.f0) ((rd_T25 x0 x10).f6.f1) ((rd_T25 x0 x10).f6.f2)).bind fun bt248 => (if bt248.2 = 0 then ((script_Print.f ((rd_T25 x0 x10).f0) ((rd_T25 x0 x10).f1) ((rd_T25 x0 x10).f2) ((rd_T25 x0 x10).f3) ((rd_T25 x0 x10).f4) ((rd_T25 x0 x10).f5) ((rd_T25 x0 x10).f6.f0) ((rd_T25 x0 x10).f6.f1) ((rd_T25 x0 x10).f6.f2)).bind fun bt251 => (if bt251.2 = 0 then (if (x9.length : Int) > 0 then (if x8.size + 1 ≤ 9223372036854775807 then (if x10 < (x1.length : Int) then (if rdOf false x1 x10 = true then (if (x8 ++ (⟨#[10]⟩ : ByteArray)).size + 2 ≤ 9223372036854775807 then (if ((x8 ++ (⟨#[10]⟩ : ByteArray)) ++ (⟨#[10, 10]⟩ : ByteArray)).size + bt251.1.size ≤ 9223372036854775807 then (if x9.length < 1353245080339 then (tidelinelaw21_ScriptBack.l0 k x0 x1 x2 (((x8 ++ (⟨#[10]⟩ : ByteArray)) ++ (⟨#[10, 10]⟩ : ByteArray)) ++ bt251.1) (x9 ++ [(⟨(rd_T25 x0 x10).f0, (rd_T25 x0 x10).f1, (rd_T25 x0 x10).f2, (rd_T25 x0 x10).f3, (rd_T25 x0 x10).f4, (rd_T25 x0 x10).f5, (⟨(rd_T25 x0 x10).f6.f0, (rd_T25 x0 x10).f6.f1, (rd_T25 x0 x10).f6.f2⟩ : S23)⟩ : S25)]) (wrap64 (x10 + 1))) else (none)) else (none)) else (none)) else (if (x8 ++ (⟨#[10]⟩ : ByteArray)).size + bt251.1.size ≤ 9223372036854775807 then (if x9.length < 1353245080339 then (tidelinelaw21_ScriptBack.l0 k x0 x1 x2 ((x8 ++ (⟨#[10]⟩ : ByteArray)) ++ bt251.1) (x9 ++ [(⟨(rd_T25 x0 x10).f0, (rd_T25 x0 x10).f1, (rd_T25 x0 x10).f2, (rd_T25 x0 x10).f3, (rd_T25 x0 x10).f4, (rd_T25 x0 x10).f5, (⟨(rd_T25 x0 x10).f6.f0, (rd_T25 x0 x10).f6.f1, (rd_T25 x0 x10).f6.f2⟩ : S23)⟩ : S25)]) (wrap64 (x10 + 1))) else (none)) else (none))) else (if (x8 ++ (⟨#[10]⟩ : ByteArray)).size + bt251.1.size ≤ 9223372036854775807 then (if x9.length < 1353245080339 then (tidelinelaw21_ScriptBack.l0 k x0 x1 x2 ((x8 ++ (⟨#[10]⟩ : ByteArray)) ++ bt251.1) (x9 ++ [(⟨(rd_T25 x0 x10).f0, (rd_T25 x0 x10).f1, (rd_T25 x0 x10).f2, (rd_T25 x0 x10).f3, (rd_T25 x0 x10).f4, (rd_T25 x0 x10).f5, (⟨(rd_T25 x0 x10).f6.f0, (rd_T25 x0 x10).f6.f1, (rd_T25 x0 x10).f6.f2⟩ : S23)⟩ : S25)]) (wrap64 (x10 + 1))) else (none)) else (none))) else (none)) else (if x10 < (x1.length : Int) then (if rdOf false x1 x10 = true then (if x8.size + 2 ≤ 9223372036854775807 then (if (x8 ++ (⟨#[10, 10]⟩ : ByteArray)).size + bt251.1.size ≤ 9223372036854775807 then (if x9.length < 1353245080339 then (tidelinelaw21_ScriptBack.l0 k x0 x1 x2 ((x8 ++ (⟨#[10, 10]⟩ : ByteArray)) ++ bt251.1) (x9 ++ [(⟨(rd_T25 x0 x10).f0, (rd_T25 x0 x10).f1, (rd_T25 x0 x10).f2, (rd_T25 x0 x10).f3, (rd_T25 x0 x10).f4, (rd_T25 x0 x10).f5, (⟨(rd_T25 x0 x10).f6.f0, (rd_T25 x0 x10).f6.f1, (rd_T25 x0 x10).f6.f2⟩ : S23)⟩ : S25)]) (wrap64 (x10 + 1))) else (none)) else (none)) else (none)) else (if x8.size + bt251.1.size ≤ 9223372036854775807 then (if x9.length < 1353245080339 then (tidelinelaw21_ScriptBack.l0 k x0 x1 x2 (x8 ++ bt251.1) (x9 ++ [(⟨(rd_T25 x0 x10).f0, (rd_T25 x0 x10).f1, (rd_T25 x0 x10).f2, (rd_T25 x0 x10).f3, (rd_T25 x0 x10).f4, (rd_T25 x0 x10).f5, (⟨(rd_T25 x0 x10).f6.f0, (rd_T25 x0 x10).f6.f1, (rd_T25 x0 x10).f6.f2⟩ : S23)⟩ : S25)]) (wrap64 (x10 + 1))) else (none)) else (none))) else (if x8.size + bt251.1.size ≤ 9223372036854775807 then (if x9.length < 1353245080339 then (tidelinelaw21_ScriptBack.l0 k x0 x1 x2 (x8 ++ bt251.1) (x9 ++ [(⟨(rd_T25 x0 x10).f0, (rd_T25 x0 x10).f1, (rd_T25 x0 x10).f2, (rd_T25 x0 x10).f3, (rd_T25 x0 x10).f4, (rd_T25 x0 x10).f5, (⟨(rd_T25 x0 x10).f6.f0, (rd_T25 x0 x10).f6.f1, (rd_T25 x0 x10).f6.f2⟩ : S23)⟩ : S25)]) (wrap64 (x10 + 1))) else (none)) else (none)))) else (none))) else (tidelinelaw21_ScriptBack.l0 k x0 x1 x2 x8 x9 (wrap64 (x10 + 1))))))) else (none)) else (none)) else (if x2 = true then (if x8.size + 1 ≤ 9223372036854775807 then ((script_Read.f (x8 ++ (⟨#[10]⟩ : ByteArray))).bind fun bt279 => (if bt279.2.2 = 0 then (if bt279.2.1 = 0 then ((tidelinelaw21_same.f k bt279.1 x9).bind fun t284 => (some t284)) else (none)) else (none))) else (none)) else ((script_Read.f x8).bind fun bt285 => (if bt285.2.2 = 0 then (if bt285.2.1 = 0 then ((tidelinelaw21_same.f k bt285.1 x9).bind fun t290 => (some t290)) else (none)) else (none))))
end
def tidelinelaw21_ScriptBack.f (k : Nat) (l0 : List (S25)) (l1 : List Bool) (a2 : Bool) : Option (Bool) := tidelinelaw21_ScriptBack.l0 k l0 l1 a2 (⟨#[]⟩ : ByteArray) (([] : List (S25))) 0
theorem tidelinelaw21_ScriptBack.mono_l : ∀ k, (∀ y0 y1 y2 y3 y4 y5, LeO (tidelinelaw21_ScriptBack.l0 k y0 y1 y2 y3 y4 y5) (tidelinelaw21_ScriptBack.l0 (k + 1) y0 y1 y2 y3 y4 y5)) ∧ (∀ y0 y1 y2 y3 y4 y5 y6, LeO (tidelinelaw21_ScriptBack.j1 k y0 y1 y2 y3 y4 y5 y6) (tidelinelaw21_ScriptBack.j1 (k + 1) y0 y1 y2 y3 y4 y5 y6))
  | 0 => ⟨fun _ _ _ _ _ _ r h => by simp [tidelinelaw21_ScriptBack.l0] at h, fun _ _ _ _ _ _ _ r h => by simp [tidelinelaw21_ScriptBack.j1] at h⟩
  | k + 1 => by
    obtain ⟨ih0, ih1⟩ := tidelinelaw21_ScriptBack.mono_l k
    refine ⟨?_, ?_⟩
    · intro y0 y1 y2 y3 y4 y5
      unfold tidelinelaw21_ScriptBack.l0
      repeat' first
      | (with_reducible exact ih0 _ _ _ _ _ _)
      | (with_reducible exact ih1 _ _ _ _ _ _ _)
      | (with_reducible exact tidelinelaw21_same.mono _ _ _)
      | (with_reducible exact tidelineref21_Print.mono _ _ _ _ _ _ _ _ _ _)
      | (with_reducible exact LeO.refl _)
      | (with_reducible exact LeO.none _)
      | (with_reducible refine LeO.ite ?_ ?_)
      | (with_reducible refine LeO.bind ?_ (fun _ => ?_))
      | exact ih0 _ _ _ _ _ _
      | exact ih1 _ _ _ _ _ _ _
      | exact tidelinelaw21_same.mono _ _ _
      | exact tidelineref21_Print.mono _ _ _ _ _ _ _ _ _ _
      | exact LeO.none _
      | refine LeO.ite ?_ ?_
      | refine LeO.bind ?_ (fun _ => ?_)
    · intro y0 y1 y2 y3 y4 y5 y6
      unfold tidelinelaw21_ScriptBack.j1
      repeat' first
      | (with_reducible exact ih0 _ _ _ _ _ _)
      | (with_reducible exact ih1 _ _ _ _ _ _ _)
      | (with_reducible exact tidelinelaw21_same.mono _ _ _)
      | (with_reducible exact tidelineref21_Print.mono _ _ _ _ _ _ _ _ _ _)
      | (with_reducible exact LeO.refl _)
      | (with_reducible exact LeO.none _)
      | (with_reducible refine LeO.ite ?_ ?_)
      | (with_reducible refine LeO.bind ?_ (fun _ => ?_))
      | exact ih0 _ _ _ _ _ _
      | exact ih1 _ _ _ _ _ _ _
      | exact tidelinelaw21_same.mono _ _ _
      | exact tidelineref21_Print.mono _ _ _ _ _ _ _ _ _ _
      | exact LeO.none _
      | refine LeO.ite ?_ ?_
      | refine LeO.bind ?_ (fun _ => ?_)
theorem tidelinelaw21_ScriptBack.mono : ∀ a0 a1 a2 k, LeO (tidelinelaw21_ScriptBack.f k a0 a1 a2) (tidelinelaw21_ScriptBack.f (k + 1) a0 a1 a2) := by
  intro a0 a1 a2 k
  obtain ⟨ih0, ih1⟩ := tidelinelaw21_ScriptBack.mono_l k
  unfold tidelinelaw21_ScriptBack.f
  repeat' first
      | (with_reducible exact ih0 _ _ _ _ _ _)
      | (with_reducible exact ih1 _ _ _ _ _ _ _)
      | (with_reducible exact tidelinelaw21_same.mono _ _ _)
      | (with_reducible exact tidelineref21_Print.mono _ _ _ _ _ _ _ _ _ _)
      | (with_reducible exact LeO.refl _)
      | (with_reducible exact LeO.none _)
      | (with_reducible refine LeO.ite ?_ ?_)
      | (with_reducible refine LeO.bind ?_ (fun _ => ?_))
      | exact ih0 _ _ _ _ _ _
      | exact ih1 _ _ _ _ _ _ _
      | exact tidelinelaw21_same.mono _ _ _
      | exact tidelineref21_Print.mono _ _ _ _ _ _ _ _ _ _
      | exact LeO.none _
      | refine LeO.ite ?_ ?_
      | refine LeO.bind ?_ (fun _ => ?_)
set_option maxHeartbeats 8000000 in
set_option maxRecDepth 100000 in
theorem tidelinelaw21_ScriptBack.calls (k : Nat) (A0 : Option Addr) (c0 : Nat) (l0 : List (S25)) (A1 : Option Addr) (c1 : Nat) (l1 : List Bool) (a2 : Bool) (r : Bool) (w : World) (hr0 : Kd.C k25 w A0 l0.length l0) (hc0 : l0.length ≤ c0) (hr1 : Kd.C Kd.bool w A1 l1.length l1) (hc1 : l1.length ≤ c1) (hG : Glob.GlobOK w) (h : tidelinelaw21_ScriptBack.f k l0 l1 a2 = some r) :
    Calls Tryz.prog 5 #[.slice A0 l0.length c0, .slice A1 l1.length c1, .bool a2] w fun e w' => e = .returned (.bool r) ∧ Below w.heap.size w w' := by
 have HG := Aside0.mk hG
 clear hG
 have hu25 := Tryz.underlying25
 have HR0 := Aside0.mk hr0
 have HC0 := Aside0.mk hc0
 clear hr0 hc0
 have HR1 := Aside0.mk hr1
 have HC1 := Aside0.mk hc1
 clear hr1 hc1
 have HB := Aside0.mk (Below.refl w.heap.size w)
 have H : (tidelinelaw21_ScriptBack.l0 k l0 l1 a2 (⟨#[]⟩ : ByteArray) (([] : List (S25))) 0) = some r := h
 clear h
 obtain ⟨y242, hy242⟩ : ∃ y_ : List (S25), y_ = (([] : List (S25))) := ⟨_, rfl⟩
 replace H : (tidelinelaw21_ScriptBack.l0 k l0 l1 a2 (⟨#[]⟩ : ByteArray) y242 0) = some r := by first | (rw [hy242]; with_reducible exact H) | (have H2_ := (Option.bind_some _ _).symm.trans H; rw [hy242]; with_reducible exact H2_) | (have H2_ := (Option.bind_some _ _).symm.trans H; with_reducible exact H2_) | with_reducible exact H | (rw [hy242]; exact H) | exact H
 have Ny242 := Aside0.mk hy242
 clear hy242
 have H' := Aside0.mk H
 clear H
 go_enter Tryz.func5, Tryz.ntmps5
 go_wp2_with (first | ((with_reducible refine gate_dst (N := 18) rfl ?_); (try (refine gate_guard (by rfl) ?_; dsimp only)); refine Kd.R_lit k25 _ 25 ?hg (N := 18) ?hd (xs := ([] : List (S25))) (inner := []) (ok := fun _ => True) (okp := fun _ => True) ?hr ?hp (fun _ hk => hk) trivial (Below.refl _ _) (Nat.le_refl _) (by simp) ?_; (case hd => rfl); (case hg => rfl); (case hr => first | (go_simp; done) | (go_simp; rfl)); (case hp => exact (Reps.none _ _)); intro v243 w4 ho5 hb hg_ hnew_; clear hg_ hnew_; (first | rw [← Ny242.out] at ho5 | (simp only [Int.reduceToNat] at ho5; rw [← Ny242.out] at ho5)); have n0_ := Aside0.mk (Kd.R_lower ho5 (below_size (by repeat (first | (with_reducible first | exact HB.out | apply below_alloc | apply pw_below_drewN | apply below_drew1) | exact HB.out)))); have n1_ := Aside0.mk (below_step (by repeat (first | (with_reducible first | exact HB.out | apply below_alloc | apply pw_below_drewN | apply below_drew1) | exact HB.out)) hb); clear HB; have HO244 := n0_; have HB := n1_; clear n0_ n1_; clear hb ho5))
 go_loopg [7, 8, 9, 10] k (fun kq v7 v8 v9 v10 w' => ∃ (x7_0 : Int) (x8_1 : ByteArray) (x9_1 : List (S25)) (x10_1 : Int), v7 = .int .i64 x7_0 ∧ v8 = .string x8_1 ∧ v10 = .int .i64 x10_1 ∧ Aside0 (tidelinelaw21_ScriptBack.l0 kq l0 l1 a2 x8_1 x9_1 x10_1 = some r) ∧ Aside0 (kq ≤ k) ∧ Aside0 (Kd.R k25 25 w' w.heap.size (fun _ => True) v9 x9_1) ∧ Aside0 (Below w.heap.size w w'))
 case atStart => exact ⟨(0 : Int), ((⟨#[]⟩ : ByteArray)), (y242), (0), rfl, (by first | rfl | (simp; done) | (simp [*]; done) | (simp [*, Go.Proofs.YtodmbjbfigifnaaGreatDoor.Str.bne_nil]; done)), (by first | rfl | (simp; done) | (simp [*]; done) | (simp [*, Go.Proofs.YtodmbjbfigifnaaGreatDoor.Str.bne_nil]; done)), H', ⟨Nat.le_refl _⟩, ⟨by (with_reducible repeat (first | apply Kd.R_alloc | apply Kd.R_drewN | apply Kd.R_drew)); exact HO244.out⟩, ⟨by repeat (first | (with_reducible first | exact HB.out | apply below_alloc | apply pw_below_drewN | apply below_drew1) | exact HB.out)⟩⟩
 case round =>
  clear H'
  try clear c1
  try clear p2
  try clear c5
  obtain ⟨x7_0, x8_1, x9_1, x10_1, rfl, rfl, rfl, HA, HK1, HO_9, HB⟩ := hrel
  cases gk with
  | zero => exact absurd HA.out (by simp [tidelinelaw21_ScriptBack.l0])
  | succ k1 =>
   have H := HA.out
   clear HA
   simp only [tidelinelaw21_ScriptBack.l0] at H
   have HC6 := Aside0.mk H
   clear H
   go_upto_region 5 with (fail)
   go_cut [27] (fun v27 wc => ∃ (kq : Nat) (x27_5 : Bool), v27 = .bool x27_5 ∧ Aside0 (tidelinelaw21_ScriptBack.j1 kq l0 l1 a2 x8_1 x9_1 x10_1 x27_5 = some r) ∧ Aside0 (kq ≤ k1) ∧ Aside0 (Kd.R k25 25 wc w.heap.size (fun _ => True) u9 x9_1) ∧ Aside0 (Below w.heap.size w wc))
   case first =>
    have H := HC6.out
    clear HC6
    by_cases c7 : x10_1 < (l0.length : Int)
    ·rw [if_pos c7] at H
     have c7b0 : decide (x10_1 < (l0.length : Int)) = true := decide_eq_true c7
     clear c7
     (first | rw [c7b0] | (simp only [i64_w, i32_w]; rw [c7b0]) | skip)
     have H' := Aside0.mk H
     clear H
     obtain ⟨Ao8, co8, eo8⟩ := Kd.R_slice HO_9.out
     subst eo8
     go_wp2
     go_meet
     case rel => exact ⟨_, (decide ((x9_1.length : Int) < 4000)), (by first | rfl | (simp; done) | (simp [*]; done) | (simp [*, Go.Proofs.YtodmbjbfigifnaaGreatDoor.Str.bne_nil]; done)), H', ⟨by have := HK1.out; first | omega | exact Nat.le_refl _⟩, ⟨by (with_reducible repeat (first | apply Kd.R_alloc | apply Kd.R_drewN | apply Kd.R_drew)); exact HO_9.out⟩, ⟨by repeat (first | (with_reducible first | exact HB.out | apply below_alloc | apply pw_below_drewN | apply below_drew1) | exact HB.out)⟩⟩
    ·rw [if_neg c7] at H
     have c7b0 : decide (x10_1 < (l0.length : Int)) = false := decide_eq_false c7
     clear c7
     (first | rw [c7b0] | (simp only [i64_w, i32_w]; rw [c7b0]) | skip)
     have H' := Aside0.mk H
     clear H
     go_wp2
     go_meet
     case rel => exact ⟨_, (false), (by first | rfl | (simp; done) | (simp [*]; done) | (simp [*, Go.Proofs.YtodmbjbfigifnaaGreatDoor.Str.bne_nil]; done)), H', ⟨by have := HK1.out; first | omega | exact Nat.le_refl _⟩, ⟨by (with_reducible repeat (first | apply Kd.R_alloc | apply Kd.R_drewN | apply Kd.R_drew)); exact HO_9.out⟩, ⟨by repeat (first | (with_reducible first | exact HB.out | apply below_alloc | apply pw_below_drewN | apply below_drew1) | exact HB.out)⟩⟩
   case rest =>
    clear HC6
    try clear c1
    try clear p2
    try clear c5
    try clear c7
    try clear c7b0
    try clear p2
    obtain ⟨kq, x27_5, rfl, HA, HJ5, HO_9, HB⟩ := hcut
    cases kq with
    | zero => exact absurd HA.out (by simp [tidelinelaw21_ScriptBack.j1])
    | succ kj5 =>
     have H := HA.out
     clear HA
     simp only [tidelinelaw21_ScriptBack.j1] at H
     by_cases c9 : x27_5 = true
     ·subst c9
      have H1 : (if 0 ≤ x10_1 then (if x10_1 < (l0.length : Int) then ((tidelinelaw21_long.f ((rd_T25 l0 x10_1).f0) ((rd_T25 l0 x10_1).f1) ((rd_T25 l0 x10_1).f2) ((rd_T25 l0 x10_1).f3) ((rd_T25 l0 x10_1).f4) ((rd_T25 l0 x10_1).f5) ((rd_T25 l0 x10_1).f6.f0) ((rd_T25 l0 x10_1).f6.f1) ((rd_T25 l0 x10_1).f6.f2)).bind fun t246 => (if t246 = true then (some true) else ((tidelineref21_Print.f kj5 ((rd_T25 l0 x10_1).f0) ((rd_T25 l0 x10_1).f1) ((rd_T25 l0 x10_1).f2) ((rd_T25 l0 x10_1).f3) ((rd_T25 l0 x10_1).f4) ((rd_T25 l0 x10_1).f5) ((rd_T25 l0 x10_1).f6.f0) ((rd_T25 l0 x10_1).f6.f1) ((rd_T25 l0 x10_1).f6.f2)).bind fun bt248 => (if bt248.2 = 0 then ((script_Print.f ((rd_T25 l0 x10_1).f0) ((rd_T25 l0 x10_1).f1) ((rd_T25 l0 x10_1).f2) ((rd_T25 l0 x10_1).f3) ((rd_T25 l0 x10_1).f4) ((rd_T25 l0 x10_1).f5) ((rd_T25 l0 x10_1).f6.f0) ((rd_T25 l0 x10_1).f6.f1) ((rd_T25 l0 x10_1).f6.f2)).bind fun bt251 => (if bt251.2 = 0 then (if (x9_1.length : Int) > 0 then (if x8_1.size + 1 ≤ 9223372036854775807 then (if x10_1 < (l1.length : Int) then (if rdOf false l1 x10_1 = true then (if (x8_1 ++ (⟨#[10]⟩ : ByteArray)).size + 2 ≤ 9223372036854775807 then (if ((x8_1 ++ (⟨#[10]⟩ : ByteArray)) ++ (⟨#[10, 10]⟩ : ByteArray)).size + bt251.1.size ≤ 9223372036854775807 then (if x9_1.length < 1353245080339 then (tidelinelaw21_ScriptBack.l0 kj5 l0 l1 a2 (((x8_1 ++ (⟨#[10]⟩ : ByteArray)) ++ (⟨#[10, 10]⟩ : ByteArray)) ++ bt251.1) (x9_1 ++ [(⟨(rd_T25 l0 x10_1).f0, (rd_T25 l0 x10_1).f1, (rd_T25 l0 x10_1).f2, (rd_T25 l0 x10_1).f3, (rd_T25 l0 x10_1).f4, (rd_T25 l0 x10_1).f5, (⟨(rd_T25 l0 x10_1).f6.f0, (rd_T25 l0 x10_1).f6.f1, (rd_T25 l0 x10_1).f6.f2⟩ : S23)⟩ : S25)]) (wrap64 (x10_1 + 1))) else (none)) else (none)) else (none)) else (if (x8_1 ++ (⟨#[10]⟩ : ByteArray)).size + bt251.1.size ≤ 9223372036854775807 then (if x9_1.length < 1353245080339 then (tidelinelaw21_ScriptBack.l0 kj5 l0 l1 a2 ((x8_1 ++ (⟨#[10]⟩ : ByteArray)) ++ bt251.1) (x9_1 ++ [(⟨(rd_T25 l0 x10_1).f0, (rd_T25 l0 x10_1).f1, (rd_T25 l0 x10_1).f2, (rd_T25 l0 x10_1).f3, (rd_T25 l0 x10_1).f4, (rd_T25 l0 x10_1).f5, (⟨(rd_T25 l0 x10_1).f6.f0, (rd_T25 l0 x10_1).f6.f1, (rd_T25 l0 x10_1).f6.f2⟩ : S23)⟩ : S25)]) (wrap64 (x10_1 + 1))) else (none)) else (none))) else (if (x8_1 ++ (⟨#[10]⟩ : ByteArray)).size + bt251.1.size ≤ 9223372036854775807 then (if x9_1.length < 1353245080339 then (tidelinelaw21_ScriptBack.l0 kj5 l0 l1 a2 ((x8_1 ++ (⟨#[10]⟩ : ByteArray)) ++ bt251.1) (x9_1 ++ [(⟨(rd_T25 l0 x10_1).f0, (rd_T25 l0 x10_1).f1, (rd_T25 l0 x10_1).f2, (rd_T25 l0 x10_1).f3, (rd_T25 l0 x10_1).f4, (rd_T25 l0 x10_1).f5, (⟨(rd_T25 l0 x10_1).f6.f0, (rd_T25 l0 x10_1).f6.f1, (rd_T25 l0 x10_1).f6.f2⟩ : S23)⟩ : S25)]) (wrap64 (x10_1 + 1))) else (none)) else (none))) else (none)) else (if x10_1 < (l1.length : Int) then (if rdOf false l1 x10_1 = true then (if x8_1.size + 2 ≤ 9223372036854775807 then (if (x8_1 ++ (⟨#[10, 10]⟩ : ByteArray)).size + bt251.1.size ≤ 9223372036854775807 then (if x9_1.length < 1353245080339 then (tidelinelaw21_ScriptBack.l0 kj5 l0 l1 a2 ((x8_1 ++ (⟨#[10, 10]⟩ : ByteArray)) ++ bt251.1) (x9_1 ++ [(⟨(rd_T25 l0 x10_1).f0, (rd_T25 l0 x10_1).f1, (rd_T25 l0 x10_1).f2, (rd_T25 l0 x10_1).f3, (rd_T25 l0 x10_1).f4, (rd_T25 l0 x10_1).f5, (⟨(rd_T25 l0 x10_1).f6.f0, (rd_T25 l0 x10_1).f6.f1, (rd_T25 l0 x10_1).f6.f2⟩ : S23)⟩ : S25)]) (wrap64 (x10_1 + 1))) else (none)) else (none)) else (none)) else (if x8_1.size + bt251.1.size ≤ 9223372036854775807 then (if x9_1.length < 1353245080339 then (tidelinelaw21_ScriptBack.l0 kj5 l0 l1 a2 (x8_1 ++ bt251.1) (x9_1 ++ [(⟨(rd_T25 l0 x10_1).f0, (rd_T25 l0 x10_1).f1, (rd_T25 l0 x10_1).f2, (rd_T25 l0 x10_1).f3, (rd_T25 l0 x10_1).f4, (rd_T25 l0 x10_1).f5, (⟨(rd_T25 l0 x10_1).f6.f0, (rd_T25 l0 x10_1).f6.f1, (rd_T25 l0 x10_1).f6.f2⟩ : S23)⟩ : S25)]) (wrap64 (x10_1 + 1))) else (none)) else (none))) else (if x8_1.size + bt251.1.size ≤ 9223372036854775807 then (if x9_1.length < 1353245080339 then (tidelinelaw21_ScriptBack.l0 kj5 l0 l1 a2 (x8_1 ++ bt251.1) (x9_1 ++ [(⟨(rd_T25 l0 x10_1).f0, (rd_T25 l0 x10_1).f1, (rd_T25 l0 x10_1).f2, (rd_T25 l0 x10_1).f3, (rd_T25 l0 x10_1).f4, (rd_T25 l0 x10_1).f5, (⟨(rd_T25 l0 x10_1).f6.f0, (rd_T25 l0 x10_1).f6.f1, (rd_T25 l0 x10_1).f6.f2⟩ : S23)⟩ : S25)]) (wrap64 (x10_1 + 1))) else (none)) else (none)))) else (none))) else (tidelinelaw21_ScriptBack.l0 kj5 l0 l1 a2 x8_1 x9_1 (wrap64 (x10_1 + 1))))))) else (none)) else (none)) = some r := by rw [if_pos rfl] at H; exact H
      clear H
      have H := H1
      clear H1
      by_cases c10 : 0 ≤ x10_1
      ·rw [if_pos c10] at H
       have c10b0 : decide (0 ≤ x10_1) = true := decide_eq_true c10
       clear c10
       by_cases c11 : x10_1 < (l0.length : Int)
       ·rw [if_pos c11] at H
        have c11b0 : decide (x10_1 < (l0.length : Int)) = true := decide_eq_true c11
        clear c11
        replace H := Option.bind_eq_some_iff.mp H
        obtain ⟨t246, A120, H⟩ := H
        replace H : (if t246 = true then (some true) else ((tidelineref21_Print.f kj5 ((rd_T25 l0 x10_1).f0) ((rd_T25 l0 x10_1).f1) ((rd_T25 l0 x10_1).f2) ((rd_T25 l0 x10_1).f3) ((rd_T25 l0 x10_1).f4) ((rd_T25 l0 x10_1).f5) ((rd_T25 l0 x10_1).f6.f0) ((rd_T25 l0 x10_1).f6.f1) ((rd_T25 l0 x10_1).f6.f2)).bind fun bt248 => (if bt248.2 = 0 then ((script_Print.f ((rd_T25 l0 x10_1).f0) ((rd_T25 l0 x10_1).f1) ((rd_T25 l0 x10_1).f2) ((rd_T25 l0 x10_1).f3) ((rd_T25 l0 x10_1).f4) ((rd_T25 l0 x10_1).f5) ((rd_T25 l0 x10_1).f6.f0) ((rd_T25 l0 x10_1).f6.f1) ((rd_T25 l0 x10_1).f6.f2)).bind fun bt251 => (if bt251.2 = 0 then (if (x9_1.length : Int) > 0 then (if x8_1.size + 1 ≤ 9223372036854775807 then (if x10_1 < (l1.length : Int) then (if rdOf false l1 x10_1 = true then (if (x8_1 ++ (⟨#[10]⟩ : ByteArray)).size + 2 ≤ 9223372036854775807 then (if ((x8_1 ++ (⟨#[10]⟩ : ByteArray)) ++ (⟨#[10, 10]⟩ : ByteArray)).size + bt251.1.size ≤ 9223372036854775807 then (if x9_1.length < 1353245080339 then (tidelinelaw21_ScriptBack.l0 kj5 l0 l1 a2 (((x8_1 ++ (⟨#[10]⟩ : ByteArray)) ++ (⟨#[10, 10]⟩ : ByteArray)) ++ bt251.1) (x9_1 ++ [(⟨(rd_T25 l0 x10_1).f0, (rd_T25 l0 x10_1).f1, (rd_T25 l0 x10_1).f2, (rd_T25 l0 x10_1).f3, (rd_T25 l0 x10_1).f4, (rd_T25 l0 x10_1).f5, (⟨(rd_T25 l0 x10_1).f6.f0, (rd_T25 l0 x10_1).f6.f1, (rd_T25 l0 x10_1).f6.f2⟩ : S23)⟩ : S25)]) (wrap64 (x10_1 + 1))) else (none)) else (none)) else (none)) else (if (x8_1 ++ (⟨#[10]⟩ : ByteArray)).size + bt251.1.size ≤ 9223372036854775807 then (if x9_1.length < 1353245080339 then (tidelinelaw21_ScriptBack.l0 kj5 l0 l1 a2 ((x8_1 ++ (⟨#[10]⟩ : ByteArray)) ++ bt251.1) (x9_1 ++ [(⟨(rd_T25 l0 x10_1).f0, (rd_T25 l0 x10_1).f1, (rd_T25 l0 x10_1).f2, (rd_T25 l0 x10_1).f3, (rd_T25 l0 x10_1).f4, (rd_T25 l0 x10_1).f5, (⟨(rd_T25 l0 x10_1).f6.f0, (rd_T25 l0 x10_1).f6.f1, (rd_T25 l0 x10_1).f6.f2⟩ : S23)⟩ : S25)]) (wrap64 (x10_1 + 1))) else (none)) else (none))) else (if (x8_1 ++ (⟨#[10]⟩ : ByteArray)).size + bt251.1.size ≤ 9223372036854775807 then (if x9_1.length < 1353245080339 then (tidelinelaw21_ScriptBack.l0 kj5 l0 l1 a2 ((x8_1 ++ (⟨#[10]⟩ : ByteArray)) ++ bt251.1) (x9_1 ++ [(⟨(rd_T25 l0 x10_1).f0, (rd_T25 l0 x10_1).f1, (rd_T25 l0 x10_1).f2, (rd_T25 l0 x10_1).f3, (rd_T25 l0 x10_1).f4, (rd_T25 l0 x10_1).f5, (⟨(rd_T25 l0 x10_1).f6.f0, (rd_T25 l0 x10_1).f6.f1, (rd_T25 l0 x10_1).f6.f2⟩ : S23)⟩ : S25)]) (wrap64 (x10_1 + 1))) else (none)) else (none))) else (none)) else (if x10_1 < (l1.length : Int) then (if rdOf false l1 x10_1 = true then (if x8_1.size + 2 ≤ 9223372036854775807 then (if (x8_1 ++ (⟨#[10, 10]⟩ : ByteArray)).size + bt251.1.size ≤ 9223372036854775807 then (if x9_1.length < 1353245080339 then (tidelinelaw21_ScriptBack.l0 kj5 l0 l1 a2 ((x8_1 ++ (⟨#[10, 10]⟩ : ByteArray)) ++ bt251.1) (x9_1 ++ [(⟨(rd_T25 l0 x10_1).f0, (rd_T25 l0 x10_1).f1, (rd_T25 l0 x10_1).f2, (rd_T25 l0 x10_1).f3, (rd_T25 l0 x10_1).f4, (rd_T25 l0 x10_1).f5, (⟨(rd_T25 l0 x10_1).f6.f0, (rd_T25 l0 x10_1).f6.f1, (rd_T25 l0 x10_1).f6.f2⟩ : S23)⟩ : S25)]) (wrap64 (x10_1 + 1))) else (none)) else (none)) else (none)) else (if x8_1.size + bt251.1.size ≤ 9223372036854775807 then (if x9_1.length < 1353245080339 then (tidelinelaw21_ScriptBack.l0 kj5 l0 l1 a2 (x8_1 ++ bt251.1) (x9_1 ++ [(⟨(rd_T25 l0 x10_1).f0, (rd_T25 l0 x10_1).f1, (rd_T25 l0 x10_1).f2, (rd_T25 l0 x10_1).f3, (rd_T25 l0 x10_1).f4, (rd_T25 l0 x10_1).f5, (⟨(rd_T25 l0 x10_1).f6.f0, (rd_T25 l0 x10_1).f6.f1, (rd_T25 l0 x10_1).f6.f2⟩ : S23)⟩ : S25)]) (wrap64 (x10_1 + 1))) else (none)) else (none))) else (if x8_1.size + bt251.1.size ≤ 9223372036854775807 then (if x9_1.length < 1353245080339 then (tidelinelaw21_ScriptBack.l0 kj5 l0 l1 a2 (x8_1 ++ bt251.1) (x9_1 ++ [(⟨(rd_T25 l0 x10_1).f0, (rd_T25 l0 x10_1).f1, (rd_T25 l0 x10_1).f2, (rd_T25 l0 x10_1).f3, (rd_T25 l0 x10_1).f4, (rd_T25 l0 x10_1).f5, (⟨(rd_T25 l0 x10_1).f6.f0, (rd_T25 l0 x10_1).f6.f1, (rd_T25 l0 x10_1).f6.f2⟩ : S23)⟩ : S25)]) (wrap64 (x10_1 + 1))) else (none)) else (none)))) else (none))) else (tidelinelaw21_ScriptBack.l0 kj5 l0 l1 a2 x8_1 x9_1 (wrap64 (x10_1 + 1)))))) = some r := H
        have A12 := Aside0.mk A120
        clear A120
        by_cases c13 : t246 = true
        ·subst c13
         have H1 : (some true) = some r := by rw [if_pos rfl] at H; exact H
         clear H
         have H := H1
         clear H1
         obtain rfl := Option.some.inj H
         have p245 : 0 ≤ (x10_1 : Int) := of_decide_eq_true (by first | (with_reducible assumption) | assumption)
         have q245 : x10_1 < (l0.length : Int) := of_decide_eq_true (by first | (with_reducible assumption) | assumption)
         obtain ⟨ad245, e245, hx245_0, hx245_1, hx245_2, hx245_3, hx245_4, hx245_5, hx245_6, hx245_7, hx245_8⟩ := at_T25 HR0.out x10_1 p245 q245
         cases e245
         replace hx245_0 := (HB.out.cell (World.block_lt_of_cell? w _ hx245_0)).trans hx245_0
         replace hx245_1 := (HB.out.cell (World.block_lt_of_cell? w _ hx245_1)).trans hx245_1
         replace hx245_2 := (HB.out.cell (World.block_lt_of_cell? w _ hx245_2)).trans hx245_2
         replace hx245_3 := (HB.out.cell (World.block_lt_of_cell? w _ hx245_3)).trans hx245_3
         replace hx245_4 := (HB.out.cell (World.block_lt_of_cell? w _ hx245_4)).trans hx245_4
         replace hx245_5 := (HB.out.cell (World.block_lt_of_cell? w _ hx245_5)).trans hx245_5
         replace hx245_6 := (HB.out.cell (World.block_lt_of_cell? w _ hx245_6)).trans hx245_6
         replace hx245_7 := (HB.out.cell (World.block_lt_of_cell? w _ hx245_7)).trans hx245_7
         replace hx245_8 := (HB.out.cell (World.block_lt_of_cell? w _ hx245_8)).trans hx245_8
         replace p245 := eq_true p245
         replace q245 := eq_true q245
         go_wp2_with (first | ((with_reducible refine gate_callee (f := 6) rfl ?_); refine goesL_ (some 34) rfl rfl Tryz.func6 (by kernel_rfl) rfl #[.agg #[.int .i64 ((rd_T25 l0 x10_1).f0), .int .i64 ((rd_T25 l0 x10_1).f1), .int .i64 ((rd_T25 l0 x10_1).f2), .int .i64 ((rd_T25 l0 x10_1).f3), .string ((rd_T25 l0 x10_1).f4), .string ((rd_T25 l0 x10_1).f5), .string ((rd_T25 l0 x10_1).f6.f0), .string ((rd_T25 l0 x10_1).f6.f1), .bool ((rd_T25 l0 x10_1).f6.f2)]] rfl (by (try simp only [List.map_toArray, List.map_cons, List.map_nil]); first | done | rfl | (simp only [List.length_drop, List.length_take]; rfl)) ?_; (with_reducible refine (tidelinelaw21_long.calls ((rd_T25 l0 x10_1).f0) ((rd_T25 l0 x10_1).f1) ((rd_T25 l0 x10_1).f2) ((rd_T25 l0 x10_1).f3) ((rd_T25 l0 x10_1).f4) ((rd_T25 l0 x10_1).f5) ((rd_T25 l0 x10_1).f6.f0) ((rd_T25 l0 x10_1).f6.f1) ((rd_T25 l0 x10_1).f6.f2) true _ A12.out).mono ?_); rintro e w14 ⟨rfl, hb⟩; refine ⟨_, rfl, ?_⟩; have n0_ := Aside0.mk (Kd.R_below (by (with_reducible repeat (first | apply Kd.R_alloc | apply Kd.R_drewN | apply Kd.R_drew)); exact HO_9.out) hb); have n1_ := Aside0.mk (below_step (by repeat (first | (with_reducible first | exact HB.out | apply below_alloc | apply pw_below_drewN | apply below_drew1) | exact HB.out)) hb); clear HO_9; clear HB; have HO_9 := n0_; have HB := n1_; clear n0_ n1_; (try clear hb); (try clear hb2); (try clear hk); (try clear hi)))
         go_ret
         exact ⟨by first | rfl | (simp [errW_none, errW_some] <;> rfl) | (simp [*, errW_none, errW_some] <;> rfl), by repeat (first | (with_reducible first | exact HB.out | apply below_alloc | apply pw_below_drewN | apply below_drew1) | exact HB.out)⟩
        ·replace c13 := Bool.eq_false_iff.mpr c13
         subst c13
         have H1 : ((tidelineref21_Print.f kj5 ((rd_T25 l0 x10_1).f0) ((rd_T25 l0 x10_1).f1) ((rd_T25 l0 x10_1).f2) ((rd_T25 l0 x10_1).f3) ((rd_T25 l0 x10_1).f4) ((rd_T25 l0 x10_1).f5) ((rd_T25 l0 x10_1).f6.f0) ((rd_T25 l0 x10_1).f6.f1) ((rd_T25 l0 x10_1).f6.f2)).bind fun bt248 => (if bt248.2 = 0 then ((script_Print.f ((rd_T25 l0 x10_1).f0) ((rd_T25 l0 x10_1).f1) ((rd_T25 l0 x10_1).f2) ((rd_T25 l0 x10_1).f3) ((rd_T25 l0 x10_1).f4) ((rd_T25 l0 x10_1).f5) ((rd_T25 l0 x10_1).f6.f0) ((rd_T25 l0 x10_1).f6.f1) ((rd_T25 l0 x10_1).f6.f2)).bind fun bt251 => (if bt251.2 = 0 then (if (x9_1.length : Int) > 0 then (if x8_1.size + 1 ≤ 9223372036854775807 then (if x10_1 < (l1.length : Int) then (if rdOf false l1 x10_1 = true then (if (x8_1 ++ (⟨#[10]⟩ : ByteArray)).size + 2 ≤ 9223372036854775807 then (if ((x8_1 ++ (⟨#[10]⟩ : ByteArray)) ++ (⟨#[10, 10]⟩ : ByteArray)).size + bt251.1.size ≤ 9223372036854775807 then (if x9_1.length < 1353245080339 then (tidelinelaw21_ScriptBack.l0 kj5 l0 l1 a2 (((x8_1 ++ (⟨#[10]⟩ : ByteArray)) ++ (⟨#[10, 10]⟩ : ByteArray)) ++ bt251.1) (x9_1 ++ [(⟨(rd_T25 l0 x10_1).f0, (rd_T25 l0 x10_1).f1, (rd_T25 l0 x10_1).f2, (rd_T25 l0 x10_1).f3, (rd_T25 l0 x10_1).f4, (rd_T25 l0 x10_1).f5, (⟨(rd_T25 l0 x10_1).f6.f0, (rd_T25 l0 x10_1).f6.f1, (rd_T25 l0 x10_1).f6.f2⟩ : S23)⟩ : S25)]) (wrap64 (x10_1 + 1))) else (none)) else (none)) else (none)) else (if (x8_1 ++ (⟨#[10]⟩ : ByteArray)).size + bt251.1.size ≤ 9223372036854775807 then (if x9_1.length < 1353245080339 then (tidelinelaw21_ScriptBack.l0 kj5 l0 l1 a2 ((x8_1 ++ (⟨#[10]⟩ : ByteArray)) ++ bt251.1) (x9_1 ++ [(⟨(rd_T25 l0 x10_1).f0, (rd_T25 l0 x10_1).f1, (rd_T25 l0 x10_1).f2, (rd_T25 l0 x10_1).f3, (rd_T25 l0 x10_1).f4, (rd_T25 l0 x10_1).f5, (⟨(rd_T25 l0 x10_1).f6.f0, (rd_T25 l0 x10_1).f6.f1, (rd_T25 l0 x10_1).f6.f2⟩ : S23)⟩ : S25)]) (wrap64 (x10_1 + 1))) else (none)) else (none))) else (if (x8_1 ++ (⟨#[10]⟩ : ByteArray)).size + bt251.1.size ≤ 9223372036854775807 then (if x9_1.length < 1353245080339 then (tidelinelaw21_ScriptBack.l0 kj5 l0 l1 a2 ((x8_1 ++ (⟨#[10]⟩ : ByteArray)) ++ bt251.1) (x9_1 ++ [(⟨(rd_T25 l0 x10_1).f0, (rd_T25 l0 x10_1).f1, (rd_T25 l0 x10_1).f2, (rd_T25 l0 x10_1).f3, (rd_T25 l0 x10_1).f4, (rd_T25 l0 x10_1).f5, (⟨(rd_T25 l0 x10_1).f6.f0, (rd_T25 l0 x10_1).f6.f1, (rd_T25 l0 x10_1).f6.f2⟩ : S23)⟩ : S25)]) (wrap64 (x10_1 + 1))) else (none)) else (none))) else (none)) else (if x10_1 < (l1.length : Int) then (if rdOf false l1 x10_1 = true then (if x8_1.size + 2 ≤ 9223372036854775807 then (if (x8_1 ++ (⟨#[10, 10]⟩ : ByteArray)).size + bt251.1.size ≤ 9223372036854775807 then (if x9_1.length < 1353245080339 then (tidelinelaw21_ScriptBack.l0 kj5 l0 l1 a2 ((x8_1 ++ (⟨#[10, 10]⟩ : ByteArray)) ++ bt251.1) (x9_1 ++ [(⟨(rd_T25 l0 x10_1).f0, (rd_T25 l0 x10_1).f1, (rd_T25 l0 x10_1).f2, (rd_T25 l0 x10_1).f3, (rd_T25 l0 x10_1).f4, (rd_T25 l0 x10_1).f5, (⟨(rd_T25 l0 x10_1).f6.f0, (rd_T25 l0 x10_1).f6.f1, (rd_T25 l0 x10_1).f6.f2⟩ : S23)⟩ : S25)]) (wrap64 (x10_1 + 1))) else (none)) else (none)) else (none)) else (if x8_1.size + bt251.1.size ≤ 9223372036854775807 then (if x9_1.length < 1353245080339 then (tidelinelaw21_ScriptBack.l0 kj5 l0 l1 a2 (x8_1 ++ bt251.1) (x9_1 ++ [(⟨(rd_T25 l0 x10_1).f0, (rd_T25 l0 x10_1).f1, (rd_T25 l0 x10_1).f2, (rd_T25 l0 x10_1).f3, (rd_T25 l0 x10_1).f4, (rd_T25 l0 x10_1).f5, (⟨(rd_T25 l0 x10_1).f6.f0, (rd_T25 l0 x10_1).f6.f1, (rd_T25 l0 x10_1).f6.f2⟩ : S23)⟩ : S25)]) (wrap64 (x10_1 + 1))) else (none)) else (none))) else (if x8_1.size + bt251.1.size ≤ 9223372036854775807 then (if x9_1.length < 1353245080339 then (tidelinelaw21_ScriptBack.l0 kj5 l0 l1 a2 (x8_1 ++ bt251.1) (x9_1 ++ [(⟨(rd_T25 l0 x10_1).f0, (rd_T25 l0 x10_1).f1, (rd_T25 l0 x10_1).f2, (rd_T25 l0 x10_1).f3, (rd_T25 l0 x10_1).f4, (rd_T25 l0 x10_1).f5, (⟨(rd_T25 l0 x10_1).f6.f0, (rd_T25 l0 x10_1).f6.f1, (rd_T25 l0 x10_1).f6.f2⟩ : S23)⟩ : S25)]) (wrap64 (x10_1 + 1))) else (none)) else (none)))) else (none))) else (tidelinelaw21_ScriptBack.l0 kj5 l0 l1 a2 x8_1 x9_1 (wrap64 (x10_1 + 1))))) = some r := by rw [if_neg (show ¬ (false = true) by decide)] at H; exact H
         clear H
         have H := H1
         clear H1
         replace H := Option.bind_eq_some_iff.mp H
         obtain ⟨⟨t248, t249⟩, A150, H⟩ := H
         replace H : (if t249 = 0 then ((script_Print.f ((rd_T25 l0 x10_1).f0) ((rd_T25 l0 x10_1).f1) ((rd_T25 l0 x10_1).f2) ((rd_T25 l0 x10_1).f3) ((rd_T25 l0 x10_1).f4) ((rd_T25 l0 x10_1).f5) ((rd_T25 l0 x10_1).f6.f0) ((rd_T25 l0 x10_1).f6.f1) ((rd_T25 l0 x10_1).f6.f2)).bind fun bt251 => (if bt251.2 = 0 then (if (x9_1.length : Int) > 0 then (if x8_1.size + 1 ≤ 9223372036854775807 then (if x10_1 < (l1.length : Int) then (if rdOf false l1 x10_1 = true then (if (x8_1 ++ (⟨#[10]⟩ : ByteArray)).size + 2 ≤ 9223372036854775807 then (if ((x8_1 ++ (⟨#[10]⟩ : ByteArray)) ++ (⟨#[10, 10]⟩ : ByteArray)).size + bt251.1.size ≤ 9223372036854775807 then (if x9_1.length < 1353245080339 then (tidelinelaw21_ScriptBack.l0 kj5 l0 l1 a2 (((x8_1 ++ (⟨#[10]⟩ : ByteArray)) ++ (⟨#[10, 10]⟩ : ByteArray)) ++ bt251.1) (x9_1 ++ [(⟨(rd_T25 l0 x10_1).f0, (rd_T25 l0 x10_1).f1, (rd_T25 l0 x10_1).f2, (rd_T25 l0 x10_1).f3, (rd_T25 l0 x10_1).f4, (rd_T25 l0 x10_1).f5, (⟨(rd_T25 l0 x10_1).f6.f0, (rd_T25 l0 x10_1).f6.f1, (rd_T25 l0 x10_1).f6.f2⟩ : S23)⟩ : S25)]) (wrap64 (x10_1 + 1))) else (none)) else (none)) else (none)) else (if (x8_1 ++ (⟨#[10]⟩ : ByteArray)).size + bt251.1.size ≤ 9223372036854775807 then (if x9_1.length < 1353245080339 then (tidelinelaw21_ScriptBack.l0 kj5 l0 l1 a2 ((x8_1 ++ (⟨#[10]⟩ : ByteArray)) ++ bt251.1) (x9_1 ++ [(⟨(rd_T25 l0 x10_1).f0, (rd_T25 l0 x10_1).f1, (rd_T25 l0 x10_1).f2, (rd_T25 l0 x10_1).f3, (rd_T25 l0 x10_1).f4, (rd_T25 l0 x10_1).f5, (⟨(rd_T25 l0 x10_1).f6.f0, (rd_T25 l0 x10_1).f6.f1, (rd_T25 l0 x10_1).f6.f2⟩ : S23)⟩ : S25)]) (wrap64 (x10_1 + 1))) else (none)) else (none))) else (if (x8_1 ++ (⟨#[10]⟩ : ByteArray)).size + bt251.1.size ≤ 9223372036854775807 then (if x9_1.length < 1353245080339 then (tidelinelaw21_ScriptBack.l0 kj5 l0 l1 a2 ((x8_1 ++ (⟨#[10]⟩ : ByteArray)) ++ bt251.1) (x9_1 ++ [(⟨(rd_T25 l0 x10_1).f0, (rd_T25 l0 x10_1).f1, (rd_T25 l0 x10_1).f2, (rd_T25 l0 x10_1).f3, (rd_T25 l0 x10_1).f4, (rd_T25 l0 x10_1).f5, (⟨(rd_T25 l0 x10_1).f6.f0, (rd_T25 l0 x10_1).f6.f1, (rd_T25 l0 x10_1).f6.f2⟩ : S23)⟩ : S25)]) (wrap64 (x10_1 + 1))) else (none)) else (none))) else (none)) else (if x10_1 < (l1.length : Int) then (if rdOf false l1 x10_1 = true then (if x8_1.size + 2 ≤ 9223372036854775807 then (if (x8_1 ++ (⟨#[10, 10]⟩ : ByteArray)).size + bt251.1.size ≤ 9223372036854775807 then (if x9_1.length < 1353245080339 then (tidelinelaw21_ScriptBack.l0 kj5 l0 l1 a2 ((x8_1 ++ (⟨#[10, 10]⟩ : ByteArray)) ++ bt251.1) (x9_1 ++ [(⟨(rd_T25 l0 x10_1).f0, (rd_T25 l0 x10_1).f1, (rd_T25 l0 x10_1).f2, (rd_T25 l0 x10_1).f3, (rd_T25 l0 x10_1).f4, (rd_T25 l0 x10_1).f5, (⟨(rd_T25 l0 x10_1).f6.f0, (rd_T25 l0 x10_1).f6.f1, (rd_T25 l0 x10_1).f6.f2⟩ : S23)⟩ : S25)]) (wrap64 (x10_1 + 1))) else (none)) else (none)) else (none)) else (if x8_1.size + bt251.1.size ≤ 9223372036854775807 then (if x9_1.length < 1353245080339 then (tidelinelaw21_ScriptBack.l0 kj5 l0 l1 a2 (x8_1 ++ bt251.1) (x9_1 ++ [(⟨(rd_T25 l0 x10_1).f0, (rd_T25 l0 x10_1).f1, (rd_T25 l0 x10_1).f2, (rd_T25 l0 x10_1).f3, (rd_T25 l0 x10_1).f4, (rd_T25 l0 x10_1).f5, (⟨(rd_T25 l0 x10_1).f6.f0, (rd_T25 l0 x10_1).f6.f1, (rd_T25 l0 x10_1).f6.f2⟩ : S23)⟩ : S25)]) (wrap64 (x10_1 + 1))) else (none)) else (none))) else (if x8_1.size + bt251.1.size ≤ 9223372036854775807 then (if x9_1.length < 1353245080339 then (tidelinelaw21_ScriptBack.l0 kj5 l0 l1 a2 (x8_1 ++ bt251.1) (x9_1 ++ [(⟨(rd_T25 l0 x10_1).f0, (rd_T25 l0 x10_1).f1, (rd_T25 l0 x10_1).f2, (rd_T25 l0 x10_1).f3, (rd_T25 l0 x10_1).f4, (rd_T25 l0 x10_1).f5, (⟨(rd_T25 l0 x10_1).f6.f0, (rd_T25 l0 x10_1).f6.f1, (rd_T25 l0 x10_1).f6.f2⟩ : S23)⟩ : S25)]) (wrap64 (x10_1 + 1))) else (none)) else (none)))) else (none))) else (tidelinelaw21_ScriptBack.l0 kj5 l0 l1 a2 x8_1 x9_1 (wrap64 (x10_1 + 1)))) = some r := H
         have A15 := Aside0.mk A150
         clear A150
         by_cases c16 : t249 = 0
         ·rw [if_pos c16] at H
          have c16b0 : (t249 == 0) = true := beq_iff_eq.mpr c16
          have c16b1 : (t249 != 0) = false := bne_eq_false_iff_eq.mpr c16
          clear c16
          replace H := Option.bind_eq_some_iff.mp H
          obtain ⟨⟨t251, t252⟩, A170, H⟩ := H
          replace H : (if t252 = 0 then (if (x9_1.length : Int) > 0 then (if x8_1.size + 1 ≤ 9223372036854775807 then (if x10_1 < (l1.length : Int) then (if rdOf false l1 x10_1 = true then (if (x8_1 ++ (⟨#[10]⟩ : ByteArray)).size + 2 ≤ 9223372036854775807 then (if ((x8_1 ++ (⟨#[10]⟩ : ByteArray)) ++ (⟨#[10, 10]⟩ : ByteArray)).size + t251.size ≤ 9223372036854775807 then (if x9_1.length < 1353245080339 then (tidelinelaw21_ScriptBack.l0 kj5 l0 l1 a2 (((x8_1 ++ (⟨#[10]⟩ : ByteArray)) ++ (⟨#[10, 10]⟩ : ByteArray)) ++ t251) (x9_1 ++ [(⟨(rd_T25 l0 x10_1).f0, (rd_T25 l0 x10_1).f1, (rd_T25 l0 x10_1).f2, (rd_T25 l0 x10_1).f3, (rd_T25 l0 x10_1).f4, (rd_T25 l0 x10_1).f5, (⟨(rd_T25 l0 x10_1).f6.f0, (rd_T25 l0 x10_1).f6.f1, (rd_T25 l0 x10_1).f6.f2⟩ : S23)⟩ : S25)]) (wrap64 (x10_1 + 1))) else (none)) else (none)) else (none)) else (if (x8_1 ++ (⟨#[10]⟩ : ByteArray)).size + t251.size ≤ 9223372036854775807 then (if x9_1.length < 1353245080339 then (tidelinelaw21_ScriptBack.l0 kj5 l0 l1 a2 ((x8_1 ++ (⟨#[10]⟩ : ByteArray)) ++ t251) (x9_1 ++ [(⟨(rd_T25 l0 x10_1).f0, (rd_T25 l0 x10_1).f1, (rd_T25 l0 x10_1).f2, (rd_T25 l0 x10_1).f3, (rd_T25 l0 x10_1).f4, (rd_T25 l0 x10_1).f5, (⟨(rd_T25 l0 x10_1).f6.f0, (rd_T25 l0 x10_1).f6.f1, (rd_T25 l0 x10_1).f6.f2⟩ : S23)⟩ : S25)]) (wrap64 (x10_1 + 1))) else (none)) else (none))) else (if (x8_1 ++ (⟨#[10]⟩ : ByteArray)).size + t251.size ≤ 9223372036854775807 then (if x9_1.length < 1353245080339 then (tidelinelaw21_ScriptBack.l0 kj5 l0 l1 a2 ((x8_1 ++ (⟨#[10]⟩ : ByteArray)) ++ t251) (x9_1 ++ [(⟨(rd_T25 l0 x10_1).f0, (rd_T25 l0 x10_1).f1, (rd_T25 l0 x10_1).f2, (rd_T25 l0 x10_1).f3, (rd_T25 l0 x10_1).f4, (rd_T25 l0 x10_1).f5, (⟨(rd_T25 l0 x10_1).f6.f0, (rd_T25 l0 x10_1).f6.f1, (rd_T25 l0 x10_1).f6.f2⟩ : S23)⟩ : S25)]) (wrap64 (x10_1 + 1))) else (none)) else (none))) else (none)) else (if x10_1 < (l1.length : Int) then (if rdOf false l1 x10_1 = true then (if x8_1.size + 2 ≤ 9223372036854775807 then (if (x8_1 ++ (⟨#[10, 10]⟩ : ByteArray)).size + t251.size ≤ 9223372036854775807 then (if x9_1.length < 1353245080339 then (tidelinelaw21_ScriptBack.l0 kj5 l0 l1 a2 ((x8_1 ++ (⟨#[10, 10]⟩ : ByteArray)) ++ t251) (x9_1 ++ [(⟨(rd_T25 l0 x10_1).f0, (rd_T25 l0 x10_1).f1, (rd_T25 l0 x10_1).f2, (rd_T25 l0 x10_1).f3, (rd_T25 l0 x10_1).f4, (rd_T25 l0 x10_1).f5, (⟨(rd_T25 l0 x10_1).f6.f0, (rd_T25 l0 x10_1).f6.f1, (rd_T25 l0 x10_1).f6.f2⟩ : S23)⟩ : S25)]) (wrap64 (x10_1 + 1))) else (none)) else (none)) else (none)) else (if x8_1.size + t251.size ≤ 9223372036854775807 then (if x9_1.length < 1353245080339 then (tidelinelaw21_ScriptBack.l0 kj5 l0 l1 a2 (x8_1 ++ t251) (x9_1 ++ [(⟨(rd_T25 l0 x10_1).f0, (rd_T25 l0 x10_1).f1, (rd_T25 l0 x10_1).f2, (rd_T25 l0 x10_1).f3, (rd_T25 l0 x10_1).f4, (rd_T25 l0 x10_1).f5, (⟨(rd_T25 l0 x10_1).f6.f0, (rd_T25 l0 x10_1).f6.f1, (rd_T25 l0 x10_1).f6.f2⟩ : S23)⟩ : S25)]) (wrap64 (x10_1 + 1))) else (none)) else (none))) else (if x8_1.size + t251.size ≤ 9223372036854775807 then (if x9_1.length < 1353245080339 then (tidelinelaw21_ScriptBack.l0 kj5 l0 l1 a2 (x8_1 ++ t251) (x9_1 ++ [(⟨(rd_T25 l0 x10_1).f0, (rd_T25 l0 x10_1).f1, (rd_T25 l0 x10_1).f2, (rd_T25 l0 x10_1).f3, (rd_T25 l0 x10_1).f4, (rd_T25 l0 x10_1).f5, (⟨(rd_T25 l0 x10_1).f6.f0, (rd_T25 l0 x10_1).f6.f1, (rd_T25 l0 x10_1).f6.f2⟩ : S23)⟩ : S25)]) (wrap64 (x10_1 + 1))) else (none)) else (none)))) else (none)) = some r := H
          have A17 := Aside0.mk A170
          clear A170
          by_cases c18 : t252 = 0
          ·rw [if_pos c18] at H
           have c18b0 : (t252 == 0) = true := beq_iff_eq.mpr c18
           have c18b1 : (t252 != 0) = false := bne_eq_false_iff_eq.mpr c18
           clear c18
           by_cases c19 : (x9_1.length : Int) > 0
           ·rw [if_pos c19] at H
            have c19b0 : decide (0 < (x9_1.length : Int)) = true := decide_eq_true c19
            have c19b1 : decide (0 < x9_1.length) = true := decide_eq_true (by omega)
            clear c19
            by_cases c20 : x8_1.size + 1 ≤ 9223372036854775807
            ·rw [if_pos c20] at H
             have c20b0 := eq_true c20
             have c20b1 : decide (x8_1.size + 1 ≤ 9223372036854775807) = true := decide_eq_true c20
             try have c20b2 : (9223372036854775807 < x8_1.size + 1) = False := eq_false (Nat.not_lt.2 c20)
             by_cases c21 : x10_1 < (l1.length : Int)
             ·rw [if_pos c21] at H
              have c21b0 : decide (x10_1 < (l1.length : Int)) = true := decide_eq_true c21
              clear c21
              obtain ⟨bq22, hbq22⟩ : ∃ b_ : Bool, b_ = (rdOf false l1 x10_1) := ⟨_, rfl⟩
              replace H : (if bq22 = true then (if (x8_1 ++ (⟨#[10]⟩ : ByteArray)).size + 2 ≤ 9223372036854775807 then (if ((x8_1 ++ (⟨#[10]⟩ : ByteArray)) ++ (⟨#[10, 10]⟩ : ByteArray)).size + t251.size ≤ 9223372036854775807 then (if x9_1.length < 1353245080339 then (tidelinelaw21_ScriptBack.l0 kj5 l0 l1 a2 (((x8_1 ++ (⟨#[10]⟩ : ByteArray)) ++ (⟨#[10, 10]⟩ : ByteArray)) ++ t251) (x9_1 ++ [(⟨(rd_T25 l0 x10_1).f0, (rd_T25 l0 x10_1).f1, (rd_T25 l0 x10_1).f2, (rd_T25 l0 x10_1).f3, (rd_T25 l0 x10_1).f4, (rd_T25 l0 x10_1).f5, (⟨(rd_T25 l0 x10_1).f6.f0, (rd_T25 l0 x10_1).f6.f1, (rd_T25 l0 x10_1).f6.f2⟩ : S23)⟩ : S25)]) (wrap64 (x10_1 + 1))) else (none)) else (none)) else (none)) else (if (x8_1 ++ (⟨#[10]⟩ : ByteArray)).size + t251.size ≤ 9223372036854775807 then (if x9_1.length < 1353245080339 then (tidelinelaw21_ScriptBack.l0 kj5 l0 l1 a2 ((x8_1 ++ (⟨#[10]⟩ : ByteArray)) ++ t251) (x9_1 ++ [(⟨(rd_T25 l0 x10_1).f0, (rd_T25 l0 x10_1).f1, (rd_T25 l0 x10_1).f2, (rd_T25 l0 x10_1).f3, (rd_T25 l0 x10_1).f4, (rd_T25 l0 x10_1).f5, (⟨(rd_T25 l0 x10_1).f6.f0, (rd_T25 l0 x10_1).f6.f1, (rd_T25 l0 x10_1).f6.f2⟩ : S23)⟩ : S25)]) (wrap64 (x10_1 + 1))) else (none)) else (none))) = some r := by rw [← hbq22] at H; exact H
              have Nbq22 := Aside0.mk hbq22
              clear hbq22
              by_cases c23 : bq22 = true
              ·subst c23
               have H1 : (if (x8_1 ++ (⟨#[10]⟩ : ByteArray)).size + 2 ≤ 9223372036854775807 then (if ((x8_1 ++ (⟨#[10]⟩ : ByteArray)) ++ (⟨#[10, 10]⟩ : ByteArray)).size + t251.size ≤ 9223372036854775807 then (if x9_1.length < 1353245080339 then (tidelinelaw21_ScriptBack.l0 kj5 l0 l1 a2 (((x8_1 ++ (⟨#[10]⟩ : ByteArray)) ++ (⟨#[10, 10]⟩ : ByteArray)) ++ t251) (x9_1 ++ [(⟨(rd_T25 l0 x10_1).f0, (rd_T25 l0 x10_1).f1, (rd_T25 l0 x10_1).f2, (rd_T25 l0 x10_1).f3, (rd_T25 l0 x10_1).f4, (rd_T25 l0 x10_1).f5, (⟨(rd_T25 l0 x10_1).f6.f0, (rd_T25 l0 x10_1).f6.f1, (rd_T25 l0 x10_1).f6.f2⟩ : S23)⟩ : S25)]) (wrap64 (x10_1 + 1))) else (none)) else (none)) else (none)) = some r := by rw [if_pos rfl] at H; exact H
               clear H
               have H := H1
               clear H1
               by_cases c24 : (x8_1 ++ (⟨#[10]⟩ : ByteArray)).size + 2 ≤ 9223372036854775807
               ·rw [if_pos c24] at H
                have c24b0 := eq_true c24
                have c24b1 : decide ((x8_1 ++ (⟨#[10]⟩ : ByteArray)).size + 2 ≤ 9223372036854775807) = true := decide_eq_true c24
                try have c24b2 : (9223372036854775807 < (x8_1 ++ (⟨#[10]⟩ : ByteArray)).size + 2) = False := eq_false (Nat.not_lt.2 c24)
                try have c24b9 : (9223372036854775807 < x8_1.size + 1 + 2) = False := eq_false (by have h_ := c24; simp only [ByteArray.size_append] at h_; exact Nat.not_lt.2 h_)
                by_cases c25 : ((x8_1 ++ (⟨#[10]⟩ : ByteArray)) ++ (⟨#[10, 10]⟩ : ByteArray)).size + t251.size ≤ 9223372036854775807
                ·rw [if_pos c25] at H
                 have c25b0 := eq_true c25
                 have c25b1 : decide (((x8_1 ++ (⟨#[10]⟩ : ByteArray)) ++ (⟨#[10, 10]⟩ : ByteArray)).size + t251.size ≤ 9223372036854775807) = true := decide_eq_true c25
                 try have c25b2 : (9223372036854775807 < ((x8_1 ++ (⟨#[10]⟩ : ByteArray)) ++ (⟨#[10, 10]⟩ : ByteArray)).size + t251.size) = False := eq_false (Nat.not_lt.2 c25)
                 try have c25b9 : (9223372036854775807 < x8_1.size + 1 + 2 + t251.size) = False := eq_false (by have h_ := c25; simp only [ByteArray.size_append] at h_; exact Nat.not_lt.2 h_)
                 by_cases c26 : x9_1.length < 1353245080339
                 ·rw [if_pos c26] at H
                  have LMc26 := Aside0.mk c26
                  clear c26
                  obtain ⟨y255, hy255⟩ : ∃ y_ : List (S25), y_ = (x9_1 ++ [(⟨(rd_T25 l0 x10_1).f0, (rd_T25 l0 x10_1).f1, (rd_T25 l0 x10_1).f2, (rd_T25 l0 x10_1).f3, (rd_T25 l0 x10_1).f4, (rd_T25 l0 x10_1).f5, (⟨(rd_T25 l0 x10_1).f6.f0, (rd_T25 l0 x10_1).f6.f1, (rd_T25 l0 x10_1).f6.f2⟩ : S23)⟩ : S25)]) := ⟨_, rfl⟩
                  replace H : (tidelinelaw21_ScriptBack.l0 kj5 l0 l1 a2 (((x8_1 ++ (⟨#[10]⟩ : ByteArray)) ++ (⟨#[10, 10]⟩ : ByteArray)) ++ t251) y255 (wrap64 (x10_1 + 1))) = some r := by first | (rw [hy255]; with_reducible exact H) | (have H2_ := (Option.bind_some _ _).symm.trans H; rw [hy255]; with_reducible exact H2_) | (have H2_ := (Option.bind_some _ _).symm.trans H; with_reducible exact H2_) | with_reducible exact H | (rw [hy255]; exact H) | exact H
                  have Ny255 := Aside0.mk hy255
                  clear hy255
                  have H' := Aside0.mk H
                  clear H
                  have p245 : 0 ≤ (x10_1 : Int) := of_decide_eq_true (by first | (with_reducible assumption) | assumption)
                  have q245 : x10_1 < (l0.length : Int) := of_decide_eq_true (by first | (with_reducible assumption) | assumption)
                  obtain ⟨ad245, e245, hx245_0, hx245_1, hx245_2, hx245_3, hx245_4, hx245_5, hx245_6, hx245_7, hx245_8⟩ := at_T25 HR0.out x10_1 p245 q245
                  (try rw [← Nbq22.out] at hx245_8)
                  (try rw [← Nbq22.out] at hw245_8)
                  cases e245
                  replace hx245_0 := (HB.out.cell (World.block_lt_of_cell? w _ hx245_0)).trans hx245_0
                  replace hx245_1 := (HB.out.cell (World.block_lt_of_cell? w _ hx245_1)).trans hx245_1
                  replace hx245_2 := (HB.out.cell (World.block_lt_of_cell? w _ hx245_2)).trans hx245_2
                  replace hx245_3 := (HB.out.cell (World.block_lt_of_cell? w _ hx245_3)).trans hx245_3
                  replace hx245_4 := (HB.out.cell (World.block_lt_of_cell? w _ hx245_4)).trans hx245_4
                  replace hx245_5 := (HB.out.cell (World.block_lt_of_cell? w _ hx245_5)).trans hx245_5
                  replace hx245_6 := (HB.out.cell (World.block_lt_of_cell? w _ hx245_6)).trans hx245_6
                  replace hx245_7 := (HB.out.cell (World.block_lt_of_cell? w _ hx245_7)).trans hx245_7
                  replace hx245_8 := (HB.out.cell (World.block_lt_of_cell? w _ hx245_8)).trans hx245_8
                  replace p245 := eq_true p245
                  replace q245 := eq_true q245
                  go_wp2_with (first | ((with_reducible refine gate_callee (f := 6) rfl ?_); refine goesL_ (some 34) rfl rfl Tryz.func6 (by kernel_rfl) rfl #[.agg #[.int .i64 ((rd_T25 l0 x10_1).f0), .int .i64 ((rd_T25 l0 x10_1).f1), .int .i64 ((rd_T25 l0 x10_1).f2), .int .i64 ((rd_T25 l0 x10_1).f3), .string ((rd_T25 l0 x10_1).f4), .string ((rd_T25 l0 x10_1).f5), .string ((rd_T25 l0 x10_1).f6.f0), .string ((rd_T25 l0 x10_1).f6.f1), .bool ((rd_T25 l0 x10_1).f6.f2)]] rfl (by (try simp only [List.map_toArray, List.map_cons, List.map_nil]); first | done | rfl | (simp only [List.length_drop, List.length_take]; rfl)) ?_; (with_reducible refine (tidelinelaw21_long.calls ((rd_T25 l0 x10_1).f0) ((rd_T25 l0 x10_1).f1) ((rd_T25 l0 x10_1).f2) ((rd_T25 l0 x10_1).f3) ((rd_T25 l0 x10_1).f4) ((rd_T25 l0 x10_1).f5) ((rd_T25 l0 x10_1).f6.f0) ((rd_T25 l0 x10_1).f6.f1) ((rd_T25 l0 x10_1).f6.f2) false _ A12.out).mono ?_); rintro e w27 ⟨rfl, hb⟩; refine ⟨_, rfl, ?_⟩; have n0_ := Aside0.mk (Kd.R_below (by (with_reducible repeat (first | apply Kd.R_alloc | apply Kd.R_drewN | apply Kd.R_drew)); exact HO_9.out) hb); have n1_ := Aside0.mk (below_step (by repeat (first | (with_reducible first | exact HB.out | apply below_alloc | apply pw_below_drewN | apply below_drew1) | exact HB.out)) hb); clear HO_9; clear HB; have HO_9 := n0_; have HB := n1_; clear n0_ n1_; (try clear hb); (try clear hb2); (try clear hk); (try clear hi); have p247 : 0 ≤ (x10_1 : Int) := of_decide_eq_true (by first | (with_reducible assumption) | assumption); have q247 : x10_1 < (l0.length : Int) := of_decide_eq_true (by first | (with_reducible assumption) | assumption); obtain ⟨ad247, e247, hx247_0, hx247_1, hx247_2, hx247_3, hx247_4, hx247_5, hx247_6, hx247_7, hx247_8⟩ := at_T25 HR0.out x10_1 p247 q247; (try rw [← Nbq22.out] at hx247_8); (try rw [← Nbq22.out] at hw247_8); obtain rfl : ad245 = ad247 := (by injection e247); replace hx247_0 := (HB.out.cell (World.block_lt_of_cell? w _ hx247_0)).trans hx247_0; replace hx247_1 := (HB.out.cell (World.block_lt_of_cell? w _ hx247_1)).trans hx247_1; replace hx247_2 := (HB.out.cell (World.block_lt_of_cell? w _ hx247_2)).trans hx247_2; replace hx247_3 := (HB.out.cell (World.block_lt_of_cell? w _ hx247_3)).trans hx247_3; replace hx247_4 := (HB.out.cell (World.block_lt_of_cell? w _ hx247_4)).trans hx247_4; replace hx247_5 := (HB.out.cell (World.block_lt_of_cell? w _ hx247_5)).trans hx247_5; replace hx247_6 := (HB.out.cell (World.block_lt_of_cell? w _ hx247_6)).trans hx247_6; replace hx247_7 := (HB.out.cell (World.block_lt_of_cell? w _ hx247_7)).trans hx247_7; replace hx247_8 := (HB.out.cell (World.block_lt_of_cell? w _ hx247_8)).trans hx247_8; replace p247 := eq_true p247; replace q247 := eq_true q247) | ((with_reducible refine gate_callee (f := 8) rfl ?_); refine goesL_ (some 40) rfl rfl Tryz.func8 (by kernel_rfl) rfl #[.agg #[.int .i64 ((rd_T25 l0 x10_1).f0), .int .i64 ((rd_T25 l0 x10_1).f1), .int .i64 ((rd_T25 l0 x10_1).f2), .int .i64 ((rd_T25 l0 x10_1).f3), .string ((rd_T25 l0 x10_1).f4), .string ((rd_T25 l0 x10_1).f5), .string ((rd_T25 l0 x10_1).f6.f0), .string ((rd_T25 l0 x10_1).f6.f1), .bool ((rd_T25 l0 x10_1).f6.f2)]] rfl (by (try simp only [List.map_toArray, List.map_cons, List.map_nil]); first | done | rfl | (simp only [List.length_drop, List.length_take]; rfl)) ?_; (with_reducible refine (tidelineref21_Print.calls kj5 ((rd_T25 l0 x10_1).f0) ((rd_T25 l0 x10_1).f1) ((rd_T25 l0 x10_1).f2) ((rd_T25 l0 x10_1).f3) ((rd_T25 l0 x10_1).f4) ((rd_T25 l0 x10_1).f5) ((rd_T25 l0 x10_1).f6.f0) ((rd_T25 l0 x10_1).f6.f1) ((rd_T25 l0 x10_1).f6.f2) t248 t249 _ A15.out).mono ?_); rintro e w28 ⟨rfl, hb⟩; refine ⟨_, rfl, ?_⟩; have n0_ := Aside0.mk (Kd.R_below (by (with_reducible repeat (first | apply Kd.R_alloc | apply Kd.R_drewN | apply Kd.R_drew)); exact HO_9.out) hb); have n1_ := Aside0.mk (below_step (by repeat (first | (with_reducible first | exact HB.out | apply below_alloc | apply pw_below_drewN | apply below_drew1) | exact HB.out)) hb); clear HO_9; clear HB; have HO_9 := n0_; have HB := n1_; clear n0_ n1_; (try clear hb); (try clear hb2); (try clear hk); (try clear hi); have p250 : 0 ≤ (x10_1 : Int) := of_decide_eq_true (by first | (with_reducible assumption) | assumption); have q250 : x10_1 < (l0.length : Int) := of_decide_eq_true (by first | (with_reducible assumption) | assumption); obtain ⟨ad250, e250, hx250_0, hx250_1, hx250_2, hx250_3, hx250_4, hx250_5, hx250_6, hx250_7, hx250_8⟩ := at_T25 HR0.out x10_1 p250 q250; (try rw [← Nbq22.out] at hx250_8); (try rw [← Nbq22.out] at hw250_8); obtain rfl : ad245 = ad250 := (by injection e250); replace hx250_0 := (HB.out.cell (World.block_lt_of_cell? w _ hx250_0)).trans hx250_0; replace hx250_1 := (HB.out.cell (World.block_lt_of_cell? w _ hx250_1)).trans hx250_1; replace hx250_2 := (HB.out.cell (World.block_lt_of_cell? w _ hx250_2)).trans hx250_2; replace hx250_3 := (HB.out.cell (World.block_lt_of_cell? w _ hx250_3)).trans hx250_3; replace hx250_4 := (HB.out.cell (World.block_lt_of_cell? w _ hx250_4)).trans hx250_4; replace hx250_5 := (HB.out.cell (World.block_lt_of_cell? w _ hx250_5)).trans hx250_5; replace hx250_6 := (HB.out.cell (World.block_lt_of_cell? w _ hx250_6)).trans hx250_6; replace hx250_7 := (HB.out.cell (World.block_lt_of_cell? w _ hx250_7)).trans hx250_7; replace hx250_8 := (HB.out.cell (World.block_lt_of_cell? w _ hx250_8)).trans hx250_8; replace p250 := eq_true p250; replace q250 := eq_true q250) | ((with_reducible refine gate_callee (f := 7) rfl ?_); refine goesL_ (some 50) rfl rfl Tryz.func7 (by kernel_rfl) rfl #[.agg #[.int .i64 ((rd_T25 l0 x10_1).f0), .int .i64 ((rd_T25 l0 x10_1).f1), .int .i64 ((rd_T25 l0 x10_1).f2), .int .i64 ((rd_T25 l0 x10_1).f3), .string ((rd_T25 l0 x10_1).f4), .string ((rd_T25 l0 x10_1).f5), .string ((rd_T25 l0 x10_1).f6.f0), .string ((rd_T25 l0 x10_1).f6.f1), .bool ((rd_T25 l0 x10_1).f6.f2)]] rfl (by (try simp only [List.map_toArray, List.map_cons, List.map_nil]); first | done | rfl | (simp only [List.length_drop, List.length_take]; rfl)) ?_; (with_reducible refine (script_Print.calls ((rd_T25 l0 x10_1).f0) ((rd_T25 l0 x10_1).f1) ((rd_T25 l0 x10_1).f2) ((rd_T25 l0 x10_1).f3) ((rd_T25 l0 x10_1).f4) ((rd_T25 l0 x10_1).f5) ((rd_T25 l0 x10_1).f6.f0) ((rd_T25 l0 x10_1).f6.f1) ((rd_T25 l0 x10_1).f6.f2) t251 t252 _ ?sideG A17.out).mono ?_); (case sideG => exact Glob.GlobOK.below HG.out (by repeat (first | (with_reducible first | exact HB.out | apply below_alloc | apply pw_below_drewN | apply below_drew1) | exact HB.out))); rintro e w29 ⟨rfl, hb⟩; refine ⟨_, rfl, ?_⟩; have n0_ := Aside0.mk (Kd.R_below (by (with_reducible repeat (first | apply Kd.R_alloc | apply Kd.R_drewN | apply Kd.R_drew)); exact HO_9.out) hb); have n1_ := Aside0.mk (below_step (by repeat (first | (with_reducible first | exact HB.out | apply below_alloc | apply pw_below_drewN | apply below_drew1) | exact HB.out)) hb); clear HO_9; clear HB; have HO_9 := n0_; have HB := n1_; clear n0_ n1_; (try clear hb); (try clear hb2); (try clear hk); (try clear hi); obtain ⟨Ao30, co30, eo30⟩ := Kd.R_slice HO_9.out; subst eo30; have p253 : 0 ≤ (x10_1 : Int) := of_decide_eq_true (by first | (with_reducible assumption) | assumption); have q253 : x10_1 < (l1.length : Int) := of_decide_eq_true (by first | (with_reducible assumption) | assumption); obtain ⟨ad253, e253, hx253_0⟩ := Kd.at_bool HR1.out x10_1 p253 q253; (try rw [← Nbq22.out] at hx253_0); (try rw [← Nbq22.out] at hw253_0); cases e253; replace hx253_0 := (HB.out.cell (World.block_lt_of_cell? w _ hx253_0)).trans hx253_0; replace p253 := eq_true p253; replace q253 := eq_true q253; have p254 : 0 ≤ (x10_1 : Int) := of_decide_eq_true (by first | (with_reducible assumption) | assumption); have q254 : x10_1 < (l0.length : Int) := of_decide_eq_true (by first | (with_reducible assumption) | assumption); obtain ⟨ad254, e254, hx254_0, hx254_1, hx254_2, hx254_3, hx254_4, hx254_5, hx254_6, hx254_7, hx254_8⟩ := at_T25 HR0.out x10_1 p254 q254; (try rw [← Nbq22.out] at hx254_8); (try rw [← Nbq22.out] at hw254_8); obtain rfl : ad245 = ad254 := (by injection e254); replace hx254_0 := (HB.out.cell (World.block_lt_of_cell? w _ hx254_0)).trans hx254_0; replace hx254_1 := (HB.out.cell (World.block_lt_of_cell? w _ hx254_1)).trans hx254_1; replace hx254_2 := (HB.out.cell (World.block_lt_of_cell? w _ hx254_2)).trans hx254_2; replace hx254_3 := (HB.out.cell (World.block_lt_of_cell? w _ hx254_3)).trans hx254_3; replace hx254_4 := (HB.out.cell (World.block_lt_of_cell? w _ hx254_4)).trans hx254_4; replace hx254_5 := (HB.out.cell (World.block_lt_of_cell? w _ hx254_5)).trans hx254_5; replace hx254_6 := (HB.out.cell (World.block_lt_of_cell? w _ hx254_6)).trans hx254_6; replace hx254_7 := (HB.out.cell (World.block_lt_of_cell? w _ hx254_7)).trans hx254_7; replace hx254_8 := (HB.out.cell (World.block_lt_of_cell? w _ hx254_8)).trans hx254_8; replace p254 := eq_true p254; replace q254 := eq_true q254) | ((with_reducible refine gate_builtin (b := .append) (xs := #[.tmp 79, .tmp 84]) rfl ?_); (try (refine gate_guard (by rfl) ?_; dsimp only)); at_builtin; refine Kd.R_append k25 (w0 := w) w.heap.size rfl (.tmp 79) (.tmp 84) 33 25 (.agg #[(.int .i64 0), (.int .i64 0), (.int .i64 0), (.int .i64 0), (.string ⟨#[]⟩), (.string ⟨#[]⟩), (.string ⟨#[]⟩), (.string ⟨#[]⟩), (.bool false)]) 104 rfl Tryz.underlying33 info25 rfl (by decide) (by omega) (.slice Ao30 x9_1.length co30) x9_1 (⟨(rd_T25 l0 x10_1).f0, (rd_T25 l0 x10_1).f1, (rd_T25 l0 x10_1).f2, (rd_T25 l0 x10_1).f3, (rd_T25 l0 x10_1).f4, (rd_T25 l0 x10_1).f5, (⟨(rd_T25 l0 x10_1).f6.f0, (rd_T25 l0 x10_1).f6.f1, (rd_T25 l0 x10_1).f6.f2⟩ : S23)⟩ : S25) [.int .i64 ((rd_T25 l0 x10_1).f0), .int .i64 ((rd_T25 l0 x10_1).f1), .int .i64 ((rd_T25 l0 x10_1).f2), .int .i64 ((rd_T25 l0 x10_1).f3), .string ((rd_T25 l0 x10_1).f4), .string ((rd_T25 l0 x10_1).f5), .string ((rd_T25 l0 x10_1).f6.f0), .string ((rd_T25 l0 x10_1).f6.f1), .bool ((rd_T25 l0 x10_1).f6.f2)] (fun _ => True) (fun _ => False) rfl rfl ?aP (fun _ hk => hk.elim) ?aF ?aO ?aB ?aS ?aL ?_; (case aP => exact k25_mkM _ _ _ (⟨(rd_T25 l0 x10_1).f0, (rd_T25 l0 x10_1).f1, (rd_T25 l0 x10_1).f2, (rd_T25 l0 x10_1).f3, (rd_T25 l0 x10_1).f4, (rd_T25 l0 x10_1).f5, (⟨(rd_T25 l0 x10_1).f6.f0, (rd_T25 l0 x10_1).f6.f1, (rd_T25 l0 x10_1).f6.f2⟩ : S23)⟩ : S25)); (case aB => exact (by repeat (first | (with_reducible first | exact HB.out | apply below_alloc | apply pw_below_drewN | apply below_drew1) | exact HB.out))); (case aF => exact (fun _ _ => trivial)); (case aO => exact (by (with_reducible repeat (first | apply Kd.R_alloc | apply Kd.R_drewN | apply Kd.R_drew)); exact HO_9.out)); (case aS => exact (below_size (by repeat (first | (with_reducible first | exact HB.out | apply below_alloc | apply pw_below_drewN | apply below_drew1) | exact HB.out)))); (case aL => have := LMc26.out; omega); intro v256 w31 ho hb hg hat; rw [← Ny255.out] at ho; have n0_ := Aside0.mk (hb); have n1_ := Aside0.mk (ho); clear HB; clear HO_9; have HB := n0_; have HO257 := n1_; clear n0_ n1_; clear ho hb hg hat))
                  go_roundg kj5
                  case measure => have := HK1.out; have := HJ5.out; omega
                  case rel => exact ⟨_, (((x8_1 ++ (⟨#[10]⟩ : ByteArray)) ++ (⟨#[10, 10]⟩ : ByteArray)) ++ t251), (y255), (wrap64 (x10_1 + 1)), rfl, (by first | rfl | (simp; done) | (simp [*]; done) | (simp [*, Go.Proofs.YtodmbjbfigifnaaGreatDoor.Str.bne_nil]; done)), (by first | rfl | (simp; done) | (simp [*]; done) | (simp [*, Go.Proofs.YtodmbjbfigifnaaGreatDoor.Str.bne_nil]; done)), H', ⟨by have := HK1.out; have := HJ5.out; omega⟩, ⟨by (with_reducible repeat (first | apply Kd.R_alloc | apply Kd.R_drewN | apply Kd.R_drew)); exact HO257.out⟩, ⟨by repeat (first | (with_reducible first | exact HB.out | apply below_alloc | apply pw_below_drewN | apply below_drew1) | exact HB.out)⟩⟩
                 ·rw [if_neg c26] at H
                  exact absurd H (by simp)
                ·rw [if_neg c25] at H
                 exact absurd H (by simp)
               ·rw [if_neg c24] at H
                exact absurd H (by simp)
              ·replace c23 := Bool.eq_false_iff.mpr c23
               subst c23
               have H1 : (if (x8_1 ++ (⟨#[10]⟩ : ByteArray)).size + t251.size ≤ 9223372036854775807 then (if x9_1.length < 1353245080339 then (tidelinelaw21_ScriptBack.l0 kj5 l0 l1 a2 ((x8_1 ++ (⟨#[10]⟩ : ByteArray)) ++ t251) (x9_1 ++ [(⟨(rd_T25 l0 x10_1).f0, (rd_T25 l0 x10_1).f1, (rd_T25 l0 x10_1).f2, (rd_T25 l0 x10_1).f3, (rd_T25 l0 x10_1).f4, (rd_T25 l0 x10_1).f5, (⟨(rd_T25 l0 x10_1).f6.f0, (rd_T25 l0 x10_1).f6.f1, (rd_T25 l0 x10_1).f6.f2⟩ : S23)⟩ : S25)]) (wrap64 (x10_1 + 1))) else (none)) else (none)) = some r := by rw [if_neg (show ¬ (false = true) by decide)] at H; exact H
               clear H
               have H := H1
               clear H1
               by_cases c32 : (x8_1 ++ (⟨#[10]⟩ : ByteArray)).size + t251.size ≤ 9223372036854775807
               ·rw [if_pos c32] at H
                have c32b0 := eq_true c32
                have c32b1 : decide ((x8_1 ++ (⟨#[10]⟩ : ByteArray)).size + t251.size ≤ 9223372036854775807) = true := decide_eq_true c32
                try have c32b2 : (9223372036854775807 < (x8_1 ++ (⟨#[10]⟩ : ByteArray)).size + t251.size) = False := eq_false (Nat.not_lt.2 c32)
                try have c32b9 : (9223372036854775807 < x8_1.size + 1 + t251.size) = False := eq_false (by have h_ := c32; simp only [ByteArray.size_append] at h_; exact Nat.not_lt.2 h_)
                by_cases c33 : x9_1.length < 1353245080339
                ·rw [if_pos c33] at H
                 have LMc33 := Aside0.mk c33
                 clear c33
                 obtain ⟨y259, hy259⟩ : ∃ y_ : List (S25), y_ = (x9_1 ++ [(⟨(rd_T25 l0 x10_1).f0, (rd_T25 l0 x10_1).f1, (rd_T25 l0 x10_1).f2, (rd_T25 l0 x10_1).f3, (rd_T25 l0 x10_1).f4, (rd_T25 l0 x10_1).f5, (⟨(rd_T25 l0 x10_1).f6.f0, (rd_T25 l0 x10_1).f6.f1, (rd_T25 l0 x10_1).f6.f2⟩ : S23)⟩ : S25)]) := ⟨_, rfl⟩
                 replace H : (tidelinelaw21_ScriptBack.l0 kj5 l0 l1 a2 ((x8_1 ++ (⟨#[10]⟩ : ByteArray)) ++ t251) y259 (wrap64 (x10_1 + 1))) = some r := by first | (rw [hy259]; with_reducible exact H) | (have H2_ := (Option.bind_some _ _).symm.trans H; rw [hy259]; with_reducible exact H2_) | (have H2_ := (Option.bind_some _ _).symm.trans H; with_reducible exact H2_) | with_reducible exact H | (rw [hy259]; exact H) | exact H
                 have Ny259 := Aside0.mk hy259
                 clear hy259
                 have H' := Aside0.mk H
                 clear H
                 have p245 : 0 ≤ (x10_1 : Int) := of_decide_eq_true (by first | (with_reducible assumption) | assumption)
                 have q245 : x10_1 < (l0.length : Int) := of_decide_eq_true (by first | (with_reducible assumption) | assumption)
                 obtain ⟨ad245, e245, hx245_0, hx245_1, hx245_2, hx245_3, hx245_4, hx245_5, hx245_6, hx245_7, hx245_8⟩ := at_T25 HR0.out x10_1 p245 q245
                 (try rw [← Nbq22.out] at hx245_8)
                 (try rw [← Nbq22.out] at hw245_8)
                 cases e245
                 replace hx245_0 := (HB.out.cell (World.block_lt_of_cell? w _ hx245_0)).trans hx245_0
                 replace hx245_1 := (HB.out.cell (World.block_lt_of_cell? w _ hx245_1)).trans hx245_1
                 replace hx245_2 := (HB.out.cell (World.block_lt_of_cell? w _ hx245_2)).trans hx245_2
                 replace hx245_3 := (HB.out.cell (World.block_lt_of_cell? w _ hx245_3)).trans hx245_3
                 replace hx245_4 := (HB.out.cell (World.block_lt_of_cell? w _ hx245_4)).trans hx245_4
                 replace hx245_5 := (HB.out.cell (World.block_lt_of_cell? w _ hx245_5)).trans hx245_5
                 replace hx245_6 := (HB.out.cell (World.block_lt_of_cell? w _ hx245_6)).trans hx245_6
                 replace hx245_7 := (HB.out.cell (World.block_lt_of_cell? w _ hx245_7)).trans hx245_7
                 replace hx245_8 := (HB.out.cell (World.block_lt_of_cell? w _ hx245_8)).trans hx245_8
                 replace p245 := eq_true p245
                 replace q245 := eq_true q245
                 go_wp2_with (first | ((with_reducible refine gate_callee (f := 6) rfl ?_); refine goesL_ (some 34) rfl rfl Tryz.func6 (by kernel_rfl) rfl #[.agg #[.int .i64 ((rd_T25 l0 x10_1).f0), .int .i64 ((rd_T25 l0 x10_1).f1), .int .i64 ((rd_T25 l0 x10_1).f2), .int .i64 ((rd_T25 l0 x10_1).f3), .string ((rd_T25 l0 x10_1).f4), .string ((rd_T25 l0 x10_1).f5), .string ((rd_T25 l0 x10_1).f6.f0), .string ((rd_T25 l0 x10_1).f6.f1), .bool ((rd_T25 l0 x10_1).f6.f2)]] rfl (by (try simp only [List.map_toArray, List.map_cons, List.map_nil]); first | done | rfl | (simp only [List.length_drop, List.length_take]; rfl)) ?_; (with_reducible refine (tidelinelaw21_long.calls ((rd_T25 l0 x10_1).f0) ((rd_T25 l0 x10_1).f1) ((rd_T25 l0 x10_1).f2) ((rd_T25 l0 x10_1).f3) ((rd_T25 l0 x10_1).f4) ((rd_T25 l0 x10_1).f5) ((rd_T25 l0 x10_1).f6.f0) ((rd_T25 l0 x10_1).f6.f1) ((rd_T25 l0 x10_1).f6.f2) false _ A12.out).mono ?_); rintro e w34 ⟨rfl, hb⟩; refine ⟨_, rfl, ?_⟩; have n0_ := Aside0.mk (Kd.R_below (by (with_reducible repeat (first | apply Kd.R_alloc | apply Kd.R_drewN | apply Kd.R_drew)); exact HO_9.out) hb); have n1_ := Aside0.mk (below_step (by repeat (first | (with_reducible first | exact HB.out | apply below_alloc | apply pw_below_drewN | apply below_drew1) | exact HB.out)) hb); clear HO_9; clear HB; have HO_9 := n0_; have HB := n1_; clear n0_ n1_; (try clear hb); (try clear hb2); (try clear hk); (try clear hi); have p247 : 0 ≤ (x10_1 : Int) := of_decide_eq_true (by first | (with_reducible assumption) | assumption); have q247 : x10_1 < (l0.length : Int) := of_decide_eq_true (by first | (with_reducible assumption) | assumption); obtain ⟨ad247, e247, hx247_0, hx247_1, hx247_2, hx247_3, hx247_4, hx247_5, hx247_6, hx247_7, hx247_8⟩ := at_T25 HR0.out x10_1 p247 q247; (try rw [← Nbq22.out] at hx247_8); (try rw [← Nbq22.out] at hw247_8); obtain rfl : ad245 = ad247 := (by injection e247); replace hx247_0 := (HB.out.cell (World.block_lt_of_cell? w _ hx247_0)).trans hx247_0; replace hx247_1 := (HB.out.cell (World.block_lt_of_cell? w _ hx247_1)).trans hx247_1; replace hx247_2 := (HB.out.cell (World.block_lt_of_cell? w _ hx247_2)).trans hx247_2; replace hx247_3 := (HB.out.cell (World.block_lt_of_cell? w _ hx247_3)).trans hx247_3; replace hx247_4 := (HB.out.cell (World.block_lt_of_cell? w _ hx247_4)).trans hx247_4; replace hx247_5 := (HB.out.cell (World.block_lt_of_cell? w _ hx247_5)).trans hx247_5; replace hx247_6 := (HB.out.cell (World.block_lt_of_cell? w _ hx247_6)).trans hx247_6; replace hx247_7 := (HB.out.cell (World.block_lt_of_cell? w _ hx247_7)).trans hx247_7; replace hx247_8 := (HB.out.cell (World.block_lt_of_cell? w _ hx247_8)).trans hx247_8; replace p247 := eq_true p247; replace q247 := eq_true q247) | ((with_reducible refine gate_callee (f := 8) rfl ?_); refine goesL_ (some 40) rfl rfl Tryz.func8 (by kernel_rfl) rfl #[.agg #[.int .i64 ((rd_T25 l0 x10_1).f0), .int .i64 ((rd_T25 l0 x10_1).f1), .int .i64 ((rd_T25 l0 x10_1).f2), .int .i64 ((rd_T25 l0 x10_1).f3), .string ((rd_T25 l0 x10_1).f4), .string ((rd_T25 l0 x10_1).f5), .string ((rd_T25 l0 x10_1).f6.f0), .string ((rd_T25 l0 x10_1).f6.f1), .bool ((rd_T25 l0 x10_1).f6.f2)]] rfl (by (try simp only [List.map_toArray, List.map_cons, List.map_nil]); first | done | rfl | (simp only [List.length_drop, List.length_take]; rfl)) ?_; (with_reducible refine (tidelineref21_Print.calls kj5 ((rd_T25 l0 x10_1).f0) ((rd_T25 l0 x10_1).f1) ((rd_T25 l0 x10_1).f2) ((rd_T25 l0 x10_1).f3) ((rd_T25 l0 x10_1).f4) ((rd_T25 l0 x10_1).f5) ((rd_T25 l0 x10_1).f6.f0) ((rd_T25 l0 x10_1).f6.f1) ((rd_T25 l0 x10_1).f6.f2) t248 t249 _ A15.out).mono ?_); rintro e w35 ⟨rfl, hb⟩; refine ⟨_, rfl, ?_⟩; have n0_ := Aside0.mk (Kd.R_below (by (with_reducible repeat (first | apply Kd.R_alloc | apply Kd.R_drewN | apply Kd.R_drew)); exact HO_9.out) hb); have n1_ := Aside0.mk (below_step (by repeat (first | (with_reducible first | exact HB.out | apply below_alloc | apply pw_below_drewN | apply below_drew1) | exact HB.out)) hb); clear HO_9; clear HB; have HO_9 := n0_; have HB := n1_; clear n0_ n1_; (try clear hb); (try clear hb2); (try clear hk); (try clear hi); have p250 : 0 ≤ (x10_1 : Int) := of_decide_eq_true (by first | (with_reducible assumption) | assumption); have q250 : x10_1 < (l0.length : Int) := of_decide_eq_true (by first | (with_reducible assumption) | assumption); obtain ⟨ad250, e250, hx250_0, hx250_1, hx250_2, hx250_3, hx250_4, hx250_5, hx250_6, hx250_7, hx250_8⟩ := at_T25 HR0.out x10_1 p250 q250; (try rw [← Nbq22.out] at hx250_8); (try rw [← Nbq22.out] at hw250_8); obtain rfl : ad245 = ad250 := (by injection e250); replace hx250_0 := (HB.out.cell (World.block_lt_of_cell? w _ hx250_0)).trans hx250_0; replace hx250_1 := (HB.out.cell (World.block_lt_of_cell? w _ hx250_1)).trans hx250_1; replace hx250_2 := (HB.out.cell (World.block_lt_of_cell? w _ hx250_2)).trans hx250_2; replace hx250_3 := (HB.out.cell (World.block_lt_of_cell? w _ hx250_3)).trans hx250_3; replace hx250_4 := (HB.out.cell (World.block_lt_of_cell? w _ hx250_4)).trans hx250_4; replace hx250_5 := (HB.out.cell (World.block_lt_of_cell? w _ hx250_5)).trans hx250_5; replace hx250_6 := (HB.out.cell (World.block_lt_of_cell? w _ hx250_6)).trans hx250_6; replace hx250_7 := (HB.out.cell (World.block_lt_of_cell? w _ hx250_7)).trans hx250_7; replace hx250_8 := (HB.out.cell (World.block_lt_of_cell? w _ hx250_8)).trans hx250_8; replace p250 := eq_true p250; replace q250 := eq_true q250) | ((with_reducible refine gate_callee (f := 7) rfl ?_); refine goesL_ (some 50) rfl rfl Tryz.func7 (by kernel_rfl) rfl #[.agg #[.int .i64 ((rd_T25 l0 x10_1).f0), .int .i64 ((rd_T25 l0 x10_1).f1), .int .i64 ((rd_T25 l0 x10_1).f2), .int .i64 ((rd_T25 l0 x10_1).f3), .string ((rd_T25 l0 x10_1).f4), .string ((rd_T25 l0 x10_1).f5), .string ((rd_T25 l0 x10_1).f6.f0), .string ((rd_T25 l0 x10_1).f6.f1), .bool ((rd_T25 l0 x10_1).f6.f2)]] rfl (by (try simp only [List.map_toArray, List.map_cons, List.map_nil]); first | done | rfl | (simp only [List.length_drop, List.length_take]; rfl)) ?_; (with_reducible refine (script_Print.calls ((rd_T25 l0 x10_1).f0) ((rd_T25 l0 x10_1).f1) ((rd_T25 l0 x10_1).f2) ((rd_T25 l0 x10_1).f3) ((rd_T25 l0 x10_1).f4) ((rd_T25 l0 x10_1).f5) ((rd_T25 l0 x10_1).f6.f0) ((rd_T25 l0 x10_1).f6.f1) ((rd_T25 l0 x10_1).f6.f2) t251 t252 _ ?sideG A17.out).mono ?_); (case sideG => exact Glob.GlobOK.below HG.out (by repeat (first | (with_reducible first | exact HB.out | apply below_alloc | apply pw_below_drewN | apply below_drew1) | exact HB.out))); rintro e w36 ⟨rfl, hb⟩; refine ⟨_, rfl, ?_⟩; have n0_ := Aside0.mk (Kd.R_below (by (with_reducible repeat (first | apply Kd.R_alloc | apply Kd.R_drewN | apply Kd.R_drew)); exact HO_9.out) hb); have n1_ := Aside0.mk (below_step (by repeat (first | (with_reducible first | exact HB.out | apply below_alloc | apply pw_below_drewN | apply below_drew1) | exact HB.out)) hb); clear HO_9; clear HB; have HO_9 := n0_; have HB := n1_; clear n0_ n1_; (try clear hb); (try clear hb2); (try clear hk); (try clear hi); obtain ⟨Ao37, co37, eo37⟩ := Kd.R_slice HO_9.out; subst eo37; have p253 : 0 ≤ (x10_1 : Int) := of_decide_eq_true (by first | (with_reducible assumption) | assumption); have q253 : x10_1 < (l1.length : Int) := of_decide_eq_true (by first | (with_reducible assumption) | assumption); obtain ⟨ad253, e253, hx253_0⟩ := Kd.at_bool HR1.out x10_1 p253 q253; (try rw [← Nbq22.out] at hx253_0); (try rw [← Nbq22.out] at hw253_0); cases e253; replace hx253_0 := (HB.out.cell (World.block_lt_of_cell? w _ hx253_0)).trans hx253_0; replace p253 := eq_true p253; replace q253 := eq_true q253; have p258 : 0 ≤ (x10_1 : Int) := of_decide_eq_true (by first | (with_reducible assumption) | assumption); have q258 : x10_1 < (l0.length : Int) := of_decide_eq_true (by first | (with_reducible assumption) | assumption); obtain ⟨ad258, e258, hx258_0, hx258_1, hx258_2, hx258_3, hx258_4, hx258_5, hx258_6, hx258_7, hx258_8⟩ := at_T25 HR0.out x10_1 p258 q258; (try rw [← Nbq22.out] at hx258_8); (try rw [← Nbq22.out] at hw258_8); obtain rfl : ad245 = ad258 := (by injection e258); replace hx258_0 := (HB.out.cell (World.block_lt_of_cell? w _ hx258_0)).trans hx258_0; replace hx258_1 := (HB.out.cell (World.block_lt_of_cell? w _ hx258_1)).trans hx258_1; replace hx258_2 := (HB.out.cell (World.block_lt_of_cell? w _ hx258_2)).trans hx258_2; replace hx258_3 := (HB.out.cell (World.block_lt_of_cell? w _ hx258_3)).trans hx258_3; replace hx258_4 := (HB.out.cell (World.block_lt_of_cell? w _ hx258_4)).trans hx258_4; replace hx258_5 := (HB.out.cell (World.block_lt_of_cell? w _ hx258_5)).trans hx258_5; replace hx258_6 := (HB.out.cell (World.block_lt_of_cell? w _ hx258_6)).trans hx258_6; replace hx258_7 := (HB.out.cell (World.block_lt_of_cell? w _ hx258_7)).trans hx258_7; replace hx258_8 := (HB.out.cell (World.block_lt_of_cell? w _ hx258_8)).trans hx258_8; replace p258 := eq_true p258; replace q258 := eq_true q258) | ((with_reducible refine gate_builtin (b := .append) (xs := #[.tmp 79, .tmp 84]) rfl ?_); (try (refine gate_guard (by rfl) ?_; dsimp only)); at_builtin; refine Kd.R_append k25 (w0 := w) w.heap.size rfl (.tmp 79) (.tmp 84) 33 25 (.agg #[(.int .i64 0), (.int .i64 0), (.int .i64 0), (.int .i64 0), (.string ⟨#[]⟩), (.string ⟨#[]⟩), (.string ⟨#[]⟩), (.string ⟨#[]⟩), (.bool false)]) 104 rfl Tryz.underlying33 info25 rfl (by decide) (by omega) (.slice Ao37 x9_1.length co37) x9_1 (⟨(rd_T25 l0 x10_1).f0, (rd_T25 l0 x10_1).f1, (rd_T25 l0 x10_1).f2, (rd_T25 l0 x10_1).f3, (rd_T25 l0 x10_1).f4, (rd_T25 l0 x10_1).f5, (⟨(rd_T25 l0 x10_1).f6.f0, (rd_T25 l0 x10_1).f6.f1, (rd_T25 l0 x10_1).f6.f2⟩ : S23)⟩ : S25) [.int .i64 ((rd_T25 l0 x10_1).f0), .int .i64 ((rd_T25 l0 x10_1).f1), .int .i64 ((rd_T25 l0 x10_1).f2), .int .i64 ((rd_T25 l0 x10_1).f3), .string ((rd_T25 l0 x10_1).f4), .string ((rd_T25 l0 x10_1).f5), .string ((rd_T25 l0 x10_1).f6.f0), .string ((rd_T25 l0 x10_1).f6.f1), .bool ((rd_T25 l0 x10_1).f6.f2)] (fun _ => True) (fun _ => False) rfl rfl ?aP (fun _ hk => hk.elim) ?aF ?aO ?aB ?aS ?aL ?_; (case aP => exact k25_mkM _ _ _ (⟨(rd_T25 l0 x10_1).f0, (rd_T25 l0 x10_1).f1, (rd_T25 l0 x10_1).f2, (rd_T25 l0 x10_1).f3, (rd_T25 l0 x10_1).f4, (rd_T25 l0 x10_1).f5, (⟨(rd_T25 l0 x10_1).f6.f0, (rd_T25 l0 x10_1).f6.f1, (rd_T25 l0 x10_1).f6.f2⟩ : S23)⟩ : S25)); (case aB => exact (by repeat (first | (with_reducible first | exact HB.out | apply below_alloc | apply pw_below_drewN | apply below_drew1) | exact HB.out))); (case aF => exact (fun _ _ => trivial)); (case aO => exact (by (with_reducible repeat (first | apply Kd.R_alloc | apply Kd.R_drewN | apply Kd.R_drew)); exact HO_9.out)); (case aS => exact (below_size (by repeat (first | (with_reducible first | exact HB.out | apply below_alloc | apply pw_below_drewN | apply below_drew1) | exact HB.out)))); (case aL => have := LMc33.out; omega); intro v260 w38 ho hb hg hat; rw [← Ny259.out] at ho; have n0_ := Aside0.mk (hb); have n1_ := Aside0.mk (ho); clear HB; clear HO_9; have HB := n0_; have HO261 := n1_; clear n0_ n1_; clear ho hb hg hat))
                 go_roundg kj5
                 case measure => have := HK1.out; have := HJ5.out; omega
                 case rel => exact ⟨_, ((x8_1 ++ (⟨#[10]⟩ : ByteArray)) ++ t251), (y259), (wrap64 (x10_1 + 1)), rfl, (by first | rfl | (simp; done) | (simp [*]; done) | (simp [*, Go.Proofs.YtodmbjbfigifnaaGreatDoor.Str.bne_nil]; done)), (by first | rfl | (simp; done) | (simp [*]; done) | (simp [*, Go.Proofs.YtodmbjbfigifnaaGreatDoor.Str.bne_nil]; done)), H', ⟨by have := HK1.out; have := HJ5.out; omega⟩, ⟨by (with_reducible repeat (first | apply Kd.R_alloc | apply Kd.R_drewN | apply Kd.R_drew)); exact HO261.out⟩, ⟨by repeat (first | (with_reducible first | exact HB.out | apply below_alloc | apply pw_below_drewN | apply below_drew1) | exact HB.out)⟩⟩
                ·rw [if_neg c33] at H
                 exact absurd H (by simp)
               ·rw [if_neg c32] at H
                exact absurd H (by simp)
             ·rw [if_neg c21] at H
              have c21b0 : decide (x10_1 < (l1.length : Int)) = false := decide_eq_false c21
              clear c21
              by_cases c39 : (x8_1 ++ (⟨#[10]⟩ : ByteArray)).size + t251.size ≤ 9223372036854775807
              ·rw [if_pos c39] at H
               have c39b0 := eq_true c39
               have c39b1 : decide ((x8_1 ++ (⟨#[10]⟩ : ByteArray)).size + t251.size ≤ 9223372036854775807) = true := decide_eq_true c39
               try have c39b2 : (9223372036854775807 < (x8_1 ++ (⟨#[10]⟩ : ByteArray)).size + t251.size) = False := eq_false (Nat.not_lt.2 c39)
               try have c39b9 : (9223372036854775807 < x8_1.size + 1 + t251.size) = False := eq_false (by have h_ := c39; simp only [ByteArray.size_append] at h_; exact Nat.not_lt.2 h_)
               by_cases c40 : x9_1.length < 1353245080339
               ·rw [if_pos c40] at H
                have LMc40 := Aside0.mk c40
                clear c40
                obtain ⟨y263, hy263⟩ : ∃ y_ : List (S25), y_ = (x9_1 ++ [(⟨(rd_T25 l0 x10_1).f0, (rd_T25 l0 x10_1).f1, (rd_T25 l0 x10_1).f2, (rd_T25 l0 x10_1).f3, (rd_T25 l0 x10_1).f4, (rd_T25 l0 x10_1).f5, (⟨(rd_T25 l0 x10_1).f6.f0, (rd_T25 l0 x10_1).f6.f1, (rd_T25 l0 x10_1).f6.f2⟩ : S23)⟩ : S25)]) := ⟨_, rfl⟩
                replace H : (tidelinelaw21_ScriptBack.l0 kj5 l0 l1 a2 ((x8_1 ++ (⟨#[10]⟩ : ByteArray)) ++ t251) y263 (wrap64 (x10_1 + 1))) = some r := by first | (rw [hy263]; with_reducible exact H) | (have H2_ := (Option.bind_some _ _).symm.trans H; rw [hy263]; with_reducible exact H2_) | (have H2_ := (Option.bind_some _ _).symm.trans H; with_reducible exact H2_) | with_reducible exact H | (rw [hy263]; exact H) | exact H
                have Ny263 := Aside0.mk hy263
                clear hy263
                have H' := Aside0.mk H
                clear H
                have p245 : 0 ≤ (x10_1 : Int) := of_decide_eq_true (by first | (with_reducible assumption) | assumption)
                have q245 : x10_1 < (l0.length : Int) := of_decide_eq_true (by first | (with_reducible assumption) | assumption)
                obtain ⟨ad245, e245, hx245_0, hx245_1, hx245_2, hx245_3, hx245_4, hx245_5, hx245_6, hx245_7, hx245_8⟩ := at_T25 HR0.out x10_1 p245 q245
                cases e245
                replace hx245_0 := (HB.out.cell (World.block_lt_of_cell? w _ hx245_0)).trans hx245_0
                replace hx245_1 := (HB.out.cell (World.block_lt_of_cell? w _ hx245_1)).trans hx245_1
                replace hx245_2 := (HB.out.cell (World.block_lt_of_cell? w _ hx245_2)).trans hx245_2
                replace hx245_3 := (HB.out.cell (World.block_lt_of_cell? w _ hx245_3)).trans hx245_3
                replace hx245_4 := (HB.out.cell (World.block_lt_of_cell? w _ hx245_4)).trans hx245_4
                replace hx245_5 := (HB.out.cell (World.block_lt_of_cell? w _ hx245_5)).trans hx245_5
                replace hx245_6 := (HB.out.cell (World.block_lt_of_cell? w _ hx245_6)).trans hx245_6
                replace hx245_7 := (HB.out.cell (World.block_lt_of_cell? w _ hx245_7)).trans hx245_7
                replace hx245_8 := (HB.out.cell (World.block_lt_of_cell? w _ hx245_8)).trans hx245_8
                replace p245 := eq_true p245
                replace q245 := eq_true q245
                go_wp2_with (first | ((with_reducible refine gate_callee (f := 6) rfl ?_); refine goesL_ (some 34) rfl rfl Tryz.func6 (by kernel_rfl) rfl #[.agg #[.int .i64 ((rd_T25 l0 x10_1).f0), .int .i64 ((rd_T25 l0 x10_1).f1), .int .i64 ((rd_T25 l0 x10_1).f2), .int .i64 ((rd_T25 l0 x10_1).f3), .string ((rd_T25 l0 x10_1).f4), .string ((rd_T25 l0 x10_1).f5), .string ((rd_T25 l0 x10_1).f6.f0), .string ((rd_T25 l0 x10_1).f6.f1), .bool ((rd_T25 l0 x10_1).f6.f2)]] rfl (by (try simp only [List.map_toArray, List.map_cons, List.map_nil]); first | done | rfl | (simp only [List.length_drop, List.length_take]; rfl)) ?_; (with_reducible refine (tidelinelaw21_long.calls ((rd_T25 l0 x10_1).f0) ((rd_T25 l0 x10_1).f1) ((rd_T25 l0 x10_1).f2) ((rd_T25 l0 x10_1).f3) ((rd_T25 l0 x10_1).f4) ((rd_T25 l0 x10_1).f5) ((rd_T25 l0 x10_1).f6.f0) ((rd_T25 l0 x10_1).f6.f1) ((rd_T25 l0 x10_1).f6.f2) false _ A12.out).mono ?_); rintro e w41 ⟨rfl, hb⟩; refine ⟨_, rfl, ?_⟩; have n0_ := Aside0.mk (Kd.R_below (by (with_reducible repeat (first | apply Kd.R_alloc | apply Kd.R_drewN | apply Kd.R_drew)); exact HO_9.out) hb); have n1_ := Aside0.mk (below_step (by repeat (first | (with_reducible first | exact HB.out | apply below_alloc | apply pw_below_drewN | apply below_drew1) | exact HB.out)) hb); clear HO_9; clear HB; have HO_9 := n0_; have HB := n1_; clear n0_ n1_; (try clear hb); (try clear hb2); (try clear hk); (try clear hi); have p247 : 0 ≤ (x10_1 : Int) := of_decide_eq_true (by first | (with_reducible assumption) | assumption); have q247 : x10_1 < (l0.length : Int) := of_decide_eq_true (by first | (with_reducible assumption) | assumption); obtain ⟨ad247, e247, hx247_0, hx247_1, hx247_2, hx247_3, hx247_4, hx247_5, hx247_6, hx247_7, hx247_8⟩ := at_T25 HR0.out x10_1 p247 q247; obtain rfl : ad245 = ad247 := (by injection e247); replace hx247_0 := (HB.out.cell (World.block_lt_of_cell? w _ hx247_0)).trans hx247_0; replace hx247_1 := (HB.out.cell (World.block_lt_of_cell? w _ hx247_1)).trans hx247_1; replace hx247_2 := (HB.out.cell (World.block_lt_of_cell? w _ hx247_2)).trans hx247_2; replace hx247_3 := (HB.out.cell (World.block_lt_of_cell? w _ hx247_3)).trans hx247_3; replace hx247_4 := (HB.out.cell (World.block_lt_of_cell? w _ hx247_4)).trans hx247_4; replace hx247_5 := (HB.out.cell (World.block_lt_of_cell? w _ hx247_5)).trans hx247_5; replace hx247_6 := (HB.out.cell (World.block_lt_of_cell? w _ hx247_6)).trans hx247_6; replace hx247_7 := (HB.out.cell (World.block_lt_of_cell? w _ hx247_7)).trans hx247_7; replace hx247_8 := (HB.out.cell (World.block_lt_of_cell? w _ hx247_8)).trans hx247_8; replace p247 := eq_true p247; replace q247 := eq_true q247) | ((with_reducible refine gate_callee (f := 8) rfl ?_); refine goesL_ (some 40) rfl rfl Tryz.func8 (by kernel_rfl) rfl #[.agg #[.int .i64 ((rd_T25 l0 x10_1).f0), .int .i64 ((rd_T25 l0 x10_1).f1), .int .i64 ((rd_T25 l0 x10_1).f2), .int .i64 ((rd_T25 l0 x10_1).f3), .string ((rd_T25 l0 x10_1).f4), .string ((rd_T25 l0 x10_1).f5), .string ((rd_T25 l0 x10_1).f6.f0), .string ((rd_T25 l0 x10_1).f6.f1), .bool ((rd_T25 l0 x10_1).f6.f2)]] rfl (by (try simp only [List.map_toArray, List.map_cons, List.map_nil]); first | done | rfl | (simp only [List.length_drop, List.length_take]; rfl)) ?_; (with_reducible refine (tidelineref21_Print.calls kj5 ((rd_T25 l0 x10_1).f0) ((rd_T25 l0 x10_1).f1) ((rd_T25 l0 x10_1).f2) ((rd_T25 l0 x10_1).f3) ((rd_T25 l0 x10_1).f4) ((rd_T25 l0 x10_1).f5) ((rd_T25 l0 x10_1).f6.f0) ((rd_T25 l0 x10_1).f6.f1) ((rd_T25 l0 x10_1).f6.f2) t248 t249 _ A15.out).mono ?_); rintro e w42 ⟨rfl, hb⟩; refine ⟨_, rfl, ?_⟩; have n0_ := Aside0.mk (Kd.R_below (by (with_reducible repeat (first | apply Kd.R_alloc | apply Kd.R_drewN | apply Kd.R_drew)); exact HO_9.out) hb); have n1_ := Aside0.mk (below_step (by repeat (first | (with_reducible first | exact HB.out | apply below_alloc | apply pw_below_drewN | apply below_drew1) | exact HB.out)) hb); clear HO_9; clear HB; have HO_9 := n0_; have HB := n1_; clear n0_ n1_; (try clear hb); (try clear hb2); (try clear hk); (try clear hi); have p250 : 0 ≤ (x10_1 : Int) := of_decide_eq_true (by first | (with_reducible assumption) | assumption); have q250 : x10_1 < (l0.length : Int) := of_decide_eq_true (by first | (with_reducible assumption) | assumption); obtain ⟨ad250, e250, hx250_0, hx250_1, hx250_2, hx250_3, hx250_4, hx250_5, hx250_6, hx250_7, hx250_8⟩ := at_T25 HR0.out x10_1 p250 q250; obtain rfl : ad245 = ad250 := (by injection e250); replace hx250_0 := (HB.out.cell (World.block_lt_of_cell? w _ hx250_0)).trans hx250_0; replace hx250_1 := (HB.out.cell (World.block_lt_of_cell? w _ hx250_1)).trans hx250_1; replace hx250_2 := (HB.out.cell (World.block_lt_of_cell? w _ hx250_2)).trans hx250_2; replace hx250_3 := (HB.out.cell (World.block_lt_of_cell? w _ hx250_3)).trans hx250_3; replace hx250_4 := (HB.out.cell (World.block_lt_of_cell? w _ hx250_4)).trans hx250_4; replace hx250_5 := (HB.out.cell (World.block_lt_of_cell? w _ hx250_5)).trans hx250_5; replace hx250_6 := (HB.out.cell (World.block_lt_of_cell? w _ hx250_6)).trans hx250_6; replace hx250_7 := (HB.out.cell (World.block_lt_of_cell? w _ hx250_7)).trans hx250_7; replace hx250_8 := (HB.out.cell (World.block_lt_of_cell? w _ hx250_8)).trans hx250_8; replace p250 := eq_true p250; replace q250 := eq_true q250) | ((with_reducible refine gate_callee (f := 7) rfl ?_); refine goesL_ (some 50) rfl rfl Tryz.func7 (by kernel_rfl) rfl #[.agg #[.int .i64 ((rd_T25 l0 x10_1).f0), .int .i64 ((rd_T25 l0 x10_1).f1), .int .i64 ((rd_T25 l0 x10_1).f2), .int .i64 ((rd_T25 l0 x10_1).f3), .string ((rd_T25 l0 x10_1).f4), .string ((rd_T25 l0 x10_1).f5), .string ((rd_T25 l0 x10_1).f6.f0), .string ((rd_T25 l0 x10_1).f6.f1), .bool ((rd_T25 l0 x10_1).f6.f2)]] rfl (by (try simp only [List.map_toArray, List.map_cons, List.map_nil]); first | done | rfl | (simp only [List.length_drop, List.length_take]; rfl)) ?_; (with_reducible refine (script_Print.calls ((rd_T25 l0 x10_1).f0) ((rd_T25 l0 x10_1).f1) ((rd_T25 l0 x10_1).f2) ((rd_T25 l0 x10_1).f3) ((rd_T25 l0 x10_1).f4) ((rd_T25 l0 x10_1).f5) ((rd_T25 l0 x10_1).f6.f0) ((rd_T25 l0 x10_1).f6.f1) ((rd_T25 l0 x10_1).f6.f2) t251 t252 _ ?sideG A17.out).mono ?_); (case sideG => exact Glob.GlobOK.below HG.out (by repeat (first | (with_reducible first | exact HB.out | apply below_alloc | apply pw_below_drewN | apply below_drew1) | exact HB.out))); rintro e w43 ⟨rfl, hb⟩; refine ⟨_, rfl, ?_⟩; have n0_ := Aside0.mk (Kd.R_below (by (with_reducible repeat (first | apply Kd.R_alloc | apply Kd.R_drewN | apply Kd.R_drew)); exact HO_9.out) hb); have n1_ := Aside0.mk (below_step (by repeat (first | (with_reducible first | exact HB.out | apply below_alloc | apply pw_below_drewN | apply below_drew1) | exact HB.out)) hb); clear HO_9; clear HB; have HO_9 := n0_; have HB := n1_; clear n0_ n1_; (try clear hb); (try clear hb2); (try clear hk); (try clear hi); obtain ⟨Ao44, co44, eo44⟩ := Kd.R_slice HO_9.out; subst eo44; have p262 : 0 ≤ (x10_1 : Int) := of_decide_eq_true (by first | (with_reducible assumption) | assumption); have q262 : x10_1 < (l0.length : Int) := of_decide_eq_true (by first | (with_reducible assumption) | assumption); obtain ⟨ad262, e262, hx262_0, hx262_1, hx262_2, hx262_3, hx262_4, hx262_5, hx262_6, hx262_7, hx262_8⟩ := at_T25 HR0.out x10_1 p262 q262; obtain rfl : ad245 = ad262 := (by injection e262); replace hx262_0 := (HB.out.cell (World.block_lt_of_cell? w _ hx262_0)).trans hx262_0; replace hx262_1 := (HB.out.cell (World.block_lt_of_cell? w _ hx262_1)).trans hx262_1; replace hx262_2 := (HB.out.cell (World.block_lt_of_cell? w _ hx262_2)).trans hx262_2; replace hx262_3 := (HB.out.cell (World.block_lt_of_cell? w _ hx262_3)).trans hx262_3; replace hx262_4 := (HB.out.cell (World.block_lt_of_cell? w _ hx262_4)).trans hx262_4; replace hx262_5 := (HB.out.cell (World.block_lt_of_cell? w _ hx262_5)).trans hx262_5; replace hx262_6 := (HB.out.cell (World.block_lt_of_cell? w _ hx262_6)).trans hx262_6; replace hx262_7 := (HB.out.cell (World.block_lt_of_cell? w _ hx262_7)).trans hx262_7; replace hx262_8 := (HB.out.cell (World.block_lt_of_cell? w _ hx262_8)).trans hx262_8; replace p262 := eq_true p262; replace q262 := eq_true q262) | ((with_reducible refine gate_builtin (b := .append) (xs := #[.tmp 79, .tmp 84]) rfl ?_); (try (refine gate_guard (by rfl) ?_; dsimp only)); at_builtin; refine Kd.R_append k25 (w0 := w) w.heap.size rfl (.tmp 79) (.tmp 84) 33 25 (.agg #[(.int .i64 0), (.int .i64 0), (.int .i64 0), (.int .i64 0), (.string ⟨#[]⟩), (.string ⟨#[]⟩), (.string ⟨#[]⟩), (.string ⟨#[]⟩), (.bool false)]) 104 rfl Tryz.underlying33 info25 rfl (by decide) (by omega) (.slice Ao44 x9_1.length co44) x9_1 (⟨(rd_T25 l0 x10_1).f0, (rd_T25 l0 x10_1).f1, (rd_T25 l0 x10_1).f2, (rd_T25 l0 x10_1).f3, (rd_T25 l0 x10_1).f4, (rd_T25 l0 x10_1).f5, (⟨(rd_T25 l0 x10_1).f6.f0, (rd_T25 l0 x10_1).f6.f1, (rd_T25 l0 x10_1).f6.f2⟩ : S23)⟩ : S25) [.int .i64 ((rd_T25 l0 x10_1).f0), .int .i64 ((rd_T25 l0 x10_1).f1), .int .i64 ((rd_T25 l0 x10_1).f2), .int .i64 ((rd_T25 l0 x10_1).f3), .string ((rd_T25 l0 x10_1).f4), .string ((rd_T25 l0 x10_1).f5), .string ((rd_T25 l0 x10_1).f6.f0), .string ((rd_T25 l0 x10_1).f6.f1), .bool ((rd_T25 l0 x10_1).f6.f2)] (fun _ => True) (fun _ => False) rfl rfl ?aP (fun _ hk => hk.elim) ?aF ?aO ?aB ?aS ?aL ?_; (case aP => exact k25_mkM _ _ _ (⟨(rd_T25 l0 x10_1).f0, (rd_T25 l0 x10_1).f1, (rd_T25 l0 x10_1).f2, (rd_T25 l0 x10_1).f3, (rd_T25 l0 x10_1).f4, (rd_T25 l0 x10_1).f5, (⟨(rd_T25 l0 x10_1).f6.f0, (rd_T25 l0 x10_1).f6.f1, (rd_T25 l0 x10_1).f6.f2⟩ : S23)⟩ : S25)); (case aB => exact (by repeat (first | (with_reducible first | exact HB.out | apply below_alloc | apply pw_below_drewN | apply below_drew1) | exact HB.out))); (case aF => exact (fun _ _ => trivial)); (case aO => exact (by (with_reducible repeat (first | apply Kd.R_alloc | apply Kd.R_drewN | apply Kd.R_drew)); exact HO_9.out)); (case aS => exact (below_size (by repeat (first | (with_reducible first | exact HB.out | apply below_alloc | apply pw_below_drewN | apply below_drew1) | exact HB.out)))); (case aL => have := LMc40.out; omega); intro v264 w45 ho hb hg hat; rw [← Ny263.out] at ho; have n0_ := Aside0.mk (hb); have n1_ := Aside0.mk (ho); clear HB; clear HO_9; have HB := n0_; have HO265 := n1_; clear n0_ n1_; clear ho hb hg hat))
                go_roundg kj5
                case measure => have := HK1.out; have := HJ5.out; omega
                case rel => exact ⟨_, ((x8_1 ++ (⟨#[10]⟩ : ByteArray)) ++ t251), (y263), (wrap64 (x10_1 + 1)), rfl, (by first | rfl | (simp; done) | (simp [*]; done) | (simp [*, Go.Proofs.YtodmbjbfigifnaaGreatDoor.Str.bne_nil]; done)), (by first | rfl | (simp; done) | (simp [*]; done) | (simp [*, Go.Proofs.YtodmbjbfigifnaaGreatDoor.Str.bne_nil]; done)), H', ⟨by have := HK1.out; have := HJ5.out; omega⟩, ⟨by (with_reducible repeat (first | apply Kd.R_alloc | apply Kd.R_drewN | apply Kd.R_drew)); exact HO265.out⟩, ⟨by repeat (first | (with_reducible first | exact HB.out | apply below_alloc | apply pw_below_drewN | apply below_drew1) | exact HB.out)⟩⟩
               ·rw [if_neg c40] at H
                exact absurd H (by simp)
              ·rw [if_neg c39] at H
               exact absurd H (by simp)
            ·rw [if_neg c20] at H
             exact absurd H (by simp)
           ·rw [if_neg c19] at H
            have c19b0 : decide (0 < (x9_1.length : Int)) = false := decide_eq_false c19
            have c19b1 : decide (0 < x9_1.length) = false := decide_eq_false (by omega)
            clear c19
            by_cases c46 : x10_1 < (l1.length : Int)
            ·rw [if_pos c46] at H
             have c46b0 : decide (x10_1 < (l1.length : Int)) = true := decide_eq_true c46
             clear c46
             obtain ⟨bq47, hbq47⟩ : ∃ b_ : Bool, b_ = (rdOf false l1 x10_1) := ⟨_, rfl⟩
             replace H : (if bq47 = true then (if x8_1.size + 2 ≤ 9223372036854775807 then (if (x8_1 ++ (⟨#[10, 10]⟩ : ByteArray)).size + t251.size ≤ 9223372036854775807 then (if x9_1.length < 1353245080339 then (tidelinelaw21_ScriptBack.l0 kj5 l0 l1 a2 ((x8_1 ++ (⟨#[10, 10]⟩ : ByteArray)) ++ t251) (x9_1 ++ [(⟨(rd_T25 l0 x10_1).f0, (rd_T25 l0 x10_1).f1, (rd_T25 l0 x10_1).f2, (rd_T25 l0 x10_1).f3, (rd_T25 l0 x10_1).f4, (rd_T25 l0 x10_1).f5, (⟨(rd_T25 l0 x10_1).f6.f0, (rd_T25 l0 x10_1).f6.f1, (rd_T25 l0 x10_1).f6.f2⟩ : S23)⟩ : S25)]) (wrap64 (x10_1 + 1))) else (none)) else (none)) else (none)) else (if x8_1.size + t251.size ≤ 9223372036854775807 then (if x9_1.length < 1353245080339 then (tidelinelaw21_ScriptBack.l0 kj5 l0 l1 a2 (x8_1 ++ t251) (x9_1 ++ [(⟨(rd_T25 l0 x10_1).f0, (rd_T25 l0 x10_1).f1, (rd_T25 l0 x10_1).f2, (rd_T25 l0 x10_1).f3, (rd_T25 l0 x10_1).f4, (rd_T25 l0 x10_1).f5, (⟨(rd_T25 l0 x10_1).f6.f0, (rd_T25 l0 x10_1).f6.f1, (rd_T25 l0 x10_1).f6.f2⟩ : S23)⟩ : S25)]) (wrap64 (x10_1 + 1))) else (none)) else (none))) = some r := by rw [← hbq47] at H; exact H
             have Nbq47 := Aside0.mk hbq47
             clear hbq47
             by_cases c48 : bq47 = true
             ·subst c48
              have H1 : (if x8_1.size + 2 ≤ 9223372036854775807 then (if (x8_1 ++ (⟨#[10, 10]⟩ : ByteArray)).size + t251.size ≤ 9223372036854775807 then (if x9_1.length < 1353245080339 then (tidelinelaw21_ScriptBack.l0 kj5 l0 l1 a2 ((x8_1 ++ (⟨#[10, 10]⟩ : ByteArray)) ++ t251) (x9_1 ++ [(⟨(rd_T25 l0 x10_1).f0, (rd_T25 l0 x10_1).f1, (rd_T25 l0 x10_1).f2, (rd_T25 l0 x10_1).f3, (rd_T25 l0 x10_1).f4, (rd_T25 l0 x10_1).f5, (⟨(rd_T25 l0 x10_1).f6.f0, (rd_T25 l0 x10_1).f6.f1, (rd_T25 l0 x10_1).f6.f2⟩ : S23)⟩ : S25)]) (wrap64 (x10_1 + 1))) else (none)) else (none)) else (none)) = some r := by rw [if_pos rfl] at H; exact H
              clear H
              have H := H1
              clear H1
              by_cases c49 : x8_1.size + 2 ≤ 9223372036854775807
              ·rw [if_pos c49] at H
               have c49b0 := eq_true c49
               have c49b1 : decide (x8_1.size + 2 ≤ 9223372036854775807) = true := decide_eq_true c49
               try have c49b2 : (9223372036854775807 < x8_1.size + 2) = False := eq_false (Nat.not_lt.2 c49)
               by_cases c50 : (x8_1 ++ (⟨#[10, 10]⟩ : ByteArray)).size + t251.size ≤ 9223372036854775807
               ·rw [if_pos c50] at H
                have c50b0 := eq_true c50
                have c50b1 : decide ((x8_1 ++ (⟨#[10, 10]⟩ : ByteArray)).size + t251.size ≤ 9223372036854775807) = true := decide_eq_true c50
                try have c50b2 : (9223372036854775807 < (x8_1 ++ (⟨#[10, 10]⟩ : ByteArray)).size + t251.size) = False := eq_false (Nat.not_lt.2 c50)
                try have c50b9 : (9223372036854775807 < x8_1.size + 2 + t251.size) = False := eq_false (by have h_ := c50; simp only [ByteArray.size_append] at h_; exact Nat.not_lt.2 h_)
                by_cases c51 : x9_1.length < 1353245080339
                ·rw [if_pos c51] at H
                 have LMc51 := Aside0.mk c51
                 clear c51
                 obtain ⟨y268, hy268⟩ : ∃ y_ : List (S25), y_ = (x9_1 ++ [(⟨(rd_T25 l0 x10_1).f0, (rd_T25 l0 x10_1).f1, (rd_T25 l0 x10_1).f2, (rd_T25 l0 x10_1).f3, (rd_T25 l0 x10_1).f4, (rd_T25 l0 x10_1).f5, (⟨(rd_T25 l0 x10_1).f6.f0, (rd_T25 l0 x10_1).f6.f1, (rd_T25 l0 x10_1).f6.f2⟩ : S23)⟩ : S25)]) := ⟨_, rfl⟩
                 replace H : (tidelinelaw21_ScriptBack.l0 kj5 l0 l1 a2 ((x8_1 ++ (⟨#[10, 10]⟩ : ByteArray)) ++ t251) y268 (wrap64 (x10_1 + 1))) = some r := by first | (rw [hy268]; with_reducible exact H) | (have H2_ := (Option.bind_some _ _).symm.trans H; rw [hy268]; with_reducible exact H2_) | (have H2_ := (Option.bind_some _ _).symm.trans H; with_reducible exact H2_) | with_reducible exact H | (rw [hy268]; exact H) | exact H
                 have Ny268 := Aside0.mk hy268
                 clear hy268
                 have H' := Aside0.mk H
                 clear H
                 have p245 : 0 ≤ (x10_1 : Int) := of_decide_eq_true (by first | (with_reducible assumption) | assumption)
                 have q245 : x10_1 < (l0.length : Int) := of_decide_eq_true (by first | (with_reducible assumption) | assumption)
                 obtain ⟨ad245, e245, hx245_0, hx245_1, hx245_2, hx245_3, hx245_4, hx245_5, hx245_6, hx245_7, hx245_8⟩ := at_T25 HR0.out x10_1 p245 q245
                 (try rw [← Nbq47.out] at hx245_8)
                 (try rw [← Nbq47.out] at hw245_8)
                 cases e245
                 replace hx245_0 := (HB.out.cell (World.block_lt_of_cell? w _ hx245_0)).trans hx245_0
                 replace hx245_1 := (HB.out.cell (World.block_lt_of_cell? w _ hx245_1)).trans hx245_1
                 replace hx245_2 := (HB.out.cell (World.block_lt_of_cell? w _ hx245_2)).trans hx245_2
                 replace hx245_3 := (HB.out.cell (World.block_lt_of_cell? w _ hx245_3)).trans hx245_3
                 replace hx245_4 := (HB.out.cell (World.block_lt_of_cell? w _ hx245_4)).trans hx245_4
                 replace hx245_5 := (HB.out.cell (World.block_lt_of_cell? w _ hx245_5)).trans hx245_5
                 replace hx245_6 := (HB.out.cell (World.block_lt_of_cell? w _ hx245_6)).trans hx245_6
                 replace hx245_7 := (HB.out.cell (World.block_lt_of_cell? w _ hx245_7)).trans hx245_7
                 replace hx245_8 := (HB.out.cell (World.block_lt_of_cell? w _ hx245_8)).trans hx245_8
                 replace p245 := eq_true p245
                 replace q245 := eq_true q245
                 go_wp2_with (first | ((with_reducible refine gate_callee (f := 6) rfl ?_); refine goesL_ (some 34) rfl rfl Tryz.func6 (by kernel_rfl) rfl #[.agg #[.int .i64 ((rd_T25 l0 x10_1).f0), .int .i64 ((rd_T25 l0 x10_1).f1), .int .i64 ((rd_T25 l0 x10_1).f2), .int .i64 ((rd_T25 l0 x10_1).f3), .string ((rd_T25 l0 x10_1).f4), .string ((rd_T25 l0 x10_1).f5), .string ((rd_T25 l0 x10_1).f6.f0), .string ((rd_T25 l0 x10_1).f6.f1), .bool ((rd_T25 l0 x10_1).f6.f2)]] rfl (by (try simp only [List.map_toArray, List.map_cons, List.map_nil]); first | done | rfl | (simp only [List.length_drop, List.length_take]; rfl)) ?_; (with_reducible refine (tidelinelaw21_long.calls ((rd_T25 l0 x10_1).f0) ((rd_T25 l0 x10_1).f1) ((rd_T25 l0 x10_1).f2) ((rd_T25 l0 x10_1).f3) ((rd_T25 l0 x10_1).f4) ((rd_T25 l0 x10_1).f5) ((rd_T25 l0 x10_1).f6.f0) ((rd_T25 l0 x10_1).f6.f1) ((rd_T25 l0 x10_1).f6.f2) false _ A12.out).mono ?_); rintro e w52 ⟨rfl, hb⟩; refine ⟨_, rfl, ?_⟩; have n0_ := Aside0.mk (Kd.R_below (by (with_reducible repeat (first | apply Kd.R_alloc | apply Kd.R_drewN | apply Kd.R_drew)); exact HO_9.out) hb); have n1_ := Aside0.mk (below_step (by repeat (first | (with_reducible first | exact HB.out | apply below_alloc | apply pw_below_drewN | apply below_drew1) | exact HB.out)) hb); clear HO_9; clear HB; have HO_9 := n0_; have HB := n1_; clear n0_ n1_; (try clear hb); (try clear hb2); (try clear hk); (try clear hi); have p247 : 0 ≤ (x10_1 : Int) := of_decide_eq_true (by first | (with_reducible assumption) | assumption); have q247 : x10_1 < (l0.length : Int) := of_decide_eq_true (by first | (with_reducible assumption) | assumption); obtain ⟨ad247, e247, hx247_0, hx247_1, hx247_2, hx247_3, hx247_4, hx247_5, hx247_6, hx247_7, hx247_8⟩ := at_T25 HR0.out x10_1 p247 q247; (try rw [← Nbq47.out] at hx247_8); (try rw [← Nbq47.out] at hw247_8); obtain rfl : ad245 = ad247 := (by injection e247); replace hx247_0 := (HB.out.cell (World.block_lt_of_cell? w _ hx247_0)).trans hx247_0; replace hx247_1 := (HB.out.cell (World.block_lt_of_cell? w _ hx247_1)).trans hx247_1; replace hx247_2 := (HB.out.cell (World.block_lt_of_cell? w _ hx247_2)).trans hx247_2; replace hx247_3 := (HB.out.cell (World.block_lt_of_cell? w _ hx247_3)).trans hx247_3; replace hx247_4 := (HB.out.cell (World.block_lt_of_cell? w _ hx247_4)).trans hx247_4; replace hx247_5 := (HB.out.cell (World.block_lt_of_cell? w _ hx247_5)).trans hx247_5; replace hx247_6 := (HB.out.cell (World.block_lt_of_cell? w _ hx247_6)).trans hx247_6; replace hx247_7 := (HB.out.cell (World.block_lt_of_cell? w _ hx247_7)).trans hx247_7; replace hx247_8 := (HB.out.cell (World.block_lt_of_cell? w _ hx247_8)).trans hx247_8; replace p247 := eq_true p247; replace q247 := eq_true q247) | ((with_reducible refine gate_callee (f := 8) rfl ?_); refine goesL_ (some 40) rfl rfl Tryz.func8 (by kernel_rfl) rfl #[.agg #[.int .i64 ((rd_T25 l0 x10_1).f0), .int .i64 ((rd_T25 l0 x10_1).f1), .int .i64 ((rd_T25 l0 x10_1).f2), .int .i64 ((rd_T25 l0 x10_1).f3), .string ((rd_T25 l0 x10_1).f4), .string ((rd_T25 l0 x10_1).f5), .string ((rd_T25 l0 x10_1).f6.f0), .string ((rd_T25 l0 x10_1).f6.f1), .bool ((rd_T25 l0 x10_1).f6.f2)]] rfl (by (try simp only [List.map_toArray, List.map_cons, List.map_nil]); first | done | rfl | (simp only [List.length_drop, List.length_take]; rfl)) ?_; (with_reducible refine (tidelineref21_Print.calls kj5 ((rd_T25 l0 x10_1).f0) ((rd_T25 l0 x10_1).f1) ((rd_T25 l0 x10_1).f2) ((rd_T25 l0 x10_1).f3) ((rd_T25 l0 x10_1).f4) ((rd_T25 l0 x10_1).f5) ((rd_T25 l0 x10_1).f6.f0) ((rd_T25 l0 x10_1).f6.f1) ((rd_T25 l0 x10_1).f6.f2) t248 t249 _ A15.out).mono ?_); rintro e w53 ⟨rfl, hb⟩; refine ⟨_, rfl, ?_⟩; have n0_ := Aside0.mk (Kd.R_below (by (with_reducible repeat (first | apply Kd.R_alloc | apply Kd.R_drewN | apply Kd.R_drew)); exact HO_9.out) hb); have n1_ := Aside0.mk (below_step (by repeat (first | (with_reducible first | exact HB.out | apply below_alloc | apply pw_below_drewN | apply below_drew1) | exact HB.out)) hb); clear HO_9; clear HB; have HO_9 := n0_; have HB := n1_; clear n0_ n1_; (try clear hb); (try clear hb2); (try clear hk); (try clear hi); have p250 : 0 ≤ (x10_1 : Int) := of_decide_eq_true (by first | (with_reducible assumption) | assumption); have q250 : x10_1 < (l0.length : Int) := of_decide_eq_true (by first | (with_reducible assumption) | assumption); obtain ⟨ad250, e250, hx250_0, hx250_1, hx250_2, hx250_3, hx250_4, hx250_5, hx250_6, hx250_7, hx250_8⟩ := at_T25 HR0.out x10_1 p250 q250; (try rw [← Nbq47.out] at hx250_8); (try rw [← Nbq47.out] at hw250_8); obtain rfl : ad245 = ad250 := (by injection e250); replace hx250_0 := (HB.out.cell (World.block_lt_of_cell? w _ hx250_0)).trans hx250_0; replace hx250_1 := (HB.out.cell (World.block_lt_of_cell? w _ hx250_1)).trans hx250_1; replace hx250_2 := (HB.out.cell (World.block_lt_of_cell? w _ hx250_2)).trans hx250_2; replace hx250_3 := (HB.out.cell (World.block_lt_of_cell? w _ hx250_3)).trans hx250_3; replace hx250_4 := (HB.out.cell (World.block_lt_of_cell? w _ hx250_4)).trans hx250_4; replace hx250_5 := (HB.out.cell (World.block_lt_of_cell? w _ hx250_5)).trans hx250_5; replace hx250_6 := (HB.out.cell (World.block_lt_of_cell? w _ hx250_6)).trans hx250_6; replace hx250_7 := (HB.out.cell (World.block_lt_of_cell? w _ hx250_7)).trans hx250_7; replace hx250_8 := (HB.out.cell (World.block_lt_of_cell? w _ hx250_8)).trans hx250_8; replace p250 := eq_true p250; replace q250 := eq_true q250) | ((with_reducible refine gate_callee (f := 7) rfl ?_); refine goesL_ (some 50) rfl rfl Tryz.func7 (by kernel_rfl) rfl #[.agg #[.int .i64 ((rd_T25 l0 x10_1).f0), .int .i64 ((rd_T25 l0 x10_1).f1), .int .i64 ((rd_T25 l0 x10_1).f2), .int .i64 ((rd_T25 l0 x10_1).f3), .string ((rd_T25 l0 x10_1).f4), .string ((rd_T25 l0 x10_1).f5), .string ((rd_T25 l0 x10_1).f6.f0), .string ((rd_T25 l0 x10_1).f6.f1), .bool ((rd_T25 l0 x10_1).f6.f2)]] rfl (by (try simp only [List.map_toArray, List.map_cons, List.map_nil]); first | done | rfl | (simp only [List.length_drop, List.length_take]; rfl)) ?_; (with_reducible refine (script_Print.calls ((rd_T25 l0 x10_1).f0) ((rd_T25 l0 x10_1).f1) ((rd_T25 l0 x10_1).f2) ((rd_T25 l0 x10_1).f3) ((rd_T25 l0 x10_1).f4) ((rd_T25 l0 x10_1).f5) ((rd_T25 l0 x10_1).f6.f0) ((rd_T25 l0 x10_1).f6.f1) ((rd_T25 l0 x10_1).f6.f2) t251 t252 _ ?sideG A17.out).mono ?_); (case sideG => exact Glob.GlobOK.below HG.out (by repeat (first | (with_reducible first | exact HB.out | apply below_alloc | apply pw_below_drewN | apply below_drew1) | exact HB.out))); rintro e w54 ⟨rfl, hb⟩; refine ⟨_, rfl, ?_⟩; have n0_ := Aside0.mk (Kd.R_below (by (with_reducible repeat (first | apply Kd.R_alloc | apply Kd.R_drewN | apply Kd.R_drew)); exact HO_9.out) hb); have n1_ := Aside0.mk (below_step (by repeat (first | (with_reducible first | exact HB.out | apply below_alloc | apply pw_below_drewN | apply below_drew1) | exact HB.out)) hb); clear HO_9; clear HB; have HO_9 := n0_; have HB := n1_; clear n0_ n1_; (try clear hb); (try clear hb2); (try clear hk); (try clear hi); obtain ⟨Ao55, co55, eo55⟩ := Kd.R_slice HO_9.out; subst eo55; have p266 : 0 ≤ (x10_1 : Int) := of_decide_eq_true (by first | (with_reducible assumption) | assumption); have q266 : x10_1 < (l1.length : Int) := of_decide_eq_true (by first | (with_reducible assumption) | assumption); obtain ⟨ad266, e266, hx266_0⟩ := Kd.at_bool HR1.out x10_1 p266 q266; (try rw [← Nbq47.out] at hx266_0); (try rw [← Nbq47.out] at hw266_0); cases e266; replace hx266_0 := (HB.out.cell (World.block_lt_of_cell? w _ hx266_0)).trans hx266_0; replace p266 := eq_true p266; replace q266 := eq_true q266; have p267 : 0 ≤ (x10_1 : Int) := of_decide_eq_true (by first | (with_reducible assumption) | assumption); have q267 : x10_1 < (l0.length : Int) := of_decide_eq_true (by first | (with_reducible assumption) | assumption); obtain ⟨ad267, e267, hx267_0, hx267_1, hx267_2, hx267_3, hx267_4, hx267_5, hx267_6, hx267_7, hx267_8⟩ := at_T25 HR0.out x10_1 p267 q267; (try rw [← Nbq47.out] at hx267_8); (try rw [← Nbq47.out] at hw267_8); obtain rfl : ad245 = ad267 := (by injection e267); replace hx267_0 := (HB.out.cell (World.block_lt_of_cell? w _ hx267_0)).trans hx267_0; replace hx267_1 := (HB.out.cell (World.block_lt_of_cell? w _ hx267_1)).trans hx267_1; replace hx267_2 := (HB.out.cell (World.block_lt_of_cell? w _ hx267_2)).trans hx267_2; replace hx267_3 := (HB.out.cell (World.block_lt_of_cell? w _ hx267_3)).trans hx267_3; replace hx267_4 := (HB.out.cell (World.block_lt_of_cell? w _ hx267_4)).trans hx267_4; replace hx267_5 := (HB.out.cell (World.block_lt_of_cell? w _ hx267_5)).trans hx267_5; replace hx267_6 := (HB.out.cell (World.block_lt_of_cell? w _ hx267_6)).trans hx267_6; replace hx267_7 := (HB.out.cell (World.block_lt_of_cell? w _ hx267_7)).trans hx267_7; replace hx267_8 := (HB.out.cell (World.block_lt_of_cell? w _ hx267_8)).trans hx267_8; replace p267 := eq_true p267; replace q267 := eq_true q267) | ((with_reducible refine gate_builtin (b := .append) (xs := #[.tmp 79, .tmp 84]) rfl ?_); (try (refine gate_guard (by rfl) ?_; dsimp only)); at_builtin; refine Kd.R_append k25 (w0 := w) w.heap.size rfl (.tmp 79) (.tmp 84) 33 25 (.agg #[(.int .i64 0), (.int .i64 0), (.int .i64 0), (.int .i64 0), (.string ⟨#[]⟩), (.string ⟨#[]⟩), (.string ⟨#[]⟩), (.string ⟨#[]⟩), (.bool false)]) 104 rfl Tryz.underlying33 info25 rfl (by decide) (by omega) (.slice Ao55 x9_1.length co55) x9_1 (⟨(rd_T25 l0 x10_1).f0, (rd_T25 l0 x10_1).f1, (rd_T25 l0 x10_1).f2, (rd_T25 l0 x10_1).f3, (rd_T25 l0 x10_1).f4, (rd_T25 l0 x10_1).f5, (⟨(rd_T25 l0 x10_1).f6.f0, (rd_T25 l0 x10_1).f6.f1, (rd_T25 l0 x10_1).f6.f2⟩ : S23)⟩ : S25) [.int .i64 ((rd_T25 l0 x10_1).f0), .int .i64 ((rd_T25 l0 x10_1).f1), .int .i64 ((rd_T25 l0 x10_1).f2), .int .i64 ((rd_T25 l0 x10_1).f3), .string ((rd_T25 l0 x10_1).f4), .string ((rd_T25 l0 x10_1).f5), .string ((rd_T25 l0 x10_1).f6.f0), .string ((rd_T25 l0 x10_1).f6.f1), .bool ((rd_T25 l0 x10_1).f6.f2)] (fun _ => True) (fun _ => False) rfl rfl ?aP (fun _ hk => hk.elim) ?aF ?aO ?aB ?aS ?aL ?_; (case aP => exact k25_mkM _ _ _ (⟨(rd_T25 l0 x10_1).f0, (rd_T25 l0 x10_1).f1, (rd_T25 l0 x10_1).f2, (rd_T25 l0 x10_1).f3, (rd_T25 l0 x10_1).f4, (rd_T25 l0 x10_1).f5, (⟨(rd_T25 l0 x10_1).f6.f0, (rd_T25 l0 x10_1).f6.f1, (rd_T25 l0 x10_1).f6.f2⟩ : S23)⟩ : S25)); (case aB => exact (by repeat (first | (with_reducible first | exact HB.out | apply below_alloc | apply pw_below_drewN | apply below_drew1) | exact HB.out))); (case aF => exact (fun _ _ => trivial)); (case aO => exact (by (with_reducible repeat (first | apply Kd.R_alloc | apply Kd.R_drewN | apply Kd.R_drew)); exact HO_9.out)); (case aS => exact (below_size (by repeat (first | (with_reducible first | exact HB.out | apply below_alloc | apply pw_below_drewN | apply below_drew1) | exact HB.out)))); (case aL => have := LMc51.out; omega); intro v269 w56 ho hb hg hat; rw [← Ny268.out] at ho; have n0_ := Aside0.mk (hb); have n1_ := Aside0.mk (ho); clear HB; clear HO_9; have HB := n0_; have HO270 := n1_; clear n0_ n1_; clear ho hb hg hat))
                 go_roundg kj5
                 case measure => have := HK1.out; have := HJ5.out; omega
                 case rel => exact ⟨_, ((x8_1 ++ (⟨#[10, 10]⟩ : ByteArray)) ++ t251), (y268), (wrap64 (x10_1 + 1)), rfl, (by first | rfl | (simp; done) | (simp [*]; done) | (simp [*, Go.Proofs.YtodmbjbfigifnaaGreatDoor.Str.bne_nil]; done)), (by first | rfl | (simp; done) | (simp [*]; done) | (simp [*, Go.Proofs.YtodmbjbfigifnaaGreatDoor.Str.bne_nil]; done)), H', ⟨by have := HK1.out; have := HJ5.out; omega⟩, ⟨by (with_reducible repeat (first | apply Kd.R_alloc | apply Kd.R_drewN | apply Kd.R_drew)); exact HO270.out⟩, ⟨by repeat (first | (with_reducible first | exact HB.out | apply below_alloc | apply pw_below_drewN | apply below_drew1) | exact HB.out)⟩⟩
                ·rw [if_neg c51] at H
                 exact absurd H (by simp)
               ·rw [if_neg c50] at H
                exact absurd H (by simp)
              ·rw [if_neg c49] at H
               exact absurd H (by simp)
             ·replace c48 := Bool.eq_false_iff.mpr c48
              subst c48
              have H1 : (if x8_1.size + t251.size ≤ 9223372036854775807 then (if x9_1.length < 1353245080339 then (tidelinelaw21_ScriptBack.l0 kj5 l0 l1 a2 (x8_1 ++ t251) (x9_1 ++ [(⟨(rd_T25 l0 x10_1).f0, (rd_T25 l0 x10_1).f1, (rd_T25 l0 x10_1).f2, (rd_T25 l0 x10_1).f3, (rd_T25 l0 x10_1).f4, (rd_T25 l0 x10_1).f5, (⟨(rd_T25 l0 x10_1).f6.f0, (rd_T25 l0 x10_1).f6.f1, (rd_T25 l0 x10_1).f6.f2⟩ : S23)⟩ : S25)]) (wrap64 (x10_1 + 1))) else (none)) else (none)) = some r := by rw [if_neg (show ¬ (false = true) by decide)] at H; exact H
              clear H
              have H := H1
              clear H1
              by_cases c57 : x8_1.size + t251.size ≤ 9223372036854775807
              ·rw [if_pos c57] at H
               have c57b0 := eq_true c57
               have c57b1 : decide (x8_1.size + t251.size ≤ 9223372036854775807) = true := decide_eq_true c57
               try have c57b2 : (9223372036854775807 < x8_1.size + t251.size) = False := eq_false (Nat.not_lt.2 c57)
               by_cases c58 : x9_1.length < 1353245080339
               ·rw [if_pos c58] at H
                have LMc58 := Aside0.mk c58
                clear c58
                obtain ⟨y272, hy272⟩ : ∃ y_ : List (S25), y_ = (x9_1 ++ [(⟨(rd_T25 l0 x10_1).f0, (rd_T25 l0 x10_1).f1, (rd_T25 l0 x10_1).f2, (rd_T25 l0 x10_1).f3, (rd_T25 l0 x10_1).f4, (rd_T25 l0 x10_1).f5, (⟨(rd_T25 l0 x10_1).f6.f0, (rd_T25 l0 x10_1).f6.f1, (rd_T25 l0 x10_1).f6.f2⟩ : S23)⟩ : S25)]) := ⟨_, rfl⟩
                replace H : (tidelinelaw21_ScriptBack.l0 kj5 l0 l1 a2 (x8_1 ++ t251) y272 (wrap64 (x10_1 + 1))) = some r := by first | (rw [hy272]; with_reducible exact H) | (have H2_ := (Option.bind_some _ _).symm.trans H; rw [hy272]; with_reducible exact H2_) | (have H2_ := (Option.bind_some _ _).symm.trans H; with_reducible exact H2_) | with_reducible exact H | (rw [hy272]; exact H) | exact H
                have Ny272 := Aside0.mk hy272
                clear hy272
                have H' := Aside0.mk H
                clear H
                have p245 : 0 ≤ (x10_1 : Int) := of_decide_eq_true (by first | (with_reducible assumption) | assumption)
                have q245 : x10_1 < (l0.length : Int) := of_decide_eq_true (by first | (with_reducible assumption) | assumption)
                obtain ⟨ad245, e245, hx245_0, hx245_1, hx245_2, hx245_3, hx245_4, hx245_5, hx245_6, hx245_7, hx245_8⟩ := at_T25 HR0.out x10_1 p245 q245
                (try rw [← Nbq47.out] at hx245_8)
                (try rw [← Nbq47.out] at hw245_8)
                cases e245
                replace hx245_0 := (HB.out.cell (World.block_lt_of_cell? w _ hx245_0)).trans hx245_0
                replace hx245_1 := (HB.out.cell (World.block_lt_of_cell? w _ hx245_1)).trans hx245_1
                replace hx245_2 := (HB.out.cell (World.block_lt_of_cell? w _ hx245_2)).trans hx245_2
                replace hx245_3 := (HB.out.cell (World.block_lt_of_cell? w _ hx245_3)).trans hx245_3
                replace hx245_4 := (HB.out.cell (World.block_lt_of_cell? w _ hx245_4)).trans hx245_4
                replace hx245_5 := (HB.out.cell (World.block_lt_of_cell? w _ hx245_5)).trans hx245_5
                replace hx245_6 := (HB.out.cell (World.block_lt_of_cell? w _ hx245_6)).trans hx245_6
                replace hx245_7 := (HB.out.cell (World.block_lt_of_cell? w _ hx245_7)).trans hx245_7
                replace hx245_8 := (HB.out.cell (World.block_lt_of_cell? w _ hx245_8)).trans hx245_8
                replace p245 := eq_true p245
                replace q245 := eq_true q245
                go_wp2_with (first | ((with_reducible refine gate_callee (f := 6) rfl ?_); refine goesL_ (some 34) rfl rfl Tryz.func6 (by kernel_rfl) rfl #[.agg #[.int .i64 ((rd_T25 l0 x10_1).f0), .int .i64 ((rd_T25 l0 x10_1).f1), .int .i64 ((rd_T25 l0 x10_1).f2), .int .i64 ((rd_T25 l0 x10_1).f3), .string ((rd_T25 l0 x10_1).f4), .string ((rd_T25 l0 x10_1).f5), .string ((rd_T25 l0 x10_1).f6.f0), .string ((rd_T25 l0 x10_1).f6.f1), .bool ((rd_T25 l0 x10_1).f6.f2)]] rfl (by (try simp only [List.map_toArray, List.map_cons, List.map_nil]); first | done | rfl | (simp only [List.length_drop, List.length_take]; rfl)) ?_; (with_reducible refine (tidelinelaw21_long.calls ((rd_T25 l0 x10_1).f0) ((rd_T25 l0 x10_1).f1) ((rd_T25 l0 x10_1).f2) ((rd_T25 l0 x10_1).f3) ((rd_T25 l0 x10_1).f4) ((rd_T25 l0 x10_1).f5) ((rd_T25 l0 x10_1).f6.f0) ((rd_T25 l0 x10_1).f6.f1) ((rd_T25 l0 x10_1).f6.f2) false _ A12.out).mono ?_); rintro e w59 ⟨rfl, hb⟩; refine ⟨_, rfl, ?_⟩; have n0_ := Aside0.mk (Kd.R_below (by (with_reducible repeat (first | apply Kd.R_alloc | apply Kd.R_drewN | apply Kd.R_drew)); exact HO_9.out) hb); have n1_ := Aside0.mk (below_step (by repeat (first | (with_reducible first | exact HB.out | apply below_alloc | apply pw_below_drewN | apply below_drew1) | exact HB.out)) hb); clear HO_9; clear HB; have HO_9 := n0_; have HB := n1_; clear n0_ n1_; (try clear hb); (try clear hb2); (try clear hk); (try clear hi); have p247 : 0 ≤ (x10_1 : Int) := of_decide_eq_true (by first | (with_reducible assumption) | assumption); have q247 : x10_1 < (l0.length : Int) := of_decide_eq_true (by first | (with_reducible assumption) | assumption); obtain ⟨ad247, e247, hx247_0, hx247_1, hx247_2, hx247_3, hx247_4, hx247_5, hx247_6, hx247_7, hx247_8⟩ := at_T25 HR0.out x10_1 p247 q247; (try rw [← Nbq47.out] at hx247_8); (try rw [← Nbq47.out] at hw247_8); obtain rfl : ad245 = ad247 := (by injection e247); replace hx247_0 := (HB.out.cell (World.block_lt_of_cell? w _ hx247_0)).trans hx247_0; replace hx247_1 := (HB.out.cell (World.block_lt_of_cell? w _ hx247_1)).trans hx247_1; replace hx247_2 := (HB.out.cell (World.block_lt_of_cell? w _ hx247_2)).trans hx247_2; replace hx247_3 := (HB.out.cell (World.block_lt_of_cell? w _ hx247_3)).trans hx247_3; replace hx247_4 := (HB.out.cell (World.block_lt_of_cell? w _ hx247_4)).trans hx247_4; replace hx247_5 := (HB.out.cell (World.block_lt_of_cell? w _ hx247_5)).trans hx247_5; replace hx247_6 := (HB.out.cell (World.block_lt_of_cell? w _ hx247_6)).trans hx247_6; replace hx247_7 := (HB.out.cell (World.block_lt_of_cell? w _ hx247_7)).trans hx247_7; replace hx247_8 := (HB.out.cell (World.block_lt_of_cell? w _ hx247_8)).trans hx247_8; replace p247 := eq_true p247; replace q247 := eq_true q247) | ((with_reducible refine gate_callee (f := 8) rfl ?_); refine goesL_ (some 40) rfl rfl Tryz.func8 (by kernel_rfl) rfl #[.agg #[.int .i64 ((rd_T25 l0 x10_1).f0), .int .i64 ((rd_T25 l0 x10_1).f1), .int .i64 ((rd_T25 l0 x10_1).f2), .int .i64 ((rd_T25 l0 x10_1).f3), .string ((rd_T25 l0 x10_1).f4), .string ((rd_T25 l0 x10_1).f5), .string ((rd_T25 l0 x10_1).f6.f0), .string ((rd_T25 l0 x10_1).f6.f1), .bool ((rd_T25 l0 x10_1).f6.f2)]] rfl (by (try simp only [List.map_toArray, List.map_cons, List.map_nil]); first | done | rfl | (simp only [List.length_drop, List.length_take]; rfl)) ?_; (with_reducible refine (tidelineref21_Print.calls kj5 ((rd_T25 l0 x10_1).f0) ((rd_T25 l0 x10_1).f1) ((rd_T25 l0 x10_1).f2) ((rd_T25 l0 x10_1).f3) ((rd_T25 l0 x10_1).f4) ((rd_T25 l0 x10_1).f5) ((rd_T25 l0 x10_1).f6.f0) ((rd_T25 l0 x10_1).f6.f1) ((rd_T25 l0 x10_1).f6.f2) t248 t249 _ A15.out).mono ?_); rintro e w60 ⟨rfl, hb⟩; refine ⟨_, rfl, ?_⟩; have n0_ := Aside0.mk (Kd.R_below (by (with_reducible repeat (first | apply Kd.R_alloc | apply Kd.R_drewN | apply Kd.R_drew)); exact HO_9.out) hb); have n1_ := Aside0.mk (below_step (by repeat (first | (with_reducible first | exact HB.out | apply below_alloc | apply pw_below_drewN | apply below_drew1) | exact HB.out)) hb); clear HO_9; clear HB; have HO_9 := n0_; have HB := n1_; clear n0_ n1_; (try clear hb); (try clear hb2); (try clear hk); (try clear hi); have p250 : 0 ≤ (x10_1 : Int) := of_decide_eq_true (by first | (with_reducible assumption) | assumption); have q250 : x10_1 < (l0.length : Int) := of_decide_eq_true (by first | (with_reducible assumption) | assumption); obtain ⟨ad250, e250, hx250_0, hx250_1, hx250_2, hx250_3, hx250_4, hx250_5, hx250_6, hx250_7, hx250_8⟩ := at_T25 HR0.out x10_1 p250 q250; (try rw [← Nbq47.out] at hx250_8); (try rw [← Nbq47.out] at hw250_8); obtain rfl : ad245 = ad250 := (by injection e250); replace hx250_0 := (HB.out.cell (World.block_lt_of_cell? w _ hx250_0)).trans hx250_0; replace hx250_1 := (HB.out.cell (World.block_lt_of_cell? w _ hx250_1)).trans hx250_1; replace hx250_2 := (HB.out.cell (World.block_lt_of_cell? w _ hx250_2)).trans hx250_2; replace hx250_3 := (HB.out.cell (World.block_lt_of_cell? w _ hx250_3)).trans hx250_3; replace hx250_4 := (HB.out.cell (World.block_lt_of_cell? w _ hx250_4)).trans hx250_4; replace hx250_5 := (HB.out.cell (World.block_lt_of_cell? w _ hx250_5)).trans hx250_5; replace hx250_6 := (HB.out.cell (World.block_lt_of_cell? w _ hx250_6)).trans hx250_6; replace hx250_7 := (HB.out.cell (World.block_lt_of_cell? w _ hx250_7)).trans hx250_7; replace hx250_8 := (HB.out.cell (World.block_lt_of_cell? w _ hx250_8)).trans hx250_8; replace p250 := eq_true p250; replace q250 := eq_true q250) | ((with_reducible refine gate_callee (f := 7) rfl ?_); refine goesL_ (some 50) rfl rfl Tryz.func7 (by kernel_rfl) rfl #[.agg #[.int .i64 ((rd_T25 l0 x10_1).f0), .int .i64 ((rd_T25 l0 x10_1).f1), .int .i64 ((rd_T25 l0 x10_1).f2), .int .i64 ((rd_T25 l0 x10_1).f3), .string ((rd_T25 l0 x10_1).f4), .string ((rd_T25 l0 x10_1).f5), .string ((rd_T25 l0 x10_1).f6.f0), .string ((rd_T25 l0 x10_1).f6.f1), .bool ((rd_T25 l0 x10_1).f6.f2)]] rfl (by (try simp only [List.map_toArray, List.map_cons, List.map_nil]); first | done | rfl | (simp only [List.length_drop, List.length_take]; rfl)) ?_; (with_reducible refine (script_Print.calls ((rd_T25 l0 x10_1).f0) ((rd_T25 l0 x10_1).f1) ((rd_T25 l0 x10_1).f2) ((rd_T25 l0 x10_1).f3) ((rd_T25 l0 x10_1).f4) ((rd_T25 l0 x10_1).f5) ((rd_T25 l0 x10_1).f6.f0) ((rd_T25 l0 x10_1).f6.f1) ((rd_T25 l0 x10_1).f6.f2) t251 t252 _ ?sideG A17.out).mono ?_); (case sideG => exact Glob.GlobOK.below HG.out (by repeat (first | (with_reducible first | exact HB.out | apply below_alloc | apply pw_below_drewN | apply below_drew1) | exact HB.out))); rintro e w61 ⟨rfl, hb⟩; refine ⟨_, rfl, ?_⟩; have n0_ := Aside0.mk (Kd.R_below (by (with_reducible repeat (first | apply Kd.R_alloc | apply Kd.R_drewN | apply Kd.R_drew)); exact HO_9.out) hb); have n1_ := Aside0.mk (below_step (by repeat (first | (with_reducible first | exact HB.out | apply below_alloc | apply pw_below_drewN | apply below_drew1) | exact HB.out)) hb); clear HO_9; clear HB; have HO_9 := n0_; have HB := n1_; clear n0_ n1_; (try clear hb); (try clear hb2); (try clear hk); (try clear hi); obtain ⟨Ao62, co62, eo62⟩ := Kd.R_slice HO_9.out; subst eo62; have p266 : 0 ≤ (x10_1 : Int) := of_decide_eq_true (by first | (with_reducible assumption) | assumption); have q266 : x10_1 < (l1.length : Int) := of_decide_eq_true (by first | (with_reducible assumption) | assumption); obtain ⟨ad266, e266, hx266_0⟩ := Kd.at_bool HR1.out x10_1 p266 q266; (try rw [← Nbq47.out] at hx266_0); (try rw [← Nbq47.out] at hw266_0); cases e266; replace hx266_0 := (HB.out.cell (World.block_lt_of_cell? w _ hx266_0)).trans hx266_0; replace p266 := eq_true p266; replace q266 := eq_true q266; have p271 : 0 ≤ (x10_1 : Int) := of_decide_eq_true (by first | (with_reducible assumption) | assumption); have q271 : x10_1 < (l0.length : Int) := of_decide_eq_true (by first | (with_reducible assumption) | assumption); obtain ⟨ad271, e271, hx271_0, hx271_1, hx271_2, hx271_3, hx271_4, hx271_5, hx271_6, hx271_7, hx271_8⟩ := at_T25 HR0.out x10_1 p271 q271; (try rw [← Nbq47.out] at hx271_8); (try rw [← Nbq47.out] at hw271_8); obtain rfl : ad245 = ad271 := (by injection e271); replace hx271_0 := (HB.out.cell (World.block_lt_of_cell? w _ hx271_0)).trans hx271_0; replace hx271_1 := (HB.out.cell (World.block_lt_of_cell? w _ hx271_1)).trans hx271_1; replace hx271_2 := (HB.out.cell (World.block_lt_of_cell? w _ hx271_2)).trans hx271_2; replace hx271_3 := (HB.out.cell (World.block_lt_of_cell? w _ hx271_3)).trans hx271_3; replace hx271_4 := (HB.out.cell (World.block_lt_of_cell? w _ hx271_4)).trans hx271_4; replace hx271_5 := (HB.out.cell (World.block_lt_of_cell? w _ hx271_5)).trans hx271_5; replace hx271_6 := (HB.out.cell (World.block_lt_of_cell? w _ hx271_6)).trans hx271_6; replace hx271_7 := (HB.out.cell (World.block_lt_of_cell? w _ hx271_7)).trans hx271_7; replace hx271_8 := (HB.out.cell (World.block_lt_of_cell? w _ hx271_8)).trans hx271_8; replace p271 := eq_true p271; replace q271 := eq_true q271) | ((with_reducible refine gate_builtin (b := .append) (xs := #[.tmp 79, .tmp 84]) rfl ?_); (try (refine gate_guard (by rfl) ?_; dsimp only)); at_builtin; refine Kd.R_append k25 (w0 := w) w.heap.size rfl (.tmp 79) (.tmp 84) 33 25 (.agg #[(.int .i64 0), (.int .i64 0), (.int .i64 0), (.int .i64 0), (.string ⟨#[]⟩), (.string ⟨#[]⟩), (.string ⟨#[]⟩), (.string ⟨#[]⟩), (.bool false)]) 104 rfl Tryz.underlying33 info25 rfl (by decide) (by omega) (.slice Ao62 x9_1.length co62) x9_1 (⟨(rd_T25 l0 x10_1).f0, (rd_T25 l0 x10_1).f1, (rd_T25 l0 x10_1).f2, (rd_T25 l0 x10_1).f3, (rd_T25 l0 x10_1).f4, (rd_T25 l0 x10_1).f5, (⟨(rd_T25 l0 x10_1).f6.f0, (rd_T25 l0 x10_1).f6.f1, (rd_T25 l0 x10_1).f6.f2⟩ : S23)⟩ : S25) [.int .i64 ((rd_T25 l0 x10_1).f0), .int .i64 ((rd_T25 l0 x10_1).f1), .int .i64 ((rd_T25 l0 x10_1).f2), .int .i64 ((rd_T25 l0 x10_1).f3), .string ((rd_T25 l0 x10_1).f4), .string ((rd_T25 l0 x10_1).f5), .string ((rd_T25 l0 x10_1).f6.f0), .string ((rd_T25 l0 x10_1).f6.f1), .bool ((rd_T25 l0 x10_1).f6.f2)] (fun _ => True) (fun _ => False) rfl rfl ?aP (fun _ hk => hk.elim) ?aF ?aO ?aB ?aS ?aL ?_; (case aP => exact k25_mkM _ _ _ (⟨(rd_T25 l0 x10_1).f0, (rd_T25 l0 x10_1).f1, (rd_T25 l0 x10_1).f2, (rd_T25 l0 x10_1).f3, (rd_T25 l0 x10_1).f4, (rd_T25 l0 x10_1).f5, (⟨(rd_T25 l0 x10_1).f6.f0, (rd_T25 l0 x10_1).f6.f1, (rd_T25 l0 x10_1).f6.f2⟩ : S23)⟩ : S25)); (case aB => exact (by repeat (first | (with_reducible first | exact HB.out | apply below_alloc | apply pw_below_drewN | apply below_drew1) | exact HB.out))); (case aF => exact (fun _ _ => trivial)); (case aO => exact (by (with_reducible repeat (first | apply Kd.R_alloc | apply Kd.R_drewN | apply Kd.R_drew)); exact HO_9.out)); (case aS => exact (below_size (by repeat (first | (with_reducible first | exact HB.out | apply below_alloc | apply pw_below_drewN | apply below_drew1) | exact HB.out)))); (case aL => have := LMc58.out; omega); intro v273 w63 ho hb hg hat; rw [← Ny272.out] at ho; have n0_ := Aside0.mk (hb); have n1_ := Aside0.mk (ho); clear HB; clear HO_9; have HB := n0_; have HO274 := n1_; clear n0_ n1_; clear ho hb hg hat))
                go_roundg kj5
                case measure => have := HK1.out; have := HJ5.out; omega
                case rel => exact ⟨_, (x8_1 ++ t251), (y272), (wrap64 (x10_1 + 1)), rfl, (by first | rfl | (simp; done) | (simp [*]; done) | (simp [*, Go.Proofs.YtodmbjbfigifnaaGreatDoor.Str.bne_nil]; done)), (by first | rfl | (simp; done) | (simp [*]; done) | (simp [*, Go.Proofs.YtodmbjbfigifnaaGreatDoor.Str.bne_nil]; done)), H', ⟨by have := HK1.out; have := HJ5.out; omega⟩, ⟨by (with_reducible repeat (first | apply Kd.R_alloc | apply Kd.R_drewN | apply Kd.R_drew)); exact HO274.out⟩, ⟨by repeat (first | (with_reducible first | exact HB.out | apply below_alloc | apply pw_below_drewN | apply below_drew1) | exact HB.out)⟩⟩
               ·rw [if_neg c58] at H
                exact absurd H (by simp)
              ·rw [if_neg c57] at H
               exact absurd H (by simp)
            ·rw [if_neg c46] at H
             have c46b0 : decide (x10_1 < (l1.length : Int)) = false := decide_eq_false c46
             clear c46
             by_cases c64 : x8_1.size + t251.size ≤ 9223372036854775807
             ·rw [if_pos c64] at H
              have c64b0 := eq_true c64
              have c64b1 : decide (x8_1.size + t251.size ≤ 9223372036854775807) = true := decide_eq_true c64
              try have c64b2 : (9223372036854775807 < x8_1.size + t251.size) = False := eq_false (Nat.not_lt.2 c64)
              by_cases c65 : x9_1.length < 1353245080339
              ·rw [if_pos c65] at H
               have LMc65 := Aside0.mk c65
               clear c65
               obtain ⟨y276, hy276⟩ : ∃ y_ : List (S25), y_ = (x9_1 ++ [(⟨(rd_T25 l0 x10_1).f0, (rd_T25 l0 x10_1).f1, (rd_T25 l0 x10_1).f2, (rd_T25 l0 x10_1).f3, (rd_T25 l0 x10_1).f4, (rd_T25 l0 x10_1).f5, (⟨(rd_T25 l0 x10_1).f6.f0, (rd_T25 l0 x10_1).f6.f1, (rd_T25 l0 x10_1).f6.f2⟩ : S23)⟩ : S25)]) := ⟨_, rfl⟩
               replace H : (tidelinelaw21_ScriptBack.l0 kj5 l0 l1 a2 (x8_1 ++ t251) y276 (wrap64 (x10_1 + 1))) = some r := by first | (rw [hy276]; with_reducible exact H) | (have H2_ := (Option.bind_some _ _).symm.trans H; rw [hy276]; with_reducible exact H2_) | (have H2_ := (Option.bind_some _ _).symm.trans H; with_reducible exact H2_) | with_reducible exact H | (rw [hy276]; exact H) | exact H
               have Ny276 := Aside0.mk hy276
               clear hy276
               have H' := Aside0.mk H
               clear H
               have p245 : 0 ≤ (x10_1 : Int) := of_decide_eq_true (by first | (with_reducible assumption) | assumption)
               have q245 : x10_1 < (l0.length : Int) := of_decide_eq_true (by first | (with_reducible assumption) | assumption)
               obtain ⟨ad245, e245, hx245_0, hx245_1, hx245_2, hx245_3, hx245_4, hx245_5, hx245_6, hx245_7, hx245_8⟩ := at_T25 HR0.out x10_1 p245 q245
               cases e245
               replace hx245_0 := (HB.out.cell (World.block_lt_of_cell? w _ hx245_0)).trans hx245_0
               replace hx245_1 := (HB.out.cell (World.block_lt_of_cell? w _ hx245_1)).trans hx245_1
               replace hx245_2 := (HB.out.cell (World.block_lt_of_cell? w _ hx245_2)).trans hx245_2
               replace hx245_3 := (HB.out.cell (World.block_lt_of_cell? w _ hx245_3)).trans hx245_3
               replace hx245_4 := (HB.out.cell (World.block_lt_of_cell? w _ hx245_4)).trans hx245_4
               replace hx245_5 := (HB.out.cell (World.block_lt_of_cell? w _ hx245_5)).trans hx245_5
               replace hx245_6 := (HB.out.cell (World.block_lt_of_cell? w _ hx245_6)).trans hx245_6
               replace hx245_7 := (HB.out.cell (World.block_lt_of_cell? w _ hx245_7)).trans hx245_7
               replace hx245_8 := (HB.out.cell (World.block_lt_of_cell? w _ hx245_8)).trans hx245_8
               replace p245 := eq_true p245
               replace q245 := eq_true q245
               go_wp2_with (first | ((with_reducible refine gate_callee (f := 6) rfl ?_); refine goesL_ (some 34) rfl rfl Tryz.func6 (by kernel_rfl) rfl #[.agg #[.int .i64 ((rd_T25 l0 x10_1).f0), .int .i64 ((rd_T25 l0 x10_1).f1), .int .i64 ((rd_T25 l0 x10_1).f2), .int .i64 ((rd_T25 l0 x10_1).f3), .string ((rd_T25 l0 x10_1).f4), .string ((rd_T25 l0 x10_1).f5), .string ((rd_T25 l0 x10_1).f6.f0), .string ((rd_T25 l0 x10_1).f6.f1), .bool ((rd_T25 l0 x10_1).f6.f2)]] rfl (by (try simp only [List.map_toArray, List.map_cons, List.map_nil]); first | done | rfl | (simp only [List.length_drop, List.length_take]; rfl)) ?_; (with_reducible refine (tidelinelaw21_long.calls ((rd_T25 l0 x10_1).f0) ((rd_T25 l0 x10_1).f1) ((rd_T25 l0 x10_1).f2) ((rd_T25 l0 x10_1).f3) ((rd_T25 l0 x10_1).f4) ((rd_T25 l0 x10_1).f5) ((rd_T25 l0 x10_1).f6.f0) ((rd_T25 l0 x10_1).f6.f1) ((rd_T25 l0 x10_1).f6.f2) false _ A12.out).mono ?_); rintro e w66 ⟨rfl, hb⟩; refine ⟨_, rfl, ?_⟩; have n0_ := Aside0.mk (Kd.R_below (by (with_reducible repeat (first | apply Kd.R_alloc | apply Kd.R_drewN | apply Kd.R_drew)); exact HO_9.out) hb); have n1_ := Aside0.mk (below_step (by repeat (first | (with_reducible first | exact HB.out | apply below_alloc | apply pw_below_drewN | apply below_drew1) | exact HB.out)) hb); clear HO_9; clear HB; have HO_9 := n0_; have HB := n1_; clear n0_ n1_; (try clear hb); (try clear hb2); (try clear hk); (try clear hi); have p247 : 0 ≤ (x10_1 : Int) := of_decide_eq_true (by first | (with_reducible assumption) | assumption); have q247 : x10_1 < (l0.length : Int) := of_decide_eq_true (by first | (with_reducible assumption) | assumption); obtain ⟨ad247, e247, hx247_0, hx247_1, hx247_2, hx247_3, hx247_4, hx247_5, hx247_6, hx247_7, hx247_8⟩ := at_T25 HR0.out x10_1 p247 q247; obtain rfl : ad245 = ad247 := (by injection e247); replace hx247_0 := (HB.out.cell (World.block_lt_of_cell? w _ hx247_0)).trans hx247_0; replace hx247_1 := (HB.out.cell (World.block_lt_of_cell? w _ hx247_1)).trans hx247_1; replace hx247_2 := (HB.out.cell (World.block_lt_of_cell? w _ hx247_2)).trans hx247_2; replace hx247_3 := (HB.out.cell (World.block_lt_of_cell? w _ hx247_3)).trans hx247_3; replace hx247_4 := (HB.out.cell (World.block_lt_of_cell? w _ hx247_4)).trans hx247_4; replace hx247_5 := (HB.out.cell (World.block_lt_of_cell? w _ hx247_5)).trans hx247_5; replace hx247_6 := (HB.out.cell (World.block_lt_of_cell? w _ hx247_6)).trans hx247_6; replace hx247_7 := (HB.out.cell (World.block_lt_of_cell? w _ hx247_7)).trans hx247_7; replace hx247_8 := (HB.out.cell (World.block_lt_of_cell? w _ hx247_8)).trans hx247_8; replace p247 := eq_true p247; replace q247 := eq_true q247) | ((with_reducible refine gate_callee (f := 8) rfl ?_); refine goesL_ (some 40) rfl rfl Tryz.func8 (by kernel_rfl) rfl #[.agg #[.int .i64 ((rd_T25 l0 x10_1).f0), .int .i64 ((rd_T25 l0 x10_1).f1), .int .i64 ((rd_T25 l0 x10_1).f2), .int .i64 ((rd_T25 l0 x10_1).f3), .string ((rd_T25 l0 x10_1).f4), .string ((rd_T25 l0 x10_1).f5), .string ((rd_T25 l0 x10_1).f6.f0), .string ((rd_T25 l0 x10_1).f6.f1), .bool ((rd_T25 l0 x10_1).f6.f2)]] rfl (by (try simp only [List.map_toArray, List.map_cons, List.map_nil]); first | done | rfl | (simp only [List.length_drop, List.length_take]; rfl)) ?_; (with_reducible refine (tidelineref21_Print.calls kj5 ((rd_T25 l0 x10_1).f0) ((rd_T25 l0 x10_1).f1) ((rd_T25 l0 x10_1).f2) ((rd_T25 l0 x10_1).f3) ((rd_T25 l0 x10_1).f4) ((rd_T25 l0 x10_1).f5) ((rd_T25 l0 x10_1).f6.f0) ((rd_T25 l0 x10_1).f6.f1) ((rd_T25 l0 x10_1).f6.f2) t248 t249 _ A15.out).mono ?_); rintro e w67 ⟨rfl, hb⟩; refine ⟨_, rfl, ?_⟩; have n0_ := Aside0.mk (Kd.R_below (by (with_reducible repeat (first | apply Kd.R_alloc | apply Kd.R_drewN | apply Kd.R_drew)); exact HO_9.out) hb); have n1_ := Aside0.mk (below_step (by repeat (first | (with_reducible first | exact HB.out | apply below_alloc | apply pw_below_drewN | apply below_drew1) | exact HB.out)) hb); clear HO_9; clear HB; have HO_9 := n0_; have HB := n1_; clear n0_ n1_; (try clear hb); (try clear hb2); (try clear hk); (try clear hi); have p250 : 0 ≤ (x10_1 : Int) := of_decide_eq_true (by first | (with_reducible assumption) | assumption); have q250 : x10_1 < (l0.length : Int) := of_decide_eq_true (by first | (with_reducible assumption) | assumption); obtain ⟨ad250, e250, hx250_0, hx250_1, hx250_2, hx250_3, hx250_4, hx250_5, hx250_6, hx250_7, hx250_8⟩ := at_T25 HR0.out x10_1 p250 q250; obtain rfl : ad245 = ad250 := (by injection e250); replace hx250_0 := (HB.out.cell (World.block_lt_of_cell? w _ hx250_0)).trans hx250_0; replace hx250_1 := (HB.out.cell (World.block_lt_of_cell? w _ hx250_1)).trans hx250_1; replace hx250_2 := (HB.out.cell (World.block_lt_of_cell? w _ hx250_2)).trans hx250_2; replace hx250_3 := (HB.out.cell (World.block_lt_of_cell? w _ hx250_3)).trans hx250_3; replace hx250_4 := (HB.out.cell (World.block_lt_of_cell? w _ hx250_4)).trans hx250_4; replace hx250_5 := (HB.out.cell (World.block_lt_of_cell? w _ hx250_5)).trans hx250_5; replace hx250_6 := (HB.out.cell (World.block_lt_of_cell? w _ hx250_6)).trans hx250_6; replace hx250_7 := (HB.out.cell (World.block_lt_of_cell? w _ hx250_7)).trans hx250_7; replace hx250_8 := (HB.out.cell (World.block_lt_of_cell? w _ hx250_8)).trans hx250_8; replace p250 := eq_true p250; replace q250 := eq_true q250) | ((with_reducible refine gate_callee (f := 7) rfl ?_); refine goesL_ (some 50) rfl rfl Tryz.func7 (by kernel_rfl) rfl #[.agg #[.int .i64 ((rd_T25 l0 x10_1).f0), .int .i64 ((rd_T25 l0 x10_1).f1), .int .i64 ((rd_T25 l0 x10_1).f2), .int .i64 ((rd_T25 l0 x10_1).f3), .string ((rd_T25 l0 x10_1).f4), .string ((rd_T25 l0 x10_1).f5), .string ((rd_T25 l0 x10_1).f6.f0), .string ((rd_T25 l0 x10_1).f6.f1), .bool ((rd_T25 l0 x10_1).f6.f2)]] rfl (by (try simp only [List.map_toArray, List.map_cons, List.map_nil]); first | done | rfl | (simp only [List.length_drop, List.length_take]; rfl)) ?_; (with_reducible refine (script_Print.calls ((rd_T25 l0 x10_1).f0) ((rd_T25 l0 x10_1).f1) ((rd_T25 l0 x10_1).f2) ((rd_T25 l0 x10_1).f3) ((rd_T25 l0 x10_1).f4) ((rd_T25 l0 x10_1).f5) ((rd_T25 l0 x10_1).f6.f0) ((rd_T25 l0 x10_1).f6.f1) ((rd_T25 l0 x10_1).f6.f2) t251 t252 _ ?sideG A17.out).mono ?_); (case sideG => exact Glob.GlobOK.below HG.out (by repeat (first | (with_reducible first | exact HB.out | apply below_alloc | apply pw_below_drewN | apply below_drew1) | exact HB.out))); rintro e w68 ⟨rfl, hb⟩; refine ⟨_, rfl, ?_⟩; have n0_ := Aside0.mk (Kd.R_below (by (with_reducible repeat (first | apply Kd.R_alloc | apply Kd.R_drewN | apply Kd.R_drew)); exact HO_9.out) hb); have n1_ := Aside0.mk (below_step (by repeat (first | (with_reducible first | exact HB.out | apply below_alloc | apply pw_below_drewN | apply below_drew1) | exact HB.out)) hb); clear HO_9; clear HB; have HO_9 := n0_; have HB := n1_; clear n0_ n1_; (try clear hb); (try clear hb2); (try clear hk); (try clear hi); obtain ⟨Ao69, co69, eo69⟩ := Kd.R_slice HO_9.out; subst eo69; have p275 : 0 ≤ (x10_1 : Int) := of_decide_eq_true (by first | (with_reducible assumption) | assumption); have q275 : x10_1 < (l0.length : Int) := of_decide_eq_true (by first | (with_reducible assumption) | assumption); obtain ⟨ad275, e275, hx275_0, hx275_1, hx275_2, hx275_3, hx275_4, hx275_5, hx275_6, hx275_7, hx275_8⟩ := at_T25 HR0.out x10_1 p275 q275; obtain rfl : ad245 = ad275 := (by injection e275); replace hx275_0 := (HB.out.cell (World.block_lt_of_cell? w _ hx275_0)).trans hx275_0; replace hx275_1 := (HB.out.cell (World.block_lt_of_cell? w _ hx275_1)).trans hx275_1; replace hx275_2 := (HB.out.cell (World.block_lt_of_cell? w _ hx275_2)).trans hx275_2; replace hx275_3 := (HB.out.cell (World.block_lt_of_cell? w _ hx275_3)).trans hx275_3; replace hx275_4 := (HB.out.cell (World.block_lt_of_cell? w _ hx275_4)).trans hx275_4; replace hx275_5 := (HB.out.cell (World.block_lt_of_cell? w _ hx275_5)).trans hx275_5; replace hx275_6 := (HB.out.cell (World.block_lt_of_cell? w _ hx275_6)).trans hx275_6; replace hx275_7 := (HB.out.cell (World.block_lt_of_cell? w _ hx275_7)).trans hx275_7; replace hx275_8 := (HB.out.cell (World.block_lt_of_cell? w _ hx275_8)).trans hx275_8; replace p275 := eq_true p275; replace q275 := eq_true q275) | ((with_reducible refine gate_builtin (b := .append) (xs := #[.tmp 79, .tmp 84]) rfl ?_); (try (refine gate_guard (by rfl) ?_; dsimp only)); at_builtin; refine Kd.R_append k25 (w0 := w) w.heap.size rfl (.tmp 79) (.tmp 84) 33 25 (.agg #[(.int .i64 0), (.int .i64 0), (.int .i64 0), (.int .i64 0), (.string ⟨#[]⟩), (.string ⟨#[]⟩), (.string ⟨#[]⟩), (.string ⟨#[]⟩), (.bool false)]) 104 rfl Tryz.underlying33 info25 rfl (by decide) (by omega) (.slice Ao69 x9_1.length co69) x9_1 (⟨(rd_T25 l0 x10_1).f0, (rd_T25 l0 x10_1).f1, (rd_T25 l0 x10_1).f2, (rd_T25 l0 x10_1).f3, (rd_T25 l0 x10_1).f4, (rd_T25 l0 x10_1).f5, (⟨(rd_T25 l0 x10_1).f6.f0, (rd_T25 l0 x10_1).f6.f1, (rd_T25 l0 x10_1).f6.f2⟩ : S23)⟩ : S25) [.int .i64 ((rd_T25 l0 x10_1).f0), .int .i64 ((rd_T25 l0 x10_1).f1), .int .i64 ((rd_T25 l0 x10_1).f2), .int .i64 ((rd_T25 l0 x10_1).f3), .string ((rd_T25 l0 x10_1).f4), .string ((rd_T25 l0 x10_1).f5), .string ((rd_T25 l0 x10_1).f6.f0), .string ((rd_T25 l0 x10_1).f6.f1), .bool ((rd_T25 l0 x10_1).f6.f2)] (fun _ => True) (fun _ => False) rfl rfl ?aP (fun _ hk => hk.elim) ?aF ?aO ?aB ?aS ?aL ?_; (case aP => exact k25_mkM _ _ _ (⟨(rd_T25 l0 x10_1).f0, (rd_T25 l0 x10_1).f1, (rd_T25 l0 x10_1).f2, (rd_T25 l0 x10_1).f3, (rd_T25 l0 x10_1).f4, (rd_T25 l0 x10_1).f5, (⟨(rd_T25 l0 x10_1).f6.f0, (rd_T25 l0 x10_1).f6.f1, (rd_T25 l0 x10_1).f6.f2⟩ : S23)⟩ : S25)); (case aB => exact (by repeat (first | (with_reducible first | exact HB.out | apply below_alloc | apply pw_below_drewN | apply below_drew1) | exact HB.out))); (case aF => exact (fun _ _ => trivial)); (case aO => exact (by (with_reducible repeat (first | apply Kd.R_alloc | apply Kd.R_drewN | apply Kd.R_drew)); exact HO_9.out)); (case aS => exact (below_size (by repeat (first | (with_reducible first | exact HB.out | apply below_alloc | apply pw_below_drewN | apply below_drew1) | exact HB.out)))); (case aL => have := LMc65.out; omega); intro v277 w70 ho hb hg hat; rw [← Ny276.out] at ho; have n0_ := Aside0.mk (hb); have n1_ := Aside0.mk (ho); clear HB; clear HO_9; have HB := n0_; have HO278 := n1_; clear n0_ n1_; clear ho hb hg hat))
               go_roundg kj5
               case measure => have := HK1.out; have := HJ5.out; omega
               case rel => exact ⟨_, (x8_1 ++ t251), (y276), (wrap64 (x10_1 + 1)), rfl, (by first | rfl | (simp; done) | (simp [*]; done) | (simp [*, Go.Proofs.YtodmbjbfigifnaaGreatDoor.Str.bne_nil]; done)), (by first | rfl | (simp; done) | (simp [*]; done) | (simp [*, Go.Proofs.YtodmbjbfigifnaaGreatDoor.Str.bne_nil]; done)), H', ⟨by have := HK1.out; have := HJ5.out; omega⟩, ⟨by (with_reducible repeat (first | apply Kd.R_alloc | apply Kd.R_drewN | apply Kd.R_drew)); exact HO278.out⟩, ⟨by repeat (first | (with_reducible first | exact HB.out | apply below_alloc | apply pw_below_drewN | apply below_drew1) | exact HB.out)⟩⟩
              ·rw [if_neg c65] at H
               exact absurd H (by simp)
             ·rw [if_neg c64] at H
              exact absurd H (by simp)
          ·rw [if_neg c18] at H
           exact absurd H (by simp)
         ·rw [if_neg c16] at H
          have c16b0 : (t249 == 0) = false := beq_eq_false_iff_ne.mpr c16
          have c16b1 : (t249 != 0) = true := bne_iff_ne.mpr c16
          have H' := Aside0.mk H
          clear H
          have p245 : 0 ≤ (x10_1 : Int) := of_decide_eq_true (by first | (with_reducible assumption) | assumption)
          have q245 : x10_1 < (l0.length : Int) := of_decide_eq_true (by first | (with_reducible assumption) | assumption)
          obtain ⟨ad245, e245, hx245_0, hx245_1, hx245_2, hx245_3, hx245_4, hx245_5, hx245_6, hx245_7, hx245_8⟩ := at_T25 HR0.out x10_1 p245 q245
          cases e245
          replace hx245_0 := (HB.out.cell (World.block_lt_of_cell? w _ hx245_0)).trans hx245_0
          replace hx245_1 := (HB.out.cell (World.block_lt_of_cell? w _ hx245_1)).trans hx245_1
          replace hx245_2 := (HB.out.cell (World.block_lt_of_cell? w _ hx245_2)).trans hx245_2
          replace hx245_3 := (HB.out.cell (World.block_lt_of_cell? w _ hx245_3)).trans hx245_3
          replace hx245_4 := (HB.out.cell (World.block_lt_of_cell? w _ hx245_4)).trans hx245_4
          replace hx245_5 := (HB.out.cell (World.block_lt_of_cell? w _ hx245_5)).trans hx245_5
          replace hx245_6 := (HB.out.cell (World.block_lt_of_cell? w _ hx245_6)).trans hx245_6
          replace hx245_7 := (HB.out.cell (World.block_lt_of_cell? w _ hx245_7)).trans hx245_7
          replace hx245_8 := (HB.out.cell (World.block_lt_of_cell? w _ hx245_8)).trans hx245_8
          replace p245 := eq_true p245
          replace q245 := eq_true q245
          go_wp2_with (first | ((with_reducible refine gate_callee (f := 6) rfl ?_); refine goesL_ (some 34) rfl rfl Tryz.func6 (by kernel_rfl) rfl #[.agg #[.int .i64 ((rd_T25 l0 x10_1).f0), .int .i64 ((rd_T25 l0 x10_1).f1), .int .i64 ((rd_T25 l0 x10_1).f2), .int .i64 ((rd_T25 l0 x10_1).f3), .string ((rd_T25 l0 x10_1).f4), .string ((rd_T25 l0 x10_1).f5), .string ((rd_T25 l0 x10_1).f6.f0), .string ((rd_T25 l0 x10_1).f6.f1), .bool ((rd_T25 l0 x10_1).f6.f2)]] rfl (by (try simp only [List.map_toArray, List.map_cons, List.map_nil]); first | done | rfl | (simp only [List.length_drop, List.length_take]; rfl)) ?_; (with_reducible refine (tidelinelaw21_long.calls ((rd_T25 l0 x10_1).f0) ((rd_T25 l0 x10_1).f1) ((rd_T25 l0 x10_1).f2) ((rd_T25 l0 x10_1).f3) ((rd_T25 l0 x10_1).f4) ((rd_T25 l0 x10_1).f5) ((rd_T25 l0 x10_1).f6.f0) ((rd_T25 l0 x10_1).f6.f1) ((rd_T25 l0 x10_1).f6.f2) false _ A12.out).mono ?_); rintro e w71 ⟨rfl, hb⟩; refine ⟨_, rfl, ?_⟩; have n0_ := Aside0.mk (Kd.R_below (by (with_reducible repeat (first | apply Kd.R_alloc | apply Kd.R_drewN | apply Kd.R_drew)); exact HO_9.out) hb); have n1_ := Aside0.mk (below_step (by repeat (first | (with_reducible first | exact HB.out | apply below_alloc | apply pw_below_drewN | apply below_drew1) | exact HB.out)) hb); clear HO_9; clear HB; have HO_9 := n0_; have HB := n1_; clear n0_ n1_; (try clear hb); (try clear hb2); (try clear hk); (try clear hi); have p247 : 0 ≤ (x10_1 : Int) := of_decide_eq_true (by first | (with_reducible assumption) | assumption); have q247 : x10_1 < (l0.length : Int) := of_decide_eq_true (by first | (with_reducible assumption) | assumption); obtain ⟨ad247, e247, hx247_0, hx247_1, hx247_2, hx247_3, hx247_4, hx247_5, hx247_6, hx247_7, hx247_8⟩ := at_T25 HR0.out x10_1 p247 q247; obtain rfl : ad245 = ad247 := (by injection e247); replace hx247_0 := (HB.out.cell (World.block_lt_of_cell? w _ hx247_0)).trans hx247_0; replace hx247_1 := (HB.out.cell (World.block_lt_of_cell? w _ hx247_1)).trans hx247_1; replace hx247_2 := (HB.out.cell (World.block_lt_of_cell? w _ hx247_2)).trans hx247_2; replace hx247_3 := (HB.out.cell (World.block_lt_of_cell? w _ hx247_3)).trans hx247_3; replace hx247_4 := (HB.out.cell (World.block_lt_of_cell? w _ hx247_4)).trans hx247_4; replace hx247_5 := (HB.out.cell (World.block_lt_of_cell? w _ hx247_5)).trans hx247_5; replace hx247_6 := (HB.out.cell (World.block_lt_of_cell? w _ hx247_6)).trans hx247_6; replace hx247_7 := (HB.out.cell (World.block_lt_of_cell? w _ hx247_7)).trans hx247_7; replace hx247_8 := (HB.out.cell (World.block_lt_of_cell? w _ hx247_8)).trans hx247_8; replace p247 := eq_true p247; replace q247 := eq_true q247) | ((with_reducible refine gate_callee (f := 8) rfl ?_); refine goesL_ (some 40) rfl rfl Tryz.func8 (by kernel_rfl) rfl #[.agg #[.int .i64 ((rd_T25 l0 x10_1).f0), .int .i64 ((rd_T25 l0 x10_1).f1), .int .i64 ((rd_T25 l0 x10_1).f2), .int .i64 ((rd_T25 l0 x10_1).f3), .string ((rd_T25 l0 x10_1).f4), .string ((rd_T25 l0 x10_1).f5), .string ((rd_T25 l0 x10_1).f6.f0), .string ((rd_T25 l0 x10_1).f6.f1), .bool ((rd_T25 l0 x10_1).f6.f2)]] rfl (by (try simp only [List.map_toArray, List.map_cons, List.map_nil]); first | done | rfl | (simp only [List.length_drop, List.length_take]; rfl)) ?_; (with_reducible refine (tidelineref21_Print.calls kj5 ((rd_T25 l0 x10_1).f0) ((rd_T25 l0 x10_1).f1) ((rd_T25 l0 x10_1).f2) ((rd_T25 l0 x10_1).f3) ((rd_T25 l0 x10_1).f4) ((rd_T25 l0 x10_1).f5) ((rd_T25 l0 x10_1).f6.f0) ((rd_T25 l0 x10_1).f6.f1) ((rd_T25 l0 x10_1).f6.f2) t248 t249 _ A15.out).mono ?_); rintro e w72 ⟨rfl, hb⟩; refine ⟨_, rfl, ?_⟩; have n0_ := Aside0.mk (Kd.R_below (by (with_reducible repeat (first | apply Kd.R_alloc | apply Kd.R_drewN | apply Kd.R_drew)); exact HO_9.out) hb); have n1_ := Aside0.mk (below_step (by repeat (first | (with_reducible first | exact HB.out | apply below_alloc | apply pw_below_drewN | apply below_drew1) | exact HB.out)) hb); clear HO_9; clear HB; have HO_9 := n0_; have HB := n1_; clear n0_ n1_; (try clear hb); (try clear hb2); (try clear hk); (try clear hi)))
          go_roundg kj5
          case measure => have := HK1.out; have := HJ5.out; omega
          case rel => exact ⟨_, (x8_1), (x9_1), (wrap64 (x10_1 + 1)), rfl, (by first | rfl | (simp; done) | (simp [*]; done) | (simp [*, Go.Proofs.YtodmbjbfigifnaaGreatDoor.Str.bne_nil]; done)), (by first | rfl | (simp; done) | (simp [*]; done) | (simp [*, Go.Proofs.YtodmbjbfigifnaaGreatDoor.Str.bne_nil]; done)), H', ⟨by have := HK1.out; have := HJ5.out; omega⟩, ⟨by (with_reducible repeat (first | apply Kd.R_alloc | apply Kd.R_drewN | apply Kd.R_drew)); exact HO_9.out⟩, ⟨by repeat (first | (with_reducible first | exact HB.out | apply below_alloc | apply pw_below_drewN | apply below_drew1) | exact HB.out)⟩⟩
       ·rw [if_neg c11] at H
        exact absurd H (by simp)
      ·rw [if_neg c10] at H
       exact absurd H (by simp)
     ·replace c9 := Bool.eq_false_iff.mpr c9
      subst c9
      have H1 : (if a2 = true then (if x8_1.size + 1 ≤ 9223372036854775807 then ((script_Read.f (x8_1 ++ (⟨#[10]⟩ : ByteArray))).bind fun bt279 => (if bt279.2.2 = 0 then (if bt279.2.1 = 0 then ((tidelinelaw21_same.f kj5 bt279.1 x9_1).bind fun t284 => (some t284)) else (none)) else (none))) else (none)) else ((script_Read.f x8_1).bind fun bt285 => (if bt285.2.2 = 0 then (if bt285.2.1 = 0 then ((tidelinelaw21_same.f kj5 bt285.1 x9_1).bind fun t290 => (some t290)) else (none)) else (none)))) = some r := by rw [if_neg (show ¬ (false = true) by decide)] at H; exact H
      clear H
      have H := H1
      clear H1
      by_cases c73 : a2 = true
      ·subst c73
       have H1 : (if x8_1.size + 1 ≤ 9223372036854775807 then ((script_Read.f (x8_1 ++ (⟨#[10]⟩ : ByteArray))).bind fun bt279 => (if bt279.2.2 = 0 then (if bt279.2.1 = 0 then ((tidelinelaw21_same.f kj5 bt279.1 x9_1).bind fun t284 => (some t284)) else (none)) else (none))) else (none)) = some r := by rw [if_pos rfl] at H; exact H
       clear H
       have H := H1
       clear H1
       by_cases c74 : x8_1.size + 1 ≤ 9223372036854775807
       ·rw [if_pos c74] at H
        have c74b0 := eq_true c74
        have c74b1 : decide (x8_1.size + 1 ≤ 9223372036854775807) = true := decide_eq_true c74
        try have c74b2 : (9223372036854775807 < x8_1.size + 1) = False := eq_false (Nat.not_lt.2 c74)
        replace H := Option.bind_eq_some_iff.mp H
        obtain ⟨⟨t279, t280, t281⟩, A750, H⟩ := H
        replace H : (if t281 = 0 then (if t280 = 0 then ((tidelinelaw21_same.f kj5 t279 x9_1).bind fun t284 => (some t284)) else (none)) else (none)) = some r := H
        have A75 := Aside0.mk A750
        clear A750
        by_cases c76 : t281 = 0
        ·rw [if_pos c76] at H
         have c76b0 : (t281 == 0) = true := beq_iff_eq.mpr c76
         have c76b1 : (t281 != 0) = false := bne_eq_false_iff_eq.mpr c76
         clear c76
         by_cases c77 : t280 = 0
         ·rw [if_pos c77] at H
          have c77b0 : (t280 == 0) = true := beq_iff_eq.mpr c77
          have c77b1 : (t280 != 0) = false := bne_eq_false_iff_eq.mpr c77
          clear c77
          replace H := Option.bind_eq_some_iff.mp H
          obtain ⟨t284, A780, H⟩ := H
          replace H : (some t284) = some r := H
          have A78 := Aside0.mk A780
          clear A780
          obtain rfl := Option.some.inj H
          go_wp2_with (first | ((with_reducible refine gate_callee (f := 10) rfl ?_); refine goesL_ (some 91) rfl rfl Tryz.func10 (by kernel_rfl) rfl #[.string (x8_1 ++ (⟨#[10]⟩ : ByteArray))] rfl (by (try simp only [List.map_toArray, List.map_cons, List.map_nil]); first | done | rfl | (simp only [List.length_drop, List.length_take]; rfl)) ?_; (with_reducible refine (script_Read.calls (x8_1 ++ (⟨#[10]⟩ : ByteArray)) t279 t280 t281 _ ?sideG A75.out).mono ?_); (case sideG => exact Glob.GlobOK.below HG.out (by repeat (first | (with_reducible first | exact HB.out | apply below_alloc | apply pw_below_drewN | apply below_drew1) | exact HB.out))); rintro e w79 ⟨v282, rfl, ho0, hb⟩; refine ⟨_, rfl, ?_⟩; have n0_ := Aside0.mk (Kd.R_elder' (by (with_reducible repeat (first | apply Kd.R_alloc | apply Kd.R_drewN | apply Kd.R_drew)); exact HO_9.out) (Kd.R_base ho0) hb); have n1_ := Aside0.mk (Kd.R_lower (Kd.R_new' ho0 (Kd.R_lt (by (with_reducible repeat (first | apply Kd.R_alloc | apply Kd.R_drewN | apply Kd.R_drew)); exact HO_9.out))) (below_size (by repeat (first | (with_reducible first | exact HB.out | apply below_alloc | apply pw_below_drewN | apply below_drew1) | exact HB.out)))); have n2_ := Aside0.mk (below_step (by repeat (first | (with_reducible first | exact HB.out | apply below_alloc | apply pw_below_drewN | apply below_drew1) | exact HB.out)) hb); clear HO_9; clear HB; have HO_9 := n0_; have HO283 := n1_; have HB := n2_; clear n0_ n1_ n2_; (try clear hb); (try clear hb2); (try clear hk); (try clear hi); (try clear ho0); obtain ⟨Ao80, co80, eo80⟩ := Kd.R_slice HO283.out; subst eo80; obtain ⟨Ao81, co81, eo81⟩ := Kd.R_slice HO_9.out; subst eo81) | (go_at_call 11; (with_reducible refine (tidelinelaw21_same.calls kj5 _ _ t279 _ _ x9_1 t284 _ ?side1 ?side2 ?side3 ?side4 A78.out).mono ?_); (case side1 => repeat (first | exact (Kd.R_reads' HO283.out).2.2 | (with_reducible refine Kd.C_alloc ?_ _) | (with_reducible refine Kd.C_drewN ?_ _) | (with_reducible refine Kd.C_drew ?_))); (case side2 => exact (Kd.R_reads' HO283.out).2.1); (case side3 => repeat (first | exact (Kd.R_reads' HO_9.out).2.2 | (with_reducible refine Kd.C_alloc ?_ _) | (with_reducible refine Kd.C_drewN ?_ _) | (with_reducible refine Kd.C_drew ?_))); (case side4 => exact (Kd.R_reads' HO_9.out).2.1); rintro e w' ⟨rfl, ⟨nd, rfl⟩⟩))
          go_ret
          exact ⟨by first | rfl | (simp [errW_none, errW_some] <;> rfl) | (simp [*, errW_none, errW_some] <;> rfl), by repeat (first | (with_reducible first | exact HB.out | apply below_alloc | apply pw_below_drewN | apply below_drew1) | exact HB.out)⟩
         ·rw [if_neg c77] at H
          exact absurd H (by simp)
        ·rw [if_neg c76] at H
         exact absurd H (by simp)
       ·rw [if_neg c74] at H
        exact absurd H (by simp)
      ·replace c73 := Bool.eq_false_iff.mpr c73
       subst c73
       have H1 : ((script_Read.f x8_1).bind fun bt285 => (if bt285.2.2 = 0 then (if bt285.2.1 = 0 then ((tidelinelaw21_same.f kj5 bt285.1 x9_1).bind fun t290 => (some t290)) else (none)) else (none))) = some r := by rw [if_neg (show ¬ (false = true) by decide)] at H; exact H
       clear H
       have H := H1
       clear H1
       replace H := Option.bind_eq_some_iff.mp H
       obtain ⟨⟨t285, t286, t287⟩, A820, H⟩ := H
       replace H : (if t287 = 0 then (if t286 = 0 then ((tidelinelaw21_same.f kj5 t285 x9_1).bind fun t290 => (some t290)) else (none)) else (none)) = some r := H
       have A82 := Aside0.mk A820
       clear A820
       by_cases c83 : t287 = 0
       ·rw [if_pos c83] at H
        have c83b0 : (t287 == 0) = true := beq_iff_eq.mpr c83
        have c83b1 : (t287 != 0) = false := bne_eq_false_iff_eq.mpr c83
        clear c83
        by_cases c84 : t286 = 0
        ·rw [if_pos c84] at H
         have c84b0 : (t286 == 0) = true := beq_iff_eq.mpr c84
         have c84b1 : (t286 != 0) = false := bne_eq_false_iff_eq.mpr c84
         clear c84
         replace H := Option.bind_eq_some_iff.mp H
         obtain ⟨t290, A850, H⟩ := H
         replace H : (some t290) = some r := H
         have A85 := Aside0.mk A850
         clear A850
         obtain rfl := Option.some.inj H
         go_wp2_with (first | ((with_reducible refine gate_callee (f := 10) rfl ?_); refine goesL_ (some 91) rfl rfl Tryz.func10 (by kernel_rfl) rfl #[.string x8_1] rfl (by (try simp only [List.map_toArray, List.map_cons, List.map_nil]); first | done | rfl | (simp only [List.length_drop, List.length_take]; rfl)) ?_; (with_reducible refine (script_Read.calls x8_1 t285 t286 t287 _ ?sideG A82.out).mono ?_); (case sideG => exact Glob.GlobOK.below HG.out (by repeat (first | (with_reducible first | exact HB.out | apply below_alloc | apply pw_below_drewN | apply below_drew1) | exact HB.out))); rintro e w86 ⟨v288, rfl, ho0, hb⟩; refine ⟨_, rfl, ?_⟩; have n0_ := Aside0.mk (Kd.R_elder' (by (with_reducible repeat (first | apply Kd.R_alloc | apply Kd.R_drewN | apply Kd.R_drew)); exact HO_9.out) (Kd.R_base ho0) hb); have n1_ := Aside0.mk (Kd.R_lower (Kd.R_new' ho0 (Kd.R_lt (by (with_reducible repeat (first | apply Kd.R_alloc | apply Kd.R_drewN | apply Kd.R_drew)); exact HO_9.out))) (below_size (by repeat (first | (with_reducible first | exact HB.out | apply below_alloc | apply pw_below_drewN | apply below_drew1) | exact HB.out)))); have n2_ := Aside0.mk (below_step (by repeat (first | (with_reducible first | exact HB.out | apply below_alloc | apply pw_below_drewN | apply below_drew1) | exact HB.out)) hb); clear HO_9; clear HB; have HO_9 := n0_; have HO289 := n1_; have HB := n2_; clear n0_ n1_ n2_; (try clear hb); (try clear hb2); (try clear hk); (try clear hi); (try clear ho0); obtain ⟨Ao87, co87, eo87⟩ := Kd.R_slice HO289.out; subst eo87; obtain ⟨Ao88, co88, eo88⟩ := Kd.R_slice HO_9.out; subst eo88) | (go_at_call 11; (with_reducible refine (tidelinelaw21_same.calls kj5 _ _ t285 _ _ x9_1 t290 _ ?side1 ?side2 ?side3 ?side4 A85.out).mono ?_); (case side1 => repeat (first | exact (Kd.R_reads' HO289.out).2.2 | (with_reducible refine Kd.C_alloc ?_ _) | (with_reducible refine Kd.C_drewN ?_ _) | (with_reducible refine Kd.C_drew ?_))); (case side2 => exact (Kd.R_reads' HO289.out).2.1); (case side3 => repeat (first | exact (Kd.R_reads' HO_9.out).2.2 | (with_reducible refine Kd.C_alloc ?_ _) | (with_reducible refine Kd.C_drewN ?_ _) | (with_reducible refine Kd.C_drew ?_))); (case side4 => exact (Kd.R_reads' HO_9.out).2.1); rintro e w' ⟨rfl, ⟨nd, rfl⟩⟩))
         go_ret
         exact ⟨by first | rfl | (simp [errW_none, errW_some] <;> rfl) | (simp [*, errW_none, errW_some] <;> rfl), by repeat (first | (with_reducible first | exact HB.out | apply below_alloc | apply pw_below_drewN | apply below_drew1) | exact HB.out)⟩
        ·rw [if_neg c84] at H
         exact absurd H (by simp)
       ·rw [if_neg c83] at H
        exact absurd H (by simp)

end Go.Proofs.YtodmbjbfigifnaaGreatDoor.PAll
set_option linter.unusedVariables false
namespace Go.Proofs.YtodmbjbfigifnaaGreatDoor.PAll
open Go.RowKit Go.Proofs.YtodmbjbfigifnaaGreatDoorW.PrintWords Go.Proofs.YtodmbjbfigifnaaGreatDoorW.PrintLast Go.Proofs.YtodmbjbfigifnaaGreatDoorW.PrintMore
/-- THE ONE PURE STATEMENT of tidelinelaw21_ScriptBack. -/
def tidelinelaw21_ScriptBack.Pure : Prop := ∀ (l0 : List (S25)) (l1 : List Bool) (a2 : Bool), (l0.length * 104 ≤ 140737488351232 ∧ ∀ x ∈ l0, fit25 x) → (l1.length * 1 ≤ 140737488351232 ∧ ∀ x ∈ l1, True) → ∃ k, tidelinelaw21_ScriptBack.f k l0 l1 a2 = some true
end Go.Proofs.YtodmbjbfigifnaaGreatDoor.PAll
set_option linter.unusedVariables false
set_option linter.unusedSimpArgs false
namespace Go.Proofs.YtodmbjbfigifnaaGreatDoor.Pure
open Go.RowKit Go.Proofs.YtodmbjbfigifnaaGreatDoor.PAll Go.Proofs.YtodmbjbfigifnaaGreatDoorW.PrintWords Go.Proofs.YtodmbjbfigifnaaGreatDoorW.PrintLast Go.Proofs.YtodmbjbfigifnaaGreatDoorW.PrintMore
open Go.Proofs.YtodmbjbfigifnaaGreatDoor.Sc Go.Proofs.YtodmbjbfigifnaaGreatDoor.Glob Go.Proofs.YtodmbjbfigifnaaGreatDoor.Dig
/-- A word: no blank, and all in print. -/
def Word (l : List UInt8) : Prop := l ≠ [] ∧ ∀ b ∈ l, 33 ≤ b.toNat ∧ b.toNat ≤ 122
/-- A line: in print, no blank at either end. -/
def Line (l : List UInt8) : Prop := l ≠ [] ∧ (∀ b ∈ l, 32 ≤ b.toNat ∧ b.toNat ≤ 122) ∧ l.head? ≠ some 32 ∧ l.getLast? ≠ some 32
theorem Word.app {a b : List UInt8} (ha : Word a) (hb : ∀ x ∈ b, 33 ≤ x.toNat ∧ x.toNat ≤ 122) : Word (a ++ b) := by
  refine ⟨by simp [ha.1], fun x hx => ?_⟩
  rcases List.mem_append.1 hx with h | h
  · exact ha.2 x h
  · exact hb x h
theorem Word.line {l : List UInt8} (h : Word l) : Line l := by
  refine ⟨h.1, fun b hb => ⟨by have := h.2 b hb; omega, (h.2 b hb).2⟩, fun e => ?_, fun e => ?_⟩
  · have := (h.2 32 (List.mem_of_mem_head? e)).1
    exact absurd this (by decide)
  · have := (h.2 32 (List.mem_of_mem_getLast? e)).1
    exact absurd this (by decide)
theorem Line.app {t u : List UInt8} (ht : Line t) (hu : Word u) : Line (t ++ [32] ++ u) := by
  have hl := hu.line
  refine ⟨by simp, fun b hb => ?_, ?_, ?_⟩
  · rcases List.mem_append.1 hb with h | h
    · rcases List.mem_append.1 h with h | h
      · exact ht.2.1 b h
      · obtain rfl := List.mem_singleton.1 h
        decide
    · exact hl.2.1 b h
  · cases t with
    | nil => exact absurd rfl ht.1
    | cons x t => exact ht.2.2.1
  · rw [List.getLast?_append]
    have hn := hl.2.2.2
    cases h : u.getLast? with
    | none => exact absurd (List.getLast?_eq_none_iff.1 h) hu.1
    | some x => rw [h] at hn; exact hn
theorem joined : ∀ (r : List ByteArray) (t : ByteArray), Line t.data.toList → (∀ u ∈ r, Word u.data.toList) → Line (joinB (t :: r)).data.toList
  | [], t, ht, _ => by rw [joinB_one]; exact ht
  | u :: r, t, ht, hr => by
    rw [joinB_step]
    refine joined r _ ?_ fun v hv => hr v (List.mem_cons_of_mem _ hv)
    have := ht.app (hr u (List.mem_cons_self ..))
    simpa using this
theorem dec_word (m : Nat) : Word (Lib.decDigits m) := by
  induction m using Nat.strongRecOn with
  | _ m ih =>
    rw [Lib.decDigits]
    split
    · rename_i h
      refine ⟨by simp, fun b hb => ?_⟩
      obtain rfl := List.mem_singleton.1 hb
      rw [UInt8.toNat_ofNat']
      omega
    · rename_i h
      refine (ih (m / 10) (by omega)).app fun b hb => ?_
      obtain rfl := List.mem_singleton.1 hb
      rw [UInt8.toNat_ofNat']
      omega
theorem hex_in (s : ByteArray) : ∀ b ∈ (hexB s).data.toList, 33 ≤ b.toNat ∧ b.toNat ≤ 122 := by
  intro b hb
  have hm : ((b.toNat : Nat) : Int) ∈ bytesOf (hexB s) := by
    unfold bytesOf
    exact List.mem_map.2 ⟨b, hb, rfl⟩
  rw [bytes_hexB] at hm
  have := hexI_bd _ (byte_bd s) _ hm
  omega
theorem ft_word {o : OpT} {c : Nat} (hc : isLet c) (hr : c = 114 → RgOK o) : Word (ft o c).data.toList := by
  unfold isLet at hc
  rcases hc with rfl | rfl | rfl | rfl | rfl | rfl
  · exact dec_word _
  · exact dec_word _
  · exact dec_word _
  · show Word (keyT o).data.toList
    unfold keyT
    rw [ByteArray.data_append, Array.toList_append]
    exact Word.app ⟨by decide, by decide⟩ (hex_in _)
  · show Word (valT o).data.toList
    unfold valT
    rw [ByteArray.data_append, Array.toList_append]
    exact Word.app ⟨by decide, by decide⟩ (hex_in _)
  · show Word (prtV o.f6.f0 o.f6.f1 o.f6.f2).1.data.toList
    unfold prtV
    rw [if_pos (show rgE o.f6.f0 o.f6.f1 o.f6.f2 = 0 from hr rfl)]
    dsimp only
    split
    · rw [ByteArray.data_append, Array.toList_append]
      refine ⟨by simp, fun x hx => ?_⟩
      rcases List.mem_append.1 hx with h | h
      · exact hex_in _ x h
      · exact (show ∀ x ∈ (⟨#[46, 46, 42]⟩ : ByteArray).data.toList, 33 ≤ x.toNat ∧ x.toNat ≤ 122 by decide) x h
    · rw [ByteArray.data_append, Array.toList_append, ByteArray.data_append, Array.toList_append]
      refine ⟨by simp, fun x hx => ?_⟩
      rcases List.mem_append.1 hx with h | h
      · rcases List.mem_append.1 h with h | h
        · exact hex_in _ x h
        · exact (show ∀ x ∈ (⟨#[46, 46]⟩ : ByteArray).data.toList, 33 ≤ x.toNat ∧ x.toNat ≤ 122 by decide) x h
      · exact hex_in _ x h
theorem lets_word : ∀ x ∈ lets, x.1.data.toList ≠ [] ∧ ∀ b ∈ x.1.data.toList, 33 ≤ b.toNat ∧ b.toNat ≤ 122 := by decide +kernel
theorem printed_line {o : OpT} (h : (printV o).2 = 0) : Line (printV o).1.data.toList := by
  obtain ⟨ws, h1, h2, h3⟩ := printed h
  obtain ⟨_, x, hm, hk, hr⟩ := par_more h3
  rw [ws_lets o x hm hk] at h1
  obtain rfl := Option.some.inj h1
  rw [h2]
  refine joined _ _ (Word.line (lets_word x hm)) fun u hu => ?_
  obtain ⟨c, hc, rfl⟩ := List.mem_map.1 hu
  exact ft_word ((lets_let x hm).2 c hc) fun e => hr (e ▸ hc)
end Go.Proofs.YtodmbjbfigifnaaGreatDoor.Pure
set_option linter.unusedVariables false
set_option linter.unusedSimpArgs false
namespace Go.Proofs.YtodmbjbfigifnaaGreatDoor.Pure
open Go.RowKit Go.Proofs.YtodmbjbfigifnaaGreatDoor.PAll Go.Proofs.YtodmbjbfigifnaaGreatDoorW.PrintWords Go.Proofs.YtodmbjbfigifnaaGreatDoorW.PrintLast Go.Proofs.YtodmbjbfigifnaaGreatDoorW.PrintMore
open Go.Proofs.YtodmbjbfigifnaaGreatDoor.Sc Go.Proofs.YtodmbjbfigifnaaGreatDoor.Glob Go.Proofs.YtodmbjbfigifnaaGreatDoor.Dig
theorem same_loop (l : List OpT) (hl : l.length ≤ 9223372036854775806) (d : Nat) : ∀ (i : Nat), i + d = l.length → Ev (fun k => tidelinelaw21_same.l0 k l l (i : Int)) true := by
  induction d with
  | zero =>
    intro i hd
    refine Ev.step (fun k => by rw [tidelinelaw21_same.l0]) ?_
    simp only [if_neg (show ¬ (i : Int) < (l.length : Int) by omega)]
    exact Ev.const rfl
  | succ d ih =>
    intro i hd
    refine Ev.step (fun k => by rw [tidelinelaw21_same.l0]) ?_
    simp only [if_pos (show (i : Int) < (l.length : Int) by omega), if_pos (show (0 : Int) ≤ (i : Int) by omega), beq_self_eq_true, Bool.not_true, Bool.or_false, Bool.or_self, Bool.false_eq_true, if_false]
    rw [wrap_succ (by omega)]
    exact ih (i + 1) (by omega)
theorem same_self (l : List OpT) (hl : l.length ≤ 9223372036854775806) : Ev (fun k => tidelinelaw21_same.f k l l) true := by
  refine Ev.congr (fun k => by rw [tidelinelaw21_same.f, if_pos rfl]) ?_
  exact same_loop l hl l.length 0 (by omega)
theorem piecesL_cat (c : UInt8) : ∀ (a b : List UInt8), piecesL c (a ++ c :: b) = piecesL c a ++ piecesL c b
  | [], b => by rw [List.nil_append, piecesL_cons_eq]; rfl
  | x :: a, b => by
    have ih := piecesL_cat c a b
    by_cases hx : x = c
    · subst hx
      rw [List.cons_append, piecesL_cons_eq, piecesL_cons_eq, ih, List.cons_append]
    · obtain ⟨p, ps, hp⟩ := List.exists_cons_of_ne_nil (piecesL_ne c a)
      rw [hp, List.cons_append] at ih
      rw [List.cons_append, piecesL_cons_ne hx ih, piecesL_cons_ne hx hp, List.cons_append]
/-- Lines that are read whole. -/
def RL (ps : List ByteArray) (a b : List OpT) : Prop := ∀ (qs : List ByteArray) (i : Nat), readL (ps ++ qs) i a = readL qs (i + ps.length) b
theorem RL.trans {ps qs : List ByteArray} {a b c : List OpT} (h : RL ps a b) (k : RL qs b c) : RL (ps ++ qs) a c := by
  intro rs i
  rw [List.append_assoc, h, k, List.length_append, Nat.add_assoc]
theorem RL.none (a : List OpT) : RL [(⟨#[]⟩ : ByteArray)] a a := by
  intro qs i
  show readL ((⟨#[]⟩ : ByteArray) :: qs) i a = _
  rw [readL, if_pos (by decide +kernel)]
  rfl
theorem RL.line {s : ByteArray} {o : OpT} {a : List OpT} (h : parW s = some o) (hf : a.length < 4000) : RL [s] a (a ++ [o]) := by
  intro qs i
  have hne : ¬ s.toList = [] := by
    intro e
    have es : s = ⟨#[]⟩ := ba_eq.1 (by rw [e]; decide +kernel)
    rw [es] at h
    exact absurd h (by rw [show parW (⟨#[]⟩ : ByteArray) = Option.none by decide +kernel]; simp)
  show readL (s :: qs) i a = _
  rw [readL, if_neg hne, h]
  simp only
  rw [if_neg (by omega)]
  rfl
theorem piecesB_of {t : ByteArray} {l : List UInt8} (h : t.data.toList = l) : piecesB t 10 = (piecesL 10 l).map fun l => ⟨l.toArray⟩ := by unfold piecesB; rw [h]
theorem map_line (s : ByteArray) (h : ∀ b ∈ s.data.toList, b ≠ 10) : (piecesL 10 s.data.toList).map (fun l : List UInt8 => (⟨l.toArray⟩ : ByteArray)) = [s] := by
  rw [piecesL_none (fun e => h 10 e rfl), List.map_cons, List.map_nil, toB]
section
variable {t s : ByteArray}
theorem p_gap (h : ∀ b ∈ s.data.toList, b ≠ 10) : piecesB (((t ++ (⟨#[10]⟩ : ByteArray)) ++ (⟨#[10, 10]⟩ : ByteArray)) ++ s) 10 = piecesB t 10 ++ ([⟨#[]⟩] ++ ([⟨#[]⟩] ++ [s])) := by
  have e : (((t ++ (⟨#[10]⟩ : ByteArray)) ++ (⟨#[10, 10]⟩ : ByteArray)) ++ s).data.toList = t.data.toList ++ 10 :: ([] ++ 10 :: ([] ++ 10 :: s.data.toList)) := by simp
  rw [piecesB_of e, piecesL_cat, piecesL_cat, piecesL_cat, List.map_append, List.map_append, List.map_append, map_line s h]
  rfl
theorem p_next (h : ∀ b ∈ s.data.toList, b ≠ 10) : piecesB ((t ++ (⟨#[10]⟩ : ByteArray)) ++ s) 10 = piecesB t 10 ++ [s] := by
  have e : ((t ++ (⟨#[10]⟩ : ByteArray)) ++ s).data.toList = t.data.toList ++ 10 :: s.data.toList := by simp
  rw [piecesB_of e, piecesL_cat, List.map_append, map_line s h]
  rfl
theorem p_first (h : ∀ b ∈ s.data.toList, b ≠ 10) : piecesB (((⟨#[]⟩ : ByteArray) ++ (⟨#[10, 10]⟩ : ByteArray)) ++ s) 10 = [⟨#[]⟩] ++ ([⟨#[]⟩] ++ [s]) := by
  have e : (((⟨#[]⟩ : ByteArray) ++ (⟨#[10, 10]⟩ : ByteArray)) ++ s).data.toList = [] ++ 10 :: ([] ++ 10 :: s.data.toList) := by simp
  rw [piecesB_of e, piecesL_cat, piecesL_cat, List.map_append, List.map_append, map_line s h]
  rfl
theorem p_one (h : ∀ b ∈ s.data.toList, b ≠ 10) : piecesB ((⟨#[]⟩ : ByteArray) ++ s) 10 = [s] := by
  have e : ((⟨#[]⟩ : ByteArray) ++ s).data.toList = s.data.toList := by simp
  rw [piecesB_of e, map_line s h]
theorem p_last : piecesB (t ++ (⟨#[10]⟩ : ByteArray)) 10 = piecesB t 10 ++ [⟨#[]⟩] := by
  have e : (t ++ (⟨#[10]⟩ : ByteArray)).data.toList = t.data.toList ++ 10 :: [] := by simp
  rw [piecesB_of e, piecesL_cat, List.map_append]
  rfl
end
/-- The text and what it is to say. -/
structure Bk (t : ByteArray) (acc : List OpT) : Prop where
  rd : RL (piecesB t 10) [] acc
  em : acc = [] → t = ⟨#[]⟩
  sz : t.size ≤ 500 * acc.length
  few : acc.length ≤ 4000
theorem room2 (t u : ByteArray) (ht : t.size ≤ 3000000) (hu : u.size ≤ 400) : t.size + 1 ≤ 9223372036854775807 ∧ (t ++ (⟨#[10]⟩ : ByteArray)).size + 2 ≤ 9223372036854775807 ∧ ((t ++ (⟨#[10]⟩ : ByteArray)) ++ (⟨#[10, 10]⟩ : ByteArray)).size + u.size ≤ 9223372036854775807 ∧
    (t ++ (⟨#[10]⟩ : ByteArray)).size + u.size ≤ 9223372036854775807 ∧ t.size + 2 ≤ 9223372036854775807 ∧ (t ++ (⟨#[10, 10]⟩ : ByteArray)).size + u.size ≤ 9223372036854775807 ∧ t.size + u.size ≤ 9223372036854775807 ∧
    (((t ++ (⟨#[10]⟩ : ByteArray)) ++ (⟨#[10, 10]⟩ : ByteArray)) ++ u).size ≤ t.size + 500 ∧ ((t ++ (⟨#[10]⟩ : ByteArray)) ++ u).size ≤ t.size + 500 ∧ ((t ++ (⟨#[10, 10]⟩ : ByteArray)) ++ u).size ≤ t.size + 500 ∧ (t ++ u).size ≤ t.size + 500 ∧ (t ++ (⟨#[10]⟩ : ByteArray)).size ≤ 1073741824 := by
  have z1 : (⟨#[10]⟩ : ByteArray).size = 1 := rfl
  have z2 : (⟨#[10, 10]⟩ : ByteArray).size = 2 := rfl
  simp only [ByteArray.size_append, z1, z2]
  generalize t.size = n at ht
  generalize u.size = m at hu
  omega
theorem Bk.sz3 {t : ByteArray} {acc : List OpT} (h : Bk t acc) : t.size ≤ 3000000 := by
  have h1 := h.sz
  have h2 := h.few
  generalize t.size = n at h1
  omega
theorem Bk.mk2 {t u : ByteArray} {acc : List OpT} {o : OpT} (h : Bk t acc) (hf : acc.length < 4000) (hr : RL (piecesB u 10) [] (acc ++ [o])) (hz : u.size ≤ t.size + 500) : Bk u (acc ++ [o]) := by
  refine ⟨hr, fun e => absurd e (by simp), ?_, by simp; omega⟩
  have h1 := h.sz
  rw [List.length_append, List.length_singleton]
  generalize u.size = n at hz
  generalize t.size = m at hz h1
  omega
theorem Bk.add {t s : ByteArray} {acc : List OpT} {o : OpT} (h : Bk t acc) (hs : parW s = some o) (hl : ∀ b ∈ s.data.toList, b ≠ 10) (hf : acc.length < 4000) :
    Bk (((t ++ (⟨#[10]⟩ : ByteArray)) ++ (⟨#[10, 10]⟩ : ByteArray)) ++ s) (acc ++ [o]) ∧ Bk ((t ++ (⟨#[10]⟩ : ByteArray)) ++ s) (acc ++ [o]) ∧ (acc = [] → Bk ((t ++ (⟨#[10, 10]⟩ : ByteArray)) ++ s) (acc ++ [o]) ∧ Bk (t ++ s) (acc ++ [o])) := by
  have hz := room2 t s h.sz3 (par_words hs).1
  have hln := RL.line hs hf
  have hgap : RL ([⟨#[]⟩] ++ ([⟨#[]⟩] ++ [s])) acc (acc ++ [o]) := (RL.none acc).trans ((RL.none acc).trans hln)
  refine ⟨h.mk2 hf (by rw [p_gap hl]; exact h.rd.trans hgap) hz.2.2.2.2.2.2.2.1, h.mk2 hf (by rw [p_next hl]; exact h.rd.trans hln) hz.2.2.2.2.2.2.2.2.1, fun e => ?_⟩
  have et := h.em e
  subst e et
  exact ⟨h.mk2 hf (by rw [p_first hl]; exact hgap) hz.2.2.2.2.2.2.2.2.2.1, h.mk2 hf (by rw [p_one hl]; exact hln) hz.2.2.2.2.2.2.2.2.2.2.1⟩
theorem Bk.start : Bk ⟨#[]⟩ [] := ⟨by rw [show piecesB (⟨#[]⟩ : ByteArray) 10 = [⟨#[]⟩] from rfl]; exact RL.none [], fun _ => rfl, Nat.zero_le _, Nat.zero_le _⟩
theorem Bk.read {t : ByteArray} {acc : List OpT} (h : Bk t acc) : script_Read.f t = some (acc, 0, 0) := by
  unfold script_Read.f
  rw [if_pos (Nat.le_trans h.sz3 (by decide))]
  have := h.rd [] 0
  rw [List.append_nil] at this
  rw [this]
  rfl
theorem Bk.read2 {t : ByteArray} {acc : List OpT} (h : Bk t acc) : script_Read.f (t ++ (⟨#[10]⟩ : ByteArray)) = some (acc, 0, 0) := by
  unfold script_Read.f
  rw [if_pos (room2 t ⟨#[]⟩ h.sz3 (Nat.zero_le _)).2.2.2.2.2.2.2.2.2.2.2, p_last]
  have := h.rd.trans (RL.none acc) [] 0
  rw [List.append_nil] at this
  rw [this]
  rfl
theorem back_end {l : List OpT} {gaps : List Bool} {last : Bool} {t : ByteArray} {acc : List OpT} (h : Bk t acc) (i : Int) : Ev (fun k => tidelinelaw21_ScriptBack.j1 k l gaps last t acc i false) true := by
  have hs := same_self acc (by have := h.few; omega)
  refine Ev.step (fun k => by rw [tidelinelaw21_ScriptBack.j1]) (evN (by decide) ?_)
  cases last with
  | true =>
    refine evY rfl (evY (room2 t ⟨#[]⟩ h.sz3 (Nat.zero_le _)).1 ?_)
    rw [h.read2]
    simp only [Option.bind_some]
    exact evY trivial (evY trivial (Ev.bind hs (Ev.const rfl)))
  | false =>
    refine evN (by decide) ?_
    rw [h.read]
    simp only [Option.bind_some]
    exact evY trivial (evY trivial (Ev.bind hs (Ev.const rfl)))
theorem rd_at (l : List OpT) (i : Nat) (h : i < l.length) : rd_T25 l (i : Int) = l[i] := by
  unfold rd_T25
  rw [Int.toNat_natCast, List.getD_eq_getElem?_getD, List.getElem?_eq_getElem h]
  rfl
theorem back_loop (l : List OpT) (gaps : List Bool) (last : Bool) (hl : l.length * 104 ≤ 140737488351232) (hfit : ∀ x ∈ l, fit25 x) : ∀ (d i : Nat) (t : ByteArray) (acc : List OpT), i + d = l.length → Bk t acc →
    Ev (fun k => tidelinelaw21_ScriptBack.l0 k l gaps last t acc (i : Int)) true := by
  intro d
  induction d with
  | zero =>
    intro i t acc hi h
    refine Ev.step (fun k => by rw [tidelinelaw21_ScriptBack.l0]) (evN (by omega) ?_)
    exact back_end h _
  | succ d ih =>
    intro i t acc hi h
    have hlt : i < l.length := by omega
    refine Ev.step (fun k => by rw [tidelinelaw21_ScriptBack.l0]) (evY (by omega) ?_)
    by_cases hf : acc.length < 4000
    · rw [decide_eq_true (show (acc.length : Int) < 4000 by omega)]
      refine Ev.step (fun k => by rw [tidelinelaw21_ScriptBack.j1]) (evY rfl (evY (by omega) (evY (by omega) ?_)))
      rw [rd_at l i hlt, wrap_succ (by omega)]
      have hfo := hfit _ (List.getElem_mem hlt)
      generalize l[i] = o at hfo
      obtain ⟨b, hb, hlong⟩ := long_f o
      rw [hb]
      simp only [Option.bind_some]
      cases b with
      | true => exact evY rfl (Ev.const rfl)
      | false =>
        have hB := bounds_of hfo (hlong rfl)
        refine evN (by decide) (Ev.bind (rprint_f o hB) ?_)
        by_cases hz : (printV o).2 = 0
        · refine evY hz ?_
          rw [print_ok hB]
          simp only [Option.bind_some]
          refine evY hz ?_
          obtain ⟨_, _, _, hp⟩ := printed hz
          have hline := printed_line hz
          generalize (printV o).1 = s at hp hline
          have hn : ∀ b ∈ s.data.toList, b ≠ 10 := fun b hb e => by
            have := (hline.2.1 b hb).1
            rw [e] at this
            exact absurd this (by decide)
          have hr := room2 t s h.sz3 (par_words hp).1
          obtain ⟨a1, a2, a3⟩ := h.add hp hn hf
          have hlen : acc.length < 1353245080339 := by omega
          have go := fun u hu => ih (i + 1) u (acc ++ [o]) (by omega) hu
          by_cases he : (acc.length : Int) > 0
          · refine evY he (evY hr.1 ?_)
            by_cases hg : (i : Int) < (gaps.length : Int)
            · refine evY hg ?_
              by_cases hq : rdOf false gaps (i : Int) = true
              · exact evY hq (evY hr.2.1 (evY hr.2.2.1 (evY hlen (go _ a1))))
              · exact evN hq (evY hr.2.2.2.1 (evY hlen (go _ a2)))
            · exact evN hg (evY hr.2.2.2.1 (evY hlen (go _ a2)))
          · have e0 : acc = [] := List.eq_nil_of_length_eq_zero (by omega)
            obtain ⟨a4, a5⟩ := a3 e0
            refine evN he ?_
            by_cases hg : (i : Int) < (gaps.length : Int)
            · refine evY hg ?_
              by_cases hq : rdOf false gaps (i : Int) = true
              · exact evY hq (evY hr.2.2.2.2.1 (evY hr.2.2.2.2.2.1 (evY hlen (go _ a4))))
              · exact evN hq (evY hr.2.2.2.2.2.2.1 (evY hlen (go _ a5)))
            · exact evN hg (evY hr.2.2.2.2.2.2.1 (evY hlen (go _ a5)))
        · refine evN hz ?_
          exact ih (i + 1) t acc (by omega) h
    · rw [decide_eq_false (show ¬ (acc.length : Int) < 4000 by omega)]
      exact back_end h _
theorem ScriptBack : tidelinelaw21_ScriptBack.Pure := by
  intro l gaps last hl hg
  refine Ev.rounds ?_
  refine Ev.congr (fun k => by rw [tidelinelaw21_ScriptBack.f]) ?_
  exact back_loop l gaps last hl.1 hl.2 l.length 0 _ _ (Nat.zero_add _) Bk.start
end Go.Proofs.YtodmbjbfigifnaaGreatDoor.Pure
namespace Go.Proofs.YtodmbjbfigifnaaGreatDoor
open Go.ChangeMaps (open_string shut_string)
open Go.ChangeShapes Go.WideShapes Go.ChangeAt Go.WideMaps Go.WideElems Go.RowKit Go.Proofs.YtodmbjbfigifnaaGreatDoor.Dig Go.Proofs.YtodmbjbfigifnaaGreatDoor.PAll Go.Proofs.YtodmbjbfigifnaaGreatDoorW.PrintWords Go.Proofs.YtodmbjbfigifnaaGreatDoor.Open
set_option linter.unusedVariables false
def laid7 : List (String × DataW Unit) := [("math/bits.deBruijn32tab", Rows.laid_math_bits_deBruijn32tab), ("math/bits.deBruijn64tab", Rows.laid_math_bits_deBruijn64tab), ("internal/strconv.uint64pow10", Rows.laid_internal_strconv_uint64pow10), ("unicode/utf8.acceptRanges", Rows.laid_unicode_utf8_acceptRanges), ("strconv.ErrRange", Rows.laid_strconv_ErrRange), ("strconv.ErrSyntax", Rows.laid_strconv_ErrSyntax), ("unicode/utf8.first", Rows.laid_unicode_utf8_first)]
theorem own : ownKnob Tryz.prog.godebug = none := by kernel_rfl
theorem laidOut : laidOutB Tryz.prog = true := by kernel_rfl
/-- A heap that the listed data lay meets the condition (one of them is pinned: no run lays it). -/
theorem all_met (os : Os) (args : Array Value) : laidMetH Tryz.prog laid7 ((World.laidAll Tryz.prog os laid7).forCall (fun _ _ => 0) ⟨#[], args, []⟩).memory := by
  rw [MakeChecks.laidMetH_plain _ _ _ (by kernel_rfl)]
  exact laidMet_laidAll _ (by kernel_rfl) (by kernel_rfl)
theorem tab_eq : (Rows.laid_internal_strconv_uint64pow10 : DataW Unit) = Lib.tabData .u64 Lib.pow10Tab := by kernel_rfl
theorem gPow : Tryz.prog.globalNamed "internal/strconv.uint64pow10" = some 3 := by kernel_rfl
theorem tPow : (Tryz.prog.globals[3]?).map (·.type) = some 125 := by kernel_rfl
theorem gRange : Tryz.prog.globalNamed "strconv.ErrRange" = some 5 := by kernel_rfl
theorem tRange : (Tryz.prog.globals[5]?).map (·.type) = some 69 := by kernel_rfl
theorem star : "*errors.errorString" = "*" ++ "errors.errorString" := by decide
theorem row141 (u : TypeId) (h : Tryz.prog.typeName? 3 u = some "*errors.errorString") : u = 141 :=
  typeName_ptr_named (nm := "errors.errorString") (by rw [← star]; kernel_rfl) (by kernel_rfl) (by decide) u (by rw [← star]; exact h)
theorem of_laid {W : World} (h : laidMetH Tryz.prog laid7 W) : TabsOK W := by
  rw [MakeChecks.laidMetH_plain _ _ _ (by kernel_rfl)] at h
  have h3 : laidMet Tryz.prog [("internal/strconv.uint64pow10", Rows.laid_internal_strconv_uint64pow10), ("unicode/utf8.acceptRanges", Rows.laid_unicode_utf8_acceptRanges), ("strconv.ErrRange", Rows.laid_strconv_ErrRange), ("strconv.ErrSyntax", Rows.laid_strconv_ErrSyntax), ("unicode/utf8.first", Rows.laid_unicode_utf8_first)] W := h.tail.tail
  have htab : Lib.TabIs Tryz.prog W "internal/strconv.uint64pow10" .u64 Lib.pow10Tab := by
    rw [tab_eq] at h3
    exact Lib.tabIs_of_head gPow tPow Tryz.underlying125 Tryz.underlying105 (by kernel_rfl) (by kernel_rfl) h3
  obtain ⟨a, t, hv, _⟩ := laid_sentinel h3.tail.tail gRange tRange Tryz.underlying69 row141 Tryz.underlying141 Tryz.underlying143 rfl rfl Tryz.underlying9 (by kernel_rfl) (by kernel_rfl)
  refine ⟨htab, _, (World.var?_cell gRange hv 0).trans rfl, .inr ⟨_, _, rfl⟩⟩
/-- The kit's 'returnsInHanded_of_change_and', the world's shape told too. -/
theorem change_and_shaped {H : Type} {enc : TypeId × Value → H} {a : Assume} {C : Checked} {os : Os} {f : FuncId} {fn : Func} {s : ChangeSpec} {conds : List PathCond} {apart fresh handsOn again : Bool} {X : World → Array Value → Prop}
    (hX : ∀ (w w' : World) (args : Array Value), w.heap = w'.heap → X w args → X w' args)
    (own : ownKnob C.prog.godebug = none) (started : os.Started) (noInit : C.prog.inits.idxOf? f = none) (hfn : C.prog.funcs[f]? = some fn)
    (witness : ∃ (w : World) (tape : Tape) (i : Input), w.os = os ∧ (w.forCall tape i).Shaped C.prog ∧ i.vars = [] ∧ Input.okWide C.prog (w.forCall tape i) .any w.heap.size f i ∧
      ((s.pre enc C.prog fn conds apart (w.forCall tape i).memory i.args ∧ X (w.forCall tape i).memory i.args) ∧ sizedMet enc C.prog fn (OpenSpec.ofChange s) apart (w.forCall tape i).memory i.args) ∧ a.holds C.prog (lone (Frame.enter C.prog f i.args .normal) [] (w.forCall tape i)))
    (contract : ∀ (W : World) (base : Nat) (args : Array Value) (ds gs : List (DataW H)) (before : List MemPlace), W.ShapedOpen C.prog →
      (∀ (j : Nat) t v, fn.params[j]? = some t → args[j]? = some v → Value.okWide C.prog W .any base t v) →
      DataW.Whole enc C.prog fn.params.toList s.vars apart W args.toList ds gs before →
      conds.all (PathCond.test C.prog ⟨fn.params.toList, ds, s.plain.varTypes C.prog, gs⟩) = true →
      (DataW.weightsEach C.prog (fn.params.toList ++ s.plain.varTypes C.prog) (ds ++ gs)).all (· ≤ reachBytes) = true → X W args →
      a.holds C.prog (lone (Frame.enter C.prog f args .normal) [] W) →
      Calls C.prog f args W fun e W' => ∃ v, e = .returned v ∧ s.post enc C.prog fn apart fresh handsOn again W args v W') :
    ReturnsInHanded a C os f .any (fun w args => (s.pre enc C.prog fn conds apart w args ∧ X w args) ∧ sizedMet enc C.prog fn (OpenSpec.ofChange s) apart w args) (s.post enc C.prog fn apart fresh handsOn again) := by
  refine returnsInHanded_of_calls own started noInit witness ?_
  intro w tape i _ hsh _ hok hpre hholds
  obtain ⟨_, _, _, fn', hfn', _, _, _, _, hval⟩ := hok
  have e : fn' = fn := Option.some.inj (hfn'.symm.trans hfn)
  subst e
  obtain ⟨⟨⟨ds, gs, before, hw, hc⟩, hx⟩, hz⟩ := hpre
  have hw' := DataW.Whole.of_heap (w' := w.forCall tape i) (by rfl) hw
  refine (contract (w.forCall tape i) w.heap.size i.args ds gs before hsh hval hw' hc (hz.weights hw) (hX _ _ _ (by rfl) hx) hholds).mono fun e W' ⟨v, he, hp⟩ => ?_
  subst he
  exact ChangeSpec.post_blind hp
set_option maxRecDepth 100000 in
theorem lifted (os : Os) (started : os.Started) (H : Type) (enc : TypeId × Value → H) :
    ReturnsInHanded {} Tryz.checked os 5 .any (fun w args => (Rows.scriptBackSpec.pre enc Tryz.prog Tryz.f5 [] false w args ∧ laidMetH Tryz.prog laid7 w) ∧ sizedMet enc Tryz.prog Tryz.f5 (OpenSpec.ofChange Rows.scriptBackSpec) false w args)
      (Rows.scriptBackSpec.post enc Tryz.prog Tryz.f5 false true false false) := by
  refine change_and_shaped (C := Tryz.checked) (X := fun w _ => laidMetH Tryz.prog laid7 w) (fun _ _ _ hh h => h.of_heap hh) own started (by kernel_rfl) Tryz.func5
    (ChangeSpec.witness_shaped (enc := enc) (C := Tryz.checked) (os := os) (X := fun w _ => laidMetH Tryz.prog laid7 w) false (World.laidAll Tryz.prog os laid7) #[.slice none 0 0, .slice none 0 0, .bool false] 8 (World.laidAll_os _ _ _) (World.shaped_of_ZipB (by kernel_rfl) (by kernel_rfl)) (by kernel_rfl) (by kernel_rfl) (by kernel_rfl) (all_met os _)) ?_
  intro W base args ds gs before hshape hval0 hW _ hsz0 hL _
  have hG : Go.Proofs.YtodmbjbfigifnaaGreatDoor.Glob.GlobOK W := ⟨of_laid hL, Tryz.laysM219.s1_3 W hshape⟩
  have hsz : (DataW.weightsEach Tryz.prog (Tryz.f5.params.toList ++ Rows.scriptBackSpec.plain.varTypes Tryz.prog) (ds ++ gs)).all (· ≤ reachBytes) = true := hsz0
  have hval : ∀ (j : Nat) t v, Tryz.f5.params[j]? = some t → args[j]? = some v → Value.okWide Tryz.prog W .any base t v := hval0
  have hW' := hW
  obtain ⟨p, q, hA0, hV, rfl, hfz, hnd⟩ := hW
  have hA : DataW.TrodAll enc Tryz.prog W 0 (fun _ => true) true Tryz.f5.params.toList args.toList ds p := hA0
  rw [Tryz.params5] at hA hval hsz
  obtain ⟨v0, vs0, d0, ds0, p0, q0, hargs, rfl, rfl, h0, r0⟩ := trodAll_cons hA
  obtain ⟨v1, vs1, d1, ds1, p1, q1, rfl, rfl, rfl, h1, r1⟩ := trodAll_cons r0
  obtain ⟨v2, vs2, d2, ds2, p2, q2, rfl, rfl, rfl, h2, r2⟩ := trodAll_cons r1
  obtain ⟨rfl, rfl, rfl⟩ := trodAll_nil r2
  obtain rfl : args = #[v0, v1, v2] := by cases args; simp_all
  obtain ⟨rfl, rfl⟩ := trodVars_none hV
  have k0 := h0
  have lt0 : ∀ x ∈ p0, x.block < W.heap.size := by obtain ⟨m, hm⟩ := k0; exact DataW.trod_lt m _ _ _ hm
  have wt0 : ∀ n ∈ d0.weights Tryz.prog 33, n ≤ 140737488351232 := fun n hn => by have z := List.all_eq_true.1 hsz n (DataW.weights_mem_each (j := 0) (t := 33) rfl rfl n hn); exact of_decide_eq_true z
  obtain ⟨A0, len0, cap0, rfl⟩ := okWide_slice Tryz.underlying33 (hval 0 33 v0 rfl rfl)
  obtain ⟨fuel0, hf0⟩ := h0
  obtain ⟨l0, ⟨B0, c0, e0, hc0, hr0⟩, w0⟩ := opens_slice (B := 104) Tryz.underlying33 (by kernel_rfl) (by kernel_rfl) opens25 H enc W 0 _ true fuel0 _ _ hf0 wt0
  simp only [Value.cells, List.cons.injEq, Value.slice.injEq, and_true] at e0
  obtain ⟨rfl, rfl, rfl⟩ := e0
  have k1 := h1
  have lt1 : ∀ x ∈ p1, x.block < W.heap.size := by obtain ⟨m, hm⟩ := k1; exact DataW.trod_lt m _ _ _ hm
  have wt1 : ∀ n ∈ d1.weights Tryz.prog 34, n ≤ 140737488351232 := fun n hn => by have z := List.all_eq_true.1 hsz n (DataW.weights_mem_each (j := 1) (t := 34) rfl rfl n hn); exact of_decide_eq_true z
  obtain ⟨A1, len1, cap1, rfl⟩ := okWide_slice Tryz.underlying34 (hval 1 34 v1 rfl rfl)
  obtain ⟨fuel1, hf1⟩ := h1
  obtain ⟨l1, ⟨B1, c1, e1, hc1, hr1⟩, w1⟩ := opens_slice (B := 1) Tryz.underlying34 (by kernel_rfl) (by kernel_rfl) (opens_bool Tryz.underlying4) H enc W 0 _ true fuel1 _ _ hf1 wt1
  simp only [Value.cells, List.cons.injEq, Value.slice.injEq, and_true] at e1
  obtain ⟨rfl, rfl, rfl⟩ := e1
  obtain ⟨a2, rfl, rfl, rfl⟩ := open_bool Tryz.underlying4 (hval 2 4 v2 rfl rfl) h2
  obtain ⟨k, hk⟩ := Pure.ScriptBack l0 l1 a2 w0 w1
  refine (PAll.tidelinelaw21_ScriptBack.calls k _ _ l0 _ _ l1 a2 true W hr0 hc0 hr1 hc1 hG hk).mono fun e W' ⟨he, bel0⟩ => ?_
  have bel : Below W.heap.size W W' := bel0
  subst he
  exact ⟨_, rfl, _, _, _, [], _, [], hW', trodAll_mk1 (shut_bool Tryz.underlying4 _), (trodAll_cons_mk (Below.trod laidOut (by kernel_rfl) (of_decide_eq_true (by kernel_rfl)) k0 bel lt0) (trodAll_cons_mk (Below.trod laidOut (by kernel_rfl) (of_decide_eq_true (by kernel_rfl)) k1 bel lt1) (trodAll_cons_mk (shut_bool Tryz.underlying4 _) trodAll_mk0))), rfl, bel.frame _, fun h => by cases h⟩
theorem scriptBack_row : Rows.ScriptBackSaid :=
  OpenClaim.holds_of_wide 5 Tryz.f5 rfl rfl rfl rfl rfl rfl rfl ⟨rfl, rfl, rfl, rfl, rfl⟩ rfl rfl rfl rfl rfl (by kernel_rfl) Tryz.func5 (by kernel_rfl)
    (of_decide_eq_true (by kernel_rfl)) (by unfold Func.isWrapper; first | (rw [if_pos (by decide +kernel)]; kernel_rfl) | (rw [if_neg (by decide +kernel)]; exact ⟨rfl, rfl⟩))
    (fun os started H enc _ => lifted os started H enc)
theorem scriptBack_holds : Rows.ScriptBackCardSaid :=
  Claim7.holds_tied_plain_at .later [] [.data, .data, .data, .data, .sentinel, .sentinel, .pinned] true (true, "fd6546008b358ad57052109803ef8042f1dbf6dc2ff188d25ca5531dbf51789d") true
    scriptBack_row (fun _ h => by cases h) (by kernel_rfl) (fun _ h => by cases h) scriptBack_row_tie rfl ⟨rfl, rfl⟩ (by kernel_rfl) rfl
    (fun f fn hf hfn => by
      obtain rfl : f = 5 := Option.some.inj ((show Tryz.prog.funcNamed "tideline/tidelinelaw21.ScriptBack" = some 5 by kernel_rfl).symm.trans hf) |>.symm
      obtain rfl : fn = Tryz.f5 := (Option.some.inj (Tryz.func5.symm.trans hfn)).symm
      exact ⟨by kernel_rfl, fun j t ht => by
        rw [Tryz.params5] at ht
        have hm : t ∈ [33, 34, 4] := by simpa using Array.mem_of_getElem? ht
        have hall : ([33, 34, 4].all fun u => !Tryz.prog.wantsStandIn u) = true := by kernel_rfl
        exact (show Tryz.prog.wantsStandIn t = false by simpa using List.all_eq_true.1 hall t hm)⟩)
    (by kernel_rfl)
#print axioms scriptBack_holds
end Go.Proofs.YtodmbjbfigifnaaGreatDoor
