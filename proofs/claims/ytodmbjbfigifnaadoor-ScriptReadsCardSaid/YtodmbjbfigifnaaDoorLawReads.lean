import Derived.Test.YtodmbjbfigifnaaDoorProg
import Derived.Test.YtodmbjbfigifnaaDoorWWords
import Derived.Test.YtodmbjbfigifnaaDoorWLast
import Derived.Test.YtodmbjbfigifnaaDoorWMore
import Derived.Test.YtodmbjbfigifnaaDoorPAllx0
import Derived.Test.YtodmbjbfigifnaaDoorMgB
import Derived.Below
import Derived.RangeFuncBox
import Derived.BigQuiet
import Derived.Lib.Hide
import Derived.Tactics
import Derived.WalkKit
import Derived.OwnWalk
import Derived.WalkSmall
import Derived.WalkLawsBesides
import Derived.Laws.Slices
import Derived.Test.YtodmbjbfigifnaaDoorMgD
import Derived.Test.YtodmbjbfigifnaaDoorPAllx5
import Derived.Deep.QuietTactic
import Derived.Test.YtodmbjbfigifnaaDoorRows
import Derived.Test.YtodmbjbfigifnaaDoorCards
import Derived.Test.YtodmbjbfigifnaaDoorTie
import Derived.ProofKit
import Derived.OpenShut
import Derived.ShutString
import Derived.ChangeOld
import Derived.SizedLaws
import Derived.Carry
import Derived.LaidMore
import Derived.Lay
import Derived.Lib.LaidTab
import Derived.Stop.LaidErr
import Derived.Stop.Joined
import Derived.SevenTiedAt
section
-- By wip/late.py (a program of this session) out of wip/words.
set_option linter.unusedVariables false
set_option linter.unusedSimpArgs false
namespace Go.Proofs.YtodmbjbfigifnaaDoor.Sc
open Go.RowKit Go.Proofs.YtodmbjbfigifnaaDoor.Glob Go.Proofs.YtodmbjbfigifnaaDoorW.PrintWords Go.Proofs.YtodmbjbfigifnaaDoor.AppSrc Go.Proofs.YtodmbjbfigifnaaDoor.PAll Go.Proofs.YtodmbjbfigifnaaDoor.Pure
/-! Rows of commands; a text, line by line: script.Read. -/
def rvO (l : List OpT) : List Value := l.flatMap opC
theorem rvO_len (l : List OpT) : (rvO l).length = l.length * 9 := by
  induction l with
  | nil => rfl
  | cons x l ih =>
    have : rvO (x :: l) = opC x ++ rvO l := rfl
    rw [this, List.length_append, ih, List.length_cons]
    simp only [opC, List.length_cons, List.length_nil]
    omega
theorem rvO_get : ∀ (l : List OpT) (j : Nat) (p : OpT), l[j]? = some p → ∀ (i : Nat) (u : Value), (opC p)[i]? = some u → (rvO l)[j * 9 + i]? = some u
  | x :: l, 0, p, h, i, u, hu => by
    obtain rfl : x = p := by simpa using h
    have hi := (List.getElem?_eq_some_iff.1 hu).1
    show (opC x ++ rvO l)[0 * 9 + i]? = some u
    rw [Nat.zero_mul, Nat.zero_add, List.getElem?_append_left hi]; exact hu
  | x :: l, j + 1, p, h, i, u, hu => by
    have h' : l[j]? = some p := by simpa using h
    have := rvO_get l j p h' i u hu
    show (opC x ++ rvO l)[(j + 1) * 9 + i]? = some u
    have e : (opC x).length = 9 := rfl
    rw [List.getElem?_append_right (by omega), e, show (j + 1) * 9 + i - 9 = j * 9 + i by omega]; exact this
theorem own_C {W : World} {base : Nat} {v : Value} {l : List OpT} (h : W.ownsRow base 31 9 v l.length (rvO l)) (hm : l.length ≤ 9223372036854775807) : ∃ A c, v = .slice A l.length c ∧ l.length ≤ c ∧ Kd.C k31 W A l.length l := by
  obtain ⟨hl, h⟩ := h
  rcases h with ⟨rfl, h0⟩ | ⟨g, cap, cur, rfl, _, hg, hc, _, _, ht⟩
  · refine ⟨none, 0, by rw [h0], by omega, rfl, hm, fun h => ?_⟩
    omega
  · refine ⟨some ⟨g, 0, none⟩, cap, rfl, hc, rfl, hm, fun _ => ⟨_, rfl, fun j p hj => ?_⟩⟩
    refine ⟨opC p, rfl, k31_mk W p, fun i u hu => ?_⟩
    rw [show k31.sz = 9 from rfl, add_plain, blk_cell hg _]
    have h1 := rvO_get l j p hj i u hu
    rw [← ht] at h1
    have hlt := (List.getElem?_eq_some_iff.1 h1).1
    rw [List.length_take] at hlt
    rw [List.getElem?_take_of_lt (by omega)] at h1
    rw [← Array.getElem?_toList]
    exact h1
theorem infoO : ∃ i z, Tryd.prog.info? 31 = some i ∧ i.zero = some z ∧ i.size = 9 ∧ i.bytes = 104 ∧ z.cells.size = 9 := by
  have h : (Tryd.prog.info? 31).map (fun i => (i.zero, i.size, i.bytes)) = some (some (.agg #[.int .i64 0, .int .i64 0, .int .i64 0, .int .i64 0, .string ⟨#[]⟩, .string ⟨#[]⟩, .string ⟨#[]⟩, .string ⟨#[]⟩, .bool false]), 9, 104) := by kernel_rfl
  obtain ⟨i0, hi, hz⟩ := Option.map_eq_some_iff.1 h
  simp only [Prod.mk.injEq] at hz
  exact ⟨i0, _, hi, hz.1, hz.2.1, hz.2.2, rfl⟩
theorem srcOp (w : World) (o : OpT) : Src Tryd.prog 9 22 (.slice (some ⟨w.heap.size, 0, none⟩) 1 1) 1 (opC o) (w.alloc (.cells (opC o).toArray 31)) := by
  refine Src.ofSlice _ Tryd.underlying22 ⟨w.heap.size, 0, none⟩ 1 1 _ rfl (fun j u hj => ?_) (by intro u hu; simp only [opC, List.mem_cons, List.not_mem_nil, or_false] at hu; rcases hu with rfl | rfl | rfl | rfl | rfl | rfl | rfl | rfl | rfl <;> rfl)
  rw [add_plain, blk_cell (heap_alloc_new _ _) _]
  simpa using hj
theorem oneO_run {w : World} {base : Nat} {v : Value} {l : List OpT} (o : OpT) (h : w.ownsRow base 31 9 v l.length (rvO l)) (hbase : base ≤ w.heap.size) (hl : l.length ≤ 4000) :
    ∃ v' w1, (Builtin.append_ #[22, 22] 22 #[v, .slice (some ⟨w.heap.size, 0, none⟩) 1 1]).run Tryd.prog (w.alloc (.cells (opC o).toArray 31)) = .ok v' w1 ∧ w1.ownsRow base 31 9 v' (l ++ [o]).length (rvO (l ++ [o])) ∧ Below base w w1 := by
  obtain ⟨i0, z, hi, hz0, hz1, hz2, hz3⟩ := infoO
  have hb0 : Below w.heap.size w (w.alloc (.cells (opC o).toArray 31)) := below_alloc (Below.refl _ _) _
  obtain ⟨v', w1, hr, h1, h2, h3⟩ := run_append_own_src (P := Tryd.prog) (w.alloc (.cells (opC o).toArray 31)) base 22 22 22 31 i0 z 9 104 Tryd.underlying22 hi hz0 hz1 hz2 hz3 (by decide) v l.length (rvO l) (pw_own_below h hb0) _ 1 _ (srcOp w o) (by simp only [maxLen]; omega) (by omega) (Nat.le_trans hbase hb0.size)
  have e : rvO l ++ opC o = rvO (l ++ [o]) := by simp [rvO]
  rw [e] at h1
  have hne : ∀ k, k < base → some k ≠ v.ownBlock := by
    intro k hk e'
    rcases h.2 with ⟨e2, _⟩ | ⟨g, cap, cur, e2, hg, _⟩
    · rw [e2] at e'; simp [Value.ownBlock] at e'
    · rw [e2] at e'
      have : g = k := by simpa [Value.ownBlock] using e'.symm
      omega
  have hb : Below base w w1 := (hb0.mono hbase).trans ⟨h2.os, h2.tape, h2.output, h2.size, fun k hk => h2.block k (by have := hb0.size; omega) (hne k hk)⟩
  exact ⟨v', w1, hr, by simpa using h1, hb⟩
/-- What a text's lines say. -/
def readL : List ByteArray → Nat → List OpT → List OpT × Int × Int
  | [], _, acc => (acc, 0, 0)
  | t :: ts, i, acc => if t.toList = [] then readL ts (i + 1) acc else match parW t with
    | none => ([], (i : Int) + 1, 210)
    | some o => if acc.length = 4000 then ([], (i : Int) + 1, 210) else readL ts (i + 1) (acc ++ [o])
theorem readL_step {ts : List ByteArray} {k : Nat} {acc : List OpT} (h : k < ts.length) : readL (ts.drop k) k acc = if ts[k].toList = [] then readL (ts.drop (k + 1)) (k + 1) acc else match parW ts[k] with
    | none => ([], (k : Int) + 1, 210)
    | some o => if acc.length = 4000 then ([], (k : Int) + 1, 210) else readL (ts.drop (k + 1)) (k + 1) (acc ++ [o]) := by
  rw [List.drop_eq_getElem_cons h]; rfl
theorem readL_end {ts : List ByteArray} {k : Nat} {acc : List OpT} (h : ¬ k < ts.length) : readL (ts.drop k) k acc = (acc, 0, 0) := by
  rw [List.drop_of_length_le (by omega)]; rfl
/-- How far a reading of lines has come. -/
structure Rl (w2 W : World) (v : Value) (ws : List ByteArray) (k : Nat) (acc : List OpT) (fin : List OpT × Int × Int) : Prop where
  row : W.ownsRow w2.heap.size 31 9 v acc.length (rvO acc)
  be : Below w2.heap.size w2 W
  few : acc.length ≤ 4000
  rest : readL (ws.drop k) k acc = fin
theorem own_slice {W : World} {base : Nat} {v : Value} {l : List OpT} (h : W.ownsRow base 31 9 v l.length (rvO l)) : ∃ A c, v = .slice A l.length c := by
  rcases h.2 with ⟨rfl, h0⟩ | ⟨g, cap, cur, rfl, _⟩
  · exact ⟨_, _, by rw [h0]⟩
  · exact ⟨_, _, rfl⟩
theorem own_less {W : World} {base g : Nat} {v : Value} {n : Nat} {l : List Value} (h : W.ownsRow base 31 9 v n l) (hb : g ≤ base) : W.ownsRow g 31 9 v n l := by
  obtain ⟨hl, h⟩ := h
  refine ⟨hl, ?_⟩
  rcases h with h | ⟨b, cap, cur, hv, hg, hr⟩
  · exact .inl h
  · exact .inr ⟨b, cap, cur, hv, Nat.le_trans hb hg, hr⟩
theorem Rl.then {w2 W W' : World} {v : Value} {ws : List ByteArray} {k : Nat} {acc : List OpT} {fin : List OpT × Int × Int} (h : Rl w2 W v ws k acc fin) (hb : Below W.heap.size W W') : Rl w2 W' v ws k acc fin := ⟨pw_own_below h.row hb, below_step h.be hb, h.few, h.rest⟩
abbrev opX (o : OpT) : Value := .agg #[.int .i64 o.f0, .int .i64 o.f1, .int .i64 o.f2, .int .i64 o.f3, .string o.f4, .string o.f5, .string o.f6.f0, .string o.f6.f1, .bool o.f6.f2]
theorem nil_own (W : World) (base : Nat) : W.ownsRow base 31 9 (.slice none 0 0) ([] : List OpT).length (rvO []) := World.ownsRow_nil _ _ _ _
theorem ansW_some {s : ByteArray} {o : OpT} (h : parW s = some o) : ansW s = (o, 0) := by unfold ansW; rw [h]
theorem ansW_none {s : ByteArray} (h : parW s = none) : ansW s = (zOp, 210) := by unfold ansW; rw [h]
set_option maxRecDepth 100000 in
set_option maxHeartbeats 2500000 in
theorem read_calls (s : ByteArray) (hs : s.size ≤ 1073741824) (w : World) (hG : GlobOK w) : Calls Tryd.prog 5 #[.string s] w fun e w' => ∃ v, e = .returned (.tuple #[v, .int .i64 (readL (piecesB s 10) 0 []).2.1, .int .i64 (readL (piecesB s 10) 0 []).2.2]) ∧ w'.ownsRow w.heap.size 31 9 v (readL (piecesB s 10) 0 []).1.length (rvO (readL (piecesB s 10) 0 []).1) ∧ Below w.heap.size w w' := by
  have hsp := split_calls s 10 (by omega) w hG
  have hlen : (piecesB s 10).length ≤ s.size + 1 := by
    unfold piecesB
    rw [List.length_map]
    have := pieces_len 10 s.data.toList
    have hl : s.data.toList.length = s.size := Array.length_toList
    omega
  generalize piecesB s 10 = ws at *
  have HG := Aside0.mk hG
  have HLEN := Aside0.mk hlen
  have HSZ := Aside0.mk hs
  clear hG hlen hs
  go_enter Tryd.func5, Tryd.ntmps5
  go_wp2_with (go_at_call 11; refine hsp.mono ?_; rintro e w2 ⟨rfl, hw2⟩; have HW2 := Aside0.mk hw2; clear hw2)
  go_loopw [5, 13] (fun l i wr => ∃ k : Nat, i = .int .i64 (k : Int) ∧ k ≤ ws.length ∧ ∃ acc, Rl w2 wr l ws k acc (readL ws 0 [])) (fun _ i _ => ws.length - (intOf i).toNat)
  case atStart => exact ⟨0, rfl, Nat.zero_le _, [], World.ownsRow_nil _ _ _ _, Below.refl _ _, Nat.zero_le _, rfl⟩
  case round =>
    obtain ⟨k, rfl, hk, acc, hR⟩ := hrel
    obtain ⟨A, cc, rfl⟩ := own_slice hR.row
    have f1 : (0 : Int) ≤ (k : Int) := by omega
    have e1 : IntKind.i64.wrap ((k : Int) + 1) = (k : Int) + 1 := IntWalk.i64_in _ (by have := HLEN.out; have := HSZ.out; omega)
    have HB0 : Aside0 (Below w.heap.size w w2) := ⟨by rw [HW2.out]; exact below_alloc (Below.refl _ _) _⟩
    by_cases hlt : (k : Int) < (ws.length : Int)
    · have hk1 : k < ws.length := by omega
      have hrest := hR.rest
      rw [readL_step hk1] at hrest
      have hrow : w2.heap[w.heap.size]? = some (.cells (ws.map Value.string).toArray 9 (0, 0)) := by rw [HW2.out]; exact heap_alloc_new _ _
      have hcell : wr.cell? ⟨w.heap.size, k, none⟩ = some (.string ws[k]) := by
        rw [blk_cell (blk_below hrow hR.be) k, List.getElem?_toArray, List.getElem?_map, List.getElem?_eq_getElem hk1]; rfl
      generalize ws[k] = x at hrest hcell
      have HR := Aside0.mk hR
      have HRS := Aside0.mk hrest
      have hGx : GlobOK wr := HG.out.below (below_step HB0.out hR.be)
      have hpc := parse_calls x wr hGx
      clear hR hrest hrow hk1 hGx
      by_cases ht : x.toList = []
      · have hq : (x.toList == []) = true := by rw [ht]; rfl
        have HR2 : Aside0 (Rl w2 wr (.slice A acc.length cc) ws (k + 1) acc (readL ws 0 [])) := ⟨⟨HR.out.row, HR.out.be, HR.out.few, by have h := HRS.out; rw [if_pos ht] at h; exact h⟩⟩
        clear hpc
        go_wp2
        exact ⟨⟨k + 1, by first | rfl | simp | omega, by omega, acc, HR2.out⟩, by simp [intOf]; omega⟩
      · have hq : (x.toList == []) = false := by rw [beq_eq_false_iff_ne]; exact ht
        have hrest := HRS.out
        rw [if_neg ht] at hrest
        cases hp : parW x with
        | none =>
          rw [ansW_none hp] at hpc
          rw [hp] at hrest
          have hrest' : (([], (k : Int) + 1, 210) : List OpT × Int × Int) = readL ws 0 [] := hrest
          have hpc' : Calls Tryd.prog 8 #[.string x] wr fun e w' => e = .returned (.tuple #[opX zOp, .int .i64 210]) ∧ Below wr.heap.size wr w' := hpc
          have HFIN := Aside0.mk hrest'
          clear hpc hrest hrest' hp
          go_wp2_with (go_at_call 8; refine hpc'.mono ?_; rintro e w6 ⟨rfl, hb⟩; have HB6 := Aside0.mk (below_step (below_step HB0.out HR.out.be) hb); clear hb)
          go_ret3
          rw [← HFIN.out]
          exact ⟨_, rfl, nil_own _ _, below_alloc HB6.out _⟩
        | some o =>
          rw [ansW_some hp] at hpc
          rw [hp] at hrest
          have hpc' : Calls Tryd.prog 8 #[.string x] wr fun e w' => e = .returned (.tuple #[opX o, .int .i64 0]) ∧ Below wr.heap.size wr w' := hpc
          by_cases hf : acc.length = 4000
          · have hq2 : ((acc.length : Int) == 4000) = true := by rw [hf]; rfl
            have hrest' : (([], (k : Int) + 1, 210) : List OpT × Int × Int) = readL ws 0 [] := by simpa [hf] using hrest
            have HFIN := Aside0.mk hrest'
            have HF := Aside0.mk hf
            clear hpc hrest hrest' hp hf
            go_wp2_with (go_at_call 8; refine hpc'.mono ?_; rintro e w6 ⟨rfl, hb⟩; have HB6 := Aside0.mk (below_step (below_step HB0.out HR.out.be) hb); clear hb)
            go_ret3
            rw [← HFIN.out]
            exact ⟨_, rfl, nil_own _ _, below_alloc HB6.out _⟩
          · have hq2 : ((acc.length : Int) == 4000) = false := by rw [beq_eq_false_iff_ne]; omega
            have hrest' : readL (ws.drop (k + 1)) (k + 1) (acc ++ [o]) = readL ws 0 [] := by simpa [hf] using hrest
            have HFIN := Aside0.mk hrest'
            have HF := Aside0.mk hf
            clear hpc hrest hrest' hp hf
            go_wp2_with (first | (at_builtin; refine wpList_append_run rfl rfl rfl rfl HRUN.out ?_) | (go_at_call 8; refine hpc'.mono ?_; rintro e w6 ⟨rfl, hb⟩; (have HR6 := Aside0.mk (HR.out.then (below_alloc hb (.cells (opC o).toArray 31))); have hr0 := oneO_run o HR6.out.row HR6.out.be.size (by have := HR6.out.few; omega); rcases hr0 with ⟨v', w7, hr, hO7, hB7⟩; rw [World.size_alloc] at hr; simp only [opC] at hr; have HRUN := Aside0.mk hr; have HO7 := Aside0.mk hO7; have HB7 := Aside0.mk hB7; clear hb hr hO7 hB7)))
            exact ⟨⟨k + 1, by first | rfl | simp | omega, by omega, acc ++ [o], HO7.out, HR6.out.be.trans HB7.out, by have := HF.out; have := HR6.out.few; rw [List.length_append, List.length_singleton]; omega, HFIN.out⟩, by simp [intOf]; omega⟩
    · have hrest := hR.rest
      rw [readL_end (by omega)] at hrest
      have HFIN := Aside0.mk hrest
      have HR := Aside0.mk hR
      clear hR hrest
      go_wp2
      go_ret3
      rw [← HFIN.out]
      exact ⟨_, rfl, own_less HR.out.row HB0.out.size, below_step HB0.out HR.out.be⟩
end Go.Proofs.YtodmbjbfigifnaaDoor.Sc
end

section
-- By wip/late.py (a program of this session) out of wip/words.
set_option linter.unusedVariables false
set_option linter.unusedSimpArgs false
namespace Go.Proofs.YtodmbjbfigifnaaDoor.Sc
open Go.RowKit Go.Proofs.YtodmbjbfigifnaaDoor.Glob Go.Proofs.YtodmbjbfigifnaaDoorW.PrintWords Go.Proofs.YtodmbjbfigifnaaDoor.AppSrc Go.Proofs.YtodmbjbfigifnaaDoor.PAll Go.Proofs.YtodmbjbfigifnaaDoor.Pure
/-! A text, line by line: the document's Read. -/
theorem own_words2 {W : World} {base n : Nat} {v : Value} {ws : List ByteArray} (hne : ws ≠ []) (h : W.ownsRow base 9 1 v n (sv ws)) : ∃ g cap, v = .slice (some ⟨g, 0, Option.none⟩) ws.length cap ∧ ws.length ≤ cap ∧ (∃ cur, W.heap[g]? = some (.cells cur 9 (0, 0))) ∧ ∀ (j : Nat) (x : ByteArray), ws[j]? = some x → W.cell? ⟨g, j, Option.none⟩ = some (.string x) := by
  cases ws with
  | nil => exact absurd rfl hne
  | cons t ts => exact own_words h
theorem own_rowO (w : World) : (w.alloc (.cells #[] 31)).ownsRow w.heap.size 31 9 (.slice (some ⟨w.heap.size, 0, none⟩) 0 0) ([] : List OpT).length (rvO []) :=
  ⟨rfl, .inr ⟨w.heap.size, 0, _, rfl, Nat.le_refl _, heap_alloc_new _ _, Nat.le_refl _, Nat.zero_le _, rfl, rfl⟩⟩
set_option maxRecDepth 100000 in
set_option maxHeartbeats 2500000 in
theorem rread_calls (s : ByteArray) (hs : s.size ≤ 1073741824) (w : World) : Calls Tryd.prog 6 #[.string s] w fun e w' => ∃ v, e = .returned (.tuple #[v, .int .i64 (readL (piecesB s 10) 0 []).2.1, .int .i64 (readL (piecesB s 10) 0 []).2.2]) ∧ w'.ownsRow w.heap.size 31 9 v (readL (piecesB s 10) 0 []).1.length (rvO (readL (piecesB s 10) 0 []).1) ∧ Below w.heap.size w w' := by
  have hsp := rsplit_calls s 10 (by omega) w
  have hne : piecesB s 10 ≠ [] := by
    intro h
    have := congrArg List.length h
    unfold piecesB at this
    rw [List.length_map] at this
    exact piecesL_ne _ _ (List.eq_nil_of_length_eq_zero this)
  have hlen : (piecesB s 10).length ≤ s.size + 1 := by
    unfold piecesB
    rw [List.length_map]
    have := pieces_len 10 s.data.toList
    have hl : s.data.toList.length = s.size := Array.length_toList
    omega
  generalize piecesB s 10 = ws at *
  have HNE := Aside0.mk hne
  have HLEN := Aside0.mk hlen
  have HSZ := Aside0.mk hs
  clear hne hlen hs
  go_enter Tryd.func6, Tryd.ntmps6
  go_wp2_with (go_at_call 12; refine hsp.mono ?_; rintro e w2 ⟨v, rfl, hO, hb⟩; obtain ⟨g, cap, rfl, hcap, hrow, hcells⟩ := own_words2 HNE.out hO; have HROW := Aside0.mk hcells; have HB0 := Aside0.mk hb; have HCAP := Aside0.mk hcap; clear hb hrow hcells hcap hO)
  go_loopw [6, 7] (fun l i wr => ∃ k : Nat, i = .int .i64 (k : Int) ∧ k ≤ ws.length ∧ ∃ acc, Rl w2 wr l ws k acc (readL ws 0 [])) (fun _ i _ => ws.length - (intOf i).toNat)
  case atStart => exact ⟨0, rfl, Nat.zero_le _, [], own_rowO w2, below_alloc (Below.refl _ _) _, Nat.zero_le _, rfl⟩
  case round =>
    obtain ⟨k, rfl, hk, acc, hR⟩ := hrel
    obtain ⟨A, cc, rfl⟩ := own_slice hR.row
    have f1 : (0 : Int) ≤ (k : Int) := by omega
    have e1 : IntKind.i64.wrap ((k : Int) + 1) = (k : Int) + 1 := IntWalk.i64_in _ (by have := HLEN.out; have := HSZ.out; omega)
    by_cases hlt : (k : Int) < (ws.length : Int)
    · have hk1 : k < ws.length := by omega
      have hrest := hR.rest
      rw [readL_step hk1] at hrest
      have hcell0 := HROW.out k ws[k] (List.getElem?_eq_getElem hk1)
      have hcell : wr.cell? ⟨g, k, none⟩ = some (.string ws[k]) := (hR.be.cell (World.block_lt_of_cell? w2 _ hcell0)).trans hcell0
      have f2 : (k : Int) < (cap : Int) := by have := HCAP.out; omega
      clear hcell0
      generalize ws[k] = x at hrest hcell
      have HR := Aside0.mk hR
      have HRS := Aside0.mk hrest
      have hpc := rparse_calls x wr
      clear hR hrest hk1
      by_cases ht : x.toList = []
      · have hq : (x.toList == []) = true := by rw [ht]; rfl
        have HR2 : Aside0 (Rl w2 wr (.slice A acc.length cc) ws (k + 1) acc (readL ws 0 [])) := ⟨⟨HR.out.row, HR.out.be, HR.out.few, by have h := HRS.out; rw [if_pos ht] at h; exact h⟩⟩
        clear hpc
        go_wp2
        exact ⟨⟨k + 1, by first | rfl | simp | omega, by omega, acc, HR2.out⟩, by simp [intOf]; omega⟩
      · have hq : (x.toList == []) = false := by rw [beq_eq_false_iff_ne]; exact ht
        have hrest := HRS.out
        rw [if_neg ht] at hrest
        cases hp : parW x with
        | none =>
          rw [ansW_none hp] at hpc
          rw [hp] at hrest
          have hrest' : (([], (k : Int) + 1, 210) : List OpT × Int × Int) = readL ws 0 [] := hrest
          have hpc' : Calls Tryd.prog 9 #[.string x] wr fun e w' => e = .returned (.tuple #[opX zOp, .int .i64 210]) ∧ Below wr.heap.size wr w' := hpc
          have HFIN := Aside0.mk hrest'
          clear hpc hrest hrest' hp
          go_wp2_with (go_at_call 9; refine hpc'.mono ?_; rintro e w6 ⟨rfl, hb⟩; have HB6 := Aside0.mk (below_step (below_step HB0.out HR.out.be) hb); clear hb)
          go_ret3
          rw [← HFIN.out]
          exact ⟨_, rfl, nil_own _ _, below_alloc HB6.out _⟩
        | some o =>
          rw [ansW_some hp] at hpc
          rw [hp] at hrest
          have hpc' : Calls Tryd.prog 9 #[.string x] wr fun e w' => e = .returned (.tuple #[opX o, .int .i64 0]) ∧ Below wr.heap.size wr w' := hpc
          by_cases hf : acc.length = 4000
          · have hq2 : ((acc.length : Int) == 4000) = true := by rw [hf]; rfl
            have hrest' : (([], (k : Int) + 1, 210) : List OpT × Int × Int) = readL ws 0 [] := by simpa [hf] using hrest
            have HFIN := Aside0.mk hrest'
            have HF := Aside0.mk hf
            clear hpc hrest hrest' hp hf
            go_wp2_with (go_at_call 9; refine hpc'.mono ?_; rintro e w6 ⟨rfl, hb⟩; have HB6 := Aside0.mk (below_step (below_step HB0.out HR.out.be) hb); clear hb)
            go_ret3
            rw [← HFIN.out]
            exact ⟨_, rfl, nil_own _ _, below_alloc HB6.out _⟩
          · have hq2 : ((acc.length : Int) == 4000) = false := by rw [beq_eq_false_iff_ne]; omega
            have hrest' : readL (ws.drop (k + 1)) (k + 1) (acc ++ [o]) = readL ws 0 [] := by simpa [hf] using hrest
            have HFIN := Aside0.mk hrest'
            have HF := Aside0.mk hf
            clear hpc hrest hrest' hp hf
            go_wp2_with (first | (at_builtin; refine wpList_append_run rfl rfl rfl rfl HRUN.out ?_) | (go_at_call 9; refine hpc'.mono ?_; rintro e w6 ⟨rfl, hb⟩; (have HR6 := Aside0.mk (HR.out.then (below_alloc hb (.cells (opC o).toArray 31))); have hr0 := oneO_run o HR6.out.row HR6.out.be.size (by have := HR6.out.few; omega); rcases hr0 with ⟨v', w7, hr, hO7, hB7⟩; rw [World.size_alloc] at hr; simp only [opC] at hr; have HRUN := Aside0.mk hr; have HO7 := Aside0.mk hO7; have HB7 := Aside0.mk hB7; clear hb hr hO7 hB7)))
            exact ⟨⟨k + 1, by first | rfl | simp | omega, by omega, acc ++ [o], HO7.out, HR6.out.be.trans HB7.out, by have := HF.out; have := HR6.out.few; rw [List.length_append, List.length_singleton]; omega, HFIN.out⟩, by simp [intOf]; omega⟩
    · have hrest := hR.rest
      rw [readL_end (by omega)] at hrest
      have HFIN := Aside0.mk hrest
      have HR := Aside0.mk hR
      clear hR hrest
      go_wp2
      go_ret3
      rw [← HFIN.out]
      exact ⟨_, rfl, own_less HR.out.row HB0.out.size, below_step HB0.out HR.out.be⟩
end Go.Proofs.YtodmbjbfigifnaaDoor.Sc
end

section
-- By wip/late.py (a program of this session) out of wip/words.
set_option linter.unusedVariables false
set_option linter.unusedSimpArgs false
namespace Go.Proofs.YtodmbjbfigifnaaDoor.Sc
open Go.RowKit Go.Proofs.YtodmbjbfigifnaaDoor.Glob Go.Proofs.YtodmbjbfigifnaaDoorW.PrintWords Go.Proofs.YtodmbjbfigifnaaDoor.AppSrc Go.Proofs.YtodmbjbfigifnaaDoor.PAll Go.Proofs.YtodmbjbfigifnaaDoor.Pure
/-! The law ScriptReads. -/
theorem same_loop (l : List OpT) (hl : l.length ≤ 9223372036854775806) (d : Nat) : ∀ (i : Nat), i + d = l.length → Ev (fun k => tidelinelaw21_same.l0 k l l (i : Int)) true := by
  induction d with
  | zero =>
    intro i hd
    refine Ev.step (fun k => by rw [tidelinelaw21_same.l0]) ?_
    simp only [if_neg (show ¬ (i : Int) < (l.length : Int) by omega)]
    exact Ev.const rfl
  | succ d ih =>
    intro i hd
    refine Ev.step (fun k => by rw [tidelinelaw21_same.l0]) ?_
    simp only [if_pos (show (i : Int) < (l.length : Int) by omega), if_pos (show (0 : Int) ≤ (i : Int) by omega), beq_self_eq_true, Bool.not_true, Bool.or_false, Bool.or_self, Bool.false_eq_true, if_false]
    rw [wrap_succ (by omega)]
    exact ih (i + 1) (by omega)
theorem same_self (l : List OpT) (hl : l.length ≤ 9223372036854775806) : Ev (fun k => tidelinelaw21_same.f k l l) true := by
  refine Ev.congr (fun k => by rw [tidelinelaw21_same.f, if_pos rfl]) ?_
  exact same_loop l hl l.length 0 (by omega)
theorem readL_few : ∀ (ts : List ByteArray) (i : Nat) (acc : List OpT), acc.length ≤ 4000 → (readL ts i acc).1.length ≤ 4000
  | [], _, _, h => h
  | t :: ts, i, acc, h => by
    unfold readL
    split
    · exact readL_few ts _ acc h
    · split
      · exact Nat.zero_le _
      · split
        · exact Nat.zero_le _
        · exact readL_few ts _ _ (by rw [List.length_append, List.length_singleton]; omega)
theorem reads_calls (s : ByteArray) (w : World) (hG : GlobOK w) : Calls Tryd.prog 3 #[.string s] w fun e w' => e = .returned (.bool true) ∧ Below w.heap.size w w' := by
  by_cases hs : (s.size : Int) > 1073741824
  · go_enter Tryd.func3, Tryd.ntmps3
    go_wp2
    go_ret
    exact ⟨rfl, Below.refl _ _⟩
  · have hr := read_calls s (by omega) w hG
    have hrr := fun W => rread_calls s (by omega) W
    have hfew := readL_few (piecesB s 10) 0 [] (Nat.zero_le _)
    obtain ⟨k, hk0⟩ := same_self (readL (piecesB s 10) 0 []).1 (by omega)
    have hk : tidelinelaw21_same.f k (readL (piecesB s 10) 0 []).1 (readL (piecesB s 10) 0 []).1 = some true := hk0 k (Nat.le_refl k)
    clear hk0
    generalize readL (piecesB s 10) 0 [] = R at hr hrr hfew hk
    obtain ⟨l, n, e⟩ := R
    dsimp only at hr hrr hfew hk
    have HRR := Aside0.mk hrr
    have HF := Aside0.mk hfew
    have HK := Aside0.mk hk
    clear hrr hfew hk
    go_enter Tryd.func3, Tryd.ntmps3
    go_wp2_with (first
      | (go_at_call 5; refine hr.mono ?_; rintro e w2 ⟨v, rfl, hO, hb⟩; have HB2 := Aside0.mk hb; have HO2 := Aside0.mk hO; clear hb hO)
      | (go_at_call 6; refine (HRR.out _).mono ?_; rintro e w3 ⟨u, rfl, hO, hb⟩; obtain ⟨A, c, rfl, hc, hC⟩ := own_C (pw_own_below HO2.out hb) (by have := HF.out; omega); obtain ⟨A2, c2, rfl, hc2, hC2⟩ := own_C hO (by have := HF.out; omega); have hsm := tidelinelaw21_same.calls _ A c l A2 c2 l true w3 hC hc hC2 hc2 HK.out; have HB3 := Aside0.mk (below_step HB2.out hb); clear hb hO hC hc hC2 hc2)
      | (go_at_call 7; refine hsm.mono ?_; rintro e w4 ⟨rfl, hd⟩; have HB4 := Aside0.mk (below_step HB3.out hd.below); clear hd))
    go_ret
    exact ⟨rfl, HB4.out⟩
end Go.Proofs.YtodmbjbfigifnaaDoor.Sc
end

section
/- For every text of whatever length the law ScriptReads answers true: what the program's reader of scripts says about the text, line by line, is what the document's says. Its condition: the package-level variables that it reads (tables of strconv, math/bits and unicode/utf8, ErrRange, ErrSyntax) hold what start-up laid in them, which the card ties to the program's text, and the form's own reach. -/
namespace Go.Proofs.YtodmbjbfigifnaaDoor
open Go.ChangeMaps (open_string shut_string)
open Go.ChangeShapes Go.WideShapes Go.ChangeAt Go.WideMaps Go.WideElems Go.RowKit Go.Proofs.YtodmbjbfigifnaaDoor.Dig Go.Proofs.YtodmbjbfigifnaaDoor.PAll Go.Proofs.YtodmbjbfigifnaaDoorW.PrintWords
set_option linter.unusedVariables false
def laid7 : List (String × DataW Unit) := [("math/bits.deBruijn32tab", Rows.laid_math_bits_deBruijn32tab), ("math/bits.deBruijn64tab", Rows.laid_math_bits_deBruijn64tab), ("internal/strconv.uint64pow10", Rows.laid_internal_strconv_uint64pow10), ("unicode/utf8.acceptRanges", Rows.laid_unicode_utf8_acceptRanges), ("strconv.ErrRange", Rows.laid_strconv_ErrRange), ("strconv.ErrSyntax", Rows.laid_strconv_ErrSyntax), ("unicode/utf8.first", Rows.laid_unicode_utf8_first)]
theorem own : ownKnob Tryd.prog.godebug = none := by kernel_rfl
theorem laidOut : laidOutB Tryd.prog = true := by kernel_rfl
/-- A heap that the listed data lay meets the condition (one of them is pinned: no run lays it). -/
theorem all_met (os : Os) (args : Array Value) : laidMetH Tryd.prog laid7 ((World.laidAll Tryd.prog os laid7).forCall (fun _ _ => 0) ⟨#[], args, []⟩).memory := by
  rw [MakeChecks.laidMetH_plain _ _ _ (by kernel_rfl)]
  exact laidMet_laidAll _ (by kernel_rfl) (by kernel_rfl)
theorem tab_eq : (Rows.laid_internal_strconv_uint64pow10 : DataW Unit) = Lib.tabData .u64 Lib.pow10Tab := by kernel_rfl
theorem gPow : Tryd.prog.globalNamed "internal/strconv.uint64pow10" = some 3 := by kernel_rfl
theorem tPow : (Tryd.prog.globals[3]?).map (·.type) = some 127 := by kernel_rfl
theorem gRange : Tryd.prog.globalNamed "strconv.ErrRange" = some 5 := by kernel_rfl
theorem tRange : (Tryd.prog.globals[5]?).map (·.type) = some 78 := by kernel_rfl
theorem star : "*errors.errorString" = "*" ++ "errors.errorString" := by decide
theorem row135 (u : TypeId) (h : Tryd.prog.typeName? 3 u = some "*errors.errorString") : u = 135 :=
  typeName_ptr_named (nm := "errors.errorString") (by rw [← star]; kernel_rfl) (by kernel_rfl) (by decide) u (by rw [← star]; exact h)
theorem of_laid {W : World} (h : laidMetH Tryd.prog laid7 W) : TabsOK W := by
  rw [MakeChecks.laidMetH_plain _ _ _ (by kernel_rfl)] at h
  have h3 : laidMet Tryd.prog [("internal/strconv.uint64pow10", Rows.laid_internal_strconv_uint64pow10), ("unicode/utf8.acceptRanges", Rows.laid_unicode_utf8_acceptRanges), ("strconv.ErrRange", Rows.laid_strconv_ErrRange), ("strconv.ErrSyntax", Rows.laid_strconv_ErrSyntax), ("unicode/utf8.first", Rows.laid_unicode_utf8_first)] W := h.tail.tail
  have htab : Lib.TabIs Tryd.prog W "internal/strconv.uint64pow10" .u64 Lib.pow10Tab := by
    rw [tab_eq] at h3
    exact Lib.tabIs_of_head gPow tPow Tryd.underlying127 Tryd.underlying101 (by kernel_rfl) (by kernel_rfl) h3
  obtain ⟨a, t, hv, _⟩ := laid_sentinel h3.tail.tail gRange tRange Tryd.underlying78 row135 Tryd.underlying135 Tryd.underlying137 rfl rfl Tryd.underlying9 (by kernel_rfl) (by kernel_rfl)
  refine ⟨htab, _, (World.var?_cell gRange hv 0).trans rfl, .inr ⟨_, _, rfl⟩⟩
/-- The kit's 'returnsInHanded_of_change_and', the world's shape told too. -/
theorem change_and_shaped {H : Type} {enc : TypeId × Value → H} {a : Assume} {C : Checked} {os : Os} {f : FuncId} {fn : Func} {s : ChangeSpec} {conds : List PathCond} {apart fresh handsOn again : Bool} {X : World → Array Value → Prop}
    (hX : ∀ (w w' : World) (args : Array Value), w.heap = w'.heap → X w args → X w' args)
    (own : ownKnob C.prog.godebug = none) (started : os.Started) (noInit : C.prog.inits.idxOf? f = none) (hfn : C.prog.funcs[f]? = some fn)
    (witness : ∃ (w : World) (tape : Tape) (i : Input), w.os = os ∧ (w.forCall tape i).Shaped C.prog ∧ i.vars = [] ∧ Input.okWide C.prog (w.forCall tape i) .any w.heap.size f i ∧
      ((s.pre enc C.prog fn conds apart (w.forCall tape i).memory i.args ∧ X (w.forCall tape i).memory i.args) ∧ sizedMet enc C.prog fn (OpenSpec.ofChange s) apart (w.forCall tape i).memory i.args) ∧ a.holds C.prog (lone (Frame.enter C.prog f i.args .normal) [] (w.forCall tape i)))
    (contract : ∀ (W : World) (base : Nat) (args : Array Value) (ds gs : List (DataW H)) (before : List MemPlace), W.ShapedOpen C.prog →
      (∀ (j : Nat) t v, fn.params[j]? = some t → args[j]? = some v → Value.okWide C.prog W .any base t v) →
      DataW.Whole enc C.prog fn.params.toList s.vars apart W args.toList ds gs before →
      conds.all (PathCond.test C.prog ⟨fn.params.toList, ds, s.plain.varTypes C.prog, gs⟩) = true →
      (DataW.weightsEach C.prog (fn.params.toList ++ s.plain.varTypes C.prog) (ds ++ gs)).all (· ≤ reachBytes) = true → X W args →
      a.holds C.prog (lone (Frame.enter C.prog f args .normal) [] W) →
      Calls C.prog f args W fun e W' => ∃ v, e = .returned v ∧ s.post enc C.prog fn apart fresh handsOn again W args v W') :
    ReturnsInHanded a C os f .any (fun w args => (s.pre enc C.prog fn conds apart w args ∧ X w args) ∧ sizedMet enc C.prog fn (OpenSpec.ofChange s) apart w args) (s.post enc C.prog fn apart fresh handsOn again) := by
  refine returnsInHanded_of_calls own started noInit witness ?_
  intro w tape i _ hsh _ hok hpre hholds
  obtain ⟨_, _, _, fn', hfn', _, _, _, _, hval⟩ := hok
  have e : fn' = fn := Option.some.inj (hfn'.symm.trans hfn)
  subst e
  obtain ⟨⟨⟨ds, gs, before, hw, hc⟩, hx⟩, hz⟩ := hpre
  have hw' := DataW.Whole.of_heap (w' := w.forCall tape i) (by rfl) hw
  refine (contract (w.forCall tape i) w.heap.size i.args ds gs before hsh hval hw' hc (hz.weights hw) (hX _ _ _ (by rfl) hx) hholds).mono fun e W' ⟨v, he, hp⟩ => ?_
  subst he
  exact ChangeSpec.post_blind hp
set_option maxRecDepth 100000 in
theorem lifted (os : Os) (started : os.Started) (H : Type) (enc : TypeId × Value → H) :
    ReturnsInHanded {} Tryd.checked os 3 .any (fun w args => (Rows.scriptReadsSpec.pre enc Tryd.prog Tryd.f3 [] false w args ∧ laidMetH Tryd.prog laid7 w) ∧ sizedMet enc Tryd.prog Tryd.f3 (OpenSpec.ofChange Rows.scriptReadsSpec) false w args)
      (Rows.scriptReadsSpec.post enc Tryd.prog Tryd.f3 false true false false) := by
  refine change_and_shaped (C := Tryd.checked) (X := fun w _ => laidMetH Tryd.prog laid7 w) (fun _ _ _ hh h => h.of_heap hh) own started (by kernel_rfl) Tryd.func3
    (ChangeSpec.witness_shaped (enc := enc) (C := Tryd.checked) (os := os) (X := fun w _ => laidMetH Tryd.prog laid7 w) false (World.laidAll Tryd.prog os laid7) #[.string ByteArray.empty] 8 (World.laidAll_os _ _ _) (World.shaped_of_ZipB (by kernel_rfl) (by kernel_rfl)) (by kernel_rfl) (by kernel_rfl) (by kernel_rfl) (all_met os _)) ?_
  intro W base args ds gs before hshape hval0 hW _ hsz0 hL _
  have hG : Go.Proofs.YtodmbjbfigifnaaDoor.Glob.GlobOK W := ⟨of_laid hL, Tryd.laysM219.s1_3 W hshape⟩
  have hsz : (DataW.weightsEach Tryd.prog (Tryd.f3.params.toList ++ Rows.scriptReadsSpec.plain.varTypes Tryd.prog) (ds ++ gs)).all (· ≤ reachBytes) = true := hsz0
  have hval : ∀ (j : Nat) t v, Tryd.f3.params[j]? = some t → args[j]? = some v → Value.okWide Tryd.prog W .any base t v := hval0
  have hW' := hW
  obtain ⟨p, q, hA0, hV, rfl, hfz, hnd⟩ := hW
  have hA : DataW.TrodAll enc Tryd.prog W 0 (fun _ => true) true Tryd.f3.params.toList args.toList ds p := hA0
  rw [Tryd.params3] at hA hval hsz
  obtain ⟨v0, vs0, d0, ds0, p0, q0, hargs, rfl, rfl, h0, r0⟩ := trodAll_cons hA
  obtain ⟨rfl, rfl, rfl⟩ := trodAll_nil r0
  obtain rfl : args = #[v0] := by cases args; simp_all
  obtain ⟨rfl, rfl⟩ := trodVars_none hV
  obtain ⟨a0, rfl, rfl, rfl, y0⟩ := open_string Tryd.underlying9 (hval 0 9 v0 rfl rfl) h0
  refine (Sc.reads_calls a0 W hG).mono fun e W' ⟨he, bel0⟩ => ?_
  have bel : Below W.heap.size W W' := bel0
  subst he
  exact ⟨_, rfl, _, _, _, [], _, [], hW', trodAll_mk1 (shut_bool Tryd.underlying4 _), (trodAll_cons_mk (shut_string Tryd.underlying9 y0) trodAll_mk0), rfl, bel.frame _, fun h => by cases h⟩
theorem scriptReads_row : Rows.ScriptReadsSaid :=
  OpenClaim.holds_of_wide 3 Tryd.f3 rfl rfl rfl rfl rfl rfl rfl ⟨rfl, rfl, rfl, rfl, rfl⟩ rfl rfl rfl rfl rfl (by kernel_rfl) Tryd.func3 (by kernel_rfl)
    (of_decide_eq_true (by kernel_rfl)) (by unfold Func.isWrapper; first | (rw [if_pos (by decide +kernel)]; kernel_rfl) | (rw [if_neg (by decide +kernel)]; exact ⟨rfl, rfl⟩))
    (fun os started H enc _ => lifted os started H enc)
theorem scriptReads_holds : Rows.ScriptReadsCardSaid :=
  Claim7.holds_tied_plain_at .later [] [.data, .data, .data, .data, .sentinel, .sentinel, .pinned] true (true, "9d1d0af69867e12346e384c1d8c6a19310d10e8a58dbfb4f1aa32b8d67894b63") true
    scriptReads_row (fun _ h => by cases h) (by kernel_rfl) (fun _ h => by cases h) scriptReads_row_tie rfl ⟨rfl, rfl⟩ (by kernel_rfl) rfl
    (fun f fn hf hfn => by
      obtain rfl : f = 3 := Option.some.inj ((show Tryd.prog.funcNamed "tideline/tidelinelaw21.ScriptReads" = some 3 by kernel_rfl).symm.trans hf) |>.symm
      obtain rfl : fn = Tryd.f3 := (Option.some.inj (Tryd.func3.symm.trans hfn)).symm
      exact ⟨by kernel_rfl, fun j t ht => by
        rw [Tryd.params3] at ht
        have hm : t ∈ [9] := by simpa using Array.mem_of_getElem? ht
        have hall : ([9].all fun u => !Tryd.prog.wantsStandIn u) = true := by kernel_rfl
        exact (show Tryd.prog.wantsStandIn t = false by simpa using List.all_eq_true.1 hall t hm)⟩)
    (by kernel_rfl)
#print axioms scriptReads_holds
end Go.Proofs.YtodmbjbfigifnaaDoor
end
