import Derived.Test.YtodmbjbfigifnaaDoorProg
import Derived.Test.YtodmbjbfigifnaaDoorWWords
import Derived.Test.YtodmbjbfigifnaaDoorWLast
import Derived.Test.YtodmbjbfigifnaaDoorWMore
import Derived.Test.YtodmbjbfigifnaaDoorPAllx0
import Derived.Test.YtodmbjbfigifnaaDoorMgG
import Derived.Test.YtodmbjbfigifnaaDoorSGlobD
import Derived.Test.YtodmbjbfigifnaaDoorMgA
import Derived.Test.YtodmbjbfigifnaaDoorSFCutD
import Derived.Below
import Derived.RangeFuncBox
import Derived.BigQuiet
import Derived.Lib.Hide
import Derived.Tactics
import Derived.WalkKit
import Derived.OwnWalk
import Derived.WalkSmall
import Derived.WalkLawsBesides
import Derived.Laws.Slices
import Derived.Maps.AppendAt
import Derived.Deep.AppendSrc
import Derived.Deep.Upon
import Derived.Lib.AppendZeros
import Derived.Deep.QuietTactic
import Derived.MapKept
import Derived.Laws.EntriesVeiled
import Derived.Tactics2
import Derived.Defers
import Derived.Recover
import Derived.Laws.Pointers
import Derived.Shelf.Abstract
section
-- By wip/late.py (a program of this session) out of wip/words.
set_option linter.unusedVariables false
set_option linter.unusedSimpArgs false
namespace Go.Proofs.YtodmbjbfigifnaaDoor.Sc
open Go.RowKit Go.Proofs.YtodmbjbfigifnaaDoor.Glob Go.Proofs.YtodmbjbfigifnaaDoor.Dig Go.Proofs.YtodmbjbfigifnaaDoorW.PrintWords Go.Proofs.YtodmbjbfigifnaaDoor.PAll Go.Proofs.YtodmbjbfigifnaaDoor.Pure
/-! A line's words, read one by one; a reader that gives up panics. -/
/-- What a reader that gives up panics with. -/
def noneP : List PanicEntry := [{ v := .iface 40 (.agg #[]), recovered := false }]
theorem must_ok (w : World) : Calls Tryd.prog 16 #[.bool true] w fun e w' => e = .returned (.tuple #[]) ∧ w' = w := by
  go_enter Tryd.func16, Tryd.ntmps16
  go_wp2
  first | go_end0 | ((try simp only [Exit.inBlock, Exit.then]); refine bodyPost_ret (results_none rfl _ _ _) rfl ?_)
  exact ⟨rfl, rfl⟩
theorem must_no (w : World) : Calls Tryd.prog 16 #[.bool false] w fun e w' => e = .panicked noneP ∧ w' = w := by
  go_enter Tryd.func16, Tryd.ntmps16
  go_wp2
  exact ⟨rfl, rfl, rfl⟩
abbrev OpT := S31
/-- A command's cells. -/
def opC (o : OpT) : List Value := [.int .i64 o.f0, .int .i64 o.f1, .int .i64 o.f2, .int .i64 o.f3, .string o.f4, .string o.f5, .string o.f6.f0, .string o.f6.f1, .bool o.f6.f2]
def opV (o : OpT) : Value := .agg (opC o).toArray
/-- A line's reader: at word i of ws. -/
structure Rdr (w0 W : World) (b g : Nat) (ws : List ByteArray) (A : Option Addr) (i : Nat) (o : OpT) : Prop where
  box : W.heap[b]? = some (.cells #[.slice A (ws.length - i) (ws.length - i), .int .i64 o.f0, .int .i64 o.f1, .int .i64 o.f2, .int .i64 o.f3, .string o.f4, .string o.f5, .string o.f6.f0, .string o.f6.f1, .bool o.f6.f2] 43 (0, 0))
  at_ : i < ws.length → A = some ⟨g, i, none⟩
  row : W.heap[g]? = some (.cells (ws.map Value.string).toArray 9 (0, 0))
  lo : w0.heap.size ≤ b
  be : Below w0.heap.size w0 W
  gl : GlobOK w0
  le : i ≤ ws.length
  short : ∀ x ∈ ws, x.size ≤ 400
  len : ws.length ≤ 401
section
variable {w0 W W' w : World} {b g i : Nat} {ws : List ByteArray} {A : Option Addr} {o : OpT}
theorem Rdr.ne (h : Rdr w0 W b g ws A i o) : g ≠ b := blk_ne h.row h.box (by decide)
theorem Rdr.below (h : Rdr w0 W b g ws A i o) (hb : Below W.heap.size W W') : Rdr w0 W' b g ws A i o := ⟨blk_below h.box hb, h.at_, blk_below h.row hb, h.lo, below_then h.be h.be.size hb, h.gl, h.le, h.short, h.len⟩
theorem Rdr.G (h : Rdr w0 W b g ws A i o) : GlobOK W := h.gl.below h.be
theorem Rdr.slice (h : Rdr w0 W b g ws A i o) : W.cell? ⟨b, 0, none⟩ = some (.slice A (ws.length - i) (ws.length - i)) := (blk_cell h.box 0).trans rfl
theorem Rdr.fz (h : Rdr w0 W b g ws A i o) (j : Nat) : W.frozen? ⟨b, j, none⟩ = false := blk_frozen h.box j
theorem Rdr.word (h : Rdr w0 W b g ws A i o) (hi : i < ws.length) : W.cell? ⟨g, i, none⟩ = some (.string ws[i]) := by
  rw [blk_cell h.row i, List.getElem?_toArray, List.getElem?_map, List.getElem?_eq_getElem hi]; rfl
/-- The reader went on. -/
structure Went (w0 w W : World) (b g : Nat) (ws : List ByteArray) (i : Nat) (o : OpT) : Prop where
  st : ∃ A, Rdr w0 W b g ws A i o
  kb : KeepBut w W b none
theorem Went.refl (h : Rdr w0 W b g ws A i o) : Went w0 W W b g ws i o := ⟨⟨A, h⟩, KeepBut.refl _ _ _⟩
theorem Went.then (h : Went w0 w W b g ws i o) (hb : Below W.heap.size W W') : Went w0 w W' b g ws i o := by
  obtain ⟨⟨A, h1⟩, h2⟩ := h
  exact ⟨⟨A, h1.below hb⟩, h2.trans (KeepBut.of_below hb b none) (.inl rfl)⟩
theorem Went.trans {W2 : World} {i2 : Nat} {o2 : OpT} (h : Went w0 w W b g ws i o) (k : Went w0 W W2 b g ws i2 o2) : Went w0 w W2 b g ws i2 o2 := ⟨k.st, h.kb.trans k.kb (.inl rfl)⟩
/-- A cell of the reader is written. -/
theorem Rdr.put (h : Rdr w0 W b g ws A i o) (j : Nat) (v : Value) {A2 : Option Addr} {i2 : Nat} {o2 : OpT} (hi : i2 ≤ ws.length) (hA : i2 < ws.length → A2 = some ⟨g, i2, none⟩)
    (e : (#[.slice A (ws.length - i) (ws.length - i), .int .i64 o.f0, .int .i64 o.f1, .int .i64 o.f2, .int .i64 o.f3, .string o.f4, .string o.f5, .string o.f6.f0, .string o.f6.f1, .bool o.f6.f2] : Array Value).setIfInBounds j v = #[.slice A2 (ws.length - i2) (ws.length - i2), .int .i64 o2.f0, .int .i64 o2.f1, .int .i64 o2.f2, .int .i64 o2.f3, .string o2.f4, .string o2.f5, .string o2.f6.f0, .string o2.f6.f1, .bool o2.f6.f2]) :
    Went w0 W (W.setCell ⟨b, j, none⟩ v) b g ws i2 o2 :=
  ⟨⟨A2, blk_put h.box j v e, hA, blk_far h.row h.ne _, h.lo, below_set h.be h.lo, h.gl, hi, h.short, h.len⟩, (KeepBut.refl _ _ _).set_ j v⟩
end
section
variable {w0 w : World} {b g i : Nat} {ws : List ByteArray} {A : Option Addr} {o : OpT}
theorem word_no (h : Rdr w0 w b g ws A i o) (hi : ¬ i < ws.length) : Calls Tryd.prog 15 #[.pointer (some ⟨b, 0, none⟩)] w fun e w' => e = .panicked noneP ∧ Below w0.heap.size w0 w' := by
  have hs := h.slice
  rw [show ws.length - i = 0 by omega] at hs
  have HB := Aside0.mk h.be
  clear h
  go_enter Tryd.func15, Tryd.ntmps15
  go_wp2_with (go_at_call 16; refine (must_no _).mono ?_; rintro e w1 ⟨rfl, rfl⟩)
  exact ⟨rfl, rfl, HB.out⟩
theorem word_ok (h : Rdr w0 w b g ws A i o) (hi : i < ws.length) : Calls Tryd.prog 15 #[.pointer (some ⟨b, 0, none⟩)] w fun e w' => e = .returned (.string ws[i]) ∧ Went w0 w w' b g ws (i + 1) o := by
  have H := Aside0.mk h
  have hs := h.slice
  rw [h.at_ hi] at hs
  have hw := h.word hi
  have hf := h.fz 0
  obtain ⟨m, hm⟩ : ∃ m : Nat, ws.length - i = m + 1 := ⟨ws.length - i - 1, by omega⟩
  rw [hm] at hs
  have hm2 : ((0 : Int) < ((m + 1 : Nat) : Int)) := by omega
  generalize hwi : ws[i] = wi at hw ⊢
  clear h
  go_enter Tryd.func15, Tryd.ntmps15
  go_wp2_with (go_at_call 16; refine (must_ok _).mono ?_; rintro e w1 ⟨rfl, rfl⟩)
  all_goals go_ret
  · exact ⟨rfl, H.out.put 0 _ (by omega) (fun h => absurd h (by omega)) (by rw [show ws.length - (i + 1) = 0 by omega]; rfl)⟩
  · exact ⟨rfl, H.out.put 0 _ (by omega) (fun _ => rfl) (by rw [show ws.length - (i + 1) = m by omega]; rfl)⟩
/-- A word as a number. -/
def numW (t : ByteArray) : Option Int := if (numP t.data.toList 9223372036854775807).2 = 0 then some (numP t.data.toList 9223372036854775807).1 else none
theorem nparse_calls (t : ByteArray) (ht : t.size ≤ 400) (w : World) (hG : GlobOK w) : Calls Tryd.prog 57 #[.string t, .int .i64 9223372036854775807] w fun e w' => e = .returned (.tuple #[.int .i64 (numP t.data.toList 9223372036854775807).1, .int .i64 (numP t.data.toList 9223372036854775807).2]) ∧ Below w.heap.size w w' :=
  nums_Parse.calls t 9223372036854775807 _ _ w hG (by unfold nums_Parse.f; rw [if_pos (by omega)])
/-- A word as bytes behind a letter. -/
def bytW (c : UInt8) (t : ByteArray) : Option ByteArray := if Lib.hasPrefix t.data.toList [c] = true then (if (unhE (t.extract 1 t.size)).2 = 0 then some (unhE (t.extract 1 t.size)).1 else none) else none
theorem number_nw (h : Rdr w0 w b g ws A i o) (hi : ¬ i < ws.length) : Calls Tryd.prog 43 #[.pointer (some ⟨b, 0, none⟩)] w fun e w' => e = .panicked noneP ∧ Below w0.heap.size w0 w' := by
  have hw := word_no h hi
  clear h
  go_enter Tryd.func43, Tryd.ntmps43
  go_wp2_with (go_at_call 15; refine hw.mono ?_; rintro e w1 ⟨rfl, hb⟩)
  exact ⟨rfl, rfl, hb⟩
set_option maxRecDepth 100000 in
theorem number_no (h : Rdr w0 w b g ws A i o) (hi : i < ws.length) (hn : numW ws[i] = none) : Calls Tryd.prog 43 #[.pointer (some ⟨b, 0, none⟩)] w fun e w' => e = .panicked noneP ∧ Below w0.heap.size w0 w' := by
  have hw := word_ok h hi
  have hsz := h.short _ (List.getElem_mem hi)
  generalize ws[i] = t at hw hsz hn
  have hq : ((numP t.data.toList 9223372036854775807).2 == 0) = false := by
    unfold numW at hn
    split at hn
    · cases hn
    · rename_i h; exact beq_eq_false_iff_ne.2 h
  have hp := nparse_calls t hsz
  generalize (numP t.data.toList 9223372036854775807).1 = n1 at hp
  generalize (numP t.data.toList 9223372036854775807).2 = n2 at hp hq
  clear h hn hsz
  go_enter Tryd.func43, Tryd.ntmps43
  go_wp2_with (first
    | (go_at_call 15; refine hw.mono ?_; rintro e w1 ⟨rfl, hW⟩; obtain ⟨A1, hR1⟩ := hW.st; have HR := Aside0.mk hR1; clear hR1 hW)
    | (go_at_call 57; refine (hp _ HR.out.G).mono ?_; rintro e w2 ⟨rfl, hb⟩; have HB := Aside0.mk (HR.out.below hb).be; clear hb)
    | (go_at_call 16; refine (must_no _).mono ?_; rintro e w3 ⟨rfl, rfl⟩))
  exact ⟨rfl, rfl, HB.out⟩
set_option maxRecDepth 100000 in
theorem number_ok (h : Rdr w0 w b g ws A i o) (hi : i < ws.length) {n : Int} (hn : numW ws[i] = some n) : Calls Tryd.prog 43 #[.pointer (some ⟨b, 0, none⟩)] w fun e w' => e = .returned (.int .i64 n) ∧ Went w0 w w' b g ws (i + 1) o := by
  have hw := word_ok h hi
  have hsz := h.short _ (List.getElem_mem hi)
  generalize ws[i] = t at hw hsz hn
  have hp := nparse_calls t hsz
  unfold numW at hn
  split at hn
  · rename_i hq
    obtain rfl := Option.some.inj hn
    rw [hq] at hp
    generalize (numP t.data.toList 9223372036854775807).1 = n1 at hp
    clear h hn hsz hq
    go_enter Tryd.func43, Tryd.ntmps43
    go_wp2_with (first
      | (go_at_call 15; refine hw.mono ?_; rintro e w1 ⟨rfl, hW⟩; obtain ⟨A1, hR1⟩ := hW.st; have HR := Aside0.mk hR1; have HW := Aside0.mk hW; clear hR1 hW)
      | (go_at_call 57; refine (hp _ HR.out.G).mono ?_; rintro e w2 ⟨rfl, hb⟩; have HW2 := Aside0.mk (HW.out.then hb); clear hb)
      | (go_at_call 16; refine (must_ok _).mono ?_; rintro e w3 ⟨rfl, rfl⟩))
    go_ret
    exact ⟨rfl, HW2.out⟩
  · cases hn
theorem trim_one {t : ByteArray} {c : UInt8} (h : Lib.hasPrefix t.data.toList [c] = true) : (⟨(Lib.trimPrefix t.data.toList [c]).toArray⟩ : ByteArray) = t.extract 1 t.size := by
  have : Lib.trimPrefix t.data.toList [c] = t.data.toList.drop 1 := by unfold Lib.trimPrefix; rw [if_pos h]; rfl
  rw [this]
  have e2 : (t.extract 1 t.size).data.toList = t.data.toList.drop 1 := Lib.extract_to_end t 1
  rw [← e2]
theorem ext_size (t : ByteArray) (a : Nat) : (t.extract a t.size).size ≤ t.size := by rw [ByteArray.size_extract]; omega
theorem unhex_calls (t : ByteArray) (ht : t.size ≤ 400) (w : World) : Calls Tryd.prog 59 #[.string t] w fun e w' => e = .returned (.tuple #[.string (unhE t).1, .int .i64 (unhE t).2]) ∧ Below w.heap.size w w' := by
  obtain ⟨k, hk⟩ := (unhex_f t (by omega)).rounds
  exact nums_Unhex.calls k t _ _ w hk
theorem bytes_nw (c : UInt8) (h : Rdr w0 w b g ws A i o) (hi : ¬ i < ws.length) : Calls Tryd.prog 44 #[.pointer (some ⟨b, 0, none⟩), .string ⟨#[c]⟩] w fun e w' => e = .panicked noneP ∧ Below w0.heap.size w0 w' := by
  have hw := word_no h hi
  clear h
  go_enter Tryd.func44, Tryd.ntmps44
  go_wp2_with (go_at_call 15; refine hw.mono ?_; rintro e w1 ⟨rfl, hb⟩)
  exact ⟨rfl, rfl, hb⟩
set_option maxRecDepth 100000 in
theorem bytes_no (c : UInt8) (h : Rdr w0 w b g ws A i o) (hi : i < ws.length) (hn : bytW c ws[i] = none) : Calls Tryd.prog 44 #[.pointer (some ⟨b, 0, none⟩), .string ⟨#[c]⟩] w fun e w' => e = .panicked noneP ∧ Below w0.heap.size w0 w' := by
  have hw := word_ok h hi
  have hsz := h.short _ (List.getElem_mem hi)
  generalize ws[i] = t at hw hsz hn
  unfold bytW at hn
  by_cases hp : Lib.hasPrefix t.data.toList [c] = true
  · rw [if_pos hp] at hn
    have hu := unhex_calls (t.extract 1 t.size) (Nat.le_trans (ext_size t 1) hsz)
    have hq : ((unhE (t.extract 1 t.size)).2 == 0) = false := by
      split at hn
      · cases hn
      · rename_i h; exact beq_eq_false_iff_ne.2 h
    have hcp := strings_CutPrefix.calls t ⟨#[c]⟩ (t.extract 1 t.size) true
    have hcf : strings_CutPrefix.f t ⟨#[c]⟩ = some (t.extract 1 t.size, true) := by unfold strings_CutPrefix.f; rw [trim_one hp, hp]
    generalize (unhE (t.extract 1 t.size)).1 = u1 at hu
    generalize (unhE (t.extract 1 t.size)).2 = u2 at hu hq
    generalize t.extract 1 t.size = t2 at hu hcp hcf
    clear h hn hsz hp
    go_enter Tryd.func44, Tryd.ntmps44
    go_wp2_with (first
      | (go_at_call 15; refine hw.mono ?_; rintro e w1 ⟨rfl, hW⟩; obtain ⟨A1, hR1⟩ := hW.st; have HR := Aside0.mk hR1; have HW := Aside0.mk hW; clear hR1 hW)
      | (go_at_call 58; refine (hcp _ hcf).mono ?_; rintro e w2 ⟨rfl, hb⟩; have HW2 := Aside0.mk (HW.out.then hb); clear hb)
      | (go_at_call 59; refine (hu _).mono ?_; rintro e w3 ⟨rfl, hb⟩; have HW3 := Aside0.mk (HW2.out.then hb); clear hb)
      | (go_at_call 16; refine (must_ok _).mono ?_; rintro e w4 ⟨rfl, rfl⟩)
      | (go_at_call 16; refine (must_no _).mono ?_; rintro e w4 ⟨rfl, rfl⟩))
    obtain ⟨A3, hR3⟩ := HW3.out.st
    exact ⟨rfl, rfl, hR3.be⟩
  · have hp2 : Lib.hasPrefix t.data.toList [c] = false := by simpa using hp
    have hcp := fun r => strings_CutPrefix.calls t ⟨#[c]⟩ r false
    obtain ⟨r, hcf⟩ : ∃ r, strings_CutPrefix.f t ⟨#[c]⟩ = some (r, false) := ⟨_, by unfold strings_CutPrefix.f; rw [hp2]⟩
    clear h hn hsz hp hp2
    go_enter Tryd.func44, Tryd.ntmps44
    go_wp2_with (first
      | (go_at_call 15; refine hw.mono ?_; rintro e w1 ⟨rfl, hW⟩; obtain ⟨A1, hR1⟩ := hW.st; have HR := Aside0.mk hR1; have HW := Aside0.mk hW; clear hR1 hW)
      | (go_at_call 58; refine (hcp _ _ hcf).mono ?_; rintro e w2 ⟨rfl, hb⟩; have HW2 := Aside0.mk (HW.out.then hb); clear hb)
      | (go_at_call 16; refine (must_no _).mono ?_; rintro e w4 ⟨rfl, rfl⟩))
    obtain ⟨A3, hR3⟩ := HW2.out.st
    exact ⟨rfl, rfl, hR3.be⟩
set_option maxRecDepth 100000 in
theorem bytes_ok (c : UInt8) (h : Rdr w0 w b g ws A i o) (hi : i < ws.length) {s : ByteArray} (hn : bytW c ws[i] = some s) : Calls Tryd.prog 44 #[.pointer (some ⟨b, 0, none⟩), .string ⟨#[c]⟩] w fun e w' => e = .returned (.string s) ∧ Went w0 w w' b g ws (i + 1) o := by
  have hw := word_ok h hi
  have hsz := h.short _ (List.getElem_mem hi)
  generalize ws[i] = t at hw hsz hn
  unfold bytW at hn
  split at hn
  · rename_i hp
    split at hn
    · rename_i hq
      obtain rfl := Option.some.inj hn
      have hu := unhex_calls (t.extract 1 t.size) (Nat.le_trans (ext_size t 1) hsz)
      rw [hq] at hu
      have hcp := strings_CutPrefix.calls t ⟨#[c]⟩ (t.extract 1 t.size) true
      have hcf : strings_CutPrefix.f t ⟨#[c]⟩ = some (t.extract 1 t.size, true) := by unfold strings_CutPrefix.f; rw [trim_one hp, hp]
      generalize (unhE (t.extract 1 t.size)).1 = u1 at hu
      generalize t.extract 1 t.size = t2 at hu hcp hcf
      clear h hn hsz hp hq
      go_enter Tryd.func44, Tryd.ntmps44
      go_wp2_with (first
        | (go_at_call 15; refine hw.mono ?_; rintro e w1 ⟨rfl, hW⟩; obtain ⟨A1, hR1⟩ := hW.st; have HR := Aside0.mk hR1; have HW := Aside0.mk hW; clear hR1 hW)
        | (go_at_call 58; refine (hcp _ hcf).mono ?_; rintro e w2 ⟨rfl, hb⟩; have HW2 := Aside0.mk (HW.out.then hb); clear hb)
        | (go_at_call 59; refine (hu _).mono ?_; rintro e w3 ⟨rfl, hb⟩; have HW3 := Aside0.mk (HW2.out.then hb); clear hb)
        | (go_at_call 16; refine (must_ok _).mono ?_; rintro e w4 ⟨rfl, rfl⟩))
      go_ret
      exact ⟨rfl, HW3.out⟩
    · cases hn
  · cases hn
end
end Go.Proofs.YtodmbjbfigifnaaDoor.Sc
end

section
-- By wip/late.py (a program of this session) out of wip/words.
set_option linter.unusedVariables false
set_option linter.unusedSimpArgs false
namespace Go.Proofs.YtodmbjbfigifnaaDoor.Sc
open Go.RowKit Go.Proofs.YtodmbjbfigifnaaDoor.Glob Go.Proofs.YtodmbjbfigifnaaDoor.Dig Go.Proofs.YtodmbjbfigifnaaDoorW.PrintWords Go.Proofs.YtodmbjbfigifnaaDoor.PAll Go.Proofs.YtodmbjbfigifnaaDoor.Pure
/-! What reads a command's words, one each. -/
/-- What span.Parse answers. -/
def spV (t : ByteArray) : ByteArray × ByteArray × Bool × Int := match strings_Cut.f t ⟨#[46, 46]⟩ with | some (lo, hi, ok) => parV lo hi ok | none => (⟨#[]⟩, ⟨#[]⟩, false, 23)
def spnW (t : ByteArray) : Option S29 := if (spV t).2.2.2 = 0 then some ⟨(spV t).1, (spV t).2.1, (spV t).2.2.1⟩ else none
/-- A word laid into a command, by its letter. -/
def fieldW (c : Nat) (t : ByteArray) (o : OpT) : Option OpT :=
  if c = 110 then (numW t).map fun n => { o with f1 := n } else if c = 112 then (numW t).map fun n => { o with f2 := n } else if c = 105 then (numW t).map fun n => { o with f3 := n }
  else if c = 107 then (bytW 107 t).map fun s => { o with f4 := s } else if c = 118 then (bytW 61 t).map fun s => { o with f5 := s } else (spnW t).map fun s => { o with f6 := s }
theorem cut_le (t : ByteArray) (ht : t.size ≤ 400) : ∃ lo hi ok, strings_Cut.f t ⟨#[46, 46]⟩ = some (lo, hi, ok) ∧ lo.size ≤ 70368744177664 ∧ hi.size ≤ 70368744177664 := by
  unfold strings_Cut.f
  rw [if_pos (by omega)]
  refine ⟨_, _, _, rfl, ?_, ?_⟩
  all_goals
    show Array.size (List.toArray _) ≤ _
    rw [List.size_toArray]
    unfold Lib.cut
    have hl : t.data.toList.length = t.size := Array.length_toList
    split
    all_goals simp only [List.length_take, List.length_drop, List.length_nil, hl]
    all_goals omega
theorem span_calls (t : ByteArray) (ht : t.size ≤ 400) (w : World) (hG : GlobOK w) : Calls Tryd.prog 45 #[.string t] w fun e w' => e = .returned (.tuple #[.agg #[.string (spV t).1, .string (spV t).2.1, .bool (spV t).2.2.1], .int .i64 (spV t).2.2.2]) ∧ Below w.heap.size w w' := by
  obtain ⟨lo, hi, ok, hc, hl, hh⟩ := cut_le t ht
  obtain ⟨k, hk⟩ := (parse_of t lo hi ok hc hl hh).rounds
  have e : spV t = parV lo hi ok := by unfold spV; rw [hc]
  rw [e]
  exact span_Parse.calls k t _ _ _ _ w hG hk
section
variable {w0 w : World} {b g i : Nat} {ws : List ByteArray} {A : Option Addr} {o : OpT}
theorem node_nw (h : Rdr w0 w b g ws A i o) (hi : ¬ i < ws.length) : Calls Tryd.prog 24 #[.pointer (some ⟨b, 0, none⟩)] w fun e w' => e = .panicked noneP ∧ Below w0.heap.size w0 w' := by
  have hw := number_nw h hi
  clear h
  go_enter Tryd.func24, Tryd.ntmps24
  go_wp2_with (go_at_call 43; refine hw.mono ?_; rintro e w1 ⟨rfl, hb⟩)
  exact ⟨rfl, rfl, hb⟩
theorem node_no (h : Rdr w0 w b g ws A i o) (hi : i < ws.length) (hn : numW ws[i] = none) : Calls Tryd.prog 24 #[.pointer (some ⟨b, 0, none⟩)] w fun e w' => e = .panicked noneP ∧ Below w0.heap.size w0 w' := by
  have hw := number_no h hi hn
  clear h
  go_enter Tryd.func24, Tryd.ntmps24
  go_wp2_with (go_at_call 43; refine hw.mono ?_; rintro e w1 ⟨rfl, hb⟩)
  exact ⟨rfl, rfl, hb⟩
theorem node_ok (h : Rdr w0 w b g ws A i o) (hi : i < ws.length) {n : Int} (hn : numW ws[i] = some n) : Calls Tryd.prog 24 #[.pointer (some ⟨b, 0, none⟩)] w fun e w' => e = .returned (.tuple #[]) ∧ Went w0 w w' b g ws (i + 1) { o with f1 := n } := by
  have hw := number_ok h hi hn
  clear h
  go_enter Tryd.func24, Tryd.ntmps24
  go_wp2_with (go_at_call 43; refine hw.mono ?_; rintro e w1 ⟨rfl, hW⟩; obtain ⟨A1, hR1⟩ := hW.st; have HR := Aside0.mk hR1; have HW := Aside0.mk hW; have hf := hR1.fz 2; have hc := (blk_cell hR1.box 2).trans (show _ = some (Value.int .i64 o.f1) from rfl); clear hR1 hW)
  first | go_end0 | ((try simp only [Exit.inBlock, Exit.then]); refine bodyPost_ret (results_none rfl _ _ _) rfl ?_)
  exact ⟨rfl, HW.out.trans (HR.out.put 2 _ HR.out.le HR.out.at_ rfl)⟩
theorem peer_nw (h : Rdr w0 w b g ws A i o) (hi : ¬ i < ws.length) : Calls Tryd.prog 30 #[.pointer (some ⟨b, 0, none⟩)] w fun e w' => e = .panicked noneP ∧ Below w0.heap.size w0 w' := by
  have hw := number_nw h hi
  clear h
  go_enter Tryd.func30, Tryd.ntmps30
  go_wp2_with (go_at_call 43; refine hw.mono ?_; rintro e w1 ⟨rfl, hb⟩)
  exact ⟨rfl, rfl, hb⟩
theorem peer_no (h : Rdr w0 w b g ws A i o) (hi : i < ws.length) (hn : numW ws[i] = none) : Calls Tryd.prog 30 #[.pointer (some ⟨b, 0, none⟩)] w fun e w' => e = .panicked noneP ∧ Below w0.heap.size w0 w' := by
  have hw := number_no h hi hn
  clear h
  go_enter Tryd.func30, Tryd.ntmps30
  go_wp2_with (go_at_call 43; refine hw.mono ?_; rintro e w1 ⟨rfl, hb⟩)
  exact ⟨rfl, rfl, hb⟩
theorem peer_ok (h : Rdr w0 w b g ws A i o) (hi : i < ws.length) {n : Int} (hn : numW ws[i] = some n) : Calls Tryd.prog 30 #[.pointer (some ⟨b, 0, none⟩)] w fun e w' => e = .returned (.tuple #[]) ∧ Went w0 w w' b g ws (i + 1) { o with f2 := n } := by
  have hw := number_ok h hi hn
  clear h
  go_enter Tryd.func30, Tryd.ntmps30
  go_wp2_with (go_at_call 43; refine hw.mono ?_; rintro e w1 ⟨rfl, hW⟩; obtain ⟨A1, hR1⟩ := hW.st; have HR := Aside0.mk hR1; have HW := Aside0.mk hW; have hf := hR1.fz 3; have hc := (blk_cell hR1.box 3).trans (show _ = some (Value.int .i64 o.f2) from rfl); clear hR1 hW)
  first | go_end0 | ((try simp only [Exit.inBlock, Exit.then]); refine bodyPost_ret (results_none rfl _ _ _) rfl ?_)
  exact ⟨rfl, HW.out.trans (HR.out.put 3 _ HR.out.le HR.out.at_ rfl)⟩
theorem place_nw (h : Rdr w0 w b g ws A i o) (hi : ¬ i < ws.length) : Calls Tryd.prog 26 #[.pointer (some ⟨b, 0, none⟩)] w fun e w' => e = .panicked noneP ∧ Below w0.heap.size w0 w' := by
  have hw := number_nw h hi
  clear h
  go_enter Tryd.func26, Tryd.ntmps26
  go_wp2_with (go_at_call 43; refine hw.mono ?_; rintro e w1 ⟨rfl, hb⟩)
  exact ⟨rfl, rfl, hb⟩
theorem place_no (h : Rdr w0 w b g ws A i o) (hi : i < ws.length) (hn : numW ws[i] = none) : Calls Tryd.prog 26 #[.pointer (some ⟨b, 0, none⟩)] w fun e w' => e = .panicked noneP ∧ Below w0.heap.size w0 w' := by
  have hw := number_no h hi hn
  clear h
  go_enter Tryd.func26, Tryd.ntmps26
  go_wp2_with (go_at_call 43; refine hw.mono ?_; rintro e w1 ⟨rfl, hb⟩)
  exact ⟨rfl, rfl, hb⟩
theorem place_ok (h : Rdr w0 w b g ws A i o) (hi : i < ws.length) {n : Int} (hn : numW ws[i] = some n) : Calls Tryd.prog 26 #[.pointer (some ⟨b, 0, none⟩)] w fun e w' => e = .returned (.tuple #[]) ∧ Went w0 w w' b g ws (i + 1) { o with f3 := n } := by
  have hw := number_ok h hi hn
  clear h
  go_enter Tryd.func26, Tryd.ntmps26
  go_wp2_with (go_at_call 43; refine hw.mono ?_; rintro e w1 ⟨rfl, hW⟩; obtain ⟨A1, hR1⟩ := hW.st; have HR := Aside0.mk hR1; have HW := Aside0.mk hW; have hf := hR1.fz 4; have hc := (blk_cell hR1.box 4).trans (show _ = some (Value.int .i64 o.f3) from rfl); clear hR1 hW)
  first | go_end0 | ((try simp only [Exit.inBlock, Exit.then]); refine bodyPost_ret (results_none rfl _ _ _) rfl ?_)
  exact ⟨rfl, HW.out.trans (HR.out.put 4 _ HR.out.le HR.out.at_ rfl)⟩
theorem key_nw (h : Rdr w0 w b g ws A i o) (hi : ¬ i < ws.length) : Calls Tryd.prog 27 #[.pointer (some ⟨b, 0, none⟩)] w fun e w' => e = .panicked noneP ∧ Below w0.heap.size w0 w' := by
  have hw := bytes_nw 107 h hi
  clear h
  go_enter Tryd.func27, Tryd.ntmps27
  go_wp2_with (go_at_call 44; refine hw.mono ?_; rintro e w1 ⟨rfl, hb⟩)
  exact ⟨rfl, rfl, hb⟩
theorem key_no (h : Rdr w0 w b g ws A i o) (hi : i < ws.length) (hn : bytW 107 ws[i] = none) : Calls Tryd.prog 27 #[.pointer (some ⟨b, 0, none⟩)] w fun e w' => e = .panicked noneP ∧ Below w0.heap.size w0 w' := by
  have hw := bytes_no 107 h hi hn
  clear h
  go_enter Tryd.func27, Tryd.ntmps27
  go_wp2_with (go_at_call 44; refine hw.mono ?_; rintro e w1 ⟨rfl, hb⟩)
  exact ⟨rfl, rfl, hb⟩
theorem key_ok (h : Rdr w0 w b g ws A i o) (hi : i < ws.length) {n : ByteArray} (hn : bytW 107 ws[i] = some n) : Calls Tryd.prog 27 #[.pointer (some ⟨b, 0, none⟩)] w fun e w' => e = .returned (.tuple #[]) ∧ Went w0 w w' b g ws (i + 1) { o with f4 := n } := by
  have hw := bytes_ok 107 h hi hn
  clear h
  go_enter Tryd.func27, Tryd.ntmps27
  go_wp2_with (go_at_call 44; refine hw.mono ?_; rintro e w1 ⟨rfl, hW⟩; obtain ⟨A1, hR1⟩ := hW.st; have HR := Aside0.mk hR1; have HW := Aside0.mk hW; have hf := hR1.fz 5; have hc := (blk_cell hR1.box 5).trans (show _ = some (Value.string o.f4) from rfl); clear hR1 hW)
  first | go_end0 | ((try simp only [Exit.inBlock, Exit.then]); refine bodyPost_ret (results_none rfl _ _ _) rfl ?_)
  exact ⟨rfl, HW.out.trans (HR.out.put 5 _ HR.out.le HR.out.at_ rfl)⟩
theorem value_nw (h : Rdr w0 w b g ws A i o) (hi : ¬ i < ws.length) : Calls Tryd.prog 28 #[.pointer (some ⟨b, 0, none⟩)] w fun e w' => e = .panicked noneP ∧ Below w0.heap.size w0 w' := by
  have hw := bytes_nw 61 h hi
  clear h
  go_enter Tryd.func28, Tryd.ntmps28
  go_wp2_with (go_at_call 44; refine hw.mono ?_; rintro e w1 ⟨rfl, hb⟩)
  exact ⟨rfl, rfl, hb⟩
theorem value_no (h : Rdr w0 w b g ws A i o) (hi : i < ws.length) (hn : bytW 61 ws[i] = none) : Calls Tryd.prog 28 #[.pointer (some ⟨b, 0, none⟩)] w fun e w' => e = .panicked noneP ∧ Below w0.heap.size w0 w' := by
  have hw := bytes_no 61 h hi hn
  clear h
  go_enter Tryd.func28, Tryd.ntmps28
  go_wp2_with (go_at_call 44; refine hw.mono ?_; rintro e w1 ⟨rfl, hb⟩)
  exact ⟨rfl, rfl, hb⟩
theorem value_ok (h : Rdr w0 w b g ws A i o) (hi : i < ws.length) {n : ByteArray} (hn : bytW 61 ws[i] = some n) : Calls Tryd.prog 28 #[.pointer (some ⟨b, 0, none⟩)] w fun e w' => e = .returned (.tuple #[]) ∧ Went w0 w w' b g ws (i + 1) { o with f5 := n } := by
  have hw := bytes_ok 61 h hi hn
  clear h
  go_enter Tryd.func28, Tryd.ntmps28
  go_wp2_with (go_at_call 44; refine hw.mono ?_; rintro e w1 ⟨rfl, hW⟩; obtain ⟨A1, hR1⟩ := hW.st; have HR := Aside0.mk hR1; have HW := Aside0.mk hW; have hf := hR1.fz 6; have hc := (blk_cell hR1.box 6).trans (show _ = some (Value.string o.f5) from rfl); clear hR1 hW)
  first | go_end0 | ((try simp only [Exit.inBlock, Exit.then]); refine bodyPost_ret (results_none rfl _ _ _) rfl ?_)
  exact ⟨rfl, HW.out.trans (HR.out.put 6 _ HR.out.le HR.out.at_ rfl)⟩
theorem span_nw (h : Rdr w0 w b g ws A i o) (hi : ¬ i < ws.length) : Calls Tryd.prog 29 #[.pointer (some ⟨b, 0, none⟩)] w fun e w' => e = .panicked noneP ∧ Below w0.heap.size w0 w' := by
  have hw := word_no h hi
  clear h
  go_enter Tryd.func29, Tryd.ntmps29
  go_wp2_with (go_at_call 15; refine hw.mono ?_; rintro e w1 ⟨rfl, hb⟩)
  exact ⟨rfl, rfl, hb⟩
set_option maxRecDepth 100000 in
theorem span_no (h : Rdr w0 w b g ws A i o) (hi : i < ws.length) (hn : spnW ws[i] = none) : Calls Tryd.prog 29 #[.pointer (some ⟨b, 0, none⟩)] w fun e w' => e = .panicked noneP ∧ Below w0.heap.size w0 w' := by
  have hw := word_ok h hi
  have hsz := h.short _ (List.getElem_mem hi)
  generalize ws[i] = t at hw hsz hn
  have hp := span_calls t hsz
  unfold spnW at hn
  have hq : ((spV t).2.2.2 == 0) = false := by
    split at hn
    · cases hn
    · rename_i h; exact beq_eq_false_iff_ne.2 h
  generalize (spV t).1 = s1 at hp
  generalize (spV t).2.1 = s2 at hp
  generalize (spV t).2.2.1 = s3 at hp
  generalize (spV t).2.2.2 = s4 at hp hq
  clear h hn hsz
  go_enter Tryd.func29, Tryd.ntmps29
  go_wp2_with (first
    | (go_at_call 15; refine hw.mono ?_; rintro e w1 ⟨rfl, hW⟩; obtain ⟨A1, hR1⟩ := hW.st; have HR := Aside0.mk hR1; have HW := Aside0.mk hW; clear hR1 hW)
    | (go_at_call 45; refine (hp _ HR.out.G).mono ?_; rintro e w2 ⟨rfl, hb⟩; have HB := Aside0.mk (HR.out.below hb).be; clear hb)
    | (go_at_call 16; refine (must_no _).mono ?_; rintro e w3 ⟨rfl, rfl⟩))
  exact ⟨rfl, rfl, below_alloc HB.out _⟩
set_option maxRecDepth 100000 in
theorem span_ok (h : Rdr w0 w b g ws A i o) (hi : i < ws.length) {n : S29} (hn : spnW ws[i] = some n) : Calls Tryd.prog 29 #[.pointer (some ⟨b, 0, none⟩)] w fun e w' => e = .returned (.tuple #[]) ∧ Went w0 w w' b g ws (i + 1) { o with f6 := n } := by
  have hw := word_ok h hi
  have hsz := h.short _ (List.getElem_mem hi)
  generalize ws[i] = t at hw hsz hn
  have hp := span_calls t hsz
  unfold spnW at hn
  split at hn
  · rename_i hq
    obtain rfl := Option.some.inj hn
    rw [hq] at hp
    generalize (spV t).1 = s1 at hp ⊢
    generalize (spV t).2.1 = s2 at hp ⊢
    generalize (spV t).2.2.1 = s3 at hp ⊢
    clear h hn hsz hq
    go_enter Tryd.func29, Tryd.ntmps29
    go_wp2_with (first
      | (go_at_call 15; refine hw.mono ?_; rintro e w1 ⟨rfl, hW⟩; obtain ⟨A1, hR1⟩ := hW.st; have HR := Aside0.mk hR1; have HW := Aside0.mk hW; clear hR1 hW)
      | (go_at_call 45; refine (hp _ HR.out.G).mono ?_; rintro e w2 ⟨rfl, hb⟩; have hB3 := below_alloc hb (.cells #[.string s1, .string s2, .bool s3] 29); have HW3 := Aside0.mk (HW.out.then hB3); have HR3 := Aside0.mk (HR.out.below hB3); have hf7 := HR3.out.fz 7; have hf8 := HR3.out.fz 8; have hf9 := HR3.out.fz 9; have hc7 := (blk_cell HR3.out.box 7).trans (show _ = some (Value.string o.f6.f0) from rfl); have hc8 := (blk_cell HR3.out.box 8).trans (show _ = some (Value.string o.f6.f1) from rfl); have hc9 := (blk_cell HR3.out.box 9).trans (show _ = some (Value.bool o.f6.f2) from rfl); clear hb hB3)
      | (go_at_call 16; refine (must_ok _).mono ?_; rintro e w3 ⟨rfl, rfl⟩))
    have P7 := HR3.out.put 7 (.string s1) (o2 := { o with f6 := ⟨s1, o.f6.f1, o.f6.f2⟩ }) HR3.out.le HR3.out.at_ rfl
    obtain ⟨A7, R7⟩ := P7.st
    have P8 := R7.put 8 (.string s2) (o2 := { o with f6 := ⟨s1, s2, o.f6.f2⟩ }) R7.le R7.at_ rfl
    obtain ⟨A8, R8⟩ := P8.st
    have P9 := R8.put 9 (.bool s3) (o2 := { o with f6 := ⟨s1, s2, s3⟩ }) R8.le R8.at_ rfl
    first | go_end0 | ((try simp only [Exit.inBlock, Exit.then]); refine bodyPost_ret (results_none rfl _ _ _) rfl ?_)
    exact ⟨rfl, HW3.out.trans (P7.trans (P8.trans P9))⟩
  · cases hn
end
end Go.Proofs.YtodmbjbfigifnaaDoor.Sc
end

section
-- By wip/late.py (a program of this session) out of wip/words.
set_option linter.unusedVariables false
set_option linter.unusedSimpArgs false
namespace Go.Proofs.YtodmbjbfigifnaaDoor.AppSrc
open Go.RowKit Go.Proofs.YtodmbjbfigifnaaDoorW.PrintWords
/-! append onto a row of the call's own, out of whatever source (as in Wr, without the writers). -/
theorem run_append_own_src {P : Program} (w : World) (base : Nat) (t tx ty e : TypeId) (i : TypeInfo) (z : Value) (size bytes : Nat) (ht : P.underlying t = some (.slice e)) (hi : P.info? e = some i) (hz : i.zero = some z)
    (hsize : i.size = size) (hby : i.bytes = bytes) (hzs : z.cells.size = size) (hsz : 0 < size)
    (v : Value) (n : Nat) (xs : List Value) (hown : w.ownsRow base e size v n xs) (x : Value) (m : Nat) (news : List Value) (hs : Src P size tx x m news w)
    (h63 : n + m ≤ maxLen) (hbytes : (n + m) * bytes ≤ 140737488355328) (hbase : base ≤ w.heap.size) :
    ∃ v' w', (Builtin.append_ #[t, tx] ty #[v, x]).run P w = .ok v' w' ∧ w'.ownsRow base e size v' (n + m) (xs ++ news) ∧ w.grownBy w' v.ownBlock ∧ (v'.ownBlock = v.ownBlock ∨ v'.ownBlock = some w.heap.size) := by
  subst hsize
  subst hby
  have hl := hs.newsLen
  have hsmall : n + m ≤ 9223372036854775807 := by simp only [maxLen] at h63; omega
  have hlen : (xs ++ news).length = (n + m) * i.size := by rw [List.length_append, hown.1, hl, Nat.add_mul]
  have grown : ∀ (old : Nat), old < n + m → ∀ (row : Option Nat),
      (w.drew.alloc (.cells ((xs ++ news).toArray ++ Builtin.zeroCells z.cells (grownCap w (n + m) old e - (n + m))) e)).ownsRow base e i.size
        (.slice (some ⟨w.heap.size, 0, none⟩) (n + m) (grownCap w (n + m) old e)) (n + m) (xs ++ news) ∧
      w.grownBy (w.drew.alloc (.cells ((xs ++ news).toArray ++ Builtin.zeroCells z.cells (grownCap w (n + m) old e - (n + m))) e)) row := by
    intro old ho row
    have hge := grownCap_ge w (n + m) old e
    have hcm : grownCap w (n + m) old e ≤ maxLen := grownCap_le_maxLen w (n + m) old e h63
    refine ⟨⟨hlen, .inr ⟨w.heap.size, _, _, rfl, hbase, heap_alloc_new w.drew _, hge, hcm, ?_, ?_⟩⟩, ⟨rfl, rfl, rfl, by simp, fun k hk _ => Below.heap_alloc w.drew _ k hk⟩⟩
    · simp only [Array.size_append, List.size_toArray, size_zeroCells, hzs, hlen, ← Nat.add_mul]
      congr 1
      omega
    · simp only [Array.toList_append]
      rw [← hlen]
      exact List.take_left
  rcases hown.2 with ⟨rfl, rfl⟩ | ⟨g, cap, cur, rfl, hbg, hg, hnc, hcm, hcs, htake⟩
  · have hx : xs = [] := List.eq_nil_of_length_eq_zero (by simpa using hown.1)
    subst hx
    by_cases hm : m = 0
    · subst hm
      have hn : news = [] := List.eq_nil_of_length_eq_zero (by simpa using hl)
      subst hn
      exact ⟨.slice none 0 0, w, run_append_nothing w t tx ty e i ht hi none 0 0 (Nat.le_refl _) x hs, World.ownsRow_nil w base e i.size, ⟨rfl, rfl, rfl, Nat.le_refl _, fun _ _ _ => rfl⟩, Or.inl rfl⟩
    · have hr := run_append_grow_src (P := P) w t tx ty e i z ht hi hz none 0 0 [] (by simpa using run_firstCells_none (P := P) w.drew i.size 0 0 0) x m news hs (by omega) (by omega) (growslice_fits (by omega) hbytes)
      have hgr := grown 0 (by omega) (Value.ownBlock (.slice none 0 0))
      exact ⟨_, _, hr, hgr.1, hgr.2, Or.inr rfl⟩
  · by_cases hroom : n + m ≤ cap
    · have hfit : n * i.size + news.length ≤ cur.size := by rw [hl, hcs, ← Nat.add_mul]; exact Nat.mul_le_mul_right _ hroom
      have hr := run_append_room_src (P := P) w t tx ty e i ht hi g 0 n cap x m news hs hroom (fun j hj => by rw [blk_cell hg, Array.getElem?_eq_getElem (by omega)]; rfl) (fun j hj => blk_frozen hg _)
      obtain ⟨cur', h1, h2, h3⟩ := setCells_row news (0 + n * i.size) w cur hg (by omega)
      obtain ⟨s1, s2, s3, s4⟩ := setCells_same g news (0 + n * i.size) w
      refine ⟨_, _, hr, ⟨hlen, .inr ⟨g, cap, cur', rfl, hbg, h1, hroom, hcm, by rw [h2, hcs], ?_⟩⟩, ⟨s1, s2, s3, Nat.le_of_eq s4.symm, fun k _ hk => setCells_far news _ k (fun e => hk (by simp [Value.ownBlock, e]))⟩, Or.inl rfl⟩
      rw [h3, Nat.zero_add, htake, ← hlen]
      exact List.take_left
    · have holds : ∀ j u, xs[j]? = some u → w.drew.cell? ((⟨g, 0, none⟩ : Addr).add j) = some u := fun j u hj => (by simpa using hown.cells (g := g) rfl j u hj)
      have hr := run_append_grow_src (P := P) w t tx ty e i z ht hi hz (some ⟨g, 0, none⟩) n cap xs (run_firstCells_some (P := P) w.drew i.size n ⟨g, 0, none⟩ n cap xs hown.1 holds) x m news hs (by omega) (by omega) (growslice_fits (by omega) hbytes)
      have hgr := grown cap (by omega) (Value.ownBlock (.slice (some ⟨g, 0, none⟩) n cap))
      exact ⟨_, _, hr, hgr.1, hgr.2, Or.inr rfl⟩
end Go.Proofs.YtodmbjbfigifnaaDoor.AppSrc
end

section
-- By wip/late.py (a program of this session) out of wip/words.
set_option linter.unusedVariables false
set_option linter.unusedSimpArgs false
namespace Go.Proofs.YtodmbjbfigifnaaDoor.Sc
open Go.RowKit Go.Proofs.YtodmbjbfigifnaaDoorW.PrintWords Go.Proofs.YtodmbjbfigifnaaDoor.AppSrc
/-! The forms of all commands: a map that is made anew each time. -/
def fnV (f : Nat) : Value := .func (.func f) #[] #[]
section
variable {P : Program} {w w' : World} {ops : Array Oper} {rest : List Oper} {o : Oper} {a : Act} {Q : Exit → Act → World → Prop}
/-- An append whose run is known. -/
theorem wpList_append_run (hg : o.guard = none) {x y : Operand} {t u : TypeId} (hop : o.op = Op.call { callee := Callee.builtin Builtin.append, args := #[x, y], argTypes := #[t, u] }) {vx vy v : Value} (hx : a.eval x = vx) (hy : a.eval y = vy)
    (hrun : (Builtin.append_ #[t, u] o.type #[vx, vy]).run P w = .ok v w') (hK : wpList P ops Q rest (a.put o.dst v) w') : wpList P ops Q (o :: rest) a w := by
  refine wpList_plain hg fun K' hK' => ?_
  unfold Oper.wp
  simp [execOp, hop, resolve, invoke, builtin, hx, hy, hrun, Result.andThen]
  exact hK' _ _ hK
/-- A value laid into a map, whose run is known. -/
theorem wpList_insert_run (hg : o.guard = none) {t : TypeId} {m k x : Operand} (hop : o.op = Op.insert t m k x) {vm vk vx : Value} (hm : a.eval m = vm) (hk : a.eval k = vk) (hx : a.eval x = vx)
    (hrun : (Instr.mapUpdate t vm vk vx).run P w = .ok () w') (hK : wpList P ops Q rest (a.put o.dst undef) w') : wpList P ops Q (o :: rest) a w := by
  refine wpList_plain hg fun K' hK' => ?_
  unfold Oper.wp
  simp [execOp, hop, hm, hk, hx, hrun, Result.andThen]
  exact hK' _ _ hK
end
/-- A form: its kind, and what reads its words. -/
def FVal (W : World) (v : Value) (kind : Int) (fs : List Nat) : Prop := ∃ A c, v = .agg #[.int .i64 kind, .slice A fs.length c] ∧ (fs = [] ∨ ∃ g cur, A = some ⟨g, 0, none⟩ ∧ W.heap[g]? = some (.cells cur 52 (0, 0)) ∧ ∀ (j : Nat) (f : Nat), fs[j]? = some f → cur[j]? = some (fnV f))
theorem FVal.below {W W' : World} {v : Value} {kind : Int} {fs : List Nat} (h : FVal W v kind fs) (hb : Below W.heap.size W W') : FVal W' v kind fs := by
  obtain ⟨A, c, hv, h⟩ := h
  refine ⟨A, c, hv, h.imp id ?_⟩
  rintro ⟨g, cur, hA, hg, hf⟩
  exact ⟨g, cur, hA, blk_below hg hb, hf⟩
theorem FVal.far {W : World} {v : Value} {kind : Int} {fs : List Nat} (h : FVal W v kind fs) {r : Nat} {cs : Array Value} (hr : W.heap[r]? = some (.cells cs 46 (0, 0))) (i : Nat) (u : Value) : FVal (W.setCell ⟨r, i, none⟩ u) v kind fs := by
  obtain ⟨A, c, hv, h⟩ := h
  refine ⟨A, c, hv, h.imp id ?_⟩
  rintro ⟨g, cur, hA, hg, hf⟩
  exact ⟨g, cur, hA, blk_far hg (blk_ne hg hr (by decide)) _, hf⟩
theorem infoF : ∃ i, Tryd.prog.info? 52 = some i ∧ i.zero = some .nilFunc ∧ i.size = 1 ∧ i.bytes = 8 := by
  have h : (Tryd.prog.info? 52).map (fun i => (i.zero, i.size, i.bytes)) = some (some .nilFunc, 1, 8) := by kernel_rfl
  obtain ⟨i0, hi, hz⟩ := Option.map_eq_some_iff.1 h
  simp only [Prod.mk.injEq] at hz
  exact ⟨i0, hi, hz.1, hz.2.1, hz.2.2⟩
/-- A row of functions, just made. -/
theorem ownF (w : World) (base : Nat) (hb : base ≤ w.heap.size) (f : Nat) : (w.alloc (.cells #[fnV f] 52)).ownsRow base 52 1 (.slice (some ⟨w.heap.size, 0, none⟩) 1 1) 1 [fnV f] :=
  ⟨rfl, .inr ⟨w.heap.size, 1, _, rfl, hb, heap_alloc_new _ _, Nat.le_refl _, by simp [maxLen], rfl, rfl⟩⟩
theorem srcF {w : World} {g : Nat} {fs : List Nat} (h : w.heap[g]? = some (.cells (fs.map fnV).toArray 52 (0, 0))) : Src Tryd.prog 1 44 (.slice (some ⟨g, 0, none⟩) fs.length fs.length) fs.length (fs.map fnV) w := by
  refine Src.ofSlice w Tryd.underlying44 _ _ _ _ (by simp) (fun j u hj => ?_) (by intro u hu; obtain ⟨x, _, rfl⟩ := List.mem_map.1 hu; rfl)
  rw [add_plain, blk_cell h _]
  simpa using hj
theorem own_rowF {W : World} {base n : Nat} {v : Value} {fs : List Nat} (h : W.ownsRow base 52 1 v n (fs.map fnV)) (kind : Int) : ∃ A c, v = .slice A fs.length c ∧ FVal W (.agg #[.int .i64 kind, v]) kind fs := by
  obtain ⟨hl, h⟩ := h
  have hn : n = fs.length := by simpa using hl.symm
  subst hn
  rcases h with ⟨rfl, h0⟩ | ⟨g, cap, cur, rfl, _, hg, _, _, _, ht⟩
  · exact ⟨none, 0, by rw [h0], none, 0, by rw [h0], .inl (List.eq_nil_of_length_eq_zero h0)⟩
  · refine ⟨_, _, rfl, _, _, rfl, .inr ⟨g, cur, rfl, hg, fun j f hj => ?_⟩⟩
    have h1 : (fs.map fnV)[j]? = some (fnV f) := by rw [List.getElem?_map, hj]; rfl
    rw [← ht] at h1
    have hlt := (List.getElem?_eq_some_iff.1 h1).1
    rw [List.getElem?_take_of_lt (by simpa using (by rw [List.length_take] at hlt; omega : j < fs.length * 1))] at h1
    rwa [← Array.getElem?_toList]
set_option maxRecDepth 100000 in
theorem forms1_calls (kind : Int) (mv : Value) (more : List Nat) (w : World) (hm : more.length ≤ 3) (hsrc : ∀ W, Below w.heap.size w W → Src Tryd.prog 1 44 mv more.length (more.map fnV) W) :
    Calls Tryd.prog 23 #[.int .i64 kind, mv] w fun e w' => ∃ v, e = .returned v ∧ FVal w' v kind (24 :: more) ∧ Below w.heap.size w w' := by
  obtain ⟨i0, hi, hz0, hz1, hz2⟩ := infoF
  have hB1 := below_alloc (Below.refl w.heap.size w) (.cells #[.int .i64 0, .slice none 0 0] 46)
  have hB2 := below_alloc hB1 (.cells #[fnV 24] 52)
  obtain ⟨v', w1, hr, h1, h2, h3⟩ := run_append_own_src (P := Tryd.prog) ((w.alloc (.cells #[.int .i64 0, .slice none 0 0] 46)).alloc (.cells #[fnV 24] 52)) (w.heap.size + 1) 44 44 44 52 i0 .nilFunc 1 8 Tryd.underlying44 hi hz0 hz1 hz2 rfl (by decide) _ 1 _ (ownF _ _ (by simp) _) mv more.length _ (hsrc _ hB2) (by simp only [maxLen]; omega) (by omega) (by simp)
  have hx := blk_grown (blk_alloc (heap_alloc_new w (.cells #[.int .i64 0, .slice none 0 0] 46)) (.cells #[fnV 24] 52)) h2 (by simp [Value.ownBlock])
  have hB3 := pw_below_grown hB2 _ hB2.size h2 (fun k e => by
    have : k = w.heap.size + 1 := by simpa [Value.ownBlock] using e.symm
    omega)
  rw [show [fnV 24] ++ more.map fnV = (24 :: more).map fnV from rfl] at h1
  obtain ⟨A, c, rfl, hF⟩ := own_rowF h1 kind
  rw [World.size_alloc] at hr
  unfold fnV at hr
  have H := Aside0.mk (And.intro hF (And.intro hx hB3))
  have hc0 := (blk_cell hx 0).trans (show _ = some (Value.int .i64 0) from rfl)
  have hc1 := (blk_cell hx 1).trans (show _ = some (Value.slice none 0 0) from rfl)
  have hf0 := blk_frozen hx 0
  have hf1 := blk_frozen hx 1
  clear h1 h2 h3 hF hx hB1 hB2 hB3 hsrc hi hz0 hz1 hz2
  go_enter Tryd.func23, Tryd.ntmps23
  go_wp2_with (at_builtin; refine wpList_append_run rfl rfl rfl rfl hr ?_)
  have hx1 := blk_put H.out.2.1 0 (.int .i64 kind) (show _ = #[.int .i64 kind, .slice none 0 0] from rfl)
  refine bodyPost_ret (results_cell_row rfl _ _ w.heap.size 46 #[.int .i64 kind, .slice A (more.length + 1) c] (0, 0) _ rfl (blk_put hx1 1 _ rfl) Tryd.underlying46 rfl (by kernel_rfl)) rfl ?_
  exact ⟨_, rfl, (H.out.1.far H.out.2.1 0 _).far hx1 1 _, below_set (below_set H.out.2.2 (Nat.le_refl _)) (Nat.le_refl _)⟩
theorem forms1_nil (kind : Int) (w : World) : Calls Tryd.prog 23 #[.int .i64 kind, .slice none 0 0] w fun e w' => ∃ v, e = .returned v ∧ FVal w' v kind [24] ∧ Below w.heap.size w w' :=
  forms1_calls kind _ [] w (by simp) (fun W _ => Src.ofNil W Tryd.underlying44 0)
theorem forms1_row (kind : Int) (fs : List Nat) (hf : fs.length ≤ 3) (w : World) (n : Nat) (hn : w.heap.size = n) : Calls Tryd.prog 23 #[.int .i64 kind, .slice (some ⟨n, 0, none⟩) fs.length fs.length] (w.alloc (.cells (fs.map fnV).toArray 52)) fun e w' => ∃ v, e = .returned v ∧ FVal w' v kind (24 :: fs) ∧ Below w.heap.size w w' := by
  subst hn
  exact (forms1_calls kind _ fs (w.alloc (.cells (fs.map fnV).toArray 52)) hf (fun W hb => srcF (blk_below (heap_alloc_new w _) hb))).mono fun e w' ⟨v, h1, h2, h3⟩ => ⟨v, h1, h2, below_step (below_alloc (Below.refl _ _) _) h3⟩
theorem forms1_one (kind : Int) (f : Nat) (w : World) (n : Nat) (hn : w.heap.size = n) : Calls Tryd.prog 23 #[.int .i64 kind, .slice (some ⟨n, 0, none⟩) 1 1] (w.alloc (.cells #[.func (.func f) #[] #[]] 52)) fun e w' => ∃ v, e = .returned v ∧ FVal w' v kind [24, f] ∧ Below w.heap.size w w' :=
  forms1_row kind [f] (by simp) w n hn
theorem forms1_two (kind : Int) (f g : Nat) (w : World) (n : Nat) (hn : w.heap.size = n) : Calls Tryd.prog 23 #[.int .i64 kind, .slice (some ⟨n, 0, none⟩) 2 2] (w.alloc (.cells #[.func (.func f) #[] #[], .func (.func g) #[] #[]] 52)) fun e w' => ∃ v, e = .returned v ∧ FVal w' v kind [24, f, g] ∧ Below w.heap.size w w' :=
  forms1_row kind [f, g] (by simp) w n hn
theorem forms2_calls (kind : Int) (w : World) : Calls Tryd.prog 25 #[.int .i64 kind] w fun e w' => ∃ v, e = .returned v ∧ FVal w' v kind [26] ∧ Below w.heap.size w w' := by
  go_enter Tryd.func25, Tryd.ntmps25
  go_wp2
  have hB := below_alloc (below_alloc (Below.refl w.heap.size w) (.cells #[.int .i64 kind, .slice (some ⟨w.heap.size + 1, 0, none⟩) 1 1] 46)) (.cells #[.func (.func 26) #[] #[]] 52)
  have h0 := blk_alloc (heap_alloc_new w (.cells #[.int .i64 kind, .slice (some ⟨w.heap.size + 1, 0, none⟩) 1 1] 46)) (.cells #[.func (.func 26) #[] #[]] 52)
  have h1 := heap_alloc_new (w.alloc (.cells #[.int .i64 kind, .slice (some ⟨w.heap.size + 1, 0, none⟩) 1 1] 46)) (.cells #[.func (.func 26) #[] #[]] 52)
  rw [World.size_alloc] at h1
  refine bodyPost_ret (results_cell_row rfl _ _ w.heap.size 46 #[.int .i64 kind, .slice (some ⟨w.heap.size + 1, 0, none⟩) 1 1] (0, 0) _ rfl h0 Tryd.underlying46 rfl (by kernel_rfl)) rfl ?_
  refine ⟨_, rfl, ⟨_, _, rfl, .inr ⟨_, _, rfl, h1, fun j f hj => ?_⟩⟩, hB⟩
  match j, hj with
  | 0, hj => cases hj; rfl
/-! The map. -/
theorem findNow_str (s : ByteArray) : ∀ (es : List MapEntry) (l : List (ByteArray × Value)) (i : Nat), es.map (fun e => (e.key, e.val)) = l.map (fun p => (Value.string p.1, p.2)) →
    ∃ j, Instr.findNow .string (.string s) es i = some ((l.lookup s).map fun v => (j, v))
  | [], [], i, _ => ⟨0, rfl⟩
  | [], _ :: _, _, h => by simp at h
  | _ :: _, [], _, h => by simp at h
  | e :: es, p :: l, i, h => by
    simp only [List.map_cons, List.cons.injEq, Prod.mk.injEq] at h
    obtain ⟨⟨h1, h2⟩, h3⟩ := h
    unfold Instr.findNow
    rw [h1]
    simp only [Instr.sameNow]
    by_cases hs : s = p.1
    · subst hs
      refine ⟨i, ?_⟩
      have e1 : (p.1 == p.1) = true := (MapKept.bytes_beq _ _).2 rfl
      rw [e1]
      simp only [h2]
      rw [show p :: l = (p.1, p.2) :: l from rfl, List.lookup_cons, e1]
      rfl
    · have e1 : (s == p.1) = false := by rw [Bool.eq_false_iff]; exact fun e => hs ((MapKept.bytes_beq _ _).1 e)
      obtain ⟨j, hj⟩ := findNow_str s es l (i + 1) h3
      refine ⟨j, ?_⟩
      rw [e1]
      simp only [hj]
      rw [show p :: l = (p.1, p.2) :: l from rfl, List.lookup_cons, e1]
theorem run_insert {P : Program} {w : World} {mty kt et : TypeId} {r clock : Nat} {es : Array MapEntry} {l : List (ByteArray × Value)} (hm : P.underlying mty = some (.map kt et)) (hk : P.underlying kt = some .string)
    (hb : w.heap[r]? = some (.map es clock)) (he : es.toList.map (fun e => (e.key, e.val)) = l.map (fun p => (Value.string p.1, p.2))) {s : ByteArray} (hs : l.lookup s = none) (val : Value) :
    (Instr.mapUpdate mty (.map (some r)) (.string s) val).run P w = .ok () (w.putObj r (.map (es.push { key := .string s, val := val, born := clock }) (clock + 1))) := by
  obtain ⟨j, hf⟩ := findNow_str s es.toList l 0 he
  rw [hs] at hf
  have hc : (Instr.checkKey false 10000 kt (.string s)).run P w = .ok () w := MapKept.run_checkKey (k := .string s) hk (by simp [MapKept.IsKey]) false 9999
  simp [Instr.mapUpdate, run_underlying hm, MapKept.run_getObj_map hb, hc, MapKept.run_findKey hk hf, MapKept.run_setObj_map _ hb, Result.andThen]
  rfl
theorem run_look {P : Program} {w : World} {mty kt et : TypeId} {r clock : Nat} {es : Array MapEntry} {l : List (ByteArray × Value)} (hm : P.underlying mty = some (.map kt et)) (hk : P.underlying kt = some .string)
    (hb : w.heap[r]? = some (.map es clock)) (he : es.toList.map (fun e => (e.key, e.val)) = l.map (fun p => (Value.string p.1, p.2))) {z : Value} (hz : (zeroValue et).run P w = .ok z w) (s : ByteArray) :
    (Instr.lookup mty (.map (some r)) (.string s) true).run P w = .ok (.tuple #[((l.lookup s).getD z), .bool (l.lookup s).isSome]) w := by
  obtain ⟨j, hf⟩ := findNow_str s es.toList l 0 he
  have hc : ∀ b, (Instr.checkKey b 10000 kt (.string s)).run P w = .ok () w := fun b => MapKept.run_checkKey (k := .string s) hk (by simp [MapKept.IsKey]) b 9999
  simp [Instr.lookup, run_underlying hm, MapKept.run_getObj_map hb, hc, MapKept.run_findKey hk hf, Result.andThen]
  cases l.lookup s with
  | none => simp [hz, Result.andThen]
  | some v => simp [Result.andThen]
def Vals (W : World) : List (ByteArray × Value) → List (ByteArray × Int × List Nat) → Prop
  | [], [] => True
  | p :: vs, x :: l => p.1 = x.1 ∧ FVal W p.2 x.2.1 x.2.2 ∧ Vals W vs l
  | _, _ => False
theorem Vals.imp {W W' : World} (hi : ∀ v kind fs, FVal W v kind fs → FVal W' v kind fs) : ∀ {vs : List (ByteArray × Value)} {l : List (ByteArray × Int × List Nat)}, Vals W vs l → Vals W' vs l
  | [], [], _ => trivial
  | p :: vs, x :: l, h => ⟨h.1, hi _ _ _ h.2.1, Vals.imp hi h.2.2⟩
  | [], _ :: _, h => h.elim
  | _ :: _, [], h => h.elim
theorem Vals.snoc {W : World} {p : ByteArray × Value} {x : ByteArray × Int × List Nat} (h1 : p.1 = x.1) (h2 : FVal W p.2 x.2.1 x.2.2) : ∀ {vs : List (ByteArray × Value)} {l : List (ByteArray × Int × List Nat)}, Vals W vs l → Vals W (vs ++ [p]) (l ++ [x])
  | [], [], _ => ⟨h1, h2, trivial⟩
  | _ :: _, _ :: _, h => ⟨h.1, h.2.1, Vals.snoc h1 h2 h.2.2⟩
  | [], _ :: _, h => h.elim
  | _ :: _, [], h => h.elim
/-- A map of forms while it is made. -/
structure Forms (w0 W : World) (m : Nat) (l : List (ByteArray × Int × List Nat)) : Prop where
  map : ∃ es clock vs, W.heap[m]? = some (.map es clock) ∧ es.toList.map (fun e => (e.key, e.val)) = (vs : List (ByteArray × Value)).map (fun p => (Value.string p.1, p.2)) ∧ Vals W vs l
  lo : w0.heap.size ≤ m
  be : Below w0.heap.size w0 W
theorem FVal.put {W : World} {v : Value} {kind : Int} {fs : List Nat} (h : FVal W v kind fs) {m : Nat} {es : Array MapEntry} {c : Nat} (hm : W.heap[m]? = some (.map es c)) (o : Obj) : FVal (W.putObj m o) v kind fs := by
  obtain ⟨A, c, hv, h⟩ := h
  refine ⟨A, c, hv, h.imp id ?_⟩
  rintro ⟨g, cur, hA, hg, hf⟩
  refine ⟨g, cur, hA, (World.putObj_heap_other ?_).trans hg, hf⟩
  rintro rfl
  rw [hg] at hm
  cases hm
theorem Forms.below {w0 W W' : World} {m : Nat} {l : List (ByteArray × Int × List Nat)} (h : Forms w0 W m l) (hb : Below W.heap.size W W') : Forms w0 W' m l := by
  obtain ⟨⟨es, clock, vs, h1, h2, h3⟩, h4, h5⟩ := h
  exact ⟨⟨es, clock, vs, blk_below h1 hb, h2, h3.imp fun v k f h => h.below hb⟩, h4, below_then h5 h5.size hb⟩
theorem forall_lookup {W : World} : ∀ {vs : List (ByteArray × Value)} {l : List (ByteArray × Int × List Nat)}, Vals W vs l → ∀ s,
    match l.lookup s with | none => vs.lookup s = none | some (kind, fs) => ∃ v, vs.lookup s = some v ∧ FVal W v kind fs
  | [], [], _, s => by simp [List.lookup]
  | [], _ :: _, h, _ => h.elim
  | _ :: _, [], h, _ => h.elim
  | (k, v) :: vs, (k', kind, fs) :: l, h, s => by
    obtain ⟨h1, h2, t⟩ := h
    simp only at h1 h2
    subst h1
    simp only [List.lookup_cons]
    cases hs : (s == k) with
    | true => exact ⟨v, rfl, h2⟩
    | false => exact forall_lookup t s
/-- One more. -/
theorem Forms.add {w0 W : World} {m : Nat} {l : List (ByteArray × Int × List Nat)} (h : Forms w0 W m l) {s : ByteArray} (hs : l.lookup s = none) {v : Value} {kind : Int} {fs : List Nat} (hv : FVal W v kind fs) :
    ∃ W', (Instr.mapUpdate 48 (.map (some m)) (.string s) v).run Tryd.prog W = .ok () W' ∧ Forms w0 W' m (l ++ [(s, kind, fs)]) := by
  obtain ⟨⟨es, clock, vs, h1, h2, h3⟩, h4, h5⟩ := h
  have hvs : vs.lookup s = none := by
    have := forall_lookup h3 s
    rw [hs] at this
    exact this
  refine ⟨_, run_insert Tryd.underlying48 Tryd.underlying9 h1 h2 hvs v, ⟨⟨_, _, vs ++ [(s, v)], World.putObj_heap_same (blk_lt h1), ?_, ?_⟩, h4, ?_⟩⟩
  · simp only [Array.toList_push, List.map_append, h2, List.map_cons, List.map_nil]
  · exact Vals.snoc (x := (s, kind, fs)) rfl (hv.put h1 _) (h3.imp fun v k f h => h.put h1 _)
  · exact h5.grown (grownBy_putObj' W m _) h5.size (fun k e => by cases e; exact h4)
end Go.Proofs.YtodmbjbfigifnaaDoor.Sc
end

section
-- By wip/late.py (a program of this session) out of wip/words.
set_option linter.unusedVariables false
set_option linter.unusedSimpArgs false
namespace Go.Proofs.YtodmbjbfigifnaaDoor.Sc
open Go.RowKit Go.Proofs.YtodmbjbfigifnaaDoorW.PrintWords
/-! The forms of all commands. By wip/genscd.py. -/
/-- Each command's first word, its kind, and what reads its further words. -/
def specs : List (ByteArray × Int × List Nat) := [(⟨#[112, 117, 116]⟩, 1, [24, 27, 28]), (⟨#[100, 101, 108]⟩, 2, [24, 27]), (⟨#[103, 101, 116]⟩, 3, [24, 27]), (⟨#[115, 99, 97, 110]⟩, 4, [24, 29]), (⟨#[102, 111, 108, 100]⟩, 5, [24, 29]), (⟨#[111, 112, 101, 110]⟩, 6, [24, 30]), (⟨#[114, 97, 119]⟩, 10, [24, 28]), (⟨#[116, 105, 99, 107]⟩, 11, [24]), (⟨#[99, 114, 97, 115, 104]⟩, 12, [24]), (⟨#[115, 116, 97, 114, 116]⟩, 13, [24]), (⟨#[109, 97, 112]⟩, 14, [24]), (⟨#[116, 97, 108, 107, 115]⟩, 15, [24]), (⟨#[99, 111, 117, 110, 116]⟩, 16, [24]), (⟨#[103, 111]⟩, 7, [26]), (⟨#[100, 114, 111, 112]⟩, 8, [26]), (⟨#[116, 119, 105, 99, 101]⟩, 9, [26]), (⟨#[98, 97, 103]⟩, 17, [])]
theorem FVal.none (W : World) (kind : Int) : FVal W (.agg #[.int .i64 kind, .slice none 0 0]) kind [] := by
  unfold FVal
  exact ⟨_, _, rfl, .inl rfl⟩
set_option maxRecDepth 100000 in
set_option maxHeartbeats 4000000 in
theorem forms_calls (w : World) : Calls Tryd.prog 14 #[] w fun e w' => ∃ m, e = .returned (.map (some m)) ∧ Forms w w' m specs := by
  have HF0 : Aside0 (Forms w (w.alloc (.map #[] 0)) w.heap.size []) := ⟨⟨⟨#[], 0, [], heap_alloc_new w _, rfl, trivial⟩, Nat.le_refl _, below_alloc (Below.refl _ _) _⟩⟩
  have hmm := @run_makeMap Tryd.prog
  go_enter Tryd.func14, Tryd.ntmps14
  go_wp2_with (first
    | (go_at_call 23; with_reducible refine (forms1_one 2 27 _ _ ?hn).mono ?_; (case hn => first | rfl | exact World.size_alloc _ _); rintro e w1 ⟨v, rfl, hv, hb⟩; obtain ⟨W1, hr_del, hF⟩ := (HF_put.out.below hb).add (s := ⟨#[100, 101, 108]⟩) (by decide +kernel) hv; have HF_del := Aside0.mk hF; clear hv hb hF)
    | (go_at_call 23; with_reducible refine (forms1_one 3 27 _ _ ?hn).mono ?_; (case hn => first | rfl | exact World.size_alloc _ _); rintro e w1 ⟨v, rfl, hv, hb⟩; obtain ⟨W1, hr_get, hF⟩ := (HF_del.out.below hb).add (s := ⟨#[103, 101, 116]⟩) (by decide +kernel) hv; have HF_get := Aside0.mk hF; clear hv hb hF)
    | (go_at_call 23; with_reducible refine (forms1_one 4 29 _ _ ?hn).mono ?_; (case hn => first | rfl | exact World.size_alloc _ _); rintro e w1 ⟨v, rfl, hv, hb⟩; obtain ⟨W1, hr_scan, hF⟩ := (HF_get.out.below hb).add (s := ⟨#[115, 99, 97, 110]⟩) (by decide +kernel) hv; have HF_scan := Aside0.mk hF; clear hv hb hF)
    | (go_at_call 23; with_reducible refine (forms1_one 5 29 _ _ ?hn).mono ?_; (case hn => first | rfl | exact World.size_alloc _ _); rintro e w1 ⟨v, rfl, hv, hb⟩; obtain ⟨W1, hr_fold, hF⟩ := (HF_scan.out.below hb).add (s := ⟨#[102, 111, 108, 100]⟩) (by decide +kernel) hv; have HF_fold := Aside0.mk hF; clear hv hb hF)
    | (go_at_call 23; with_reducible refine (forms1_one 6 30 _ _ ?hn).mono ?_; (case hn => first | rfl | exact World.size_alloc _ _); rintro e w1 ⟨v, rfl, hv, hb⟩; obtain ⟨W1, hr_open, hF⟩ := (HF_fold.out.below hb).add (s := ⟨#[111, 112, 101, 110]⟩) (by decide +kernel) hv; have HF_open := Aside0.mk hF; clear hv hb hF)
    | (go_at_call 23; with_reducible refine (forms1_one 10 28 _ _ ?hn).mono ?_; (case hn => first | rfl | exact World.size_alloc _ _); rintro e w1 ⟨v, rfl, hv, hb⟩; obtain ⟨W1, hr_raw, hF⟩ := (HF_open.out.below hb).add (s := ⟨#[114, 97, 119]⟩) (by decide +kernel) hv; have HF_raw := Aside0.mk hF; clear hv hb hF)
    | (go_at_call 23; with_reducible refine (forms1_nil 11 _).mono ?_; rintro e w1 ⟨v, rfl, hv, hb⟩; obtain ⟨W1, hr_tick, hF⟩ := (HF_raw.out.below hb).add (s := ⟨#[116, 105, 99, 107]⟩) (by decide +kernel) hv; have HF_tick := Aside0.mk hF; clear hv hb hF)
    | (go_at_call 23; with_reducible refine (forms1_nil 12 _).mono ?_; rintro e w1 ⟨v, rfl, hv, hb⟩; obtain ⟨W1, hr_crash, hF⟩ := (HF_tick.out.below hb).add (s := ⟨#[99, 114, 97, 115, 104]⟩) (by decide +kernel) hv; have HF_crash := Aside0.mk hF; clear hv hb hF)
    | (go_at_call 23; with_reducible refine (forms1_nil 13 _).mono ?_; rintro e w1 ⟨v, rfl, hv, hb⟩; obtain ⟨W1, hr_start, hF⟩ := (HF_crash.out.below hb).add (s := ⟨#[115, 116, 97, 114, 116]⟩) (by decide +kernel) hv; have HF_start := Aside0.mk hF; clear hv hb hF)
    | (go_at_call 23; with_reducible refine (forms1_nil 14 _).mono ?_; rintro e w1 ⟨v, rfl, hv, hb⟩; obtain ⟨W1, hr_map, hF⟩ := (HF_start.out.below hb).add (s := ⟨#[109, 97, 112]⟩) (by decide +kernel) hv; have HF_map := Aside0.mk hF; clear hv hb hF)
    | (go_at_call 23; with_reducible refine (forms1_nil 15 _).mono ?_; rintro e w1 ⟨v, rfl, hv, hb⟩; obtain ⟨W1, hr_talks, hF⟩ := (HF_map.out.below hb).add (s := ⟨#[116, 97, 108, 107, 115]⟩) (by decide +kernel) hv; have HF_talks := Aside0.mk hF; clear hv hb hF)
    | (go_at_call 23; with_reducible refine (forms1_nil 16 _).mono ?_; rintro e w1 ⟨v, rfl, hv, hb⟩; obtain ⟨W1, hr_count, hF⟩ := (HF_talks.out.below hb).add (s := ⟨#[99, 111, 117, 110, 116]⟩) (by decide +kernel) hv; have HF_count := Aside0.mk hF; clear hv hb hF)
    | (go_at_call 25; with_reducible refine (forms2_calls 7 _).mono ?_; rintro e w1 ⟨v, rfl, hv, hb⟩; obtain ⟨W1, hr_go, hF⟩ := (HF_count.out.below hb).add (s := ⟨#[103, 111]⟩) (by decide +kernel) hv; have HF_go := Aside0.mk hF; clear hv hb hF)
    | (go_at_call 25; with_reducible refine (forms2_calls 8 _).mono ?_; rintro e w1 ⟨v, rfl, hv, hb⟩; obtain ⟨W1, hr_drop, hF⟩ := (HF_go.out.below hb).add (s := ⟨#[100, 114, 111, 112]⟩) (by decide +kernel) hv; have HF_drop := Aside0.mk hF; clear hv hb hF)
    | (go_at_call 25; with_reducible refine (forms2_calls 9 _).mono ?_; rintro e w1 ⟨v, rfl, hv, hb⟩; obtain ⟨W1, hr_twice, hF⟩ := (HF_drop.out.below hb).add (s := ⟨#[116, 119, 105, 99, 101]⟩) (by decide +kernel) hv; have HF_twice := Aside0.mk hF; clear hv hb hF; obtain ⟨W2, hr_bag, hF⟩ := HF_twice.out.add (s := ⟨#[98, 97, 103]⟩) (v := .agg #[.int .i64 17, .slice none 0 0]) (kind := 17) (fs := []) (by decide +kernel) (FVal.none _ _); have HF_bag := Aside0.mk hF; clear hF)
    | (go_at_call 23; with_reducible refine (forms1_two 1 27 28 _ _ ?hn).mono ?_; (case hn => first | rfl | exact World.size_alloc _ _); rintro e w1 ⟨v, rfl, hv, hb⟩; obtain ⟨W1, hr_put, hF⟩ := (HF0.out.below hb).add (s := ⟨#[112, 117, 116]⟩) (by decide +kernel) hv; have HF_put := Aside0.mk hF; clear hv hb hF)
    | ((with_reducible refine wpList_insert_run ?hg ?hop ?hm ?hk ?hx hr_put ?_); (case hop => rfl); (case hg => rfl); (case hm => rfl); (case hk => rfl); (case hx => rfl); clear hr_put)
    | ((with_reducible refine wpList_insert_run ?hg ?hop ?hm ?hk ?hx hr_del ?_); (case hop => rfl); (case hg => rfl); (case hm => rfl); (case hk => rfl); (case hx => rfl); clear hr_del)
    | ((with_reducible refine wpList_insert_run ?hg ?hop ?hm ?hk ?hx hr_get ?_); (case hop => rfl); (case hg => rfl); (case hm => rfl); (case hk => rfl); (case hx => rfl); clear hr_get)
    | ((with_reducible refine wpList_insert_run ?hg ?hop ?hm ?hk ?hx hr_scan ?_); (case hop => rfl); (case hg => rfl); (case hm => rfl); (case hk => rfl); (case hx => rfl); clear hr_scan)
    | ((with_reducible refine wpList_insert_run ?hg ?hop ?hm ?hk ?hx hr_fold ?_); (case hop => rfl); (case hg => rfl); (case hm => rfl); (case hk => rfl); (case hx => rfl); clear hr_fold)
    | ((with_reducible refine wpList_insert_run ?hg ?hop ?hm ?hk ?hx hr_open ?_); (case hop => rfl); (case hg => rfl); (case hm => rfl); (case hk => rfl); (case hx => rfl); clear hr_open)
    | ((with_reducible refine wpList_insert_run ?hg ?hop ?hm ?hk ?hx hr_raw ?_); (case hop => rfl); (case hg => rfl); (case hm => rfl); (case hk => rfl); (case hx => rfl); clear hr_raw)
    | ((with_reducible refine wpList_insert_run ?hg ?hop ?hm ?hk ?hx hr_tick ?_); (case hop => rfl); (case hg => rfl); (case hm => rfl); (case hk => rfl); (case hx => rfl); clear hr_tick)
    | ((with_reducible refine wpList_insert_run ?hg ?hop ?hm ?hk ?hx hr_crash ?_); (case hop => rfl); (case hg => rfl); (case hm => rfl); (case hk => rfl); (case hx => rfl); clear hr_crash)
    | ((with_reducible refine wpList_insert_run ?hg ?hop ?hm ?hk ?hx hr_start ?_); (case hop => rfl); (case hg => rfl); (case hm => rfl); (case hk => rfl); (case hx => rfl); clear hr_start)
    | ((with_reducible refine wpList_insert_run ?hg ?hop ?hm ?hk ?hx hr_map ?_); (case hop => rfl); (case hg => rfl); (case hm => rfl); (case hk => rfl); (case hx => rfl); clear hr_map)
    | ((with_reducible refine wpList_insert_run ?hg ?hop ?hm ?hk ?hx hr_talks ?_); (case hop => rfl); (case hg => rfl); (case hm => rfl); (case hk => rfl); (case hx => rfl); clear hr_talks)
    | ((with_reducible refine wpList_insert_run ?hg ?hop ?hm ?hk ?hx hr_count ?_); (case hop => rfl); (case hg => rfl); (case hm => rfl); (case hk => rfl); (case hx => rfl); clear hr_count)
    | ((with_reducible refine wpList_insert_run ?hg ?hop ?hm ?hk ?hx hr_go ?_); (case hop => rfl); (case hg => rfl); (case hm => rfl); (case hk => rfl); (case hx => rfl); clear hr_go)
    | ((with_reducible refine wpList_insert_run ?hg ?hop ?hm ?hk ?hx hr_drop ?_); (case hop => rfl); (case hg => rfl); (case hm => rfl); (case hk => rfl); (case hx => rfl); clear hr_drop)
    | ((with_reducible refine wpList_insert_run ?hg ?hop ?hm ?hk ?hx hr_twice ?_); (case hop => rfl); (case hg => rfl); (case hm => rfl); (case hk => rfl); (case hx => rfl); clear hr_twice)
    | ((with_reducible refine wpList_insert_run ?hg ?hop ?hm ?hk ?hx hr_bag ?_); (case hop => rfl); (case hg => rfl); (case hm => rfl); (case hk => rfl); (case hx => rfl); clear hr_bag))
  go_ret
  exact ⟨_, rfl, HF_bag.out⟩
end Go.Proofs.YtodmbjbfigifnaaDoor.Sc
end

section
-- By wip/late.py (a program of this session) out of wip/words.
set_option linter.unusedVariables false
set_option linter.unusedSimpArgs false
namespace Go.Proofs.YtodmbjbfigifnaaDoor.Sc
open Go.RowKit Go.Proofs.YtodmbjbfigifnaaDoor.Glob Go.Proofs.YtodmbjbfigifnaaDoor.Dig Go.Proofs.YtodmbjbfigifnaaDoorW.PrintWords Go.Proofs.YtodmbjbfigifnaaDoor.PAll Go.Proofs.YtodmbjbfigifnaaDoor.Pure
/-! A line: script.Parse. -/
def z9 : List Value := [.int .i64 0, .int .i64 0, .int .i64 0, .int .i64 0, .string ⟨#[]⟩, .string ⟨#[]⟩, .string ⟨#[]⟩, .string ⟨#[]⟩, .bool false]
/-- The two results, in their boxes. -/
structure Res (W : World) (p q : Nat) (o : OpT) (e : Int) : Prop where
  op : W.heap[p]? = some (.cells #[.int .i64 o.f0, .int .i64 o.f1, .int .i64 o.f2, .int .i64 o.f3, .string o.f4, .string o.f5, .string o.f6.f0, .string o.f6.f1, .bool o.f6.f2] 31 (0, 0))
  er : W.heap[q]? = some (.cells #[.int .i64 e] 23 (0, 0))
theorem Res.below {W W' : World} {p q : Nat} {o : OpT} {e : Int} (h : Res W p q o e) (hb : Below W.heap.size W W') : Res W' p q o e := ⟨blk_below h.op hb, blk_below h.er hb⟩
def zOp : OpT := ⟨0, 0, 0, 0, ⟨#[]⟩, ⟨#[]⟩, ⟨⟨#[]⟩, ⟨#[]⟩, false⟩⟩
def opA (o : OpT) : Array Value := #[.int .i64 o.f0, .int .i64 o.f1, .int .i64 o.f2, .int .i64 o.f3, .string o.f4, .string o.f5, .string o.f6.f0, .string o.f6.f1, .bool o.f6.f2]
/-- A command, as it is handed over. -/
abbrev opX (o : OpT) : Value := .agg #[.int .i64 o.f0, .int .i64 o.f1, .int .i64 o.f2, .int .i64 o.f3, .string o.f4, .string o.f5, .string o.f6.f0, .string o.f6.f1, .bool o.f6.f2]
/-- A command is written over another one. -/
def setOp (W : World) (p : Nat) (o : OpT) : World := (((((((((W.setCell ⟨p, 0, none⟩ (.int .i64 o.f0)).setCell ⟨p, 1, none⟩ (.int .i64 o.f1)).setCell ⟨p, 2, none⟩ (.int .i64 o.f2)).setCell ⟨p, 3, none⟩ (.int .i64 o.f3)).setCell ⟨p, 4, none⟩ (.string o.f4)).setCell ⟨p, 5, none⟩ (.string o.f5)).setCell ⟨p, 6, none⟩ (.string o.f6.f0)).setCell ⟨p, 7, none⟩ (.string o.f6.f1)).setCell ⟨p, 8, none⟩ (.bool o.f6.f2))
theorem setOp_same {W : World} {p : Nat} {o0 : OpT} {t : TypeId} (h : W.heap[p]? = some (.cells (opA o0) t (0, 0))) (o : OpT) : (setOp W p o).heap[p]? = some (.cells (opA o) t (0, 0)) := by
  unfold setOp
  exact blk_put (cs := #[.int .i64 o.f0, .int .i64 o.f1, .int .i64 o.f2, .int .i64 o.f3, .string o.f4, .string o.f5, .string o.f6.f0, .string o.f6.f1, .bool o0.f6.f2])
    (blk_put (cs := #[.int .i64 o.f0, .int .i64 o.f1, .int .i64 o.f2, .int .i64 o.f3, .string o.f4, .string o.f5, .string o.f6.f0, .string o0.f6.f1, .bool o0.f6.f2])
    (blk_put (cs := #[.int .i64 o.f0, .int .i64 o.f1, .int .i64 o.f2, .int .i64 o.f3, .string o.f4, .string o.f5, .string o0.f6.f0, .string o0.f6.f1, .bool o0.f6.f2])
    (blk_put (cs := #[.int .i64 o.f0, .int .i64 o.f1, .int .i64 o.f2, .int .i64 o.f3, .string o.f4, .string o0.f5, .string o0.f6.f0, .string o0.f6.f1, .bool o0.f6.f2])
    (blk_put (cs := #[.int .i64 o.f0, .int .i64 o.f1, .int .i64 o.f2, .int .i64 o.f3, .string o0.f4, .string o0.f5, .string o0.f6.f0, .string o0.f6.f1, .bool o0.f6.f2])
    (blk_put (cs := #[.int .i64 o.f0, .int .i64 o.f1, .int .i64 o.f2, .int .i64 o0.f3, .string o0.f4, .string o0.f5, .string o0.f6.f0, .string o0.f6.f1, .bool o0.f6.f2])
    (blk_put (cs := #[.int .i64 o.f0, .int .i64 o.f1, .int .i64 o0.f2, .int .i64 o0.f3, .string o0.f4, .string o0.f5, .string o0.f6.f0, .string o0.f6.f1, .bool o0.f6.f2])
    (blk_put (cs := #[.int .i64 o.f0, .int .i64 o0.f1, .int .i64 o0.f2, .int .i64 o0.f3, .string o0.f4, .string o0.f5, .string o0.f6.f0, .string o0.f6.f1, .bool o0.f6.f2])
    (blk_put h 0 _ rfl) 1 _ rfl) 2 _ rfl) 3 _ rfl) 4 _ rfl) 5 _ rfl) 6 _ rfl) 7 _ rfl) 8 _ rfl
theorem setOp_far {W : World} {p g : Nat} {t : TypeId} {cs : Array Value} (h : W.heap[g]? = some (.cells cs t (0, 0))) (hne : g ≠ p) (o : OpT) : (setOp W p o).heap[g]? = some (.cells cs t (0, 0)) := by
  unfold setOp
  exact blk_far (blk_far (blk_far (blk_far (blk_far (blk_far (blk_far (blk_far (blk_far h hne _) hne _) hne _) hne _) hne _) hne _) hne _) hne _) hne _
theorem setOp_below {B : Nat} {w W : World} {p : Nat} (h : Below B w W) (hp : B ≤ p) (o : OpT) : Below B w (setOp W p o) := by
  unfold setOp
  exact ((((((((h.setCell hp _).setCell hp _).setCell hp _).setCell hp _).setCell hp _).setCell hp _).setCell hp _).setCell hp _).setCell hp _
theorem Res.sets {W : World} {p q : Nat} {o : OpT} {e : Int} (h : Res W p q o e) (o' : OpT) (e' : Int) : Res ((setOp W p o').setCell ⟨q, 0, none⟩ (.int .i64 e')) p q o' e' :=
  ⟨blk_far (setOp_same h.op o') (blk_ne h.op h.er (by decide)) _, blk_put (setOp_far h.er (blk_ne h.er h.op (by decide)) o') 0 _ rfl⟩
theorem catch_idle (p q : Nat) (w : World) :
    CallsD Tryd.prog 13 #[.pointer (some ⟨p, 0, none⟩), .pointer (some ⟨q, 0, none⟩)] .returning w fun e u' w' => e = .returned (.tuple #[]) ∧ u' = .returning ∧ w' = w := by
  refine callsD_of_wpS Tryd.func13 rfl fun c₀ cs hu => ?_
  apply wpS_seq
  apply wpS_region
  simp [wpOpsS, go_sem, recoverD, hu, Tryd.ntmps13, Exit.thenS]
  refine wpS_of_wp ?_
  go_wp2
  cases c₀
  simp_all [bodyPostS, results, Tryd.f13]
set_option maxRecDepth 100000 in
theorem catch_none (B p q : Nat) (o : OpT) (e : Int) (w : World) (h : Res w p q o e) (hp : B ≤ p) (hq : B ≤ q) (hw : B ≤ w.heap.size) :
    CallsD Tryd.prog 13 #[.pointer (some ⟨p, 0, none⟩), .pointer (some ⟨q, 0, none⟩)] (.panicking noneP) w fun e u' w' => e = .returned (.tuple #[]) ∧ u' = .panicking [{ v := .iface 40 (.agg #[]), recovered := true }] ∧ Res w' p q zOp 210 ∧ Below B w w' := by
  refine callsD_of_wpS Tryd.func13 rfl fun c₀ cs hu => ?_
  unfold noneP at hu
  apply wpS_seq
  apply wpS_region
  simp [wpOpsS, go_sem, recoverD, hu, Tryd.ntmps13, Exit.thenS]
  refine wpS_of_wp ?_
  simp only [Array.replicate_succ, Array.replicate_zero, List.push_toArray, List.append_toArray, List.nil_append, List.cons_append, List.setIfInBounds_toArray, List.set_cons_zero, List.set_cons_succ]
  have H := Aside0.mk h
  have hB := below_alloc (Below.refl w.heap.size w) (.cells #[] 40)
  have h2 := h.below hB
  have H2 := Aside0.mk (And.intro h2 (And.intro (hB.mono hw) (And.intro hp hq)))
  have hc0 := (blk_cell h2.op 0).trans (show _ = some (Value.int .i64 o.f0) from rfl)
  have hf0 := blk_frozen h2.op 0
  have hc1 := (blk_cell h2.op 1).trans (show _ = some (Value.int .i64 o.f1) from rfl)
  have hf1 := blk_frozen h2.op 1
  have hc2 := (blk_cell h2.op 2).trans (show _ = some (Value.int .i64 o.f2) from rfl)
  have hf2 := blk_frozen h2.op 2
  have hc3 := (blk_cell h2.op 3).trans (show _ = some (Value.int .i64 o.f3) from rfl)
  have hf3 := blk_frozen h2.op 3
  have hc4 := (blk_cell h2.op 4).trans (show _ = some (Value.string o.f4) from rfl)
  have hf4 := blk_frozen h2.op 4
  have hc5 := (blk_cell h2.op 5).trans (show _ = some (Value.string o.f5) from rfl)
  have hf5 := blk_frozen h2.op 5
  have hc6 := (blk_cell h2.op 6).trans (show _ = some (Value.string o.f6.f0) from rfl)
  have hf6 := blk_frozen h2.op 6
  have hc7 := (blk_cell h2.op 7).trans (show _ = some (Value.string o.f6.f1) from rfl)
  have hf7 := blk_frozen h2.op 7
  have hc8 := (blk_cell h2.op 8).trans (show _ = some (Value.bool o.f6.f2) from rfl)
  have hf8 := blk_frozen h2.op 8
  have hce := (blk_cell h2.er 0).trans (show _ = some (Value.int .i64 e) from rfl)
  have hfe := blk_frozen h2.er 0
  have hne : p ≠ q := blk_ne h2.op h2.er (by decide)
  have hne2 : q ≠ p := Ne.symm hne
  have hta : ∀ w : World, (Instr.typeAssert (.iface 40 (.agg #[])) 20 40 true).run Tryd.prog w = .ok (.tuple #[.agg #[], .bool true]) w := fun w => by kernel_rfl
  clear h hB h2 hp hq hw
  go_wp2
  refine ⟨rfl, _, rfl, .tuple #[], by simp [results, Tryd.f13], rfl, rfl, H2.out.1.sets zOp 210, ?_⟩
  exact (setOp_below H2.out.2.1 H2.out.2.2.1 zOp).setCell (p := ⟨q, 0, none⟩) H2.out.2.2.2 _
end Go.Proofs.YtodmbjbfigifnaaDoor.Sc
end

section
-- By wip/late.py (a program of this session) out of wip/words.
set_option linter.unusedVariables false
set_option linter.unusedSimpArgs false
namespace Go.Proofs.YtodmbjbfigifnaaDoor.Sc
open Go.RowKit Go.Shelf Go.Proofs.YtodmbjbfigifnaaDoor.Glob Go.Proofs.YtodmbjbfigifnaaDoor.Dig Go.Proofs.YtodmbjbfigifnaaDoorW.PrintWords Go.Proofs.YtodmbjbfigifnaaDoor.PAll Go.Proofs.YtodmbjbfigifnaaDoor.Pure
/-! A line: script.Parse. -/
/-- The commands: first word, kind, what the further words are. -/
def lets : List (ByteArray × Int × List Nat) := [(⟨#[112, 117, 116]⟩, 1, [110, 107, 118]), (⟨#[100, 101, 108]⟩, 2, [110, 107]), (⟨#[103, 101, 116]⟩, 3, [110, 107]), (⟨#[115, 99, 97, 110]⟩, 4, [110, 114]), (⟨#[102, 111, 108, 100]⟩, 5, [110, 114]), (⟨#[111, 112, 101, 110]⟩, 6, [110, 112]), (⟨#[114, 97, 119]⟩, 10, [110, 118]), (⟨#[116, 105, 99, 107]⟩, 11, [110]), (⟨#[99, 114, 97, 115, 104]⟩, 12, [110]), (⟨#[115, 116, 97, 114, 116]⟩, 13, [110]), (⟨#[109, 97, 112]⟩, 14, [110]), (⟨#[116, 97, 108, 107, 115]⟩, 15, [110]), (⟨#[99, 111, 117, 110, 116]⟩, 16, [110]), (⟨#[103, 111]⟩, 7, [105]), (⟨#[100, 114, 111, 112]⟩, 8, [105]), (⟨#[116, 119, 105, 99, 101]⟩, 9, [105]), (⟨#[98, 97, 103]⟩, 17, [])]
def fidOf (c : Nat) : Nat := if c = 110 then 24 else if c = 112 then 30 else if c = 105 then 26 else if c = 107 then 27 else if c = 118 then 28 else 29
theorem specs_lets : specs = lets.map fun x => (x.1, x.2.1, x.2.2.map fidOf) := rfl
def isLet (c : Nat) : Prop := c = 110 ∨ c = 112 ∨ c = 105 ∨ c = 107 ∨ c = 118 ∨ c = 114
theorem lookup_map (s : ByteArray) : ∀ l : List (ByteArray × Int × List Nat), (l.map fun x => (x.1, x.2.1, x.2.2.map fidOf)).lookup s = (l.lookup s).map fun x => (x.1, x.2.map fidOf)
  | [] => rfl
  | (k, x, y) :: l => by
    simp only [List.map_cons, List.lookup_cons]
    cases s == k with
    | true => rfl
    | false => exact lookup_map s l
theorem lookup_mem {s : ByteArray} {x : Int × List Nat} : ∀ {l : List (ByteArray × Int × List Nat)}, l.lookup s = some x → ∃ k, (k, x) ∈ l
  | [], h => by cases h
  | (k, y) :: l, h => by
    simp only [List.lookup_cons] at h
    cases hs : s == k with
    | true => rw [hs] at h; cases h; exact ⟨k, List.mem_cons_self ..⟩
    | false => rw [hs] at h; obtain ⟨k', hk⟩ := lookup_mem h; exact ⟨k', List.mem_cons_of_mem _ hk⟩
theorem lets_let : ∀ x ∈ lets, x.2.2.length ≤ 3 ∧ ∀ c ∈ x.2.2, isLet c := by
  unfold isLet
  decide +kernel
/-- The further words laid into a command, one by one. -/
def fieldsW : List Nat → List ByteArray → OpT → Option OpT
  | [], [], o => some o
  | c :: cs, t :: ts, o => (fieldW c t o).bind (fieldsW cs ts)
  | _, _, _ => none
/-- What a line says. -/
def parW (s : ByteArray) : Option OpT :=
  if 400 < s.size then none else match piecesB s 32 with
    | [] => none
    | t :: ts => (lets.lookup t).bind fun x => fieldsW x.2 ts { zOp with f0 := x.1 }
theorem split_calls (s : ByteArray) (c : UInt8) (hs : s.size < 4294967281) (w : World) (hG : GlobOK w) : Calls Tryd.prog 11 #[.string s, .string ⟨#[c]⟩] w fun e w' => e = .returned (.slice (some ⟨w.heap.size, 0, none⟩) (piecesB s c).length (piecesB s c).length) ∧ w' = w.alloc (.cells ((piecesB s c).map Value.string).toArray 9) := by
  obtain ⟨_, m, hm⟩ := hG
  have h := Tryd.strings_Split s ⟨#[c]⟩ m w hs hm (Nat.le_refl 1)
  rw [← split_eq, Lib.splitB_all (⟨#[c]⟩ : ByteArray) (Nat.le_refl 1) 0 _ s rfl]
  exact h
section
variable {w0 w : World} {b g i : Nat} {ws : List ByteArray} {A : Option Addr} {o : OpT}
theorem map_none {α β : Type} {x : Option α} {f : α → β} (h : x.map f = none) : x = none := by cases x <;> simp_all
theorem reads_no {c : Nat} (hc : isLet c) (h : Rdr w0 w b g ws A i o) (hn : (ws[i]?).bind (fun t => fieldW c t o) = none) :
    Calls Tryd.prog (fidOf c) #[.pointer (some ⟨b, 0, none⟩)] w fun e w' => e = .panicked noneP ∧ Below w0.heap.size w0 w' := by
  by_cases hi : i < ws.length
  · rw [List.getElem?_eq_getElem hi, Option.bind_some] at hn
    rcases hc with rfl | rfl | rfl | rfl | rfl | rfl
    · exact node_no h hi (map_none hn)
    · exact peer_no h hi (map_none hn)
    · exact place_no h hi (map_none hn)
    · exact key_no h hi (map_none hn)
    · exact value_no h hi (map_none hn)
    · exact span_no h hi (map_none hn)
  · rcases hc with rfl | rfl | rfl | rfl | rfl | rfl
    · exact node_nw h hi
    · exact peer_nw h hi
    · exact place_nw h hi
    · exact key_nw h hi
    · exact value_nw h hi
    · exact span_nw h hi
theorem map_some {α β : Type} {x : Option α} {f : α → β} {y : β} (h : x.map f = some y) : ∃ a, x = some a ∧ f a = y := by simpa using h
theorem reads_ok {c : Nat} (hc : isLet c) (h : Rdr w0 w b g ws A i o) {o' : OpT} (hn : (ws[i]?).bind (fun t => fieldW c t o) = some o') :
    Calls Tryd.prog (fidOf c) #[.pointer (some ⟨b, 0, none⟩)] w fun e w' => e = .returned (.tuple #[]) ∧ Went w0 w w' b g ws (i + 1) o' := by
  by_cases hi : i < ws.length
  · rw [List.getElem?_eq_getElem hi, Option.bind_some] at hn
    rcases hc with rfl | rfl | rfl | rfl | rfl | rfl
    · obtain ⟨a, h1, rfl⟩ := map_some hn; exact node_ok h hi h1
    · obtain ⟨a, h1, rfl⟩ := map_some hn; exact peer_ok h hi h1
    · obtain ⟨a, h1, rfl⟩ := map_some hn; exact place_ok h hi h1
    · obtain ⟨a, h1, rfl⟩ := map_some hn; exact key_ok h hi h1
    · obtain ⟨a, h1, rfl⟩ := map_some hn; exact value_ok h hi h1
    · obtain ⟨a, h1, rfl⟩ := map_some hn; exact span_ok h hi h1
  · rw [List.getElem?_eq_none (by omega)] at hn; cases hn
end
theorem fid_enters {c : Nat} (hc : isLet c) : ∀ args w, (callFunc (fidOf c) args).run Tryd.prog w = .ok (.enter (fidOf c) args) w := by
  rcases hc with rfl | rfl | rfl | rfl | rfl | rfl
  · exact enters_of Tryd.func24 (by kernel_rfl) rfl
  · exact enters_of Tryd.func30 (by kernel_rfl) rfl
  · exact enters_of Tryd.func26 (by kernel_rfl) rfl
  · exact enters_of Tryd.func27 (by kernel_rfl) rfl
  · exact enters_of Tryd.func28 (by kernel_rfl) rfl
  · exact enters_of Tryd.func29 (by kernel_rfl) rfl
/-- The forms stay while the reader goes on. -/
theorem FVal.went {w0 w W : World} {b g i : Nat} {ws : List ByteArray} {A : Option Addr} {i0 : Nat} {o o0 : OpT} (hr : Rdr w0 w b g ws A i0 o0) (h : Went w0 w W b g ws i o) {v : Value} {kind : Int} {fs : List Nat} (hv : FVal w v kind fs) : FVal W v kind fs := by
  obtain ⟨A, c, hv, h'⟩ := hv
  refine ⟨A, c, hv, h'.imp id ?_⟩
  rintro ⟨g2, cur, hA, hg, hf⟩
  exact ⟨g2, cur, hA, (h.kb.2 g2 (blk_lt hg) (blk_ne hg hr.box (by decide)) (by simp)).trans hg, hf⟩
theorem look_calls {wf w0 w1 W : World} {b g m i : Nat} {ws : List ByteArray} {A : Option Addr} {i0 : Nat} {o o0 : OpT} (hF : Forms wf w1 m specs) (hr : Rdr w0 w1 b g ws A i0 o0) (h : Went w0 w1 W b g ws i o) (t : ByteArray) :
    ∃ v, (Instr.lookup 48 (.map (some m)) (.string t) true).run Tryd.prog W = .ok (.tuple #[v, .bool (lets.lookup t).isSome]) W ∧
      match lets.lookup t with | none => v = .agg #[.int .i64 0, .slice none 0 0] | some x => FVal W v x.1 (x.2.map fidOf) := by
  obtain ⟨⟨es, clock, vs, h1, h2, h3⟩, h4, h5⟩ := hF
  have hm : m ≠ b := by
    rintro rfl
    rw [hr.box] at h1
    cases h1
  have h1' : W.heap[m]? = some (.map es clock) := (h.kb.2 m (blk_lt h1) hm (by simp)).trans h1
  have hz : (zeroValue 46).run Tryd.prog W = .ok (.agg #[.int .i64 0, .slice none 0 0]) W := by kernel_rfl
  have hrun := run_look Tryd.underlying48 Tryd.underlying9 h1' h2 hz t
  have hl := forall_lookup h3 t
  rw [specs_lets, lookup_map] at hl
  cases hx : lets.lookup t with
  | none =>
    rw [hx] at hl
    simp only [Option.map_none] at hl
    rw [hl] at hrun
    exact ⟨_, hrun, rfl⟩
  | some x =>
    rw [hx] at hl
    simp only [Option.map_some] at hl
    obtain ⟨v, hv, hF⟩ := hl
    rw [hv] at hrun
    exact ⟨v, hrun, hF.went hr h⟩
end Go.Proofs.YtodmbjbfigifnaaDoor.Sc
end

section
-- By wip/late.py (a program of this session) out of wip/words.
set_option linter.unusedVariables false
set_option linter.unusedSimpArgs false
namespace Go.Proofs.YtodmbjbfigifnaaDoor.Sc
open Go.RowKit Go.Proofs.YtodmbjbfigifnaaDoorW.PrintWords Go.Proofs.YtodmbjbfigifnaaDoor.AppSrc Go.Proofs.YtodmbjbfigifnaaDoor.PAll Go.Proofs.YtodmbjbfigifnaaDoor.Pure
/-! The document's split. -/
def sv (l : List ByteArray) : List Value := l.map Value.string
theorem infoS : ∃ i, Tryd.prog.info? 9 = some i ∧ i.zero = some (.string ⟨#[]⟩) ∧ i.size = 1 ∧ i.bytes = 16 := by
  have h : (Tryd.prog.info? 9).map (fun i => (i.zero, i.size, i.bytes)) = some (some (.string ⟨#[]⟩), 1, 16) := by kernel_rfl
  obtain ⟨i0, hi, hz⟩ := Option.map_eq_some_iff.1 h
  simp only [Prod.mk.injEq] at hz
  exact ⟨i0, hi, hz.1, hz.2.1, hz.2.2⟩
theorem srcOne (w : World) (s : ByteArray) : Src Tryd.prog 1 36 (.slice (some ⟨w.heap.size, 0, none⟩) 1 1) 1 [.string s] (w.alloc (.cells #[.string s] 9)) := by
  refine Src.ofSlice _ Tryd.underlying36 ⟨w.heap.size, 0, none⟩ 1 1 _ rfl (fun j u hj => ?_) (by intro u hu; simp only [List.mem_singleton] at hu; subst hu; rfl)
  match j, hj with
  | 0, hj => cases hj; rw [show ((⟨w.heap.size, 0, none⟩ : Addr).add 0) = ⟨w.heap.size, 0, none⟩ by simp [Addr.add]]; exact (blk_cell (heap_alloc_new _ _) 0).trans rfl
  | j + 1, hj => simp at hj
/-- One text more behind a row of texts of one's own. -/
theorem one_run {w : World} {base : Nat} {v : Value} {l : List ByteArray} (s : ByteArray) (h : w.ownsRow base 9 1 v l.length (sv l)) (hbase : base ≤ w.heap.size) (hl : l.length ≤ 4398046511104) :
    ∃ v' w1, (Builtin.append_ #[36, 36] 36 #[v, .slice (some ⟨w.heap.size, 0, none⟩) 1 1]).run Tryd.prog (w.alloc (.cells #[.string s] 9)) = .ok v' w1 ∧ w1.ownsRow base 9 1 v' (l ++ [s]).length (sv (l ++ [s])) ∧ Below base w w1 := by
  obtain ⟨i0, hi, hz0, hz1, hz2⟩ := infoS
  have hb0 : Below w.heap.size w (w.alloc (.cells #[.string s] 9)) := below_alloc (Below.refl _ _) _
  obtain ⟨v', w1, hr, h1, h2, h3⟩ := run_append_own_src (P := Tryd.prog) (w.alloc (.cells #[.string s] 9)) base 36 36 36 9 i0 (.string ⟨#[]⟩) 1 16 Tryd.underlying36 hi hz0 hz1 hz2 rfl (by decide) v l.length (sv l) (pw_own_below h hb0) _ 1 _ (srcOne w s) (by simp only [maxLen]; omega) (by omega) (Nat.le_trans hbase hb0.size)
  have e : sv l ++ [.string s] = sv (l ++ [s]) := by simp [sv]
  rw [e] at h1
  have hne : ∀ k, k < base → some k ≠ v.ownBlock := by
    intro k hk e'
    rcases h.2 with ⟨e2, _⟩ | ⟨g, cap, cur, e2, hg, _⟩
    · rw [e2] at e'; simp [Value.ownBlock] at e'
    · rw [e2] at e'
      have : g = k := by simpa [Value.ownBlock] using e'.symm
      omega
  have hb : Below base w w1 := (hb0.mono hbase).trans ⟨h2.os, h2.tape, h2.output, h2.size, fun k hk => h2.block k (by have := hb0.size; omega) (hne k hk)⟩
  exact ⟨v', w1, hr, by simpa using h1, hb⟩
theorem own_row0 (w : World) : (w.alloc (.cells #[] 9)).ownsRow w.heap.size 9 1 (.slice (some ⟨w.heap.size, 0, none⟩) 0 0) 0 (sv []) :=
  ⟨rfl, .inr ⟨w.heap.size, 0, _, rfl, Nat.le_refl _, heap_alloc_new _ _, Nat.le_refl _, Nat.zero_le _, rfl, rfl⟩⟩
/-- How far the document's split has come. -/
structure Spl (s : ByteArray) (c : UInt8) (out : List ByteArray) (f i : Nat) : Prop where
  fi : f ≤ i
  le : i ≤ s.size
  free : c ∉ (s.data.toList.drop f).take (i - f)
  out : piecesB s c = out ++ (piecesL c (s.data.toList.drop f)).map (fun l => ⟨l.toArray⟩)
theorem Spl.start (s : ByteArray) (c : UInt8) : Spl s c [] 0 0 := ⟨Nat.le_refl _, Nat.zero_le _, by simp, rfl⟩
theorem ext_toB (s : ByteArray) (f i : Nat) : s.extract f i = ⟨((s.data.toList.drop f).take (i - f)).toArray⟩ := by
  rw [← toB (s.extract f i)]
  congr 1
  congr 1
  rw [Lib.extract_data]
/-- The byte at i is none of c. -/
theorem Spl.skip {s : ByteArray} {c : UInt8} {out : List ByteArray} {f i : Nat} (h : Spl s c out f i) (hi : i < s.data.toList.length) (hc : s.data.toList[i] ≠ c) : Spl s c out f (i + 1) := by
  have hl : s.data.toList.length = s.size := Array.length_toList
  refine ⟨by have := h.fi; omega, by omega, ?_, h.out⟩
  have hf := h.fi
  rw [show i + 1 - f = (i - f) + 1 by omega, List.take_succ_eq_append_getElem (by rw [List.length_drop]; omega), List.mem_append, not_or]
  refine ⟨h.free, ?_⟩
  rw [List.mem_singleton, List.getElem_drop]
  simp only [show f + (i - f) = i by omega]
  exact fun e => hc e.symm
/-- The byte at i is c. -/
theorem Spl.cut {s : ByteArray} {c : UInt8} {out : List ByteArray} {f i : Nat} (h : Spl s c out f i) (hi : i < s.data.toList.length) (hc : s.data.toList[i] = c) : Spl s c (out ++ [s.extract f i]) (i + 1) (i + 1) := by
  have hl : s.data.toList.length = s.size := Array.length_toList
  have hf := h.fi
  refine ⟨Nat.le_refl _, by omega, by simp, ?_⟩
  have e : s.data.toList.drop f = (s.data.toList.drop f).take (i - f) ++ c :: s.data.toList.drop (i + 1) := by
    have h1 : (s.data.toList.drop f).drop (i - f) = c :: s.data.toList.drop (i + 1) := by
      rw [List.drop_drop, show f + (i - f) = i by omega, List.drop_eq_getElem_cons hi, hc]
    rw [← h1, List.take_append_drop]
  rw [h.out, List.append_assoc]
  congr 1
  rw [e, piecesL_app _ h.free, List.map_cons, ← ext_toB]
  rfl
theorem Spl.last {s : ByteArray} {c : UInt8} {out : List ByteArray} {f i : Nat} (h : Spl s c out f i) (hi : s.size ≤ i) : piecesB s c = out ++ [s.extract f s.size] := by
  have hl : s.data.toList.length = s.size := Array.length_toList
  have hle := h.le
  have hf := h.fi
  have e : (s.data.toList.drop f).take (i - f) = s.data.toList.drop f := List.take_of_length_le (by rw [List.length_drop]; omega)
  have hfree := h.free
  rw [e] at hfree
  rw [h.out, piecesL_none hfree, List.map_cons, List.map_nil, ext_toB, List.take_of_length_le (by rw [List.length_drop]; omega)]
theorem Spl.len {s : ByteArray} {c : UInt8} {out : List ByteArray} {f i : Nat} (h : Spl s c out f i) : out.length ≤ s.size := by
  have h1 := congrArg List.length h.out
  unfold piecesB at h1
  rw [List.length_map, List.length_append, List.length_map] at h1
  have h2 := pieces_len c s.data.toList
  have h3 : 1 ≤ (piecesL c (s.data.toList.drop f)).length := by
    cases hq : piecesL c (s.data.toList.drop f) with
    | nil => exact absurd hq (piecesL_ne _ _)
    | cons a b => simp
  have hl : s.data.toList.length = s.size := Array.length_toList
  omega
theorem byte_ne {x y : UInt8} : decide ((x.toNat : Int) = (y.toNat : Int)) = decide (x = y) := by
  by_cases h : x = y
  · subst h; simp
  · have : ¬ (x.toNat : Int) = (y.toNat : Int) := fun e => h (UInt8.toNat_inj.1 (by omega))
    rw [decide_eq_false h, decide_eq_false this]
set_option maxRecDepth 100000 in
set_option maxHeartbeats 1000000 in
theorem rsplit_calls (s : ByteArray) (c : UInt8) (hs : s.size ≤ 1099511627776) (w : World) : Calls Tryd.prog 12 #[.string s, .int .u8 c.toNat] w fun e w' => ∃ v, e = .returned v ∧ w'.ownsRow w.heap.size 9 1 v (piecesB s c).length (sv (piecesB s c)) ∧ Below w.heap.size w w' := by
  go_enter Tryd.func12, Tryd.ntmps12
  go_wp2
  go_loopw [5, 6, 7] (fun o f i wr => ∃ (out : List ByteArray) (fn n : Nat), f = .int .i64 (fn : Int) ∧ i = .int .i64 (n : Int) ∧ Spl s c out fn n ∧ wr.ownsRow w.heap.size 9 1 o out.length (sv out) ∧ Below w.heap.size w wr) (fun _ _ i _ => s.size - (intOf i).toNat)
  case atStart => exact ⟨[], 0, 0, rfl, rfl, Spl.start s c, own_row0 w, below_alloc (Below.refl _ _) _⟩
  case round =>
    obtain ⟨out, fn, n, rfl, rfl, hS, hO, hB⟩ := hrel
    have f1 : (0 : Int) ≤ (n : Int) := by omega
    have f2 : (0 : Int) ≤ (fn : Int) := by omega
    have f3 : (fn : Int) ≤ (n : Int) := by have := hS.fi; omega
    have f4 : (n : Int) ≤ (s.size : Int) := by have := hS.le; omega
    have hL : s.data.toList.length = s.size := Array.length_toList
    have hol := hS.len
    have hsz := hB.size
    have HS := Aside0.mk hS
    have HO := Aside0.mk hO
    have HB := Aside0.mk hB
    by_cases hlt : (n : Int) < (s.size : Int)
    · have hn : n < s.data.toList.length := by omega
      have hn2 : n < s.size := by omega
      have e1 : IntKind.i64.wrap ((n : Int) + 1) = (n : Int) + 1 := IntWalk.i64_in _ (by omega)
      have hgt : s[n] = s.data.toList[n] := rfl
      by_cases hc : s.data.toList[n] = c
      · have hq : (((s[n]).toNat : Int) == (c.toNat : Int)) = true := by rw [hgt, hc]; simp
        obtain ⟨v', w1, hr, hO1, hB1⟩ := one_run (s.extract fn n) hO hsz (by omega)
        have HO1 := Aside0.mk hO1
        have HB1 := Aside0.mk (hB.trans hB1)
        have HS1 := Aside0.mk (hS.cut hn hc)
        clear hS hO hB hL hol hsz hn hc hgt hO1 hB1
        go_wp2_with (at_builtin; refine wpList_append_run rfl rfl rfl rfl hr ?_)
        exact ⟨⟨_, n + 1, n + 1, by simp, by simp, HS1.out, HO1.out, HB1.out⟩, by simp [intOf]; omega⟩
      · have hq : (((s[n]).toNat : Int) == (c.toNat : Int)) = false := by
          rw [beq_eq_false_iff_ne, hgt]
          exact fun e => hc (UInt8.toNat_inj.1 (by omega))
        have HS1 := Aside0.mk (hS.skip hn hc)
        clear hS hO hB hL hol hsz hn hc hgt
        go_wp2
        exact ⟨⟨out, fn, n + 1, rfl, by simp, HS1.out, HO.out, HB.out⟩, by simp [intOf]; omega⟩
    · have f5 : (fn : Int) ≤ (s.size : Int) := by omega
      have hl := hS.last (by omega)
      obtain ⟨v', w1, hr, hO1, hB1⟩ := one_run (s.extract fn s.size) hO hsz (by omega)
      rw [← hl] at hO1
      have HO1 := Aside0.mk hO1
      have HB1 := Aside0.mk (hB.trans hB1)
      clear hS hO hB hL hol hsz hl hO1 hB1
      go_wp2_with (at_builtin; refine wpList_append_run rfl rfl rfl rfl hr ?_)
      go_ret
      exact ⟨_, rfl, HO1.out, HB1.out⟩
end Go.Proofs.YtodmbjbfigifnaaDoor.Sc
end

section
-- By wip/late.py (a program of this session) out of wip/words.
set_option linter.unusedVariables false
set_option linter.unusedSimpArgs false
namespace Go.Proofs.YtodmbjbfigifnaaDoor.Sc
open Go.RowKit Go.Shelf Go.Proofs.YtodmbjbfigifnaaDoor.Glob Go.Proofs.YtodmbjbfigifnaaDoor.Dig Go.Proofs.YtodmbjbfigifnaaDoorW.PrintWords Go.Proofs.YtodmbjbfigifnaaDoor.PAll Go.Proofs.YtodmbjbfigifnaaDoor.Pure
/-! A line: script.Parse, walked. -/
/-- What Parse answers. -/
def ansW (s : ByteArray) : OpT × Int := match parW s with | some o => (o, 0) | none => (zOp, 210)
theorem res_two {P : Program} {fn : Func} {p q : Tmp} {ty ty2 : TypeId} (h : fn.results = #[.cell p ty, .cell q ty2]) (tmps : Array Value) (w : World) (g g2 : Nat) (t : TypeId) (cs : Array Value) (fr : Nat × Nat) (d : TypeDesc) {v : Value}
    (hp : tmps.getD p undef = .pointer (some ⟨g, 0, none⟩)) (hq : tmps.getD q undef = .pointer (some ⟨g2, 0, none⟩)) (hg : w.heap[g]? = some (.cells cs t fr)) (hv : (loadVar ty2 ⟨g2, 0, none⟩ : Sem Value).run P w = .ok v w)
    (hu : P.underlying ty = some d) (hd : (match d with | .struct _ | .array _ _ => true | _ => false) = true) (hi : (P.info? ty).map (·.size) = some cs.size) :
    (results fn tmps).run P w = .ok (.tuple #[.agg cs, v]) w := by
  have hp' : tmps[p]?.getD undef = .pointer (some ⟨g, 0, none⟩) := by simpa using hp
  have hq' : tmps[q]?.getD undef = .pointer (some ⟨g2, 0, none⟩) := by simpa using hq
  simp [results, h, hp', hq', asAddr, run_loadVar_row w g t ty cs fr d hg hu hd hi, hv]
theorem res_ok {W : World} {p q : Nat} {o : OpT} {e : Int} (h : Res W p q o e) (tmps : Array Value) (hp : tmps.getD 2 undef = .pointer (some ⟨p, 0, none⟩)) (hq : tmps.getD 3 undef = .pointer (some ⟨q, 0, none⟩)) :
    (results Tryd.f8 tmps).run Tryd.prog W = .ok (.tuple #[opV o, .int .i64 e]) W := by
  refine res_two (v := .int .i64 e) rfl tmps W p q _ _ (0, 0) _ hp hq h.op ?_ Tryd.underlying31 rfl (by kernel_rfl)
  have hc := (blk_cell h.er 0).trans (show _ = some (Value.int .i64 e) from rfl)
  simp [go_sem, hc]
set_option maxRecDepth 100000 in
set_option maxHeartbeats 4000000 in
theorem parse_long (s : ByteArray) (hs : 400 < s.size) (w : World) : Calls Tryd.prog 8 #[.string s] w fun e w' => e = .returned (.tuple #[opV zOp, .int .i64 210]) ∧ Below w.heap.size w w' := by
  have hl : (s.size : Int) > 400 := by omega
  have hmf : ∀ (fn : Fn) (first cap : Array Value) (w : World), (Instr.makeFunc fn first cap).run Tryd.prog w = .ok (.func fn first cap) w := fun _ _ _ _ => rfl
  go_enter_defers Tryd.func8, Tryd.ntmps8
  go_wp2_with (first
    | ((with_reducible refine gate_dst (N := 2) rfl ?_); refine box_event ?hg (N := 2) ?hd (cs := #[.int .i64 0, .int .i64 0, .int .i64 0, .int .i64 0, .string ⟨#[]⟩, .string ⟨#[]⟩, .string ⟨#[]⟩, .string ⟨#[]⟩, .bool false]) (t := 31) ?hr ?_; (case hd => rfl); (case hg => rfl); (case hr => first | (go_simp; done) | (go_simp; rfl)); intro p hg w1 hbox hb; have HP := Aside0.mk hbox; have HB1 := Aside0.mk hb; have HGP : Aside0 (w.heap.size ≤ p) := ⟨by omega⟩; clear hb hg hbox)
    | ((with_reducible refine gate_dst (N := 3) rfl ?_); refine box_event ?hg (N := 3) ?hd (cs := #[.int .i64 0]) (t := 23) ?hr ?_; (case hd => rfl); (case hg => rfl); (case hr => first | (go_simp; done) | (go_simp; rfl)); intro q hg w2 hbox hb; have hR2 : Res w2 p q zOp 0 := ⟨blk_below HP.out hb, hbox⟩; have HB2 := Aside0.mk (below_step HB1.out hb); have HGQ : Aside0 (w.heap.size ≤ q) := ⟨by have := HB1.out.size; omega⟩; have hc0 := (blk_cell hR2.op 0).trans (show _ = some (Value.int .i64 0) from rfl); have hf0 := blk_frozen hR2.op 0; have hc1 := (blk_cell hR2.op 1).trans (show _ = some (Value.int .i64 0) from rfl); have hf1 := blk_frozen hR2.op 1; have hc2 := (blk_cell hR2.op 2).trans (show _ = some (Value.int .i64 0) from rfl); have hf2 := blk_frozen hR2.op 2; have hc3 := (blk_cell hR2.op 3).trans (show _ = some (Value.int .i64 0) from rfl); have hf3 := blk_frozen hR2.op 3; have hc4 := (blk_cell hR2.op 4).trans (show _ = some (Value.string ⟨#[]⟩) from rfl); have hf4 := blk_frozen hR2.op 4; have hc5 := (blk_cell hR2.op 5).trans (show _ = some (Value.string ⟨#[]⟩) from rfl); have hf5 := blk_frozen hR2.op 5; have hc6 := (blk_cell hR2.op 6).trans (show _ = some (Value.string ⟨#[]⟩) from rfl); have hf6 := blk_frozen hR2.op 6; have hc7 := (blk_cell hR2.op 7).trans (show _ = some (Value.string ⟨#[]⟩) from rfl); have hf7 := blk_frozen hR2.op 7; have hc8 := (blk_cell hR2.op 8).trans (show _ = some (Value.bool false) from rfl); have hf8 := blk_frozen hR2.op 8; have hce := (blk_cell hR2.er 0).trans (show _ = some (Value.int .i64 0) from rfl); have hfe := blk_frozen hR2.er 0; have hne : p ≠ q := blk_ne hR2.op hR2.er (by decide); have hne2 : q ≠ p := Ne.symm hne; have HR2 := Aside0.mk hR2; clear hb hg hbox hR2))
  exact ⟨_, res_ok (HR2.out.sets zOp 210) _ rfl rfl, rfl, (setOp_below HB2.out HGP.out zOp).setCell (p := ⟨q, 0, none⟩) HGQ.out _⟩
/-- What a line of the right length says. -/
theorem caught {s : ByteArray} {w w2 W : World} {p q : Nat} {tmps : Array Value} (HR2 : Res w2 p q zOp 0) (HB2 : Below w.heap.size w w2) (HGP : w.heap.size ≤ p) (HGQ : w.heap.size ≤ q) (hb : Below w2.heap.size w2 W) (hn : parW s = none)
    (hp : tmps.getD 2 undef = .pointer (some ⟨p, 0, none⟩)) (hq : tmps.getD 3 undef = .pointer (some ⟨q, 0, none⟩)) :
    Leaves Tryd.prog Tryd.f8 tmps (fun e w' => e = .returned (.tuple #[opV (ansW s).1, .int .i64 (ansW s).2]) ∧ Below w.heap.size w w') [{ target := .fn (.func 13) #[.pointer (some ⟨p, 0, none⟩), .pointer (some ⟨q, 0, none⟩)], args := #[] }] (.panicking noneP) W := by
  refine leaves_cons (f := 13) (args := #[.pointer (some ⟨p, 0, none⟩), .pointer (some ⟨q, 0, none⟩)]) (by simp) (by simp [go_sem]) ?_
  refine (catch_none w.heap.size p q zOp 0 W (HR2.below hb) HGP HGQ (Nat.le_trans HB2.size hb.size)).mono ?_
  rintro e u' w' ⟨rfl, rfl, hr, hb'⟩
  have ha : ansW s = (zOp, 210) := by unfold ansW; rw [hn]
  refine ⟨_, res_ok hr _ hp hq, ?_, (below_step HB2 hb).trans hb'⟩
  rw [ha]
/-- The reader, just made. -/
theorem rdr_new {w2 w3 W : World} {b : Nat} {ws : List ByteArray} (hG : GlobOK w2) (h3 : w3 = w2.alloc (.cells (ws.map Value.string).toArray 9)) (hb : Below w3.heap.size w3 W) (hx : W.heap[b]? = some (.cells #[.slice (some ⟨w2.heap.size, 0, none⟩) ws.length ws.length, .int .i64 0, .int .i64 0, .int .i64 0, .int .i64 0, .string ⟨#[]⟩, .string ⟨#[]⟩, .string ⟨#[]⟩, .string ⟨#[]⟩, .bool false] 43 (0, 0))) (hlo : w3.heap.size ≤ b) (hsh : ∀ x ∈ ws, x.size ≤ 400) (hl : ws.length ≤ 401) :
    Rdr w2 W b w2.heap.size ws (some ⟨w2.heap.size, 0, none⟩) 0 zOp := by
  subst h3
  have hB := below_alloc (Below.refl w2.heap.size w2) (.cells (ws.map Value.string).toArray 9)
  exact ⟨hx, fun _ => rfl, blk_below (heap_alloc_new _ _) hb, Nat.le_trans hB.size hlo, below_step hB hb, hG, Nat.zero_le _, hsh, hl⟩
theorem piecesB_short (s : ByteArray) (c : UInt8) (h : s.size ≤ 400) : (∀ x ∈ piecesB s c, x.size ≤ 400) ∧ (piecesB s c).length ≤ 401 := by
  have hl : s.data.toList.length = s.size := Array.length_toList
  refine ⟨fun x hx => ?_, ?_⟩
  · obtain ⟨l, hm, rfl⟩ := List.mem_map.1 hx
    have := pieces_le s.data.toList l hm
    show l.toArray.size ≤ 400
    rw [List.size_toArray]
    omega
  · unfold piecesB
    rw [List.length_map]
    have := pieces_len c s.data.toList
    omega
set_option maxRecDepth 100000 in
set_option maxHeartbeats 4000000 in
theorem parse_none (s t : ByteArray) (ts : List ByteArray) (hs : s.size ≤ 400) (hp : piecesB s 32 = t :: ts) (hx : lets.lookup t = none) (w : World) (hG : GlobOK w) : Calls Tryd.prog 8 #[.string s] w fun e w' => e = .returned (.tuple #[opV (ansW s).1, .int .i64 (ansW s).2]) ∧ Below w.heap.size w w' := by
  have hl : ¬ (s.size : Int) > 400 := by omega
  have hn : parW s = none := by unfold parW; rw [if_neg (by omega), hp]; simp only [hx]; rfl
  have HSH := Aside0.mk (piecesB_short s 32 hs)
  have HSP := fun w2 hG2 => split_calls s 32 (by omega) w2 hG2
  rw [hp] at HSH
  simp only [hp] at HSP
  have HN := Aside0.mk hn
  have HGL := Aside0.mk hG
  have HX := Aside0.mk hx
  clear hs hp hn hG hx
  have hmf : ∀ (fn : Fn) (first cap : Array Value) (w : World), (Instr.makeFunc fn first cap).run Tryd.prog w = .ok (.func fn first cap) w := fun _ _ _ _ => rfl
  go_enter_defers Tryd.func8, Tryd.ntmps8
  go_wp2_with (first
    | ((with_reducible refine gate_dst (N := 2) rfl ?_); refine box_event ?hg (N := 2) ?hd (cs := #[.int .i64 0, .int .i64 0, .int .i64 0, .int .i64 0, .string ⟨#[]⟩, .string ⟨#[]⟩, .string ⟨#[]⟩, .string ⟨#[]⟩, .bool false]) (t := 31) ?hr ?_; (case hd => rfl); (case hg => rfl); (case hr => first | (go_simp; done) | (go_simp; rfl)); intro p hg w1 hbox hb; have HP := Aside0.mk hbox; have HB1 := Aside0.mk hb; have HGP : Aside0 (w.heap.size ≤ p) := ⟨by omega⟩; clear hb hg hbox)
    | ((with_reducible refine gate_dst (N := 3) rfl ?_); refine box_event ?hg (N := 3) ?hd (cs := #[.int .i64 0]) (t := 23) ?hr ?_; (case hd => rfl); (case hg => rfl); (case hr => first | (go_simp; done) | (go_simp; rfl)); intro q hg w2 hbox hb; have hR2 : Res w2 p q zOp 0 := ⟨blk_below HP.out hb, hbox⟩; have HB2 := Aside0.mk (below_step HB1.out hb); have HGQ : Aside0 (w.heap.size ≤ q) := ⟨by have := HB1.out.size; omega⟩; have HR2 := Aside0.mk hR2; clear hb hg hbox hR2)
    | (go_at_call 11; refine (HSP _ (HGL.out.below HB2.out)).mono ?_; rintro e w3 ⟨rfl, hw3⟩; have HW3 := Aside0.mk hw3; clear hw3)
    | ((with_reducible refine gate_dst (N := 17) rfl ?_); refine box_event ?hg (N := 17) ?hd (cs := #[.slice (some ⟨w2.heap.size, 0, none⟩) (ts.length + 1) (ts.length + 1), .int .i64 0, .int .i64 0, .int .i64 0, .int .i64 0, .string ⟨#[]⟩, .string ⟨#[]⟩, .string ⟨#[]⟩, .string ⟨#[]⟩, .bool false]) (t := 43) ?hr ?_; (case hd => rfl); (case hg => rfl); (case hr => first | (go_simp; done) | (go_simp; rfl)); intro b hg w4 hbox hb; have HR := Aside0.mk (rdr_new (HGL.out.below HB2.out) HW3.out hb hbox (by omega) HSH.out.1 HSH.out.2); clear hb hg hbox)
    | (go_at_call 14; refine (forms_calls _).mono ?_; rintro e w5 ⟨m, rfl, hF⟩; have HR5 := Aside0.mk (HR.out.below hF.be); have HF := Aside0.mk hF; clear hF)
    | (go_at_call 15; refine (word_ok HR5.out (by simp)).mono ?_; rintro e w6 ⟨rfl, hW⟩; obtain ⟨v, hlk, hv⟩ := look_calls HF.out HR5.out hW t; rw [HX.out] at hlk hv; simp only [Option.isSome_none] at hlk; subst hv; obtain ⟨A6, hR6⟩ := hW.st; have HB6 := Aside0.mk (below_step hR6.be (below_alloc (Below.refl _ _) (.cells #[.int .i64 0, .slice none 0 0] 46))); clear hR6 hW)
    | (go_at_call 16; refine (must_no _).mono ?_; rintro e w7 ⟨rfl, rfl⟩))
  exact caught HR2.out HB2.out HGP.out HGQ.out HB6.out HN.out rfl rfl
theorem FVal.row {W : World} {kind kind' : Int} {Af : Option Addr} {n cf : Nat} {fs : List Nat} (h : FVal W (.agg #[.int .i64 kind', .slice Af n cf]) kind fs) {j : Nat} (hj : j < fs.length) : ∃ g, Af = some ⟨g, 0, Option.none⟩ ∧ W.cell? ⟨g, j, Option.none⟩ = some (fnV fs[j]) := by
  obtain ⟨A, c, he, h⟩ := h
  simp only [Value.agg.injEq, Array.mk.injEq, List.cons.injEq, Value.slice.injEq, Value.int.injEq, and_true, true_and] at he
  obtain ⟨_, rfl, _, _⟩ := he
  rcases h with rfl | ⟨g, cur, rfl, hg, hf⟩
  · simp at hj
  · exact ⟨g, rfl, (blk_cell hg j).trans (hf j _ (List.getElem?_eq_getElem hj))⟩
theorem look_hit {wf w0 w1 W : World} {b g m i : Nat} {ws : List ByteArray} {A : Option Addr} {i0 : Nat} {o o0 : OpT} (hF : Forms wf w1 m specs) (hr : Rdr w0 w1 b g ws A i0 o0) (h : Went w0 w1 W b g ws i o) {t : ByteArray} {kind : Int} {cs : List Nat} (hx : lets.lookup t = some (kind, cs)) :
    ∃ Af cf, (Instr.lookup 48 (.map (some m)) (.string t) true).run Tryd.prog W = .ok (.tuple #[.agg #[.int .i64 kind, .slice Af cs.length cf], .bool true]) W ∧ FVal W (.agg #[.int .i64 kind, .slice Af cs.length cf]) kind (cs.map fidOf) := by
  obtain ⟨v, hlk, hv⟩ := look_calls hF hr h t
  rw [hx] at hlk hv
  have hv' : FVal W v kind (cs.map fidOf) := hv
  have hv2 := hv'
  obtain ⟨Af, cf, rfl, _⟩ := hv'
  rw [List.length_map] at hlk hv2
  exact ⟨Af, cf, hlk, hv2⟩
/-- The form in its box, the kind laid into the command. -/
theorem stored {w0 w1 W : World} {b g : Nat} {ws : List ByteArray} {A : Option Addr} {i0 i : Nat} {o0 o : OpT} (hr : Rdr w0 w1 b g ws A i0 o0) (h : Went w0 w1 W b g ws i o) {kind : Int} {cs : List Nat} {Af : Option Addr} {cf : Nat} (hv : FVal W (.agg #[.int .i64 kind, .slice Af cs.length cf]) kind (cs.map fidOf)) :
    (W.alloc (.cells #[.int .i64 kind, .slice Af cs.length cf] 46)).cell? ⟨b, 1, none⟩ = some (.int .i64 o.f0) ∧ (W.alloc (.cells #[.int .i64 kind, .slice Af cs.length cf] 46)).frozen? ⟨b, 1, none⟩ = false ∧ W.heap.size ≠ b ∧ b ≠ W.heap.size ∧
    Went w0 (W.alloc (.cells #[.int .i64 kind, .slice Af cs.length cf] 46)) ((W.alloc (.cells #[.int .i64 kind, .slice Af cs.length cf] 46)).setCell ⟨b, 1, none⟩ (.int .i64 kind)) b g ws i { o with f0 := kind } ∧
    FVal ((W.alloc (.cells #[.int .i64 kind, .slice Af cs.length cf] 46)).setCell ⟨b, 1, none⟩ (.int .i64 kind)) (.agg #[.int .i64 kind, .slice Af cs.length cf]) kind (cs.map fidOf) := by
  obtain ⟨A6, hR6⟩ := h.st
  have hB7 := below_alloc (Below.refl W.heap.size W) (.cells #[.int .i64 kind, .slice Af cs.length cf] 46)
  have hR7 := hR6.below hB7
  have hnb : W.heap.size ≠ b := by have := blk_lt hR6.box; omega
  have hW8 := hR7.put 1 (.int .i64 kind) (o2 := { o with f0 := kind }) hR7.le hR7.at_ rfl
  exact ⟨(blk_cell hR7.box 1).trans rfl, hR7.fz 1, hnb, Ne.symm hnb, hW8, (hv.below hB7).went hR7 hW8⟩
theorem fieldsW_step {cs : List Nat} {ts : List ByteArray} {o : OpT} {k : Nat} (hk : k < cs.length) : fieldsW (cs.drop k) (ts.drop k) o = ((ts[k]?).bind fun t => fieldW cs[k] t o).bind fun o' => fieldsW (cs.drop (k + 1)) (ts.drop (k + 1)) o' := by
  rw [List.drop_eq_getElem_cons hk]
  by_cases hi : k < ts.length
  · rw [List.drop_eq_getElem_cons hi, List.getElem?_eq_getElem hi, Option.bind_some]
    rfl
  · rw [List.getElem?_eq_none (by omega), List.drop_of_length_le (show ts.length ≤ k by omega)]
    rfl
theorem fieldsW_end {cs : List Nat} {ts : List ByteArray} {o : OpT} {k : Nat} (hk : ¬ k < cs.length) : fieldsW (cs.drop k) (ts.drop k) o = if k < ts.length then none else some o := by
  rw [List.drop_of_length_le (by omega)]
  by_cases hi : k < ts.length
  · rw [if_pos hi, List.drop_eq_getElem_cons hi]; rfl
  · rw [if_neg hi, List.drop_of_length_le (by omega)]; rfl
set_option maxRecDepth 100000 in
set_option maxHeartbeats 4000000 in
theorem parse_some (s t : ByteArray) (ts : List ByteArray) (hs : s.size ≤ 400) (hp : piecesB s 32 = t :: ts) (kind : Int) (cs : List Nat) (hx : lets.lookup t = some (kind, cs)) (w : World) (hG : GlobOK w) : Calls Tryd.prog 8 #[.string s] w fun e w' => e = .returned (.tuple #[opV (ansW s).1, .int .i64 (ansW s).2]) ∧ Below w.heap.size w w' := by
  have hl : ¬ (s.size : Int) > 400 := by omega
  have hn : fieldsW (cs.drop 0) (ts.drop 0) { zOp with f0 := kind } = parW s := by unfold parW; rw [if_neg (by omega), hp]; simp only [hx]; rfl
  obtain ⟨kk, hmem⟩ := lookup_mem hx
  have hlet := lets_let _ hmem
  have HLET := Aside0.mk hlet
  have HSH := Aside0.mk (piecesB_short s 32 hs)
  have HSP := fun w2 hG2 => split_calls s 32 (by omega) w2 hG2
  rw [hp] at HSH
  simp only [hp] at HSP
  have HN := Aside0.mk hn
  have HGL := Aside0.mk hG
  have HX := Aside0.mk hx
  clear hs hp hn hG hx hmem hlet
  have hmf : ∀ (fn : Fn) (first cap : Array Value) (w : World), (Instr.makeFunc fn first cap).run Tryd.prog w = .ok (.func fn first cap) w := fun _ _ _ _ => rfl
  go_enter_defers Tryd.func8, Tryd.ntmps8
  go_wp2_with (first
    | ((with_reducible refine gate_dst (N := 2) rfl ?_); refine box_event ?hg (N := 2) ?hd (cs := #[.int .i64 0, .int .i64 0, .int .i64 0, .int .i64 0, .string ⟨#[]⟩, .string ⟨#[]⟩, .string ⟨#[]⟩, .string ⟨#[]⟩, .bool false]) (t := 31) ?hr ?_; (case hd => rfl); (case hg => rfl); (case hr => first | (go_simp; done) | (go_simp; rfl)); intro p hg w1 hbox hb; have HP := Aside0.mk hbox; have HB1 := Aside0.mk hb; have HGP : Aside0 (w.heap.size ≤ p) := ⟨by omega⟩; clear hb hg hbox)
    | ((with_reducible refine gate_dst (N := 3) rfl ?_); refine box_event ?hg (N := 3) ?hd (cs := #[.int .i64 0]) (t := 23) ?hr ?_; (case hd => rfl); (case hg => rfl); (case hr => first | (go_simp; done) | (go_simp; rfl)); intro q hg w2 hbox hb; have hR2 : Res w2 p q zOp 0 := ⟨blk_below HP.out hb, hbox⟩; have HB2 := Aside0.mk (below_step HB1.out hb); have HGQ : Aside0 (w.heap.size ≤ q) := ⟨by have := HB1.out.size; omega⟩; have HR2 := Aside0.mk hR2; clear hb hg hbox hR2)
    | (go_at_call 11; refine (HSP _ (HGL.out.below HB2.out)).mono ?_; rintro e w3 ⟨rfl, hw3⟩; have HW3 := Aside0.mk hw3; clear hw3)
    | ((with_reducible refine gate_dst (N := 17) rfl ?_); refine box_event ?hg (N := 17) ?hd (cs := #[.slice (some ⟨w2.heap.size, 0, none⟩) (ts.length + 1) (ts.length + 1), .int .i64 0, .int .i64 0, .int .i64 0, .int .i64 0, .string ⟨#[]⟩, .string ⟨#[]⟩, .string ⟨#[]⟩, .string ⟨#[]⟩, .bool false]) (t := 43) ?hr ?_; (case hd => rfl); (case hg => rfl); (case hr => first | (go_simp; done) | (go_simp; rfl)); intro b hg w4 hbox hb; have HR := Aside0.mk (rdr_new (HGL.out.below HB2.out) HW3.out hb hbox (by omega) HSH.out.1 HSH.out.2); clear hb hg hbox)
    | (go_at_call 14; refine (forms_calls _).mono ?_; rintro e w5 ⟨m, rfl, hF⟩; have HR5 := Aside0.mk (HR.out.below hF.be); have HF := Aside0.mk hF; clear hF)
    | (go_at_call 15; refine (word_ok HR5.out (by simp)).mono ?_; rintro e w6 ⟨rfl, hW⟩; obtain ⟨Af, cf, hlk, hv⟩ := look_hit HF.out HR5.out hW HX.out; obtain ⟨hc1, hf1, hnb, hnb2, hw8, hv8⟩ := stored HR5.out hW hv; have HW8 := Aside0.mk hw8; have HV8 := Aside0.mk hv8; clear hW hv hw8 hv8)
    | (go_at_call 16; refine (must_ok _).mono ?_; rintro e w7 ⟨rfl, rfl⟩))
  go_loopw [36] (fun i wr => ∃ (k : Nat) (o : OpT) (A : Option Addr), i = .int .i64 (k : Int) ∧ k ≤ cs.length ∧ Rdr w2 wr b w2.heap.size (t :: ts) A (k + 1) o ∧ FVal wr (.agg #[.int .i64 kind, .slice Af cs.length cf]) kind (cs.map fidOf) ∧ fieldsW (cs.drop k) (ts.drop k) o = parW s) (fun i _ => cs.length - (intOf i).toNat)
  case atStart =>
    obtain ⟨A8, hR8⟩ := HW8.out.st
    exact ⟨0, _, A8, rfl, Nat.zero_le _, hR8, HV8.out, HN.out⟩
  case round =>
    obtain ⟨k, o, A, rfl, hk, hR, hV, hfin⟩ := hrel
    have f1 : (0 : Int) ≤ (k : Int) := by omega
    by_cases hlt : (k : Int) < (cs.length : Int)
    · have hk1 : k < cs.length := by omega
      obtain ⟨g2, rfl, hcell⟩ := hV.row (j := k) (by simpa using hk1)
      rw [List.getElem_map] at hcell
      have hc := HLET.out.2 _ (List.getElem_mem hk1)
      rw [fieldsW_step hk1] at hfin
      generalize cs[k] = c at hcell hc hfin
      have hen := fid_enters hc
      have e1 : IntKind.i64.wrap ((k : Int) + 1) = (k : Int) + 1 := IntWalk.i64_in _ (by have := HLET.out.1; omega)
      cases hst : ((ts[k]?).bind fun t => fieldW c t o) with
      | none =>
        have hno := reads_no hc hR (show (((t :: ts)[k + 1]?).bind fun t => fieldW c t o) = none from hst)
        rw [hst] at hfin
        have HN2 := Aside0.mk (show parW s = none from hfin.symm)
        unfold fnV at hcell
        generalize fidOf c = f at hcell hno hen
        clear hR hV hfin hst hc
        go_wp2_with (go_at_fn f; refine hno.mono ?_; rintro e w9 ⟨rfl, hb⟩; have HB9 := Aside0.mk hb; clear hb)
        exact caught HR2.out HB2.out HGP.out HGQ.out HB9.out HN2.out rfl rfl
      | some o' =>
        have hok := reads_ok hc hR (show (((t :: ts)[k + 1]?).bind fun t => fieldW c t o) = some o' from hst)
        rw [hst] at hfin
        have HF2 := Aside0.mk (show fieldsW (cs.drop (k + 1)) (ts.drop (k + 1)) o' = parW s from hfin)
        have HRk := Aside0.mk hR
        have HVk := Aside0.mk hV
        unfold fnV at hcell
        generalize fidOf c = f at hcell hok hen
        clear hR hV hfin hst hc
        go_wp2_with (go_at_fn f; refine hok.mono ?_; rintro e w9 ⟨rfl, hW⟩; have HW9 := Aside0.mk hW; clear hW)
        obtain ⟨A9, hR9⟩ := HW9.out.st
        refine ⟨⟨k + 1, o', A9, by simp, by omega, hR9, HVk.out.went HRk.out HW9.out, HF2.out⟩, by simp [intOf]; omega⟩
    · have hk2 : ¬ k < cs.length := by omega
      rw [fieldsW_end hk2] at hfin
      have hsl := hR.slice
      rw [show (t :: ts).length - (k + 1) = ts.length - k by simp] at hsl
      by_cases hrest : k < ts.length
      · rw [if_pos hrest] at hfin
        have HN2 := Aside0.mk (show parW s = none from hfin.symm)
        obtain ⟨m', hm'⟩ : ∃ m' : Nat, ts.length - k = m' + 1 := ⟨ts.length - k - 1, by omega⟩
        rw [hm'] at hsl
        have hz1 : (((m' + 1 : Nat) : Int) == 0) = false := beq_eq_false_iff_ne.2 (by omega)
        have hz2 : ((m' : Int) + 1 == 0) = false := beq_eq_false_iff_ne.2 (by omega)
        have HB9 := Aside0.mk hR.be
        clear hR hV hfin hm' hrest hk2
        go_wp2_with (go_at_call 16; refine (must_no _).mono ?_; rintro e w7 ⟨rfl, rfl⟩)
        exact caught HR2.out HB2.out HGP.out HGQ.out HB9.out HN2.out rfl rfl
      · rw [if_neg hrest] at hfin
        rw [show ts.length - k = 0 by omega] at hsl
        have ha : ansW s = (o, 0) := by unfold ansW; rw [← hfin]
        have hr := HR2.out.below hR.be
        have hb1 := (blk_cell hR.box 1).trans (show _ = some (Value.int .i64 o.f0) from rfl)
        have hb2 := (blk_cell hR.box 2).trans (show _ = some (Value.int .i64 o.f1) from rfl)
        have hb3 := (blk_cell hR.box 3).trans (show _ = some (Value.int .i64 o.f2) from rfl)
        have hb4 := (blk_cell hR.box 4).trans (show _ = some (Value.int .i64 o.f3) from rfl)
        have hb5 := (blk_cell hR.box 5).trans (show _ = some (Value.string o.f4) from rfl)
        have hb6 := (blk_cell hR.box 6).trans (show _ = some (Value.string o.f5) from rfl)
        have hb7 := (blk_cell hR.box 7).trans (show _ = some (Value.string o.f6.f0) from rfl)
        have hb8 := (blk_cell hR.box 8).trans (show _ = some (Value.string o.f6.f1) from rfl)
        have hb9 := (blk_cell hR.box 9).trans (show _ = some (Value.bool o.f6.f2) from rfl)
        have hp0 := (blk_cell hr.op 0).trans (show _ = some (Value.int .i64 0) from rfl)
        have hg0 := blk_frozen hr.op 0
        have hp1 := (blk_cell hr.op 1).trans (show _ = some (Value.int .i64 0) from rfl)
        have hg1 := blk_frozen hr.op 1
        have hp2 := (blk_cell hr.op 2).trans (show _ = some (Value.int .i64 0) from rfl)
        have hg2 := blk_frozen hr.op 2
        have hp3 := (blk_cell hr.op 3).trans (show _ = some (Value.int .i64 0) from rfl)
        have hg3 := blk_frozen hr.op 3
        have hp4 := (blk_cell hr.op 4).trans (show _ = some (Value.string ⟨#[]⟩) from rfl)
        have hg4 := blk_frozen hr.op 4
        have hp5 := (blk_cell hr.op 5).trans (show _ = some (Value.string ⟨#[]⟩) from rfl)
        have hg5 := blk_frozen hr.op 5
        have hp6 := (blk_cell hr.op 6).trans (show _ = some (Value.string ⟨#[]⟩) from rfl)
        have hg6 := blk_frozen hr.op 6
        have hp7 := (blk_cell hr.op 7).trans (show _ = some (Value.string ⟨#[]⟩) from rfl)
        have hg7 := blk_frozen hr.op 7
        have hp8 := (blk_cell hr.op 8).trans (show _ = some (Value.bool false) from rfl)
        have hg8 := blk_frozen hr.op 8
        have hqc := (blk_cell hr.er 0).trans (show _ = some (Value.int .i64 0) from rfl)
        have hqf := blk_frozen hr.er 0
        have hne : p ≠ q := blk_ne hr.op hr.er (by decide)
        have hne2 : q ≠ p := Ne.symm hne
        have hne3 : p ≠ b := blk_ne hr.op hR.box (by decide)
        have hne4 : b ≠ p := Ne.symm hne3
        have HA := Aside0.mk ha
        have HRES := Aside0.mk hr
        have HB9 := Aside0.mk hR.be
        clear hR hV hfin hrest hk2 ha hr
        go_wp2_with (go_at_call 16; refine (must_ok _).mono ?_; rintro e w7 ⟨rfl, rfl⟩)
        refine leaves_cons (f := 13) (args := #[.pointer (some ⟨p, 0, Option.none⟩), .pointer (some ⟨q, 0, Option.none⟩)]) (by simp) (by simp [go_sem]) ?_
        refine (catch_idle p q _).mono ?_
        rintro e u' w'' ⟨rfl, rfl, rfl⟩
        refine ⟨_, res_ok (HRES.out.sets o 0) _ rfl rfl, ?_, ?_⟩
        · rw [HA.out]
        · exact (setOp_below (below_step HB2.out HB9.out) HGP.out o).setCell (p := ⟨q, 0, Option.none⟩) HGQ.out _
/-- script.Parse: what a line says. -/
theorem parse_calls (s : ByteArray) (w : World) (hG : GlobOK w) : Calls Tryd.prog 8 #[.string s] w fun e w' => e = .returned (.tuple #[opV (ansW s).1, .int .i64 (ansW s).2]) ∧ Below w.heap.size w w' := by
  by_cases hs : 400 < s.size
  · have ha : ansW s = (zOp, 210) := by unfold ansW parW; rw [if_pos hs]
    rw [ha]
    exact parse_long s hs w
  · have hs2 : s.size ≤ 400 := by omega
    cases hp : piecesB s 32 with
    | nil =>
      have := congrArg List.length hp
      unfold piecesB at this
      rw [List.length_map] at this
      exact absurd (List.eq_nil_of_length_eq_zero this) (piecesL_ne _ _)
    | cons t ts =>
      cases hx : lets.lookup t with
      | none => exact parse_none s t ts hs2 hp hx w hG
      | some x => exact parse_some s t ts hs2 hp x.1 x.2 hx w hG
end Go.Proofs.YtodmbjbfigifnaaDoor.Sc
end
