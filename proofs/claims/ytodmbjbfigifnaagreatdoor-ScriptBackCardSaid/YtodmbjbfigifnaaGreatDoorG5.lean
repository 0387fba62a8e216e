import Derived.Test.YtodmbjbfigifnaaGreatDoorProg
import Derived.Test.YtodmbjbfigifnaaGreatDoorG0
import Derived.Test.YtodmbjbfigifnaaGreatDoorG4
import Derived.Test.YtodmbjbfigifnaaGreatDoorG3
import Derived.Below
import Derived.RangeFuncBox
import Derived.BigQuiet
import Derived.Lib.Hide
import Derived.Tactics
import Derived.WalkKit
import Derived.OwnWalk
import Derived.WalkSmall
import Derived.WalkLawsBesides
import Derived.Laws.Slices
import Derived.Maps.AppendAt
import Derived.Deep.AppendSrc
import Derived.Deep.Upon
import Derived.Lib.AppendZeros
import Derived.Deep.QuietTactic
import Derived.MapKept
import Derived.Laws.EntriesVeiled
import Derived.Tactics2
import Derived.Defers
import Derived.Recover
import Derived.Laws.Pointers
import Derived.Shelf.Abstract
import Derived.Test.YtodmbjbfigifnaaGreatDoorG1
import Derived.Lib.AppendIntMem
set_option linter.unusedVariables false
set_option linter.unusedSimpArgs false
namespace Go.Proofs.YtodmbjbfigifnaaGreatDoor.Sc
open Go.RowKit Go.Proofs.YtodmbjbfigifnaaGreatDoor.Glob Go.Proofs.YtodmbjbfigifnaaGreatDoor.Dig Go.Proofs.YtodmbjbfigifnaaGreatDoorW.PrintWords Go.Proofs.YtodmbjbfigifnaaGreatDoor.PAll Go.Proofs.YtodmbjbfigifnaaGreatDoor.Pure
/-- What a reader that gives up panics with. -/
def noneP : List PanicEntry := [{ v := .iface 47 (.agg #[]), recovered := false }]
theorem must_ok (w : World) : Calls Tryz.prog 24 #[.bool true] w fun e w' => e = .returned (.tuple #[]) ∧ w' = w := by
  go_enter Tryz.func24, Tryz.ntmps24
  go_wp2
  first | go_end0 | ((try simp only [Exit.inBlock, Exit.then]); refine bodyPost_ret (results_none rfl _ _ _) rfl ?_)
  exact ⟨rfl, rfl⟩
theorem must_no (w : World) : Calls Tryz.prog 24 #[.bool false] w fun e w' => e = .panicked noneP ∧ w' = w := by
  go_enter Tryz.func24, Tryz.ntmps24
  go_wp2
  exact ⟨rfl, rfl, rfl⟩
abbrev OpT := S25
/-- A command's cells. -/
def opC (o : OpT) : List Value := [.int .i64 o.f0, .int .i64 o.f1, .int .i64 o.f2, .int .i64 o.f3, .string o.f4, .string o.f5, .string o.f6.f0, .string o.f6.f1, .bool o.f6.f2]
def opV (o : OpT) : Value := .agg (opC o).toArray
/-- A line's reader: at word i of ws. -/
structure Rdr (w0 W : World) (b g : Nat) (ws : List ByteArray) (A : Option Addr) (i : Nat) (o : OpT) : Prop where
  box : W.heap[b]? = some (.cells #[.slice A (ws.length - i) (ws.length - i), .int .i64 o.f0, .int .i64 o.f1, .int .i64 o.f2, .int .i64 o.f3, .string o.f4, .string o.f5, .string o.f6.f0, .string o.f6.f1, .bool o.f6.f2] 51 (0, 0))
  at_ : i < ws.length → A = some ⟨g, i, none⟩
  row : W.heap[g]? = some (.cells (ws.map Value.string).toArray 9 (0, 0))
  lo : w0.heap.size ≤ b
  be : Below w0.heap.size w0 W
  gl : GlobOK w0
  le : i ≤ ws.length
  short : ∀ x ∈ ws, x.size ≤ 400
  len : ws.length ≤ 401
section
variable {w0 W W' w : World} {b g i : Nat} {ws : List ByteArray} {A : Option Addr} {o : OpT}
theorem Rdr.ne (h : Rdr w0 W b g ws A i o) : g ≠ b := blk_ne h.row h.box (by decide)
theorem Rdr.below (h : Rdr w0 W b g ws A i o) (hb : Below W.heap.size W W') : Rdr w0 W' b g ws A i o := ⟨blk_below h.box hb, h.at_, blk_below h.row hb, h.lo, below_then h.be h.be.size hb, h.gl, h.le, h.short, h.len⟩
theorem Rdr.G (h : Rdr w0 W b g ws A i o) : GlobOK W := h.gl.below h.be
theorem Rdr.slice (h : Rdr w0 W b g ws A i o) : W.cell? ⟨b, 0, none⟩ = some (.slice A (ws.length - i) (ws.length - i)) := (blk_cell h.box 0).trans rfl
theorem Rdr.fz (h : Rdr w0 W b g ws A i o) (j : Nat) : W.frozen? ⟨b, j, none⟩ = false := blk_frozen h.box j
theorem Rdr.word (h : Rdr w0 W b g ws A i o) (hi : i < ws.length) : W.cell? ⟨g, i, none⟩ = some (.string ws[i]) := by
  rw [blk_cell h.row i, List.getElem?_toArray, List.getElem?_map, List.getElem?_eq_getElem hi]; rfl
/-- The reader went on. -/
structure Went (w0 w W : World) (b g : Nat) (ws : List ByteArray) (i : Nat) (o : OpT) : Prop where
  st : ∃ A, Rdr w0 W b g ws A i o
  kb : KeepBut w W b none
theorem Went.refl (h : Rdr w0 W b g ws A i o) : Went w0 W W b g ws i o := ⟨⟨A, h⟩, KeepBut.refl _ _ _⟩
theorem Went.then (h : Went w0 w W b g ws i o) (hb : Below W.heap.size W W') : Went w0 w W' b g ws i o := by
  obtain ⟨⟨A, h1⟩, h2⟩ := h
  exact ⟨⟨A, h1.below hb⟩, h2.trans (KeepBut.of_below hb b none) (.inl rfl)⟩
theorem Went.trans {W2 : World} {i2 : Nat} {o2 : OpT} (h : Went w0 w W b g ws i o) (k : Went w0 W W2 b g ws i2 o2) : Went w0 w W2 b g ws i2 o2 := ⟨k.st, h.kb.trans k.kb (.inl rfl)⟩
/-- A cell of the reader is written. -/
theorem Rdr.put (h : Rdr w0 W b g ws A i o) (j : Nat) (v : Value) {A2 : Option Addr} {i2 : Nat} {o2 : OpT} (hi : i2 ≤ ws.length) (hA : i2 < ws.length → A2 = some ⟨g, i2, none⟩)
    (e : (#[.slice A (ws.length - i) (ws.length - i), .int .i64 o.f0, .int .i64 o.f1, .int .i64 o.f2, .int .i64 o.f3, .string o.f4, .string o.f5, .string o.f6.f0, .string o.f6.f1, .bool o.f6.f2] : Array Value).setIfInBounds j v = #[.slice A2 (ws.length - i2) (ws.length - i2), .int .i64 o2.f0, .int .i64 o2.f1, .int .i64 o2.f2, .int .i64 o2.f3, .string o2.f4, .string o2.f5, .string o2.f6.f0, .string o2.f6.f1, .bool o2.f6.f2]) :
    Went w0 W (W.setCell ⟨b, j, none⟩ v) b g ws i2 o2 :=
  ⟨⟨A2, blk_put h.box j v e, hA, blk_far h.row h.ne _, h.lo, below_set h.be h.lo, h.gl, hi, h.short, h.len⟩, (KeepBut.refl _ _ _).set_ j v⟩
end
section
variable {w0 w : World} {b g i : Nat} {ws : List ByteArray} {A : Option Addr} {o : OpT}
theorem word_no (h : Rdr w0 w b g ws A i o) (hi : ¬ i < ws.length) : Calls Tryz.prog 23 #[.pointer (some ⟨b, 0, none⟩)] w fun e w' => e = .panicked noneP ∧ Below w0.heap.size w0 w' := by
  have hs := h.slice
  rw [show ws.length - i = 0 by omega] at hs
  have HB := Aside0.mk h.be
  clear h
  go_enter Tryz.func23, Tryz.ntmps23
  go_wp2_with (go_at_call 24; refine (must_no _).mono ?_; rintro e w1 ⟨rfl, rfl⟩)
  exact ⟨rfl, rfl, HB.out⟩
theorem word_ok (h : Rdr w0 w b g ws A i o) (hi : i < ws.length) : Calls Tryz.prog 23 #[.pointer (some ⟨b, 0, none⟩)] w fun e w' => e = .returned (.string ws[i]) ∧ Went w0 w w' b g ws (i + 1) o := by
  have H := Aside0.mk h
  have hs := h.slice
  rw [h.at_ hi] at hs
  have hw := h.word hi
  have hf := h.fz 0
  obtain ⟨m, hm⟩ : ∃ m : Nat, ws.length - i = m + 1 := ⟨ws.length - i - 1, by omega⟩
  rw [hm] at hs
  have hm2 : ((0 : Int) < ((m + 1 : Nat) : Int)) := by omega
  generalize hwi : ws[i] = wi at hw ⊢
  clear h
  go_enter Tryz.func23, Tryz.ntmps23
  go_wp2_with (go_at_call 24; refine (must_ok _).mono ?_; rintro e w1 ⟨rfl, rfl⟩)
  all_goals go_ret
  · exact ⟨rfl, H.out.put 0 _ (by omega) (fun h => absurd h (by omega)) (by rw [show ws.length - (i + 1) = 0 by omega]; rfl)⟩
  · exact ⟨rfl, H.out.put 0 _ (by omega) (fun _ => rfl) (by rw [show ws.length - (i + 1) = m by omega]; rfl)⟩
/-- A word as_ a number. -/
def numW (t : ByteArray) : Option Int := if (numP t.data.toList 9223372036854775807).2 = 0 then some (numP t.data.toList 9223372036854775807).1 else none
theorem nparse_calls (t : ByteArray) (ht : t.size ≤ 400) (w : World) (hG : GlobOK w) : Calls Tryz.prog 66 #[.string t, .int .i64 9223372036854775807] w fun e w' => e = .returned (.tuple #[.int .i64 (numP t.data.toList 9223372036854775807).1, .int .i64 (numP t.data.toList 9223372036854775807).2]) ∧ Below w.heap.size w w' :=
  nums_Parse.calls t 9223372036854775807 _ _ w hG (by unfold nums_Parse.f; rw [if_pos (by omega)])
/-- A word as_ bytes behind a letter. -/
def bytW (c : UInt8) (t : ByteArray) : Option ByteArray := if Lib.hasPrefix t.data.toList [c] = true then (if (unhE (t.extract 1 t.size)).2 = 0 then some (unhE (t.extract 1 t.size)).1 else none) else none
theorem number_nw (h : Rdr w0 w b g ws A i o) (hi : ¬ i < ws.length) : Calls Tryz.prog 54 #[.pointer (some ⟨b, 0, none⟩)] w fun e w' => e = .panicked noneP ∧ Below w0.heap.size w0 w' := by
  have hw := word_no h hi
  clear h
  go_enter Tryz.func54, Tryz.ntmps54
  go_wp2_with (go_at_call 23; refine hw.mono ?_; rintro e w1 ⟨rfl, hb⟩)
  exact ⟨rfl, rfl, hb⟩
set_option maxRecDepth 100000 in
theorem number_no (h : Rdr w0 w b g ws A i o) (hi : i < ws.length) (hn : numW ws[i] = none) : Calls Tryz.prog 54 #[.pointer (some ⟨b, 0, none⟩)] w fun e w' => e = .panicked noneP ∧ Below w0.heap.size w0 w' := by
  have hw := word_ok h hi
  have hsz := h.short _ (List.getElem_mem hi)
  generalize ws[i] = t at hw hsz hn
  have hq : ((numP t.data.toList 9223372036854775807).2 == 0) = false := by
    unfold numW at hn
    split at hn
    · cases hn
    · rename_i h; exact beq_eq_false_iff_ne.2 h
  have hp := nparse_calls t hsz
  generalize (numP t.data.toList 9223372036854775807).1 = n1 at hp
  generalize (numP t.data.toList 9223372036854775807).2 = n2 at hp hq
  clear h hn hsz
  go_enter Tryz.func54, Tryz.ntmps54
  go_wp2_with (first
    | (go_at_call 23; refine hw.mono ?_; rintro e w1 ⟨rfl, hW⟩; obtain ⟨A1, hR1⟩ := hW.st; have HR := Aside0.mk hR1; clear hR1 hW)
    | (go_at_call 66; refine (hp _ HR.out.G).mono ?_; rintro e w2 ⟨rfl, hb⟩; have HB := Aside0.mk (HR.out.below hb).be; clear hb)
    | (go_at_call 24; refine (must_no _).mono ?_; rintro e w3 ⟨rfl, rfl⟩))
  exact ⟨rfl, rfl, HB.out⟩
set_option maxRecDepth 100000 in
theorem number_ok (h : Rdr w0 w b g ws A i o) (hi : i < ws.length) {n : Int} (hn : numW ws[i] = some n) : Calls Tryz.prog 54 #[.pointer (some ⟨b, 0, none⟩)] w fun e w' => e = .returned (.int .i64 n) ∧ Went w0 w w' b g ws (i + 1) o := by
  have hw := word_ok h hi
  have hsz := h.short _ (List.getElem_mem hi)
  generalize ws[i] = t at hw hsz hn
  have hp := nparse_calls t hsz
  unfold numW at hn
  split at hn
  · rename_i hq
    obtain rfl := Option.some.inj hn
    rw [hq] at hp
    generalize (numP t.data.toList 9223372036854775807).1 = n1 at hp
    clear h hn hsz hq
    go_enter Tryz.func54, Tryz.ntmps54
    go_wp2_with (first
      | (go_at_call 23; refine hw.mono ?_; rintro e w1 ⟨rfl, hW⟩; obtain ⟨A1, hR1⟩ := hW.st; have HR := Aside0.mk hR1; have HW := Aside0.mk hW; clear hR1 hW)
      | (go_at_call 66; refine (hp _ HR.out.G).mono ?_; rintro e w2 ⟨rfl, hb⟩; have HW2 := Aside0.mk (HW.out.then hb); clear hb)
      | (go_at_call 24; refine (must_ok _).mono ?_; rintro e w3 ⟨rfl, rfl⟩))
    go_ret
    exact ⟨rfl, HW2.out⟩
  · cases hn
theorem trim_one {t : ByteArray} {c : UInt8} (h : Lib.hasPrefix t.data.toList [c] = true) : (⟨(Lib.trimPrefix t.data.toList [c]).toArray⟩ : ByteArray) = t.extract 1 t.size := by
  have : Lib.trimPrefix t.data.toList [c] = t.data.toList.drop 1 := by unfold Lib.trimPrefix; rw [if_pos h]; rfl
  rw [this]
  have e2 : (t.extract 1 t.size).data.toList = t.data.toList.drop 1 := Lib.extract_to_end t 1
  rw [← e2]
theorem ext_size (t : ByteArray) (a : Nat) : (t.extract a t.size).size ≤ t.size := by rw [ByteArray.size_extract]; omega
theorem unhex_calls (t : ByteArray) (ht : t.size ≤ 400) (w : World) : Calls Tryz.prog 68 #[.string t] w fun e w' => e = .returned (.tuple #[.string (unhE t).1, .int .i64 (unhE t).2]) ∧ Below w.heap.size w w' := by
  obtain ⟨k, hk⟩ := (unhex_f t (by omega)).rounds
  exact nums_Unhex.calls k t _ _ w hk
theorem bytes_nw (c : UInt8) (h : Rdr w0 w b g ws A i o) (hi : ¬ i < ws.length) : Calls Tryz.prog 55 #[.pointer (some ⟨b, 0, none⟩), .string ⟨#[c]⟩] w fun e w' => e = .panicked noneP ∧ Below w0.heap.size w0 w' := by
  have hw := word_no h hi
  clear h
  go_enter Tryz.func55, Tryz.ntmps55
  go_wp2_with (go_at_call 23; refine hw.mono ?_; rintro e w1 ⟨rfl, hb⟩)
  exact ⟨rfl, rfl, hb⟩
set_option maxRecDepth 100000 in
theorem bytes_no (c : UInt8) (h : Rdr w0 w b g ws A i o) (hi : i < ws.length) (hn : bytW c ws[i] = none) : Calls Tryz.prog 55 #[.pointer (some ⟨b, 0, none⟩), .string ⟨#[c]⟩] w fun e w' => e = .panicked noneP ∧ Below w0.heap.size w0 w' := by
  have hw := word_ok h hi
  have hsz := h.short _ (List.getElem_mem hi)
  generalize ws[i] = t at hw hsz hn
  unfold bytW at hn
  by_cases hp : Lib.hasPrefix t.data.toList [c] = true
  · rw [if_pos hp] at hn
    have hu := unhex_calls (t.extract 1 t.size) (Nat.le_trans (ext_size t 1) hsz)
    have hq : ((unhE (t.extract 1 t.size)).2 == 0) = false := by
      split at hn
      · cases hn
      · rename_i h; exact beq_eq_false_iff_ne.2 h
    have hcp := strings_CutPrefix.calls t ⟨#[c]⟩ (t.extract 1 t.size) true
    have hcf : strings_CutPrefix.f t ⟨#[c]⟩ = some (t.extract 1 t.size, true) := by unfold strings_CutPrefix.f; rw [trim_one hp, hp]
    generalize (unhE (t.extract 1 t.size)).1 = u1 at hu
    generalize (unhE (t.extract 1 t.size)).2 = u2 at hu hq
    generalize t.extract 1 t.size = t2 at hu hcp hcf
    clear h hn hsz hp
    go_enter Tryz.func55, Tryz.ntmps55
    go_wp2_with (first
      | (go_at_call 23; refine hw.mono ?_; rintro e w1 ⟨rfl, hW⟩; obtain ⟨A1, hR1⟩ := hW.st; have HR := Aside0.mk hR1; have HW := Aside0.mk hW; clear hR1 hW)
      | (go_at_call 67; refine (hcp _ hcf).mono ?_; rintro e w2 ⟨rfl, hb⟩; have HW2 := Aside0.mk (HW.out.then hb); clear hb)
      | (go_at_call 68; refine (hu _).mono ?_; rintro e w3 ⟨rfl, hb⟩; have HW3 := Aside0.mk (HW2.out.then hb); clear hb)
      | (go_at_call 24; refine (must_ok _).mono ?_; rintro e w4 ⟨rfl, rfl⟩)
      | (go_at_call 24; refine (must_no _).mono ?_; rintro e w4 ⟨rfl, rfl⟩))
    obtain ⟨A3, hR3⟩ := HW3.out.st
    exact ⟨rfl, rfl, hR3.be⟩
  · have hp2 : Lib.hasPrefix t.data.toList [c] = false := by simpa using hp
    have hcp := fun r => strings_CutPrefix.calls t ⟨#[c]⟩ r false
    obtain ⟨r, hcf⟩ : ∃ r, strings_CutPrefix.f t ⟨#[c]⟩ = some (r, false) := ⟨_, by unfold strings_CutPrefix.f; rw [hp2]⟩
    clear h hn hsz hp hp2
    go_enter Tryz.func55, Tryz.ntmps55
    go_wp2_with (first
      | (go_at_call 23; refine hw.mono ?_; rintro e w1 ⟨rfl, hW⟩; obtain ⟨A1, hR1⟩ := hW.st; have HR := Aside0.mk hR1; have HW := Aside0.mk hW; clear hR1 hW)
      | (go_at_call 67; refine (hcp _ _ hcf).mono ?_; rintro e w2 ⟨rfl, hb⟩; have HW2 := Aside0.mk (HW.out.then hb); clear hb)
      | (go_at_call 24; refine (must_no _).mono ?_; rintro e w4 ⟨rfl, rfl⟩))
    obtain ⟨A3, hR3⟩ := HW2.out.st
    exact ⟨rfl, rfl, hR3.be⟩
set_option maxRecDepth 100000 in
theorem bytes_ok (c : UInt8) (h : Rdr w0 w b g ws A i o) (hi : i < ws.length) {s : ByteArray} (hn : bytW c ws[i] = some s) : Calls Tryz.prog 55 #[.pointer (some ⟨b, 0, none⟩), .string ⟨#[c]⟩] w fun e w' => e = .returned (.string s) ∧ Went w0 w w' b g ws (i + 1) o := by
  have hw := word_ok h hi
  have hsz := h.short _ (List.getElem_mem hi)
  generalize ws[i] = t at hw hsz hn
  unfold bytW at hn
  split at hn
  · rename_i hp
    split at hn
    · rename_i hq
      obtain rfl := Option.some.inj hn
      have hu := unhex_calls (t.extract 1 t.size) (Nat.le_trans (ext_size t 1) hsz)
      rw [hq] at hu
      have hcp := strings_CutPrefix.calls t ⟨#[c]⟩ (t.extract 1 t.size) true
      have hcf : strings_CutPrefix.f t ⟨#[c]⟩ = some (t.extract 1 t.size, true) := by unfold strings_CutPrefix.f; rw [trim_one hp, hp]
      generalize (unhE (t.extract 1 t.size)).1 = u1 at hu
      generalize t.extract 1 t.size = t2 at hu hcp hcf
      clear h hn hsz hp hq
      go_enter Tryz.func55, Tryz.ntmps55
      go_wp2_with (first
        | (go_at_call 23; refine hw.mono ?_; rintro e w1 ⟨rfl, hW⟩; obtain ⟨A1, hR1⟩ := hW.st; have HR := Aside0.mk hR1; have HW := Aside0.mk hW; clear hR1 hW)
        | (go_at_call 67; refine (hcp _ hcf).mono ?_; rintro e w2 ⟨rfl, hb⟩; have HW2 := Aside0.mk (HW.out.then hb); clear hb)
        | (go_at_call 68; refine (hu _).mono ?_; rintro e w3 ⟨rfl, hb⟩; have HW3 := Aside0.mk (HW2.out.then hb); clear hb)
        | (go_at_call 24; refine (must_ok _).mono ?_; rintro e w4 ⟨rfl, rfl⟩))
      go_ret
      exact ⟨rfl, HW3.out⟩
    · cases hn
  · cases hn
end
end Go.Proofs.YtodmbjbfigifnaaGreatDoor.Sc
set_option linter.unusedVariables false
set_option linter.unusedSimpArgs false
namespace Go.Proofs.YtodmbjbfigifnaaGreatDoor.Sc
open Go.RowKit Go.Proofs.YtodmbjbfigifnaaGreatDoor.Glob Go.Proofs.YtodmbjbfigifnaaGreatDoor.Dig Go.Proofs.YtodmbjbfigifnaaGreatDoorW.PrintWords Go.Proofs.YtodmbjbfigifnaaGreatDoor.PAll Go.Proofs.YtodmbjbfigifnaaGreatDoor.Pure
/-- What span.Parse answers. -/
def spV (t : ByteArray) : ByteArray × ByteArray × Bool × Int := match strings_Cut.f t ⟨#[46, 46]⟩ with | some (lo, hi, ok) => parV lo hi ok | none => (⟨#[]⟩, ⟨#[]⟩, false, 23)
def spnW (t : ByteArray) : Option S23 := if (spV t).2.2.2 = 0 then some ⟨(spV t).1, (spV t).2.1, (spV t).2.2.1⟩ else none
/-- A word laid into a command, by its letter. -/
def fieldW (c : Nat) (t : ByteArray) (o : OpT) : Option OpT :=
  if c = 110 then (numW t).map fun n => { o with f1 := n } else if c = 112 then (numW t).map fun n => { o with f2 := n } else if c = 105 then (numW t).map fun n => { o with f3 := n }
  else if c = 107 then (bytW 107 t).map fun s => { o with f4 := s } else if c = 118 then (bytW 61 t).map fun s => { o with f5 := s } else (spnW t).map fun s => { o with f6 := s }
theorem cut_le (t : ByteArray) (ht : t.size ≤ 400) : ∃ lo hi ok, strings_Cut.f t ⟨#[46, 46]⟩ = some (lo, hi, ok) ∧ lo.size ≤ 70368744177664 ∧ hi.size ≤ 70368744177664 := by
  unfold strings_Cut.f
  rw [if_pos (by omega)]
  refine ⟨_, _, _, rfl, ?_, ?_⟩
  all_goals
    show Array.size (List.toArray _) ≤ _
    rw [List.size_toArray]
    unfold Lib.cut
    have hl : t.data.toList.length = t.size := Array.length_toList
    split
    all_goals simp only [List.length_take, List.length_drop, List.length_nil, hl]
    all_goals omega
theorem span_calls (t : ByteArray) (ht : t.size ≤ 400) (w : World) (hG : GlobOK w) : Calls Tryz.prog 56 #[.string t] w fun e w' => e = .returned (.tuple #[.agg #[.string (spV t).1, .string (spV t).2.1, .bool (spV t).2.2.1], .int .i64 (spV t).2.2.2]) ∧ Below w.heap.size w w' := by
  obtain ⟨lo, hi, ok, hc, hl, hh⟩ := cut_le t ht
  obtain ⟨k, hk⟩ := (parse_of t lo hi ok hc hl hh).rounds
  have e : spV t = parV lo hi ok := by unfold spV; rw [hc]
  rw [e]
  exact span_Parse.calls k t _ _ _ _ w hG hk
section
variable {w0 w : World} {b g i : Nat} {ws : List ByteArray} {A : Option Addr} {o : OpT}
theorem node_nw (h : Rdr w0 w b g ws A i o) (hi : ¬ i < ws.length) : Calls Tryz.prog 37 #[.pointer (some ⟨b, 0, none⟩)] w fun e w' => e = .panicked noneP ∧ Below w0.heap.size w0 w' := by
  have hw := number_nw h hi
  clear h
  go_enter Tryz.func37, Tryz.ntmps37
  go_wp2_with (go_at_call 54; refine hw.mono ?_; rintro e w1 ⟨rfl, hb⟩)
  exact ⟨rfl, rfl, hb⟩
theorem node_no (h : Rdr w0 w b g ws A i o) (hi : i < ws.length) (hn : numW ws[i] = none) : Calls Tryz.prog 37 #[.pointer (some ⟨b, 0, none⟩)] w fun e w' => e = .panicked noneP ∧ Below w0.heap.size w0 w' := by
  have hw := number_no h hi hn
  clear h
  go_enter Tryz.func37, Tryz.ntmps37
  go_wp2_with (go_at_call 54; refine hw.mono ?_; rintro e w1 ⟨rfl, hb⟩)
  exact ⟨rfl, rfl, hb⟩
theorem node_ok (h : Rdr w0 w b g ws A i o) (hi : i < ws.length) {n : Int} (hn : numW ws[i] = some n) : Calls Tryz.prog 37 #[.pointer (some ⟨b, 0, none⟩)] w fun e w' => e = .returned (.tuple #[]) ∧ Went w0 w w' b g ws (i + 1) { o with f1 := n } := by
  have hw := number_ok h hi hn
  clear h
  go_enter Tryz.func37, Tryz.ntmps37
  go_wp2_with (go_at_call 54; refine hw.mono ?_; rintro e w1 ⟨rfl, hW⟩; obtain ⟨A1, hR1⟩ := hW.st; have HR := Aside0.mk hR1; have HW := Aside0.mk hW; have hf := hR1.fz 2; have hc := (blk_cell hR1.box 2).trans (show _ = some (Value.int .i64 o.f1) from rfl); clear hR1 hW)
  first | go_end0 | ((try simp only [Exit.inBlock, Exit.then]); refine bodyPost_ret (results_none rfl _ _ _) rfl ?_)
  exact ⟨rfl, HW.out.trans (HR.out.put 2 _ HR.out.le HR.out.at_ rfl)⟩
theorem peer_nw (h : Rdr w0 w b g ws A i o) (hi : ¬ i < ws.length) : Calls Tryz.prog 43 #[.pointer (some ⟨b, 0, none⟩)] w fun e w' => e = .panicked noneP ∧ Below w0.heap.size w0 w' := by
  have hw := number_nw h hi
  clear h
  go_enter Tryz.func43, Tryz.ntmps43
  go_wp2_with (go_at_call 54; refine hw.mono ?_; rintro e w1 ⟨rfl, hb⟩)
  exact ⟨rfl, rfl, hb⟩
theorem peer_no (h : Rdr w0 w b g ws A i o) (hi : i < ws.length) (hn : numW ws[i] = none) : Calls Tryz.prog 43 #[.pointer (some ⟨b, 0, none⟩)] w fun e w' => e = .panicked noneP ∧ Below w0.heap.size w0 w' := by
  have hw := number_no h hi hn
  clear h
  go_enter Tryz.func43, Tryz.ntmps43
  go_wp2_with (go_at_call 54; refine hw.mono ?_; rintro e w1 ⟨rfl, hb⟩)
  exact ⟨rfl, rfl, hb⟩
theorem peer_ok (h : Rdr w0 w b g ws A i o) (hi : i < ws.length) {n : Int} (hn : numW ws[i] = some n) : Calls Tryz.prog 43 #[.pointer (some ⟨b, 0, none⟩)] w fun e w' => e = .returned (.tuple #[]) ∧ Went w0 w w' b g ws (i + 1) { o with f2 := n } := by
  have hw := number_ok h hi hn
  clear h
  go_enter Tryz.func43, Tryz.ntmps43
  go_wp2_with (go_at_call 54; refine hw.mono ?_; rintro e w1 ⟨rfl, hW⟩; obtain ⟨A1, hR1⟩ := hW.st; have HR := Aside0.mk hR1; have HW := Aside0.mk hW; have hf := hR1.fz 3; have hc := (blk_cell hR1.box 3).trans (show _ = some (Value.int .i64 o.f2) from rfl); clear hR1 hW)
  first | go_end0 | ((try simp only [Exit.inBlock, Exit.then]); refine bodyPost_ret (results_none rfl _ _ _) rfl ?_)
  exact ⟨rfl, HW.out.trans (HR.out.put 3 _ HR.out.le HR.out.at_ rfl)⟩
theorem place_nw (h : Rdr w0 w b g ws A i o) (hi : ¬ i < ws.length) : Calls Tryz.prog 39 #[.pointer (some ⟨b, 0, none⟩)] w fun e w' => e = .panicked noneP ∧ Below w0.heap.size w0 w' := by
  have hw := number_nw h hi
  clear h
  go_enter Tryz.func39, Tryz.ntmps39
  go_wp2_with (go_at_call 54; refine hw.mono ?_; rintro e w1 ⟨rfl, hb⟩)
  exact ⟨rfl, rfl, hb⟩
theorem place_no (h : Rdr w0 w b g ws A i o) (hi : i < ws.length) (hn : numW ws[i] = none) : Calls Tryz.prog 39 #[.pointer (some ⟨b, 0, none⟩)] w fun e w' => e = .panicked noneP ∧ Below w0.heap.size w0 w' := by
  have hw := number_no h hi hn
  clear h
  go_enter Tryz.func39, Tryz.ntmps39
  go_wp2_with (go_at_call 54; refine hw.mono ?_; rintro e w1 ⟨rfl, hb⟩)
  exact ⟨rfl, rfl, hb⟩
theorem place_ok (h : Rdr w0 w b g ws A i o) (hi : i < ws.length) {n : Int} (hn : numW ws[i] = some n) : Calls Tryz.prog 39 #[.pointer (some ⟨b, 0, none⟩)] w fun e w' => e = .returned (.tuple #[]) ∧ Went w0 w w' b g ws (i + 1) { o with f3 := n } := by
  have hw := number_ok h hi hn
  clear h
  go_enter Tryz.func39, Tryz.ntmps39
  go_wp2_with (go_at_call 54; refine hw.mono ?_; rintro e w1 ⟨rfl, hW⟩; obtain ⟨A1, hR1⟩ := hW.st; have HR := Aside0.mk hR1; have HW := Aside0.mk hW; have hf := hR1.fz 4; have hc := (blk_cell hR1.box 4).trans (show _ = some (Value.int .i64 o.f3) from rfl); clear hR1 hW)
  first | go_end0 | ((try simp only [Exit.inBlock, Exit.then]); refine bodyPost_ret (results_none rfl _ _ _) rfl ?_)
  exact ⟨rfl, HW.out.trans (HR.out.put 4 _ HR.out.le HR.out.at_ rfl)⟩
theorem key_nw (h : Rdr w0 w b g ws A i o) (hi : ¬ i < ws.length) : Calls Tryz.prog 40 #[.pointer (some ⟨b, 0, none⟩)] w fun e w' => e = .panicked noneP ∧ Below w0.heap.size w0 w' := by
  have hw := bytes_nw 107 h hi
  clear h
  go_enter Tryz.func40, Tryz.ntmps40
  go_wp2_with (go_at_call 55; refine hw.mono ?_; rintro e w1 ⟨rfl, hb⟩)
  exact ⟨rfl, rfl, hb⟩
theorem key_no (h : Rdr w0 w b g ws A i o) (hi : i < ws.length) (hn : bytW 107 ws[i] = none) : Calls Tryz.prog 40 #[.pointer (some ⟨b, 0, none⟩)] w fun e w' => e = .panicked noneP ∧ Below w0.heap.size w0 w' := by
  have hw := bytes_no 107 h hi hn
  clear h
  go_enter Tryz.func40, Tryz.ntmps40
  go_wp2_with (go_at_call 55; refine hw.mono ?_; rintro e w1 ⟨rfl, hb⟩)
  exact ⟨rfl, rfl, hb⟩
theorem key_ok (h : Rdr w0 w b g ws A i o) (hi : i < ws.length) {n : ByteArray} (hn : bytW 107 ws[i] = some n) : Calls Tryz.prog 40 #[.pointer (some ⟨b, 0, none⟩)] w fun e w' => e = .returned (.tuple #[]) ∧ Went w0 w w' b g ws (i + 1) { o with f4 := n } := by
  have hw := bytes_ok 107 h hi hn
  clear h
  go_enter Tryz.func40, Tryz.ntmps40
  go_wp2_with (go_at_call 55; refine hw.mono ?_; rintro e w1 ⟨rfl, hW⟩; obtain ⟨A1, hR1⟩ := hW.st; have HR := Aside0.mk hR1; have HW := Aside0.mk hW; have hf := hR1.fz 5; have hc := (blk_cell hR1.box 5).trans (show _ = some (Value.string o.f4) from rfl); clear hR1 hW)
  first | go_end0 | ((try simp only [Exit.inBlock, Exit.then]); refine bodyPost_ret (results_none rfl _ _ _) rfl ?_)
  exact ⟨rfl, HW.out.trans (HR.out.put 5 _ HR.out.le HR.out.at_ rfl)⟩
theorem value_nw (h : Rdr w0 w b g ws A i o) (hi : ¬ i < ws.length) : Calls Tryz.prog 41 #[.pointer (some ⟨b, 0, none⟩)] w fun e w' => e = .panicked noneP ∧ Below w0.heap.size w0 w' := by
  have hw := bytes_nw 61 h hi
  clear h
  go_enter Tryz.func41, Tryz.ntmps41
  go_wp2_with (go_at_call 55; refine hw.mono ?_; rintro e w1 ⟨rfl, hb⟩)
  exact ⟨rfl, rfl, hb⟩
theorem value_no (h : Rdr w0 w b g ws A i o) (hi : i < ws.length) (hn : bytW 61 ws[i] = none) : Calls Tryz.prog 41 #[.pointer (some ⟨b, 0, none⟩)] w fun e w' => e = .panicked noneP ∧ Below w0.heap.size w0 w' := by
  have hw := bytes_no 61 h hi hn
  clear h
  go_enter Tryz.func41, Tryz.ntmps41
  go_wp2_with (go_at_call 55; refine hw.mono ?_; rintro e w1 ⟨rfl, hb⟩)
  exact ⟨rfl, rfl, hb⟩
theorem value_ok (h : Rdr w0 w b g ws A i o) (hi : i < ws.length) {n : ByteArray} (hn : bytW 61 ws[i] = some n) : Calls Tryz.prog 41 #[.pointer (some ⟨b, 0, none⟩)] w fun e w' => e = .returned (.tuple #[]) ∧ Went w0 w w' b g ws (i + 1) { o with f5 := n } := by
  have hw := bytes_ok 61 h hi hn
  clear h
  go_enter Tryz.func41, Tryz.ntmps41
  go_wp2_with (go_at_call 55; refine hw.mono ?_; rintro e w1 ⟨rfl, hW⟩; obtain ⟨A1, hR1⟩ := hW.st; have HR := Aside0.mk hR1; have HW := Aside0.mk hW; have hf := hR1.fz 6; have hc := (blk_cell hR1.box 6).trans (show _ = some (Value.string o.f5) from rfl); clear hR1 hW)
  first | go_end0 | ((try simp only [Exit.inBlock, Exit.then]); refine bodyPost_ret (results_none rfl _ _ _) rfl ?_)
  exact ⟨rfl, HW.out.trans (HR.out.put 6 _ HR.out.le HR.out.at_ rfl)⟩
theorem span_nw (h : Rdr w0 w b g ws A i o) (hi : ¬ i < ws.length) : Calls Tryz.prog 42 #[.pointer (some ⟨b, 0, none⟩)] w fun e w' => e = .panicked noneP ∧ Below w0.heap.size w0 w' := by
  have hw := word_no h hi
  clear h
  go_enter Tryz.func42, Tryz.ntmps42
  go_wp2_with (go_at_call 23; refine hw.mono ?_; rintro e w1 ⟨rfl, hb⟩)
  exact ⟨rfl, rfl, hb⟩
set_option maxRecDepth 100000 in
theorem span_no (h : Rdr w0 w b g ws A i o) (hi : i < ws.length) (hn : spnW ws[i] = none) : Calls Tryz.prog 42 #[.pointer (some ⟨b, 0, none⟩)] w fun e w' => e = .panicked noneP ∧ Below w0.heap.size w0 w' := by
  have hw := word_ok h hi
  have hsz := h.short _ (List.getElem_mem hi)
  generalize ws[i] = t at hw hsz hn
  have hp := span_calls t hsz
  unfold spnW at hn
  have hq : ((spV t).2.2.2 == 0) = false := by
    split at hn
    · cases hn
    · rename_i h; exact beq_eq_false_iff_ne.2 h
  generalize (spV t).1 = s1 at hp
  generalize (spV t).2.1 = s2 at hp
  generalize (spV t).2.2.1 = s3 at hp
  generalize (spV t).2.2.2 = s4 at hp hq
  clear h hn hsz
  go_enter Tryz.func42, Tryz.ntmps42
  go_wp2_with (first
    | (go_at_call 23; refine hw.mono ?_; rintro e w1 ⟨rfl, hW⟩; obtain ⟨A1, hR1⟩ := hW.st; have HR := Aside0.mk hR1; have HW := Aside0.mk hW; clear hR1 hW)
    | (go_at_call 56; refine (hp _ HR.out.G).mono ?_; rintro e w2 ⟨rfl, hb⟩; have HB := Aside0.mk (HR.out.below hb).be; clear hb)
    | (go_at_call 24; refine (must_no _).mono ?_; rintro e w3 ⟨rfl, rfl⟩))
  exact ⟨rfl, rfl, below_alloc HB.out _⟩
set_option maxRecDepth 100000 in
theorem span_ok (h : Rdr w0 w b g ws A i o) (hi : i < ws.length) {n : S23} (hn : spnW ws[i] = some n) : Calls Tryz.prog 42 #[.pointer (some ⟨b, 0, none⟩)] w fun e w' => e = .returned (.tuple #[]) ∧ Went w0 w w' b g ws (i + 1) { o with f6 := n } := by
  have hw := word_ok h hi
  have hsz := h.short _ (List.getElem_mem hi)
  generalize ws[i] = t at hw hsz hn
  have hp := span_calls t hsz
  unfold spnW at hn
  split at hn
  · rename_i hq
    obtain rfl := Option.some.inj hn
    rw [hq] at hp
    generalize (spV t).1 = s1 at hp ⊢
    generalize (spV t).2.1 = s2 at hp ⊢
    generalize (spV t).2.2.1 = s3 at hp ⊢
    clear h hn hsz hq
    go_enter Tryz.func42, Tryz.ntmps42
    go_wp2_with (first
      | (go_at_call 23; refine hw.mono ?_; rintro e w1 ⟨rfl, hW⟩; obtain ⟨A1, hR1⟩ := hW.st; have HR := Aside0.mk hR1; have HW := Aside0.mk hW; clear hR1 hW)
      | (go_at_call 56; refine (hp _ HR.out.G).mono ?_; rintro e w2 ⟨rfl, hb⟩; have hB3 := below_alloc hb (.cells #[.string s1, .string s2, .bool s3] 23); have HW3 := Aside0.mk (HW.out.then hB3); have HR3 := Aside0.mk (HR.out.below hB3); have hf7 := HR3.out.fz 7; have hf8 := HR3.out.fz 8; have hf9 := HR3.out.fz 9; have hc7 := (blk_cell HR3.out.box 7).trans (show _ = some (Value.string o.f6.f0) from rfl); have hc8 := (blk_cell HR3.out.box 8).trans (show _ = some (Value.string o.f6.f1) from rfl); have hc9 := (blk_cell HR3.out.box 9).trans (show _ = some (Value.bool o.f6.f2) from rfl); clear hb hB3)
      | (go_at_call 24; refine (must_ok _).mono ?_; rintro e w3 ⟨rfl, rfl⟩))
    have P7 := HR3.out.put 7 (.string s1) (o2 := { o with f6 := ⟨s1, o.f6.f1, o.f6.f2⟩ }) HR3.out.le HR3.out.at_ rfl
    obtain ⟨A7, R7⟩ := P7.st
    have P8 := R7.put 8 (.string s2) (o2 := { o with f6 := ⟨s1, s2, o.f6.f2⟩ }) R7.le R7.at_ rfl
    obtain ⟨A8, R8⟩ := P8.st
    have P9 := R8.put 9 (.bool s3) (o2 := { o with f6 := ⟨s1, s2, s3⟩ }) R8.le R8.at_ rfl
    first | go_end0 | ((try simp only [Exit.inBlock, Exit.then]); refine bodyPost_ret (results_none rfl _ _ _) rfl ?_)
    exact ⟨rfl, HW3.out.trans (P7.trans (P8.trans P9))⟩
  · cases hn
end
end Go.Proofs.YtodmbjbfigifnaaGreatDoor.Sc
set_option linter.unusedVariables false
set_option linter.unusedSimpArgs false
namespace Go.Proofs.YtodmbjbfigifnaaGreatDoor.AppSrc
open Go.RowKit Go.Proofs.YtodmbjbfigifnaaGreatDoorW.PrintWords
theorem run_append_own_src {P : Program} (w : World) (base : Nat) (t tx ty e : TypeId) (i : TypeInfo) (z : Value) (size bytes : Nat) (ht : P.underlying t = some (.slice e)) (hi : P.info? e = some i) (hz : i.zero = some z)
    (hsize : i.size = size) (hby : i.bytes = bytes) (hzs : z.cells.size = size) (hsz : 0 < size)
    (v : Value) (n : Nat) (xs : List Value) (hown : w.ownsRow base e size v n xs) (x : Value) (m : Nat) (news : List Value) (hs : Src P size tx x m news w)
    (h63 : n + m ≤ maxLen) (hbytes : (n + m) * bytes ≤ 140737488355328) (hbase : base ≤ w.heap.size) :
    ∃ v' w', (Builtin.append_ #[t, tx] ty #[v, x]).run P w = .ok v' w' ∧ w'.ownsRow base e size v' (n + m) (xs ++ news) ∧ w.grownBy w' v.ownBlock ∧ (v'.ownBlock = v.ownBlock ∨ v'.ownBlock = some w.heap.size) := by
  subst hsize
  subst hby
  have hl := hs.newsLen
  have hsmall : n + m ≤ 9223372036854775807 := by simp only [maxLen] at h63; omega
  have hlen : (xs ++ news).length = (n + m) * i.size := by rw [List.length_append, hown.1, hl, Nat.add_mul]
  have grown : ∀ (old : Nat), old < n + m → ∀ (row : Option Nat),
      (w.drew.alloc (.cells ((xs ++ news).toArray ++ Builtin.zeroCells z.cells (grownCap w (n + m) old e - (n + m))) e)).ownsRow base e i.size
        (.slice (some ⟨w.heap.size, 0, none⟩) (n + m) (grownCap w (n + m) old e)) (n + m) (xs ++ news) ∧
      w.grownBy (w.drew.alloc (.cells ((xs ++ news).toArray ++ Builtin.zeroCells z.cells (grownCap w (n + m) old e - (n + m))) e)) row := by
    intro old ho row
    have hge := grownCap_ge w (n + m) old e
    have hcm : grownCap w (n + m) old e ≤ maxLen := grownCap_le_maxLen w (n + m) old e h63
    refine ⟨⟨hlen, .inr ⟨w.heap.size, _, _, rfl, hbase, heap_alloc_new w.drew _, hge, hcm, ?_, ?_⟩⟩, ⟨rfl, rfl, rfl, by simp, fun k hk _ => Below.heap_alloc w.drew _ k hk⟩⟩
    · simp only [Array.size_append, List.size_toArray, size_zeroCells, hzs, hlen, ← Nat.add_mul]
      congr 1
      omega
    · simp only [Array.toList_append]
      rw [← hlen]
      exact List.take_left
  rcases hown.2 with ⟨rfl, rfl⟩ | ⟨g, cap, cur, rfl, hbg, hg, hnc, hcm, hcs, htake⟩
  · have hx : xs = [] := List.eq_nil_of_length_eq_zero (by simpa using hown.1)
    subst hx
    by_cases hm : m = 0
    · subst hm
      have hn : news = [] := List.eq_nil_of_length_eq_zero (by simpa using hl)
      subst hn
      exact ⟨.slice none 0 0, w, run_append_nothing w t tx ty e i ht hi none 0 0 (Nat.le_refl _) x hs, World.ownsRow_nil w base e i.size, ⟨rfl, rfl, rfl, Nat.le_refl _, fun _ _ _ => rfl⟩, Or.inl rfl⟩
    · have hr := run_append_grow_src (P := P) w t tx ty e i z ht hi hz none 0 0 [] (by simpa using run_firstCells_none (P := P) w.drew i.size 0 0 0) x m news hs (by omega) (by omega) (growslice_fits (by omega) hbytes)
      have hgr := grown 0 (by omega) (Value.ownBlock (.slice none 0 0))
      exact ⟨_, _, hr, hgr.1, hgr.2, Or.inr rfl⟩
  · by_cases hroom : n + m ≤ cap
    · have hfit : n * i.size + news.length ≤ cur.size := by rw [hl, hcs, ← Nat.add_mul]; exact Nat.mul_le_mul_right _ hroom
      have hr := run_append_room_src (P := P) w t tx ty e i ht hi g 0 n cap x m news hs hroom (fun j hj => by rw [blk_cell hg, Array.getElem?_eq_getElem (by omega)]; rfl) (fun j hj => blk_frozen hg _)
      obtain ⟨cur', h1, h2, h3⟩ := setCells_row news (0 + n * i.size) w cur hg (by omega)
      obtain ⟨s1, s2, s3, s4⟩ := setCells_same g news (0 + n * i.size) w
      refine ⟨_, _, hr, ⟨hlen, .inr ⟨g, cap, cur', rfl, hbg, h1, hroom, hcm, by rw [h2, hcs], ?_⟩⟩, ⟨s1, s2, s3, Nat.le_of_eq s4.symm, fun k _ hk => setCells_far news _ k (fun e => hk (by simp [Value.ownBlock, e]))⟩, Or.inl rfl⟩
      rw [h3, Nat.zero_add, htake, ← hlen]
      exact List.take_left
    · have holds : ∀ j u, xs[j]? = some u → w.drew.cell? ((⟨g, 0, none⟩ : Addr).add j) = some u := fun j u hj => (by simpa using hown.cells (g := g) rfl j u hj)
      have hr := run_append_grow_src (P := P) w t tx ty e i z ht hi hz (some ⟨g, 0, none⟩) n cap xs (run_firstCells_some (P := P) w.drew i.size n ⟨g, 0, none⟩ n cap xs hown.1 holds) x m news hs (by omega) (by omega) (growslice_fits (by omega) hbytes)
      have hgr := grown cap (by omega) (Value.ownBlock (.slice (some ⟨g, 0, none⟩) n cap))
      exact ⟨_, _, hr, hgr.1, hgr.2, Or.inr rfl⟩
end Go.Proofs.YtodmbjbfigifnaaGreatDoor.AppSrc
set_option linter.unusedVariables false
set_option linter.unusedSimpArgs false
namespace Go.Proofs.YtodmbjbfigifnaaGreatDoor.Sc
open Go.RowKit Go.Proofs.YtodmbjbfigifnaaGreatDoorW.PrintWords Go.Proofs.YtodmbjbfigifnaaGreatDoor.AppSrc
def fnV (f : Nat) : Value := .func (.func f) #[] #[]
section
variable {P : Program} {w w' : World} {ops : Array Oper} {rest : List Oper} {o : Oper} {a : Act} {Q : Exit → Act → World → Prop}
/-- An append whose run is known. -/
theorem wpList_append_run (hg : o.guard = none) {x y : Operand} {t u : TypeId} (hop : o.op = Op.call { callee := Callee.builtin Builtin.append, args := #[x, y], argTypes := #[t, u] }) {vx vy v : Value} (hx : a.eval x = vx) (hy : a.eval y = vy)
    (hrun : (Builtin.append_ #[t, u] o.type #[vx, vy]).run P w = .ok v w') (hK : wpList P ops Q rest (a.put o.dst v) w') : wpList P ops Q (o :: rest) a w := by
  refine wpList_plain hg fun K' hK' => ?_
  unfold Oper.wp
  simp [execOp, hop, resolve, invoke, builtin, hx, hy, hrun, Result.andThen]
  exact hK' _ _ hK
/-- A value laid into a map, whose run is known. -/
theorem wpList_insert_run (hg : o.guard = none) {t : TypeId} {m k x : Operand} (hop : o.op = Op.insert t m k x) {vm vk vx : Value} (hm : a.eval m = vm) (hk : a.eval k = vk) (hx : a.eval x = vx)
    (hrun : (Instr.mapUpdate t vm vk vx).run P w = .ok () w') (hK : wpList P ops Q rest (a.put o.dst undef) w') : wpList P ops Q (o :: rest) a w := by
  refine wpList_plain hg fun K' hK' => ?_
  unfold Oper.wp
  simp [execOp, hop, hm, hk, hx, hrun, Result.andThen]
  exact hK' _ _ hK
end
/-- A form: its kind, and what reads its words. -/
def FVal (W : World) (v : Value) (kind : Int) (fs : List Nat) : Prop := ∃ A c, v = .agg #[.int .i64 kind, .slice A fs.length c] ∧ (fs = [] ∨ ∃ g cur, A = some ⟨g, 0, none⟩ ∧ W.heap[g]? = some (.cells cur 60 (0, 0)) ∧ ∀ (j : Nat) (f : Nat), fs[j]? = some f → cur[j]? = some (fnV f))
theorem FVal.below {W W' : World} {v : Value} {kind : Int} {fs : List Nat} (h : FVal W v kind fs) (hb : Below W.heap.size W W') : FVal W' v kind fs := by
  obtain ⟨A, c, hv, h⟩ := h
  refine ⟨A, c, hv, h.imp id ?_⟩
  rintro ⟨g, cur, hA, hg, hf⟩
  exact ⟨g, cur, hA, blk_below hg hb, hf⟩
theorem FVal.far {W : World} {v : Value} {kind : Int} {fs : List Nat} (h : FVal W v kind fs) {r : Nat} {cs : Array Value} (hr : W.heap[r]? = some (.cells cs 54 (0, 0))) (i : Nat) (u : Value) : FVal (W.setCell ⟨r, i, none⟩ u) v kind fs := by
  obtain ⟨A, c, hv, h⟩ := h
  refine ⟨A, c, hv, h.imp id ?_⟩
  rintro ⟨g, cur, hA, hg, hf⟩
  exact ⟨g, cur, hA, blk_far hg (blk_ne hg hr (by decide)) _, hf⟩
theorem infoF : ∃ i, Tryz.prog.info? 60 = some i ∧ i.zero = some .nilFunc ∧ i.size = 1 ∧ i.bytes = 8 := by
  have h : (Tryz.prog.info? 60).map (fun i => (i.zero, i.size, i.bytes)) = some (some .nilFunc, 1, 8) := by kernel_rfl
  obtain ⟨i0, hi, hz⟩ := Option.map_eq_some_iff.1 h
  simp only [Prod.mk.injEq] at hz
  exact ⟨i0, hi, hz.1, hz.2.1, hz.2.2⟩
/-- A row of functions, just made. -/
theorem ownF (w : World) (base : Nat) (hb : base ≤ w.heap.size) (f : Nat) : (w.alloc (.cells #[fnV f] 60)).ownsRow base 60 1 (.slice (some ⟨w.heap.size, 0, none⟩) 1 1) 1 [fnV f] :=
  ⟨rfl, .inr ⟨w.heap.size, 1, _, rfl, hb, heap_alloc_new _ _, Nat.le_refl _, by simp [maxLen], rfl, rfl⟩⟩
theorem srcF {w : World} {g : Nat} {fs : List Nat} (h : w.heap[g]? = some (.cells (fs.map fnV).toArray 60 (0, 0))) : Src Tryz.prog 1 52 (.slice (some ⟨g, 0, none⟩) fs.length fs.length) fs.length (fs.map fnV) w := by
  refine Src.ofSlice w Tryz.underlying52 _ _ _ _ (by simp) (fun j u hj => ?_) (by intro u hu; obtain ⟨x, _, rfl⟩ := List.mem_map.1 hu; rfl)
  rw [add_plain, blk_cell h _]
  simpa using hj
theorem own_rowF {W : World} {base n : Nat} {v : Value} {fs : List Nat} (h : W.ownsRow base 60 1 v n (fs.map fnV)) (kind : Int) : ∃ A c, v = .slice A fs.length c ∧ FVal W (.agg #[.int .i64 kind, v]) kind fs := by
  obtain ⟨hl, h⟩ := h
  have hn : n = fs.length := by simpa using hl.symm
  subst hn
  rcases h with ⟨rfl, h0⟩ | ⟨g, cap, cur, rfl, _, hg, _, _, _, ht⟩
  · exact ⟨none, 0, by rw [h0], none, 0, by rw [h0], .inl (List.eq_nil_of_length_eq_zero h0)⟩
  · refine ⟨_, _, rfl, _, _, rfl, .inr ⟨g, cur, rfl, hg, fun j f hj => ?_⟩⟩
    have h1 : (fs.map fnV)[j]? = some (fnV f) := by rw [List.getElem?_map, hj]; rfl
    rw [← ht] at h1
    have hlt := (List.getElem?_eq_some_iff.1 h1).1
    rw [List.getElem?_take_of_lt (by simpa using (by rw [List.length_take] at hlt; omega : j < fs.length * 1))] at h1
    rwa [← Array.getElem?_toList]
set_option maxRecDepth 100000 in
theorem forms1_calls (kind : Int) (mv : Value) (more : List Nat) (w : World) (hm : more.length ≤ 3) (hsrc : ∀ W, Below w.heap.size w W → Src Tryz.prog 1 52 mv more.length (more.map fnV) W) :
    Calls Tryz.prog 36 #[.int .i64 kind, mv] w fun e w' => ∃ v, e = .returned v ∧ FVal w' v kind (37 :: more) ∧ Below w.heap.size w w' := by
  obtain ⟨i0, hi, hz0, hz1, hz2⟩ := infoF
  have hB1 := below_alloc (Below.refl w.heap.size w) (.cells #[.int .i64 0, .slice none 0 0] 54)
  have hB2 := below_alloc hB1 (.cells #[fnV 37] 60)
  obtain ⟨v', w1, hr, h1, h2, h3⟩ := run_append_own_src (P := Tryz.prog) ((w.alloc (.cells #[.int .i64 0, .slice none 0 0] 54)).alloc (.cells #[fnV 37] 60)) (w.heap.size + 1) 52 52 52 60 i0 .nilFunc 1 8 Tryz.underlying52 hi hz0 hz1 hz2 rfl (by decide) _ 1 _ (ownF _ _ (by simp) _) mv more.length _ (hsrc _ hB2) (by simp only [maxLen]; omega) (by omega) (by simp)
  have hx := blk_grown (blk_alloc (heap_alloc_new w (.cells #[.int .i64 0, .slice none 0 0] 54)) (.cells #[fnV 37] 60)) h2 (by simp [Value.ownBlock])
  have hB3 := pw_below_grown hB2 _ hB2.size h2 (fun k e => by
    have : k = w.heap.size + 1 := by simpa [Value.ownBlock] using e.symm
    omega)
  rw [show [fnV 37] ++ more.map fnV = (37 :: more).map fnV from rfl] at h1
  obtain ⟨A, c, rfl, hF⟩ := own_rowF h1 kind
  rw [World.size_alloc] at hr
  unfold fnV at hr
  have H := Aside0.mk (And.intro hF (And.intro hx hB3))
  have hc0 := (blk_cell hx 0).trans (show _ = some (Value.int .i64 0) from rfl)
  have hc1 := (blk_cell hx 1).trans (show _ = some (Value.slice none 0 0) from rfl)
  have hf0 := blk_frozen hx 0
  have hf1 := blk_frozen hx 1
  clear h1 h2 h3 hF hx hB1 hB2 hB3 hsrc hi hz0 hz1 hz2
  go_enter Tryz.func36, Tryz.ntmps36
  go_wp2_with (at_builtin; refine wpList_append_run rfl rfl rfl rfl hr ?_)
  have hx1 := blk_put H.out.2.1 0 (.int .i64 kind) (show _ = #[.int .i64 kind, .slice none 0 0] from rfl)
  refine bodyPost_ret (results_cell_row rfl _ _ w.heap.size 54 #[.int .i64 kind, .slice A (more.length + 1) c] (0, 0) _ rfl (blk_put hx1 1 _ rfl) Tryz.underlying54 rfl (by kernel_rfl)) rfl ?_
  exact ⟨_, rfl, (H.out.1.far H.out.2.1 0 _).far hx1 1 _, below_set (below_set H.out.2.2 (Nat.le_refl _)) (Nat.le_refl _)⟩
theorem forms1_nil (kind : Int) (w : World) : Calls Tryz.prog 36 #[.int .i64 kind, .slice none 0 0] w fun e w' => ∃ v, e = .returned v ∧ FVal w' v kind [37] ∧ Below w.heap.size w w' :=
  forms1_calls kind _ [] w (by simp) (fun W _ => Src.ofNil W Tryz.underlying52 0)
theorem forms1_row (kind : Int) (fs : List Nat) (hf : fs.length ≤ 3) (w : World) (n : Nat) (hn : w.heap.size = n) : Calls Tryz.prog 36 #[.int .i64 kind, .slice (some ⟨n, 0, none⟩) fs.length fs.length] (w.alloc (.cells (fs.map fnV).toArray 60)) fun e w' => ∃ v, e = .returned v ∧ FVal w' v kind (37 :: fs) ∧ Below w.heap.size w w' := by
  subst hn
  exact (forms1_calls kind _ fs (w.alloc (.cells (fs.map fnV).toArray 60)) hf (fun W hb => srcF (blk_below (heap_alloc_new w _) hb))).mono fun e w' ⟨v, h1, h2, h3⟩ => ⟨v, h1, h2, below_step (below_alloc (Below.refl _ _) _) h3⟩
theorem forms1_one (kind : Int) (f : Nat) (w : World) (n : Nat) (hn : w.heap.size = n) : Calls Tryz.prog 36 #[.int .i64 kind, .slice (some ⟨n, 0, none⟩) 1 1] (w.alloc (.cells #[.func (.func f) #[] #[]] 60)) fun e w' => ∃ v, e = .returned v ∧ FVal w' v kind [37, f] ∧ Below w.heap.size w w' :=
  forms1_row kind [f] (by simp) w n hn
theorem forms1_two (kind : Int) (f g : Nat) (w : World) (n : Nat) (hn : w.heap.size = n) : Calls Tryz.prog 36 #[.int .i64 kind, .slice (some ⟨n, 0, none⟩) 2 2] (w.alloc (.cells #[.func (.func f) #[] #[], .func (.func g) #[] #[]] 60)) fun e w' => ∃ v, e = .returned v ∧ FVal w' v kind [37, f, g] ∧ Below w.heap.size w w' :=
  forms1_row kind [f, g] (by simp) w n hn
theorem forms2_calls (kind : Int) (w : World) : Calls Tryz.prog 38 #[.int .i64 kind] w fun e w' => ∃ v, e = .returned v ∧ FVal w' v kind [39] ∧ Below w.heap.size w w' := by
  go_enter Tryz.func38, Tryz.ntmps38
  go_wp2
  have hB := below_alloc (below_alloc (Below.refl w.heap.size w) (.cells #[.int .i64 kind, .slice (some ⟨w.heap.size + 1, 0, none⟩) 1 1] 54)) (.cells #[.func (.func 39) #[] #[]] 60)
  have h0 := blk_alloc (heap_alloc_new w (.cells #[.int .i64 kind, .slice (some ⟨w.heap.size + 1, 0, none⟩) 1 1] 54)) (.cells #[.func (.func 39) #[] #[]] 60)
  have h1 := heap_alloc_new (w.alloc (.cells #[.int .i64 kind, .slice (some ⟨w.heap.size + 1, 0, none⟩) 1 1] 54)) (.cells #[.func (.func 39) #[] #[]] 60)
  rw [World.size_alloc] at h1
  refine bodyPost_ret (results_cell_row rfl _ _ w.heap.size 54 #[.int .i64 kind, .slice (some ⟨w.heap.size + 1, 0, none⟩) 1 1] (0, 0) _ rfl h0 Tryz.underlying54 rfl (by kernel_rfl)) rfl ?_
  refine ⟨_, rfl, ⟨_, _, rfl, .inr ⟨_, _, rfl, h1, fun j f hj => ?_⟩⟩, hB⟩
  match j, hj with
  | 0, hj => cases hj; rfl
theorem findNow_str (s : ByteArray) : ∀ (es : List MapEntry) (l : List (ByteArray × Value)) (i : Nat), es.map (fun e => (e.key, e.val)) = l.map (fun p => (Value.string p.1, p.2)) →
    ∃ j, Instr.findNow .string (.string s) es i = some ((l.lookup s).map fun v => (j, v))
  | [], [], i, _ => ⟨0, rfl⟩
  | [], _ :: _, _, h => by simp at h
  | _ :: _, [], _, h => by simp at h
  | e :: es, p :: l, i, h => by
    simp only [List.map_cons, List.cons.injEq, Prod.mk.injEq] at h
    obtain ⟨⟨h1, h2⟩, h3⟩ := h
    unfold Instr.findNow
    rw [h1]
    simp only [Instr.sameNow]
    by_cases hs : s = p.1
    · subst hs
      refine ⟨i, ?_⟩
      have e1 : (p.1 == p.1) = true := (MapKept.bytes_beq _ _).2 rfl
      rw [e1]
      simp only [h2]
      rw [show p :: l = (p.1, p.2) :: l from rfl, List.lookup_cons, e1]
      rfl
    · have e1 : (s == p.1) = false := by rw [Bool.eq_false_iff]; exact fun e => hs ((MapKept.bytes_beq _ _).1 e)
      obtain ⟨j, hj⟩ := findNow_str s es l (i + 1) h3
      refine ⟨j, ?_⟩
      rw [e1]
      simp only [hj]
      rw [show p :: l = (p.1, p.2) :: l from rfl, List.lookup_cons, e1]
theorem run_insert {P : Program} {w : World} {mty kt et : TypeId} {r clock : Nat} {es : Array MapEntry} {l : List (ByteArray × Value)} (hm : P.underlying mty = some (.map kt et)) (hk : P.underlying kt = some .string)
    (hb : w.heap[r]? = some (.map es clock)) (he : es.toList.map (fun e => (e.key, e.val)) = l.map (fun p => (Value.string p.1, p.2))) {s : ByteArray} (hs : l.lookup s = none) (val : Value) :
    (Instr.mapUpdate mty (.map (some r)) (.string s) val).run P w = .ok () (w.putObj r (.map (es.push { key := .string s, val := val, born := clock }) (clock + 1))) := by
  obtain ⟨j, hf⟩ := findNow_str s es.toList l 0 he
  rw [hs] at hf
  have hc : (Instr.checkKey false 10000 kt (.string s)).run P w = .ok () w := MapKept.run_checkKey (k := .string s) hk (by simp [MapKept.IsKey]) false 9999
  simp [Instr.mapUpdate, run_underlying hm, MapKept.run_getObj_map hb, hc, MapKept.run_findKey hk hf, MapKept.run_setObj_map _ hb, Result.andThen]
  rfl
theorem run_look {P : Program} {w : World} {mty kt et : TypeId} {r clock : Nat} {es : Array MapEntry} {l : List (ByteArray × Value)} (hm : P.underlying mty = some (.map kt et)) (hk : P.underlying kt = some .string)
    (hb : w.heap[r]? = some (.map es clock)) (he : es.toList.map (fun e => (e.key, e.val)) = l.map (fun p => (Value.string p.1, p.2))) {z : Value} (hz : (zeroValue et).run P w = .ok z w) (s : ByteArray) :
    (Instr.lookup mty (.map (some r)) (.string s) true).run P w = .ok (.tuple #[((l.lookup s).getD z), .bool (l.lookup s).isSome]) w := by
  obtain ⟨j, hf⟩ := findNow_str s es.toList l 0 he
  have hc : ∀ b, (Instr.checkKey b 10000 kt (.string s)).run P w = .ok () w := fun b => MapKept.run_checkKey (k := .string s) hk (by simp [MapKept.IsKey]) b 9999
  simp [Instr.lookup, run_underlying hm, MapKept.run_getObj_map hb, hc, MapKept.run_findKey hk hf, Result.andThen]
  cases l.lookup s with
  | none => simp [hz, Result.andThen]
  | some v => simp [Result.andThen]
def Vals (W : World) : List (ByteArray × Value) → List (ByteArray × Int × List Nat) → Prop
  | [], [] => True
  | p :: vs, x :: l => p.1 = x.1 ∧ FVal W p.2 x.2.1 x.2.2 ∧ Vals W vs l
  | _, _ => False
theorem Vals.imp {W W' : World} (hi : ∀ v kind fs, FVal W v kind fs → FVal W' v kind fs) : ∀ {vs : List (ByteArray × Value)} {l : List (ByteArray × Int × List Nat)}, Vals W vs l → Vals W' vs l
  | [], [], _ => trivial
  | p :: vs, x :: l, h => ⟨h.1, hi _ _ _ h.2.1, Vals.imp hi h.2.2⟩
  | [], _ :: _, h => h.elim
  | _ :: _, [], h => h.elim
theorem Vals.snoc {W : World} {p : ByteArray × Value} {x : ByteArray × Int × List Nat} (h1 : p.1 = x.1) (h2 : FVal W p.2 x.2.1 x.2.2) : ∀ {vs : List (ByteArray × Value)} {l : List (ByteArray × Int × List Nat)}, Vals W vs l → Vals W (vs ++ [p]) (l ++ [x])
  | [], [], _ => ⟨h1, h2, trivial⟩
  | _ :: _, _ :: _, h => ⟨h.1, h.2.1, Vals.snoc h1 h2 h.2.2⟩
  | [], _ :: _, h => h.elim
  | _ :: _, [], h => h.elim
/-- A map of forms while it is made. -/
structure Forms (w0 W : World) (m : Nat) (l : List (ByteArray × Int × List Nat)) : Prop where
  map : ∃ es clock vs, W.heap[m]? = some (.map es clock) ∧ es.toList.map (fun e => (e.key, e.val)) = (vs : List (ByteArray × Value)).map (fun p => (Value.string p.1, p.2)) ∧ Vals W vs l
  lo : w0.heap.size ≤ m
  be : Below w0.heap.size w0 W
theorem FVal.put {W : World} {v : Value} {kind : Int} {fs : List Nat} (h : FVal W v kind fs) {m : Nat} {es : Array MapEntry} {c : Nat} (hm : W.heap[m]? = some (.map es c)) (o : Obj) : FVal (W.putObj m o) v kind fs := by
  obtain ⟨A, c, hv, h⟩ := h
  refine ⟨A, c, hv, h.imp id ?_⟩
  rintro ⟨g, cur, hA, hg, hf⟩
  refine ⟨g, cur, hA, (World.putObj_heap_other ?_).trans hg, hf⟩
  rintro rfl
  rw [hg] at hm
  cases hm
theorem Forms.below {w0 W W' : World} {m : Nat} {l : List (ByteArray × Int × List Nat)} (h : Forms w0 W m l) (hb : Below W.heap.size W W') : Forms w0 W' m l := by
  obtain ⟨⟨es, clock, vs, h1, h2, h3⟩, h4, h5⟩ := h
  exact ⟨⟨es, clock, vs, blk_below h1 hb, h2, h3.imp fun v k f h => h.below hb⟩, h4, below_then h5 h5.size hb⟩
theorem forall_lookup {W : World} : ∀ {vs : List (ByteArray × Value)} {l : List (ByteArray × Int × List Nat)}, Vals W vs l → ∀ s,
    match l.lookup s with | none => vs.lookup s = none | some (kind, fs) => ∃ v, vs.lookup s = some v ∧ FVal W v kind fs
  | [], [], _, s => by simp [List.lookup]
  | [], _ :: _, h, _ => h.elim
  | _ :: _, [], h, _ => h.elim
  | (k, v) :: vs, (k', kind, fs) :: l, h, s => by
    obtain ⟨h1, h2, t⟩ := h
    simp only at h1 h2
    subst h1
    simp only [List.lookup_cons]
    cases hs : (s == k) with
    | true => exact ⟨v, rfl, h2⟩
    | false => exact forall_lookup t s
/-- One more. -/
theorem Forms.add {w0 W : World} {m : Nat} {l : List (ByteArray × Int × List Nat)} (h : Forms w0 W m l) {s : ByteArray} (hs : l.lookup s = none) {v : Value} {kind : Int} {fs : List Nat} (hv : FVal W v kind fs) :
    ∃ W', (Instr.mapUpdate 56 (.map (some m)) (.string s) v).run Tryz.prog W = .ok () W' ∧ Forms w0 W' m (l ++ [(s, kind, fs)]) := by
  obtain ⟨⟨es, clock, vs, h1, h2, h3⟩, h4, h5⟩ := h
  have hvs : vs.lookup s = none := by
    have := forall_lookup h3 s
    rw [hs] at this
    exact this
  refine ⟨_, run_insert Tryz.underlying56 Tryz.underlying9 h1 h2 hvs v, ⟨⟨_, _, vs ++ [(s, v)], World.putObj_heap_same (blk_lt h1), ?_, ?_⟩, h4, ?_⟩⟩
  · simp only [Array.toList_push, List.map_append, h2, List.map_cons, List.map_nil]
  · exact Vals.snoc (x := (s, kind, fs)) rfl (hv.put h1 _) (h3.imp fun v k f h => h.put h1 _)
  · exact h5.grown (grownBy_putObj' W m _) h5.size (fun k e => by cases e; exact h4)
end Go.Proofs.YtodmbjbfigifnaaGreatDoor.Sc
set_option linter.unusedVariables false
set_option linter.unusedSimpArgs false
namespace Go.Proofs.YtodmbjbfigifnaaGreatDoor.Sc
open Go.RowKit Go.Proofs.YtodmbjbfigifnaaGreatDoorW.PrintWords
/-- Each command's first word, its kind, and what reads its further words. -/
def specs : List (ByteArray × Int × List Nat) := [(⟨#[112, 117, 116]⟩, 1, [37, 40, 41]), (⟨#[100, 101, 108]⟩, 2, [37, 40]), (⟨#[103, 101, 116]⟩, 3, [37, 40]), (⟨#[115, 99, 97, 110]⟩, 4, [37, 42]), (⟨#[102, 111, 108, 100]⟩, 5, [37, 42]), (⟨#[111, 112, 101, 110]⟩, 6, [37, 43]), (⟨#[114, 97, 119]⟩, 10, [37, 41]), (⟨#[116, 105, 99, 107]⟩, 11, [37]), (⟨#[99, 114, 97, 115, 104]⟩, 12, [37]), (⟨#[115, 116, 97, 114, 116]⟩, 13, [37]), (⟨#[109, 97, 112]⟩, 14, [37]), (⟨#[116, 97, 108, 107, 115]⟩, 15, [37]), (⟨#[99, 111, 117, 110, 116]⟩, 16, [37]), (⟨#[103, 111]⟩, 7, [39]), (⟨#[100, 114, 111, 112]⟩, 8, [39]), (⟨#[116, 119, 105, 99, 101]⟩, 9, [39]), (⟨#[98, 97, 103]⟩, 17, [])]
theorem FVal.none (W : World) (kind : Int) : FVal W (.agg #[.int .i64 kind, .slice none 0 0]) kind [] := by
  unfold FVal
  exact ⟨_, _, rfl, .inl rfl⟩
set_option maxRecDepth 100000 in
set_option maxHeartbeats 4000000 in
theorem forms_calls (w : World) : Calls Tryz.prog 22 #[] w fun e w' => ∃ m, e = .returned (.map (some m)) ∧ Forms w w' m specs := by
  have HF0 : Aside0 (Forms w (w.alloc (.map #[] 0)) w.heap.size []) := ⟨⟨⟨#[], 0, [], heap_alloc_new w _, rfl, trivial⟩, Nat.le_refl _, below_alloc (Below.refl _ _) _⟩⟩
  have hmm := @run_makeMap Tryz.prog
  go_enter Tryz.func22, Tryz.ntmps22
  go_wp2_with (first
    | (go_at_call 36; with_reducible refine (forms1_one 2 40 _ _ ?hn).mono ?_; (case hn => first | rfl | exact World.size_alloc _ _); rintro e w1 ⟨v, rfl, hv, hb⟩; obtain ⟨W1, hr_del, hF⟩ := (HF_put.out.below hb).add (s := ⟨#[100, 101, 108]⟩) (by decide +kernel) hv; have HF_del := Aside0.mk hF; clear hv hb hF)
    | (go_at_call 36; with_reducible refine (forms1_one 3 40 _ _ ?hn).mono ?_; (case hn => first | rfl | exact World.size_alloc _ _); rintro e w1 ⟨v, rfl, hv, hb⟩; obtain ⟨W1, hr_get, hF⟩ := (HF_del.out.below hb).add (s := ⟨#[103, 101, 116]⟩) (by decide +kernel) hv; have HF_get := Aside0.mk hF; clear hv hb hF)
    | (go_at_call 36; with_reducible refine (forms1_one 4 42 _ _ ?hn).mono ?_; (case hn => first | rfl | exact World.size_alloc _ _); rintro e w1 ⟨v, rfl, hv, hb⟩; obtain ⟨W1, hr_scan, hF⟩ := (HF_get.out.below hb).add (s := ⟨#[115, 99, 97, 110]⟩) (by decide +kernel) hv; have HF_scan := Aside0.mk hF; clear hv hb hF)
    | (go_at_call 36; with_reducible refine (forms1_one 5 42 _ _ ?hn).mono ?_; (case hn => first | rfl | exact World.size_alloc _ _); rintro e w1 ⟨v, rfl, hv, hb⟩; obtain ⟨W1, hr_fold, hF⟩ := (HF_scan.out.below hb).add (s := ⟨#[102, 111, 108, 100]⟩) (by decide +kernel) hv; have HF_fold := Aside0.mk hF; clear hv hb hF)
    | (go_at_call 36; with_reducible refine (forms1_one 6 43 _ _ ?hn).mono ?_; (case hn => first | rfl | exact World.size_alloc _ _); rintro e w1 ⟨v, rfl, hv, hb⟩; obtain ⟨W1, hr_open, hF⟩ := (HF_fold.out.below hb).add (s := ⟨#[111, 112, 101, 110]⟩) (by decide +kernel) hv; have HF_open := Aside0.mk hF; clear hv hb hF)
    | (go_at_call 36; with_reducible refine (forms1_one 10 41 _ _ ?hn).mono ?_; (case hn => first | rfl | exact World.size_alloc _ _); rintro e w1 ⟨v, rfl, hv, hb⟩; obtain ⟨W1, hr_raw, hF⟩ := (HF_open.out.below hb).add (s := ⟨#[114, 97, 119]⟩) (by decide +kernel) hv; have HF_raw := Aside0.mk hF; clear hv hb hF)
    | (go_at_call 36; with_reducible refine (forms1_nil 11 _).mono ?_; rintro e w1 ⟨v, rfl, hv, hb⟩; obtain ⟨W1, hr_tick, hF⟩ := (HF_raw.out.below hb).add (s := ⟨#[116, 105, 99, 107]⟩) (by decide +kernel) hv; have HF_tick := Aside0.mk hF; clear hv hb hF)
    | (go_at_call 36; with_reducible refine (forms1_nil 12 _).mono ?_; rintro e w1 ⟨v, rfl, hv, hb⟩; obtain ⟨W1, hr_crash, hF⟩ := (HF_tick.out.below hb).add (s := ⟨#[99, 114, 97, 115, 104]⟩) (by decide +kernel) hv; have HF_crash := Aside0.mk hF; clear hv hb hF)
    | (go_at_call 36; with_reducible refine (forms1_nil 13 _).mono ?_; rintro e w1 ⟨v, rfl, hv, hb⟩; obtain ⟨W1, hr_start, hF⟩ := (HF_crash.out.below hb).add (s := ⟨#[115, 116, 97, 114, 116]⟩) (by decide +kernel) hv; have HF_start := Aside0.mk hF; clear hv hb hF)
    | (go_at_call 36; with_reducible refine (forms1_nil 14 _).mono ?_; rintro e w1 ⟨v, rfl, hv, hb⟩; obtain ⟨W1, hr_map, hF⟩ := (HF_start.out.below hb).add (s := ⟨#[109, 97, 112]⟩) (by decide +kernel) hv; have HF_map := Aside0.mk hF; clear hv hb hF)
    | (go_at_call 36; with_reducible refine (forms1_nil 15 _).mono ?_; rintro e w1 ⟨v, rfl, hv, hb⟩; obtain ⟨W1, hr_talks, hF⟩ := (HF_map.out.below hb).add (s := ⟨#[116, 97, 108, 107, 115]⟩) (by decide +kernel) hv; have HF_talks := Aside0.mk hF; clear hv hb hF)
    | (go_at_call 36; with_reducible refine (forms1_nil 16 _).mono ?_; rintro e w1 ⟨v, rfl, hv, hb⟩; obtain ⟨W1, hr_count, hF⟩ := (HF_talks.out.below hb).add (s := ⟨#[99, 111, 117, 110, 116]⟩) (by decide +kernel) hv; have HF_count := Aside0.mk hF; clear hv hb hF)
    | (go_at_call 38; with_reducible refine (forms2_calls 7 _).mono ?_; rintro e w1 ⟨v, rfl, hv, hb⟩; obtain ⟨W1, hr_go, hF⟩ := (HF_count.out.below hb).add (s := ⟨#[103, 111]⟩) (by decide +kernel) hv; have HF_go := Aside0.mk hF; clear hv hb hF)
    | (go_at_call 38; with_reducible refine (forms2_calls 8 _).mono ?_; rintro e w1 ⟨v, rfl, hv, hb⟩; obtain ⟨W1, hr_drop, hF⟩ := (HF_go.out.below hb).add (s := ⟨#[100, 114, 111, 112]⟩) (by decide +kernel) hv; have HF_drop := Aside0.mk hF; clear hv hb hF)
    | (go_at_call 38; with_reducible refine (forms2_calls 9 _).mono ?_; rintro e w1 ⟨v, rfl, hv, hb⟩; obtain ⟨W1, hr_twice, hF⟩ := (HF_drop.out.below hb).add (s := ⟨#[116, 119, 105, 99, 101]⟩) (by decide +kernel) hv; have HF_twice := Aside0.mk hF; clear hv hb hF; obtain ⟨W2, hr_bag, hF⟩ := HF_twice.out.add (s := ⟨#[98, 97, 103]⟩) (v := .agg #[.int .i64 17, .slice none 0 0]) (kind := 17) (fs := []) (by decide +kernel) (FVal.none _ _); have HF_bag := Aside0.mk hF; clear hF)
    | (go_at_call 36; with_reducible refine (forms1_two 1 40 41 _ _ ?hn).mono ?_; (case hn => first | rfl | exact World.size_alloc _ _); rintro e w1 ⟨v, rfl, hv, hb⟩; obtain ⟨W1, hr_put, hF⟩ := (HF0.out.below hb).add (s := ⟨#[112, 117, 116]⟩) (by decide +kernel) hv; have HF_put := Aside0.mk hF; clear hv hb hF)
    | ((with_reducible refine wpList_insert_run ?hg ?hop ?hm ?hk ?hx hr_put ?_); (case hop => rfl); (case hg => rfl); (case hm => rfl); (case hk => rfl); (case hx => rfl); clear hr_put)
    | ((with_reducible refine wpList_insert_run ?hg ?hop ?hm ?hk ?hx hr_del ?_); (case hop => rfl); (case hg => rfl); (case hm => rfl); (case hk => rfl); (case hx => rfl); clear hr_del)
    | ((with_reducible refine wpList_insert_run ?hg ?hop ?hm ?hk ?hx hr_get ?_); (case hop => rfl); (case hg => rfl); (case hm => rfl); (case hk => rfl); (case hx => rfl); clear hr_get)
    | ((with_reducible refine wpList_insert_run ?hg ?hop ?hm ?hk ?hx hr_scan ?_); (case hop => rfl); (case hg => rfl); (case hm => rfl); (case hk => rfl); (case hx => rfl); clear hr_scan)
    | ((with_reducible refine wpList_insert_run ?hg ?hop ?hm ?hk ?hx hr_fold ?_); (case hop => rfl); (case hg => rfl); (case hm => rfl); (case hk => rfl); (case hx => rfl); clear hr_fold)
    | ((with_reducible refine wpList_insert_run ?hg ?hop ?hm ?hk ?hx hr_open ?_); (case hop => rfl); (case hg => rfl); (case hm => rfl); (case hk => rfl); (case hx => rfl); clear hr_open)
    | ((with_reducible refine wpList_insert_run ?hg ?hop ?hm ?hk ?hx hr_raw ?_); (case hop => rfl); (case hg => rfl); (case hm => rfl); (case hk => rfl); (case hx => rfl); clear hr_raw)
    | ((with_reducible refine wpList_insert_run ?hg ?hop ?hm ?hk ?hx hr_tick ?_); (case hop => rfl); (case hg => rfl); (case hm => rfl); (case hk => rfl); (case hx => rfl); clear hr_tick)
    | ((with_reducible refine wpList_insert_run ?hg ?hop ?hm ?hk ?hx hr_crash ?_); (case hop => rfl); (case hg => rfl); (case hm => rfl); (case hk => rfl); (case hx => rfl); clear hr_crash)
    | ((with_reducible refine wpList_insert_run ?hg ?hop ?hm ?hk ?hx hr_start ?_); (case hop => rfl); (case hg => rfl); (case hm => rfl); (case hk => rfl); (case hx => rfl); clear hr_start)
    | ((with_reducible refine wpList_insert_run ?hg ?hop ?hm ?hk ?hx hr_map ?_); (case hop => rfl); (case hg => rfl); (case hm => rfl); (case hk => rfl); (case hx => rfl); clear hr_map)
    | ((with_reducible refine wpList_insert_run ?hg ?hop ?hm ?hk ?hx hr_talks ?_); (case hop => rfl); (case hg => rfl); (case hm => rfl); (case hk => rfl); (case hx => rfl); clear hr_talks)
    | ((with_reducible refine wpList_insert_run ?hg ?hop ?hm ?hk ?hx hr_count ?_); (case hop => rfl); (case hg => rfl); (case hm => rfl); (case hk => rfl); (case hx => rfl); clear hr_count)
    | ((with_reducible refine wpList_insert_run ?hg ?hop ?hm ?hk ?hx hr_go ?_); (case hop => rfl); (case hg => rfl); (case hm => rfl); (case hk => rfl); (case hx => rfl); clear hr_go)
    | ((with_reducible refine wpList_insert_run ?hg ?hop ?hm ?hk ?hx hr_drop ?_); (case hop => rfl); (case hg => rfl); (case hm => rfl); (case hk => rfl); (case hx => rfl); clear hr_drop)
    | ((with_reducible refine wpList_insert_run ?hg ?hop ?hm ?hk ?hx hr_twice ?_); (case hop => rfl); (case hg => rfl); (case hm => rfl); (case hk => rfl); (case hx => rfl); clear hr_twice)
    | ((with_reducible refine wpList_insert_run ?hg ?hop ?hm ?hk ?hx hr_bag ?_); (case hop => rfl); (case hg => rfl); (case hm => rfl); (case hk => rfl); (case hx => rfl); clear hr_bag))
  go_ret
  exact ⟨_, rfl, HF_bag.out⟩
end Go.Proofs.YtodmbjbfigifnaaGreatDoor.Sc
set_option linter.unusedVariables false
set_option linter.unusedSimpArgs false
namespace Go.Proofs.YtodmbjbfigifnaaGreatDoor.Sc
open Go.RowKit Go.Proofs.YtodmbjbfigifnaaGreatDoor.Glob Go.Proofs.YtodmbjbfigifnaaGreatDoor.Dig Go.Proofs.YtodmbjbfigifnaaGreatDoorW.PrintWords Go.Proofs.YtodmbjbfigifnaaGreatDoor.PAll Go.Proofs.YtodmbjbfigifnaaGreatDoor.Pure
def z9 : List Value := [.int .i64 0, .int .i64 0, .int .i64 0, .int .i64 0, .string ⟨#[]⟩, .string ⟨#[]⟩, .string ⟨#[]⟩, .string ⟨#[]⟩, .bool false]
/-- The two results, in their boxes. -/
structure Res (W : World) (p q : Nat) (o : OpT) (e : Int) : Prop where
  op : W.heap[p]? = some (.cells #[.int .i64 o.f0, .int .i64 o.f1, .int .i64 o.f2, .int .i64 o.f3, .string o.f4, .string o.f5, .string o.f6.f0, .string o.f6.f1, .bool o.f6.f2] 25 (0, 0))
  er : W.heap[q]? = some (.cells #[.int .i64 e] 27 (0, 0))
theorem Res.below {W W' : World} {p q : Nat} {o : OpT} {e : Int} (h : Res W p q o e) (hb : Below W.heap.size W W') : Res W' p q o e := ⟨blk_below h.op hb, blk_below h.er hb⟩
def zOp : OpT := ⟨0, 0, 0, 0, ⟨#[]⟩, ⟨#[]⟩, ⟨⟨#[]⟩, ⟨#[]⟩, false⟩⟩
def opA (o : OpT) : Array Value := #[.int .i64 o.f0, .int .i64 o.f1, .int .i64 o.f2, .int .i64 o.f3, .string o.f4, .string o.f5, .string o.f6.f0, .string o.f6.f1, .bool o.f6.f2]
/-- A command, as_ it is handed over. -/
abbrev opX (o : OpT) : Value := .agg #[.int .i64 o.f0, .int .i64 o.f1, .int .i64 o.f2, .int .i64 o.f3, .string o.f4, .string o.f5, .string o.f6.f0, .string o.f6.f1, .bool o.f6.f2]
/-- A command is written over another one. -/
def setOp (W : World) (p : Nat) (o : OpT) : World := (((((((((W.setCell ⟨p, 0, none⟩ (.int .i64 o.f0)).setCell ⟨p, 1, none⟩ (.int .i64 o.f1)).setCell ⟨p, 2, none⟩ (.int .i64 o.f2)).setCell ⟨p, 3, none⟩ (.int .i64 o.f3)).setCell ⟨p, 4, none⟩ (.string o.f4)).setCell ⟨p, 5, none⟩ (.string o.f5)).setCell ⟨p, 6, none⟩ (.string o.f6.f0)).setCell ⟨p, 7, none⟩ (.string o.f6.f1)).setCell ⟨p, 8, none⟩ (.bool o.f6.f2))
theorem setOp_same {W : World} {p : Nat} {o0 : OpT} {t : TypeId} (h : W.heap[p]? = some (.cells (opA o0) t (0, 0))) (o : OpT) : (setOp W p o).heap[p]? = some (.cells (opA o) t (0, 0)) := by
  unfold setOp
  exact blk_put (cs := #[.int .i64 o.f0, .int .i64 o.f1, .int .i64 o.f2, .int .i64 o.f3, .string o.f4, .string o.f5, .string o.f6.f0, .string o.f6.f1, .bool o0.f6.f2])
    (blk_put (cs := #[.int .i64 o.f0, .int .i64 o.f1, .int .i64 o.f2, .int .i64 o.f3, .string o.f4, .string o.f5, .string o.f6.f0, .string o0.f6.f1, .bool o0.f6.f2])
    (blk_put (cs := #[.int .i64 o.f0, .int .i64 o.f1, .int .i64 o.f2, .int .i64 o.f3, .string o.f4, .string o.f5, .string o0.f6.f0, .string o0.f6.f1, .bool o0.f6.f2])
    (blk_put (cs := #[.int .i64 o.f0, .int .i64 o.f1, .int .i64 o.f2, .int .i64 o.f3, .string o.f4, .string o0.f5, .string o0.f6.f0, .string o0.f6.f1, .bool o0.f6.f2])
    (blk_put (cs := #[.int .i64 o.f0, .int .i64 o.f1, .int .i64 o.f2, .int .i64 o.f3, .string o0.f4, .string o0.f5, .string o0.f6.f0, .string o0.f6.f1, .bool o0.f6.f2])
    (blk_put (cs := #[.int .i64 o.f0, .int .i64 o.f1, .int .i64 o.f2, .int .i64 o0.f3, .string o0.f4, .string o0.f5, .string o0.f6.f0, .string o0.f6.f1, .bool o0.f6.f2])
    (blk_put (cs := #[.int .i64 o.f0, .int .i64 o.f1, .int .i64 o0.f2, .int .i64 o0.f3, .string o0.f4, .string o0.f5, .string o0.f6.f0, .string o0.f6.f1, .bool o0.f6.f2])
    (blk_put (cs := #[.int .i64 o.f0, .int .i64 o0.f1, .int .i64 o0.f2, .int .i64 o0.f3, .string o0.f4, .string o0.f5, .string o0.f6.f0, .string o0.f6.f1, .bool o0.f6.f2])
    (blk_put h 0 _ rfl) 1 _ rfl) 2 _ rfl) 3 _ rfl) 4 _ rfl) 5 _ rfl) 6 _ rfl) 7 _ rfl) 8 _ rfl
theorem setOp_far {W : World} {p g : Nat} {t : TypeId} {cs : Array Value} (h : W.heap[g]? = some (.cells cs t (0, 0))) (hne : g ≠ p) (o : OpT) : (setOp W p o).heap[g]? = some (.cells cs t (0, 0)) := by
  unfold setOp
  exact blk_far (blk_far (blk_far (blk_far (blk_far (blk_far (blk_far (blk_far (blk_far h hne _) hne _) hne _) hne _) hne _) hne _) hne _) hne _) hne _
theorem setOp_below {B : Nat} {w W : World} {p : Nat} (h : Below B w W) (hp : B ≤ p) (o : OpT) : Below B w (setOp W p o) := by
  unfold setOp
  exact ((((((((h.setCell hp _).setCell hp _).setCell hp _).setCell hp _).setCell hp _).setCell hp _).setCell hp _).setCell hp _).setCell hp _
theorem Res.sets {W : World} {p q : Nat} {o : OpT} {e : Int} (h : Res W p q o e) (o' : OpT) (e' : Int) : Res ((setOp W p o').setCell ⟨q, 0, none⟩ (.int .i64 e')) p q o' e' :=
  ⟨blk_far (setOp_same h.op o') (blk_ne h.op h.er (by decide)) _, blk_put (setOp_far h.er (blk_ne h.er h.op (by decide)) o') 0 _ rfl⟩
theorem catch_idle (p q : Nat) (w : World) :
    CallsD Tryz.prog 20 #[.pointer (some ⟨p, 0, none⟩), .pointer (some ⟨q, 0, none⟩)] .returning w fun e u' w' => e = .returned (.tuple #[]) ∧ u' = .returning ∧ w' = w := by
  refine callsD_of_wpS Tryz.func20 rfl fun c₀ cs hu => ?_
  apply wpS_seq
  apply wpS_region
  simp [wpOpsS, go_sem, recoverD, hu, Tryz.ntmps20, Exit.thenS]
  refine wpS_of_wp ?_
  go_wp2
  cases c₀
  simp_all [bodyPostS, results, Tryz.f20]
set_option maxRecDepth 100000 in
theorem catch_none (B p q : Nat) (o : OpT) (e : Int) (w : World) (h : Res w p q o e) (hp : B ≤ p) (hq : B ≤ q) (hw : B ≤ w.heap.size) :
    CallsD Tryz.prog 20 #[.pointer (some ⟨p, 0, none⟩), .pointer (some ⟨q, 0, none⟩)] (.panicking noneP) w fun e u' w' => e = .returned (.tuple #[]) ∧ u' = .panicking [{ v := .iface 47 (.agg #[]), recovered := true }] ∧ Res w' p q zOp 210 ∧ Below B w w' := by
  refine callsD_of_wpS Tryz.func20 rfl fun c₀ cs hu => ?_
  unfold noneP at hu
  apply wpS_seq
  apply wpS_region
  simp [wpOpsS, go_sem, recoverD, hu, Tryz.ntmps20, Exit.thenS]
  refine wpS_of_wp ?_
  simp only [Array.replicate_succ, Array.replicate_zero, List.push_toArray, List.append_toArray, List.nil_append, List.cons_append, List.setIfInBounds_toArray, List.set_cons_zero, List.set_cons_succ]
  have H := Aside0.mk h
  have hB := below_alloc (Below.refl w.heap.size w) (.cells #[] 47)
  have h2 := h.below hB
  have H2 := Aside0.mk (And.intro h2 (And.intro (hB.mono hw) (And.intro hp hq)))
  have hc0 := (blk_cell h2.op 0).trans (show _ = some (Value.int .i64 o.f0) from rfl)
  have hf0 := blk_frozen h2.op 0
  have hc1 := (blk_cell h2.op 1).trans (show _ = some (Value.int .i64 o.f1) from rfl)
  have hf1 := blk_frozen h2.op 1
  have hc2 := (blk_cell h2.op 2).trans (show _ = some (Value.int .i64 o.f2) from rfl)
  have hf2 := blk_frozen h2.op 2
  have hc3 := (blk_cell h2.op 3).trans (show _ = some (Value.int .i64 o.f3) from rfl)
  have hf3 := blk_frozen h2.op 3
  have hc4 := (blk_cell h2.op 4).trans (show _ = some (Value.string o.f4) from rfl)
  have hf4 := blk_frozen h2.op 4
  have hc5 := (blk_cell h2.op 5).trans (show _ = some (Value.string o.f5) from rfl)
  have hf5 := blk_frozen h2.op 5
  have hc6 := (blk_cell h2.op 6).trans (show _ = some (Value.string o.f6.f0) from rfl)
  have hf6 := blk_frozen h2.op 6
  have hc7 := (blk_cell h2.op 7).trans (show _ = some (Value.string o.f6.f1) from rfl)
  have hf7 := blk_frozen h2.op 7
  have hc8 := (blk_cell h2.op 8).trans (show _ = some (Value.bool o.f6.f2) from rfl)
  have hf8 := blk_frozen h2.op 8
  have hce := (blk_cell h2.er 0).trans (show _ = some (Value.int .i64 e) from rfl)
  have hfe := blk_frozen h2.er 0
  have hne : p ≠ q := blk_ne h2.op h2.er (by decide)
  have hne2 : q ≠ p := Ne.symm hne
  have hta : ∀ w : World, (Instr.typeAssert (.iface 47 (.agg #[])) 20 47 true).run Tryz.prog w = .ok (.tuple #[.agg #[], .bool true]) w := fun w => by kernel_rfl
  clear h hB h2 hp hq hw
  go_wp2
  refine ⟨rfl, _, rfl, .tuple #[], by simp [results, Tryz.f20], rfl, rfl, H2.out.1.sets zOp 210, ?_⟩
  exact (setOp_below H2.out.2.1 H2.out.2.2.1 zOp).setCell (p := ⟨q, 0, none⟩) H2.out.2.2.2 _
end Go.Proofs.YtodmbjbfigifnaaGreatDoor.Sc
set_option linter.unusedVariables false
set_option linter.unusedSimpArgs false
namespace Go.Proofs.YtodmbjbfigifnaaGreatDoor.Sc
open Go.RowKit Go.Shelf Go.Proofs.YtodmbjbfigifnaaGreatDoor.Glob Go.Proofs.YtodmbjbfigifnaaGreatDoor.Dig Go.Proofs.YtodmbjbfigifnaaGreatDoorW.PrintWords Go.Proofs.YtodmbjbfigifnaaGreatDoor.PAll Go.Proofs.YtodmbjbfigifnaaGreatDoor.Pure
/-- The commands: first word, kind, what the further words are. -/
def lets : List (ByteArray × Int × List Nat) := [(⟨#[112, 117, 116]⟩, 1, [110, 107, 118]), (⟨#[100, 101, 108]⟩, 2, [110, 107]), (⟨#[103, 101, 116]⟩, 3, [110, 107]), (⟨#[115, 99, 97, 110]⟩, 4, [110, 114]), (⟨#[102, 111, 108, 100]⟩, 5, [110, 114]), (⟨#[111, 112, 101, 110]⟩, 6, [110, 112]), (⟨#[114, 97, 119]⟩, 10, [110, 118]), (⟨#[116, 105, 99, 107]⟩, 11, [110]), (⟨#[99, 114, 97, 115, 104]⟩, 12, [110]), (⟨#[115, 116, 97, 114, 116]⟩, 13, [110]), (⟨#[109, 97, 112]⟩, 14, [110]), (⟨#[116, 97, 108, 107, 115]⟩, 15, [110]), (⟨#[99, 111, 117, 110, 116]⟩, 16, [110]), (⟨#[103, 111]⟩, 7, [105]), (⟨#[100, 114, 111, 112]⟩, 8, [105]), (⟨#[116, 119, 105, 99, 101]⟩, 9, [105]), (⟨#[98, 97, 103]⟩, 17, [])]
def fidOf (c : Nat) : Nat := if c = 110 then 37 else if c = 112 then 43 else if c = 105 then 39 else if c = 107 then 40 else if c = 118 then 41 else 42
theorem specs_lets : specs = lets.map fun x => (x.1, x.2.1, x.2.2.map fidOf) := rfl
def isLet (c : Nat) : Prop := c = 110 ∨ c = 112 ∨ c = 105 ∨ c = 107 ∨ c = 118 ∨ c = 114
theorem lookup_map (s : ByteArray) : ∀ l : List (ByteArray × Int × List Nat), (l.map fun x => (x.1, x.2.1, x.2.2.map fidOf)).lookup s = (l.lookup s).map fun x => (x.1, x.2.map fidOf)
  | [] => rfl
  | (k, x, y) :: l => by
    simp only [List.map_cons, List.lookup_cons]
    cases s == k with
    | true => rfl
    | false => exact lookup_map s l
theorem lookup_mem {s : ByteArray} {x : Int × List Nat} : ∀ {l : List (ByteArray × Int × List Nat)}, l.lookup s = some x → ∃ k, (k, x) ∈ l
  | [], h => by cases h
  | (k, y) :: l, h => by
    simp only [List.lookup_cons] at h
    cases hs : s == k with
    | true => rw [hs] at h; cases h; exact ⟨k, List.mem_cons_self ..⟩
    | false => rw [hs] at h; obtain ⟨k', hk⟩ := lookup_mem h; exact ⟨k', List.mem_cons_of_mem _ hk⟩
theorem lets_let : ∀ x ∈ lets, x.2.2.length ≤ 3 ∧ ∀ c ∈ x.2.2, isLet c := by
  unfold isLet
  decide +kernel
/-- The further words laid into a command, one by one. -/
def fieldsW : List Nat → List ByteArray → OpT → Option OpT
  | [], [], o => some o
  | c :: cs, t :: ts, o => (fieldW c t o).bind (fieldsW cs ts)
  | _, _, _ => none
/-- What a line says. -/
def parW (s : ByteArray) : Option OpT :=
  if 400 < s.size then none else match piecesB s 32 with
    | [] => none
    | t :: ts => (lets.lookup t).bind fun x => fieldsW x.2 ts { zOp with f0 := x.1 }
theorem split_calls (s : ByteArray) (c : UInt8) (hs : s.size < 4294967281) (w : World) (hG : GlobOK w) : Calls Tryz.prog 21 #[.string s, .string ⟨#[c]⟩] w fun e w' => e = .returned (.slice (some ⟨w.heap.size, 0, none⟩) (piecesB s c).length (piecesB s c).length) ∧ w' = w.alloc (.cells ((piecesB s c).map Value.string).toArray 9) := by
  obtain ⟨_, m, hm⟩ := hG
  have h := Tryz.strings_Split s ⟨#[c]⟩ m w hs hm (Nat.le_refl 1)
  rw [← split_eq, Lib.splitB_all (⟨#[c]⟩ : ByteArray) (Nat.le_refl 1) 0 _ s rfl]
  exact h
section
variable {w0 w : World} {b g i : Nat} {ws : List ByteArray} {A : Option Addr} {o : OpT}
theorem map_none {α β : Type} {x : Option α} {f : α → β} (h : x.map f = none) : x = none := by cases x <;> simp_all
theorem reads_no {c : Nat} (hc : isLet c) (h : Rdr w0 w b g ws A i o) (hn : (ws[i]?).bind (fun t => fieldW c t o) = none) :
    Calls Tryz.prog (fidOf c) #[.pointer (some ⟨b, 0, none⟩)] w fun e w' => e = .panicked noneP ∧ Below w0.heap.size w0 w' := by
  by_cases hi : i < ws.length
  · rw [List.getElem?_eq_getElem hi, Option.bind_some] at hn
    rcases hc with rfl | rfl | rfl | rfl | rfl | rfl
    · exact node_no h hi (map_none hn)
    · exact peer_no h hi (map_none hn)
    · exact place_no h hi (map_none hn)
    · exact key_no h hi (map_none hn)
    · exact value_no h hi (map_none hn)
    · exact span_no h hi (map_none hn)
  · rcases hc with rfl | rfl | rfl | rfl | rfl | rfl
    · exact node_nw h hi
    · exact peer_nw h hi
    · exact place_nw h hi
    · exact key_nw h hi
    · exact value_nw h hi
    · exact span_nw h hi
theorem map_some {α β : Type} {x : Option α} {f : α → β} {y : β} (h : x.map f = some y) : ∃ a, x = some a ∧ f a = y := by simpa using h
theorem reads_ok {c : Nat} (hc : isLet c) (h : Rdr w0 w b g ws A i o) {o' : OpT} (hn : (ws[i]?).bind (fun t => fieldW c t o) = some o') :
    Calls Tryz.prog (fidOf c) #[.pointer (some ⟨b, 0, none⟩)] w fun e w' => e = .returned (.tuple #[]) ∧ Went w0 w w' b g ws (i + 1) o' := by
  by_cases hi : i < ws.length
  · rw [List.getElem?_eq_getElem hi, Option.bind_some] at hn
    rcases hc with rfl | rfl | rfl | rfl | rfl | rfl
    · obtain ⟨a, h1, rfl⟩ := map_some hn; exact node_ok h hi h1
    · obtain ⟨a, h1, rfl⟩ := map_some hn; exact peer_ok h hi h1
    · obtain ⟨a, h1, rfl⟩ := map_some hn; exact place_ok h hi h1
    · obtain ⟨a, h1, rfl⟩ := map_some hn; exact key_ok h hi h1
    · obtain ⟨a, h1, rfl⟩ := map_some hn; exact value_ok h hi h1
    · obtain ⟨a, h1, rfl⟩ := map_some hn; exact span_ok h hi h1
  · rw [List.getElem?_eq_none (by omega)] at hn; cases hn
end
theorem fid_enters {c : Nat} (hc : isLet c) : ∀ args w, (callFunc (fidOf c) args).run Tryz.prog w = .ok (.enter (fidOf c) args) w := by
  rcases hc with rfl | rfl | rfl | rfl | rfl | rfl
  · exact enters_of Tryz.func37 (by kernel_rfl) rfl
  · exact enters_of Tryz.func43 (by kernel_rfl) rfl
  · exact enters_of Tryz.func39 (by kernel_rfl) rfl
  · exact enters_of Tryz.func40 (by kernel_rfl) rfl
  · exact enters_of Tryz.func41 (by kernel_rfl) rfl
  · exact enters_of Tryz.func42 (by kernel_rfl) rfl
/-- The forms stay while the reader goes on. -/
theorem FVal.went {w0 w W : World} {b g i : Nat} {ws : List ByteArray} {A : Option Addr} {i0 : Nat} {o o0 : OpT} (hr : Rdr w0 w b g ws A i0 o0) (h : Went w0 w W b g ws i o) {v : Value} {kind : Int} {fs : List Nat} (hv : FVal w v kind fs) : FVal W v kind fs := by
  obtain ⟨A, c, hv, h'⟩ := hv
  refine ⟨A, c, hv, h'.imp id ?_⟩
  rintro ⟨g2, cur, hA, hg, hf⟩
  exact ⟨g2, cur, hA, (h.kb.2 g2 (blk_lt hg) (blk_ne hg hr.box (by decide)) (by simp)).trans hg, hf⟩
theorem look_calls {wf w0 w1 W : World} {b g m i : Nat} {ws : List ByteArray} {A : Option Addr} {i0 : Nat} {o o0 : OpT} (hF : Forms wf w1 m specs) (hr : Rdr w0 w1 b g ws A i0 o0) (h : Went w0 w1 W b g ws i o) (t : ByteArray) :
    ∃ v, (Instr.lookup 56 (.map (some m)) (.string t) true).run Tryz.prog W = .ok (.tuple #[v, .bool (lets.lookup t).isSome]) W ∧
      match lets.lookup t with | none => v = .agg #[.int .i64 0, .slice none 0 0] | some x => FVal W v x.1 (x.2.map fidOf) := by
  obtain ⟨⟨es, clock, vs, h1, h2, h3⟩, h4, h5⟩ := hF
  have hm : m ≠ b := by
    rintro rfl
    rw [hr.box] at h1
    cases h1
  have h1' : W.heap[m]? = some (.map es clock) := (h.kb.2 m (blk_lt h1) hm (by simp)).trans h1
  have hz : (zeroValue 54).run Tryz.prog W = .ok (.agg #[.int .i64 0, .slice none 0 0]) W := by kernel_rfl
  have hrun := run_look Tryz.underlying56 Tryz.underlying9 h1' h2 hz t
  have hl := forall_lookup h3 t
  rw [specs_lets, lookup_map] at hl
  cases hx : lets.lookup t with
  | none =>
    rw [hx] at hl
    simp only [Option.map_none] at hl
    rw [hl] at hrun
    exact ⟨_, hrun, rfl⟩
  | some x =>
    rw [hx] at hl
    simp only [Option.map_some] at hl
    obtain ⟨v, hv, hF⟩ := hl
    rw [hv] at hrun
    exact ⟨v, hrun, hF.went hr h⟩
end Go.Proofs.YtodmbjbfigifnaaGreatDoor.Sc
set_option linter.unusedVariables false
set_option linter.unusedSimpArgs false
namespace Go.Proofs.YtodmbjbfigifnaaGreatDoor.Dig
open Go.RowKit Go.Shelf Go.Lib Go.Proofs.YtodmbjbfigifnaaGreatDoorW.PrintWords Go.Proofs.YtodmbjbfigifnaaGreatDoor.PAll
theorem ev_val {α : Type} {g : Nat → Option α} {r q : α} (h : Ev g r) (e : r = q) : Ev g q := e ▸ h
theorem ev_const {α : Type} {v : Option α} {r : α} (h : v = some r) : Ev (fun _ => v) r := ⟨0, fun _ _ => h⟩
theorem wrap_ok {x : Int} (h0 : -9223372036854775808 ≤ x) (h1 : x ≤ 9223372036854775807) : wrap64 x = x := by unfold wrap64; omega
/-- What digits are worth, behind a number. -/
def vd (acc : Nat) (l : List UInt8) : Nat := l.foldl (fun a c => a * 10 + (c.toNat - 48)) acc
theorem vd_cons (acc : Nat) (c : UInt8) (l : List UInt8) : vd acc (c :: l) = vd (acc * 10 + (c.toNat - 48)) l := by unfold vd; rw [List.foldl_cons]
theorem vd_ge : ∀ (l : List UInt8) (acc : Nat), acc ≤ vd acc l
  | [], acc => Nat.le_refl _
  | c :: l, acc => by
    have := vd_ge l (acc * 10 + (c.toNat - 48))
    rw [vd_cons]; omega
theorem isD_iff {c : UInt8} (h : isD c = true) : 48 ≤ c.toNat ∧ c.toNat ≤ 57 := by simpa [isD] using h
theorem parse_vd (l : List UInt8) : ∀ (acc : Nat), l.all isD = true → acc < 18446744073709551616 → parseUint10 acc l = if vd acc l < 18446744073709551616 then .ok (vd acc l) else .range := by
  induction l with
  | nil =>
    intro acc _ ha
    have e : vd acc [] = acc := rfl
    rw [e, if_pos ha, parseUint10]
  | cons c l ih =>
    intro acc h ha
    rw [List.all_cons, Bool.and_eq_true] at h
    have hc := isD_iff h.1
    have hg := vd_ge l (acc * 10 + (c.toNat - 48))
    rw [parseUint10, if_pos hc, vd_cons]
    by_cases h1 : 1844674407370955162 ≤ acc
    · rw [if_pos h1, if_neg (by omega)]
    · rw [if_neg h1]
      by_cases h2 : 18446744073709551616 ≤ acc * 10 + (c.toNat - 48)
      · rw [if_pos h2, if_neg (by omega)]
      · rw [if_neg h2]
        exact ih _ h.2 (by omega)
theorem numU_vd (l : List UInt8) (h : l.all isD = true) (most : Int) : numU (parseUint10 0 l) most = if 9223372036854775807 < vd 0 l then (0, 12) else if most < (vd 0 l : Int) then (0, 12) else ((vd 0 l : Int), 0) := by
  rw [parse_vd l 0 h (by omega)]
  by_cases h1 : vd 0 l < 18446744073709551616
  · rw [if_pos h1]; rfl
  · rw [if_neg h1, if_pos (by omega)]; rfl
def refR (l : List UInt8) (x : Nat) (big : Bool) (most : Int) : Int × Int :=
  if l.all isD = true then (if big = true ∨ 9223372036854775807 < vd x l then (0, 12) else if most < (vd x l : Int) then (0, 12) else ((vd x l : Int), 0)) else (0, 23)
theorem bt_nat (s : ByteArray) (i : Nat) (h : i < s.data.toList.length) : bt s (i : Int) = ((s.data.toList[i]).toNat : Int) := by
  have hs : i < s.size := Nat.lt_of_lt_of_eq h (Lib.size_eq s)
  unfold bt
  rw [dif_pos (by rw [Int.toNat_natCast]; exact hs)]
  rfl
theorem ref_loop (s : ByteArray) (hs : s.size ≤ 4294967296) (most : Int) (d : Nat) : ∀ (i x : Nat) (big : Bool), i + d = s.data.toList.length → x ≤ 9223372036854775807 →
    Ev (fun k => tidelineref01_Parse.l0 k s most (x : Int) big (i : Int)) (refR (s.data.toList.drop i) x big most) := by
  have hLn : s.data.toList.length = s.size := Lib.size_eq s
  induction d with
  | zero =>
    intro i x big hd hx
    refine Ev.step (fun k => by rw [tidelineref01_Parse.l0]) ?_
    simp only [if_neg (show ¬ (i : Int) < (s.size : Int) by omega)]
    rw [List.drop_of_length_le (by omega)]
    have er : refR [] x big most = if big = true ∨ 9223372036854775807 < x then (0, 12) else if most < (x : Int) then (0, 12) else ((x : Int), 0) := rfl
    rw [er]
    cases big with
    | true => rw [if_pos (Or.inl rfl)]; simp only [if_true]; exact ev_const rfl
    | false =>
      rw [if_neg (show ¬ (false = true ∨ 9223372036854775807 < x) by simp; omega)]
      simp only [if_neg (show ¬ (false = true) by decide)]
      by_cases hm : most < (x : Int)
      · rw [if_pos hm]; simp only [if_pos (show (x : Int) > most from hm)]; exact ev_const rfl
      · rw [if_neg hm]; simp only [if_neg (show ¬ (x : Int) > most from hm)]; exact ev_const rfl
  | succ d ih =>
    intro i x big hd hx
    have hi : i < s.data.toList.length := by omega
    refine Ev.step (fun k => by rw [tidelineref01_Parse.l0]) ?_
    rw [List.drop_eq_getElem_cons hi]
    simp only [if_pos (show (i : Int) < (s.size : Int) by omega), if_pos (show (0 : Int) ≤ (i : Int) by omega), bt_nat s i hi]
    generalize hcc : s.data.toList[i] = c
    have hbt := bt_nat s i hi
    rw [hcc] at hbt
    have hc256 : c.toNat < 256 := c.toNat_lt
    by_cases hlo : c.toNat < 48
    · simp only [if_pos (show (c.toNat : Int) < 48 by omega)]
      refine Ev.step (fun k => by rw [tidelineref01_Parse.j2]) ?_
      simp only [if_true]
      refine ev_const ?_
      unfold refR
      rw [if_neg (by rw [List.all_cons]; have : isD c = false := by unfold isD; rw [decide_eq_false (by omega), Bool.false_and]
                     rw [this]; simp)]
    · simp only [if_neg (show ¬ (c.toNat : Int) < 48 by omega)]
      refine Ev.step (fun k => by rw [tidelineref01_Parse.j2]) ?_
      by_cases hhi : c.toNat > 57
      · simp only [decide_eq_true (show (c.toNat : Int) > 57 by omega), if_true]
        refine ev_const ?_
        unfold refR
        rw [if_neg (by rw [List.all_cons]; have : isD c = false := by unfold isD; rw [decide_eq_false (show ¬ c.toNat ≤ 57 by omega), Bool.and_false]
                       rw [this]; simp)]
      · have hd1 : isD c = true := by unfold isD; rw [decide_eq_true (by omega), decide_eq_true (by omega)]; rfl
        simp only [decide_eq_false (show ¬ (c.toNat : Int) > 57 by omega), if_neg (show ¬ (false = true) by decide), if_pos (show (0 : Int) ≤ (i : Int) by omega), if_pos (show (i : Int) < (s.size : Int) by omega), hbt]
        have em : ((c.toNat : Int) - 48) % 256 = ((c.toNat - 48 : Nat) : Int) := by omega
        have ei : wrap64 ((i : Int) + 1) = ((i + 1 : Nat) : Int) := by rw [wrap_ok (by omega) (by omega)]; rfl
        simp only [em, ei]
        obtain ⟨g, hg⟩ : ∃ g, g = c.toNat - 48 := ⟨_, rfl⟩
        have hg9 : g ≤ 9 := by omega
        simp only [← hg]
        have hR : ∀ big', refR (c :: s.data.toList.drop (i + 1)) x big' most = if (s.data.toList.drop (i + 1)).all isD = true then (if big' = true ∨ 9223372036854775807 < vd (x * 10 + g) (s.data.toList.drop (i + 1)) then (0, 12) else if most < (vd (x * 10 + g) (s.data.toList.drop (i + 1)) : Int) then (0, 12) else ((vd (x * 10 + g) (s.data.toList.drop (i + 1)) : Int), 0)) else (0, 23) := by
          intro big'
          unfold refR
          rw [List.all_cons, hd1, Bool.true_and, vd_cons, ← hg]
        by_cases hov : (x : Int) > (9223372036854775807 - (g : Int)) / 10
        · simp only [if_pos hov]
          have := ih (i + 1) g true (by omega) (by omega)
          refine ev_val (Ev.congr (fun k => by rw [show ((10 : Int) * 0) + (g : Int) = (g : Int) by omega]) this) ?_
          rw [hR]
          have hv := vd_ge (s.data.toList.drop (i + 1)) (x * 10 + g)
          have hbig : 9223372036854775807 < x * 10 + g := by omega
          unfold refR
          by_cases ha : (s.data.toList.drop (i + 1)).all isD = true
          · rw [if_pos ha, if_pos ha, if_pos (.inl rfl), if_pos (.inr (by omega))]
          · rw [if_neg ha, if_neg ha]
        · simp only [if_neg hov]
          have hle : x * 10 + g ≤ 9223372036854775807 := by omega
          have := ih (i + 1) (x * 10 + g) big (by omega) hle
          refine ev_val (Ev.congr (fun k => by rw [wrap_ok (x := 10 * (x : Int)) (by omega) (by omega), wrap_ok (x := 10 * (x : Int) + (g : Int)) (by omega) (by omega), show 10 * (x : Int) + (g : Int) = ((x * 10 + g : Nat) : Int) by omega]) this) ?_
          rw [hR]; rfl
theorem refR_num (l : List UInt8) (most : Int) : refR l 0 false most = if l.all isD = true then numU (parseUint10 0 l) most else (0, 23) := by
  unfold refR
  by_cases h : l.all isD = true
  · rw [if_pos h, if_pos h, numU_vd l h]
    by_cases h1 : 9223372036854775807 < vd 0 l
    · rw [if_pos h1, if_pos (Or.inr h1)]
    · rw [if_neg h1, if_neg (by simp; omega)]
  · rw [if_neg h, if_neg h]
theorem ref_f (s : ByteArray) (hs : s.size ≤ 4294967296) (most : Int) : Ev (fun k => tidelineref01_Parse.f k s most) (numP s.data.toList most) := by
  have hLn : s.data.toList.length = s.size := Lib.size_eq s
  refine Ev.congr (fun k => by rw [tidelineref01_Parse.f]) ?_
  by_cases h0 : s.size = 0
  · simp only [if_pos (show (s.size : Int) = 0 by omega)]
    refine Ev.step (fun k => by rw [tidelineref01_Parse.j0]) ?_
    simp only [if_true]
    refine ev_const ?_
    unfold numP
    rw [if_pos (by omega)]
  · have go : (¬ (s.data.toList.getD 0 0 = 48 ∧ s.data.toList ≠ [48])) → Ev (fun k => tidelineref01_Parse.l0 k s most 0 false 0) (numP s.data.toList most) := by
      intro hb
      refine ev_val (ref_loop s hs most s.data.toList.length 0 0 false (Nat.zero_add _) (by omega)) ?_
      rw [List.drop_zero, refR_num]
      unfold numP
      rw [if_neg (show ¬ s.data.toList.length = 0 by omega), if_neg hb]
    simp only [if_neg (show ¬ (s.size : Int) = 0 by omega)]
    by_cases h1 : s.size > 1
    · have hb := bt_nat s 0 (by omega)
      have hg : s.data.toList.getD 0 0 = s.data.toList[0]'(by omega) := by rw [List.getD_eq_getElem?_getD, List.getElem?_eq_getElem (by omega)]; rfl
      have hne : s.data.toList ≠ [48] := fun h => by rw [h] at hLn; simp at hLn; omega
      simp only [if_pos (show (s.size : Int) > 1 by omega), if_pos (show (0 : Int) < (s.size : Int) by omega)]
      refine Ev.step (fun k => by rw [tidelineref01_Parse.j0]) ?_
      have hb' : bt s 0 = ((s.data.toList[0]'(by omega)).toNat : Int) := hb
      by_cases h48 : s.data.toList[0]'(by omega) = 48
      · simp only [if_pos (show (bt s 0 == 48) = true by rw [hb', h48]; rfl)]
        refine ev_const ?_
        unfold numP
        rw [if_neg (by omega), if_pos ⟨by rw [hg]; exact h48, hne⟩]
      · have hn : (bt s 0 == 48) = false := by
          rw [beq_eq_false_iff_ne, hb']
          intro h
          exact h48 (UInt8.toNat_inj.1 (by have : (48 : UInt8).toNat = 48 := rfl; omega))
        simp only [hn, if_neg (show ¬ (false = true) by decide)]
        exact go (fun h => h48 (by rw [← hg]; exact h.1))
    · simp only [if_neg (show ¬ (s.size : Int) > 1 by omega)]
      refine Ev.step (fun k => by rw [tidelineref01_Parse.j0]) ?_
      simp only [if_neg (show ¬ (false = true) by decide)]
      refine go (fun h => h.2 ?_)
      have hl : s.data.toList.length = 1 := by omega
      obtain ⟨c, hc⟩ := List.length_eq_one_iff.1 hl
      rw [hc] at h ⊢
      have := h.1
      simp at this
      rw [this]
theorem nDigits_pow (k : Nat) : ∀ m, m < 10 ^ k → nDigits m ≤ k + 1 := by
  induction k with
  | zero => intro m hm; rw [nDigits_small (by omega)]; omega
  | succ k ih =>
    intro m hm
    by_cases h : m < 10
    · rw [nDigits_small h]; omega
    · rw [nDigits_big h]
      have := ih (m / 10) (by rw [Nat.pow_succ] at hm; omega)
      omega
end Go.Proofs.YtodmbjbfigifnaaGreatDoor.Dig
namespace Go.Proofs.YtodmbjbfigifnaaGreatDoor.PAll
open Go.RowKit Go.Proofs.YtodmbjbfigifnaaGreatDoorW.PrintWords Go.Proofs.YtodmbjbfigifnaaGreatDoorW.PrintLast Go.Proofs.YtodmbjbfigifnaaGreatDoorW.PrintMore
attribute [local go_sem] max2_int min2_int max_two min_two max_three min_three max_four min_four   -- for this text's walks alone
set_option linter.unusedVariables false
set_option linter.unusedSimpArgs false
def tidelineref01_Hex.l0 : Nat → ByteArray → ByteArray → List Int → Int → Option (ByteArray)
  | 0, _, _, _, _ => none
  | k + 1, x0, x3, x4, x5 => if x5 < (x0.size : Int) then (if 0 ≤ x5 then (if 0 ≤ ((Int.tdiv (bt x0 x5) 16) % 256) then (if ((Int.tdiv (bt x0 x5) 16) % 256) < (x3.size : Int) then (if 0 ≤ (Int.tmod (bt x0 x5) 16) then (if (Int.tmod (bt x0 x5) 16) < (x3.size : Int) then ((some (([bt x3 ((Int.tdiv (bt x0 x5) 16) % 256), bt x3 (Int.tmod (bt x0 x5) 16)] : List Int) : List Int)).bind fun y181 => (if x4.length + y181.length < 140737488355328 then (tidelineref01_Hex.l0 k x0 x3 (x4 ++ y181) (wrap64 (x5 + 1))) else (none))) else (none)) else (none)) else (none)) else (none)) else (none)) else (some (strOfNums x4))
def tidelineref01_Hex.f (k : Nat) (a0 : ByteArray) : Option (ByteArray) := tidelineref01_Hex.l0 k a0 (⟨#[48, 49, 50, 51, 52, 53, 54, 55, 56, 57, 97, 98, 99, 100, 101, 102]⟩ : ByteArray) (([] : List Int)) 0
theorem tidelineref01_Hex.mono_l : ∀ k, (∀ y0 y1 y2 y3, LeO (tidelineref01_Hex.l0 k y0 y1 y2 y3) (tidelineref01_Hex.l0 (k + 1) y0 y1 y2 y3))
  | 0 => fun _ _ _ _ r h => by simp [tidelineref01_Hex.l0] at h
  | k + 1 => by
    have ih0 := tidelineref01_Hex.mono_l k
    · intro y0 y1 y2 y3
      unfold tidelineref01_Hex.l0
      repeat' first
      | (with_reducible exact ih0 _ _ _ _)
      | (with_reducible exact LeO.refl _)
      | (with_reducible exact LeO.none _)
      | (with_reducible refine LeO.ite ?_ ?_)
      | (with_reducible refine LeO.bind ?_ (fun _ => ?_))
      | exact ih0 _ _ _ _
      | exact LeO.none _
      | refine LeO.ite ?_ ?_
      | refine LeO.bind ?_ (fun _ => ?_)
theorem tidelineref01_Hex.mono : ∀ a0 k, LeO (tidelineref01_Hex.f k a0) (tidelineref01_Hex.f (k + 1) a0) := by
  intro a0 k
  have ih0 := tidelineref01_Hex.mono_l k
  unfold tidelineref01_Hex.f
  repeat' first
      | (with_reducible exact ih0 _ _ _ _)
      | (with_reducible exact LeO.refl _)
      | (with_reducible exact LeO.none _)
      | (with_reducible refine LeO.ite ?_ ?_)
      | (with_reducible refine LeO.bind ?_ (fun _ => ?_))
      | exact ih0 _ _ _ _
      | exact LeO.none _
      | refine LeO.ite ?_ ?_
      | refine LeO.bind ?_ (fun _ => ?_)
def tidelineref01_Hex.T6 : Bool × List (List Nat × List Nat) := (true, [([], []), ([], []), ([], []), ([], []), ([2, 3], [2, 3]), ([4], [4]), ([1, 5], [1, 5]), ([], []), ([], []), ([], []), ([8, 9], [8, 9]), ([10], [10]), ([7, 11], [7, 11]), ([6, 12], [6, 12]), ([0, 13], [0, 13]), ([14, 14, 0, 1, 2, 3, 4, 5, 6, 7, 8, 9, 10, 11, 12, 13, 14], [0, 14])])
def tidelineref01_Hex.B6 : List Nat := [0, 0, 0, 0, 12, 28, 62, 0, 0, 0, 768, 1792, 3968, 8190, 16383, 32767]
theorem tidelineref01_Hex.tab6 : rtab .any (opsOf Tryz.f17 6) = tidelineref01_Hex.T6 := by kernel_rfl
theorem tidelineref01_Hex.bits6 : waitsOk tidelineref01_Hex.T6.2 tidelineref01_Hex.B6 = true := by kernel_rfl
set_option maxHeartbeats 8000000 in
set_option maxRecDepth 100000 in
theorem tidelineref01_Hex.calls (k : Nat) (a0 : ByteArray) (r : ByteArray) (w : World) (h : tidelineref01_Hex.f k a0 = some r) :
    Calls Tryz.prog 17 #[.string a0] w fun e w' => e = .returned (.string r) ∧ Below w.heap.size w w' := by
  have HB := Aside0.mk (Below.refl w.heap.size w)
  have H : (tidelineref01_Hex.l0 k a0 (⟨#[48, 49, 50, 51, 52, 53, 54, 55, 56, 57, 97, 98, 99, 100, 101, 102]⟩ : ByteArray) (([] : List Int)) 0) = some r := h
  clear h
  obtain ⟨y178, hy178⟩ : ∃ y_ : List Int, y_ = (([] : List Int)) := ⟨_, rfl⟩
  replace H : (tidelineref01_Hex.l0 k a0 (⟨#[48, 49, 50, 51, 52, 53, 54, 55, 56, 57, 97, 98, 99, 100, 101, 102]⟩ : ByteArray) y178 0) = some r := by first | (rw [hy178]; with_reducible exact H) | (have H2_ := (Option.bind_some _ _).symm.trans H; rw [hy178]; with_reducible exact H2_) | (have H2_ := (Option.bind_some _ _).symm.trans H; with_reducible exact H2_) | with_reducible exact H | (rw [hy178]; exact H) | exact H
  have Ny178 := Aside0.mk hy178
  clear hy178
  have H' := Aside0.mk H
  clear H
  go_enter Tryz.func17, Tryz.ntmps17
  go_wp2_with (first | ((with_reducible refine gate_dst (N := 6) rfl ?_); refine Kd.R_lit (Kd.int .u8) _ 5 ?hg (N := 6) ?hd (xs := ([] : List Int)) (inner := []) (ok := fun _ => True) (okp := fun _ => True) ?hr ?hp (fun _ hk => hk) trivial (Below.refl _ _) (Nat.le_refl _) (by simp) ?_; (case hd => rfl); (case hg => rfl); (case hr => first | (go_simp; done) | (go_simp; rfl)); (case hp => exact (Reps.none _ _)); intro v179 w2 ho3 hb hg_ hnew_; clear hg_ hnew_; (first | rw [← Ny178.out] at ho3 | (simp only [Int.reduceToNat] at ho3; rw [← Ny178.out] at ho3)); have n0_ := Aside0.mk (Kd.R_lower ho3 (below_size (by repeat (first | (with_reducible first | exact HB.out | apply below_alloc | apply pw_below_drewN | apply below_drew1) | exact HB.out)))); have n1_ := Aside0.mk (below_step (by repeat (first | (with_reducible first | exact HB.out | apply below_alloc | apply pw_below_drewN | apply below_drew1) | exact HB.out)) hb); clear HB; have HO180 := n0_; have HB := n1_; clear n0_ n1_; clear hb ho3))
  go_loopg [4, 5] k (fun kq v4 v5 w' => ∃ (x4_1 : List Int) (x5_1 : Int), v5 = .int .i64 x5_1 ∧ Aside0 (tidelineref01_Hex.l0 kq a0 (⟨#[48, 49, 50, 51, 52, 53, 54, 55, 56, 57, 97, 98, 99, 100, 101, 102]⟩ : ByteArray) x4_1 x5_1 = some r) ∧ Aside0 (kq ≤ k) ∧ Aside0 (Kd.R (Kd.int .u8) 5 w' w.heap.size (fun _ => True) v4 x4_1) ∧ Aside0 (Below w.heap.size w w'))
  case atStart => exact ⟨(y178), (0), (by first | rfl | (simp; done) | (simp [*]; done) | (simp [*, Go.Proofs.YtodmbjbfigifnaaGreatDoor.Str.bne_nil]; done)), H', ⟨Nat.le_refl _⟩, ⟨by (with_reducible repeat (first | apply Kd.R_alloc | apply Kd.R_drewN | apply Kd.R_drew)); exact HO180.out⟩, ⟨by repeat (first | (with_reducible first | exact HB.out | apply below_alloc | apply pw_below_drewN | apply below_drew1) | exact HB.out)⟩⟩
  case round =>
    clear H'
    try clear c1
    try clear p2
    obtain ⟨x4_1, x5_1, rfl, HA, HK1, HO_4, HB⟩ := hrel
    cases gk with
    | zero => exact absurd HA.out (by simp [tidelineref01_Hex.l0])
    | succ k1 =>
      have H := HA.out
      clear HA
      simp only [tidelineref01_Hex.l0] at H
      by_cases c4 : x5_1 < (a0.size : Int)
      · rw [if_pos c4] at H
        have c4b0 : decide (x5_1 < (a0.size : Int)) = true := decide_eq_true c4
        clear c4
        by_cases c5 : 0 ≤ x5_1
        · rw [if_pos c5] at H
          have c5b0 : decide (0 ≤ x5_1) = true := decide_eq_true c5
          clear c5
          obtain ⟨ji7, hji7⟩ : ∃ j_ : Int, ((Int.tdiv (bt a0 x5_1) 16) % 256) = j_ := ⟨_, rfl⟩
          have hji7w : (IntKind.u8.wrap (Int.tdiv (bt a0 x5_1) 16)) = ji7 := (IntKind.wrap_u8 _).trans hji7
          replace H : (if 0 ≤ (ji7) then (if (ji7) < ((⟨#[48, 49, 50, 51, 52, 53, 54, 55, 56, 57, 97, 98, 99, 100, 101, 102]⟩ : ByteArray).size : Int) then (if 0 ≤ (Int.tmod (bt a0 x5_1) 16) then (if (Int.tmod (bt a0 x5_1) 16) < ((⟨#[48, 49, 50, 51, 52, 53, 54, 55, 56, 57, 97, 98, 99, 100, 101, 102]⟩ : ByteArray).size : Int) then ((some (([bt (⟨#[48, 49, 50, 51, 52, 53, 54, 55, 56, 57, 97, 98, 99, 100, 101, 102]⟩ : ByteArray) (ji7), bt (⟨#[48, 49, 50, 51, 52, 53, 54, 55, 56, 57, 97, 98, 99, 100, 101, 102]⟩ : ByteArray) (Int.tmod (bt a0 x5_1) 16)] : List Int) : List Int)).bind fun y181 => (if x4_1.length + y181.length < 140737488355328 then (tidelineref01_Hex.l0 k1 a0 (⟨#[48, 49, 50, 51, 52, 53, 54, 55, 56, 57, 97, 98, 99, 100, 101, 102]⟩ : ByteArray) (x4_1 ++ y181) (wrap64 (x5_1 + 1))) else (none))) else (none)) else (none)) else (none)) else (none)) = some r := by first | (rw [hji7] at H; exact H) | (simp only [hji7] at H ⊢; exact H)
          by_cases c8 : 0 ≤ (ji7)
          · rw [if_pos c8] at H
            have c8b0 : decide (0 ≤ (ji7)) = true := decide_eq_true c8
            clear c8
            by_cases c9 : (ji7) < ((⟨#[48, 49, 50, 51, 52, 53, 54, 55, 56, 57, 97, 98, 99, 100, 101, 102]⟩ : ByteArray).size : Int)
            · rw [if_pos c9] at H
              have c9b0 : decide ((ji7) < ((⟨#[48, 49, 50, 51, 52, 53, 54, 55, 56, 57, 97, 98, 99, 100, 101, 102]⟩ : ByteArray).size : Int)) = true := decide_eq_true c9
              clear c9
              obtain ⟨ji12, hji12⟩ : ∃ j_ : Int, (Int.tmod (bt a0 x5_1) 16) = j_ := ⟨_, rfl⟩
              replace H : (if 0 ≤ (ji12) then (if (ji12) < ((⟨#[48, 49, 50, 51, 52, 53, 54, 55, 56, 57, 97, 98, 99, 100, 101, 102]⟩ : ByteArray).size : Int) then ((some (([bt (⟨#[48, 49, 50, 51, 52, 53, 54, 55, 56, 57, 97, 98, 99, 100, 101, 102]⟩ : ByteArray) (ji7), bt (⟨#[48, 49, 50, 51, 52, 53, 54, 55, 56, 57, 97, 98, 99, 100, 101, 102]⟩ : ByteArray) (ji12)] : List Int) : List Int)).bind fun y181 => (if x4_1.length + y181.length < 140737488355328 then (tidelineref01_Hex.l0 k1 a0 (⟨#[48, 49, 50, 51, 52, 53, 54, 55, 56, 57, 97, 98, 99, 100, 101, 102]⟩ : ByteArray) (x4_1 ++ y181) (wrap64 (x5_1 + 1))) else (none))) else (none)) else (none)) = some r := by first | (rw [hji12] at H; exact H) | (simp only [hji12] at H ⊢; exact H)
              by_cases c13 : 0 ≤ (ji12)
              · rw [if_pos c13] at H
                have c13b0 : decide (0 ≤ (ji12)) = true := decide_eq_true c13
                clear c13
                by_cases c14 : (ji12) < ((⟨#[48, 49, 50, 51, 52, 53, 54, 55, 56, 57, 97, 98, 99, 100, 101, 102]⟩ : ByteArray).size : Int)
                · rw [if_pos c14] at H
                  have c14b0 : decide ((ji12) < ((⟨#[48, 49, 50, 51, 52, 53, 54, 55, 56, 57, 97, 98, 99, 100, 101, 102]⟩ : ByteArray).size : Int)) = true := decide_eq_true c14
                  clear c14
                  obtain ⟨y181, hy181⟩ : ∃ y_ : List Int, y_ = (([bt (⟨#[48, 49, 50, 51, 52, 53, 54, 55, 56, 57, 97, 98, 99, 100, 101, 102]⟩ : ByteArray) (ji7), bt (⟨#[48, 49, 50, 51, 52, 53, 54, 55, 56, 57, 97, 98, 99, 100, 101, 102]⟩ : ByteArray) (ji12)] : List Int)) := ⟨_, rfl⟩
                  replace H : (if x4_1.length + y181.length < 140737488355328 then (tidelineref01_Hex.l0 k1 a0 (⟨#[48, 49, 50, 51, 52, 53, 54, 55, 56, 57, 97, 98, 99, 100, 101, 102]⟩ : ByteArray) (x4_1 ++ y181) (wrap64 (x5_1 + 1))) else (none)) = some r := by first | (rw [hy181]; with_reducible exact H) | (have H2_ := (Option.bind_some _ _).symm.trans H; rw [hy181]; with_reducible exact H2_) | (have H2_ := (Option.bind_some _ _).symm.trans H; with_reducible exact H2_) | with_reducible exact H | (rw [hy181]; exact H) | exact H
                  have Ny181 := Aside0.mk hy181
                  clear hy181
                  by_cases c16 : x4_1.length + y181.length < 140737488355328
                  · rw [if_pos c16] at H
                    have LMc16 := Aside0.mk c16
                    clear c16
                    obtain ⟨y184, hy184⟩ : ∃ y_ : List Int, y_ = (x4_1 ++ y181) := ⟨_, rfl⟩
                    replace H : (tidelineref01_Hex.l0 k1 a0 (⟨#[48, 49, 50, 51, 52, 53, 54, 55, 56, 57, 97, 98, 99, 100, 101, 102]⟩ : ByteArray) y184 (wrap64 (x5_1 + 1))) = some r := by first | (rw [hy184]; with_reducible exact H) | (have H2_ := (Option.bind_some _ _).symm.trans H; rw [hy184]; with_reducible exact H2_) | (have H2_ := (Option.bind_some _ _).symm.trans H; with_reducible exact H2_) | with_reducible exact H | (rw [hy184]; exact H) | exact H
                    have Ny184 := Aside0.mk hy184
                    clear hy184
                    have H' := Aside0.mk H
                    clear H
                    try go_wp2
                    have n0_ := Aside0.mk (Kd.R_drew HO_4.out)
                    have n1_ := Aside0.mk (below_drew1 HB.out)
                    clear HO_4
                    clear HB
                    have HO_4 := n0_
                    have HB := n1_
                    clear n0_ n1_
                    have p6 : 0 ≤ (x5_1 : Int) := of_decide_eq_true (by first | (with_reducible assumption) | assumption)
                    have q6 : x5_1 < (a0.size : Int) := of_decide_eq_true (by first | (with_reducible assumption) | assumption)
                    have hx6 := bt_at a0 x5_1
                    replace p6 := eq_true p6
                    replace q6 := eq_true q6
                    have p10 : 0 ≤ ((ji7) : Int) := of_decide_eq_true (by first | (with_reducible assumption) | assumption)
                    have q10 : (ji7) < (16 : Int) := of_decide_eq_true (by first | (with_reducible assumption) | assumption)
                    have hx10 := bt_at (⟨#[48, 49, 50, 51, 52, 53, 54, 55, 56, 57, 97, 98, 99, 100, 101, 102]⟩ : ByteArray) (ji7)
                    replace p10 := eq_true p10
                    replace q10 := eq_true q10
                    have p11 : 0 ≤ (x5_1 : Int) := of_decide_eq_true (by first | (with_reducible assumption) | assumption)
                    have q11 : x5_1 < (a0.size : Int) := of_decide_eq_true (by first | (with_reducible assumption) | assumption)
                    have hx11 := bt_at a0 x5_1
                    replace p11 := eq_true p11
                    replace q11 := eq_true q11
                    have p15 : 0 ≤ ((ji12) : Int) := of_decide_eq_true (by first | (with_reducible assumption) | assumption)
                    have q15 : (ji12) < (16 : Int) := of_decide_eq_true (by first | (with_reducible assumption) | assumption)
                    have hx15 := bt_at (⟨#[48, 49, 50, 51, 52, 53, 54, 55, 56, 57, 97, 98, 99, 100, 101, 102]⟩ : ByteArray) (ji12)
                    replace p15 := eq_true p15
                    replace q15 := eq_true q15
                    refine start_ (n := 16) (S := fun w' => True) (ds := []) #[false, false, false, false, false, false, false, false, false, false, false, false, false, false, false, false] (by kernel_rfl) rfl rfl trivial (fun hHeld => ?_); refine with_tabW tidelineref01_Hex.tab6 tidelineref01_Hex.bits6 (fun HT_ HW_ => ?_)
                    generalize wr.drew = w17 at HO_4 HB hHeld ⊢
                    refine pure_ (i := 0) (N := some 13) (v := ?_) (a' := ?_) #[true, false, false, false, false, false, false, false, false, false, false, false, false, false, false, false] rfl rfl (any_of HT_.out (by kernel_rfl)) (fun _ _ _ h => h) (Or.inl ⟨by rfl, ?_⟩) ?_ ?_
                    rotate_left
                    · intro w'
                      go_simp
                      with_reducible rfl
                    rotate_left
                    · simp only [Act.put, List.setIfInBounds_toArray, List.set_cons_zero, List.set_cons_succ, i64_w, i32_w]
                      rfl
                    refine pure_ (i := 1) (N := some 14) (v := ?_) (a' := ?_) #[true, true, false, false, false, false, false, false, false, false, false, false, false, false, false, false] rfl rfl (any_of HT_.out (by kernel_rfl)) (fun _ _ _ h => h) (Or.inl ⟨by rfl, ?_⟩) ?_ ?_
                    rotate_left
                    · intro w'
                      go_simp
                      with_reducible rfl
                    rotate_left
                    · simp only [Act.put, List.setIfInBounds_toArray, List.set_cons_zero, List.set_cons_succ, i64_w, i32_w]
                      rfl
                    refine pure_ (i := 2) (N := some 15) (v := ?_) (a' := ?_) #[true, true, true, false, false, false, false, false, false, false, false, false, false, false, false, false] rfl rfl (any_of HT_.out (by kernel_rfl)) (fun _ _ _ h => h) (Or.inl ⟨by rfl, ?_⟩) ?_ ?_
                    rotate_left
                    · intro w'
                      go_simp
                      with_reducible rfl
                    rotate_left
                    · simp only [Act.put, List.setIfInBounds_toArray, List.set_cons_zero, List.set_cons_succ, i64_w, i32_w]
                      rfl
                    refine pure_ (i := 3) (N := some 16) (v := ?_) (a' := ?_) #[true, true, true, true, false, false, false, false, false, false, false, false, false, false, false, false] rfl rfl (any_of HT_.out (by kernel_rfl)) (fun _ _ _ h => h) (Or.inl ⟨by rfl, ?_⟩) ?_ ?_
                    rotate_left
                    · intro w'
                      go_simp
                      with_reducible rfl
                    rotate_left
                    · simp only [Act.put, List.setIfInBounds_toArray, List.set_cons_zero, List.set_cons_succ, i64_w, i32_w]
                      rfl
                    refine pure_ (i := 7) (N := some 20) (v := ?_) (a' := ?_) #[true, true, true, true, false, false, false, true, false, false, false, false, false, false, false, false] rfl rfl (any_of HT_.out (by kernel_rfl)) (fun _ _ _ h => h) (Or.inl ⟨by rfl, ?_⟩) ?_ ?_
                    rotate_left
                    · intro w'
                      go_simp
                      with_reducible rfl
                    rotate_left
                    · simp only [Act.put, List.setIfInBounds_toArray, List.set_cons_zero, List.set_cons_succ, i64_w, i32_w]
                      rfl
                    refine pure_ (i := 8) (N := some 21) (v := ?_) (a' := ?_) #[true, true, true, true, false, false, false, true, true, false, false, false, false, false, false, false] rfl rfl (any_of HT_.out (by kernel_rfl)) (fun _ _ _ h => h) (Or.inl ⟨by rfl, ?_⟩) ?_ ?_
                    rotate_left
                    · intro w'
                      go_simp
                      with_reducible rfl
                    rotate_left
                    · simp only [Act.put, List.setIfInBounds_toArray, List.set_cons_zero, List.set_cons_succ, i64_w, i32_w]
                      rfl
                    refine pure_ (i := 9) (N := some 22) (v := ?_) (a' := ?_) #[true, true, true, true, false, false, false, true, true, true, false, false, false, false, false, false] rfl rfl (any_of HT_.out (by kernel_rfl)) (fun _ _ _ h => h) (Or.inl ⟨by rfl, ?_⟩) ?_ ?_
                    rotate_left
                    · intro w'
                      go_simp
                      with_reducible rfl
                    rotate_left
                    · simp only [Act.put, List.setIfInBounds_toArray, List.set_cons_zero, List.set_cons_succ, i64_w, i32_w]
                      rfl
                    refine take_ (i := 4) (N := some 17) (v := ?_) (a' := ?_) #[true, true, true, true, true, false, false, true, true, true, false, false, false, false, false, false] rfl rfl (take_ofW HT_.out HW_.out (by kernel_rfl)) (fun _ _ _ h => h) (Or.inl ⟨by rfl, ?_⟩) hHeld ?_ ?_
                    rotate_left
                    · intro w' _
                      go_simp
                      with_reducible rfl
                    rotate_left
                    · simp only [Act.put, List.setIfInBounds_toArray, List.set_cons_zero, List.set_cons_succ, i64_w, i32_w]
                      rfl
                    refine pure_ (i := 5) (N := some 18) (v := ?_) (a' := ?_) #[true, true, true, true, true, true, false, true, true, true, false, false, false, false, false, false] rfl rfl (any_of HT_.out (by kernel_rfl)) (fun _ _ _ h => h) (Or.inl ⟨by rfl, ?_⟩) ?_ ?_
                    rotate_left
                    · intro w'
                      go_simp
                      with_reducible rfl
                    rotate_left
                    · simp only [Act.put, List.setIfInBounds_toArray, List.set_cons_zero, List.set_cons_succ, i64_w, i32_w]
                      rfl
                    refine take_ (i := 6) (N := some 19) (v := ?_) (a' := ?_) #[true, true, true, true, true, true, true, true, true, true, false, false, false, false, false, false] rfl rfl (take_ofW HT_.out HW_.out (by kernel_rfl)) (fun _ _ _ h => h) (Or.inl ⟨by rfl, ?_⟩) hHeld ?_ ?_
                    rotate_left
                    · intro w' _
                      go_simp
                      with_reducible rfl
                    rotate_left
                    · simp only [Act.put, List.setIfInBounds_toArray, List.set_cons_zero, List.set_cons_succ, i64_w, i32_w]
                      rfl
                    refine take_ (i := 10) (N := some 23) (v := ?_) (a' := ?_) #[true, true, true, true, true, true, true, true, true, true, true, false, false, false, false, false] rfl rfl (take_ofW HT_.out HW_.out (by kernel_rfl)) (fun _ _ _ h => h) (Or.inl ⟨by rfl, ?_⟩) hHeld ?_ ?_
                    rotate_left
                    · intro w' _
                      go_simp
                      with_reducible rfl
                    rotate_left
                    · simp only [Act.put, List.setIfInBounds_toArray, List.set_cons_zero, List.set_cons_succ, i64_w, i32_w]
                      rfl
                    refine pure_ (i := 11) (N := some 24) (v := ?_) (a' := ?_) #[true, true, true, true, true, true, true, true, true, true, true, true, false, false, false, false] rfl rfl (any_of HT_.out (by kernel_rfl)) (fun _ _ _ h => h) (Or.inl ⟨by rfl, ?_⟩) ?_ ?_
                    rotate_left
                    · intro w'
                      go_simp
                      with_reducible rfl
                    rotate_left
                    · simp only [Act.put, List.setIfInBounds_toArray, List.set_cons_zero, List.set_cons_succ, i64_w, i32_w]
                      rfl
                    refine take_ (i := 12) (N := some 25) (v := ?_) (a' := ?_) #[true, true, true, true, true, true, true, true, true, true, true, true, true, false, false, false] rfl rfl (take_ofW HT_.out HW_.out (by kernel_rfl)) (fun _ _ _ h => h) (Or.inl ⟨by rfl, ?_⟩) hHeld ?_ ?_
                    rotate_left
                    · intro w' _
                      go_simp
                      with_reducible rfl
                    rotate_left
                    · simp only [Act.put, List.setIfInBounds_toArray, List.set_cons_zero, List.set_cons_succ, i64_w, i32_w]
                      rfl
                    refine one_ (i := 13) (N := some 26) #[true, true, true, true, true, true, true, true, true, true, true, true, true, true, false, false] rfl rfl (one_of HT_.out (by kernel_rfl)) (by decide) (fun K hK => ?_)
                    refine Kd.R_lit_step (Kd.int .u8) _ 5 ?hg (N := 26) ?hd (xs := ([bt (⟨#[48, 49, 50, 51, 52, 53, 54, 55, 56, 57, 97, 98, 99, 100, 101, 102]⟩ : ByteArray) (ji7), bt (⟨#[48, 49, 50, 51, 52, 53, 54, 55, 56, 57, 97, 98, 99, 100, 101, 102]⟩ : ByteArray) (ji12)] : List Int)) (inner := [.int .u8 (bt (⟨#[48, 49, 50, 51, 52, 53, 54, 55, 56, 57, 97, 98, 99, 100, 101, 102]⟩ : ByteArray) (ji7)), .int .u8 (bt (⟨#[48, 49, 50, 51, 52, 53, 54, 55, 56, 57, 97, 98, 99, 100, 101, 102]⟩ : ByteArray) (ji12))]) (ok := fun _ => True) (okp := fun _ => True) ?hr ?hp (fun _ hk => hk) trivial (Below.refl _ _) (Nat.le_refl _) (by simp) ?_; (case hd => rfl); (case hg => rfl); (case hr => first | (go_simp; done) | (go_simp; rfl)); (case hp => exact (Reps.one (show Kd.M (Kd.int .u8) _ _ _ (bt (⟨#[48, 49, 50, 51, 52, 53, 54, 55, 56, 57, 97, 98, 99, 100, 101, 102]⟩ : ByteArray) (ji7)) [.int .u8 (bt (⟨#[48, 49, 50, 51, 52, 53, 54, 55, 56, 57, 97, 98, 99, 100, 101, 102]⟩ : ByteArray) (ji7))] from rfl) (Reps.one (show Kd.M (Kd.int .u8) _ _ _ (bt (⟨#[48, 49, 50, 51, 52, 53, 54, 55, 56, 57, 97, 98, 99, 100, 101, 102]⟩ : ByteArray) (ji12)) [.int .u8 (bt (⟨#[48, 49, 50, 51, 52, 53, 54, 55, 56, 57, 97, 98, 99, 100, 101, 102]⟩ : ByteArray) (ji12))] from rfl) (Reps.none _ _))))
                    intro v182 w18 ho19 hb hg_ hnew_
                    clear hg_ hnew_
                    (first | rw [← Ny181.out] at ho19 | (simp only [Int.reduceToNat] at ho19; rw [← Ny181.out] at ho19))
                    have n0_ := Aside0.mk (Kd.R_elder' (by (with_reducible repeat (first | apply Kd.R_alloc | apply Kd.R_drewN | apply Kd.R_drew)); exact HO_4.out) (Kd.R_base ho19) hb)
                    have n1_ := Aside0.mk (Kd.R_lower (Kd.R_new' ho19 (Kd.R_lt (by (with_reducible repeat (first | apply Kd.R_alloc | apply Kd.R_drewN | apply Kd.R_drew)); exact HO_4.out))) (below_size (by repeat (first | (with_reducible first | exact HB.out | apply below_alloc | apply pw_below_drewN | apply below_drew1) | exact HB.out))))
                    have n2_ := Aside0.mk (below_step (by repeat (first | (with_reducible first | exact HB.out | apply below_alloc | apply pw_below_drewN | apply below_drew1) | exact HB.out)) hb)
                    clear HO_4
                    clear HB
                    have HO_4 := n0_
                    have HO183 := n1_
                    have HB := n2_
                    clear n0_ n1_ n2_
                    clear hb ho19
                    obtain ⟨Ao21, co21, eo21⟩ := Kd.R_slice HO183.out
                    (first | subst eo21 | (injection eo21 with f1_ f2_ f3_; have f4_ := f1_.symm; have f5_ := f3_.symm; clear f1_ f2_ f3_; subst f4_; subst f5_))
                    refine hK.out _ _ trivial (fun hHeld => ?_)
                    clear hK K
                    refine norm_ (a' := ?_) ?_ ?_
                    rotate_left
                    · show Act.put _ (some 26) _ = _
                      simp only [Act.put, List.setIfInBounds_toArray, List.set_cons_zero, List.set_cons_succ, i64_w, i32_w]
                      rfl
                    refine one_ (i := 14) (N := some 27) #[true, true, true, true, true, true, true, true, true, true, true, true, true, true, true, false] rfl rfl (one_of HT_.out (by kernel_rfl)) (by decide) (fun K hK => ?_)
                    refine Kd.R_append_rows_step (Kd.int .u8) (w0 := w) w.heap.size (by rfl) (.tmp 13) (.tmp 26) 64 5 (.int .u8 0) 1 rfl Tryz.underlying64 info5 rfl (by decide) (by omega) u4 x4_1 y181 _ _ _ (fun k_ => some k_ ≠ (.slice Ao21 y181.length co21 : Value).ownBlock) (fun _ => False) rfl rfl ?aO ?aR (fun _ _ h => h) (fun _ h => h.elim) ?aF ?aB ?aS ?aL ?_
                    (case aR => repeat (first | exact (Kd.R_reads' HO183.out).2.2 | (with_reducible refine Kd.C_alloc ?_ _) | (with_reducible refine Kd.C_drewN ?_ _) | (with_reducible refine Kd.C_drew ?_)))
                    (case aB => exact (by repeat (first | (with_reducible first | exact HB.out | apply below_alloc | apply pw_below_drewN | apply below_drew1) | exact HB.out)))
                    (case aF => exact (fun k_ hk => Kd.fresh' (Kd.R_lt (by (with_reducible repeat (first | apply Kd.R_alloc | apply Kd.R_drewN | apply Kd.R_drew)); exact HO183.out)) k_ hk))
                    (case aO => exact (by (with_reducible repeat (first | apply Kd.R_alloc | apply Kd.R_drewN | apply Kd.R_drew)); exact Kd.R_mono HO_4.out (fun _ hk => hk.2)))
                    (case aS => exact (below_size (by repeat (first | (with_reducible first | exact HB.out | apply below_alloc | apply pw_below_drewN | apply below_drew1) | exact HB.out))))
                    (case aL => have := LMc16.out; omega)
                    intro v185 w20 ho hb hg hat
                    rw [← Ny184.out] at ho
                    have n0_ := Aside0.mk (Kd.R_after (ok := (fun _ => True)) (by (with_reducible repeat (first | apply Kd.R_alloc | apply Kd.R_drewN | apply Kd.R_drew)); exact HO183.out) hg hat)
                    have n1_ := Aside0.mk (hb)
                    have n2_ := Aside0.mk (ho)
                    clear HO183
                    clear HB
                    clear HO_4
                    have HO183 := n0_
                    have HB := n1_
                    have HO186 := n2_
                    clear n0_ n1_ n2_
                    clear ho hb hg hat
                    refine hK.out _ _ trivial (fun hHeld => ?_)
                    clear hK K
                    refine norm_ (a' := ?_) ?_ ?_
                    rotate_left
                    · show Act.put _ (some 27) _ = _
                      simp only [Act.put, List.setIfInBounds_toArray, List.set_cons_zero, List.set_cons_succ, i64_w, i32_w]
                      rfl
                    refine pure_ (i := 15) (N := some 4) (v := ?_) (a' := ?_) #[true, true, true, true, true, true, true, true, true, true, true, true, true, true, true, true] rfl rfl (any_of HT_.out (by kernel_rfl)) (fun _ _ _ h => h) (Or.inl ⟨by rfl, ?_⟩) ?_ ?_
                    rotate_left
                    · intro w'
                      go_simp
                      with_reducible rfl
                    rotate_left
                    · simp only [Act.put, List.setIfInBounds_toArray, List.set_cons_zero, List.set_cons_succ, i64_w, i32_w]
                      rfl
                    refine done_ (done_of HT_.out (by kernel_rfl)) ?_
                    try go_wp2
                    go_roundg k1
                    case measure => have := HK1.out; omega
                    case rel => exact ⟨(y184), (wrap64 (x5_1 + 1)), (by first | rfl | (simp; done) | (simp [*]; done) | (simp [*, Go.Proofs.YtodmbjbfigifnaaGreatDoor.Str.bne_nil]; done)), H', ⟨by have := HK1.out; omega⟩, ⟨by (with_reducible repeat (first | apply Kd.R_alloc | apply Kd.R_drewN | apply Kd.R_drew)); exact Kd.R_mono HO186.out (fun _ hk => trivial)⟩, ⟨by repeat (first | (with_reducible first | exact HB.out | apply below_alloc | apply pw_below_drewN | apply below_drew1) | exact HB.out)⟩⟩
                  · rw [if_neg c16] at H
                    exact absurd H (by simp)
                · rw [if_neg c14] at H
                  exact absurd H (by simp)
              · rw [if_neg c13] at H
                exact absurd H (by simp)
            · rw [if_neg c9] at H
              exact absurd H (by simp)
          · rw [if_neg c8] at H
            exact absurd H (by simp)
        · rw [if_neg c5] at H
          exact absurd H (by simp)
      · rw [if_neg c4] at H
        have c4b0 : decide (x5_1 < (a0.size : Int)) = false := decide_eq_false c4
        clear c4
        obtain rfl := Option.some.inj H
        have hcv22 := own_string (P := Tryz.prog) Tryz.underlying64 Tryz.underlying5 Tryz.underlying9 (Kd.own_of_R HO_4.out)
        go_wp2
        go_ret
        exact ⟨by first | rfl | (simp [errW_none, errW_some] <;> rfl) | (simp [*, errW_none, errW_some] <;> rfl), by repeat (first | (with_reducible first | exact HB.out | apply below_alloc | apply pw_below_drewN | apply below_drew1) | exact HB.out)⟩
end Go.Proofs.YtodmbjbfigifnaaGreatDoor.PAll
set_option linter.unusedVariables false
set_option linter.unusedSimpArgs false
namespace Go.Proofs.YtodmbjbfigifnaaGreatDoor.Pure
open Go.RowKit Go.Proofs.YtodmbjbfigifnaaGreatDoor.PAll Go.Proofs.YtodmbjbfigifnaaGreatDoorW.PrintWords Go.Proofs.YtodmbjbfigifnaaGreatDoorW.PrintLast Go.Proofs.YtodmbjbfigifnaaGreatDoorW.PrintMore
theorem tdiv16 (x : Int) (h0 : 0 ≤ x) (h1 : x < 256) : (Int.tdiv x 16) % 256 = x / 16 := by
  rw [Int.tdiv_eq_ediv_of_nonneg h0]; omega
theorem tmod16 (x : Int) (h0 : 0 ≤ x) : Int.tmod x 16 = x % 16 := Int.tmod_eq_emod_of_nonneg h0
theorem rhex_loop (s : ByteArray) (hs : s.size ≤ 35184372088832) (d : Nat) : ∀ i : Nat, i + d = s.size → Ev (fun k => tidelineref01_Hex.l0 k s (⟨#[48, 49, 50, 51, 52, 53, 54, 55, 56, 57, 97, 98, 99, 100, 101, 102]⟩ : ByteArray) (hexI ((bytesOf s).take i)) (i : Int)) (hexB s) := by
  induction d with
  | zero =>
    intro i hd
    refine Ev.step (fun k => by rw [tidelineref01_Hex.l0]) ?_
    simp only [if_neg (show ¬ (i : Int) < (s.size : Int) by omega)]
    rw [List.take_of_length_le (by rw [bytesOf_length]; omega)]
    exact Ev.const rfl
  | succ d ih =>
    intro i hd
    refine Ev.step (fun k => by rw [tidelineref01_Hex.l0]) ?_
    have hl : i < (bytesOf s).length := by rw [bytesOf_length]; omega
    rw [bt_nat s i hl]
    have hb := byte_bd s _ (List.getElem_mem hl)
    have hih := ih (i + 1) (by omega)
    rw [take_snoc _ i hl, hexI_append] at hih
    have hlen : (hexI ((bytesOf s).take i)).length ≤ 2 * i := by rw [hexI_length, List.length_take]; omega
    generalize hx : (bytesOf s)[i] = x at hb hih
    have hsz : (((⟨#[48, 49, 50, 51, 52, 53, 54, 55, 56, 57, 97, 98, 99, 100, 101, 102]⟩ : ByteArray).size : Nat) : Int) = 16 := rfl
    rw [tdiv16 x hb.1 hb.2, tmod16 x hb.1, hsz]
    simp only [if_pos (show (i : Int) < (s.size : Int) by omega), if_pos (show (0 : Int) ≤ (i : Int) by omega), if_pos (show 0 ≤ x / 16 by omega), if_pos (show x / 16 < 16 by omega),
      if_pos (show 0 ≤ x % 16 by omega), if_pos (show x % 16 < 16 by omega), tab_hd' (x / 16) (by omega) (by omega), tab_hd' (x % 16) (by omega) (by omega), Option.bind_some, List.length_cons, List.length_nil,
      if_pos (show (hexI ((bytesOf s).take i)).length + (0 + 1 + 1) < 140737488355328 by omega)]
    rw [wrap_succ (by omega)]
    exact hih
theorem rhex_f (s : ByteArray) (hs : s.size ≤ 35184372088832) : Ev (fun k => tidelineref01_Hex.f k s) (hexB s) := by
  refine Ev.congr (fun k => by rw [tidelineref01_Hex.f]) ?_
  exact rhex_loop s hs s.size 0 (by omega)
theorem dig_f (c : Int) (h0 : 0 ≤ c) (h1 : c < 256) : Ev (fun k => tidelineref01_digit.f k c) (nibI c) := by
  have g : ∀ k, tidelineref01_digit.f k c = tidelineref01_digit.j0 k c (decide (48 ≤ c ∧ c ≤ 57)) := by
    intro k
    unfold tidelineref01_digit.f
    by_cases h : c ≥ 48
    · rw [if_pos h]; congr 1; have : 48 ≤ c := h; simp [this]
    · rw [if_neg h]; congr 1; have : ¬ 48 ≤ c := h; simp [this]
  refine Ev.congr g (Ev.step (fun k => by rw [tidelineref01_digit.j0]) ?_)
  unfold nibI
  by_cases h : 48 ≤ c ∧ c ≤ 57
  · simp only [decide_eq_true h, if_true, if_pos h]
    exact Ev.const (by rw [show (c - 48) % 256 = c - 48 by omega])
  · simp only [decide_eq_false h, if_neg (show ¬ (false = true) by decide), if_neg h]
    by_cases h2 : c ≥ 97
    · simp only [if_pos h2]
      by_cases h3 : c ≤ 102
      · simp only [if_pos h3, if_pos (show 97 ≤ c ∧ c ≤ 102 from ⟨h2, h3⟩)]
        exact Ev.const (by rw [show (c - 97) % 256 + 10 = c - 87 by omega])
      · simp only [if_neg h3, if_neg (show ¬ (97 ≤ c ∧ c ≤ 102) by omega)]; exact Ev.const rfl
    · simp only [if_neg h2, if_neg (show ¬ (97 ≤ c ∧ c ≤ 102) by omega)]; exact Ev.const rfl
theorem drop_two {l : List Int} {i : Nat} (h : i + 1 < l.length) : l.drop i = l[i] :: l[i + 1] :: l.drop (i + 2) := by
  rw [List.drop_eq_getElem_cons (show i < l.length by omega), List.drop_eq_getElem_cons h]
theorem runhex_loop (s : ByteArray) (hs : s.size ≤ 70368744177664) (d : Nat) : ∀ (i : Nat) (acc : List Int), i + 2 * d = s.size → acc.length ≤ i →
    Ev (fun k => tidelineref01_Unhex.l0 k s acc (i : Int)) (match unhexI ((bytesOf s).drop i) with | some l => (strOfNums (acc ++ l), 0) | none => (⟨#[]⟩, 23)) := by
  induction d with
  | zero =>
    intro i acc hi ha
    refine Ev.step (fun k => by rw [tidelineref01_Unhex.l0]) ?_
    simp only [if_neg (show ¬ (i : Int) < (s.size : Int) by omega)]
    rw [List.drop_of_length_le (by rw [bytesOf_length]; omega)]
    simp only [unhexI, List.append_nil]
    exact Ev.const rfl
  | succ d ih =>
    intro i acc hi ha
    refine Ev.step (fun k => by rw [tidelineref01_Unhex.l0]) ?_
    have hl : i + 1 < (bytesOf s).length := by rw [bytesOf_length]; omega
    rw [wrap_succ (by omega), bt_nat s i (by omega), bt_nat s (i + 1) hl]
    simp only [if_pos (show (i : Int) < (s.size : Int) by omega), if_pos (show (0 : Int) ≤ (i : Int) by omega), if_pos (show (0 : Int) ≤ ((i + 1 : Nat) : Int) by omega), if_pos (show ((i + 1 : Nat) : Int) < (s.size : Int) by omega), if_pos (show acc.length < 140737488355328 by omega)]
    have hb0 := byte_bd s _ (List.getElem_mem (show i < (bytesOf s).length by omega))
    have hb1 := byte_bd s _ (List.getElem_mem hl)
    have hih := fun v => ih (i + 2) (acc ++ [v]) (by omega) (by simp; omega)
    rw [drop_two hl]
    generalize (bytesOf s)[i] = a at *
    generalize (bytesOf s)[i + 1] = b at *
    refine Ev.bind (dig_f a hb0.1 hb0.2) (Ev.bind (dig_f b hb1.1 hb1.2) ?_)
    have na := nibI_bd a
    have nb := nibI_bd b
    by_cases ha' : 0 ≤ nibI a
    · by_cases hb' : 0 ≤ nibI b
      · simp only [if_neg (show ¬ nibI a < 0 by omega), if_neg (show ¬ nibI b < 0 by omega), unhexI, if_pos (show 0 ≤ nibI a ∧ 0 ≤ nibI b from ⟨ha', hb'⟩)]
        rw [wrap_id (x := 16 * nibI a) (by omega) (by omega), wrap_id (x := 16 * nibI a + nibI b) (by omega) (by omega), show (16 * nibI a + nibI b) % 256 = 16 * nibI a + nibI b by omega, show wrap64 ((i : Int) + 2) = ((i + 2 : Nat) : Int) by rw [wrap_id (by omega) (by omega)]; rfl]
        refine Ev.val (hih _) ?_
        cases unhexI ((bytesOf s).drop (i + 2)) <;> simp
      · simp only [if_neg (show ¬ nibI a < 0 by omega), if_pos (show nibI b < 0 by omega), unhexI, if_neg (show ¬ (0 ≤ nibI a ∧ 0 ≤ nibI b) from fun h => hb' h.2)]
        exact Ev.const rfl
    · simp only [if_pos (show nibI a < 0 by omega), unhexI, if_neg (show ¬ (0 ≤ nibI a ∧ 0 ≤ nibI b) from fun h => ha' h.1)]
      exact Ev.const rfl
theorem runhex_f (s : ByteArray) (hs : s.size ≤ 70368744177664) : Ev (fun k => tidelineref01_Unhex.f k s) (unhE s) := by
  refine Ev.congr (fun k => by rw [tidelineref01_Unhex.f]) ?_
  unfold unhE
  by_cases h : (s.size : Int) % 2 = 1
  · simp only [if_pos h]
    rw [unhexI_odd _ (s.size / 2) (by rw [bytesOf_length]; omega)]
    exact Ev.const rfl
  · simp only [if_neg h]
    have := runhex_loop s hs (s.size / 2) 0 [] (by omega) (by simp)
    rw [List.drop_zero] at this
    exact this
end Go.Proofs.YtodmbjbfigifnaaGreatDoor.Pure
set_option linter.unusedVariables false
set_option linter.unusedSimpArgs false
namespace Go.Proofs.YtodmbjbfigifnaaGreatDoor.Pure
open Go.RowKit Go.Proofs.YtodmbjbfigifnaaGreatDoor.PAll Go.Proofs.YtodmbjbfigifnaaGreatDoorW.PrintWords Go.Proofs.YtodmbjbfigifnaaGreatDoorW.PrintLast Go.Proofs.YtodmbjbfigifnaaGreatDoorW.PrintMore
theorem rgE_ref (lo hi : ByteArray) (op : Bool) : Ev (fun k => tidelineref02_Check.f k lo hi op) (rgE lo hi op) := by
  have g : ∀ k, tidelineref02_Check.f k lo hi op = tidelineref02_Check.j0 k (decide (lo.size > 16 ∨ hi.size > 16)) lo hi op := by
    intro k
    unfold tidelineref02_Check.f
    by_cases h : (lo.size : Int) > 16
    · rw [if_pos h, decide_eq_true (show lo.size > 16 ∨ hi.size > 16 by omega)]
    · rw [if_neg h]
      by_cases h2 : (hi.size : Int) > 16
      · rw [decide_eq_true h2, decide_eq_true (show lo.size > 16 ∨ hi.size > 16 by omega)]
      · rw [decide_eq_false h2, decide_eq_false (show ¬ (lo.size > 16 ∨ hi.size > 16) by omega)]
  refine Ev.congr g (Ev.step (fun k => by rw [tidelineref02_Check.j0]) ?_)
  unfold rgE
  by_cases h : lo.size > 16 ∨ hi.size > 16
  · rw [decide_eq_true h, if_pos h]; exact Ev.const rfl
  · rw [decide_eq_false h, if_neg h]
    simp only [if_neg (show ¬ (false = true) by decide)]
    refine Ev.const ?_
    cases op with
    | true => by_cases h2 : hi.toList = [] <;> simp [h2]
    | false => by_cases h2 : Op.bytesLess hi.toList lo.toList = true <;> simp [h2]
end Go.Proofs.YtodmbjbfigifnaaGreatDoor.Pure
