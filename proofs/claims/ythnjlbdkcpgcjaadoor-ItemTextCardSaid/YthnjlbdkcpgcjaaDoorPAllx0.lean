-- By wip/pr.py (a program of this session, over the kit's print): lines written by program. Not trusted: Lean checks them.
import Derived.Test.YthnjlbdkcpgcjaaDoorProg
import Derived.Below
import Derived.Deep.Draws
import Derived.Deep.AppendLies
import Derived.Maps.AppendAt
import Derived.OwnWalk
import Derived.Laws.BytesArg
import Derived.Laws.MakeOwn
import Derived.Laws.OwnMore
import Derived.Deep.OwnRows
import Derived.Tactics
import Derived.Lib.ConvBytes
import Derived.Laws.Slices
import Derived.WalkKit
import Derived.KernelRfl
import Derived.RowKit3
import Derived.Deep.LoopGhost
import Derived.Deep.QuietTactic
import Derived.BigQuiet
import Derived.WideLaws
import Derived.Deep.DeepCutAuto
import Derived.Deep.CutBlock
import Derived.Deep.RegionHeld3
import Derived.Laws.Rows
import Derived.Lib.AppendStr
import Derived.ArgAppend
import Derived.Laws.IdiomCopy
import Derived.OrdersHeld
import Derived.Laws.BitsLemmas
import Derived.RowKit
import Derived.Test.YthnjlbdkcpgcjaaDoorSStr
import Derived.Test.YthnjlbdkcpgcjaaDoorSMake
import Derived.Test.YthnjlbdkcpgcjaaDoorSPeel
import Derived.Test.YthnjlbdkcpgcjaaDoorWWords
import Derived.Test.YthnjlbdkcpgcjaaDoorWLast
import Derived.Test.YthnjlbdkcpgcjaaDoorWTab
import Derived.Test.YthnjlbdkcpgcjaaDoorWFour
import Derived.Test.YthnjlbdkcpgcjaaDoorWQPut
import Derived.Test.YthnjlbdkcpgcjaaDoorWApart
import Derived.Test.YthnjlbdkcpgcjaaDoorWArr
import Derived.Test.YthnjlbdkcpgcjaaDoorWZeros
import Derived.Test.YthnjlbdkcpgcjaaDoorWFoot
import Derived.Test.YthnjlbdkcpgcjaaDoorWKept
import Derived.Test.YthnjlbdkcpgcjaaDoorWShare
import Derived.Test.YthnjlbdkcpgcjaaDoorWN
import Derived.Test.YthnjlbdkcpgcjaaDoorWFootNe
import Derived.Test.YthnjlbdkcpgcjaaDoorWAt
import Derived.Test.YthnjlbdkcpgcjaaDoorWEqStruct
import Derived.Test.YthnjlbdkcpgcjaaDoorWRepsOne
import Derived.Test.YthnjlbdkcpgcjaaDoorWInv
import Derived.Test.YthnjlbdkcpgcjaaDoorWInvWords
import Derived.Test.YthnjlbdkcpgcjaaDoorWGuard
import Derived.Test.YthnjlbdkcpgcjaaDoorWNEv
import Derived.Test.YthnjlbdkcpgcjaaDoorWMore
namespace Go.Proofs.YthnjlbdkcpgcjaaDoor.PAll
open Go.RowKit Go.Proofs.YthnjlbdkcpgcjaaDoorW.PrintWords Go.Proofs.YthnjlbdkcpgcjaaDoorW.PrintLast Go.Proofs.YthnjlbdkcpgcjaaDoorW.PrintMore
attribute [local go_sem] max2_int min2_int max_two min_two max_three min_three max_four min_four   -- for this text's walks alone
set_option linter.unusedVariables false
set_option linter.unusedSimpArgs false



def errW : Option Int → Value
  | none => .nilIface
  | some c => .iface 0 (.int .i64 c)
theorem errW_none : errW none = .nilIface := rfl
theorem errW_some (c : Int) : errW (some c) = .iface 0 (.int .i64 c) := rfl

theorem info5 : (Tryd.prog.info? 5).map (fun i => (i.zero, i.size, i.bytes)) = some (some (.int .u8 0), 1, 1) := by kernel_rfl
-- the values' own types
/-! #### struct type 23 -/
structure S23 where
  f0 : Int
  f1 : Int
def z23 : S23 := ⟨(0 : Int), (0 : Int)⟩
def k23 : Kd S23 := Kd.iso (Kd.pair (Kd.int .i64) (Kd.int .i64)) (fun x : S23 => (x.f0, x.f1))
theorem k23_open {w : World} {x : S23} {cs : List Value} (h : k23.K w x cs) : cs = [.int .i64 x.f0, .int .i64 x.f1] := by
  obtain ⟨_, _, rfl, rfl, rfl⟩ := h
  exact rfl
theorem k23_openM {w : World} {base : Nat} {ok : Nat → Prop} {x : S23} {cs : List Value} (h : k23.M w base ok x cs) : cs = [.int .i64 x.f0, .int .i64 x.f1] := by
  obtain ⟨_, _, rfl, rfl, rfl⟩ := h
  exact rfl
theorem k23_mk (w : World) (x : S23)  : k23.K w x [.int .i64 x.f0, .int .i64 x.f1] := ⟨[.int .i64 x.f0], [.int .i64 x.f1], rfl, rfl, rfl⟩
theorem k23_mkM (w : World) (base : Nat) (ok : Nat → Prop) (x : S23)  : k23.M w base ok x [.int .i64 x.f0, .int .i64 x.f1] := ⟨[.int .i64 x.f0], [.int .i64 x.f1], rfl, rfl, rfl⟩
def rd_T23 (xs : List S23) (i : Int) : S23 := xs.getD i.toNat z23
theorem at_T23 {w : World} {A : Option Addr} {n : Nat} {xs : List S23} (h : Kd.C k23 w A n xs) (i : Int) (h0 : 0 ≤ i) (h1 : i < n) : ∃ ad , A = some ad ∧ w.cell? (ad.add (i.toNat * 2)) = some (.int .i64 (rd_T23 xs i).f0) ∧ w.cell? ⟨(ad.add (i.toNat * 2)).block, (ad.add (i.toNat * 2)).off + 1, none⟩ = some (.int .i64 (rd_T23 xs i).f1) := by
  obtain ⟨ad, c, e, _, hK, hc0⟩ := Kd.C_get h z23 i h0 h1
  have hc : ∀ j u, c[j]? = some u → w.cell? (ad.add (i.toNat * 2 + j)) = some u := hc0
  obtain rfl := k23_open hK
  exact ⟨ad, e, hc 0 _ rfl, by rw [← add_field _ _ 1 (by omega)]; exact hc 1 _ rfl⟩

/-! #### struct type 25 -/
structure S25 where
  f0 : ByteArray
  f1 : S23
  f2 : ByteArray
  f3 : Bool
def z25 : S25 := ⟨(⟨#[]⟩ : ByteArray), z23, (⟨#[]⟩ : ByteArray), false⟩
def k25 : Kd S25 := Kd.iso (Kd.pair Kd.string (Kd.pair k23 (Kd.pair Kd.string Kd.bool))) (fun x : S25 => (x.f0, x.f1, x.f2, x.f3))
theorem k25_open {w : World} {x : S25} {cs : List Value} (h : k25.K w x cs) : cs = [.string x.f0, .int .i64 x.f1.f0, .int .i64 x.f1.f1, .string x.f2, .bool x.f3] := by
  obtain ⟨_, _, rfl, rfl, ⟨_, _, rfl, s1, ⟨_, _, rfl, rfl, rfl⟩⟩⟩ := h
  obtain rfl := k23_open s1
  exact rfl
theorem k25_openM {w : World} {base : Nat} {ok : Nat → Prop} {x : S25} {cs : List Value} (h : k25.M w base ok x cs) : cs = [.string x.f0, .int .i64 x.f1.f0, .int .i64 x.f1.f1, .string x.f2, .bool x.f3] := by
  obtain ⟨_, _, rfl, rfl, ⟨_, _, rfl, s1, ⟨_, _, rfl, rfl, rfl⟩⟩⟩ := h
  obtain rfl := k23_openM s1
  exact rfl
theorem k25_mk (w : World) (x : S25)  : k25.K w x [.string x.f0, .int .i64 x.f1.f0, .int .i64 x.f1.f1, .string x.f2, .bool x.f3] := ⟨[.string x.f0], [.int .i64 x.f1.f0, .int .i64 x.f1.f1, .string x.f2, .bool x.f3], rfl, rfl, ⟨[.int .i64 x.f1.f0, .int .i64 x.f1.f1], [.string x.f2, .bool x.f3], rfl, (k23_mk w x.f1 ), ⟨[.string x.f2], [.bool x.f3], rfl, rfl, rfl⟩⟩⟩
theorem k25_mkM (w : World) (base : Nat) (ok : Nat → Prop) (x : S25)  : k25.M w base ok x [.string x.f0, .int .i64 x.f1.f0, .int .i64 x.f1.f1, .string x.f2, .bool x.f3] := ⟨[.string x.f0], [.int .i64 x.f1.f0, .int .i64 x.f1.f1, .string x.f2, .bool x.f3], rfl, rfl, ⟨[.int .i64 x.f1.f0, .int .i64 x.f1.f1], [.string x.f2, .bool x.f3], rfl, (k23_mkM w base ok x.f1 ), ⟨[.string x.f2], [.bool x.f3], rfl, rfl, rfl⟩⟩⟩
def rd_T25 (xs : List S25) (i : Int) : S25 := xs.getD i.toNat z25
theorem at_T25 {w : World} {A : Option Addr} {n : Nat} {xs : List S25} (h : Kd.C k25 w A n xs) (i : Int) (h0 : 0 ≤ i) (h1 : i < n) : ∃ ad , A = some ad ∧ w.cell? (ad.add (i.toNat * 5)) = some (.string (rd_T25 xs i).f0) ∧ w.cell? ⟨(ad.add (i.toNat * 5)).block, (ad.add (i.toNat * 5)).off + 1, none⟩ = some (.int .i64 (rd_T25 xs i).f1.f0) ∧ w.cell? ⟨(ad.add (i.toNat * 5)).block, (ad.add (i.toNat * 5)).off + 2, none⟩ = some (.int .i64 (rd_T25 xs i).f1.f1) ∧ w.cell? ⟨(ad.add (i.toNat * 5)).block, (ad.add (i.toNat * 5)).off + 3, none⟩ = some (.string (rd_T25 xs i).f2) ∧ w.cell? ⟨(ad.add (i.toNat * 5)).block, (ad.add (i.toNat * 5)).off + 4, none⟩ = some (.bool (rd_T25 xs i).f3) := by
  obtain ⟨ad, c, e, _, hK, hc0⟩ := Kd.C_get h z25 i h0 h1
  have hc : ∀ j u, c[j]? = some u → w.cell? (ad.add (i.toNat * 5 + j)) = some u := hc0
  obtain rfl := k25_open hK
  exact ⟨ad, e, hc 0 _ rfl, by rw [← add_field _ _ 1 (by omega)]; exact hc 1 _ rfl, by rw [← add_field _ _ 2 (by omega)]; exact hc 2 _ rfl, by rw [← add_field _ _ 3 (by omega)]; exact hc 3 _ rfl, by rw [← add_field _ _ 4 (by omega)]; exact hc 4 _ rfl⟩

end Go.Proofs.YthnjlbdkcpgcjaaDoor.PAll
