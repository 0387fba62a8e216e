-- By wip/late.py (a program of this session) out of wip/words.
import Derived.Test.YthalodnfecaccaaProg
import Derived.Test.YthalodnfecaccaaWWords
import Derived.Test.YthalodnfecaccaaWLast
import Derived.Test.YthalodnfecaccaaWMore
import Derived.Test.YthalodnfecaccaaSWr
import Derived.Test.YthalodnfecaccaaSWrNums
import Derived.Test.YthalodnfecaccaaSWrRef
import Derived.Test.YthalodnfecaccaaSWrTwo
import Derived.RangeFuncBox
import Derived.Lib.Hide
import Derived.Tactics
import Derived.WalkKit
import Derived.OwnWalk
import Derived.Test.YthalodnfecaccaaSRdP
set_option linter.unusedVariables false
set_option linter.unusedSimpArgs false
namespace Go.Proofs.Ythalodnfecaccaa.Rd
open Go.RowKit Go.Proofs.YthalodnfecaccaaW.PrintWords Go.Proofs.Ythalodnfecaccaa.Pure Go.Proofs.Ythalodnfecaccaa.Wr
/-! A reader: a block that holds a slice of bytes of its own, a place and an error. -/
structure Rdr (n₀ : Nat) (T : TypeId) (W : World) (B : Nat) (A : Option Addr) (c : Nat) (l : List Int) (p : Nat) (e : Int) : Prop where
  box : W.heap[B]? = some (.cells #[.slice A l.length c, .int .i64 (p : Int), .int .i64 e] T (0, 0))
  row : W.ownsRow n₀ 5 1 (.slice A l.length c) l.length (bv l)
  lo : n₀ ≤ B
  pl : p ≤ l.length
  ll : l.length ≤ 1099511627776
  bytes : ∀ x ∈ l, 0 ≤ x ∧ x < 256
  neT : T ≠ 5
section
variable {n₀ : Nat} {T : TypeId} {W : World} {B : Nat} {A : Option Addr} {c : Nat} {l : List Int} {p : Nat} {e : Int}
theorem Rdr.c0 (h : Rdr n₀ T W B A c l p e) : W.cell? ⟨B, 0, none⟩ = some (.slice A l.length c) := (blk_cell h.box 0).trans rfl
theorem Rdr.c1 (h : Rdr n₀ T W B A c l p e) : W.cell? ⟨B, 1, none⟩ = some (.int .i64 (p : Int)) := (blk_cell h.box 1).trans rfl
theorem Rdr.c2 (h : Rdr n₀ T W B A c l p e) : W.cell? ⟨B, 2, none⟩ = some (.int .i64 e) := (blk_cell h.box 2).trans rfl
theorem Rdr.frozen (h : Rdr n₀ T W B A c l p e) (i : Nat) : W.frozen? ⟨B, i, none⟩ = false := blk_frozen h.box i
theorem Rdr.lt (h : Rdr n₀ T W B A c l p e) : B < W.heap.size := blk_lt h.box
theorem Rdr.row_C (h : Rdr n₀ T W B A c l p e) : Kd.C (Kd.int .u8) W A l.length l := by
  have := h.ll
  obtain ⟨A', c', ev, _, hC⟩ := own_C h.row (by omega)
  cases ev
  exact hC
theorem Rdr.cap (h : Rdr n₀ T W B A c l p e) : l.length ≤ c := by
  have := h.ll
  obtain ⟨A', c', ev, hc, _⟩ := own_C h.row (by omega)
  cases ev
  exact hc
theorem Rdr.not_row (h : Rdr n₀ T W B A c l p e) : some B ≠ (Value.slice A l.length c).ownBlock := by
  intro e'
  obtain ⟨cells, hc⟩ := own_typed h.row B e'.symm
  have := h.box.symm.trans hc
  injection this with this
  injection this with _ ht
  exact h.neT ht
/-- The reader went on. -/
structure Went (n₀ : Nat) (T : TypeId) (B : Nat) (w W : World) (A : Option Addr) (c : Nat) (l : List Int) (p : Nat) (e : Int) : Prop where
  st : Rdr n₀ T W B A c l p e
  kb : KeepBut w W B none
  be : Below n₀ w W
theorem Went.refl (h : Rdr n₀ T W B A c l p e) : Went n₀ T B W W A c l p e := ⟨h, ⟨Nat.le_refl _, fun _ _ _ _ => rfl⟩, Below.refl _ _⟩
theorem Went.trans {w W2 : World} {p2 : Nat} {e2 : Int} (h : Went n₀ T B w W A c l p e) (h2 : Went n₀ T B W W2 A c l p2 e2) : Went n₀ T B w W2 A c l p2 e2 :=
  ⟨h2.st, ⟨Nat.le_trans h.kb.1 h2.kb.1, fun i hi hb hr => (h2.kb.2 i (Nat.lt_of_lt_of_le hi h.kb.1) hb hr).trans (h.kb.2 i hi hb hr)⟩, h.be.trans h2.be⟩
theorem Went.size {w : World} (h : Went n₀ T B w W A c l p e) : w.heap.size ≤ W.heap.size := h.kb.1
theorem Rdr.set1 (h : Rdr n₀ T W B A c l p e) (p' : Nat) (hp : p' ≤ l.length) : Went n₀ T B W (W.setCell ⟨B, 1, none⟩ (.int .i64 (p' : Int))) A c l p' e := by
  refine ⟨⟨?_, own_setCell h.row h.not_row _, h.lo, hp, h.ll, h.bytes, h.neT⟩, ⟨by simp, fun i _ hb _ => Below.heap_setCell W ⟨B, 1, none⟩ _ i hb⟩, (Below.refl _ _).setCell (p := ⟨B, 1, none⟩) h.lo _⟩
  exact blk_set h.box 1 _
theorem Rdr.set2 (h : Rdr n₀ T W B A c l p e) (e' : Int) : Went n₀ T B W (W.setCell ⟨B, 2, none⟩ (.int .i64 e')) A c l p e' := by
  refine ⟨⟨?_, own_setCell h.row h.not_row _, h.lo, h.pl, h.ll, h.bytes, h.neT⟩, ⟨by simp, fun i _ hb _ => Below.heap_setCell W ⟨B, 2, none⟩ _ i hb⟩, (Below.refl _ _).setCell (p := ⟨B, 2, none⟩) h.lo _⟩
  exact blk_set h.box 2 _
theorem Rdr.below {W' : World} (h : Rdr n₀ T W B A c l p e) (hb : Below W.heap.size W W') : Rdr n₀ T W' B A c l p e :=
  ⟨blk_below h.box hb, pw_own_below h.row hb, h.lo, h.pl, h.ll, h.bytes, h.neT⟩
theorem Rdr.n0 (h : Rdr n₀ T W B A c l p e) : n₀ ≤ W.heap.size := Nat.le_of_lt (Nat.lt_of_le_of_lt h.lo h.lt)
theorem Went.below {w W' : World} (h : Went n₀ T B w W A c l p e) (hb : Below W.heap.size W W') : Went n₀ T B w W' A c l p e :=
  ⟨h.st.below hb, ⟨Nat.le_trans h.kb.1 hb.size, fun i hi hB hr => (hb.block i (Nat.lt_of_lt_of_le hi h.kb.1)).trans (h.kb.2 i hi hB hr)⟩, h.be.trans (hb.mono h.st.n0)⟩
theorem Went.drew {w : World} (h : Went n₀ T B w W A c l p e) (m : Nat) : Went n₀ T B w (W.drewN m) A c l p e := h.below (Drawn0.below ⟨m, rfl⟩)
theorem Went.drawn {w W' : World} (h : Went n₀ T B w W A c l p e) (hd : Drawn0 W W') : Went n₀ T B w W' A c l p e := h.below hd.below
theorem Went.then1 {w : World} (h : Went n₀ T B w W A c l p e) (p' : Nat) (hp : p' ≤ l.length) : Went n₀ T B w (W.setCell ⟨B, 1, none⟩ (.int .i64 (p' : Int))) A c l p' e := h.trans (h.st.set1 p' hp)
theorem Went.then2 {w : World} (h : Went n₀ T B w W A c l p e) (e' : Int) : Went n₀ T B w (W.setCell ⟨B, 2, none⟩ (.int .i64 e')) A c l p e' := h.trans (h.st.set2 e')
end
/-- A block of another type stays. -/
theorem Went.other {n₀ : Nat} {T : TypeId} {B : Nat} {w W : World} {A : Option Addr} {c : Nat} {l : List Int} {p0 : Nat} {e0 : Int} {p : Nat} {e : Int} (h : Went n₀ T B w W A c l p e) (hst : Rdr n₀ T w B A c l p0 e0) {g : Nat} {t : TypeId} {cs : Array Value} (ht : t ≠ T) (hg : w.heap[g]? = some (.cells cs t (0, 0))) : W.heap[g]? = some (.cells cs t (0, 0)) :=
  (h.kb.2 g (blk_lt hg) (blk_ne hg hst.box ht) (by simp)).trans hg
theorem drawn_trans {a b c : World} (h : Drawn0 a b) (k : Drawn0 b c) : Drawn0 a c := by
  obtain ⟨m, rfl⟩ := k
  exact h.step m
/-- The world gets a letter. -/
theorem letter {P : Program} {k : Code} {Q : Exit → Act → World → Prop} {a : Act} {W : World} (R : World → Prop) (h : R W) (hk : ∀ W, R W → k.wp P Q a W) : k.wp P Q a W := hk W h
/-! Bits of bytes and words. -/
theorem and127 (c : Int) (h0 : 0 ≤ c) (h1 : c < 256) : bits BinOp.and IntKind.u8 c 127 = c % 128 := by
  have h : ∀ k : Nat, k < 256 → bits BinOp.and IntKind.u8 (k : Int) 127 = (k : Int) % 128 := by decide +kernel
  have := h c.toNat (by omega)
  rw [show ((c.toNat : Nat) : Int) = c by omega] at this
  exact this
end Go.Proofs.Ythalodnfecaccaa.Rd
