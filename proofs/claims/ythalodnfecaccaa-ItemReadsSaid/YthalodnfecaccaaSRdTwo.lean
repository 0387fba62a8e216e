-- By wip/late.py (a program of this session) out of wip/words.
import Derived.Test.YthalodnfecaccaaProg
import Derived.Test.YthalodnfecaccaaWWords
import Derived.Test.YthalodnfecaccaaWLast
import Derived.Test.YthalodnfecaccaaWMore
import Derived.Test.YthalodnfecaccaaSRd
import Derived.Test.YthalodnfecaccaaSWr
import Derived.Test.YthalodnfecaccaaSWrTwo
import Derived.RangeFuncBox
import Derived.Lib.Hide
import Derived.WalkKit
import Derived.OwnWalk
import Derived.Test.YthalodnfecaccaaSRdP
set_option linter.unusedVariables false
set_option linter.unusedSimpArgs false
namespace Go.Proofs.Ythalodnfecaccaa.Rd
open Go.RowKit Go.Proofs.YthalodnfecaccaaW.PrintWords Go.Proofs.Ythalodnfecaccaa.Pure Go.Proofs.Ythalodnfecaccaa.Wr
/-! Two readers, side by side. -/
structure TwoR (n0 n1 n2 : Nat) (w : World) (B1 B2 : Nat) (W : World) (A1 : Option Addr) (c1 : Nat) (A2 : Option Addr) (c2 : Nat) (l : List Int) (p1 : Nat) (e1 : Int) (p2 : Nat) (e2 : Int) : Prop where
  a : Rdr n1 77 W B1 A1 c1 l p1 e1
  b : Rdr n2 79 W B2 A2 c2 l p2 e2
  be : Below n0 w W
  le1 : n0 ≤ n1
  le2 : n0 ≤ n2
theorem Rdr.other {n1 n2 : Nat} {T1 T2 : TypeId} {B1 B2 : Nat} {W W' : World} {A1 : Option Addr} {c1 : Nat} {A2 : Option Addr} {c2 : Nat} {l1 l2 : List Int} {p1 : Nat} {e1 : Int} {p2 : Nat} {e2 : Int} (h12 : T2 ≠ T1) (a : Rdr n1 T1 W B1 A1 c1 l1 p1 e1) (b : Rdr n2 T2 W B2 A2 c2 l2 p2 e2) (k : KeepBut W W' B1 none) : Rdr n2 T2 W' B2 A2 c2 l2 p2 e2 := by
  have hne : B2 ≠ B1 := blk_ne b.box a.box h12
  refine ⟨(k.2 B2 b.lt hne (by simp)).trans b.box, own_move b.row (fun g hg => ?_), b.lo, b.pl, b.ll, b.bytes, b.neT⟩
  obtain ⟨cells, hc⟩ := own_typed b.row g hg
  refine k.2 g (blk_lt hc) (fun e => ?_) (by simp)
  subst e
  have := a.box.symm.trans hc
  injection this with this
  injection this with _ ht
  exact a.neT ht
theorem TwoR.left {n0 n1 n2 : Nat} {w : World} {B1 B2 : Nat} {W W' : World} {A1 : Option Addr} {c1 : Nat} {A2 : Option Addr} {c2 : Nat} {l : List Int} {p1 : Nat} {e1 : Int} {p2 : Nat} {e2 : Int} {p : Nat} {e : Int} (h : TwoR n0 n1 n2 w B1 B2 W A1 c1 A2 c2 l p1 e1 p2 e2) (g : Went n1 77 B1 W W' A1 c1 l p e) : TwoR n0 n1 n2 w B1 B2 W' A1 c1 A2 c2 l p e p2 e2 :=
  ⟨g.st, Rdr.other (by decide) h.a h.b g.kb, h.be.trans (g.be.mono h.le1), h.le1, h.le2⟩
theorem TwoR.right {n0 n1 n2 : Nat} {w : World} {B1 B2 : Nat} {W W' : World} {A1 : Option Addr} {c1 : Nat} {A2 : Option Addr} {c2 : Nat} {l : List Int} {p1 : Nat} {e1 : Int} {p2 : Nat} {e2 : Int} {p : Nat} {e : Int} (h : TwoR n0 n1 n2 w B1 B2 W A1 c1 A2 c2 l p1 e1 p2 e2) (g : Went n2 79 B2 W W' A2 c2 l p e) : TwoR n0 n1 n2 w B1 B2 W' A1 c1 A2 c2 l p1 e1 p e :=
  ⟨Rdr.other (by decide) h.b h.a g.kb, g.st, h.be.trans (g.be.mono h.le2), h.le1, h.le2⟩
theorem TwoR.below {n0 n1 n2 : Nat} {w : World} {B1 B2 : Nat} {W W' : World} {A1 : Option Addr} {c1 : Nat} {A2 : Option Addr} {c2 : Nat} {l : List Int} {p1 : Nat} {e1 : Int} {p2 : Nat} {e2 : Int} (h : TwoR n0 n1 n2 w B1 B2 W A1 c1 A2 c2 l p1 e1 p2 e2) (hb : Below W.heap.size W W') : TwoR n0 n1 n2 w B1 B2 W' A1 c1 A2 c2 l p1 e1 p2 e2 :=
  ⟨h.a.below hb, h.b.below hb, h.be.trans (hb.mono (Nat.le_trans h.le1 h.a.n0)), h.le1, h.le2⟩
theorem TwoR.drawn {n0 n1 n2 : Nat} {w : World} {B1 B2 : Nat} {W W' : World} {A1 : Option Addr} {c1 : Nat} {A2 : Option Addr} {c2 : Nat} {l : List Int} {p1 : Nat} {e1 : Int} {p2 : Nat} {e2 : Int} (h : TwoR n0 n1 n2 w B1 B2 W A1 c1 A2 c2 l p1 e1 p2 e2) (hd : Drawn0 W W') : TwoR n0 n1 n2 w B1 B2 W' A1 c1 A2 c2 l p1 e1 p2 e2 := h.below hd.below
/-- A reader whose blocks are left alone. -/
theorem Rdr.kept {n₀ : Nat} {T : TypeId} {W W' : World} {B : Nat} {A : Option Addr} {c : Nat} {l : List Int} {p : Nat} {e : Int} {S : Nat → Prop} (h : Rdr n₀ T W B A c l p e) (hk : Kept W W' S) (hS : ∀ g, S g → g < n₀) : Rdr n₀ T W' B A c l p e := by
  refine ⟨(hk.2 B h.lt (fun hs => ?_)).trans h.box, own_move h.row (fun g hg => ?_), h.lo, h.pl, h.ll, h.bytes, h.neT⟩
  · have := hS B hs
    have := h.lo
    omega
  · obtain ⟨cells, hc⟩ := own_typed h.row g hg
    refine hk.2 g (blk_lt hc) (fun hs => ?_)
    have h1 := hS g hs
    rcases h.row.2 with ⟨e1, _⟩ | ⟨g', cap, cur, e1, hb, _⟩
    · rw [e1] at hg; simp [Value.ownBlock] at hg
    · rw [e1] at hg
      have : g' = g := by simpa [Value.ownBlock] using hg
      omega
theorem TwoR.kept {n0 n1 n2 : Nat} {w : World} {B1 B2 : Nat} {W W' : World} {A1 : Option Addr} {c1 : Nat} {A2 : Option Addr} {c2 : Nat} {l : List Int} {p1 : Nat} {e1 : Int} {p2 : Nat} {e2 : Int} {S : Nat → Prop} (h : TwoR n0 n1 n2 w B1 B2 W A1 c1 A2 c2 l p1 e1 p2 e2) (hk : Kept W W' S) (hb : Below n0 w W') (h1 : ∀ g, S g → g < n1) (h2 : ∀ g, S g → g < n2) : TwoR n0 n1 n2 w B1 B2 W' A1 c1 A2 c2 l p1 e1 p2 e2 :=
  ⟨h.a.kept hk h1, h.b.kept hk h2, hb, h.le1, h.le2⟩
end Go.Proofs.Ythalodnfecaccaa.Rd
