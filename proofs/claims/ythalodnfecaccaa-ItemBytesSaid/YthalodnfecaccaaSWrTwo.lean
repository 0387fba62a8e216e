-- By wip/late.py (a program of this session) out of wip/words.
import Derived.Test.YthalodnfecaccaaProg
import Derived.Test.YthalodnfecaccaaWWords
import Derived.Test.YthalodnfecaccaaWLast
import Derived.Test.YthalodnfecaccaaWMore
import Derived.Test.YthalodnfecaccaaSWr
import Derived.Test.YthalodnfecaccaaSWrNums
import Derived.Test.YthalodnfecaccaaSWrRef
import Derived.RangeFuncBox
import Derived.Lib.Hide
import Derived.WalkKit
import Derived.OwnWalk
import Derived.Test.YthalodnfecaccaaSNumsP
set_option linter.unusedVariables false
set_option linter.unusedSimpArgs false
namespace Go.Proofs.Ythalodnfecaccaa.Wr
open Go.RowKit Go.Proofs.YthalodnfecaccaaW.PrintWords Go.Proofs.Ythalodnfecaccaa.Pure
/-! Two writers, side by side. -/
structure Two (n1 n2 : Nat) (w : World) (B1 B2 : Nat) (W : World) (v1 v2 : Value) (l1 l2 : List Int) : Prop where
  a : Wrt n1 71 W B1 v1 l1
  b : Wrt n2 52 W B2 v2 l2
  ne : ∀ g, v1.ownBlock = some g → v2.ownBlock = some g → False
  be : Below n1 w W
  s1 : n1 ≤ W.heap.size
  s2 : n2 ≤ W.heap.size
  le : n1 ≤ n2
theorem Wrt.other {n1 n2 : Nat} {T1 T2 : TypeId} {B1 B2 : Nat} {W W' : World} {v1 v1' v2 : Value} {l1 l1' l2 : List Int} (h1 : T1 ≠ 5) (h2 : T2 ≠ 5) (h12 : T2 ≠ T1) (a : Wrt n1 T1 W B1 v1 l1) (b : Wrt n2 T2 W B2 v2 l2) (ne : ∀ g, v1.ownBlock = some g → v2.ownBlock = some g → False) (ha : Adv n1 T1 B1 W v1 W' v1' l1') :
    Wrt n2 T2 W' B2 v2 l2 ∧ ∀ g, v1'.ownBlock = some g → v2.ownBlock = some g → False := by
  have hrow : ∀ g, v2.ownBlock = some g → ∀ o, W.heap[g]? = some o → W'.heap[g]? = some o := by
    intro g hg o ho
    refine ha.keeps ho ?_ ?_
    · intro e
      subst e
      exact a.box.not_row h1 b.row hg.symm
    · intro e
      exact ne g e.symm hg
  refine ⟨⟨ha.box a b.box h2 h12, ⟨b.row.1, ?_⟩, b.lo⟩, ?_⟩
  · rcases b.row.2 with ⟨e, h0⟩ | ⟨g, cap, cur, e, hb, hg, r⟩
    · exact .inl ⟨e, h0⟩
    · exact .inr ⟨g, cap, cur, e, hb, hrow g (by rw [e]; rfl) _ hg, r⟩
  · intro g hg hg2
    rcases ha.lies with e | ⟨b', e, hle⟩
    · exact ne g (e ▸ hg) hg2
    · obtain ⟨cells, hc⟩ := own_typed b.row g hg2
      have hlt := (Array.getElem?_eq_some_iff.1 hc).1
      rw [e] at hg
      cases hg
      omega
theorem Two.left {n1 n2 : Nat} {w : World} {B1 B2 : Nat} {W W' : World} {v1 v2 v1' : Value} {l1 l2 l1' : List Int} (h : Two n1 n2 w B1 B2 W v1 v2 l1 l2) (ha : Adv n1 71 B1 W v1 W' v1' l1') : Two n1 n2 w B1 B2 W' v1' v2 l1' l2 := by
  obtain ⟨hb, hne⟩ := Wrt.other (by decide) (by decide) (by decide) h.a h.b h.ne ha
  exact ⟨ha.st, hb, hne, h.be.trans ha.be, Nat.le_trans h.s1 ha.size, Nat.le_trans h.s2 ha.size, h.le⟩
theorem Two.right {n1 n2 : Nat} {w : World} {B1 B2 : Nat} {W W' : World} {v1 v2 v2' : Value} {l1 l2 l2' : List Int} (h : Two n1 n2 w B1 B2 W v1 v2 l1 l2) (ha : Adv n2 52 B2 W v2 W' v2' l2') : Two n1 n2 w B1 B2 W' v1 v2' l1 l2' := by
  obtain ⟨hb, hne⟩ := Wrt.other (by decide) (by decide) (by decide) h.b h.a (fun g e1 e2 => h.ne g e2 e1) ha
  exact ⟨hb, ha.st, fun g e1 e2 => hne g e2 e1, h.be.trans (ha.be.mono h.le), Nat.le_trans h.s1 ha.size, Nat.le_trans h.s2 ha.size, h.le⟩
theorem own_C {W : World} {base : Nat} {v : Value} {l : List Int} (h : W.ownsRow base 5 1 v l.length (bv l)) (hl : l.length ≤ 9223372036854775807) : ∃ A c, v = .slice A l.length c ∧ l.length ≤ c ∧ Kd.C (Kd.int .u8) W A l.length l := by
  rcases h.2 with ⟨rfl, h0⟩ | ⟨g, cap, cur, rfl, _, _, hc, _⟩
  · exact ⟨none, 0, by rw [h0], by omega, rfl, hl, fun hp => absurd hp (by omega)⟩
  · refine ⟨some ⟨g, 0, none⟩, cap, rfl, hc, rfl, hl, fun _ => ⟨_, rfl, fun j p hj => ⟨[.int .u8 p], rfl, rfl, fun i u hu => ?_⟩⟩⟩
    match i, hu with
    | 0, hu =>
      cases hu
      have := h.cells (g := g) rfl j (.int .u8 p) (by simp [bv, hj])
      simpa [Kd.int, Kd.scalar] using this
    | i + 1, hu => simp at hu
theorem two_held {n1 n2 : Nat} {w : World} {B1 B2 : Nat} {W : World} {v1 v2 : Value} {l1 l2 : List Int} (h : Two n1 n2 w B1 B2 W v1 v2 l1 l2) : W.cell? ⟨B2, 0, none⟩ = some v2 ∧ Aside0 (Two n1 n2 w B1 B2 W v1 v2 l1 l2) := ⟨h.b.box.cell, ⟨h⟩⟩
theorem two_below {n1 n2 : Nat} {w : World} {B1 B2 : Nat} {W W' : World} {v1 v2 : Value} {l1 l2 : List Int} (h : Two n1 n2 w B1 B2 W v1 v2 l1 l2) (hb : Below W.heap.size W W') : Two n1 n2 w B1 B2 W' v1 v2 l1 l2 :=
  ⟨h.a.below hb, h.b.below hb, h.ne, h.be.trans (hb.mono h.s1), Nat.le_trans h.s1 hb.size, Nat.le_trans h.s2 hb.size, h.le⟩
theorem two_drew {n1 n2 : Nat} {w : World} {B1 B2 : Nat} {W : World} {v1 v2 : Value} {l1 l2 : List Int} (h : Two n1 n2 w B1 B2 W v1 v2 l1 l2) : Two n1 n2 w B1 B2 W.drew v1 v2 l1 l2 := two_below h (Drawn0.below ⟨1, rfl⟩)
/-- A row of bytes of one's own, as the print says it. -/
theorem own_R {W : World} {base : Nat} {v : Value} {l : List Int} (h : W.ownsRow base 5 1 v l.length (bv l)) : Kd.R (Kd.int .u8) 5 W base (fun k => v.ownBlock = some k) v l :=
  by
  refine ⟨fun k hk => hk, bv l, h, by simp [bv_len, Kd.int, Kd.scalar], fun j p hj => ?_⟩
  have hj' : (bv l)[j]? = some (.int .u8 p) := by simp [bv, hj]
  obtain ⟨hlt, hv⟩ := List.getElem?_eq_some_iff.1 hj'
  have e : ((bv l).drop (j * 1)).take 1 = [.int .u8 p] := by rw [Nat.mul_one, List.drop_eq_getElem_cons hlt, hv]; rfl
  exact e
end Go.Proofs.Ythalodnfecaccaa.Wr
