-- By wip/late.py (a program of this session) out of wip/words.
import Derived.Test.YthalodnfecaccaaProg
import Derived.Test.YthalodnfecaccaaWWords
import Derived.Test.YthalodnfecaccaaWLast
import Derived.Test.YthalodnfecaccaaWMore
import Derived.Test.YthalodnfecaccaaSRd
import Derived.Test.YthalodnfecaccaaSRdTell
import Derived.Test.YthalodnfecaccaaSRdNumC
import Derived.Test.YthalodnfecaccaaSRdText
import Derived.Test.YthalodnfecaccaaSRdFlag
import Derived.RangeFuncBox
import Derived.BigQuiet
import Derived.Deep.QuietTactic
import Derived.Laws.Rows
import Derived.Laws.ResultCell
import Derived.Lib.Hide
import Derived.Tactics
import Derived.WalkKit
import Derived.OwnWalk
import Derived.Test.YthalodnfecaccaaSRdP
set_option linter.unusedVariables false
set_option linter.unusedSimpArgs false
namespace Go.Proofs.Ythalodnfecaccaa.Rd
open Go.RowKit Go.Proofs.YthalodnfecaccaaW.PrintWords Go.Proofs.Ythalodnfecaccaa.Pure Go.Proofs.Ythalodnfecaccaa.Wr
/-! An entry is read. -/
def entC (k : ByteArray) (cn nd : Int) (v : ByteArray) (d : Bool) : Array Value := #[.string k, .int .i64 cn, .int .i64 nd, .string v, .bool d]
/-- What Get tells, and how it leaves the reader. -/
structure Got where
  k : ByteArray
  cn : Int
  nd : Int
  v : ByteArray
  d : Bool
  p : Nat
  e : Int
def getR (l : List Int) (p : Nat) (e : Int) : Got :=
  let a := rText 16 l p e
  let b := rNum 1099511627776 l a.2.1 a.2.2
  let c := rNum 7 l b.2.1 b.2.2
  let d := rFlag l c.2.1 c.2.2
  let v := if d.1 = true then ((⟨#[]⟩ : ByteArray), d.2.1, d.2.2) else rText 32 l d.2.1 d.2.2
  let e6 := if b.1 = 0 then rFail v.2.2 30 else v.2.2
  if e6 = 0 then ⟨a.1, b.1, c.1, v.1, d.1, v.2.1, e6⟩ else ⟨⟨#[]⟩, 0, 0, ⟨#[]⟩, false, v.2.1, e6⟩
theorem getR_eq {l : List Int} {p : Nat} {e : Int} {k : ByteArray} {p1 : Nat} {e1 : Int} {cn : Int} {p2 : Nat} {e2 : Int} {nd : Int} {p3 : Nat} {e3 : Int} {d : Bool} {p4 : Nat} {e4 : Int} {v : ByteArray} {p5 : Nat} {e5 e6 : Int}
    (h1 : rText 16 l p e = (k, p1, e1)) (h2 : rNum 1099511627776 l p1 e1 = (cn, p2, e2)) (h3 : rNum 7 l p2 e2 = (nd, p3, e3)) (h4 : rFlag l p3 e3 = (d, p4, e4))
    (h5 : (if d = true then ((⟨#[]⟩ : ByteArray), p4, e4) else rText 32 l p4 e4) = (v, p5, e5)) (h6 : (if cn = 0 then rFail e5 30 else e5) = e6) :
    getR l p e = if e6 = 0 then ⟨k, cn, nd, v, d, p5, e6⟩ else ⟨⟨#[]⟩, 0, 0, ⟨#[]⟩, false, p5, e6⟩ := by
  unfold getR
  simp only [h1, h2, h3, h4, h5, h6]
section
variable {n₀ : Nat} {T : TypeId} {B : Nat} {w W : World} {A : Option Addr} {c : Nat} {l : List Int} {p : Nat} {e : Int}
theorem Went.setFar (h : Went n₀ T B w W A c l p e) {g : Nat} {t : TypeId} {cs : Array Value} (hg : W.heap[g]? = some (.cells cs t (0, 0))) (ht : t ≠ T) (ht8 : t ≠ 5) (hnew : w.heap.size ≤ g) (hn : n₀ ≤ w.heap.size) (i : Nat) (v : Value) : Went n₀ T B w (W.setCell ⟨g, i, none⟩ v) A c l p e := by
  have hne : B ≠ g := fun e' => blk_ne hg h.st.box ht e'.symm
  refine ⟨⟨blk_far h.st.box hne _, own_setCell h.st.row (fun e' => ?_) _, h.st.lo, h.st.pl, h.st.ll, h.st.bytes, h.st.neT⟩, ⟨Nat.le_trans h.kb.1 (by simp), fun j hj hb hr => ?_⟩, h.be.setCell (p := ⟨g, i, none⟩) (Nat.le_trans hn hnew) _⟩
  · obtain ⟨cells, hc⟩ := own_typed h.st.row g e'.symm
    have := hg.symm.trans hc
    injection this with this
    injection this with _ h8
    exact ht8 h8
  · refine (Below.heap_setCell W ⟨g, i, none⟩ v j ?_).trans (h.kb.2 j hj hb hr)
    intro e'
    have : j = g := e'
    omega
structure Ent (n₀ : Nat) (T : TypeId) (B : Nat) (w : World) (A : Option Addr) (c : Nat) (l : List Int) (g2 g3 : Nat) (W : World) (p : Nat) (e : Int) (k : ByteArray) (cn nd : Int) (v : ByteArray) (d : Bool) : Prop where
  wt : Went n₀ T B w W A c l p e
  b2 : W.heap[g2]? = some (.cells (entC ⟨#[]⟩ 0 0 ⟨#[]⟩ false) 25 (0, 0))
  b3 : W.heap[g3]? = some (.cells (entC k cn nd v d) 25 (0, 0))
  l2 : w.heap.size ≤ g2
  l3 : w.heap.size ≤ g3
  ne : g2 ≠ g3
  n0 : n₀ ≤ w.heap.size
  tT : 25 ≠ T
variable {g2 g3 : Nat} {k : ByteArray} {cn nd : Int} {v : ByteArray} {d : Bool}
theorem fiveE {W : World} {g : Nat} {k : ByteArray} {cn nd : Int} {v : ByteArray} {d : Bool} (h : W.heap[g]? = some (.cells (entC k cn nd v d) 25 (0, 0))) :
    W.cell? ⟨g, 0, none⟩ = some (.string k) ∧ W.cell? ⟨g, 1, none⟩ = some (.int .i64 cn) ∧ W.cell? ⟨g, 2, none⟩ = some (.int .i64 nd) ∧ W.cell? ⟨g, 3, none⟩ = some (.string v) ∧ W.cell? ⟨g, 4, none⟩ = some (.bool d) :=
  ⟨(blk_cell h 0).trans rfl, (blk_cell h 1).trans rfl, (blk_cell h 2).trans rfl, (blk_cell h 3).trans rfl, (blk_cell h 4).trans rfl⟩
theorem fiveF {W : World} {g : Nat} {cs : Array Value} {t : TypeId} (h : W.heap[g]? = some (.cells cs t (0, 0))) :
    W.frozen? ⟨g, 0, none⟩ = false ∧ W.frozen? ⟨g, 1, none⟩ = false ∧ W.frozen? ⟨g, 2, none⟩ = false ∧ W.frozen? ⟨g, 3, none⟩ = false ∧ W.frozen? ⟨g, 4, none⟩ = false :=
  ⟨blk_frozen h 0, blk_frozen h 1, blk_frozen h 2, blk_frozen h 3, blk_frozen h 4⟩
theorem Ent.go (h : Ent n₀ T B w A c l g2 g3 W p e k cn nd v d) {W' : World} {p' : Nat} {e' : Int} (g : Went n₀ T B W W' A c l p' e') : Ent n₀ T B w A c l g2 g3 W' p' e' k cn nd v d :=
  ⟨h.wt.trans g, g.other h.wt.st h.tT h.b2, g.other h.wt.st h.tT h.b3, h.l2, h.l3, h.ne, h.n0, h.tT⟩
theorem Ent.s0 (h : Ent n₀ T B w A c l g2 g3 W p e k cn nd v d) (x : ByteArray) : Ent n₀ T B w A c l g2 g3 (W.setCell ⟨g3, 0, none⟩ (.string x)) p e x cn nd v d :=
  ⟨h.wt.setFar h.b3 h.tT (by decide) h.l3 h.n0 _ _, blk_far h.b2 h.ne _, blk_set h.b3 0 _, h.l2, h.l3, h.ne, h.n0, h.tT⟩
theorem Ent.s1 (h : Ent n₀ T B w A c l g2 g3 W p e k cn nd v d) (x : Int) : Ent n₀ T B w A c l g2 g3 (W.setCell ⟨g3, 1, none⟩ (.int .i64 x)) p e k x nd v d :=
  ⟨h.wt.setFar h.b3 h.tT (by decide) h.l3 h.n0 _ _, blk_far h.b2 h.ne _, blk_set h.b3 1 _, h.l2, h.l3, h.ne, h.n0, h.tT⟩
theorem Ent.s2 (h : Ent n₀ T B w A c l g2 g3 W p e k cn nd v d) (x : Int) : Ent n₀ T B w A c l g2 g3 (W.setCell ⟨g3, 2, none⟩ (.int .i64 x)) p e k cn x v d :=
  ⟨h.wt.setFar h.b3 h.tT (by decide) h.l3 h.n0 _ _, blk_far h.b2 h.ne _, blk_set h.b3 2 _, h.l2, h.l3, h.ne, h.n0, h.tT⟩
theorem Ent.s3 (h : Ent n₀ T B w A c l g2 g3 W p e k cn nd v d) (x : ByteArray) : Ent n₀ T B w A c l g2 g3 (W.setCell ⟨g3, 3, none⟩ (.string x)) p e k cn nd x d :=
  ⟨h.wt.setFar h.b3 h.tT (by decide) h.l3 h.n0 _ _, blk_far h.b2 h.ne _, blk_set h.b3 3 _, h.l2, h.l3, h.ne, h.n0, h.tT⟩
theorem Ent.s4 (h : Ent n₀ T B w A c l g2 g3 W p e k cn nd v d) (x : Bool) : Ent n₀ T B w A c l g2 g3 (W.setCell ⟨g3, 4, none⟩ (.bool x)) p e k cn nd v x :=
  ⟨h.wt.setFar h.b3 h.tT (by decide) h.l3 h.n0 _ _, blk_far h.b2 h.ne _, blk_set h.b3 4 _, h.l2, h.l3, h.ne, h.n0, h.tT⟩
/-- The result is laid into its own variable. -/
theorem Ent.fin (h : Ent n₀ T B w A c l g2 g3 W p e k cn nd v d) (k' : ByteArray) (cn' nd' : Int) (v' : ByteArray) (d' : Bool) :
    Went n₀ T B w (((((W.setCell ⟨g2, 0, none⟩ (.string k')).setCell ⟨g2, 1, none⟩ (.int .i64 cn')).setCell ⟨g2, 2, none⟩ (.int .i64 nd')).setCell ⟨g2, 3, none⟩ (.string v')).setCell ⟨g2, 4, none⟩ (.bool d')) A c l p e ∧
    (((((W.setCell ⟨g2, 0, none⟩ (.string k')).setCell ⟨g2, 1, none⟩ (.int .i64 cn')).setCell ⟨g2, 2, none⟩ (.int .i64 nd')).setCell ⟨g2, 3, none⟩ (.string v')).setCell ⟨g2, 4, none⟩ (.bool d')).heap[g2]? = some (.cells (entC k' cn' nd' v' d') 25 (0, 0)) := by
  have a0 := blk_set h.b2 0 (.string k')
  have a1 := blk_set a0 1 (.int .i64 cn')
  have a2 := blk_set a1 2 (.int .i64 nd')
  have a3 := blk_set a2 3 (.string v')
  have a4 := blk_set a3 4 (.bool d')
  refine ⟨?_, a4⟩
  exact ((((h.wt.setFar h.b2 h.tT (by decide) h.l2 h.n0 _ _).setFar a0 h.tT (by decide) h.l2 h.n0 _ _).setFar a1 h.tT (by decide) h.l2 h.n0 _ _).setFar a2 h.tT (by decide) h.l2 h.n0 _ _).setFar a3 h.tT (by decide) h.l2 h.n0 _ _
end
set_option maxRecDepth 100000 in
set_option maxHeartbeats 8000000 in
theorem get_calls {n₀ B : Nat} {w : World} {A : Option Addr} {c : Nat} {l : List Int} {p : Nat} {e : Int} (h : Rdr n₀ 77 w B A c l p e) :
    Calls Try.prog 34 #[.pointer (some ⟨B, 0, none⟩)] w fun x w' => x = .returned (.agg (entC (getR l p e).k (getR l p e).cn (getR l p e).nd (getR l p e).v (getR l p e).d)) ∧ Went n₀ 77 B w w' A c l (getR l p e).p (getR l p e).e := by
  have HR := Aside0.mk h
  clear h
  obtain ⟨⟨k, p1, e1⟩, q1⟩ : ∃ q, rText 16 l p e = q := ⟨_, rfl⟩
  obtain ⟨⟨cn, p2, e2⟩, q2⟩ : ∃ q, rNum 1099511627776 l p1 e1 = q := ⟨_, rfl⟩
  obtain ⟨⟨nd, p3, e3⟩, q3⟩ : ∃ q, rNum 7 l p2 e2 = q := ⟨_, rfl⟩
  obtain ⟨⟨d, p4, e4⟩, q4⟩ : ∃ q, rFlag l p3 e3 = q := ⟨_, rfl⟩
  obtain ⟨⟨v, p5, e5⟩, q5⟩ : ∃ q, (if d = true then ((⟨#[]⟩ : ByteArray), p4, e4) else rText 32 l p4 e4) = q := ⟨_, rfl⟩
  obtain ⟨e6, q6⟩ : ∃ q, (if cn = 0 then rFail e5 30 else e5) = q := ⟨_, rfl⟩
  rw [getR_eq q1 q2 q3 q4 q5 q6]
  have Q1 := Aside0.mk q1
  have Q2 := Aside0.mk q2
  have Q3 := Aside0.mk q3
  have Q4 := Aside0.mk q4
  clear q1 q2 q3 q4
  cases d with
  | true =>
    rw [if_pos rfl] at q5
    simp only [Prod.mk.injEq] at q5
    obtain ⟨rfl, rfl, rfl⟩ := q5
    by_cases hz : cn = 0
    · subst hz
      rw [if_pos rfl] at q6
      have Q6 := Aside0.mk q6
      clear q6
      by_cases h6 : e6 = 0
      · subst h6
        rw [if_pos rfl]
        go_enter Try.func34, Try.ntmps34
        go_wp2_with (first
          | ((with_reducible refine gate_dst (N := 2) rfl ?_); refine box_event ?hg (N := 2) ?hd (cs := #[.string ⟨#[]⟩, .int .i64 0, .int .i64 0, .string ⟨#[]⟩, .bool false]) (t := 25) ?hr ?_; (case hd => rfl); (case hg => rfl); (case hr => first | (go_simp; done) | (go_simp; rfl)); intro g2 eg2 wa ha2 hba; have HA2 := Aside0.mk ha2; have HBA := Aside0.mk hba; have EG2 := Aside0.mk eg2; clear ha2 hba eg2)
          | ((with_reducible refine gate_dst (N := 3) rfl ?_); refine box_event ?hg (N := 3) ?hd (cs := #[.string ⟨#[]⟩, .int .i64 0, .int .i64 0, .string ⟨#[]⟩, .bool false]) (t := 25) ?hr ?_; (case hd => rfl); (case hg => rfl); (case hr => first | (go_simp; done) | (go_simp; rfl)); intro g3 eg3 wb ha3 hbb; have H0 : Aside0 (Ent n₀ 77 B w A c l g2 g3 wb p e ⟨#[]⟩ 0 0 ⟨#[]⟩ false) := ⟨⟨⟨HR.out.below (HBA.out.trans (hbb.mono HBA.out.size)), ⟨Nat.le_trans HBA.out.size hbb.size, fun i hi _ _ => ((HBA.out.trans (hbb.mono HBA.out.size)).block i hi)⟩, (HBA.out.trans (hbb.mono HBA.out.size)).mono HR.out.n0⟩, blk_below HA2.out hbb, ha3, Nat.le_of_eq EG2.out.symm, by rw [eg3]; exact HBA.out.size, by rw [eg3, EG2.out]; exact fun e' => absurd (blk_lt HA2.out) (by rw [EG2.out, e']; exact Nat.lt_irrefl _), HR.out.n0, by decide⟩⟩; clear ha3 hbb eg3)
          | (go_at_call 52; have hN := text_calls 16 (by decide) (by decide) H0.out.wt.st; simp only [Q1.out] at hN; (with_reducible refine hN.mono ?_); rintro x w1 ⟨rfl, hg⟩; have G1 := Aside0.mk (H0.out.go hg); have H1 := Aside0.mk (G1.out.s0 k); obtain ⟨y0, y1, y2, y3, y4⟩ := fiveE G1.out.b3; obtain ⟨z0, z1, z2, z3, z4⟩ := fiveF G1.out.b3; clear hN hg)
          | (go_at_call 53; have hN := num_calls 1099511627776 (by decide) (by decide) H1.out.wt.st; simp only [Q2.out] at hN; (with_reducible refine hN.mono ?_); rintro x w2 ⟨rfl, hg⟩; clear y0 y1 y2 y3 y4 z0 z1 z2 z3 z4; have H2 := Aside0.mk (H1.out.go hg); clear hN hg)
          | (go_at_call 53; have hN := num_calls 7 (by decide) (by decide) H2.out.wt.st; simp only [Q3.out] at hN; (with_reducible refine hN.mono ?_); rintro x w3 ⟨rfl, hg⟩; have G3 := Aside0.mk (H2.out.go hg); have H3 := Aside0.mk ((G3.out.s1 0).s2 nd); obtain ⟨y0, y1, y2, y3, y4⟩ := fiveE G3.out.b3; obtain ⟨z0, z1, z2, z3, z4⟩ := fiveF G3.out.b3; clear hN hg)
          | (go_at_call 54; have hN := flag_calls H3.out.wt.st; simp only [Q4.out] at hN; (with_reducible refine hN.mono ?_); rintro x w4 ⟨rfl, hg⟩; clear y0 y1 y2 y3 y4 z0 z1 z2 z3 z4; have G4 := Aside0.mk (H3.out.go hg); have H4 := Aside0.mk (G4.out.s4 true); obtain ⟨y0, y1, y2, y3, y4⟩ := fiveE G4.out.b3; obtain ⟨z0, z1, z2, z3, z4⟩ := fiveF G4.out.b3; obtain ⟨t0, t1, t2, t3, t4⟩ := fiveE H4.out.b3; obtain ⟨r0, r1, r2, r3, r4⟩ := fiveE H4.out.b2; obtain ⟨s0, s1, s2, s3, s4⟩ := fiveF H4.out.b2; clear hN hg)
          | (go_at_call 55; have hN := fail_calls 30 H4.out.wt.st; simp only [Q6.out] at hN; (with_reducible refine hN.mono ?_); rintro x w6 ⟨rfl, hg⟩; clear t0 t1 t2 t3 t4 r0 r1 r2 r3 r4 s0 s1 s2 s3 s4; have H6 := Aside0.mk (H4.out.go hg); obtain ⟨t0, t1, t2, t3, t4⟩ := fiveE H6.out.b3; obtain ⟨r0, r1, r2, r3, r4⟩ := fiveE H6.out.b2; obtain ⟨s0, s1, s2, s3, s4⟩ := fiveF H6.out.b2; clear hN hg)
          | (go_at_call 36; have hN := err_calls H6.out.wt.st; (with_reducible refine hN.mono ?_); rintro x w7 ⟨rfl, hg⟩; subst hg; clear hN))
        have hf := H6.out.fin k 0 nd ⟨#[]⟩ true
        refine bodyPost_ret (results_cell_row rfl _ _ g2 25 (entC k 0 nd ⟨#[]⟩ true) (0, 0) _ rfl hf.2 Try.underlying25 rfl (by kernel_rfl)) rfl ?_
        exact ⟨rfl, hf.1⟩
      · rw [if_neg h6]
        have d1 : (e6 == 0) = false := by simp [h6]
        have d2 : (e6 = 0) = False := eq_false h6
        clear h6
        go_enter Try.func34, Try.ntmps34
        go_wp2_with (first
          | ((with_reducible refine gate_dst (N := 2) rfl ?_); refine box_event ?hg (N := 2) ?hd (cs := #[.string ⟨#[]⟩, .int .i64 0, .int .i64 0, .string ⟨#[]⟩, .bool false]) (t := 25) ?hr ?_; (case hd => rfl); (case hg => rfl); (case hr => first | (go_simp; done) | (go_simp; rfl)); intro g2 eg2 wa ha2 hba; have HA2 := Aside0.mk ha2; have HBA := Aside0.mk hba; have EG2 := Aside0.mk eg2; clear ha2 hba eg2)
          | ((with_reducible refine gate_dst (N := 3) rfl ?_); refine box_event ?hg (N := 3) ?hd (cs := #[.string ⟨#[]⟩, .int .i64 0, .int .i64 0, .string ⟨#[]⟩, .bool false]) (t := 25) ?hr ?_; (case hd => rfl); (case hg => rfl); (case hr => first | (go_simp; done) | (go_simp; rfl)); intro g3 eg3 wb ha3 hbb; have H0 : Aside0 (Ent n₀ 77 B w A c l g2 g3 wb p e ⟨#[]⟩ 0 0 ⟨#[]⟩ false) := ⟨⟨⟨HR.out.below (HBA.out.trans (hbb.mono HBA.out.size)), ⟨Nat.le_trans HBA.out.size hbb.size, fun i hi _ _ => ((HBA.out.trans (hbb.mono HBA.out.size)).block i hi)⟩, (HBA.out.trans (hbb.mono HBA.out.size)).mono HR.out.n0⟩, blk_below HA2.out hbb, ha3, Nat.le_of_eq EG2.out.symm, by rw [eg3]; exact HBA.out.size, by rw [eg3, EG2.out]; exact fun e' => absurd (blk_lt HA2.out) (by rw [EG2.out, e']; exact Nat.lt_irrefl _), HR.out.n0, by decide⟩⟩; clear ha3 hbb eg3)
          | (go_at_call 52; have hN := text_calls 16 (by decide) (by decide) H0.out.wt.st; simp only [Q1.out] at hN; (with_reducible refine hN.mono ?_); rintro x w1 ⟨rfl, hg⟩; have G1 := Aside0.mk (H0.out.go hg); have H1 := Aside0.mk (G1.out.s0 k); obtain ⟨y0, y1, y2, y3, y4⟩ := fiveE G1.out.b3; obtain ⟨z0, z1, z2, z3, z4⟩ := fiveF G1.out.b3; clear hN hg)
          | (go_at_call 53; have hN := num_calls 1099511627776 (by decide) (by decide) H1.out.wt.st; simp only [Q2.out] at hN; (with_reducible refine hN.mono ?_); rintro x w2 ⟨rfl, hg⟩; clear y0 y1 y2 y3 y4 z0 z1 z2 z3 z4; have H2 := Aside0.mk (H1.out.go hg); clear hN hg)
          | (go_at_call 53; have hN := num_calls 7 (by decide) (by decide) H2.out.wt.st; simp only [Q3.out] at hN; (with_reducible refine hN.mono ?_); rintro x w3 ⟨rfl, hg⟩; have G3 := Aside0.mk (H2.out.go hg); have H3 := Aside0.mk ((G3.out.s1 0).s2 nd); obtain ⟨y0, y1, y2, y3, y4⟩ := fiveE G3.out.b3; obtain ⟨z0, z1, z2, z3, z4⟩ := fiveF G3.out.b3; clear hN hg)
          | (go_at_call 54; have hN := flag_calls H3.out.wt.st; simp only [Q4.out] at hN; (with_reducible refine hN.mono ?_); rintro x w4 ⟨rfl, hg⟩; clear y0 y1 y2 y3 y4 z0 z1 z2 z3 z4; have G4 := Aside0.mk (H3.out.go hg); have H4 := Aside0.mk (G4.out.s4 true); obtain ⟨y0, y1, y2, y3, y4⟩ := fiveE G4.out.b3; obtain ⟨z0, z1, z2, z3, z4⟩ := fiveF G4.out.b3; obtain ⟨t0, t1, t2, t3, t4⟩ := fiveE H4.out.b3; obtain ⟨r0, r1, r2, r3, r4⟩ := fiveE H4.out.b2; obtain ⟨s0, s1, s2, s3, s4⟩ := fiveF H4.out.b2; clear hN hg)
          | (go_at_call 55; have hN := fail_calls 30 H4.out.wt.st; simp only [Q6.out] at hN; (with_reducible refine hN.mono ?_); rintro x w6 ⟨rfl, hg⟩; clear t0 t1 t2 t3 t4 r0 r1 r2 r3 r4 s0 s1 s2 s3 s4; have H6 := Aside0.mk (H4.out.go hg); obtain ⟨t0, t1, t2, t3, t4⟩ := fiveE H6.out.b3; obtain ⟨r0, r1, r2, r3, r4⟩ := fiveE H6.out.b2; obtain ⟨s0, s1, s2, s3, s4⟩ := fiveF H6.out.b2; clear hN hg)
          | (go_at_call 36; have hN := err_calls H6.out.wt.st; (with_reducible refine hN.mono ?_); rintro x w7 ⟨rfl, hg⟩; subst hg; clear hN))
        have hf := H6.out.fin ⟨#[]⟩ 0 0 ⟨#[]⟩ false
        refine bodyPost_ret (results_cell_row rfl _ _ g2 25 (entC ⟨#[]⟩ 0 0 ⟨#[]⟩ false) (0, 0) _ rfl hf.2 Try.underlying25 rfl (by kernel_rfl)) rfl ?_
        exact ⟨rfl, hf.1⟩
    · rw [if_neg hz] at q6
      have c1 : (cn == 0) = false := by simp [hz]
      have c2 : (cn = 0) = False := eq_false hz
      subst q6
      clear hz
      by_cases h6 : e4 = 0
      · subst h6
        rw [if_pos rfl]
        go_enter Try.func34, Try.ntmps34
        go_wp2_with (first
          | ((with_reducible refine gate_dst (N := 2) rfl ?_); refine box_event ?hg (N := 2) ?hd (cs := #[.string ⟨#[]⟩, .int .i64 0, .int .i64 0, .string ⟨#[]⟩, .bool false]) (t := 25) ?hr ?_; (case hd => rfl); (case hg => rfl); (case hr => first | (go_simp; done) | (go_simp; rfl)); intro g2 eg2 wa ha2 hba; have HA2 := Aside0.mk ha2; have HBA := Aside0.mk hba; have EG2 := Aside0.mk eg2; clear ha2 hba eg2)
          | ((with_reducible refine gate_dst (N := 3) rfl ?_); refine box_event ?hg (N := 3) ?hd (cs := #[.string ⟨#[]⟩, .int .i64 0, .int .i64 0, .string ⟨#[]⟩, .bool false]) (t := 25) ?hr ?_; (case hd => rfl); (case hg => rfl); (case hr => first | (go_simp; done) | (go_simp; rfl)); intro g3 eg3 wb ha3 hbb; have H0 : Aside0 (Ent n₀ 77 B w A c l g2 g3 wb p e ⟨#[]⟩ 0 0 ⟨#[]⟩ false) := ⟨⟨⟨HR.out.below (HBA.out.trans (hbb.mono HBA.out.size)), ⟨Nat.le_trans HBA.out.size hbb.size, fun i hi _ _ => ((HBA.out.trans (hbb.mono HBA.out.size)).block i hi)⟩, (HBA.out.trans (hbb.mono HBA.out.size)).mono HR.out.n0⟩, blk_below HA2.out hbb, ha3, Nat.le_of_eq EG2.out.symm, by rw [eg3]; exact HBA.out.size, by rw [eg3, EG2.out]; exact fun e' => absurd (blk_lt HA2.out) (by rw [EG2.out, e']; exact Nat.lt_irrefl _), HR.out.n0, by decide⟩⟩; clear ha3 hbb eg3)
          | (go_at_call 52; have hN := text_calls 16 (by decide) (by decide) H0.out.wt.st; simp only [Q1.out] at hN; (with_reducible refine hN.mono ?_); rintro x w1 ⟨rfl, hg⟩; have G1 := Aside0.mk (H0.out.go hg); have H1 := Aside0.mk (G1.out.s0 k); obtain ⟨y0, y1, y2, y3, y4⟩ := fiveE G1.out.b3; obtain ⟨z0, z1, z2, z3, z4⟩ := fiveF G1.out.b3; clear hN hg)
          | (go_at_call 53; have hN := num_calls 1099511627776 (by decide) (by decide) H1.out.wt.st; simp only [Q2.out] at hN; (with_reducible refine hN.mono ?_); rintro x w2 ⟨rfl, hg⟩; clear y0 y1 y2 y3 y4 z0 z1 z2 z3 z4; have H2 := Aside0.mk (H1.out.go hg); clear hN hg)
          | (go_at_call 53; have hN := num_calls 7 (by decide) (by decide) H2.out.wt.st; simp only [Q3.out] at hN; (with_reducible refine hN.mono ?_); rintro x w3 ⟨rfl, hg⟩; have G3 := Aside0.mk (H2.out.go hg); have H3 := Aside0.mk ((G3.out.s1 cn).s2 nd); obtain ⟨y0, y1, y2, y3, y4⟩ := fiveE G3.out.b3; obtain ⟨z0, z1, z2, z3, z4⟩ := fiveF G3.out.b3; clear hN hg)
          | (go_at_call 54; have hN := flag_calls H3.out.wt.st; simp only [Q4.out] at hN; (with_reducible refine hN.mono ?_); rintro x w4 ⟨rfl, hg⟩; clear y0 y1 y2 y3 y4 z0 z1 z2 z3 z4; have G4 := Aside0.mk (H3.out.go hg); have H4 := Aside0.mk (G4.out.s4 true); obtain ⟨y0, y1, y2, y3, y4⟩ := fiveE G4.out.b3; obtain ⟨z0, z1, z2, z3, z4⟩ := fiveF G4.out.b3; obtain ⟨t0, t1, t2, t3, t4⟩ := fiveE H4.out.b3; obtain ⟨r0, r1, r2, r3, r4⟩ := fiveE H4.out.b2; obtain ⟨s0, s1, s2, s3, s4⟩ := fiveF H4.out.b2; clear hN hg)
          | (go_at_call 36; have hN := err_calls H4.out.wt.st; (with_reducible refine hN.mono ?_); rintro x w7 ⟨rfl, hg⟩; subst hg; clear hN))
        have hf := H4.out.fin k cn nd ⟨#[]⟩ true
        refine bodyPost_ret (results_cell_row rfl _ _ g2 25 (entC k cn nd ⟨#[]⟩ true) (0, 0) _ rfl hf.2 Try.underlying25 rfl (by kernel_rfl)) rfl ?_
        exact ⟨rfl, hf.1⟩
      · rw [if_neg h6]
        have d1 : (e4 == 0) = false := by simp [h6]
        have d2 : (e4 = 0) = False := eq_false h6
        clear h6
        go_enter Try.func34, Try.ntmps34
        go_wp2_with (first
          | ((with_reducible refine gate_dst (N := 2) rfl ?_); refine box_event ?hg (N := 2) ?hd (cs := #[.string ⟨#[]⟩, .int .i64 0, .int .i64 0, .string ⟨#[]⟩, .bool false]) (t := 25) ?hr ?_; (case hd => rfl); (case hg => rfl); (case hr => first | (go_simp; done) | (go_simp; rfl)); intro g2 eg2 wa ha2 hba; have HA2 := Aside0.mk ha2; have HBA := Aside0.mk hba; have EG2 := Aside0.mk eg2; clear ha2 hba eg2)
          | ((with_reducible refine gate_dst (N := 3) rfl ?_); refine box_event ?hg (N := 3) ?hd (cs := #[.string ⟨#[]⟩, .int .i64 0, .int .i64 0, .string ⟨#[]⟩, .bool false]) (t := 25) ?hr ?_; (case hd => rfl); (case hg => rfl); (case hr => first | (go_simp; done) | (go_simp; rfl)); intro g3 eg3 wb ha3 hbb; have H0 : Aside0 (Ent n₀ 77 B w A c l g2 g3 wb p e ⟨#[]⟩ 0 0 ⟨#[]⟩ false) := ⟨⟨⟨HR.out.below (HBA.out.trans (hbb.mono HBA.out.size)), ⟨Nat.le_trans HBA.out.size hbb.size, fun i hi _ _ => ((HBA.out.trans (hbb.mono HBA.out.size)).block i hi)⟩, (HBA.out.trans (hbb.mono HBA.out.size)).mono HR.out.n0⟩, blk_below HA2.out hbb, ha3, Nat.le_of_eq EG2.out.symm, by rw [eg3]; exact HBA.out.size, by rw [eg3, EG2.out]; exact fun e' => absurd (blk_lt HA2.out) (by rw [EG2.out, e']; exact Nat.lt_irrefl _), HR.out.n0, by decide⟩⟩; clear ha3 hbb eg3)
          | (go_at_call 52; have hN := text_calls 16 (by decide) (by decide) H0.out.wt.st; simp only [Q1.out] at hN; (with_reducible refine hN.mono ?_); rintro x w1 ⟨rfl, hg⟩; have G1 := Aside0.mk (H0.out.go hg); have H1 := Aside0.mk (G1.out.s0 k); obtain ⟨y0, y1, y2, y3, y4⟩ := fiveE G1.out.b3; obtain ⟨z0, z1, z2, z3, z4⟩ := fiveF G1.out.b3; clear hN hg)
          | (go_at_call 53; have hN := num_calls 1099511627776 (by decide) (by decide) H1.out.wt.st; simp only [Q2.out] at hN; (with_reducible refine hN.mono ?_); rintro x w2 ⟨rfl, hg⟩; clear y0 y1 y2 y3 y4 z0 z1 z2 z3 z4; have H2 := Aside0.mk (H1.out.go hg); clear hN hg)
          | (go_at_call 53; have hN := num_calls 7 (by decide) (by decide) H2.out.wt.st; simp only [Q3.out] at hN; (with_reducible refine hN.mono ?_); rintro x w3 ⟨rfl, hg⟩; have G3 := Aside0.mk (H2.out.go hg); have H3 := Aside0.mk ((G3.out.s1 cn).s2 nd); obtain ⟨y0, y1, y2, y3, y4⟩ := fiveE G3.out.b3; obtain ⟨z0, z1, z2, z3, z4⟩ := fiveF G3.out.b3; clear hN hg)
          | (go_at_call 54; have hN := flag_calls H3.out.wt.st; simp only [Q4.out] at hN; (with_reducible refine hN.mono ?_); rintro x w4 ⟨rfl, hg⟩; clear y0 y1 y2 y3 y4 z0 z1 z2 z3 z4; have G4 := Aside0.mk (H3.out.go hg); have H4 := Aside0.mk (G4.out.s4 true); obtain ⟨y0, y1, y2, y3, y4⟩ := fiveE G4.out.b3; obtain ⟨z0, z1, z2, z3, z4⟩ := fiveF G4.out.b3; obtain ⟨t0, t1, t2, t3, t4⟩ := fiveE H4.out.b3; obtain ⟨r0, r1, r2, r3, r4⟩ := fiveE H4.out.b2; obtain ⟨s0, s1, s2, s3, s4⟩ := fiveF H4.out.b2; clear hN hg)
          | (go_at_call 36; have hN := err_calls H4.out.wt.st; (with_reducible refine hN.mono ?_); rintro x w7 ⟨rfl, hg⟩; subst hg; clear hN))
        have hf := H4.out.fin ⟨#[]⟩ 0 0 ⟨#[]⟩ false
        refine bodyPost_ret (results_cell_row rfl _ _ g2 25 (entC ⟨#[]⟩ 0 0 ⟨#[]⟩ false) (0, 0) _ rfl hf.2 Try.underlying25 rfl (by kernel_rfl)) rfl ?_
        exact ⟨rfl, hf.1⟩
  | false =>
    rw [if_neg (by decide)] at q5
    have Q5 := Aside0.mk q5
    clear q5
    by_cases hz : cn = 0
    · subst hz
      rw [if_pos rfl] at q6
      have Q6 := Aside0.mk q6
      clear q6
      by_cases h6 : e6 = 0
      · subst h6
        rw [if_pos rfl]
        go_enter Try.func34, Try.ntmps34
        go_wp2_with (first
          | ((with_reducible refine gate_dst (N := 2) rfl ?_); refine box_event ?hg (N := 2) ?hd (cs := #[.string ⟨#[]⟩, .int .i64 0, .int .i64 0, .string ⟨#[]⟩, .bool false]) (t := 25) ?hr ?_; (case hd => rfl); (case hg => rfl); (case hr => first | (go_simp; done) | (go_simp; rfl)); intro g2 eg2 wa ha2 hba; have HA2 := Aside0.mk ha2; have HBA := Aside0.mk hba; have EG2 := Aside0.mk eg2; clear ha2 hba eg2)
          | ((with_reducible refine gate_dst (N := 3) rfl ?_); refine box_event ?hg (N := 3) ?hd (cs := #[.string ⟨#[]⟩, .int .i64 0, .int .i64 0, .string ⟨#[]⟩, .bool false]) (t := 25) ?hr ?_; (case hd => rfl); (case hg => rfl); (case hr => first | (go_simp; done) | (go_simp; rfl)); intro g3 eg3 wb ha3 hbb; have H0 : Aside0 (Ent n₀ 77 B w A c l g2 g3 wb p e ⟨#[]⟩ 0 0 ⟨#[]⟩ false) := ⟨⟨⟨HR.out.below (HBA.out.trans (hbb.mono HBA.out.size)), ⟨Nat.le_trans HBA.out.size hbb.size, fun i hi _ _ => ((HBA.out.trans (hbb.mono HBA.out.size)).block i hi)⟩, (HBA.out.trans (hbb.mono HBA.out.size)).mono HR.out.n0⟩, blk_below HA2.out hbb, ha3, Nat.le_of_eq EG2.out.symm, by rw [eg3]; exact HBA.out.size, by rw [eg3, EG2.out]; exact fun e' => absurd (blk_lt HA2.out) (by rw [EG2.out, e']; exact Nat.lt_irrefl _), HR.out.n0, by decide⟩⟩; clear ha3 hbb eg3)
          | (go_at_call 52; have hN := text_calls 16 (by decide) (by decide) H0.out.wt.st; simp only [Q1.out] at hN; (with_reducible refine hN.mono ?_); rintro x w1 ⟨rfl, hg⟩; have G1 := Aside0.mk (H0.out.go hg); have H1 := Aside0.mk (G1.out.s0 k); obtain ⟨y0, y1, y2, y3, y4⟩ := fiveE G1.out.b3; obtain ⟨z0, z1, z2, z3, z4⟩ := fiveF G1.out.b3; clear hN hg)
          | (go_at_call 53; have hN := num_calls 1099511627776 (by decide) (by decide) H1.out.wt.st; simp only [Q2.out] at hN; (with_reducible refine hN.mono ?_); rintro x w2 ⟨rfl, hg⟩; clear y0 y1 y2 y3 y4 z0 z1 z2 z3 z4; have H2 := Aside0.mk (H1.out.go hg); clear hN hg)
          | (go_at_call 53; have hN := num_calls 7 (by decide) (by decide) H2.out.wt.st; simp only [Q3.out] at hN; (with_reducible refine hN.mono ?_); rintro x w3 ⟨rfl, hg⟩; have G3 := Aside0.mk (H2.out.go hg); have H3 := Aside0.mk ((G3.out.s1 0).s2 nd); obtain ⟨y0, y1, y2, y3, y4⟩ := fiveE G3.out.b3; obtain ⟨z0, z1, z2, z3, z4⟩ := fiveF G3.out.b3; clear hN hg)
          | (go_at_call 54; have hN := flag_calls H3.out.wt.st; simp only [Q4.out] at hN; (with_reducible refine hN.mono ?_); rintro x w4 ⟨rfl, hg⟩; clear y0 y1 y2 y3 y4 z0 z1 z2 z3 z4; have G4 := Aside0.mk (H3.out.go hg); have H4 := Aside0.mk (G4.out.s4 false); obtain ⟨y0, y1, y2, y3, y4⟩ := fiveE G4.out.b3; obtain ⟨z0, z1, z2, z3, z4⟩ := fiveF G4.out.b3; obtain ⟨t0, t1, t2, t3, t4⟩ := fiveE H4.out.b3; obtain ⟨r0, r1, r2, r3, r4⟩ := fiveE H4.out.b2; obtain ⟨s0, s1, s2, s3, s4⟩ := fiveF H4.out.b2; clear hN hg)
          | (go_at_call 52; have hN := text_calls 32 (by decide) (by decide) H4.out.wt.st; simp only [Q5.out] at hN; (with_reducible refine hN.mono ?_); rintro x w5 ⟨rfl, hg⟩; clear y0 y1 y2 y3 y4 z0 z1 z2 z3 z4; clear t0 t1 t2 t3 t4 r0 r1 r2 r3 r4 s0 s1 s2 s3 s4; have G5 := Aside0.mk (H4.out.go hg); have H5 := Aside0.mk (G5.out.s3 v); obtain ⟨y0, y1, y2, y3, y4⟩ := fiveE G5.out.b3; obtain ⟨z0, z1, z2, z3, z4⟩ := fiveF G5.out.b3; obtain ⟨t0, t1, t2, t3, t4⟩ := fiveE H5.out.b3; obtain ⟨r0, r1, r2, r3, r4⟩ := fiveE H5.out.b2; obtain ⟨s0, s1, s2, s3, s4⟩ := fiveF H5.out.b2; clear hN hg)
          | (go_at_call 55; have hN := fail_calls 30 H5.out.wt.st; simp only [Q6.out] at hN; (with_reducible refine hN.mono ?_); rintro x w6 ⟨rfl, hg⟩; clear t0 t1 t2 t3 t4 r0 r1 r2 r3 r4 s0 s1 s2 s3 s4; have H6 := Aside0.mk (H5.out.go hg); obtain ⟨t0, t1, t2, t3, t4⟩ := fiveE H6.out.b3; obtain ⟨r0, r1, r2, r3, r4⟩ := fiveE H6.out.b2; obtain ⟨s0, s1, s2, s3, s4⟩ := fiveF H6.out.b2; clear hN hg)
          | (go_at_call 36; have hN := err_calls H6.out.wt.st; (with_reducible refine hN.mono ?_); rintro x w7 ⟨rfl, hg⟩; subst hg; clear hN))
        have hf := H6.out.fin k 0 nd v false
        refine bodyPost_ret (results_cell_row rfl _ _ g2 25 (entC k 0 nd v false) (0, 0) _ rfl hf.2 Try.underlying25 rfl (by kernel_rfl)) rfl ?_
        exact ⟨rfl, hf.1⟩
      · rw [if_neg h6]
        have d1 : (e6 == 0) = false := by simp [h6]
        have d2 : (e6 = 0) = False := eq_false h6
        clear h6
        go_enter Try.func34, Try.ntmps34
        go_wp2_with (first
          | ((with_reducible refine gate_dst (N := 2) rfl ?_); refine box_event ?hg (N := 2) ?hd (cs := #[.string ⟨#[]⟩, .int .i64 0, .int .i64 0, .string ⟨#[]⟩, .bool false]) (t := 25) ?hr ?_; (case hd => rfl); (case hg => rfl); (case hr => first | (go_simp; done) | (go_simp; rfl)); intro g2 eg2 wa ha2 hba; have HA2 := Aside0.mk ha2; have HBA := Aside0.mk hba; have EG2 := Aside0.mk eg2; clear ha2 hba eg2)
          | ((with_reducible refine gate_dst (N := 3) rfl ?_); refine box_event ?hg (N := 3) ?hd (cs := #[.string ⟨#[]⟩, .int .i64 0, .int .i64 0, .string ⟨#[]⟩, .bool false]) (t := 25) ?hr ?_; (case hd => rfl); (case hg => rfl); (case hr => first | (go_simp; done) | (go_simp; rfl)); intro g3 eg3 wb ha3 hbb; have H0 : Aside0 (Ent n₀ 77 B w A c l g2 g3 wb p e ⟨#[]⟩ 0 0 ⟨#[]⟩ false) := ⟨⟨⟨HR.out.below (HBA.out.trans (hbb.mono HBA.out.size)), ⟨Nat.le_trans HBA.out.size hbb.size, fun i hi _ _ => ((HBA.out.trans (hbb.mono HBA.out.size)).block i hi)⟩, (HBA.out.trans (hbb.mono HBA.out.size)).mono HR.out.n0⟩, blk_below HA2.out hbb, ha3, Nat.le_of_eq EG2.out.symm, by rw [eg3]; exact HBA.out.size, by rw [eg3, EG2.out]; exact fun e' => absurd (blk_lt HA2.out) (by rw [EG2.out, e']; exact Nat.lt_irrefl _), HR.out.n0, by decide⟩⟩; clear ha3 hbb eg3)
          | (go_at_call 52; have hN := text_calls 16 (by decide) (by decide) H0.out.wt.st; simp only [Q1.out] at hN; (with_reducible refine hN.mono ?_); rintro x w1 ⟨rfl, hg⟩; have G1 := Aside0.mk (H0.out.go hg); have H1 := Aside0.mk (G1.out.s0 k); obtain ⟨y0, y1, y2, y3, y4⟩ := fiveE G1.out.b3; obtain ⟨z0, z1, z2, z3, z4⟩ := fiveF G1.out.b3; clear hN hg)
          | (go_at_call 53; have hN := num_calls 1099511627776 (by decide) (by decide) H1.out.wt.st; simp only [Q2.out] at hN; (with_reducible refine hN.mono ?_); rintro x w2 ⟨rfl, hg⟩; clear y0 y1 y2 y3 y4 z0 z1 z2 z3 z4; have H2 := Aside0.mk (H1.out.go hg); clear hN hg)
          | (go_at_call 53; have hN := num_calls 7 (by decide) (by decide) H2.out.wt.st; simp only [Q3.out] at hN; (with_reducible refine hN.mono ?_); rintro x w3 ⟨rfl, hg⟩; have G3 := Aside0.mk (H2.out.go hg); have H3 := Aside0.mk ((G3.out.s1 0).s2 nd); obtain ⟨y0, y1, y2, y3, y4⟩ := fiveE G3.out.b3; obtain ⟨z0, z1, z2, z3, z4⟩ := fiveF G3.out.b3; clear hN hg)
          | (go_at_call 54; have hN := flag_calls H3.out.wt.st; simp only [Q4.out] at hN; (with_reducible refine hN.mono ?_); rintro x w4 ⟨rfl, hg⟩; clear y0 y1 y2 y3 y4 z0 z1 z2 z3 z4; have G4 := Aside0.mk (H3.out.go hg); have H4 := Aside0.mk (G4.out.s4 false); obtain ⟨y0, y1, y2, y3, y4⟩ := fiveE G4.out.b3; obtain ⟨z0, z1, z2, z3, z4⟩ := fiveF G4.out.b3; obtain ⟨t0, t1, t2, t3, t4⟩ := fiveE H4.out.b3; obtain ⟨r0, r1, r2, r3, r4⟩ := fiveE H4.out.b2; obtain ⟨s0, s1, s2, s3, s4⟩ := fiveF H4.out.b2; clear hN hg)
          | (go_at_call 52; have hN := text_calls 32 (by decide) (by decide) H4.out.wt.st; simp only [Q5.out] at hN; (with_reducible refine hN.mono ?_); rintro x w5 ⟨rfl, hg⟩; clear y0 y1 y2 y3 y4 z0 z1 z2 z3 z4; clear t0 t1 t2 t3 t4 r0 r1 r2 r3 r4 s0 s1 s2 s3 s4; have G5 := Aside0.mk (H4.out.go hg); have H5 := Aside0.mk (G5.out.s3 v); obtain ⟨y0, y1, y2, y3, y4⟩ := fiveE G5.out.b3; obtain ⟨z0, z1, z2, z3, z4⟩ := fiveF G5.out.b3; obtain ⟨t0, t1, t2, t3, t4⟩ := fiveE H5.out.b3; obtain ⟨r0, r1, r2, r3, r4⟩ := fiveE H5.out.b2; obtain ⟨s0, s1, s2, s3, s4⟩ := fiveF H5.out.b2; clear hN hg)
          | (go_at_call 55; have hN := fail_calls 30 H5.out.wt.st; simp only [Q6.out] at hN; (with_reducible refine hN.mono ?_); rintro x w6 ⟨rfl, hg⟩; clear t0 t1 t2 t3 t4 r0 r1 r2 r3 r4 s0 s1 s2 s3 s4; have H6 := Aside0.mk (H5.out.go hg); obtain ⟨t0, t1, t2, t3, t4⟩ := fiveE H6.out.b3; obtain ⟨r0, r1, r2, r3, r4⟩ := fiveE H6.out.b2; obtain ⟨s0, s1, s2, s3, s4⟩ := fiveF H6.out.b2; clear hN hg)
          | (go_at_call 36; have hN := err_calls H6.out.wt.st; (with_reducible refine hN.mono ?_); rintro x w7 ⟨rfl, hg⟩; subst hg; clear hN))
        have hf := H6.out.fin ⟨#[]⟩ 0 0 ⟨#[]⟩ false
        refine bodyPost_ret (results_cell_row rfl _ _ g2 25 (entC ⟨#[]⟩ 0 0 ⟨#[]⟩ false) (0, 0) _ rfl hf.2 Try.underlying25 rfl (by kernel_rfl)) rfl ?_
        exact ⟨rfl, hf.1⟩
    · rw [if_neg hz] at q6
      have c1 : (cn == 0) = false := by simp [hz]
      have c2 : (cn = 0) = False := eq_false hz
      subst q6
      clear hz
      by_cases h6 : e5 = 0
      · subst h6
        rw [if_pos rfl]
        go_enter Try.func34, Try.ntmps34
        go_wp2_with (first
          | ((with_reducible refine gate_dst (N := 2) rfl ?_); refine box_event ?hg (N := 2) ?hd (cs := #[.string ⟨#[]⟩, .int .i64 0, .int .i64 0, .string ⟨#[]⟩, .bool false]) (t := 25) ?hr ?_; (case hd => rfl); (case hg => rfl); (case hr => first | (go_simp; done) | (go_simp; rfl)); intro g2 eg2 wa ha2 hba; have HA2 := Aside0.mk ha2; have HBA := Aside0.mk hba; have EG2 := Aside0.mk eg2; clear ha2 hba eg2)
          | ((with_reducible refine gate_dst (N := 3) rfl ?_); refine box_event ?hg (N := 3) ?hd (cs := #[.string ⟨#[]⟩, .int .i64 0, .int .i64 0, .string ⟨#[]⟩, .bool false]) (t := 25) ?hr ?_; (case hd => rfl); (case hg => rfl); (case hr => first | (go_simp; done) | (go_simp; rfl)); intro g3 eg3 wb ha3 hbb; have H0 : Aside0 (Ent n₀ 77 B w A c l g2 g3 wb p e ⟨#[]⟩ 0 0 ⟨#[]⟩ false) := ⟨⟨⟨HR.out.below (HBA.out.trans (hbb.mono HBA.out.size)), ⟨Nat.le_trans HBA.out.size hbb.size, fun i hi _ _ => ((HBA.out.trans (hbb.mono HBA.out.size)).block i hi)⟩, (HBA.out.trans (hbb.mono HBA.out.size)).mono HR.out.n0⟩, blk_below HA2.out hbb, ha3, Nat.le_of_eq EG2.out.symm, by rw [eg3]; exact HBA.out.size, by rw [eg3, EG2.out]; exact fun e' => absurd (blk_lt HA2.out) (by rw [EG2.out, e']; exact Nat.lt_irrefl _), HR.out.n0, by decide⟩⟩; clear ha3 hbb eg3)
          | (go_at_call 52; have hN := text_calls 16 (by decide) (by decide) H0.out.wt.st; simp only [Q1.out] at hN; (with_reducible refine hN.mono ?_); rintro x w1 ⟨rfl, hg⟩; have G1 := Aside0.mk (H0.out.go hg); have H1 := Aside0.mk (G1.out.s0 k); obtain ⟨y0, y1, y2, y3, y4⟩ := fiveE G1.out.b3; obtain ⟨z0, z1, z2, z3, z4⟩ := fiveF G1.out.b3; clear hN hg)
          | (go_at_call 53; have hN := num_calls 1099511627776 (by decide) (by decide) H1.out.wt.st; simp only [Q2.out] at hN; (with_reducible refine hN.mono ?_); rintro x w2 ⟨rfl, hg⟩; clear y0 y1 y2 y3 y4 z0 z1 z2 z3 z4; have H2 := Aside0.mk (H1.out.go hg); clear hN hg)
          | (go_at_call 53; have hN := num_calls 7 (by decide) (by decide) H2.out.wt.st; simp only [Q3.out] at hN; (with_reducible refine hN.mono ?_); rintro x w3 ⟨rfl, hg⟩; have G3 := Aside0.mk (H2.out.go hg); have H3 := Aside0.mk ((G3.out.s1 cn).s2 nd); obtain ⟨y0, y1, y2, y3, y4⟩ := fiveE G3.out.b3; obtain ⟨z0, z1, z2, z3, z4⟩ := fiveF G3.out.b3; clear hN hg)
          | (go_at_call 54; have hN := flag_calls H3.out.wt.st; simp only [Q4.out] at hN; (with_reducible refine hN.mono ?_); rintro x w4 ⟨rfl, hg⟩; clear y0 y1 y2 y3 y4 z0 z1 z2 z3 z4; have G4 := Aside0.mk (H3.out.go hg); have H4 := Aside0.mk (G4.out.s4 false); obtain ⟨y0, y1, y2, y3, y4⟩ := fiveE G4.out.b3; obtain ⟨z0, z1, z2, z3, z4⟩ := fiveF G4.out.b3; obtain ⟨t0, t1, t2, t3, t4⟩ := fiveE H4.out.b3; obtain ⟨r0, r1, r2, r3, r4⟩ := fiveE H4.out.b2; obtain ⟨s0, s1, s2, s3, s4⟩ := fiveF H4.out.b2; clear hN hg)
          | (go_at_call 52; have hN := text_calls 32 (by decide) (by decide) H4.out.wt.st; simp only [Q5.out] at hN; (with_reducible refine hN.mono ?_); rintro x w5 ⟨rfl, hg⟩; clear y0 y1 y2 y3 y4 z0 z1 z2 z3 z4; clear t0 t1 t2 t3 t4 r0 r1 r2 r3 r4 s0 s1 s2 s3 s4; have G5 := Aside0.mk (H4.out.go hg); have H5 := Aside0.mk (G5.out.s3 v); obtain ⟨y0, y1, y2, y3, y4⟩ := fiveE G5.out.b3; obtain ⟨z0, z1, z2, z3, z4⟩ := fiveF G5.out.b3; obtain ⟨t0, t1, t2, t3, t4⟩ := fiveE H5.out.b3; obtain ⟨r0, r1, r2, r3, r4⟩ := fiveE H5.out.b2; obtain ⟨s0, s1, s2, s3, s4⟩ := fiveF H5.out.b2; clear hN hg)
          | (go_at_call 36; have hN := err_calls H5.out.wt.st; (with_reducible refine hN.mono ?_); rintro x w7 ⟨rfl, hg⟩; subst hg; clear hN))
        have hf := H5.out.fin k cn nd v false
        refine bodyPost_ret (results_cell_row rfl _ _ g2 25 (entC k cn nd v false) (0, 0) _ rfl hf.2 Try.underlying25 rfl (by kernel_rfl)) rfl ?_
        exact ⟨rfl, hf.1⟩
      · rw [if_neg h6]
        have d1 : (e5 == 0) = false := by simp [h6]
        have d2 : (e5 = 0) = False := eq_false h6
        clear h6
        go_enter Try.func34, Try.ntmps34
        go_wp2_with (first
          | ((with_reducible refine gate_dst (N := 2) rfl ?_); refine box_event ?hg (N := 2) ?hd (cs := #[.string ⟨#[]⟩, .int .i64 0, .int .i64 0, .string ⟨#[]⟩, .bool false]) (t := 25) ?hr ?_; (case hd => rfl); (case hg => rfl); (case hr => first | (go_simp; done) | (go_simp; rfl)); intro g2 eg2 wa ha2 hba; have HA2 := Aside0.mk ha2; have HBA := Aside0.mk hba; have EG2 := Aside0.mk eg2; clear ha2 hba eg2)
          | ((with_reducible refine gate_dst (N := 3) rfl ?_); refine box_event ?hg (N := 3) ?hd (cs := #[.string ⟨#[]⟩, .int .i64 0, .int .i64 0, .string ⟨#[]⟩, .bool false]) (t := 25) ?hr ?_; (case hd => rfl); (case hg => rfl); (case hr => first | (go_simp; done) | (go_simp; rfl)); intro g3 eg3 wb ha3 hbb; have H0 : Aside0 (Ent n₀ 77 B w A c l g2 g3 wb p e ⟨#[]⟩ 0 0 ⟨#[]⟩ false) := ⟨⟨⟨HR.out.below (HBA.out.trans (hbb.mono HBA.out.size)), ⟨Nat.le_trans HBA.out.size hbb.size, fun i hi _ _ => ((HBA.out.trans (hbb.mono HBA.out.size)).block i hi)⟩, (HBA.out.trans (hbb.mono HBA.out.size)).mono HR.out.n0⟩, blk_below HA2.out hbb, ha3, Nat.le_of_eq EG2.out.symm, by rw [eg3]; exact HBA.out.size, by rw [eg3, EG2.out]; exact fun e' => absurd (blk_lt HA2.out) (by rw [EG2.out, e']; exact Nat.lt_irrefl _), HR.out.n0, by decide⟩⟩; clear ha3 hbb eg3)
          | (go_at_call 52; have hN := text_calls 16 (by decide) (by decide) H0.out.wt.st; simp only [Q1.out] at hN; (with_reducible refine hN.mono ?_); rintro x w1 ⟨rfl, hg⟩; have G1 := Aside0.mk (H0.out.go hg); have H1 := Aside0.mk (G1.out.s0 k); obtain ⟨y0, y1, y2, y3, y4⟩ := fiveE G1.out.b3; obtain ⟨z0, z1, z2, z3, z4⟩ := fiveF G1.out.b3; clear hN hg)
          | (go_at_call 53; have hN := num_calls 1099511627776 (by decide) (by decide) H1.out.wt.st; simp only [Q2.out] at hN; (with_reducible refine hN.mono ?_); rintro x w2 ⟨rfl, hg⟩; clear y0 y1 y2 y3 y4 z0 z1 z2 z3 z4; have H2 := Aside0.mk (H1.out.go hg); clear hN hg)
          | (go_at_call 53; have hN := num_calls 7 (by decide) (by decide) H2.out.wt.st; simp only [Q3.out] at hN; (with_reducible refine hN.mono ?_); rintro x w3 ⟨rfl, hg⟩; have G3 := Aside0.mk (H2.out.go hg); have H3 := Aside0.mk ((G3.out.s1 cn).s2 nd); obtain ⟨y0, y1, y2, y3, y4⟩ := fiveE G3.out.b3; obtain ⟨z0, z1, z2, z3, z4⟩ := fiveF G3.out.b3; clear hN hg)
          | (go_at_call 54; have hN := flag_calls H3.out.wt.st; simp only [Q4.out] at hN; (with_reducible refine hN.mono ?_); rintro x w4 ⟨rfl, hg⟩; clear y0 y1 y2 y3 y4 z0 z1 z2 z3 z4; have G4 := Aside0.mk (H3.out.go hg); have H4 := Aside0.mk (G4.out.s4 false); obtain ⟨y0, y1, y2, y3, y4⟩ := fiveE G4.out.b3; obtain ⟨z0, z1, z2, z3, z4⟩ := fiveF G4.out.b3; obtain ⟨t0, t1, t2, t3, t4⟩ := fiveE H4.out.b3; obtain ⟨r0, r1, r2, r3, r4⟩ := fiveE H4.out.b2; obtain ⟨s0, s1, s2, s3, s4⟩ := fiveF H4.out.b2; clear hN hg)
          | (go_at_call 52; have hN := text_calls 32 (by decide) (by decide) H4.out.wt.st; simp only [Q5.out] at hN; (with_reducible refine hN.mono ?_); rintro x w5 ⟨rfl, hg⟩; clear y0 y1 y2 y3 y4 z0 z1 z2 z3 z4; clear t0 t1 t2 t3 t4 r0 r1 r2 r3 r4 s0 s1 s2 s3 s4; have G5 := Aside0.mk (H4.out.go hg); have H5 := Aside0.mk (G5.out.s3 v); obtain ⟨y0, y1, y2, y3, y4⟩ := fiveE G5.out.b3; obtain ⟨z0, z1, z2, z3, z4⟩ := fiveF G5.out.b3; obtain ⟨t0, t1, t2, t3, t4⟩ := fiveE H5.out.b3; obtain ⟨r0, r1, r2, r3, r4⟩ := fiveE H5.out.b2; obtain ⟨s0, s1, s2, s3, s4⟩ := fiveF H5.out.b2; clear hN hg)
          | (go_at_call 36; have hN := err_calls H5.out.wt.st; (with_reducible refine hN.mono ?_); rintro x w7 ⟨rfl, hg⟩; subst hg; clear hN))
        have hf := H5.out.fin ⟨#[]⟩ 0 0 ⟨#[]⟩ false
        refine bodyPost_ret (results_cell_row rfl _ _ g2 25 (entC ⟨#[]⟩ 0 0 ⟨#[]⟩ false) (0, 0) _ rfl hf.2 Try.underlying25 rfl (by kernel_rfl)) rfl ?_
        exact ⟨rfl, hf.1⟩
set_option maxRecDepth 100000 in
set_option maxHeartbeats 8000000 in
theorem rget_calls {n₀ B : Nat} {w : World} {A : Option Addr} {c : Nat} {l : List Int} {p : Nat} {e : Int} (h : Rdr n₀ 79 w B A c l p e) :
    Calls Try.prog 35 #[.pointer (some ⟨B, 0, none⟩)] w fun x w' => x = .returned (.agg (entC (getR l p e).k (getR l p e).cn (getR l p e).nd (getR l p e).v (getR l p e).d)) ∧ Went n₀ 79 B w w' A c l (getR l p e).p (getR l p e).e := by
  have HR := Aside0.mk h
  clear h
  obtain ⟨⟨k, p1, e1⟩, q1⟩ : ∃ q, rText 16 l p e = q := ⟨_, rfl⟩
  obtain ⟨⟨cn, p2, e2⟩, q2⟩ : ∃ q, rNum 1099511627776 l p1 e1 = q := ⟨_, rfl⟩
  obtain ⟨⟨nd, p3, e3⟩, q3⟩ : ∃ q, rNum 7 l p2 e2 = q := ⟨_, rfl⟩
  obtain ⟨⟨d, p4, e4⟩, q4⟩ : ∃ q, rFlag l p3 e3 = q := ⟨_, rfl⟩
  obtain ⟨⟨v, p5, e5⟩, q5⟩ : ∃ q, (if d = true then ((⟨#[]⟩ : ByteArray), p4, e4) else rText 32 l p4 e4) = q := ⟨_, rfl⟩
  obtain ⟨e6, q6⟩ : ∃ q, (if cn = 0 then rFail e5 30 else e5) = q := ⟨_, rfl⟩
  rw [getR_eq q1 q2 q3 q4 q5 q6]
  have Q1 := Aside0.mk q1
  have Q2 := Aside0.mk q2
  have Q3 := Aside0.mk q3
  have Q4 := Aside0.mk q4
  clear q1 q2 q3 q4
  cases d with
  | true =>
    rw [if_pos rfl] at q5
    simp only [Prod.mk.injEq] at q5
    obtain ⟨rfl, rfl, rfl⟩ := q5
    by_cases hz : cn = 0
    · subst hz
      rw [if_pos rfl] at q6
      have Q6 := Aside0.mk q6
      clear q6
      by_cases h6 : e6 = 0
      · subst h6
        rw [if_pos rfl]
        go_enter Try.func35, Try.ntmps35
        go_wp2_with (first
          | ((with_reducible refine gate_dst (N := 2) rfl ?_); refine box_event ?hg (N := 2) ?hd (cs := #[.string ⟨#[]⟩, .int .i64 0, .int .i64 0, .string ⟨#[]⟩, .bool false]) (t := 25) ?hr ?_; (case hd => rfl); (case hg => rfl); (case hr => first | (go_simp; done) | (go_simp; rfl)); intro g2 eg2 wa ha2 hba; have HA2 := Aside0.mk ha2; have HBA := Aside0.mk hba; have EG2 := Aside0.mk eg2; clear ha2 hba eg2)
          | ((with_reducible refine gate_dst (N := 3) rfl ?_); refine box_event ?hg (N := 3) ?hd (cs := #[.string ⟨#[]⟩, .int .i64 0, .int .i64 0, .string ⟨#[]⟩, .bool false]) (t := 25) ?hr ?_; (case hd => rfl); (case hg => rfl); (case hr => first | (go_simp; done) | (go_simp; rfl)); intro g3 eg3 wb ha3 hbb; have Hz : Aside0 (Ent n₀ 79 B w A c l g2 g3 wb p e ⟨#[]⟩ 0 0 ⟨#[]⟩ false) := ⟨⟨⟨HR.out.below (HBA.out.trans (hbb.mono HBA.out.size)), ⟨Nat.le_trans HBA.out.size hbb.size, fun i hi _ _ => ((HBA.out.trans (hbb.mono HBA.out.size)).block i hi)⟩, (HBA.out.trans (hbb.mono HBA.out.size)).mono HR.out.n0⟩, blk_below HA2.out hbb, ha3, Nat.le_of_eq EG2.out.symm, by rw [eg3]; exact HBA.out.size, by rw [eg3, EG2.out]; exact fun e' => absurd (blk_lt HA2.out) (by rw [EG2.out, e']; exact Nat.lt_irrefl _), HR.out.n0, by decide⟩⟩; have H0 := Aside0.mk (((((Hz.out.s0 ⟨#[]⟩).s1 0).s2 0).s3 ⟨#[]⟩).s4 false); obtain ⟨y0, y1, y2, y3, y4⟩ := fiveE Hz.out.b3; obtain ⟨z0, z1, z2, z3, z4⟩ := fiveF Hz.out.b3; clear ha3 hbb eg3)
          | (go_at_call 56; have hN := rtext_calls 16 (by decide) (by decide) H0.out.wt.st; simp only [Q1.out] at hN; (with_reducible refine hN.mono ?_); rintro x w1 ⟨rfl, hg⟩; clear y0 y1 y2 y3 y4 z0 z1 z2 z3 z4; have G1 := Aside0.mk (H0.out.go hg); have H1 := Aside0.mk (G1.out.s0 k); obtain ⟨y0, y1, y2, y3, y4⟩ := fiveE G1.out.b3; obtain ⟨z0, z1, z2, z3, z4⟩ := fiveF G1.out.b3; clear hN hg)
          | (go_at_call 57; have hN := rnum_calls 1099511627776 (by decide) (by decide) H1.out.wt.st; simp only [Q2.out] at hN; (with_reducible refine hN.mono ?_); rintro x w2 ⟨rfl, hg⟩; clear y0 y1 y2 y3 y4 z0 z1 z2 z3 z4; have G2 := Aside0.mk (H1.out.go hg); have H2 := Aside0.mk (G2.out.s1 0); obtain ⟨y0, y1, y2, y3, y4⟩ := fiveE G2.out.b3; obtain ⟨z0, z1, z2, z3, z4⟩ := fiveF G2.out.b3; clear hN hg)
          | (go_at_call 57; have hN := rnum_calls 7 (by decide) (by decide) H2.out.wt.st; simp only [Q3.out] at hN; (with_reducible refine hN.mono ?_); rintro x w3 ⟨rfl, hg⟩; clear y0 y1 y2 y3 y4 z0 z1 z2 z3 z4; have G3 := Aside0.mk (H2.out.go hg); have H3 := Aside0.mk (G3.out.s2 nd); obtain ⟨y0, y1, y2, y3, y4⟩ := fiveE G3.out.b3; obtain ⟨z0, z1, z2, z3, z4⟩ := fiveF G3.out.b3; clear hN hg)
          | (go_at_call 58; have hN := rflag_calls H3.out.wt.st; simp only [Q4.out] at hN; (with_reducible refine hN.mono ?_); rintro x w4 ⟨rfl, hg⟩; clear y0 y1 y2 y3 y4 z0 z1 z2 z3 z4; have G4 := Aside0.mk (H3.out.go hg); have H4 := Aside0.mk (G4.out.s4 true); obtain ⟨y0, y1, y2, y3, y4⟩ := fiveE G4.out.b3; obtain ⟨z0, z1, z2, z3, z4⟩ := fiveF G4.out.b3; obtain ⟨t0, t1, t2, t3, t4⟩ := fiveE H4.out.b3; obtain ⟨r0, r1, r2, r3, r4⟩ := fiveE H4.out.b2; obtain ⟨s0, s1, s2, s3, s4⟩ := fiveF H4.out.b2; clear hN hg)
          | (go_at_call 59; have hN := rfail_calls 30 H4.out.wt.st; simp only [Q6.out] at hN; (with_reducible refine hN.mono ?_); rintro x w6 ⟨rfl, hg⟩; clear t0 t1 t2 t3 t4 r0 r1 r2 r3 r4 s0 s1 s2 s3 s4; have H6 := Aside0.mk (H4.out.go hg); obtain ⟨t0, t1, t2, t3, t4⟩ := fiveE H6.out.b3; obtain ⟨r0, r1, r2, r3, r4⟩ := fiveE H6.out.b2; obtain ⟨s0, s1, s2, s3, s4⟩ := fiveF H6.out.b2; clear hN hg)
          | (go_at_call 37; have hN := rerr_calls H6.out.wt.st; (with_reducible refine hN.mono ?_); rintro x w7 ⟨rfl, hg⟩; subst hg; clear hN))
        have hf := H6.out.fin k 0 nd ⟨#[]⟩ true
        refine bodyPost_ret (results_cell_row rfl _ _ g2 25 (entC k 0 nd ⟨#[]⟩ true) (0, 0) _ rfl hf.2 Try.underlying25 rfl (by kernel_rfl)) rfl ?_
        exact ⟨rfl, hf.1⟩
      · rw [if_neg h6]
        have d1 : (e6 == 0) = false := by simp [h6]
        have d2 : (e6 = 0) = False := eq_false h6
        clear h6
        go_enter Try.func35, Try.ntmps35
        go_wp2_with (first
          | ((with_reducible refine gate_dst (N := 2) rfl ?_); refine box_event ?hg (N := 2) ?hd (cs := #[.string ⟨#[]⟩, .int .i64 0, .int .i64 0, .string ⟨#[]⟩, .bool false]) (t := 25) ?hr ?_; (case hd => rfl); (case hg => rfl); (case hr => first | (go_simp; done) | (go_simp; rfl)); intro g2 eg2 wa ha2 hba; have HA2 := Aside0.mk ha2; have HBA := Aside0.mk hba; have EG2 := Aside0.mk eg2; clear ha2 hba eg2)
          | ((with_reducible refine gate_dst (N := 3) rfl ?_); refine box_event ?hg (N := 3) ?hd (cs := #[.string ⟨#[]⟩, .int .i64 0, .int .i64 0, .string ⟨#[]⟩, .bool false]) (t := 25) ?hr ?_; (case hd => rfl); (case hg => rfl); (case hr => first | (go_simp; done) | (go_simp; rfl)); intro g3 eg3 wb ha3 hbb; have Hz : Aside0 (Ent n₀ 79 B w A c l g2 g3 wb p e ⟨#[]⟩ 0 0 ⟨#[]⟩ false) := ⟨⟨⟨HR.out.below (HBA.out.trans (hbb.mono HBA.out.size)), ⟨Nat.le_trans HBA.out.size hbb.size, fun i hi _ _ => ((HBA.out.trans (hbb.mono HBA.out.size)).block i hi)⟩, (HBA.out.trans (hbb.mono HBA.out.size)).mono HR.out.n0⟩, blk_below HA2.out hbb, ha3, Nat.le_of_eq EG2.out.symm, by rw [eg3]; exact HBA.out.size, by rw [eg3, EG2.out]; exact fun e' => absurd (blk_lt HA2.out) (by rw [EG2.out, e']; exact Nat.lt_irrefl _), HR.out.n0, by decide⟩⟩; have H0 := Aside0.mk (((((Hz.out.s0 ⟨#[]⟩).s1 0).s2 0).s3 ⟨#[]⟩).s4 false); obtain ⟨y0, y1, y2, y3, y4⟩ := fiveE Hz.out.b3; obtain ⟨z0, z1, z2, z3, z4⟩ := fiveF Hz.out.b3; clear ha3 hbb eg3)
          | (go_at_call 56; have hN := rtext_calls 16 (by decide) (by decide) H0.out.wt.st; simp only [Q1.out] at hN; (with_reducible refine hN.mono ?_); rintro x w1 ⟨rfl, hg⟩; clear y0 y1 y2 y3 y4 z0 z1 z2 z3 z4; have G1 := Aside0.mk (H0.out.go hg); have H1 := Aside0.mk (G1.out.s0 k); obtain ⟨y0, y1, y2, y3, y4⟩ := fiveE G1.out.b3; obtain ⟨z0, z1, z2, z3, z4⟩ := fiveF G1.out.b3; clear hN hg)
          | (go_at_call 57; have hN := rnum_calls 1099511627776 (by decide) (by decide) H1.out.wt.st; simp only [Q2.out] at hN; (with_reducible refine hN.mono ?_); rintro x w2 ⟨rfl, hg⟩; clear y0 y1 y2 y3 y4 z0 z1 z2 z3 z4; have G2 := Aside0.mk (H1.out.go hg); have H2 := Aside0.mk (G2.out.s1 0); obtain ⟨y0, y1, y2, y3, y4⟩ := fiveE G2.out.b3; obtain ⟨z0, z1, z2, z3, z4⟩ := fiveF G2.out.b3; clear hN hg)
          | (go_at_call 57; have hN := rnum_calls 7 (by decide) (by decide) H2.out.wt.st; simp only [Q3.out] at hN; (with_reducible refine hN.mono ?_); rintro x w3 ⟨rfl, hg⟩; clear y0 y1 y2 y3 y4 z0 z1 z2 z3 z4; have G3 := Aside0.mk (H2.out.go hg); have H3 := Aside0.mk (G3.out.s2 nd); obtain ⟨y0, y1, y2, y3, y4⟩ := fiveE G3.out.b3; obtain ⟨z0, z1, z2, z3, z4⟩ := fiveF G3.out.b3; clear hN hg)
          | (go_at_call 58; have hN := rflag_calls H3.out.wt.st; simp only [Q4.out] at hN; (with_reducible refine hN.mono ?_); rintro x w4 ⟨rfl, hg⟩; clear y0 y1 y2 y3 y4 z0 z1 z2 z3 z4; have G4 := Aside0.mk (H3.out.go hg); have H4 := Aside0.mk (G4.out.s4 true); obtain ⟨y0, y1, y2, y3, y4⟩ := fiveE G4.out.b3; obtain ⟨z0, z1, z2, z3, z4⟩ := fiveF G4.out.b3; obtain ⟨t0, t1, t2, t3, t4⟩ := fiveE H4.out.b3; obtain ⟨r0, r1, r2, r3, r4⟩ := fiveE H4.out.b2; obtain ⟨s0, s1, s2, s3, s4⟩ := fiveF H4.out.b2; clear hN hg)
          | (go_at_call 59; have hN := rfail_calls 30 H4.out.wt.st; simp only [Q6.out] at hN; (with_reducible refine hN.mono ?_); rintro x w6 ⟨rfl, hg⟩; clear t0 t1 t2 t3 t4 r0 r1 r2 r3 r4 s0 s1 s2 s3 s4; have H6 := Aside0.mk (H4.out.go hg); obtain ⟨t0, t1, t2, t3, t4⟩ := fiveE H6.out.b3; obtain ⟨r0, r1, r2, r3, r4⟩ := fiveE H6.out.b2; obtain ⟨s0, s1, s2, s3, s4⟩ := fiveF H6.out.b2; clear hN hg)
          | (go_at_call 37; have hN := rerr_calls H6.out.wt.st; (with_reducible refine hN.mono ?_); rintro x w7 ⟨rfl, hg⟩; subst hg; clear hN))
        have hf := H6.out.fin ⟨#[]⟩ 0 0 ⟨#[]⟩ false
        refine bodyPost_ret (results_cell_row rfl _ _ g2 25 (entC ⟨#[]⟩ 0 0 ⟨#[]⟩ false) (0, 0) _ rfl hf.2 Try.underlying25 rfl (by kernel_rfl)) rfl ?_
        exact ⟨rfl, hf.1⟩
    · rw [if_neg hz] at q6
      have c1 : (cn == 0) = false := by simp [hz]
      have c2 : (cn = 0) = False := eq_false hz
      subst q6
      clear hz
      by_cases h6 : e4 = 0
      · subst h6
        rw [if_pos rfl]
        go_enter Try.func35, Try.ntmps35
        go_wp2_with (first
          | ((with_reducible refine gate_dst (N := 2) rfl ?_); refine box_event ?hg (N := 2) ?hd (cs := #[.string ⟨#[]⟩, .int .i64 0, .int .i64 0, .string ⟨#[]⟩, .bool false]) (t := 25) ?hr ?_; (case hd => rfl); (case hg => rfl); (case hr => first | (go_simp; done) | (go_simp; rfl)); intro g2 eg2 wa ha2 hba; have HA2 := Aside0.mk ha2; have HBA := Aside0.mk hba; have EG2 := Aside0.mk eg2; clear ha2 hba eg2)
          | ((with_reducible refine gate_dst (N := 3) rfl ?_); refine box_event ?hg (N := 3) ?hd (cs := #[.string ⟨#[]⟩, .int .i64 0, .int .i64 0, .string ⟨#[]⟩, .bool false]) (t := 25) ?hr ?_; (case hd => rfl); (case hg => rfl); (case hr => first | (go_simp; done) | (go_simp; rfl)); intro g3 eg3 wb ha3 hbb; have Hz : Aside0 (Ent n₀ 79 B w A c l g2 g3 wb p e ⟨#[]⟩ 0 0 ⟨#[]⟩ false) := ⟨⟨⟨HR.out.below (HBA.out.trans (hbb.mono HBA.out.size)), ⟨Nat.le_trans HBA.out.size hbb.size, fun i hi _ _ => ((HBA.out.trans (hbb.mono HBA.out.size)).block i hi)⟩, (HBA.out.trans (hbb.mono HBA.out.size)).mono HR.out.n0⟩, blk_below HA2.out hbb, ha3, Nat.le_of_eq EG2.out.symm, by rw [eg3]; exact HBA.out.size, by rw [eg3, EG2.out]; exact fun e' => absurd (blk_lt HA2.out) (by rw [EG2.out, e']; exact Nat.lt_irrefl _), HR.out.n0, by decide⟩⟩; have H0 := Aside0.mk (((((Hz.out.s0 ⟨#[]⟩).s1 0).s2 0).s3 ⟨#[]⟩).s4 false); obtain ⟨y0, y1, y2, y3, y4⟩ := fiveE Hz.out.b3; obtain ⟨z0, z1, z2, z3, z4⟩ := fiveF Hz.out.b3; clear ha3 hbb eg3)
          | (go_at_call 56; have hN := rtext_calls 16 (by decide) (by decide) H0.out.wt.st; simp only [Q1.out] at hN; (with_reducible refine hN.mono ?_); rintro x w1 ⟨rfl, hg⟩; clear y0 y1 y2 y3 y4 z0 z1 z2 z3 z4; have G1 := Aside0.mk (H0.out.go hg); have H1 := Aside0.mk (G1.out.s0 k); obtain ⟨y0, y1, y2, y3, y4⟩ := fiveE G1.out.b3; obtain ⟨z0, z1, z2, z3, z4⟩ := fiveF G1.out.b3; clear hN hg)
          | (go_at_call 57; have hN := rnum_calls 1099511627776 (by decide) (by decide) H1.out.wt.st; simp only [Q2.out] at hN; (with_reducible refine hN.mono ?_); rintro x w2 ⟨rfl, hg⟩; clear y0 y1 y2 y3 y4 z0 z1 z2 z3 z4; have G2 := Aside0.mk (H1.out.go hg); have H2 := Aside0.mk (G2.out.s1 cn); obtain ⟨y0, y1, y2, y3, y4⟩ := fiveE G2.out.b3; obtain ⟨z0, z1, z2, z3, z4⟩ := fiveF G2.out.b3; clear hN hg)
          | (go_at_call 57; have hN := rnum_calls 7 (by decide) (by decide) H2.out.wt.st; simp only [Q3.out] at hN; (with_reducible refine hN.mono ?_); rintro x w3 ⟨rfl, hg⟩; clear y0 y1 y2 y3 y4 z0 z1 z2 z3 z4; have G3 := Aside0.mk (H2.out.go hg); have H3 := Aside0.mk (G3.out.s2 nd); obtain ⟨y0, y1, y2, y3, y4⟩ := fiveE G3.out.b3; obtain ⟨z0, z1, z2, z3, z4⟩ := fiveF G3.out.b3; clear hN hg)
          | (go_at_call 58; have hN := rflag_calls H3.out.wt.st; simp only [Q4.out] at hN; (with_reducible refine hN.mono ?_); rintro x w4 ⟨rfl, hg⟩; clear y0 y1 y2 y3 y4 z0 z1 z2 z3 z4; have G4 := Aside0.mk (H3.out.go hg); have H4 := Aside0.mk (G4.out.s4 true); obtain ⟨y0, y1, y2, y3, y4⟩ := fiveE G4.out.b3; obtain ⟨z0, z1, z2, z3, z4⟩ := fiveF G4.out.b3; obtain ⟨t0, t1, t2, t3, t4⟩ := fiveE H4.out.b3; obtain ⟨r0, r1, r2, r3, r4⟩ := fiveE H4.out.b2; obtain ⟨s0, s1, s2, s3, s4⟩ := fiveF H4.out.b2; clear hN hg)
          | (go_at_call 37; have hN := rerr_calls H4.out.wt.st; (with_reducible refine hN.mono ?_); rintro x w7 ⟨rfl, hg⟩; subst hg; clear hN))
        have hf := H4.out.fin k cn nd ⟨#[]⟩ true
        refine bodyPost_ret (results_cell_row rfl _ _ g2 25 (entC k cn nd ⟨#[]⟩ true) (0, 0) _ rfl hf.2 Try.underlying25 rfl (by kernel_rfl)) rfl ?_
        exact ⟨rfl, hf.1⟩
      · rw [if_neg h6]
        have d1 : (e4 == 0) = false := by simp [h6]
        have d2 : (e4 = 0) = False := eq_false h6
        clear h6
        go_enter Try.func35, Try.ntmps35
        go_wp2_with (first
          | ((with_reducible refine gate_dst (N := 2) rfl ?_); refine box_event ?hg (N := 2) ?hd (cs := #[.string ⟨#[]⟩, .int .i64 0, .int .i64 0, .string ⟨#[]⟩, .bool false]) (t := 25) ?hr ?_; (case hd => rfl); (case hg => rfl); (case hr => first | (go_simp; done) | (go_simp; rfl)); intro g2 eg2 wa ha2 hba; have HA2 := Aside0.mk ha2; have HBA := Aside0.mk hba; have EG2 := Aside0.mk eg2; clear ha2 hba eg2)
          | ((with_reducible refine gate_dst (N := 3) rfl ?_); refine box_event ?hg (N := 3) ?hd (cs := #[.string ⟨#[]⟩, .int .i64 0, .int .i64 0, .string ⟨#[]⟩, .bool false]) (t := 25) ?hr ?_; (case hd => rfl); (case hg => rfl); (case hr => first | (go_simp; done) | (go_simp; rfl)); intro g3 eg3 wb ha3 hbb; have Hz : Aside0 (Ent n₀ 79 B w A c l g2 g3 wb p e ⟨#[]⟩ 0 0 ⟨#[]⟩ false) := ⟨⟨⟨HR.out.below (HBA.out.trans (hbb.mono HBA.out.size)), ⟨Nat.le_trans HBA.out.size hbb.size, fun i hi _ _ => ((HBA.out.trans (hbb.mono HBA.out.size)).block i hi)⟩, (HBA.out.trans (hbb.mono HBA.out.size)).mono HR.out.n0⟩, blk_below HA2.out hbb, ha3, Nat.le_of_eq EG2.out.symm, by rw [eg3]; exact HBA.out.size, by rw [eg3, EG2.out]; exact fun e' => absurd (blk_lt HA2.out) (by rw [EG2.out, e']; exact Nat.lt_irrefl _), HR.out.n0, by decide⟩⟩; have H0 := Aside0.mk (((((Hz.out.s0 ⟨#[]⟩).s1 0).s2 0).s3 ⟨#[]⟩).s4 false); obtain ⟨y0, y1, y2, y3, y4⟩ := fiveE Hz.out.b3; obtain ⟨z0, z1, z2, z3, z4⟩ := fiveF Hz.out.b3; clear ha3 hbb eg3)
          | (go_at_call 56; have hN := rtext_calls 16 (by decide) (by decide) H0.out.wt.st; simp only [Q1.out] at hN; (with_reducible refine hN.mono ?_); rintro x w1 ⟨rfl, hg⟩; clear y0 y1 y2 y3 y4 z0 z1 z2 z3 z4; have G1 := Aside0.mk (H0.out.go hg); have H1 := Aside0.mk (G1.out.s0 k); obtain ⟨y0, y1, y2, y3, y4⟩ := fiveE G1.out.b3; obtain ⟨z0, z1, z2, z3, z4⟩ := fiveF G1.out.b3; clear hN hg)
          | (go_at_call 57; have hN := rnum_calls 1099511627776 (by decide) (by decide) H1.out.wt.st; simp only [Q2.out] at hN; (with_reducible refine hN.mono ?_); rintro x w2 ⟨rfl, hg⟩; clear y0 y1 y2 y3 y4 z0 z1 z2 z3 z4; have G2 := Aside0.mk (H1.out.go hg); have H2 := Aside0.mk (G2.out.s1 cn); obtain ⟨y0, y1, y2, y3, y4⟩ := fiveE G2.out.b3; obtain ⟨z0, z1, z2, z3, z4⟩ := fiveF G2.out.b3; clear hN hg)
          | (go_at_call 57; have hN := rnum_calls 7 (by decide) (by decide) H2.out.wt.st; simp only [Q3.out] at hN; (with_reducible refine hN.mono ?_); rintro x w3 ⟨rfl, hg⟩; clear y0 y1 y2 y3 y4 z0 z1 z2 z3 z4; have G3 := Aside0.mk (H2.out.go hg); have H3 := Aside0.mk (G3.out.s2 nd); obtain ⟨y0, y1, y2, y3, y4⟩ := fiveE G3.out.b3; obtain ⟨z0, z1, z2, z3, z4⟩ := fiveF G3.out.b3; clear hN hg)
          | (go_at_call 58; have hN := rflag_calls H3.out.wt.st; simp only [Q4.out] at hN; (with_reducible refine hN.mono ?_); rintro x w4 ⟨rfl, hg⟩; clear y0 y1 y2 y3 y4 z0 z1 z2 z3 z4; have G4 := Aside0.mk (H3.out.go hg); have H4 := Aside0.mk (G4.out.s4 true); obtain ⟨y0, y1, y2, y3, y4⟩ := fiveE G4.out.b3; obtain ⟨z0, z1, z2, z3, z4⟩ := fiveF G4.out.b3; obtain ⟨t0, t1, t2, t3, t4⟩ := fiveE H4.out.b3; obtain ⟨r0, r1, r2, r3, r4⟩ := fiveE H4.out.b2; obtain ⟨s0, s1, s2, s3, s4⟩ := fiveF H4.out.b2; clear hN hg)
          | (go_at_call 37; have hN := rerr_calls H4.out.wt.st; (with_reducible refine hN.mono ?_); rintro x w7 ⟨rfl, hg⟩; subst hg; clear hN))
        have hf := H4.out.fin ⟨#[]⟩ 0 0 ⟨#[]⟩ false
        refine bodyPost_ret (results_cell_row rfl _ _ g2 25 (entC ⟨#[]⟩ 0 0 ⟨#[]⟩ false) (0, 0) _ rfl hf.2 Try.underlying25 rfl (by kernel_rfl)) rfl ?_
        exact ⟨rfl, hf.1⟩
  | false =>
    rw [if_neg (by decide)] at q5
    have Q5 := Aside0.mk q5
    clear q5
    by_cases hz : cn = 0
    · subst hz
      rw [if_pos rfl] at q6
      have Q6 := Aside0.mk q6
      clear q6
      by_cases h6 : e6 = 0
      · subst h6
        rw [if_pos rfl]
        go_enter Try.func35, Try.ntmps35
        go_wp2_with (first
          | ((with_reducible refine gate_dst (N := 2) rfl ?_); refine box_event ?hg (N := 2) ?hd (cs := #[.string ⟨#[]⟩, .int .i64 0, .int .i64 0, .string ⟨#[]⟩, .bool false]) (t := 25) ?hr ?_; (case hd => rfl); (case hg => rfl); (case hr => first | (go_simp; done) | (go_simp; rfl)); intro g2 eg2 wa ha2 hba; have HA2 := Aside0.mk ha2; have HBA := Aside0.mk hba; have EG2 := Aside0.mk eg2; clear ha2 hba eg2)
          | ((with_reducible refine gate_dst (N := 3) rfl ?_); refine box_event ?hg (N := 3) ?hd (cs := #[.string ⟨#[]⟩, .int .i64 0, .int .i64 0, .string ⟨#[]⟩, .bool false]) (t := 25) ?hr ?_; (case hd => rfl); (case hg => rfl); (case hr => first | (go_simp; done) | (go_simp; rfl)); intro g3 eg3 wb ha3 hbb; have Hz : Aside0 (Ent n₀ 79 B w A c l g2 g3 wb p e ⟨#[]⟩ 0 0 ⟨#[]⟩ false) := ⟨⟨⟨HR.out.below (HBA.out.trans (hbb.mono HBA.out.size)), ⟨Nat.le_trans HBA.out.size hbb.size, fun i hi _ _ => ((HBA.out.trans (hbb.mono HBA.out.size)).block i hi)⟩, (HBA.out.trans (hbb.mono HBA.out.size)).mono HR.out.n0⟩, blk_below HA2.out hbb, ha3, Nat.le_of_eq EG2.out.symm, by rw [eg3]; exact HBA.out.size, by rw [eg3, EG2.out]; exact fun e' => absurd (blk_lt HA2.out) (by rw [EG2.out, e']; exact Nat.lt_irrefl _), HR.out.n0, by decide⟩⟩; have H0 := Aside0.mk (((((Hz.out.s0 ⟨#[]⟩).s1 0).s2 0).s3 ⟨#[]⟩).s4 false); obtain ⟨y0, y1, y2, y3, y4⟩ := fiveE Hz.out.b3; obtain ⟨z0, z1, z2, z3, z4⟩ := fiveF Hz.out.b3; clear ha3 hbb eg3)
          | (go_at_call 56; have hN := rtext_calls 16 (by decide) (by decide) H0.out.wt.st; simp only [Q1.out] at hN; (with_reducible refine hN.mono ?_); rintro x w1 ⟨rfl, hg⟩; clear y0 y1 y2 y3 y4 z0 z1 z2 z3 z4; have G1 := Aside0.mk (H0.out.go hg); have H1 := Aside0.mk (G1.out.s0 k); obtain ⟨y0, y1, y2, y3, y4⟩ := fiveE G1.out.b3; obtain ⟨z0, z1, z2, z3, z4⟩ := fiveF G1.out.b3; clear hN hg)
          | (go_at_call 57; have hN := rnum_calls 1099511627776 (by decide) (by decide) H1.out.wt.st; simp only [Q2.out] at hN; (with_reducible refine hN.mono ?_); rintro x w2 ⟨rfl, hg⟩; clear y0 y1 y2 y3 y4 z0 z1 z2 z3 z4; have G2 := Aside0.mk (H1.out.go hg); have H2 := Aside0.mk (G2.out.s1 0); obtain ⟨y0, y1, y2, y3, y4⟩ := fiveE G2.out.b3; obtain ⟨z0, z1, z2, z3, z4⟩ := fiveF G2.out.b3; clear hN hg)
          | (go_at_call 57; have hN := rnum_calls 7 (by decide) (by decide) H2.out.wt.st; simp only [Q3.out] at hN; (with_reducible refine hN.mono ?_); rintro x w3 ⟨rfl, hg⟩; clear y0 y1 y2 y3 y4 z0 z1 z2 z3 z4; have G3 := Aside0.mk (H2.out.go hg); have H3 := Aside0.mk (G3.out.s2 nd); obtain ⟨y0, y1, y2, y3, y4⟩ := fiveE G3.out.b3; obtain ⟨z0, z1, z2, z3, z4⟩ := fiveF G3.out.b3; clear hN hg)
          | (go_at_call 58; have hN := rflag_calls H3.out.wt.st; simp only [Q4.out] at hN; (with_reducible refine hN.mono ?_); rintro x w4 ⟨rfl, hg⟩; clear y0 y1 y2 y3 y4 z0 z1 z2 z3 z4; have G4 := Aside0.mk (H3.out.go hg); have H4 := Aside0.mk (G4.out.s4 false); obtain ⟨y0, y1, y2, y3, y4⟩ := fiveE G4.out.b3; obtain ⟨z0, z1, z2, z3, z4⟩ := fiveF G4.out.b3; obtain ⟨t0, t1, t2, t3, t4⟩ := fiveE H4.out.b3; obtain ⟨r0, r1, r2, r3, r4⟩ := fiveE H4.out.b2; obtain ⟨s0, s1, s2, s3, s4⟩ := fiveF H4.out.b2; clear hN hg)
          | (go_at_call 56; have hN := rtext_calls 32 (by decide) (by decide) H4.out.wt.st; simp only [Q5.out] at hN; (with_reducible refine hN.mono ?_); rintro x w5 ⟨rfl, hg⟩; clear y0 y1 y2 y3 y4 z0 z1 z2 z3 z4; clear t0 t1 t2 t3 t4 r0 r1 r2 r3 r4 s0 s1 s2 s3 s4; have G5 := Aside0.mk (H4.out.go hg); have H5 := Aside0.mk (G5.out.s3 v); obtain ⟨y0, y1, y2, y3, y4⟩ := fiveE G5.out.b3; obtain ⟨z0, z1, z2, z3, z4⟩ := fiveF G5.out.b3; obtain ⟨t0, t1, t2, t3, t4⟩ := fiveE H5.out.b3; obtain ⟨r0, r1, r2, r3, r4⟩ := fiveE H5.out.b2; obtain ⟨s0, s1, s2, s3, s4⟩ := fiveF H5.out.b2; clear hN hg)
          | (go_at_call 59; have hN := rfail_calls 30 H5.out.wt.st; simp only [Q6.out] at hN; (with_reducible refine hN.mono ?_); rintro x w6 ⟨rfl, hg⟩; clear t0 t1 t2 t3 t4 r0 r1 r2 r3 r4 s0 s1 s2 s3 s4; have H6 := Aside0.mk (H5.out.go hg); obtain ⟨t0, t1, t2, t3, t4⟩ := fiveE H6.out.b3; obtain ⟨r0, r1, r2, r3, r4⟩ := fiveE H6.out.b2; obtain ⟨s0, s1, s2, s3, s4⟩ := fiveF H6.out.b2; clear hN hg)
          | (go_at_call 37; have hN := rerr_calls H6.out.wt.st; (with_reducible refine hN.mono ?_); rintro x w7 ⟨rfl, hg⟩; subst hg; clear hN))
        have hf := H6.out.fin k 0 nd v false
        refine bodyPost_ret (results_cell_row rfl _ _ g2 25 (entC k 0 nd v false) (0, 0) _ rfl hf.2 Try.underlying25 rfl (by kernel_rfl)) rfl ?_
        exact ⟨rfl, hf.1⟩
      · rw [if_neg h6]
        have d1 : (e6 == 0) = false := by simp [h6]
        have d2 : (e6 = 0) = False := eq_false h6
        clear h6
        go_enter Try.func35, Try.ntmps35
        go_wp2_with (first
          | ((with_reducible refine gate_dst (N := 2) rfl ?_); refine box_event ?hg (N := 2) ?hd (cs := #[.string ⟨#[]⟩, .int .i64 0, .int .i64 0, .string ⟨#[]⟩, .bool false]) (t := 25) ?hr ?_; (case hd => rfl); (case hg => rfl); (case hr => first | (go_simp; done) | (go_simp; rfl)); intro g2 eg2 wa ha2 hba; have HA2 := Aside0.mk ha2; have HBA := Aside0.mk hba; have EG2 := Aside0.mk eg2; clear ha2 hba eg2)
          | ((with_reducible refine gate_dst (N := 3) rfl ?_); refine box_event ?hg (N := 3) ?hd (cs := #[.string ⟨#[]⟩, .int .i64 0, .int .i64 0, .string ⟨#[]⟩, .bool false]) (t := 25) ?hr ?_; (case hd => rfl); (case hg => rfl); (case hr => first | (go_simp; done) | (go_simp; rfl)); intro g3 eg3 wb ha3 hbb; have Hz : Aside0 (Ent n₀ 79 B w A c l g2 g3 wb p e ⟨#[]⟩ 0 0 ⟨#[]⟩ false) := ⟨⟨⟨HR.out.below (HBA.out.trans (hbb.mono HBA.out.size)), ⟨Nat.le_trans HBA.out.size hbb.size, fun i hi _ _ => ((HBA.out.trans (hbb.mono HBA.out.size)).block i hi)⟩, (HBA.out.trans (hbb.mono HBA.out.size)).mono HR.out.n0⟩, blk_below HA2.out hbb, ha3, Nat.le_of_eq EG2.out.symm, by rw [eg3]; exact HBA.out.size, by rw [eg3, EG2.out]; exact fun e' => absurd (blk_lt HA2.out) (by rw [EG2.out, e']; exact Nat.lt_irrefl _), HR.out.n0, by decide⟩⟩; have H0 := Aside0.mk (((((Hz.out.s0 ⟨#[]⟩).s1 0).s2 0).s3 ⟨#[]⟩).s4 false); obtain ⟨y0, y1, y2, y3, y4⟩ := fiveE Hz.out.b3; obtain ⟨z0, z1, z2, z3, z4⟩ := fiveF Hz.out.b3; clear ha3 hbb eg3)
          | (go_at_call 56; have hN := rtext_calls 16 (by decide) (by decide) H0.out.wt.st; simp only [Q1.out] at hN; (with_reducible refine hN.mono ?_); rintro x w1 ⟨rfl, hg⟩; clear y0 y1 y2 y3 y4 z0 z1 z2 z3 z4; have G1 := Aside0.mk (H0.out.go hg); have H1 := Aside0.mk (G1.out.s0 k); obtain ⟨y0, y1, y2, y3, y4⟩ := fiveE G1.out.b3; obtain ⟨z0, z1, z2, z3, z4⟩ := fiveF G1.out.b3; clear hN hg)
          | (go_at_call 57; have hN := rnum_calls 1099511627776 (by decide) (by decide) H1.out.wt.st; simp only [Q2.out] at hN; (with_reducible refine hN.mono ?_); rintro x w2 ⟨rfl, hg⟩; clear y0 y1 y2 y3 y4 z0 z1 z2 z3 z4; have G2 := Aside0.mk (H1.out.go hg); have H2 := Aside0.mk (G2.out.s1 0); obtain ⟨y0, y1, y2, y3, y4⟩ := fiveE G2.out.b3; obtain ⟨z0, z1, z2, z3, z4⟩ := fiveF G2.out.b3; clear hN hg)
          | (go_at_call 57; have hN := rnum_calls 7 (by decide) (by decide) H2.out.wt.st; simp only [Q3.out] at hN; (with_reducible refine hN.mono ?_); rintro x w3 ⟨rfl, hg⟩; clear y0 y1 y2 y3 y4 z0 z1 z2 z3 z4; have G3 := Aside0.mk (H2.out.go hg); have H3 := Aside0.mk (G3.out.s2 nd); obtain ⟨y0, y1, y2, y3, y4⟩ := fiveE G3.out.b3; obtain ⟨z0, z1, z2, z3, z4⟩ := fiveF G3.out.b3; clear hN hg)
          | (go_at_call 58; have hN := rflag_calls H3.out.wt.st; simp only [Q4.out] at hN; (with_reducible refine hN.mono ?_); rintro x w4 ⟨rfl, hg⟩; clear y0 y1 y2 y3 y4 z0 z1 z2 z3 z4; have G4 := Aside0.mk (H3.out.go hg); have H4 := Aside0.mk (G4.out.s4 false); obtain ⟨y0, y1, y2, y3, y4⟩ := fiveE G4.out.b3; obtain ⟨z0, z1, z2, z3, z4⟩ := fiveF G4.out.b3; obtain ⟨t0, t1, t2, t3, t4⟩ := fiveE H4.out.b3; obtain ⟨r0, r1, r2, r3, r4⟩ := fiveE H4.out.b2; obtain ⟨s0, s1, s2, s3, s4⟩ := fiveF H4.out.b2; clear hN hg)
          | (go_at_call 56; have hN := rtext_calls 32 (by decide) (by decide) H4.out.wt.st; simp only [Q5.out] at hN; (with_reducible refine hN.mono ?_); rintro x w5 ⟨rfl, hg⟩; clear y0 y1 y2 y3 y4 z0 z1 z2 z3 z4; clear t0 t1 t2 t3 t4 r0 r1 r2 r3 r4 s0 s1 s2 s3 s4; have G5 := Aside0.mk (H4.out.go hg); have H5 := Aside0.mk (G5.out.s3 v); obtain ⟨y0, y1, y2, y3, y4⟩ := fiveE G5.out.b3; obtain ⟨z0, z1, z2, z3, z4⟩ := fiveF G5.out.b3; obtain ⟨t0, t1, t2, t3, t4⟩ := fiveE H5.out.b3; obtain ⟨r0, r1, r2, r3, r4⟩ := fiveE H5.out.b2; obtain ⟨s0, s1, s2, s3, s4⟩ := fiveF H5.out.b2; clear hN hg)
          | (go_at_call 59; have hN := rfail_calls 30 H5.out.wt.st; simp only [Q6.out] at hN; (with_reducible refine hN.mono ?_); rintro x w6 ⟨rfl, hg⟩; clear t0 t1 t2 t3 t4 r0 r1 r2 r3 r4 s0 s1 s2 s3 s4; have H6 := Aside0.mk (H5.out.go hg); obtain ⟨t0, t1, t2, t3, t4⟩ := fiveE H6.out.b3; obtain ⟨r0, r1, r2, r3, r4⟩ := fiveE H6.out.b2; obtain ⟨s0, s1, s2, s3, s4⟩ := fiveF H6.out.b2; clear hN hg)
          | (go_at_call 37; have hN := rerr_calls H6.out.wt.st; (with_reducible refine hN.mono ?_); rintro x w7 ⟨rfl, hg⟩; subst hg; clear hN))
        have hf := H6.out.fin ⟨#[]⟩ 0 0 ⟨#[]⟩ false
        refine bodyPost_ret (results_cell_row rfl _ _ g2 25 (entC ⟨#[]⟩ 0 0 ⟨#[]⟩ false) (0, 0) _ rfl hf.2 Try.underlying25 rfl (by kernel_rfl)) rfl ?_
        exact ⟨rfl, hf.1⟩
    · rw [if_neg hz] at q6
      have c1 : (cn == 0) = false := by simp [hz]
      have c2 : (cn = 0) = False := eq_false hz
      subst q6
      clear hz
      by_cases h6 : e5 = 0
      · subst h6
        rw [if_pos rfl]
        go_enter Try.func35, Try.ntmps35
        go_wp2_with (first
          | ((with_reducible refine gate_dst (N := 2) rfl ?_); refine box_event ?hg (N := 2) ?hd (cs := #[.string ⟨#[]⟩, .int .i64 0, .int .i64 0, .string ⟨#[]⟩, .bool false]) (t := 25) ?hr ?_; (case hd => rfl); (case hg => rfl); (case hr => first | (go_simp; done) | (go_simp; rfl)); intro g2 eg2 wa ha2 hba; have HA2 := Aside0.mk ha2; have HBA := Aside0.mk hba; have EG2 := Aside0.mk eg2; clear ha2 hba eg2)
          | ((with_reducible refine gate_dst (N := 3) rfl ?_); refine box_event ?hg (N := 3) ?hd (cs := #[.string ⟨#[]⟩, .int .i64 0, .int .i64 0, .string ⟨#[]⟩, .bool false]) (t := 25) ?hr ?_; (case hd => rfl); (case hg => rfl); (case hr => first | (go_simp; done) | (go_simp; rfl)); intro g3 eg3 wb ha3 hbb; have Hz : Aside0 (Ent n₀ 79 B w A c l g2 g3 wb p e ⟨#[]⟩ 0 0 ⟨#[]⟩ false) := ⟨⟨⟨HR.out.below (HBA.out.trans (hbb.mono HBA.out.size)), ⟨Nat.le_trans HBA.out.size hbb.size, fun i hi _ _ => ((HBA.out.trans (hbb.mono HBA.out.size)).block i hi)⟩, (HBA.out.trans (hbb.mono HBA.out.size)).mono HR.out.n0⟩, blk_below HA2.out hbb, ha3, Nat.le_of_eq EG2.out.symm, by rw [eg3]; exact HBA.out.size, by rw [eg3, EG2.out]; exact fun e' => absurd (blk_lt HA2.out) (by rw [EG2.out, e']; exact Nat.lt_irrefl _), HR.out.n0, by decide⟩⟩; have H0 := Aside0.mk (((((Hz.out.s0 ⟨#[]⟩).s1 0).s2 0).s3 ⟨#[]⟩).s4 false); obtain ⟨y0, y1, y2, y3, y4⟩ := fiveE Hz.out.b3; obtain ⟨z0, z1, z2, z3, z4⟩ := fiveF Hz.out.b3; clear ha3 hbb eg3)
          | (go_at_call 56; have hN := rtext_calls 16 (by decide) (by decide) H0.out.wt.st; simp only [Q1.out] at hN; (with_reducible refine hN.mono ?_); rintro x w1 ⟨rfl, hg⟩; clear y0 y1 y2 y3 y4 z0 z1 z2 z3 z4; have G1 := Aside0.mk (H0.out.go hg); have H1 := Aside0.mk (G1.out.s0 k); obtain ⟨y0, y1, y2, y3, y4⟩ := fiveE G1.out.b3; obtain ⟨z0, z1, z2, z3, z4⟩ := fiveF G1.out.b3; clear hN hg)
          | (go_at_call 57; have hN := rnum_calls 1099511627776 (by decide) (by decide) H1.out.wt.st; simp only [Q2.out] at hN; (with_reducible refine hN.mono ?_); rintro x w2 ⟨rfl, hg⟩; clear y0 y1 y2 y3 y4 z0 z1 z2 z3 z4; have G2 := Aside0.mk (H1.out.go hg); have H2 := Aside0.mk (G2.out.s1 cn); obtain ⟨y0, y1, y2, y3, y4⟩ := fiveE G2.out.b3; obtain ⟨z0, z1, z2, z3, z4⟩ := fiveF G2.out.b3; clear hN hg)
          | (go_at_call 57; have hN := rnum_calls 7 (by decide) (by decide) H2.out.wt.st; simp only [Q3.out] at hN; (with_reducible refine hN.mono ?_); rintro x w3 ⟨rfl, hg⟩; clear y0 y1 y2 y3 y4 z0 z1 z2 z3 z4; have G3 := Aside0.mk (H2.out.go hg); have H3 := Aside0.mk (G3.out.s2 nd); obtain ⟨y0, y1, y2, y3, y4⟩ := fiveE G3.out.b3; obtain ⟨z0, z1, z2, z3, z4⟩ := fiveF G3.out.b3; clear hN hg)
          | (go_at_call 58; have hN := rflag_calls H3.out.wt.st; simp only [Q4.out] at hN; (with_reducible refine hN.mono ?_); rintro x w4 ⟨rfl, hg⟩; clear y0 y1 y2 y3 y4 z0 z1 z2 z3 z4; have G4 := Aside0.mk (H3.out.go hg); have H4 := Aside0.mk (G4.out.s4 false); obtain ⟨y0, y1, y2, y3, y4⟩ := fiveE G4.out.b3; obtain ⟨z0, z1, z2, z3, z4⟩ := fiveF G4.out.b3; obtain ⟨t0, t1, t2, t3, t4⟩ := fiveE H4.out.b3; obtain ⟨r0, r1, r2, r3, r4⟩ := fiveE H4.out.b2; obtain ⟨s0, s1, s2, s3, s4⟩ := fiveF H4.out.b2; clear hN hg)
          | (go_at_call 56; have hN := rtext_calls 32 (by decide) (by decide) H4.out.wt.st; simp only [Q5.out] at hN; (with_reducible refine hN.mono ?_); rintro x w5 ⟨rfl, hg⟩; clear y0 y1 y2 y3 y4 z0 z1 z2 z3 z4; clear t0 t1 t2 t3 t4 r0 r1 r2 r3 r4 s0 s1 s2 s3 s4; have G5 := Aside0.mk (H4.out.go hg); have H5 := Aside0.mk (G5.out.s3 v); obtain ⟨y0, y1, y2, y3, y4⟩ := fiveE G5.out.b3; obtain ⟨z0, z1, z2, z3, z4⟩ := fiveF G5.out.b3; obtain ⟨t0, t1, t2, t3, t4⟩ := fiveE H5.out.b3; obtain ⟨r0, r1, r2, r3, r4⟩ := fiveE H5.out.b2; obtain ⟨s0, s1, s2, s3, s4⟩ := fiveF H5.out.b2; clear hN hg)
          | (go_at_call 37; have hN := rerr_calls H5.out.wt.st; (with_reducible refine hN.mono ?_); rintro x w7 ⟨rfl, hg⟩; subst hg; clear hN))
        have hf := H5.out.fin k cn nd v false
        refine bodyPost_ret (results_cell_row rfl _ _ g2 25 (entC k cn nd v false) (0, 0) _ rfl hf.2 Try.underlying25 rfl (by kernel_rfl)) rfl ?_
        exact ⟨rfl, hf.1⟩
      · rw [if_neg h6]
        have d1 : (e5 == 0) = false := by simp [h6]
        have d2 : (e5 = 0) = False := eq_false h6
        clear h6
        go_enter Try.func35, Try.ntmps35
        go_wp2_with (first
          | ((with_reducible refine gate_dst (N := 2) rfl ?_); refine box_event ?hg (N := 2) ?hd (cs := #[.string ⟨#[]⟩, .int .i64 0, .int .i64 0, .string ⟨#[]⟩, .bool false]) (t := 25) ?hr ?_; (case hd => rfl); (case hg => rfl); (case hr => first | (go_simp; done) | (go_simp; rfl)); intro g2 eg2 wa ha2 hba; have HA2 := Aside0.mk ha2; have HBA := Aside0.mk hba; have EG2 := Aside0.mk eg2; clear ha2 hba eg2)
          | ((with_reducible refine gate_dst (N := 3) rfl ?_); refine box_event ?hg (N := 3) ?hd (cs := #[.string ⟨#[]⟩, .int .i64 0, .int .i64 0, .string ⟨#[]⟩, .bool false]) (t := 25) ?hr ?_; (case hd => rfl); (case hg => rfl); (case hr => first | (go_simp; done) | (go_simp; rfl)); intro g3 eg3 wb ha3 hbb; have Hz : Aside0 (Ent n₀ 79 B w A c l g2 g3 wb p e ⟨#[]⟩ 0 0 ⟨#[]⟩ false) := ⟨⟨⟨HR.out.below (HBA.out.trans (hbb.mono HBA.out.size)), ⟨Nat.le_trans HBA.out.size hbb.size, fun i hi _ _ => ((HBA.out.trans (hbb.mono HBA.out.size)).block i hi)⟩, (HBA.out.trans (hbb.mono HBA.out.size)).mono HR.out.n0⟩, blk_below HA2.out hbb, ha3, Nat.le_of_eq EG2.out.symm, by rw [eg3]; exact HBA.out.size, by rw [eg3, EG2.out]; exact fun e' => absurd (blk_lt HA2.out) (by rw [EG2.out, e']; exact Nat.lt_irrefl _), HR.out.n0, by decide⟩⟩; have H0 := Aside0.mk (((((Hz.out.s0 ⟨#[]⟩).s1 0).s2 0).s3 ⟨#[]⟩).s4 false); obtain ⟨y0, y1, y2, y3, y4⟩ := fiveE Hz.out.b3; obtain ⟨z0, z1, z2, z3, z4⟩ := fiveF Hz.out.b3; clear ha3 hbb eg3)
          | (go_at_call 56; have hN := rtext_calls 16 (by decide) (by decide) H0.out.wt.st; simp only [Q1.out] at hN; (with_reducible refine hN.mono ?_); rintro x w1 ⟨rfl, hg⟩; clear y0 y1 y2 y3 y4 z0 z1 z2 z3 z4; have G1 := Aside0.mk (H0.out.go hg); have H1 := Aside0.mk (G1.out.s0 k); obtain ⟨y0, y1, y2, y3, y4⟩ := fiveE G1.out.b3; obtain ⟨z0, z1, z2, z3, z4⟩ := fiveF G1.out.b3; clear hN hg)
          | (go_at_call 57; have hN := rnum_calls 1099511627776 (by decide) (by decide) H1.out.wt.st; simp only [Q2.out] at hN; (with_reducible refine hN.mono ?_); rintro x w2 ⟨rfl, hg⟩; clear y0 y1 y2 y3 y4 z0 z1 z2 z3 z4; have G2 := Aside0.mk (H1.out.go hg); have H2 := Aside0.mk (G2.out.s1 cn); obtain ⟨y0, y1, y2, y3, y4⟩ := fiveE G2.out.b3; obtain ⟨z0, z1, z2, z3, z4⟩ := fiveF G2.out.b3; clear hN hg)
          | (go_at_call 57; have hN := rnum_calls 7 (by decide) (by decide) H2.out.wt.st; simp only [Q3.out] at hN; (with_reducible refine hN.mono ?_); rintro x w3 ⟨rfl, hg⟩; clear y0 y1 y2 y3 y4 z0 z1 z2 z3 z4; have G3 := Aside0.mk (H2.out.go hg); have H3 := Aside0.mk (G3.out.s2 nd); obtain ⟨y0, y1, y2, y3, y4⟩ := fiveE G3.out.b3; obtain ⟨z0, z1, z2, z3, z4⟩ := fiveF G3.out.b3; clear hN hg)
          | (go_at_call 58; have hN := rflag_calls H3.out.wt.st; simp only [Q4.out] at hN; (with_reducible refine hN.mono ?_); rintro x w4 ⟨rfl, hg⟩; clear y0 y1 y2 y3 y4 z0 z1 z2 z3 z4; have G4 := Aside0.mk (H3.out.go hg); have H4 := Aside0.mk (G4.out.s4 false); obtain ⟨y0, y1, y2, y3, y4⟩ := fiveE G4.out.b3; obtain ⟨z0, z1, z2, z3, z4⟩ := fiveF G4.out.b3; obtain ⟨t0, t1, t2, t3, t4⟩ := fiveE H4.out.b3; obtain ⟨r0, r1, r2, r3, r4⟩ := fiveE H4.out.b2; obtain ⟨s0, s1, s2, s3, s4⟩ := fiveF H4.out.b2; clear hN hg)
          | (go_at_call 56; have hN := rtext_calls 32 (by decide) (by decide) H4.out.wt.st; simp only [Q5.out] at hN; (with_reducible refine hN.mono ?_); rintro x w5 ⟨rfl, hg⟩; clear y0 y1 y2 y3 y4 z0 z1 z2 z3 z4; clear t0 t1 t2 t3 t4 r0 r1 r2 r3 r4 s0 s1 s2 s3 s4; have G5 := Aside0.mk (H4.out.go hg); have H5 := Aside0.mk (G5.out.s3 v); obtain ⟨y0, y1, y2, y3, y4⟩ := fiveE G5.out.b3; obtain ⟨z0, z1, z2, z3, z4⟩ := fiveF G5.out.b3; obtain ⟨t0, t1, t2, t3, t4⟩ := fiveE H5.out.b3; obtain ⟨r0, r1, r2, r3, r4⟩ := fiveE H5.out.b2; obtain ⟨s0, s1, s2, s3, s4⟩ := fiveF H5.out.b2; clear hN hg)
          | (go_at_call 37; have hN := rerr_calls H5.out.wt.st; (with_reducible refine hN.mono ?_); rintro x w7 ⟨rfl, hg⟩; subst hg; clear hN))
        have hf := H5.out.fin ⟨#[]⟩ 0 0 ⟨#[]⟩ false
        refine bodyPost_ret (results_cell_row rfl _ _ g2 25 (entC ⟨#[]⟩ 0 0 ⟨#[]⟩ false) (0, 0) _ rfl hf.2 Try.underlying25 rfl (by kernel_rfl)) rfl ?_
        exact ⟨rfl, hf.1⟩
end Go.Proofs.Ythalodnfecaccaa.Rd
