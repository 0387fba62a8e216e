-- By wip/late.py (a program of this session) out of wip/words.
import Derived.Test.YthalodnfecaccaaProg
import Derived.Test.YthalodnfecaccaaWWords
import Derived.Test.YthalodnfecaccaaWLast
import Derived.Test.YthalodnfecaccaaWMore
import Derived.Test.YthalodnfecaccaaSRdGet
import Derived.Test.YthalodnfecaccaaSRdTell
import Derived.Test.YthalodnfecaccaaSRdNew
import Derived.RangeFuncBox
import Derived.BigQuiet
import Derived.Deep.QuietTactic
import Derived.Laws.Rows
import Derived.Laws.ResultCell
import Derived.Lib.Hide
import Derived.Tactics
import Derived.WalkKit
import Derived.OwnWalk
import Derived.Test.YthalodnfecaccaaSRdP
set_option linter.unusedVariables false
set_option linter.unusedSimpArgs false
namespace Go.Proofs.Ythalodnfecaccaa.Rd
open Go.RowKit Go.Proofs.YthalodnfecaccaaW.PrintWords Go.Proofs.Ythalodnfecaccaa.Pure Go.Proofs.Ythalodnfecaccaa.Wr
/-! An entry of bytes. -/
/-- What Of tells. -/
structure OfR where
  k : ByteArray
  cn : Int
  nd : Int
  v : ByteArray
  d : Bool
  e : Int
def ofR (l : List Int) : OfR := if rDone l (getR l 0 0).p (getR l 0 0).e = 0 then ⟨(getR l 0 0).k, (getR l 0 0).cn, (getR l 0 0).nd, (getR l 0 0).v, (getR l 0 0).d, 0⟩ else ⟨⟨#[]⟩, 0, 0, ⟨#[]⟩, false, rDone l (getR l 0 0).p (getR l 0 0).e⟩
theorem set_five {W : World} {g : Nat} (h : W.heap[g]? = some (.cells (entC ⟨#[]⟩ 0 0 ⟨#[]⟩ false) 25 (0, 0))) (k' : ByteArray) (cn' nd' : Int) (v' : ByteArray) (d' : Bool) :
    (((((W.setCell ⟨g, 0, none⟩ (.string k')).setCell ⟨g, 1, none⟩ (.int .i64 cn')).setCell ⟨g, 2, none⟩ (.int .i64 nd')).setCell ⟨g, 3, none⟩ (.string v')).setCell ⟨g, 4, none⟩ (.bool d')).heap[g]? = some (.cells (entC k' cn' nd' v' d') 25 (0, 0)) :=
  blk_set (blk_set (blk_set (blk_set (blk_set h 0 (.string k')) 1 (.int .i64 cn')) 2 (.int .i64 nd')) 3 (.string v')) 4 (.bool d')
theorem below_five {B : Nat} {a W : World} (h : Below B a W) {g : Nat} (hg : B ≤ g) (v0 v1 v2 v3 v4 : Value) : Below B a (((((W.setCell ⟨g, 0, none⟩ v0).setCell ⟨g, 1, none⟩ v1).setCell ⟨g, 2, none⟩ v2).setCell ⟨g, 3, none⟩ v3).setCell ⟨g, 4, none⟩ v4) :=
  ((((h.setCell (p := ⟨g, 0, none⟩) hg _).setCell (p := ⟨g, 1, none⟩) hg _).setCell (p := ⟨g, 2, none⟩) hg _).setCell (p := ⟨g, 3, none⟩) hg _).setCell (p := ⟨g, 4, none⟩) hg _
set_option maxRecDepth 100000 in
set_option maxHeartbeats 4000000 in
theorem of_calls {w : World} {A : Option Addr} {c : Nat} {l : List Int} (h : Kd.C (Kd.int .u8) w A l.length l) (hl : l.length ≤ 1099511627776) (hb : ∀ x ∈ l, 0 ≤ x ∧ x < 256) :
    Calls Try.prog 44 #[.slice A l.length c] w fun x w' => x = .returned (.tuple #[.agg (entC (ofR l).k (ofR l).cn (ofR l).nd (ofR l).v (ofR l).d), .int .i64 (ofR l).e]) ∧ Below w.heap.size w w' := by
  have HC := Aside0.mk h
  clear h
  unfold ofR
  obtain ⟨q, hq⟩ : ∃ q, getR l 0 0 = q := ⟨_, rfl⟩
  rw [hq]
  obtain ⟨d, hd⟩ : ∃ d, rDone l q.p q.e = d := ⟨_, rfl⟩
  rw [hd]
  have HQ := Aside0.mk hq
  have HD := Aside0.mk hd
  clear hq hd
  by_cases h0 : d = 0
  · subst h0
    rw [if_pos rfl]
    go_enter Try.func44, Try.ntmps44
    go_wp2_with (first
      | ((with_reducible refine gate_dst (N := 2) rfl ?_); refine box_event ?hg (N := 2) ?hd (cs := #[.string ⟨#[]⟩, .int .i64 0, .int .i64 0, .string ⟨#[]⟩, .bool false]) (t := 25) ?hr ?_; (case hd => rfl); (case hg => rfl); (case hr => first | (go_simp; done) | (go_simp; rfl)); intro g2 eg2 wa ha2 hba; have HA := Aside0.mk ha2; have HBA := Aside0.mk hba; have HG2 : Aside0 (w.heap.size ≤ g2) := ⟨Nat.le_of_eq eg2.symm⟩; have HC1 := Aside0.mk (Kd.C_below HC.out hba); clear ha2 hba eg2)
      | (go_at_call 32; refine (newr_calls HC1.out hl hb).mono ?_; rintro x w1 ⟨B, A1, c1, rfl, hr1, hb1⟩; have H1 := Aside0.mk hr1; have HB1 := Aside0.mk (HBA.out.trans (hb1.mono HBA.out.size)); have HA1 := Aside0.mk (blk_below HA.out hb1); clear hr1 hb1)
      | (go_at_call 34; have hN := get_calls H1.out; rw [HQ.out] at hN; simp only [entC] at hN; refine hN.mono ?_; rintro x w2 ⟨rfl, h2⟩; have H2 := Aside0.mk (h2.st.below (below_alloc (Below.refl w2.heap.size w2) (.cells #[.string q.k, .int .i64 q.cn, .int .i64 q.nd, .string q.v, .bool q.d] 25))); have HB2 := Aside0.mk (HB1.out.trans (h2.be.mono HBA.out.size)); have HA2 := Aside0.mk (h2.other H1.out (by decide) HA1.out); clear h2 hN)
      | (go_at_call 61; have hN := done_calls H2.out; rw [HD.out] at hN; refine hN.mono ?_; rintro x w3 ⟨rfl, hd⟩; have HB3 := Aside0.mk ((below_alloc HB2.out (.cells #[.string q.k, .int .i64 q.cn, .int .i64 q.nd, .string q.v, .bool q.d] 25)).trans (hd.below.mono (Nat.le_trans HB2.out.size (below_alloc (Below.refl w2.heap.size w2) _).size))); have HA3 := Aside0.mk (blk_below (blk_below HA2.out (below_alloc (Below.refl w2.heap.size w2) (.cells #[.string q.k, .int .i64 q.cn, .int .i64 q.nd, .string q.v, .bool q.d] 25))) hd.below); have HE3 : Aside0 (w3.heap[w2.heap.size]? = some (.cells (entC q.k q.cn q.nd q.v q.d) 25 (0, 0))) := ⟨blk_below (heap_alloc_new w2 (.cells (entC q.k q.cn q.nd q.v q.d) 25)) hd.below⟩; obtain ⟨t0, t1, t2, t3, t4⟩ := fiveE HE3.out; obtain ⟨r0, r1, r2, r3, r4⟩ := fiveE HA3.out; obtain ⟨s0, s1, s2, s3, s4⟩ := fiveF HA3.out; clear hd hN))
    refine bodyPost_ret (results_ct rfl _ _ g2 25 (entC q.k q.cn q.nd q.v q.d) (0, 0) _ rfl (set_five HA3.out _ _ _ _ _) Try.underlying25 rfl (by kernel_rfl)) rfl ?_
    exact ⟨rfl, below_five HB3.out HG2.out _ _ _ _ _⟩
  · rw [if_neg h0]
    have d1 : (d == 0) = false := by simp [h0]
    have d2 : (d = 0) = False := eq_false h0
    clear h0
    go_enter Try.func44, Try.ntmps44
    go_wp2_with (first
      | ((with_reducible refine gate_dst (N := 2) rfl ?_); refine box_event ?hg (N := 2) ?hd (cs := #[.string ⟨#[]⟩, .int .i64 0, .int .i64 0, .string ⟨#[]⟩, .bool false]) (t := 25) ?hr ?_; (case hd => rfl); (case hg => rfl); (case hr => first | (go_simp; done) | (go_simp; rfl)); intro g2 eg2 wa ha2 hba; have HA := Aside0.mk ha2; have HBA := Aside0.mk hba; have HG2 : Aside0 (w.heap.size ≤ g2) := ⟨Nat.le_of_eq eg2.symm⟩; have HC1 := Aside0.mk (Kd.C_below HC.out hba); clear ha2 hba eg2)
      | (go_at_call 32; refine (newr_calls HC1.out hl hb).mono ?_; rintro x w1 ⟨B, A1, c1, rfl, hr1, hb1⟩; have H1 := Aside0.mk hr1; have HB1 := Aside0.mk (HBA.out.trans (hb1.mono HBA.out.size)); have HA1 := Aside0.mk (blk_below HA.out hb1); clear hr1 hb1)
      | (go_at_call 34; have hN := get_calls H1.out; rw [HQ.out] at hN; simp only [entC] at hN; refine hN.mono ?_; rintro x w2 ⟨rfl, h2⟩; have H2 := Aside0.mk (h2.st.below (below_alloc (Below.refl w2.heap.size w2) (.cells #[.string q.k, .int .i64 q.cn, .int .i64 q.nd, .string q.v, .bool q.d] 25))); have HB2 := Aside0.mk (HB1.out.trans (h2.be.mono HBA.out.size)); have HA2 := Aside0.mk (h2.other H1.out (by decide) HA1.out); clear h2 hN)
      | (go_at_call 61; have hN := done_calls H2.out; rw [HD.out] at hN; refine hN.mono ?_; rintro x w3 ⟨rfl, hd⟩; have HB3 := Aside0.mk ((below_alloc HB2.out (.cells #[.string q.k, .int .i64 q.cn, .int .i64 q.nd, .string q.v, .bool q.d] 25)).trans (hd.below.mono (Nat.le_trans HB2.out.size (below_alloc (Below.refl w2.heap.size w2) _).size))); have HA3 := Aside0.mk (blk_below (blk_below HA2.out (below_alloc (Below.refl w2.heap.size w2) (.cells #[.string q.k, .int .i64 q.cn, .int .i64 q.nd, .string q.v, .bool q.d] 25))) hd.below); have HE3 : Aside0 (w3.heap[w2.heap.size]? = some (.cells (entC q.k q.cn q.nd q.v q.d) 25 (0, 0))) := ⟨blk_below (heap_alloc_new w2 (.cells (entC q.k q.cn q.nd q.v q.d) 25)) hd.below⟩; obtain ⟨t0, t1, t2, t3, t4⟩ := fiveE HE3.out; obtain ⟨r0, r1, r2, r3, r4⟩ := fiveE HA3.out; obtain ⟨s0, s1, s2, s3, s4⟩ := fiveF HA3.out; clear hd hN))
    refine bodyPost_ret (results_ct rfl _ _ g2 25 (entC ⟨#[]⟩ 0 0 ⟨#[]⟩ false) (0, 0) _ rfl (set_five HA3.out _ _ _ _ _) Try.underlying25 rfl (by kernel_rfl)) rfl ?_
    exact ⟨rfl, below_five HB3.out HG2.out _ _ _ _ _⟩
set_option maxRecDepth 100000 in
set_option maxHeartbeats 4000000 in
theorem rof_calls {w : World} {A : Option Addr} {c : Nat} {l : List Int} (h : Kd.C (Kd.int .u8) w A l.length l) (hl : l.length ≤ 1099511627776) (hb : ∀ x ∈ l, 0 ≤ x ∧ x < 256) :
    Calls Try.prog 45 #[.slice A l.length c] w fun x w' => x = .returned (.tuple #[.agg (entC (ofR l).k (ofR l).cn (ofR l).nd (ofR l).v (ofR l).d), .int .i64 (ofR l).e]) ∧ Below w.heap.size w w' := by
  have HC := Aside0.mk h
  clear h
  unfold ofR
  obtain ⟨q, hq⟩ : ∃ q, getR l 0 0 = q := ⟨_, rfl⟩
  rw [hq]
  obtain ⟨d, hd⟩ : ∃ d, rDone l q.p q.e = d := ⟨_, rfl⟩
  rw [hd]
  have HQ := Aside0.mk hq
  have HD := Aside0.mk hd
  clear hq hd
  by_cases h0 : d = 0
  · subst h0
    rw [if_pos rfl]
    go_enter Try.func45, Try.ntmps45
    go_wp2_with (first
      | ((with_reducible refine gate_dst (N := 2) rfl ?_); refine box_event ?hg (N := 2) ?hd (cs := #[.string ⟨#[]⟩, .int .i64 0, .int .i64 0, .string ⟨#[]⟩, .bool false]) (t := 25) ?hr ?_; (case hd => rfl); (case hg => rfl); (case hr => first | (go_simp; done) | (go_simp; rfl)); intro g2 eg2 wa ha2 hba; have HA := Aside0.mk ha2; have HBA := Aside0.mk hba; have HG2 : Aside0 (w.heap.size ≤ g2) := ⟨Nat.le_of_eq eg2.symm⟩; have HC1 := Aside0.mk (Kd.C_below HC.out hba); clear ha2 hba eg2)
      | (go_at_call 33; refine (rnewr_calls HC1.out hl hb).mono ?_; rintro x w1 ⟨B, A1, c1, rfl, hr1, hb1⟩; have H1 := Aside0.mk hr1; have HB1 := Aside0.mk (HBA.out.trans (hb1.mono HBA.out.size)); have HA1 := Aside0.mk (blk_below HA.out hb1); clear hr1 hb1)
      | (go_at_call 35; have hN := rget_calls H1.out; rw [HQ.out] at hN; simp only [entC] at hN; refine hN.mono ?_; rintro x w2 ⟨rfl, h2⟩; have H2 := Aside0.mk (h2.st.below (below_alloc (Below.refl w2.heap.size w2) (.cells #[.string q.k, .int .i64 q.cn, .int .i64 q.nd, .string q.v, .bool q.d] 25))); have HB2 := Aside0.mk (HB1.out.trans (h2.be.mono HBA.out.size)); have HA2 := Aside0.mk (h2.other H1.out (by decide) HA1.out); clear h2 hN)
      | (go_at_call 62; have hN := rdone_calls H2.out; rw [HD.out] at hN; refine hN.mono ?_; rintro x w3 ⟨rfl, hd⟩; have HB3 := Aside0.mk ((below_alloc HB2.out (.cells #[.string q.k, .int .i64 q.cn, .int .i64 q.nd, .string q.v, .bool q.d] 25)).trans (hd.below.mono (Nat.le_trans HB2.out.size (below_alloc (Below.refl w2.heap.size w2) _).size))); have HA3 := Aside0.mk (blk_below (blk_below HA2.out (below_alloc (Below.refl w2.heap.size w2) (.cells #[.string q.k, .int .i64 q.cn, .int .i64 q.nd, .string q.v, .bool q.d] 25))) hd.below); have HE3 : Aside0 (w3.heap[w2.heap.size]? = some (.cells (entC q.k q.cn q.nd q.v q.d) 25 (0, 0))) := ⟨blk_below (heap_alloc_new w2 (.cells (entC q.k q.cn q.nd q.v q.d) 25)) hd.below⟩; obtain ⟨t0, t1, t2, t3, t4⟩ := fiveE HE3.out; obtain ⟨r0, r1, r2, r3, r4⟩ := fiveE HA3.out; obtain ⟨s0, s1, s2, s3, s4⟩ := fiveF HA3.out; clear hd hN))
    refine bodyPost_ret (results_ct rfl _ _ g2 25 (entC q.k q.cn q.nd q.v q.d) (0, 0) _ rfl (set_five HA3.out _ _ _ _ _) Try.underlying25 rfl (by kernel_rfl)) rfl ?_
    exact ⟨rfl, below_five HB3.out HG2.out _ _ _ _ _⟩
  · rw [if_neg h0]
    have d1 : (d == 0) = false := by simp [h0]
    have d2 : (d = 0) = False := eq_false h0
    clear h0
    go_enter Try.func45, Try.ntmps45
    go_wp2_with (first
      | ((with_reducible refine gate_dst (N := 2) rfl ?_); refine box_event ?hg (N := 2) ?hd (cs := #[.string ⟨#[]⟩, .int .i64 0, .int .i64 0, .string ⟨#[]⟩, .bool false]) (t := 25) ?hr ?_; (case hd => rfl); (case hg => rfl); (case hr => first | (go_simp; done) | (go_simp; rfl)); intro g2 eg2 wa ha2 hba; have HA := Aside0.mk ha2; have HBA := Aside0.mk hba; have HG2 : Aside0 (w.heap.size ≤ g2) := ⟨Nat.le_of_eq eg2.symm⟩; have HC1 := Aside0.mk (Kd.C_below HC.out hba); clear ha2 hba eg2)
      | (go_at_call 33; refine (rnewr_calls HC1.out hl hb).mono ?_; rintro x w1 ⟨B, A1, c1, rfl, hr1, hb1⟩; have H1 := Aside0.mk hr1; have HB1 := Aside0.mk (HBA.out.trans (hb1.mono HBA.out.size)); have HA1 := Aside0.mk (blk_below HA.out hb1); clear hr1 hb1)
      | (go_at_call 35; have hN := rget_calls H1.out; rw [HQ.out] at hN; simp only [entC] at hN; refine hN.mono ?_; rintro x w2 ⟨rfl, h2⟩; have H2 := Aside0.mk (h2.st.below (below_alloc (Below.refl w2.heap.size w2) (.cells #[.string q.k, .int .i64 q.cn, .int .i64 q.nd, .string q.v, .bool q.d] 25))); have HB2 := Aside0.mk (HB1.out.trans (h2.be.mono HBA.out.size)); have HA2 := Aside0.mk (h2.other H1.out (by decide) HA1.out); clear h2 hN)
      | (go_at_call 62; have hN := rdone_calls H2.out; rw [HD.out] at hN; refine hN.mono ?_; rintro x w3 ⟨rfl, hd⟩; have HB3 := Aside0.mk ((below_alloc HB2.out (.cells #[.string q.k, .int .i64 q.cn, .int .i64 q.nd, .string q.v, .bool q.d] 25)).trans (hd.below.mono (Nat.le_trans HB2.out.size (below_alloc (Below.refl w2.heap.size w2) _).size))); have HA3 := Aside0.mk (blk_below (blk_below HA2.out (below_alloc (Below.refl w2.heap.size w2) (.cells #[.string q.k, .int .i64 q.cn, .int .i64 q.nd, .string q.v, .bool q.d] 25))) hd.below); have HE3 : Aside0 (w3.heap[w2.heap.size]? = some (.cells (entC q.k q.cn q.nd q.v q.d) 25 (0, 0))) := ⟨blk_below (heap_alloc_new w2 (.cells (entC q.k q.cn q.nd q.v q.d) 25)) hd.below⟩; obtain ⟨t0, t1, t2, t3, t4⟩ := fiveE HE3.out; obtain ⟨r0, r1, r2, r3, r4⟩ := fiveE HA3.out; obtain ⟨s0, s1, s2, s3, s4⟩ := fiveF HA3.out; clear hd hN))
    refine bodyPost_ret (results_ct rfl _ _ g2 25 (entC ⟨#[]⟩ 0 0 ⟨#[]⟩ false) (0, 0) _ rfl (set_five HA3.out _ _ _ _ _) Try.underlying25 rfl (by kernel_rfl)) rfl ?_
    exact ⟨rfl, below_five HB3.out HG2.out _ _ _ _ _⟩
end Go.Proofs.Ythalodnfecaccaa.Rd
