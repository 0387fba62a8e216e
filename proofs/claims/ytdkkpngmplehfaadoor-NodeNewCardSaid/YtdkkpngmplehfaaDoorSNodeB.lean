-- By wip/late.py (a program of this session) out of wip/words.
import Derived.Test.YtdkkpngmplehfaaDoorProg
import Derived.Test.YtdkkpngmplehfaaDoorWWords
import Derived.Test.YtdkkpngmplehfaaDoorWLast
import Derived.Test.YtdkkpngmplehfaaDoorWMore
import Derived.Test.YtdkkpngmplehfaaDoorPAllx1
import Derived.Test.YtdkkpngmplehfaaDoorSNodeA
import Derived.Below
import Derived.RangeFuncBox
import Derived.BigQuiet
import Derived.Deep.QuietTactic
import Derived.Lib.Hide
import Derived.Tactics
import Derived.WalkKit
import Derived.OwnWalk
import Derived.BigRegion
import Derived.RegionTactic
import Derived.Deep.RegionWith
import Derived.Deep.RegionHeld
import Derived.Deep.RegionHeld3
set_option linter.unusedVariables false
set_option linter.unusedSimpArgs false
namespace Go.Proofs.YtdkkpngmplehfaaDoor.Nd
open Go.RowKit Go.Proofs.YtdkkpngmplehfaaDoorW.PrintWords Go.Proofs.YtdkkpngmplehfaaDoor.PAll
/-! A new node, the document's. -/
theorem rcheck_same (a b c d : Int) : tidelineref14_CheckConfig.f a b c d = recon_CheckConfig.f a b c d := rfl
theorem rnew_no (id : Int) (w : World) (h : id < 0 ∨ 8 ≤ id) : Calls Tryd.prog 10 #[.int .i64 id] w fun e w' => e = .returned (.tuple #[.pointer none, .int .i64 1]) ∧ w' = w := by
  by_cases h1 : id < 0
  · have d1 : decide (id < 0) = true := decide_eq_true h1
    clear h
    go_enter Tryd.func10, Tryd.ntmps10
    go_wp2
    go_ret2
    exact ⟨rfl, rfl⟩
  · have h2 : 8 ≤ id := by omega
    have d1 : decide (id < 0) = false := decide_eq_false h1
    have d2 : decide (id ≥ 8) = true := decide_eq_true h2
    clear h
    go_enter Tryd.func10, Tryd.ntmps10
    go_wp2
    go_ret2
    exact ⟨rfl, rfl⟩
/-- The document's store without an entry. -/
def RStoreE (w : World) (s : Nat) (id : Int) : Prop := w.heap[s]? = some (.cells #[.int .i64 id, .int .i64 0, .slice none 0 0] 65 (0, 0))
theorem rnew_calls (id : Int) (w : World) (h0 : 0 ≤ id) (h8 : id < 8) : Calls Tryd.prog 10 #[.int .i64 id] w fun e w' => ∃ s, e = .returned (.tuple #[.pointer (some ⟨s, 0, none⟩), .int .i64 0]) ∧ RStoreE w' s id ∧ Below w.heap.size w w' := by
  have d1 : decide (id < 0) = false := decide_eq_false (by omega)
  have d2 : decide (id ≥ 8) = false := decide_eq_false (by omega)
  clear h0 h8
  go_enter Tryd.func10, Tryd.ntmps10
  go_wp2
  go_ret2
  exact ⟨_, rfl, heap_alloc_new _ _, below_alloc (Below.refl _ _) _⟩
/-- The document's desk without a session. -/
def RDeskE (w : World) (d : Nat) : Prop := ∃ cs, w.heap[d]? = some (.cells cs 69 (0, 0)) ∧ cs[8]? = some (.slice none 0 0)
theorem RDeskE.below {w W : World} {t : Nat} (h : RDeskE w t) (hb : Below w.heap.size w W) : RDeskE W t := by
  obtain ⟨j, h, h1⟩ := h
  exact ⟨j, blk_below h hb, h1⟩
theorem RDeskE.set {W : World} {g n : Nat} {cs : Array Value} (h : RDeskE W g) (hn : W.heap[n]? = some (.cells cs 50 (0, 0))) (i : Nat) (v : Value) : RDeskE (W.setCell ⟨n, i, none⟩ v) g := by
  obtain ⟨ds, h, h1⟩ := h
  have hne : g ≠ n := by
    rintro rfl
    have := h.symm.trans hn
    injection this with this
    injection this with _ ht
    exact absurd ht (by decide)
  exact ⟨ds, blk_far h hne _, h1⟩
set_option maxRecDepth 100000 in
theorem rsnew_calls (s : Nat) (a b c d : Int) (w : World) (hc : recon_CheckConfig.f a b c d = some 0) : Calls Tryd.prog 12 #[.pointer (some ⟨s, 0, none⟩), .agg #[.int .i64 a, .int .i64 b, .int .i64 c, .int .i64 d], .int .i64 1] w fun e w' => ∃ g, e = .returned (.tuple #[.pointer (some ⟨g, 0, none⟩), .int .i64 0]) ∧ RDeskE w' g ∧ Below w.heap.size w w' := by
  have HC := Aside0.mk hc
  clear hc
  go_enter Tryd.func12, Tryd.ntmps12
  go_wp2_with (first
    | ((with_reducible refine gate_dst (N := 4) rfl ?_); refine box_event ?hg (N := 4) ?hd (cs := #[.int .i64 a, .int .i64 b, .int .i64 c, .int .i64 d]) (t := 23) ?hr ?_; (case hd => rfl); (case hg => rfl); (case hr => first | (go_simp; done) | (go_simp; rfl)); intro x hg w2 hbox hb; have HK : Aside0 (CfgB w w2 x a b c d) := ⟨⟨hbox, hb⟩⟩; clear hb hg hbox; obtain ⟨hc0, hc1, hc2, hc3, _⟩ := HK.out.held)
    | (go_at_call 11; refine (tidelineref14_CheckConfig.calls a b c d 0 _ HC.out).mono ?_; rintro e w3 ⟨rfl, hb⟩; have HK3 := Aside0.mk (HK.out.then hb); clear hc0 hc1 hc2 hc3; obtain ⟨hc0, hc1, hc2, hc3, _⟩ := HK3.out.held; clear hb))
  go_ret2
  exact ⟨_, rfl, ⟨_, heap_alloc_new _ _, rfl⟩, (HK3.out.alloc _).be⟩
/-- The document's new node. -/
def rnodeC (a b c d : Int) (s : Nat) (dk : Value) : Array Value := #[.int .i64 a, .int .i64 b, .int .i64 c, .int .i64 d, .pointer (some ⟨s, 0, none⟩), dk, .int .i64 1, .int .i64 0, .int .i64 0, .int .i64 0, .int .i64 0, .int .i64 0, .int .i64 0, .int .i64 0, .int .i64 0, .int .i64 0, .int .i64 0]
structure RNodeE (W : World) (n s g : Nat) (a b c d id : Int) : Prop where
  box : W.heap[n]? = some (.cells (rnodeC a b c d s (.pointer (some ⟨g, 0, none⟩))) 50 (0, 0))
  store : RStoreE W s id
  desk : RDeskE W g
theorem RNodeE.below {w W : World} {n s g : Nat} {a b c d id : Int} (h : RNodeE w n s g a b c d id) (hb : Below w.heap.size w W) : RNodeE W n s g a b c d id := ⟨blk_below h.box hb, blk_below h.store hb, h.desk.below hb⟩
set_option maxRecDepth 100000 in
theorem rnode_no (id a b c d : Int) (w : World) (h : ¬ good id a b c d) : Calls Tryd.prog 5 #[.int .i64 id, .agg #[.int .i64 a, .int .i64 b, .int .i64 c, .int .i64 d]] w fun e w' => e = .returned (.tuple #[.pointer none, .int .i64 1]) ∧ Below w.heap.size w w' := by
  by_cases h1 : id < 0 ∨ 8 ≤ id
  · go_enter Tryd.func5, Tryd.ntmps5
    go_wp2_with (first
      | ((with_reducible refine gate_dst (N := 3) rfl ?_); refine box_event ?hg (N := 3) ?hd (cs := #[.int .i64 a, .int .i64 b, .int .i64 c, .int .i64 d]) (t := 23) ?hr ?_; (case hd => rfl); (case hg => rfl); (case hr => first | (go_simp; done) | (go_simp; rfl)); intro x hg w2 hbox hb; have HK := Aside0.mk hb; clear hb hg hbox)
      | (go_at_call 10; refine (rnew_no id _ h1).mono ?_; rintro e w3 ⟨rfl, rfl⟩))
    go_ret2
    exact ⟨rfl, HK.out⟩
  · have h0 : 0 ≤ id ∧ id < 8 := by omega
    have h2 : tidelineref14_CheckConfig.f a b c d = some 1 := by
      rcases check_two a b c d with h3 | h3
      · exact absurd ⟨h0.1, h0.2, h3⟩ h
      · exact h3
    have H0 := Aside0.mk h0
    have HC := Aside0.mk h2
    clear h h1 h0 h2
    go_enter Tryd.func5, Tryd.ntmps5
    go_wp2_with (first
      | ((with_reducible refine gate_dst (N := 3) rfl ?_); refine box_event ?hg (N := 3) ?hd (cs := #[.int .i64 a, .int .i64 b, .int .i64 c, .int .i64 d]) (t := 23) ?hr ?_; (case hd => rfl); (case hg => rfl); (case hr => first | (go_simp; done) | (go_simp; rfl)); intro x hg w2 hbox hb; have HK : Aside0 (CfgB w w2 x a b c d) := ⟨⟨hbox, hb⟩⟩; clear hb hg hbox)
      | (go_at_call 10; refine (rnew_calls id _ H0.out.1 H0.out.2).mono ?_; rintro e w3 ⟨s, rfl, hS, hb⟩; have HK3 := Aside0.mk (HK.out.then hb); obtain ⟨hc0, hc1, hc2, hc3, _⟩ := HK3.out.held; clear hb hS)
      | (go_at_call 11; refine (tidelineref14_CheckConfig.calls a b c d 1 _ HC.out).mono ?_; rintro e w4 ⟨rfl, hb⟩; have HK4 := Aside0.mk (HK3.out.then hb); clear hc0 hc1 hc2 hc3 hb))
    go_ret2
    exact ⟨rfl, HK4.out.be⟩
set_option maxRecDepth 100000 in
theorem rnode_calls (id a b c d : Int) (w : World) (h : good id a b c d) : Calls Tryd.prog 5 #[.int .i64 id, .agg #[.int .i64 a, .int .i64 b, .int .i64 c, .int .i64 d]] w fun e w' => ∃ n s g, e = .returned (.tuple #[.pointer (some ⟨n, 0, none⟩), .int .i64 0]) ∧ RNodeE w' n s g a b c d id ∧ Below w.heap.size w w' := by
  have HG := Aside0.mk h
  clear h
  go_enter Tryd.func5, Tryd.ntmps5
  go_wp2_with (first
    | ((with_reducible refine gate_dst (N := 3) rfl ?_); refine box_event ?hg (N := 3) ?hd (cs := #[.int .i64 a, .int .i64 b, .int .i64 c, .int .i64 d]) (t := 23) ?hr ?_; (case hd => rfl); (case hg => rfl); (case hr => first | (go_simp; done) | (go_simp; rfl)); intro x hg w2 hbox hb; have HK : Aside0 (CfgB w w2 x a b c d) := ⟨⟨hbox, hb⟩⟩; clear hb hg hbox)
    | (go_at_call 10; refine (rnew_calls id _ HG.out.1 HG.out.2.1).mono ?_; rintro e w3 ⟨s, rfl, hS, hb⟩; have HS := Aside0.mk hS; have HK3 := Aside0.mk (HK.out.then hb); obtain ⟨hc0, hc1, hc2, hc3, _⟩ := HK3.out.held; clear hb hS)
    | (go_at_call 11; refine (tidelineref14_CheckConfig.calls a b c d 0 _ HG.out.2.2).mono ?_; rintro e w4 ⟨rfl, hb⟩; have HS4 : Aside0 (RStoreE w4 s id) := ⟨blk_below HS.out hb⟩; have HK4 := Aside0.mk (HK3.out.then hb); clear hc0 hc1 hc2 hc3; obtain ⟨hc0, hc1, hc2, hc3, _⟩ := HK4.out.held; clear hb)
    | ((with_reducible refine gate_dst (N := 24) rfl ?_); refine box_event ?hg (N := 24) ?hd (cs := rnodeC a b c d s (.pointer none)) (t := 50) ?hr ?_; (case hd => rfl); (case hg => rfl); (case hr => first | (go_simp; done) | (go_simp; rfl)); intro n hg w5 hbox hb; have HX := Aside0.mk hbox; have HK5 := Aside0.mk (HK4.out.then hb); have HS5 : Aside0 (RStoreE w5 s id) := ⟨blk_below HS4.out hb⟩; have HN : Aside0 (w.heap.size ≤ n) := ⟨by rw [hg]; exact HK4.out.be.size⟩; clear hb hg hbox hc0 hc1 hc2 hc3; obtain ⟨hc0, hc1, hc2, hc3, _⟩ := HK5.out.held)
    | (go_at_call 12; refine (rsnew_calls s a b c d _ HG.out.2.2).mono ?_; rintro e w6 ⟨g, rfl, hd, hb⟩; have HX6 := Aside0.mk (blk_below HX.out hb); have HS6 : Aside0 (RStoreE w6 s id) := ⟨blk_below HS5.out hb⟩; have HK6 := Aside0.mk (HK5.out.then hb); have HD6 := Aside0.mk hd; have hf6 := blk_frozen HX6.out 5; have hc6 : w6.cell? ⟨n, 5, none⟩ = some (.pointer none) := (blk_cell HX6.out 5).trans rfl; clear hb hd hc0 hc1 hc2 hc3))
  go_ret2
  refine ⟨n, s, g, rfl, ⟨blk_put HX6.out 5 _ rfl, ?_, HD6.out.set HX6.out _ _⟩, below_set HK6.out.be HN.out⟩
  have hne : s ≠ n := by
    rintro rfl
    have := HS6.out.symm.trans HX6.out
    injection this with this
    injection this with _ ht
    exact absurd ht (by decide)
  exact blk_far HS6.out hne _
end Go.Proofs.YtdkkpngmplehfaaDoor.Nd
