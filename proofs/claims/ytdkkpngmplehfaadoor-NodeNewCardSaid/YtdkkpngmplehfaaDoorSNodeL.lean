-- By wip/late.py (a program of this session) out of wip/words.
import Derived.Test.YtdkkpngmplehfaaDoorProg
import Derived.Test.YtdkkpngmplehfaaDoorWWords
import Derived.Test.YtdkkpngmplehfaaDoorWLast
import Derived.Test.YtdkkpngmplehfaaDoorWMore
import Derived.Test.YtdkkpngmplehfaaDoorSNodeA
import Derived.Test.YtdkkpngmplehfaaDoorSNodeB
import Derived.Test.YtdkkpngmplehfaaDoorSNodeC
import Derived.Test.YtdkkpngmplehfaaDoorSNodeD
import Derived.Test.YtdkkpngmplehfaaDoorSNodeM
import Derived.Below
import Derived.RangeFuncBox
import Derived.BigQuiet
import Derived.Deep.QuietTactic
import Derived.Lib.Hide
import Derived.Tactics
import Derived.WalkKit
import Derived.OwnWalk
import Derived.BigRegion
import Derived.RegionTactic
import Derived.Deep.RegionWith
import Derived.Deep.RegionHeld
import Derived.Deep.RegionHeld3
import Derived.Laws.EntriesVeiled
set_option linter.unusedVariables false
set_option linter.unusedSimpArgs false
namespace Go.Proofs.YtdkkpngmplehfaaDoor.Nd
open Go.RowKit Go.Proofs.YtdkkpngmplehfaaDoorW.PrintWords Go.Proofs.YtdkkpngmplehfaaDoor.PAll
/-! What two new nodes tell of themselves is alike. -/
theorem zero_guard (w : World) : Sem.run Tryd.prog (eqGuard BinOp.eql 42 (Operand.tmp 22) (Operand.tmp 25) zero10 zero10) w = .ok () w := by
  unfold zero10
  go_simp
theorem zero_eq (w : World) : Sem.run Tryd.prog (binOp BinOp.eql 42 zero10 zero10) w = .ok (.bool true) w := by
  unfold zero10
  go_simp
/-- A pair of new nodes, in its box. -/
structure PairK (w W : World) (x n s g t rn rs rg : Nat) (a b c d id : Int) (m : Value) : Prop where
  nd : NodeE W n s g t a b c d id m
  rd : RNodeE W rn rs rg a b c d id
  bx : W.heap[x]? = some (.cells #[.pointer (some ⟨n, 0, none⟩), .pointer (some ⟨rn, 0, none⟩)] 32 (0, 0))
  be : Below w.heap.size w W
section
variable {w W W2 : World} {x n s g t rn rs rg : Nat} {a b c d id : Int} {m : Value}
theorem PairK.held (h : PairK w W x n s g t rn rs rg a b c d id m) : W.cell? ⟨x, 0, none⟩ = some (.pointer (some ⟨n, 0, none⟩)) ∧ W.cell? ⟨x, 1, none⟩ = some (.pointer (some ⟨rn, 0, none⟩)) ∧ Aside0 (PairK w W x n s g t rn rs rg a b c d id m) :=
  ⟨(blk_cell h.bx 0).trans rfl, (blk_cell h.bx 1).trans rfl, ⟨h⟩⟩
theorem PairK.then (h : PairK w W x n s g t rn rs rg a b c d id m) (hb : Below W.heap.size W W2) : PairK w W2 x n s g t rn rs rg a b c d id m := ⟨h.nd.below hb, h.rd.below hb, blk_below h.bx hb, below_step h.be hb⟩
theorem PairK.drew (h : PairK w W x n s g t rn rs rg a b c d id m) : PairK w W.drew x n s g t rn rs rg a b c d id m := h.then (Below.refl _ _).drew
theorem PairK.both (h1 : NodeE w n s g t a b c d id m) (h2 : RNodeE w rn rs rg a b c d id) {W : World} {x : Nat} (hx : W.heap[x]? = some (.cells #[.pointer (some ⟨n, 0, none⟩), .pointer (some ⟨rn, 0, none⟩)] 32 (0, 0))) (hb : Below w.heap.size w W) : PairK w W x n s g t rn rs rg a b c d id m :=
  ⟨h1.below hb, h2.below hb, hx, hb⟩
set_option maxRecDepth 100000 in
set_option maxHeartbeats 4000000 in
theorem looks_calls (h1 : NodeE w n s g t a b c d id m) (h2 : RNodeE w rn rs rg a b c d id) : Calls Tryd.prog 6 #[.agg #[.pointer (some ⟨n, 0, none⟩), .pointer (some ⟨rn, 0, none⟩)]] w fun e w' => e = .returned (.bool true) ∧ Below w.heap.size w w' := by
  have H1 := Aside0.mk h1
  have H2 := Aside0.mk h2
  clear h1 h2
  have hz1 := zero_guard
  have hz2 := zero_eq
  go_enter Tryd.func6, Tryd.ntmps6
  go_wp2_with ((with_reducible refine gate_dst (N := 1) rfl ?_); refine box_event ?hg (N := 1) ?hd (cs := #[.pointer (some ⟨n, 0, none⟩), .pointer (some ⟨rn, 0, none⟩)]) (t := 32) ?hr ?_; (case hd => rfl); (case hg => rfl); (case hr => first | (go_simp; done) | (go_simp; rfl)); intro x hg w2 hbox hb; have HK := Aside0.mk ((PairK.both H1.out H2.out hbox hb).drew); clear hb hg hbox)
  go_region_held3 (fun W => W.cell? ⟨x, 0, none⟩ = some (.pointer (some ⟨n, 0, none⟩)) ∧ W.cell? ⟨x, 1, none⟩ = some (.pointer (some ⟨rn, 0, none⟩)) ∧ Aside0 (PairK w W x n s g t rn rs rg a b c d id m)) (first | exact HKr.out.held | exact HKm.out.held | exact HKd.out.held | exact HKc.out.held | exact HK.out.held)
    (first
    | (go_at_call 13; refine (up_calls HK.out.nd).mono ?_; rintro e w1 ⟨rfl, rfl⟩)
    | (go_at_call 14; refine (rup_calls HK.out.rd).mono ?_; rintro e w1 ⟨rfl, rfl⟩)
    | (go_at_call 15; refine (life_calls HK.out.nd).mono ?_; rintro e w1 ⟨rfl, rfl⟩)
    | (go_at_call 16; refine (rlife_calls HK.out.rd).mono ?_; rintro e w1 ⟨rfl, rfl⟩)
    | (go_at_call 17; refine (count_calls HK.out.nd).mono ?_; rintro e w3 ⟨rfl, hb⟩; have HKc := Aside0.mk (HK.out.then hb); clear hb)
    | (go_at_call 18; refine (rcount_calls HKc.out.rd).mono ?_; rintro e w4 ⟨rfl, hb⟩; have HKd := Aside0.mk (HKc.out.then hb); clear hb)
    | (go_at_call 20; refine (talks_calls HKd.out.nd).mono ?_; rintro e w1 ⟨rfl, rfl⟩)
    | (go_at_call 21; refine (rtalks_calls HKd.out.rd).mono ?_; rintro e w1 ⟨rfl, rfl⟩)
    | (go_at_call 19; refine (sameTalks_calls _).mono ?_; rintro e w1 ⟨rfl, rfl⟩)
    | (go_at_call 23; refine (map_calls HKd.out.nd).mono ?_; rintro e w5 ⟨rfl, hb⟩; have HKm := Aside0.mk (HKd.out.then hb); clear hb)
    | (go_at_call 24; refine (rmap_calls HKm.out.rd).mono ?_; rintro e w6 ⟨rfl, hb⟩; have HKr := Aside0.mk (HKm.out.then hb); clear hb)
    | (go_at_call 22; refine (same_calls _).mono ?_; rintro e w1 ⟨rfl, rfl⟩))
  all_goals go_wp2
  all_goals go_ret
  all_goals exact ⟨rfl, HKr.out.be⟩
end
set_option maxRecDepth 100000 in
set_option maxHeartbeats 2000000 in
theorem law_calls (id a b c d : Int) (w : World) : Calls Tryd.prog 3 #[.int .i64 id, .agg #[.int .i64 a, .int .i64 b, .int .i64 c, .int .i64 d]] w fun e w' => e = .returned (.bool true) ∧ Below w.heap.size w w' := by
  by_cases h : good id a b c d
  · have HG := Aside0.mk h
    clear h
    go_enter Tryd.func3, Tryd.ntmps3
    go_wp2_with (first
      | ((with_reducible refine gate_dst (N := 3) rfl ?_); refine box_event ?hg (N := 3) ?hd (cs := #[.int .i64 a, .int .i64 b, .int .i64 c, .int .i64 d]) (t := 23) ?hr ?_; (case hd => rfl); (case hg => rfl); (case hr => first | (go_simp; done) | (go_simp; rfl)); intro x hg w2 hbox hb; have HK : Aside0 (CfgB w w2 x a b c d) := ⟨⟨hbox, hb⟩⟩; obtain ⟨hc0, hc1, hc2, hc3, _⟩ := HK.out.held; clear hb hg hbox)
      | (go_at_call 4; refine (node_calls id a b c d _ HG.out).mono ?_; rintro e w3 ⟨n, s, g, t, m, rfl, hN, hb⟩; have HN := Aside0.mk hN; have HK3 := Aside0.mk (HK.out.then hb); clear hc0 hc1 hc2 hc3; obtain ⟨hc0, hc1, hc2, hc3, _⟩ := HK3.out.held; clear hb hN)
      | (go_at_call 5; refine (rnode_calls id a b c d _ HG.out).mono ?_; rintro e w4 ⟨rn, rs, rg, rfl, hR, hb⟩; have HR := Aside0.mk hR; have HN4 := Aside0.mk (HN.out.below hb); have HB4 := Aside0.mk (below_step HK3.out.be hb); clear hb hR hc0 hc1 hc2 hc3)
      | (go_at_call 6; refine (looks_calls HN4.out HR.out).mono ?_; rintro e w5 ⟨rfl, hb⟩; have HB5 := Aside0.mk (below_step HB4.out hb); clear hb))
    go_ret
    exact ⟨rfl, HB5.out⟩
  · have HG := Aside0.mk h
    clear h
    go_enter Tryd.func3, Tryd.ntmps3
    go_wp2_with (first
      | ((with_reducible refine gate_dst (N := 3) rfl ?_); refine box_event ?hg (N := 3) ?hd (cs := #[.int .i64 a, .int .i64 b, .int .i64 c, .int .i64 d]) (t := 23) ?hr ?_; (case hd => rfl); (case hg => rfl); (case hr => first | (go_simp; done) | (go_simp; rfl)); intro x hg w2 hbox hb; have HK : Aside0 (CfgB w w2 x a b c d) := ⟨⟨hbox, hb⟩⟩; obtain ⟨hc0, hc1, hc2, hc3, _⟩ := HK.out.held; clear hb hg hbox)
      | (go_at_call 4; refine (node_no id a b c d _ HG.out).mono ?_; rintro e w3 ⟨rfl, hb⟩; have HK3 := Aside0.mk (HK.out.then hb); clear hc0 hc1 hc2 hc3; obtain ⟨hc0, hc1, hc2, hc3, _⟩ := HK3.out.held; clear hb)
      | (go_at_call 5; refine (rnode_no id a b c d _ HG.out).mono ?_; rintro e w4 ⟨rfl, hb⟩; have HB4 := Aside0.mk (below_step HK3.out.be hb); clear hb hc0 hc1 hc2 hc3))
    go_ret
    exact ⟨rfl, HB4.out⟩
end Go.Proofs.YtdkkpngmplehfaaDoor.Nd
