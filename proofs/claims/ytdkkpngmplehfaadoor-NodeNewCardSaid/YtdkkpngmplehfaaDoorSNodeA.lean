-- By wip/late.py (a program of this session) out of wip/words.
import Derived.Test.YtdkkpngmplehfaaDoorProg
import Derived.Test.YtdkkpngmplehfaaDoorWWords
import Derived.Test.YtdkkpngmplehfaaDoorWLast
import Derived.Test.YtdkkpngmplehfaaDoorWMore
import Derived.Test.YtdkkpngmplehfaaDoorPAllx1
import Derived.Below
import Derived.RangeFuncBox
import Derived.BigQuiet
import Derived.Deep.QuietTactic
import Derived.Lib.Hide
import Derived.Tactics
import Derived.WalkKit
import Derived.OwnWalk
import Derived.BigRegion
import Derived.RegionTactic
import Derived.Deep.RegionWith
import Derived.Deep.RegionHeld
import Derived.Deep.RegionHeld3
set_option linter.unusedVariables false
set_option linter.unusedSimpArgs false
namespace Go.Proofs.YtdkkpngmplehfaaDoor.Nd
open Go.RowKit Go.Proofs.YtdkkpngmplehfaaDoorW.PrintWords Go.Proofs.YtdkkpngmplehfaaDoor.PAll
/-! A new node, the program's. -/
/-- A tree without a row. -/
def TreeE (w : World) (t : Nat) : Prop := ∃ j, w.heap[t]? = some (.cells #[.int .i64 0, .int .u64 0, .int .u64 0, j, .pointer none] 138 (0, 0))
/-- A store without an entry. -/
structure StoreE (w : World) (s : Nat) (id : Int) (m : Value) (t : Nat) : Prop where
  box : w.heap[s]? = some (.cells #[.int .i64 id, .int .i64 0, m, .pointer (some ⟨t, 0, none⟩)] 92 (0, 0))
  tree : TreeE w t
theorem TreeE.below {w W : World} {t : Nat} (h : TreeE w t) (hb : Below w.heap.size w W) : TreeE W t := by
  obtain ⟨j, h⟩ := h
  exact ⟨j, blk_below h hb⟩
theorem StoreE.below {w W : World} {s t : Nat} {id : Int} {m : Value} (h : StoreE w s id m t) (hb : Below w.heap.size w W) : StoreE W s id m t := ⟨blk_below h.box hb, h.tree.below hb⟩
theorem meter_calls (w : World) : Calls Tryd.prog 33 #[] w fun e w' => e = .returned (.pointer (some ⟨w.heap.size, 0, none⟩)) ∧ w' = w.alloc (.cells #[.int .i64 0] 135) := by
  go_enter Tryd.func33, Tryd.ntmps33
  go_wp2
  go_ret
  exact ⟨rfl, rfl⟩
theorem tree_calls (f : Fn) (b c : Array Value) (w : World) : Calls Tryd.prog 34 #[.agg #[.int .i64 0, .int .u64 0, .int .u64 0], .func f b c] w fun e w' => ∃ t, e = .returned (.pointer (some ⟨t, 0, none⟩)) ∧ w.heap.size ≤ t ∧
    w'.heap[t]? = some (.cells #[.int .i64 0, .int .u64 0, .int .u64 0, .func f b c, .pointer none] 138 (0, 0)) ∧ Below w.heap.size w w' := by
  go_enter Tryd.func34, Tryd.ntmps34
  go_wp2
  go_ret
  refine ⟨_, rfl, Nat.le_succ _, ?_, below_alloc (below_alloc (Below.refl _ _) _) _⟩
  have h := heap_alloc_new (w.alloc (.cells #[.int .i64 0, .int .u64 0, .int .u64 0] 98)) (.cells #[.int .i64 0, .int .u64 0, .int .u64 0, .func f b c, .pointer none] 138)
  rwa [World.size_alloc] at h
set_option maxRecDepth 100000 in
theorem load_no (id : Int) (w : World) (h : id < 0 ∨ 8 ≤ id) : Calls Tryd.prog 25 #[.int .i64 id, .int .i64 0, .slice none 0 0] w fun e w' => e = .returned (.tuple #[.pointer none, .int .i64 1]) ∧ w' = w := by
  by_cases h1 : id < 0
  · have d1 : decide (id < 0) = true := decide_eq_true h1
    clear h
    go_enter Tryd.func25, Tryd.ntmps25
    go_wp2
    go_ret2
    exact ⟨rfl, rfl⟩
  · have h2 : 8 ≤ id := by omega
    have d1 : decide (id < 0) = false := decide_eq_false h1
    have d2 : decide (id ≥ 8) = true := decide_eq_true h2
    clear h
    go_enter Tryd.func25, Tryd.ntmps25
    go_wp2
    go_ret2
    exact ⟨rfl, rfl⟩
set_option maxRecDepth 100000 in
theorem load_calls (id : Int) (w : World) (h0 : 0 ≤ id) (h8 : id < 8) : Calls Tryd.prog 25 #[.int .i64 id, .int .i64 0, .slice none 0 0] w fun e w' => ∃ s m t, e = .returned (.tuple #[.pointer (some ⟨s, 0, none⟩), .int .i64 0]) ∧ StoreE w' s id m t ∧ Below w.heap.size w w' := by
  have d1 : decide (id < 0) = false := decide_eq_false (by omega)
  have d2 : decide (id ≥ 8) = false := decide_eq_false (by omega)
  have H0 := Aside0.mk h0
  have H8 := Aside0.mk h8
  clear h0 h8
  go_enter Tryd.func25, Tryd.ntmps25
  go_wp2_with (first
    | (go_at_call 33; refine (meter_calls _).mono ?_; rintro e w1 ⟨rfl, hm⟩; have HB1 : Aside0 (Below w.heap.size w w1) := ⟨by rw [hm]; exact below_alloc (Below.refl _ _) _⟩; clear hm)
    | ((with_reducible refine gate_dst (N := 29) rfl ?_); refine box_event ?hg (N := 29) ?hd (cs := #[.int .i64 id, .int .i64 0, .pointer (some ⟨w.heap.size, 0, none⟩), .pointer none]) (t := 92) ?hr ?_; (case hd => rfl); (case hg => rfl); (case hr => first | (go_simp; done) | (go_simp; rfl)); intro s hg w2 hbox hb; have HG : Aside0 (w.heap.size ≤ s) := ⟨by rw [hg]; exact HB1.out.size⟩; have HX := Aside0.mk hbox; have HB2 := Aside0.mk (below_step HB1.out hb); clear hb hg; have hc2 := (blk_cell hbox 2).trans (show _ = some (Value.pointer (some ⟨w.heap.size, 0, none⟩)) from rfl); clear hbox)
    | (go_at_call 34; refine (tree_calls _ _ _ _).mono ?_; rintro e w3 ⟨t, rfl, hlt, ht, hb⟩; have HL := Aside0.mk hlt; clear hlt; have HT := Aside0.mk ht; have HB3 := Aside0.mk (below_step HB2.out hb); have HX3 := Aside0.mk (blk_below HX.out hb); have hf3 := blk_frozen HX3.out 3; have hc3 := (blk_cell HX3.out 3).trans (show _ = some (Value.pointer none) from rfl); clear hb ht hc2))
  have HW : Aside0 (StoreE (w3.setCell ⟨s, 3, none⟩ (.pointer (some ⟨t, 0, none⟩))) s id (.pointer (some ⟨w.heap.size, 0, none⟩)) t ∧ Below w.heap.size w (w3.setCell ⟨s, 3, none⟩ (.pointer (some ⟨t, 0, none⟩)))) := by
    refine ⟨⟨blk_put HX3.out 3 _ rfl, ⟨_, (Below.heap_setCell _ _ _ _ ?_).trans HT.out⟩⟩, below_set HB3.out HG.out⟩
    have := blk_lt HX.out
    have := HL.out
    show t ≠ s
    omega
  go_loopw [42] (fun i wr => i = .int .i64 0 ∧ StoreE wr s id (.pointer (some ⟨w.heap.size, 0, none⟩)) t ∧ Below w.heap.size w wr) (fun _ _ => 0)
  case atStart => exact ⟨rfl, HW.out⟩
  case round =>
    obtain ⟨rfl, hS, hB⟩ := hrel
    go_wp2
    go_ret2
    exact ⟨_, _, _, rfl, hS, hB⟩
theorem new_no (id : Int) (w : World) (h : id < 0 ∨ 8 ≤ id) : Calls Tryd.prog 7 #[.int .i64 id] w fun e w' => e = .returned (.tuple #[.pointer none, .int .i64 1]) ∧ w' = w := by
  go_enter Tryd.func7, Tryd.ntmps7
  go_wp2_with (go_at_call 25; refine (load_no id _ h).mono ?_; rintro e w1 ⟨rfl, rfl⟩)
  go_ret2
  exact ⟨rfl, rfl⟩
theorem new_calls (id : Int) (w : World) (h0 : 0 ≤ id) (h8 : id < 8) : Calls Tryd.prog 7 #[.int .i64 id] w fun e w' => ∃ s m t, e = .returned (.tuple #[.pointer (some ⟨s, 0, none⟩), .int .i64 0]) ∧ StoreE w' s id m t ∧ Below w.heap.size w w' := by
  go_enter Tryd.func7, Tryd.ntmps7
  go_wp2_with (go_at_call 25; refine (load_calls id _ h0 h8).mono ?_; rintro e w1 ⟨s, m, t, rfl, hS, hB⟩)
  go_ret2
  exact ⟨_, _, _, rfl, hS, hB⟩
theorem timer_calls (w : World) : Calls Tryd.prog 39 #[] w fun e w' => ∃ g, e = .returned (.pointer (some ⟨g, 0, none⟩)) ∧ Below w.heap.size w w' := by
  have hmm := @run_makeMap Tryd.prog
  go_enter Tryd.func39, Tryd.ntmps39
  go_wp2
  go_ret
  exact ⟨_, rfl, below_alloc (below_alloc (Below.refl _ _) _) _⟩
/-- A desk without a session. -/
def DeskE (w : World) (d : Nat) : Prop := ∃ cs, w.heap[d]? = some (.cells cs 110 (0, 0)) ∧ cs[8]? = some (.slice none 0 0)
theorem DeskE.below {w W : World} {t : Nat} (h : DeskE w t) (hb : Below w.heap.size w W) : DeskE W t := by
  obtain ⟨j, h, h1⟩ := h
  exact ⟨j, blk_below h hb, h1⟩
theorem heap_at (W : World) (o : Obj) (n : Nat) (h : W.heap.size = n) : (W.alloc o).heap[n]? = some o := by subst h; exact heap_alloc_new W o
/-- A configuration's box, and what became of the world. -/
structure CfgB (w W : World) (x : Nat) (a b c d : Int) : Prop where
  box : W.heap[x]? = some (.cells #[.int .i64 a, .int .i64 b, .int .i64 c, .int .i64 d] 23 (0, 0))
  be : Below w.heap.size w W
theorem CfgB.then {w W W2 : World} {x : Nat} {a b c d : Int} (h : CfgB w W x a b c d) (hb : Below W.heap.size W W2) : CfgB w W2 x a b c d := ⟨blk_below h.box hb, below_step h.be hb⟩
theorem CfgB.alloc {w W : World} {x : Nat} {a b c d : Int} (h : CfgB w W x a b c d) (o : Obj) : CfgB w (W.alloc o) x a b c d := h.then (below_alloc (Below.refl _ _) o)
theorem CfgB.held {w W : World} {x : Nat} {a b c d : Int} (h : CfgB w W x a b c d) : W.cell? ⟨x, 0, none⟩ = some (.int .i64 a) ∧ W.cell? ⟨x, 1, none⟩ = some (.int .i64 b) ∧ W.cell? ⟨x, 2, none⟩ = some (.int .i64 c) ∧ W.cell? ⟨x, 3, none⟩ = some (.int .i64 d) ∧ Aside0 (CfgB w W x a b c d) :=
  ⟨(blk_cell h.box 0).trans rfl, (blk_cell h.box 1).trans rfl, (blk_cell h.box 2).trans rfl, (blk_cell h.box 3).trans rfl, ⟨h⟩⟩
set_option maxRecDepth 100000 in
theorem snew_calls (s : Nat) (a b c d : Int) (w : World) (hc : recon_CheckConfig.f a b c d = some 0) : Calls Tryd.prog 26 #[.pointer (some ⟨s, 0, none⟩), .agg #[.int .i64 a, .int .i64 b, .int .i64 c, .int .i64 d], .int .i64 1] w fun e w' => ∃ g, e = .returned (.tuple #[.pointer (some ⟨g, 0, none⟩), .int .i64 0]) ∧ DeskE w' g ∧ Below w.heap.size w w' := by
  have HC := Aside0.mk hc
  clear hc
  have hmm := @run_makeMap Tryd.prog
  go_enter Tryd.func26, Tryd.ntmps26
  go_wp2_with (first
    | ((with_reducible refine gate_dst (N := 4) rfl ?_); refine box_event ?hg (N := 4) ?hd (cs := #[.int .i64 a, .int .i64 b, .int .i64 c, .int .i64 d]) (t := 23) ?hr ?_; (case hd => rfl); (case hg => rfl); (case hr => first | (go_simp; done) | (go_simp; rfl)); intro x hg w2 hbox hb; have HX := Aside0.mk hbox; have HB2 := Aside0.mk hb; clear hb hg; have hc0 := (blk_cell hbox 0).trans (show _ = some (Value.int .i64 a) from rfl); have hc1 := (blk_cell hbox 1).trans (show _ = some (Value.int .i64 b) from rfl); have hc2 := (blk_cell hbox 2).trans (show _ = some (Value.int .i64 c) from rfl); have hc3 := (blk_cell hbox 3).trans (show _ = some (Value.int .i64 d) from rfl); clear hbox)
    | (go_at_call 8; refine (recon_CheckConfig.calls a b c d 0 _ HC.out).mono ?_; rintro e w3 ⟨rfl, hb⟩; have HB3 := Aside0.mk (below_step HB2.out hb); have HX3 := Aside0.mk (blk_below HX.out hb); clear hc0 hc1 hc2 hc3; have hc0 := (blk_cell HX3.out 0).trans (show _ = some (Value.int .i64 a) from rfl); have hc1 := (blk_cell HX3.out 1).trans (show _ = some (Value.int .i64 b) from rfl); have hc2 := (blk_cell HX3.out 2).trans (show _ = some (Value.int .i64 c) from rfl); have hc3 := (blk_cell HX3.out 3).trans (show _ = some (Value.int .i64 d) from rfl); clear hb))
  have HK : Aside0 (CfgB w w3.drew x a b c d) := ⟨⟨HX3.out, HB3.out.drew⟩⟩
  clear hc0 hc1 hc2 hc3
  go_region_held3 (fun W => W.cell? ⟨x, 0, none⟩ = some (.int .i64 a) ∧ W.cell? ⟨x, 1, none⟩ = some (.int .i64 b) ∧ W.cell? ⟨x, 2, none⟩ = some (.int .i64 c) ∧ W.cell? ⟨x, 3, none⟩ = some (.int .i64 d) ∧ Aside0 (CfgB w W x a b c d)) (first | exact HK4.out.held | exact (HK4.out.alloc _).held | exact ((HK4.out.alloc _).alloc _).held | exact HK.out.held | exact (HK.out.alloc _).held)
    (first | (go_at_call 39; refine (timer_calls _).mono ?_; rintro e w4 ⟨g, rfl, hb4⟩; have HK4 : Aside0 (CfgB w w4 x a b c d) := ⟨by first | exact HK.out.then hb4 | exact (HK.out.alloc _).then hb4⟩; clear hb4))
  all_goals go_wp2
  all_goals go_ret2
  · exact ⟨_, rfl, ⟨_, heap_at _ _ _ rfl, rfl⟩, (HK4.out.alloc _).be⟩
  · exact ⟨_, rfl, ⟨_, heap_at _ _ _ (World.size_alloc _ _), rfl⟩, ((HK4.out.alloc _).alloc _).be⟩
/-- A node without a session. -/
def nodeC (a b c d : Int) (s : Nat) (dk : Value) (life : Int) : Array Value := #[.int .i64 a, .int .i64 b, .int .i64 c, .int .i64 d, .pointer (some ⟨s, 0, none⟩), dk, .slice none 0 0, .int .i64 life, .int .i64 0, .int .i64 0, .int .i64 0, .int .i64 0, .int .i64 0, .int .i64 0, .int .i64 0, .int .i64 0, .int .i64 0, .int .i64 0]
theorem DeskE.set {W : World} {g n : Nat} {cs : Array Value} (h : DeskE W g) (hn : W.heap[n]? = some (.cells cs 44 (0, 0))) (i : Nat) (v : Value) : DeskE (W.setCell ⟨n, i, none⟩ v) g := by
  obtain ⟨ds, h, h1⟩ := h
  have hne : g ≠ n := by
    rintro rfl
    have := h.symm.trans hn
    injection this with this
    injection this with _ ht
    exact absurd ht (by decide)
  exact ⟨ds, blk_far h hne _, h1⟩
/-- A node's block, and what became of the world. -/
structure NdB (w W : World) (n s : Nat) (a b c d : Int) (dk : Value) : Prop where
  box : W.heap[n]? = some (.cells (nodeC a b c d s dk 1) 44 (0, 0))
  be : Below n w W
section
variable {w W W2 : World} {n s : Nat} {a b c d : Int} {dk : Value}
theorem NdB.then (h : NdB w W n s a b c d dk) (hb : Below W.heap.size W W2) : NdB w W2 n s a b c d dk := ⟨blk_below h.box hb, h.be.trans (hb.mono (Nat.le_of_lt (blk_lt h.box)))⟩
theorem NdB.set (h : NdB w W n s a b c d dk) (g : Nat) : NdB w (W.setCell ⟨n, 5, none⟩ (.pointer (some ⟨g, 0, none⟩))) n s a b c d (.pointer (some ⟨g, 0, none⟩)) := ⟨blk_put h.box 5 _ rfl, h.be.setCell (p := ⟨n, 5, none⟩) (Nat.le_refl n) _⟩
theorem NdB.held (h : NdB w W n s a b c d dk) : W.cell? ⟨n, 0, none⟩ = some (.int .i64 a) ∧ W.cell? ⟨n, 1, none⟩ = some (.int .i64 b) ∧ W.cell? ⟨n, 2, none⟩ = some (.int .i64 c) ∧ W.cell? ⟨n, 3, none⟩ = some (.int .i64 d) ∧ W.cell? ⟨n, 4, none⟩ = some (.pointer (some ⟨s, 0, none⟩)) ∧ W.cell? ⟨n, 7, none⟩ = some (.int .i64 1) ∧ W.frozen? ⟨n, 5, none⟩ = false :=
  ⟨(blk_cell h.box 0).trans rfl, (blk_cell h.box 1).trans rfl, (blk_cell h.box 2).trans rfl, (blk_cell h.box 3).trans rfl, (blk_cell h.box 4).trans rfl, (blk_cell h.box 7).trans rfl, blk_frozen h.box 5⟩
end
set_option maxRecDepth 100000 in
theorem begins_calls (n s : Nat) (a b c d : Int) (w : World) (hc : recon_CheckConfig.f a b c d = some 0) (hn : w.heap[n]? = some (.cells (nodeC a b c d s (.pointer none) 0) 44 (0, 0))) :
    Calls Tryd.prog 9 #[.pointer (some ⟨n, 0, none⟩)] w fun e w' => e = .returned (.tuple #[]) ∧ ∃ g, w'.heap[n]? = some (.cells (nodeC a b c d s (.pointer (some ⟨g, 0, none⟩)) 1) 44 (0, 0)) ∧ DeskE w' g ∧ Below n w w' := by
  have HC := Aside0.mk hc
  have HN := Aside0.mk hn
  have hc7 := (blk_cell hn 7).trans (show _ = some (Value.int .i64 0) from rfl)
  have hf7 := blk_frozen hn 7
  clear hc hn
  go_enter Tryd.func9, Tryd.ntmps9
  go_wp2
  have HK : Aside0 (NdB w (w.setCell ⟨n, 7, none⟩ (.int .i64 1)).drew n s a b c d (.pointer none)) := ⟨⟨blk_drew (blk_put HN.out 7 _ rfl), ((Below.refl n w).setCell (p := ⟨n, 7, none⟩) (Nat.le_refl n) _).drew⟩⟩
  clear hc7 hf7
  go_region_held3 (fun W => W.cell? ⟨n, 0, none⟩ = some (.int .i64 a) ∧ W.cell? ⟨n, 1, none⟩ = some (.int .i64 b) ∧ W.cell? ⟨n, 2, none⟩ = some (.int .i64 c) ∧ W.cell? ⟨n, 3, none⟩ = some (.int .i64 d) ∧ W.cell? ⟨n, 4, none⟩ = some (.pointer (some ⟨s, 0, none⟩)) ∧ W.cell? ⟨n, 7, none⟩ = some (.int .i64 1) ∧ W.frozen? ⟨n, 5, none⟩ = false) (first | exact HK.out.held | exact HK4.out.held | exact (HK4.out.set g).held)
    (first | (go_at_call 26; refine (snew_calls s a b c d _ HC.out).mono ?_; rintro e w4 ⟨g, rfl, hd, hb4⟩; have HD := Aside0.mk hd; have HK4 : Aside0 (NdB w w4 n s a b c d (.pointer none)) := ⟨HK.out.then hb4⟩; have hc5 : w4.cell? ⟨n, 5, none⟩ = some (.pointer none) := (blk_cell HK4.out.box 5).trans rfl; clear hd hb4))
  first | go_end0 | ((try simp only [Exit.inBlock, Exit.then]); refine bodyPost_ret (results_none rfl _ _ _) rfl ?_)
  exact ⟨rfl, g, (HK4.out.set g).box, HD.out.set HK4.out.box _ _, (HK4.out.set g).be⟩
/-- A new node. -/
structure NodeE (W : World) (n s g t : Nat) (a b c d id : Int) (m : Value) : Prop where
  box : W.heap[n]? = some (.cells (nodeC a b c d s (.pointer (some ⟨g, 0, none⟩)) 1) 44 (0, 0))
  store : StoreE W s id m t
  desk : DeskE W g
theorem NodeE.below {w W : World} {n s g t : Nat} {a b c d id : Int} {m : Value} (h : NodeE w n s g t a b c d id m) (hb : Below w.heap.size w W) : NodeE W n s g t a b c d id m := ⟨blk_below h.box hb, h.store.below hb, h.desk.below hb⟩
/-- Is this a node? -/
def good (id a b c d : Int) : Prop := 0 ≤ id ∧ id < 8 ∧ recon_CheckConfig.f a b c d = some 0
set_option maxRecDepth 100000 in
theorem node_calls (id a b c d : Int) (w : World) (h : good id a b c d) : Calls Tryd.prog 4 #[.int .i64 id, .agg #[.int .i64 a, .int .i64 b, .int .i64 c, .int .i64 d]] w fun e w' => ∃ n s g t m, e = .returned (.tuple #[.pointer (some ⟨n, 0, none⟩), .int .i64 0]) ∧ NodeE w' n s g t a b c d id m ∧ Below w.heap.size w w' := by
  have HG := Aside0.mk h
  clear h
  go_enter Tryd.func4, Tryd.ntmps4
  go_wp2_with (first
    | ((with_reducible refine gate_dst (N := 3) rfl ?_); refine box_event ?hg (N := 3) ?hd (cs := #[.int .i64 a, .int .i64 b, .int .i64 c, .int .i64 d]) (t := 23) ?hr ?_; (case hd => rfl); (case hg => rfl); (case hr => first | (go_simp; done) | (go_simp; rfl)); intro x hg w2 hbox hb; have HK : Aside0 (CfgB w w2 x a b c d) := ⟨⟨hbox, hb⟩⟩; clear hb hg hbox)
    | (go_at_call 7; refine (new_calls id _ HG.out.1 HG.out.2.1).mono ?_; rintro e w3 ⟨s, m, t, rfl, hS, hb⟩; have HS := Aside0.mk hS; have HK3 := Aside0.mk (HK.out.then hb); obtain ⟨hc0, hc1, hc2, hc3, _⟩ := HK3.out.held; clear hb hS)
    | (go_at_call 8; refine (recon_CheckConfig.calls a b c d 0 _ HG.out.2.2).mono ?_; rintro e w4 ⟨rfl, hb⟩; have HS4 := Aside0.mk (HS.out.below hb); have HK4 := Aside0.mk (HK3.out.then hb); clear hc0 hc1 hc2 hc3; obtain ⟨hc0, hc1, hc2, hc3, _⟩ := HK4.out.held; clear hb)
    | ((with_reducible refine gate_dst (N := 24) rfl ?_); refine box_event ?hg (N := 24) ?hd (cs := nodeC a b c d s (.pointer none) 0) (t := 44) ?hr ?_; (case hd => rfl); (case hg => rfl); (case hr => first | (go_simp; done) | (go_simp; rfl)); intro n hg w5 hbox hb; have HX := Aside0.mk hbox; have HY := Aside0.mk hb; have HZ := Aside0.mk hg; clear hb hg hbox hc0 hc1 hc2 hc3)
    | (go_at_call 9; refine (begins_calls n s a b c d _ HG.out.2.2 HX.out).mono ?_; rintro e w6 ⟨rfl, g, hb, hd, hbe⟩; have HE : Aside0 (NodeE w6 n s g t a b c d id m ∧ Below w.heap.size w w6) := ⟨⟨hb, HS4.out.below (HY.out.trans (HZ.out ▸ hbe)), hd⟩, HK4.out.be.trans ((HY.out.trans (HZ.out ▸ hbe)).mono HK4.out.be.size)⟩; clear hb hd hbe))
  go_ret2
  exact ⟨n, s, g, t, m, rfl, HE.out⟩
theorem check_two (a b c d : Int) : recon_CheckConfig.f a b c d = some 0 ∨ recon_CheckConfig.f a b c d = some 1 := by
  unfold recon_CheckConfig.f
  (repeat' split) <;> first | exact .inl rfl | exact .inr rfl
set_option maxRecDepth 100000 in
theorem node_no (id a b c d : Int) (w : World) (h : ¬ good id a b c d) : Calls Tryd.prog 4 #[.int .i64 id, .agg #[.int .i64 a, .int .i64 b, .int .i64 c, .int .i64 d]] w fun e w' => e = .returned (.tuple #[.pointer none, .int .i64 1]) ∧ Below w.heap.size w w' := by
  by_cases h1 : id < 0 ∨ 8 ≤ id
  · go_enter Tryd.func4, Tryd.ntmps4
    go_wp2_with (first
      | ((with_reducible refine gate_dst (N := 3) rfl ?_); refine box_event ?hg (N := 3) ?hd (cs := #[.int .i64 a, .int .i64 b, .int .i64 c, .int .i64 d]) (t := 23) ?hr ?_; (case hd => rfl); (case hg => rfl); (case hr => first | (go_simp; done) | (go_simp; rfl)); intro x hg w2 hbox hb; have HK := Aside0.mk hb; clear hb hg hbox)
      | (go_at_call 7; refine (new_no id _ h1).mono ?_; rintro e w3 ⟨rfl, rfl⟩))
    go_ret2
    exact ⟨rfl, HK.out⟩
  · have h0 : 0 ≤ id ∧ id < 8 := by omega
    have h2 : recon_CheckConfig.f a b c d = some 1 := by
      rcases check_two a b c d with h3 | h3
      · exact absurd ⟨h0.1, h0.2, h3⟩ h
      · exact h3
    have H0 := Aside0.mk h0
    have HC := Aside0.mk h2
    clear h h1 h0 h2
    go_enter Tryd.func4, Tryd.ntmps4
    go_wp2_with (first
      | ((with_reducible refine gate_dst (N := 3) rfl ?_); refine box_event ?hg (N := 3) ?hd (cs := #[.int .i64 a, .int .i64 b, .int .i64 c, .int .i64 d]) (t := 23) ?hr ?_; (case hd => rfl); (case hg => rfl); (case hr => first | (go_simp; done) | (go_simp; rfl)); intro x hg w2 hbox hb; have HK : Aside0 (CfgB w w2 x a b c d) := ⟨⟨hbox, hb⟩⟩; clear hb hg hbox)
      | (go_at_call 7; refine (new_calls id _ H0.out.1 H0.out.2).mono ?_; rintro e w3 ⟨s, m, t, rfl, hS, hb⟩; have HK3 := Aside0.mk (HK.out.then hb); obtain ⟨hc0, hc1, hc2, hc3, _⟩ := HK3.out.held; clear hb hS)
      | (go_at_call 8; refine (recon_CheckConfig.calls a b c d 1 _ HC.out).mono ?_; rintro e w4 ⟨rfl, hb⟩; have HK4 := Aside0.mk (HK3.out.then hb); clear hc0 hc1 hc2 hc3 hb))
    go_ret2
    exact ⟨rfl, HK4.out.be⟩
end Go.Proofs.YtdkkpngmplehfaaDoor.Nd
