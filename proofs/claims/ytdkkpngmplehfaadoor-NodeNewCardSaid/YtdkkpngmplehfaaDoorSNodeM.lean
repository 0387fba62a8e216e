-- By wip/late.py (a program of this session) out of wip/words.
import Derived.Test.YtdkkpngmplehfaaDoorProg
import Derived.Test.YtdkkpngmplehfaaDoorWWords
import Derived.Test.YtdkkpngmplehfaaDoorWLast
import Derived.Test.YtdkkpngmplehfaaDoorWMore
import Derived.Test.YtdkkpngmplehfaaDoorPAllx1
import Derived.Test.YtdkkpngmplehfaaDoorSNodeA
import Derived.Test.YtdkkpngmplehfaaDoorSNodeB
import Derived.Test.YtdkkpngmplehfaaDoorSNodeD
import Derived.Below
import Derived.RangeFuncBox
import Derived.RangeFuncNested
import Derived.RangeFuncLeaves
import Derived.OwnWalkIn
import Derived.TacticsInMore
import Derived.LoopNIn
import Derived.LoopIn
import Derived.BigFrameIn
import Derived.BigQuiet
import Derived.Deep.QuietTactic
import Derived.Lib.Hide
import Derived.Tactics
import Derived.WalkKit
import Derived.OwnWalk
import Derived.BigRegion
import Derived.RegionTactic
import Derived.Deep.RegionWith
import Derived.Deep.RegionHeld
import Derived.Deep.RegionHeld3
import Derived.Laws.EntriesVeiled
import Derived.Shelf.Abstract
set_option linter.unusedVariables false
set_option linter.unusedSimpArgs false
namespace Go.Proofs.YtdkkpngmplehfaaDoor.Nd
open Go.RowKit Go.Shelf Go.Proofs.YtdkkpngmplehfaaDoorW.PrintWords Go.Proofs.YtdkkpngmplehfaaDoor.PAll
attribute [local go_sem] Oper.semAt_some
/-! The map of a new node: no row. -/
/-- A range over a function that comes back without a round. -/
theorem wpIn_rangeFunc_none {F : Fence} {n : Nat} {P : Program} {g : Operand} {ps : Array Tmp} {assign body : Code} {Q : Exit → Act → World → Prop} {a : Act} {w : World}
    (hro : F.round = none) (h1 : 1 ≤ n) {gf : Nat} {lb : Array Value} (hg : a.eval g = .func (.func gf) #[] lb) (hFg : F.fn gf) (eg : ∀ args w, (callFunc gf args).run P w = .ok (.enter gf args) w)
    (hcall : ∀ l W, Below w.heap.size w W → CallsIn F (n - 1) P gf (#[.func (.yield l) #[] #[]] ++ lb) W fun e W' => (∃ v, e = .returned v) ∧ Below W.heap.size W W')
    (hdone : ∀ D W, w.heap.size ≤ D → Below w.heap.size w W → W.heap[D]? = some (.deferred (some [])) → Q .normal { a with defers := { target := .collected D, args := #[] } :: a.defers } W) :
    (Code.rangeFunc g ps assign body).wpIn F n P Q a w := by
  refine wpIn_rangeFunc ?_
  intro fn hfn
  rw [hro]
  obtain ⟨rec, hrec⟩ : ∃ rec : LoopState → Option Code → Loop, rec = fun st pe => { state := st, pending := pe, fn, tmps := a.tmps, params := ps, assign, body, defers := w.heap.size } := ⟨_, rfl⟩
  obtain ⟨W1, hW1⟩ : ∃ W1, (w.alloc (.deferred (some []))).alloc (.loop (rec .ready none)) = W1 := ⟨_, rfl⟩
  have hL1 : W1.heap[w.heap.size + 1]? = some (.loop (rec .ready none)) := by
    rw [← hW1]; have := World.alloc_heap_new (w.alloc (.deferred (some []))) (.loop (rec .ready none)); rwa [World.size_alloc] at this
  have hK1 : W1.heap[w.heap.size]? = some (.deferred (some [])) := by
    rw [← hW1]; exact (Below.heap_alloc _ _ _ (by simp)).trans (World.alloc_heap_new w _)
  have hb1 : Below w.heap.size w W1 := by rw [← hW1]; exact below_alloc (below_alloc (Below.refl _ _) _) _
  have hs1 : W1.heap.size = w.heap.size + 2 := by rw [← hW1]; simp
  refine ⟨w.heap.size + 1, [{ target := .collected w.heap.size, args := #[] }], W1, { target := .fn (.func gf) lb, args := #[.func (.yield (w.heap.size + 1)) #[] #[]] }, W1, gf,
    #[.func (.yield (w.heap.size + 1)) #[] #[]] ++ lb, W1, ?_, ?_, ?_, ?_, fun _ => h1, ?_⟩
  · rw [← hW1, hrec]; exact run_enterLoop_outer _ _ _ _ _
  · simp only [resolve, hg]
    simp [go_sem]
  · intro f' hf'; simp [Target.leads] at hf'; subst hf'; exact hFg
  · simp [invoke, go_sem, eg]
  · refine (hcall (w.heap.size + 1) W1 hb1).mono ?_
    rintro e W2 ⟨⟨v, rfl⟩, hb2⟩
    have hl := (hb2.block (w.heap.size + 1) (by omega)).trans hL1
    have hk := (hb2.block w.heap.size (by omega)).trans hK1
    refine ⟨none, _, by have := run_endLoop (P := P) hl (by rw [hrec]; simp); rw [hrec] at this; exact this, hdone _ _ (Nat.le_refl _) ?_ ((World.putObj_heap_other (by omega)).trans hk)⟩
    exact (below_step hb1 hb2).trans (belowK_b (w := w) (Nat.le_refl _) _ (w.heap.size + 1) _ _ (by omega) hl rfl rfl)
/-- An empty tree's walk. -/
theorem walk_calls (f : Value) (w : World) : Calls Tryd.prog 59 #[.pointer none, .int .i64 0, .int .i64 0, f] w fun e w' => e = .returned (.bool true) ∧ w' = w := by
  go_enter Tryd.func59, Tryd.ntmps59
  go_wp2
  go_ret
  exact ⟨rfl, rfl⟩
theorem span1_calls {w : World} {p i j : Nat} {f : Value} (h1 : w.cell? ⟨p, 0, none⟩ = some (.pointer none)) (h2 : w.cell? ⟨i, 0, none⟩ = some (.int .i64 0)) (h3 : w.cell? ⟨j, 0, none⟩ = some (.int .i64 0)) :
    Calls Tryd.prog 58 #[f, .pointer (some ⟨p, 0, none⟩), .pointer (some ⟨i, 0, none⟩), .pointer (some ⟨j, 0, none⟩)] w fun e w' => e = .returned (.tuple #[]) ∧ w' = w := by
  go_enter Tryd.func58, Tryd.ntmps58
  go_wp2_with (go_at_call 59; refine (walk_calls f _).mono ?_; rintro e w1 ⟨rfl, rfl⟩)
  first | go_end0 | ((try simp only [Exit.inBlock, Exit.then]); refine bodyPost_ret (results_none rfl _ _ _) rfl ?_)
  exact ⟨rfl, rfl⟩
theorem all1_calls {w : World} {b p i j l : Nat} (hb : w.cell? ⟨b, 0, none⟩ = some (.func (.func 58) #[] #[.pointer (some ⟨p, 0, none⟩), .pointer (some ⟨i, 0, none⟩), .pointer (some ⟨j, 0, none⟩)]))
    (h1 : w.cell? ⟨p, 0, none⟩ = some (.pointer none)) (h2 : w.cell? ⟨i, 0, none⟩ = some (.int .i64 0)) (h3 : w.cell? ⟨j, 0, none⟩ = some (.int .i64 0)) :
    Calls Tryd.prog 47 #[.func (.yield l) #[] #[], .pointer (some ⟨b, 0, none⟩)] w fun e w' => (∃ v, e = .returned v) ∧ Below w.heap.size w w' := by
  refine (callsIn_wide (n := 5)).1 ?_
  refine callsIn_of_wp_marks Tryd.func47 rfl trivial ?_ rfl
  simp only [Tryd.ntmps47, List.size_toArray, List.length_cons, List.length_nil, Nat.reduceAdd, Nat.reduceSub, Array.replicate_succ, Array.replicate_zero, List.push_toArray, List.append_toArray, List.nil_append, List.cons_append]
  have hB := below_alloc (Below.refl w.heap.size w) (.cells #[.func (.yield l) #[] #[]] 131)
  have H1 := Aside0.mk ((hB.cell (World.block_lt_of_cell? w _ h1)).trans h1)
  have H2 := Aside0.mk ((hB.cell (World.block_lt_of_cell? w _ h2)).trans h2)
  have H3 := Aside0.mk ((hB.cell (World.block_lt_of_cell? w _ h3)).trans h3)
  have hcb := (hB.cell (World.block_lt_of_cell? w _ hb)).trans hb
  have HB := Aside0.mk hB
  clear h1 h2 h3 hb hB
  gi_wp2
  refine wpIn_rangeFunc_none rfl (by omega) (gf := 58) (lb := #[.pointer (some ⟨p, 0, none⟩), .pointer (some ⟨i, 0, none⟩), .pointer (some ⟨j, 0, none⟩)]) rfl trivial (enters_of Tryd.func58 (by kernel_rfl) rfl) ?_ ?_
  · intro l2 W hb
    refine (callsIn_wide.2 (span1_calls ((hb.cell (World.block_lt_of_cell? _ _ H1.out)).trans H1.out) ((hb.cell (World.block_lt_of_cell? _ _ H2.out)).trans H2.out) ((hb.cell (World.block_lt_of_cell? _ _ H3.out)).trans H3.out))).mono ?_
    rintro e w1 ⟨rfl, rfl⟩
    exact ⟨⟨_, rfl⟩, Below.refl _ _⟩
  · intro D W hD hb hK
    have hb2 := HB.out.trans (hb.mono HB.out.size)
    refine ⟨by simp, .inl ⟨_, _, rfl, run_takeDeferred hK, ?_⟩⟩
    refine ⟨.tuple #[], by simp [results, Tryd.f47, go_sem], ⟨_, rfl⟩, ?_⟩
    exact hb2.trans (belowK_b (w := w) (Nat.le_refl _) _ D _ _ (Nat.le_trans HB.out.size hD) hK rfl rfl)
theorem seq_calls {w : World} {b p i j : Nat} (hb : w.cell? ⟨b, 0, none⟩ = some (.func (.func 58) #[] #[.pointer (some ⟨p, 0, none⟩), .pointer (some ⟨i, 0, none⟩), .pointer (some ⟨j, 0, none⟩)]))
    (h1 : w.cell? ⟨p, 0, none⟩ = some (.pointer none)) (h2 : w.cell? ⟨i, 0, none⟩ = some (.int .i64 0)) (h3 : w.cell? ⟨j, 0, none⟩ = some (.int .i64 0)) :
    Calls Tryd.prog 48 #[.slice none 0 0, .func (.func 47) #[] #[.pointer (some ⟨b, 0, none⟩)]] w fun e w' => e = .returned (.slice none 0 0) ∧ Below w.heap.size w w' := by
  refine (callsIn_wide (n := 5)).1 ?_
  refine callsIn_of_wp_marks Tryd.func48 rfl trivial ?_ rfl
  simp only [Tryd.ntmps48, List.size_toArray, List.length_cons, List.length_nil, Nat.reduceAdd, Nat.reduceSub, Array.replicate_succ, Array.replicate_zero, List.push_toArray, List.append_toArray, List.nil_append, List.cons_append]
  have hB := below_alloc (Below.refl w.heap.size w) (.cells #[.slice none 0 0] 59)
  have H0 := Aside0.mk ((hB.cell (World.block_lt_of_cell? w _ hb)).trans hb)
  have H1 := Aside0.mk ((hB.cell (World.block_lt_of_cell? w _ h1)).trans h1)
  have H2 := Aside0.mk ((hB.cell (World.block_lt_of_cell? w _ h2)).trans h2)
  have H3 := Aside0.mk ((hB.cell (World.block_lt_of_cell? w _ h3)).trans h3)
  have HB := Aside0.mk hB
  have HX := Aside0.mk (heap_alloc_new w (.cells #[.slice none 0 0] 59))
  clear h1 h2 h3 hb hB
  gi_wp2
  refine wpIn_rangeFunc_none rfl (by omega) (gf := 47) (lb := #[.pointer (some ⟨b, 0, none⟩)]) rfl trivial (enters_of Tryd.func47 (by kernel_rfl) rfl) ?_ ?_
  · intro l2 W hb
    exact callsIn_wide.2 (all1_calls ((hb.cell (World.block_lt_of_cell? _ _ H0.out)).trans H0.out) ((hb.cell (World.block_lt_of_cell? _ _ H1.out)).trans H1.out) ((hb.cell (World.block_lt_of_cell? _ _ H2.out)).trans H2.out) ((hb.cell (World.block_lt_of_cell? _ _ H3.out)).trans H3.out))
  · intro D W hD hb hK
    have hx := (blk_cell (blk_below HX.out hb) 0).trans (show _ = some (Value.slice none 0 0) from rfl)
    have HBW := Aside0.mk (HB.out.trans (hb.mono HB.out.size))
    have HK := Aside0.mk hK
    have HD := Aside0.mk (Nat.le_trans HB.out.size hD)
    clear hb hK hD
    gi_wp2
    refine ⟨by simp, .inl ⟨_, _, rfl, run_takeDeferred HK.out, ?_⟩⟩
    refine ⟨.slice none 0 0, by simp [results, Tryd.f48, go_sem], rfl, ?_⟩
    exact HBW.out.trans (belowK_b (w := w) (Nat.le_refl _) _ D _ _ HD.out HK.out rfl rfl)
theorem collect_calls {w : World} {b p i j : Nat} (hb : w.cell? ⟨b, 0, none⟩ = some (.func (.func 58) #[] #[.pointer (some ⟨p, 0, none⟩), .pointer (some ⟨i, 0, none⟩), .pointer (some ⟨j, 0, none⟩)]))
    (h1 : w.cell? ⟨p, 0, none⟩ = some (.pointer none)) (h2 : w.cell? ⟨i, 0, none⟩ = some (.int .i64 0)) (h3 : w.cell? ⟨j, 0, none⟩ = some (.int .i64 0)) :
    Calls Tryd.prog 31 #[.func (.func 47) #[] #[.pointer (some ⟨b, 0, none⟩)]] w fun e w' => e = .returned (.slice none 0 0) ∧ Below w.heap.size w w' := by
  have hs := seq_calls hb h1 h2 h3
  clear hb h1 h2 h3
  go_enter Tryd.func31, Tryd.ntmps31
  go_wp2_with (go_at_call 48; refine hs.mono ?_; rintro e w1 ⟨rfl, hb⟩)
  go_ret
  exact ⟨rfl, hb⟩
section
variable {w : World} {n s g t : Nat} {a b c d id : Int} {m : Value}
theorem map_calls (h : NodeE w n s g t a b c d id m) : Calls Tryd.prog 23 #[.pointer (some ⟨n, 0, none⟩)] w fun e w' => e = .returned (.slice none 0 0) ∧ Below w.heap.size w w' := by
  have HN := Aside0.mk h
  have hc4 := (blk_cell h.box 4).trans (show _ = some (Value.pointer (some ⟨s, 0, none⟩)) from rfl)
  clear h
  go_enter Tryd.func23, Tryd.ntmps23
  go_wp2
  have HK : Aside0 (NodeE w.drew n s g t a b c d id m ∧ Below w.heap.size w w.drew) := ⟨HN.out.below (Below.refl _ _).drew, (Below.refl _ _).drew⟩
  go_region_held3 (fun W => W.cell? ⟨n, 4, none⟩ = some (.pointer (some ⟨s, 0, none⟩)) ∧ Aside0 (NodeE W n s g t a b c d id m ∧ Below w.heap.size w W)) (first | exact ⟨(blk_cell HK5.out.1.box 4).trans rfl, HK5⟩ | exact ⟨(blk_cell HK4.out.1.box 4).trans rfl, HK4⟩ | exact ⟨hc4, HK⟩)
    (first
    | (go_at_call 30; refine (whole_calls _).mono ?_; rintro e w4 ⟨rfl, hb⟩; have HK4 : Aside0 (NodeE w4 n s g t a b c d id m ∧ Below w.heap.size w w4) := ⟨HK.out.1.below hb, below_step HK.out.2 hb⟩; clear hb)
    | (go_at_call 29; refine (sall_calls HK4.out.1.store).mono ?_; rintro e w5 ⟨x, p, i, j, rfl, hx, h3⟩; have HK5 : Aside0 (NodeE w5 n s g t a b c d id m ∧ Below w.heap.size w w5) := ⟨HK4.out.1.below h3.be, below_step HK4.out.2 h3.be⟩; have HX := Aside0.mk hx; have H3 := Aside0.mk h3; clear hx h3))
  all_goals go_wp2_with (go_at_call 31; refine (collect_calls HX.out H3.out.held.1 H3.out.held.2.1 H3.out.held.2.2.1).mono ?_; rintro e w6 ⟨rfl, hb⟩; have HB := Aside0.mk (below_step HK5.out.2 hb); clear hb)
  all_goals go_ret
  all_goals exact ⟨rfl, HB.out⟩
theorem rall_calls (h : RStoreE w s id) : Calls Tryd.prog 32 #[.pointer (some ⟨s, 0, none⟩), wholeV] w fun e w' => e = .returned (.tuple #[.slice none 0 0, .int .i64 0]) ∧ Below w.heap.size w w' := by
  have HS := Aside0.mk h
  clear h
  unfold wholeV
  go_enter Tryd.func32, Tryd.ntmps32
  go_wp2_with (first
    | ((with_reducible refine gate_dst (N := 3) rfl ?_); refine box_event ?hg (N := 3) ?hd (cs := #[.string ⟨#[]⟩, .string ⟨#[]⟩, .bool true]) (t := 83) ?hr ?_; (case hd => rfl); (case hg => rfl); (case hr => first | (go_simp; done) | (go_simp; rfl)); intro x hg w2 hbox hb; have HX := Aside0.mk hbox; have HB2 := Aside0.mk hb; clear hb hg; have hc0 := (blk_cell hbox 0).trans (show _ = some (Value.string ⟨#[]⟩) from rfl); have hc1 := (blk_cell hbox 1).trans (show _ = some (Value.string ⟨#[]⟩) from rfl); have hc2 := (blk_cell hbox 2).trans (show _ = some (Value.bool true) from rfl); clear hbox)
    | (go_at_call 49; refine (tidelineref02_Check.calls 9 _ _ _ 0 _ rwhole_f).mono ?_; rintro e w3 ⟨rfl, hb⟩; have HB3 := Aside0.mk (below_step HB2.out hb); clear hc0 hc1 hc2 hb; have hs2 := (blk_cell (blk_below HS.out HB3.out) 2).trans (show _ = some (Value.slice none 0 0) from rfl)))
  go_loopw [7, 20] (fun o i wr => o = .slice none 0 0 ∧ i = .int .i64 0 ∧ wr = w3) (fun _ _ _ => 0)
  case atStart => exact ⟨rfl, rfl, rfl⟩
  case round =>
    obtain ⟨rfl, rfl, rfl⟩ := hrel
    go_wp2
    go_ret2
    exact ⟨rfl, HB3.out⟩
theorem rmap_calls (h : RNodeE w n s g a b c d id) : Calls Tryd.prog 24 #[.pointer (some ⟨n, 0, none⟩)] w fun e w' => e = .returned (.slice none 0 0) ∧ Below w.heap.size w w' := by
  have HN := Aside0.mk h
  have hc4 := (blk_cell h.box 4).trans (show _ = some (Value.pointer (some ⟨s, 0, none⟩)) from rfl)
  clear h
  go_enter Tryd.func24, Tryd.ntmps24
  go_wp2_with (go_at_call 32; refine (rall_calls HN.out.store).mono ?_; rintro e w5 ⟨rfl, hb⟩; have HB := Aside0.mk hb; clear hb)
  go_ret
  exact ⟨rfl, HB.out⟩
end
end Go.Proofs.YtdkkpngmplehfaaDoor.Nd
