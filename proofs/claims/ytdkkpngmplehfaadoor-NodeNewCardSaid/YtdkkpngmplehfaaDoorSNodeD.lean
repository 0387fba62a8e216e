-- By wip/late.py (a program of this session) out of wip/words.
import Derived.Test.YtdkkpngmplehfaaDoorProg
import Derived.Test.YtdkkpngmplehfaaDoorWWords
import Derived.Test.YtdkkpngmplehfaaDoorWLast
import Derived.Test.YtdkkpngmplehfaaDoorWMore
import Derived.Test.YtdkkpngmplehfaaDoorPAllx1
import Derived.Test.YtdkkpngmplehfaaDoorSNodeA
import Derived.Test.YtdkkpngmplehfaaDoorSNodeB
import Derived.Below
import Derived.RangeFuncBox
import Derived.RangeFuncNested
import Derived.RangeFuncLeaves
import Derived.OwnWalkIn
import Derived.TacticsInMore
import Derived.LoopNIn
import Derived.LoopIn
import Derived.BigFrameIn
import Derived.BigQuiet
import Derived.Deep.QuietTactic
import Derived.Lib.Hide
import Derived.Tactics
import Derived.WalkKit
import Derived.OwnWalk
import Derived.BigRegion
import Derived.RegionTactic
import Derived.Deep.RegionWith
import Derived.Deep.RegionHeld
import Derived.Deep.RegionHeld3
import Derived.Laws.EntriesVeiled
set_option linter.unusedVariables false
set_option linter.unusedSimpArgs false
namespace Go.Proofs.YtdkkpngmplehfaaDoor.Nd
open Go.RowKit Go.Proofs.YtdkkpngmplehfaaDoorW.PrintWords Go.Proofs.YtdkkpngmplehfaaDoor.PAll
/-! The map of a new node: no row. -/
def nobytes : ByteArray := ⟨#[]⟩
def wholeV : Value := .agg #[.string ⟨#[]⟩, .string ⟨#[]⟩, .bool true]
theorem whole_f : span_Check.f 9 ⟨#[]⟩ ⟨#[]⟩ true = some 0 := by decide +kernel
theorem rwhole_f : tidelineref02_Check.f 9 ⟨#[]⟩ ⟨#[]⟩ true = some 0 := by decide +kernel
theorem many_calls (w : World) : Calls Tryd.prog 57 #[.pointer none] w fun e w' => e = .returned (.int .i64 0) ∧ w' = w := by
  go_enter Tryd.func57, Tryd.ntmps57
  go_wp2
  go_ret
  exact ⟨rfl, rfl⟩
theorem len_calls {w : World} {t : Nat} (h : TreeE w t) : Calls Tryd.prog 61 #[.pointer (some ⟨t, 0, none⟩)] w fun e w' => e = .returned (.int .i64 0) ∧ w' = w := by
  obtain ⟨j, h⟩ := h
  have hc := (blk_cell h 4).trans (show _ = some (Value.pointer none) from rfl)
  clear h
  go_enter Tryd.func61, Tryd.ntmps61
  go_wp2_with (go_at_call 57; refine (many_calls _).mono ?_; rintro e w1 ⟨rfl, rfl⟩)
  go_ret
  exact ⟨rfl, rfl⟩
theorem rank_calls {w : World} {t : Nat} (h : TreeE w t) (s : ByteArray) : Calls Tryd.prog 60 #[.pointer (some ⟨t, 0, none⟩), .string s] w fun e w' => e = .returned (.int .i64 0) ∧ w' = w := by
  obtain ⟨j, h⟩ := h
  have hc := (blk_cell h 4).trans (show _ = some (Value.pointer none) from rfl)
  clear h
  go_enter Tryd.func60, Tryd.ntmps60
  go_wp2
  go_loopw [5, 6] (fun i p wr => i = .int .i64 0 ∧ p = .pointer none ∧ wr = w) (fun _ _ _ => 0)
  case atStart => exact ⟨rfl, rfl, rfl⟩
  case round =>
    obtain ⟨rfl, rfl, rfl⟩ := hrel
    go_wp2
    go_ret
    exact ⟨rfl, rfl⟩
set_option maxRecDepth 100000 in
theorem srank_calls {w : World} {s t : Nat} {id : Int} {m : Value} (h : StoreE w s id m t) : Calls Tryd.prog 46 #[.pointer (some ⟨s, 0, none⟩), wholeV] w fun e w' => e = .returned (.tuple #[.int .i64 0, .int .i64 0]) ∧ Below w.heap.size w w' := by
  have HS := Aside0.mk h
  clear h
  unfold wholeV
  go_enter Tryd.func46, Tryd.ntmps46
  go_wp2_with ((with_reducible refine gate_dst (N := 3) rfl ?_); refine box_event ?hg (N := 3) ?hd (cs := #[.string ⟨#[]⟩, .string ⟨#[]⟩, .bool true]) (t := 83) ?hr ?_; (case hd => rfl); (case hg => rfl); (case hr => first | (go_simp; done) | (go_simp; rfl)); intro x hg w2 hbox hb; have HB := Aside0.mk hb; have HS2 := Aside0.mk (HS.out.below hb); have hx0 := (blk_cell hbox 0).trans (show _ = some (Value.string ⟨#[]⟩) from rfl); have hx2 := (blk_cell hbox 2).trans (show _ = some (Value.bool true) from rfl); have HX := Aside0.mk hbox; clear hb hg hbox; have hs3 := (blk_cell HS2.out.box 3).trans (show _ = some (Value.pointer (some ⟨t, 0, none⟩)) from rfl))
  have HK : Aside0 (TreeE w2.drew t) := ⟨HS2.out.tree⟩
  go_region_held3 (fun W => W = w2.drew ∧ W.cell? ⟨s, 3, none⟩ = some (.pointer (some ⟨t, 0, none⟩)) ∧ W.cell? ⟨x, 0, none⟩ = some (.string ⟨#[]⟩) ∧ Aside0 (TreeE W t)) (exact ⟨rfl, hs3, hx0, HK⟩)
    (first
    | (go_at_call 60; refine (rank_calls HK.out _).mono ?_; rintro e w4 ⟨rfl, rfl⟩)
    | (go_at_call 61; refine (len_calls HK.out).mono ?_; rintro e w4 ⟨rfl, rfl⟩))
  all_goals go_wp2
  all_goals go_ret2
  all_goals exact ⟨rfl, HB.out.drew⟩
theorem whole_calls (w : World) : Calls Tryd.prog 30 #[] w fun e w' => e = .returned wholeV ∧ Below w.heap.size w w' := by
  go_enter Tryd.func30, Tryd.ntmps30
  go_wp2
  refine bodyPost_ret (results_cell_row rfl _ _ w.heap.size 83 #[.string ⟨#[]⟩, .string ⟨#[]⟩, .bool true] (0, 0) _ rfl (heap_alloc_new _ _) Tryd.underlying83 rfl (by kernel_rfl)) rfl ?_
  exact ⟨rfl, below_alloc (Below.refl _ _) _⟩
/-- The three boxes of an iterator over a tree without a row. -/
structure Three (w W : World) (p i j : Nat) : Prop where
  bp : W.heap[p]? = some (.cells #[.pointer none] 136 (0, 0))
  bi : W.heap[i]? = some (.cells #[.int .i64 0] 3 (0, 0))
  bj : W.heap[j]? = some (.cells #[.int .i64 0] 3 (0, 0))
  hi : w.heap.size ≤ i
  hj : w.heap.size ≤ j
  be : Below w.heap.size w W
section
variable {w W W2 : World} {p i j : Nat}
theorem Three.held (h : Three w W p i j) : W.cell? ⟨p, 0, none⟩ = some (.pointer none) ∧ W.cell? ⟨i, 0, none⟩ = some (.int .i64 0) ∧ W.cell? ⟨j, 0, none⟩ = some (.int .i64 0) ∧ W.frozen? ⟨i, 0, none⟩ = false ∧ W.frozen? ⟨j, 0, none⟩ = false ∧ Aside0 (Three w W p i j) :=
  ⟨(blk_cell h.bp 0).trans rfl, (blk_cell h.bi 0).trans rfl, (blk_cell h.bj 0).trans rfl, blk_frozen h.bi 0, blk_frozen h.bj 0, ⟨h⟩⟩
theorem ne_ty {W : World} {a b : Nat} {cs ds : Array Value} {t u : TypeId} (ha : W.heap[a]? = some (.cells cs t (0, 0))) (hb : W.heap[b]? = some (.cells ds u (0, 0))) (h : cs ≠ ds ∨ t ≠ u) : a ≠ b := by
  rintro rfl
  have := ha.symm.trans hb
  simp only [Option.some.injEq, Obj.cells.injEq] at this
  rcases h with h | h
  · exact h this.1
  · exact h this.2.1
theorem Three.seti (h : Three w W p i j) : Three w (W.setCell ⟨i, 0, none⟩ (.int .i64 0)) p i j where
  bp := blk_far h.bp (ne_ty h.bp h.bi (.inl (by simp))) _
  bi := blk_put h.bi 0 _ rfl
  bj := by
    by_cases e : j = i
    · subst e; exact blk_put h.bj 0 _ rfl
    · exact blk_far h.bj e _
  hi := h.hi
  hj := h.hj
  be := below_set h.be h.hi
theorem Three.setj (h : Three w W p i j) : Three w (W.setCell ⟨j, 0, none⟩ (.int .i64 0)) p i j where
  bp := blk_far h.bp (ne_ty h.bp h.bj (.inl (by simp))) _
  bj := blk_put h.bj 0 _ rfl
  bi := by
    by_cases e : i = j
    · subst e; exact blk_put h.bi 0 _ rfl
    · exact blk_far h.bi e _
  hi := h.hi
  hj := h.hj
  be := below_set h.be h.hj
theorem Three.since {w0 : World} (h : Three w W p i j) (hb : Below w0.heap.size w0 w) : Three w0 W p i j := ⟨h.bp, h.bi, h.bj, Nat.le_trans hb.size h.hi, Nat.le_trans hb.size h.hj, below_step hb h.be⟩
end
set_option maxRecDepth 100000 in
set_option maxHeartbeats 2000000 in
theorem span_calls {w : World} {t : Nat} (h : TreeE w t) : Calls Tryd.prog 45 #[.pointer (some ⟨t, 0, none⟩), .int .i64 0, .int .i64 0] w fun e w' => ∃ p i j, e = .returned (.func (.func 58) #[] #[.pointer (some ⟨p, 0, none⟩), .pointer (some ⟨i, 0, none⟩), .pointer (some ⟨j, 0, none⟩)]) ∧ Three w w' p i j := by
  obtain ⟨jj, h⟩ := h
  have HT := Aside0.mk h
  clear h
  go_enter Tryd.func45, Tryd.ntmps45
  go_wp2_with (first
    | ((with_reducible refine gate_dst (N := 4) rfl ?_); refine box_event ?hg (N := 4) ?hd (cs := #[.int .i64 0]) (t := 3) ?hr ?_; (case hd => rfl); (case hg => rfl); (case hr => first | (go_simp; done) | (go_simp; rfl)); intro i hg w2 hbox hb; have HI := Aside0.mk hbox; have HGI : Aside0 (w.heap.size ≤ i) := ⟨by omega⟩; have HB2 := Aside0.mk hb; clear hb hg hbox)
    | ((with_reducible refine gate_dst (N := 5) rfl ?_); refine box_event ?hg (N := 5) ?hd (cs := #[.int .i64 0]) (t := 3) ?hr ?_; (case hd => rfl); (case hg => rfl); (case hr => first | (go_simp; done) | (go_simp; rfl)); intro j hg w3 hbox hb; have HJ := Aside0.mk hbox; have HGJ : Aside0 (w.heap.size ≤ j) := ⟨by have := HB2.out.size; omega⟩; have HI3 := Aside0.mk (blk_below HI.out hb); have HB3 := Aside0.mk (below_step HB2.out hb); have hc4 := (blk_cell (blk_below HT.out HB3.out) 4).trans (show _ = some (Value.pointer none) from rfl); clear hb hg hbox)
    | ((with_reducible refine gate_dst (N := 7) rfl ?_); refine box_event ?hg (N := 7) ?hd (cs := #[.pointer none]) (t := 136) ?hr ?_; (case hd => rfl); (case hg => rfl); (case hr => first | (go_simp; done) | (go_simp; rfl)); intro p hg w4 hbox hb; have HP := Aside0.mk hbox; have hcp := (blk_cell hbox 0).trans (show _ = some (Value.pointer none) from rfl); have hfp := blk_frozen hbox 0; have HGP : Aside0 (w.heap.size ≤ p) := ⟨by have := HB3.out.size; omega⟩; have HI4 := Aside0.mk (blk_below HI3.out hb); have HJ4 := Aside0.mk (blk_below HJ.out hb); have HB4 := Aside0.mk (below_step HB3.out hb); clear hb hg hbox hc4))
  have HK : Aside0 (Three w (w4.setCell ⟨p, 0, none⟩ (.pointer none)).drew p i j) := ⟨{ bp := blk_drew (blk_put HP.out 0 _ rfl), bi := blk_drew (blk_far HI4.out (ne_ty HI4.out HP.out (.inl (by simp))) _), bj := blk_drew (blk_far HJ4.out (ne_ty HJ4.out HP.out (.inl (by simp))) _), hi := HGI.out, hj := HGJ.out, be := (below_set HB4.out HGP.out).drew }⟩
  clear hcp hfp
  go_region_held3 (fun W => W.cell? ⟨p, 0, none⟩ = some (.pointer none) ∧ W.cell? ⟨i, 0, none⟩ = some (.int .i64 0) ∧ W.cell? ⟨j, 0, none⟩ = some (.int .i64 0) ∧ W.frozen? ⟨i, 0, none⟩ = false ∧ W.frozen? ⟨j, 0, none⟩ = false ∧ Aside0 (Three w W p i j)) (first | exact HK.out.held | exact HK.out.seti.held | exact HK.out.seti.setj.held)
    (first
    | (go_at_call 57; refine (many_calls _).mono ?_; rintro e w5 ⟨rfl, rfl⟩))
  all_goals go_wp2
  all_goals go_ret
  all_goals exact ⟨p, i, j, rfl, HK.out.seti.setj⟩
/-- The store and the range, in their boxes. -/
structure AllK (w W : World) (s t x : Nat) (id : Int) (m : Value) : Prop where
  st : StoreE W s id m t
  bx : W.heap[x]? = some (.cells #[.string ⟨#[]⟩, .string ⟨#[]⟩, .bool true] 83 (0, 0))
  be : Below w.heap.size w W
section
variable {w W W2 : World} {s t x : Nat} {id : Int} {m : Value}
theorem AllK.held (h : AllK w W s t x id m) : W.cell? ⟨s, 3, none⟩ = some (.pointer (some ⟨t, 0, none⟩)) ∧ W.cell? ⟨x, 0, none⟩ = some (.string ⟨#[]⟩) ∧ W.cell? ⟨x, 1, none⟩ = some (.string ⟨#[]⟩) ∧ W.cell? ⟨x, 2, none⟩ = some (.bool true) ∧ Aside0 (AllK w W s t x id m) :=
  ⟨(blk_cell h.st.box 3).trans rfl, (blk_cell h.bx 0).trans rfl, (blk_cell h.bx 1).trans rfl, (blk_cell h.bx 2).trans rfl, ⟨h⟩⟩
theorem AllK.then (h : AllK w W s t x id m) (hb : Below W.heap.size W W2) : AllK w W2 s t x id m := ⟨h.st.below hb, blk_below h.bx hb, below_step h.be hb⟩
theorem AllK.alloc (h : AllK w W s t x id m) (o : Obj) : AllK w (W.alloc o) s t x id m := h.then (below_alloc (Below.refl _ _) o)
theorem AllK.set (h : AllK w W s t x id m) {b : Nat} (hA : W.heap[b]? = some (.cells #[.nilFunc] 127 (0, 0)) ∧ w.heap.size ≤ b) (v : Value) : AllK w (W.setCell ⟨b, 0, none⟩ v) s t x id m :=
  ⟨⟨blk_far h.st.box (ne_ty h.st.box hA.1 (.inr (by decide))) _, by obtain ⟨j, hj⟩ := h.st.tree; exact ⟨j, blk_far hj (ne_ty hj hA.1 (.inr (by decide))) _⟩⟩, blk_far h.bx (ne_ty h.bx hA.1 (.inr (by decide))) _, below_set h.be hA.2⟩
theorem Three.set {p i j : Nat} (h : Three w W p i j) {b : Nat} (hA : W.heap[b]? = some (.cells #[.nilFunc] 127 (0, 0)) ∧ w.heap.size ≤ b) (v : Value) : Three w (W.setCell ⟨b, 0, none⟩ v) p i j :=
  ⟨blk_far h.bp (ne_ty h.bp hA.1 (.inr (by decide))) _, blk_far h.bi (ne_ty h.bi hA.1 (.inr (by decide))) _, blk_far h.bj (ne_ty h.bj hA.1 (.inr (by decide))) _, h.hi, h.hj, below_set h.be hA.2⟩
theorem Three.alloc {p i j : Nat} (h : Three w W p i j) (o : Obj) : Three w (W.alloc o) p i j :=
  ⟨blk_alloc h.bp _, blk_alloc h.bi _, blk_alloc h.bj _, h.hi, h.hj, below_alloc h.be _⟩
theorem AllK.drew (h : AllK w W s t x id m) : AllK w W.drew s t x id m := ⟨h.st.below (Below.refl _ _).drew, blk_drew h.bx, h.be.drew⟩
end
set_option maxRecDepth 100000 in
set_option maxHeartbeats 2000000 in
theorem sall_calls {w : World} {s t : Nat} {id : Int} {m : Value} (h : StoreE w s id m t) : Calls Tryd.prog 29 #[.pointer (some ⟨s, 0, none⟩), wholeV] w fun e w' => ∃ b p i j, e = .returned (.tuple #[.func (.func 47) #[] #[.pointer (some ⟨b, 0, none⟩)], .int .i64 0]) ∧
    w'.cell? ⟨b, 0, none⟩ = some (.func (.func 58) #[] #[.pointer (some ⟨p, 0, none⟩), .pointer (some ⟨i, 0, none⟩), .pointer (some ⟨j, 0, none⟩)]) ∧ Three w w' p i j := by
  have HS := Aside0.mk h
  clear h
  unfold wholeV
  go_enter Tryd.func29, Tryd.ntmps29
  go_wp2_with (first
    | ((with_reducible refine gate_dst (N := 3) rfl ?_); refine box_event ?hg (N := 3) ?hd (cs := #[.string ⟨#[]⟩, .string ⟨#[]⟩, .bool true]) (t := 83) ?hr ?_; (case hd => rfl); (case hg => rfl); (case hr => first | (go_simp; done) | (go_simp; rfl)); intro x hg w2 hbox hb; have HX := Aside0.mk hbox; have HB2 := Aside0.mk hb; clear hb hg; have hc0 := (blk_cell hbox 0).trans (show _ = some (Value.string ⟨#[]⟩) from rfl); have hc1 := (blk_cell hbox 1).trans (show _ = some (Value.string ⟨#[]⟩) from rfl); have hc2 := (blk_cell hbox 2).trans (show _ = some (Value.bool true) from rfl); clear hbox)
    | (go_at_call 44; refine (span_Check.calls 9 _ _ _ 0 _ whole_f).mono ?_; rintro e w3 ⟨rfl, hb⟩; have HK0 : Aside0 (AllK w w3 s t x id m) := ⟨⟨HS.out.below (below_step HB2.out hb), blk_below HX.out hb, below_step HB2.out hb⟩⟩; clear hc0 hc1 hc2 hb))
  have HK : Aside0 (AllK w w3.drew s t x id m) := ⟨HK0.out.drew⟩
  go_region_held3 (fun W => W.cell? ⟨s, 3, none⟩ = some (.pointer (some ⟨t, 0, none⟩)) ∧ W.cell? ⟨x, 0, none⟩ = some (.string ⟨#[]⟩) ∧ W.cell? ⟨x, 1, none⟩ = some (.string ⟨#[]⟩) ∧ W.cell? ⟨x, 2, none⟩ = some (.bool true) ∧ Aside0 (AllK w W s t x id m)) (first | exact (HK5.out.set HA5.out _).held | exact HK5.out.held | exact (HK5.out.alloc _).held | exact HK4.out.held | exact (HK4.out.alloc _).held | exact HK.out.held | exact (HK.out.alloc _).held)
    (first
    | (go_at_call 46; refine (srank_calls HK.out.st).mono ?_; rintro e w4 ⟨rfl, hb⟩; have HK4 := Aside0.mk (HK.out.then hb); clear hb)
    | (go_at_call 46; refine (srank_calls (HK.out.alloc _).st).mono ?_; rintro e w4 ⟨rfl, hb⟩; have HK4 := Aside0.mk ((HK.out.alloc _).then hb); have HA4 : Aside0 (w4.heap[w3.heap.size]? = some (.cells #[.nilFunc] 127 (0, 0))) := ⟨blk_below (heap_alloc_new w3.drew (.cells #[.nilFunc] 127)) hb⟩; clear hb)
    | (go_at_call 45; refine (span_calls HK4.out.st.tree).mono ?_; rintro e w5 ⟨p, i, j, rfl, h3⟩; have HK5 := Aside0.mk (HK4.out.then h3.be); have H3 := Aside0.mk (h3.since HK4.out.be); have hA5 := blk_below HA4.out h3.be; have hcn : w5.cell? ⟨w3.heap.size, 0, none⟩ = some .nilFunc := (blk_cell hA5 0).trans rfl; have hfn : w5.frozen? ⟨w3.heap.size, 0, none⟩ = false := blk_frozen hA5 0; have HA5 := Aside0.mk (And.intro hA5 HK.out.be.size); clear h3 hA5)
    | (go_at_call 45; refine (span_calls HK4.out.st.tree).mono ?_; rintro e w5 ⟨p, i, j, rfl, h3⟩; have HK5 := Aside0.mk (HK4.out.then h3.be); have H3 := Aside0.mk (h3.since HK4.out.be); clear h3)
    | (go_at_call 45; refine (span_calls (HK4.out.alloc _).st.tree).mono ?_; rintro e w5 ⟨p, i, j, rfl, h3⟩; have HK5 := Aside0.mk ((HK4.out.alloc _).then h3.be); have H3 := Aside0.mk (h3.since (HK4.out.alloc _).be); have hA5 := blk_below (heap_alloc_new w4 (.cells #[.nilFunc] 127)) h3.be; have hcn : w5.cell? ⟨w4.heap.size, 0, none⟩ = some .nilFunc := (blk_cell hA5 0).trans rfl; have hfn : w5.frozen? ⟨w4.heap.size, 0, none⟩ = false := blk_frozen hA5 0; have HA5 := Aside0.mk (And.intro hA5 HK4.out.be.size); clear h3 hA5))
  all_goals go_wp2
  all_goals go_ret2
  all_goals first
    | exact ⟨_, p, i, j, rfl, (blk_cell (blk_put HA5.out.1 0 _ rfl) 0).trans rfl, H3.out.set HA5.out _⟩
    | exact ⟨_, p, i, j, rfl, (blk_cell (heap_alloc_new _ _) 0).trans rfl, H3.out.alloc _⟩
end Go.Proofs.YtdkkpngmplehfaaDoor.Nd
