-- By wip/late.py (a program of this session) out of wip/words.
import Derived.Test.YtdkkpngmplehfaaDoorProg
import Derived.Test.YtdkkpngmplehfaaDoorWWords
import Derived.Test.YtdkkpngmplehfaaDoorWLast
import Derived.Test.YtdkkpngmplehfaaDoorWMore
import Derived.Test.YtdkkpngmplehfaaDoorSNodeA
import Derived.Test.YtdkkpngmplehfaaDoorSNodeB
import Derived.Below
import Derived.RangeFuncBox
import Derived.BigQuiet
import Derived.Deep.QuietTactic
import Derived.Lib.Hide
import Derived.Tactics
import Derived.WalkKit
import Derived.OwnWalk
import Derived.BigRegion
import Derived.RegionTactic
import Derived.Deep.RegionWith
import Derived.Deep.RegionHeld
import Derived.Deep.RegionHeld3
set_option linter.unusedVariables false
set_option linter.unusedSimpArgs false
namespace Go.Proofs.YtdkkpngmplehfaaDoor.Nd
open Go.RowKit Go.Proofs.YtdkkpngmplehfaaDoorW.PrintWords Go.Proofs.YtdkkpngmplehfaaDoor.PAll
/-! What a new node tells of itself. -/
section
variable {w : World} {n s g t : Nat} {a b c d id : Int} {m : Value}
theorem up_calls (h : NodeE w n s g t a b c d id m) : Calls Tryd.prog 13 #[.pointer (some ⟨n, 0, none⟩)] w fun e w' => e = .returned (.bool true) ∧ w' = w := by
  have hc := (blk_cell h.box 5).trans (show _ = some (Value.pointer (some ⟨g, 0, none⟩)) from rfl)
  clear h
  go_enter Tryd.func13, Tryd.ntmps13
  go_wp2
  go_ret
  exact ⟨rfl, rfl⟩
theorem rup_calls (h : RNodeE w n s g a b c d id) : Calls Tryd.prog 14 #[.pointer (some ⟨n, 0, none⟩)] w fun e w' => e = .returned (.bool true) ∧ w' = w := by
  have hc := (blk_cell h.box 5).trans (show _ = some (Value.pointer (some ⟨g, 0, none⟩)) from rfl)
  clear h
  go_enter Tryd.func14, Tryd.ntmps14
  go_wp2
  go_ret
  exact ⟨rfl, rfl⟩
theorem life_calls (h : NodeE w n s g t a b c d id m) : Calls Tryd.prog 15 #[.pointer (some ⟨n, 0, none⟩)] w fun e w' => e = .returned (.int .i64 1) ∧ w' = w := by
  have hc := (blk_cell h.box 7).trans (show _ = some (Value.int .i64 1) from rfl)
  clear h
  go_enter Tryd.func15, Tryd.ntmps15
  go_wp2
  go_ret
  exact ⟨rfl, rfl⟩
theorem rlife_calls (h : RNodeE w n s g a b c d id) : Calls Tryd.prog 16 #[.pointer (some ⟨n, 0, none⟩)] w fun e w' => e = .returned (.int .i64 1) ∧ w' = w := by
  have hc := (blk_cell h.box 6).trans (show _ = some (Value.int .i64 1) from rfl)
  clear h
  go_enter Tryd.func16, Tryd.ntmps16
  go_wp2
  go_ret
  exact ⟨rfl, rfl⟩
def zero10 : Value := .agg #[.int .i64 0, .int .i64 0, .int .i64 0, .int .i64 0, .int .i64 0, .int .i64 0, .int .i64 0, .int .i64 0, .int .i64 0, .int .i64 0]
set_option maxRecDepth 100000 in
theorem count_calls (h : NodeE w n s g t a b c d id m) : Calls Tryd.prog 17 #[.pointer (some ⟨n, 0, none⟩)] w fun e w' => e = .returned zero10 ∧ Below w.heap.size w w' := by
  have HN := Aside0.mk h
  clear h
  go_enter Tryd.func17, Tryd.ntmps17
  go_wp2_with ((with_reducible refine gate_dst (N := 2) rfl ?_); refine box_event ?hg (N := 2) ?hd (cs := #[.int .i64 0, .int .i64 0, .int .i64 0, .int .i64 0, .int .i64 0, .int .i64 0, .int .i64 0, .int .i64 0, .int .i64 0, .int .i64 0]) (t := 42) ?hr ?_; (case hd => rfl); (case hg => rfl); (case hr => first | (go_simp; done) | (go_simp; rfl)); intro x hg w2 hbox hb; have HN2 := Aside0.mk (HN.out.below hb); have HB := Aside0.mk hb; have HX := Aside0.mk hbox; have HG : Aside0 (w.heap.size ≤ x) := ⟨by rw [hg]; exact Nat.le_refl _⟩; clear hb hg; have h0 := (blk_cell HN2.out.box 8).trans (show _ = some (Value.int .i64 0) from rfl); have h1 := (blk_cell HN2.out.box 9).trans (show _ = some (Value.int .i64 0) from rfl); have h2 := (blk_cell HN2.out.box 10).trans (show _ = some (Value.int .i64 0) from rfl); have h3 := (blk_cell HN2.out.box 11).trans (show _ = some (Value.int .i64 0) from rfl); have h4 := (blk_cell HN2.out.box 12).trans (show _ = some (Value.int .i64 0) from rfl); have h5 := (blk_cell HN2.out.box 13).trans (show _ = some (Value.int .i64 0) from rfl); have h6 := (blk_cell HN2.out.box 14).trans (show _ = some (Value.int .i64 0) from rfl); have h7 := (blk_cell HN2.out.box 15).trans (show _ = some (Value.int .i64 0) from rfl); have h8 := (blk_cell HN2.out.box 16).trans (show _ = some (Value.int .i64 0) from rfl); have h9 := (blk_cell HN2.out.box 17).trans (show _ = some (Value.int .i64 0) from rfl); have hx0 := (blk_cell hbox 0).trans (show _ = some (Value.int .i64 0) from rfl); have hf0 := blk_frozen hbox 0; have hx1 := (blk_cell hbox 1).trans (show _ = some (Value.int .i64 0) from rfl); have hf1 := blk_frozen hbox 1; have hx2 := (blk_cell hbox 2).trans (show _ = some (Value.int .i64 0) from rfl); have hf2 := blk_frozen hbox 2; have hx3 := (blk_cell hbox 3).trans (show _ = some (Value.int .i64 0) from rfl); have hf3 := blk_frozen hbox 3; have hx4 := (blk_cell hbox 4).trans (show _ = some (Value.int .i64 0) from rfl); have hf4 := blk_frozen hbox 4; have hx5 := (blk_cell hbox 5).trans (show _ = some (Value.int .i64 0) from rfl); have hf5 := blk_frozen hbox 5; have hx6 := (blk_cell hbox 6).trans (show _ = some (Value.int .i64 0) from rfl); have hf6 := blk_frozen hbox 6; have hx7 := (blk_cell hbox 7).trans (show _ = some (Value.int .i64 0) from rfl); have hf7 := blk_frozen hbox 7; have hx8 := (blk_cell hbox 8).trans (show _ = some (Value.int .i64 0) from rfl); have hf8 := blk_frozen hbox 8; have hx9 := (blk_cell hbox 9).trans (show _ = some (Value.int .i64 0) from rfl); have hf9 := blk_frozen hbox 9; clear hbox)
  refine bodyPost_ret (results_cell_row rfl _ _ x 42 #[.int .i64 0, .int .i64 0, .int .i64 0, .int .i64 0, .int .i64 0, .int .i64 0, .int .i64 0, .int .i64 0, .int .i64 0, .int .i64 0] (0, 0) _ rfl (blk_put (cs := #[.int .i64 0, .int .i64 0, .int .i64 0, .int .i64 0, .int .i64 0, .int .i64 0, .int .i64 0, .int .i64 0, .int .i64 0, .int .i64 0]) (cs' := #[.int .i64 0, .int .i64 0, .int .i64 0, .int .i64 0, .int .i64 0, .int .i64 0, .int .i64 0, .int .i64 0, .int .i64 0, .int .i64 0]) (blk_put (cs := #[.int .i64 0, .int .i64 0, .int .i64 0, .int .i64 0, .int .i64 0, .int .i64 0, .int .i64 0, .int .i64 0, .int .i64 0, .int .i64 0]) (cs' := #[.int .i64 0, .int .i64 0, .int .i64 0, .int .i64 0, .int .i64 0, .int .i64 0, .int .i64 0, .int .i64 0, .int .i64 0, .int .i64 0]) (blk_put (cs := #[.int .i64 0, .int .i64 0, .int .i64 0, .int .i64 0, .int .i64 0, .int .i64 0, .int .i64 0, .int .i64 0, .int .i64 0, .int .i64 0]) (cs' := #[.int .i64 0, .int .i64 0, .int .i64 0, .int .i64 0, .int .i64 0, .int .i64 0, .int .i64 0, .int .i64 0, .int .i64 0, .int .i64 0]) (blk_put (cs := #[.int .i64 0, .int .i64 0, .int .i64 0, .int .i64 0, .int .i64 0, .int .i64 0, .int .i64 0, .int .i64 0, .int .i64 0, .int .i64 0]) (cs' := #[.int .i64 0, .int .i64 0, .int .i64 0, .int .i64 0, .int .i64 0, .int .i64 0, .int .i64 0, .int .i64 0, .int .i64 0, .int .i64 0]) (blk_put (cs := #[.int .i64 0, .int .i64 0, .int .i64 0, .int .i64 0, .int .i64 0, .int .i64 0, .int .i64 0, .int .i64 0, .int .i64 0, .int .i64 0]) (cs' := #[.int .i64 0, .int .i64 0, .int .i64 0, .int .i64 0, .int .i64 0, .int .i64 0, .int .i64 0, .int .i64 0, .int .i64 0, .int .i64 0]) (blk_put (cs := #[.int .i64 0, .int .i64 0, .int .i64 0, .int .i64 0, .int .i64 0, .int .i64 0, .int .i64 0, .int .i64 0, .int .i64 0, .int .i64 0]) (cs' := #[.int .i64 0, .int .i64 0, .int .i64 0, .int .i64 0, .int .i64 0, .int .i64 0, .int .i64 0, .int .i64 0, .int .i64 0, .int .i64 0]) (blk_put (cs := #[.int .i64 0, .int .i64 0, .int .i64 0, .int .i64 0, .int .i64 0, .int .i64 0, .int .i64 0, .int .i64 0, .int .i64 0, .int .i64 0]) (cs' := #[.int .i64 0, .int .i64 0, .int .i64 0, .int .i64 0, .int .i64 0, .int .i64 0, .int .i64 0, .int .i64 0, .int .i64 0, .int .i64 0]) (blk_put (cs := #[.int .i64 0, .int .i64 0, .int .i64 0, .int .i64 0, .int .i64 0, .int .i64 0, .int .i64 0, .int .i64 0, .int .i64 0, .int .i64 0]) (cs' := #[.int .i64 0, .int .i64 0, .int .i64 0, .int .i64 0, .int .i64 0, .int .i64 0, .int .i64 0, .int .i64 0, .int .i64 0, .int .i64 0]) (blk_put (cs := #[.int .i64 0, .int .i64 0, .int .i64 0, .int .i64 0, .int .i64 0, .int .i64 0, .int .i64 0, .int .i64 0, .int .i64 0, .int .i64 0]) (cs' := #[.int .i64 0, .int .i64 0, .int .i64 0, .int .i64 0, .int .i64 0, .int .i64 0, .int .i64 0, .int .i64 0, .int .i64 0, .int .i64 0]) (blk_put (cs := #[.int .i64 0, .int .i64 0, .int .i64 0, .int .i64 0, .int .i64 0, .int .i64 0, .int .i64 0, .int .i64 0, .int .i64 0, .int .i64 0]) (cs' := #[.int .i64 0, .int .i64 0, .int .i64 0, .int .i64 0, .int .i64 0, .int .i64 0, .int .i64 0, .int .i64 0, .int .i64 0, .int .i64 0]) HX.out 0 _ rfl) 1 _ rfl) 2 _ rfl) 3 _ rfl) 4 _ rfl) 5 _ rfl) 6 _ rfl) 7 _ rfl) 8 _ rfl) 9 _ rfl) Tryd.underlying42 rfl (by kernel_rfl)) rfl ?_
  exact ⟨rfl, (below_set (below_set (below_set (below_set (below_set (below_set (below_set (below_set (below_set (below_set HB.out HG.out) HG.out) HG.out) HG.out) HG.out) HG.out) HG.out) HG.out) HG.out) HG.out)⟩
set_option maxRecDepth 100000 in
theorem rcount_calls (h : RNodeE w n s g a b c d id) : Calls Tryd.prog 18 #[.pointer (some ⟨n, 0, none⟩)] w fun e w' => e = .returned zero10 ∧ Below w.heap.size w w' := by
  have HN := Aside0.mk h
  clear h
  go_enter Tryd.func18, Tryd.ntmps18
  go_wp2_with ((with_reducible refine gate_dst (N := 2) rfl ?_); refine box_event ?hg (N := 2) ?hd (cs := #[.int .i64 0, .int .i64 0, .int .i64 0, .int .i64 0, .int .i64 0, .int .i64 0, .int .i64 0, .int .i64 0, .int .i64 0, .int .i64 0]) (t := 42) ?hr ?_; (case hd => rfl); (case hg => rfl); (case hr => first | (go_simp; done) | (go_simp; rfl)); intro x hg w2 hbox hb; have HN2 := Aside0.mk (HN.out.below hb); have HB := Aside0.mk hb; have HX := Aside0.mk hbox; have HG : Aside0 (w.heap.size ≤ x) := ⟨by rw [hg]; exact Nat.le_refl _⟩; clear hb hg; have h0 := (blk_cell HN2.out.box 7).trans (show _ = some (Value.int .i64 0) from rfl); have h1 := (blk_cell HN2.out.box 8).trans (show _ = some (Value.int .i64 0) from rfl); have h2 := (blk_cell HN2.out.box 9).trans (show _ = some (Value.int .i64 0) from rfl); have h3 := (blk_cell HN2.out.box 10).trans (show _ = some (Value.int .i64 0) from rfl); have h4 := (blk_cell HN2.out.box 11).trans (show _ = some (Value.int .i64 0) from rfl); have h5 := (blk_cell HN2.out.box 12).trans (show _ = some (Value.int .i64 0) from rfl); have h6 := (blk_cell HN2.out.box 13).trans (show _ = some (Value.int .i64 0) from rfl); have h7 := (blk_cell HN2.out.box 14).trans (show _ = some (Value.int .i64 0) from rfl); have h8 := (blk_cell HN2.out.box 15).trans (show _ = some (Value.int .i64 0) from rfl); have h9 := (blk_cell HN2.out.box 16).trans (show _ = some (Value.int .i64 0) from rfl); have hx0 := (blk_cell hbox 0).trans (show _ = some (Value.int .i64 0) from rfl); have hf0 := blk_frozen hbox 0; have hx1 := (blk_cell hbox 1).trans (show _ = some (Value.int .i64 0) from rfl); have hf1 := blk_frozen hbox 1; have hx2 := (blk_cell hbox 2).trans (show _ = some (Value.int .i64 0) from rfl); have hf2 := blk_frozen hbox 2; have hx3 := (blk_cell hbox 3).trans (show _ = some (Value.int .i64 0) from rfl); have hf3 := blk_frozen hbox 3; have hx4 := (blk_cell hbox 4).trans (show _ = some (Value.int .i64 0) from rfl); have hf4 := blk_frozen hbox 4; have hx5 := (blk_cell hbox 5).trans (show _ = some (Value.int .i64 0) from rfl); have hf5 := blk_frozen hbox 5; have hx6 := (blk_cell hbox 6).trans (show _ = some (Value.int .i64 0) from rfl); have hf6 := blk_frozen hbox 6; have hx7 := (blk_cell hbox 7).trans (show _ = some (Value.int .i64 0) from rfl); have hf7 := blk_frozen hbox 7; have hx8 := (blk_cell hbox 8).trans (show _ = some (Value.int .i64 0) from rfl); have hf8 := blk_frozen hbox 8; have hx9 := (blk_cell hbox 9).trans (show _ = some (Value.int .i64 0) from rfl); have hf9 := blk_frozen hbox 9; clear hbox)
  refine bodyPost_ret (results_cell_row rfl _ _ x 42 #[.int .i64 0, .int .i64 0, .int .i64 0, .int .i64 0, .int .i64 0, .int .i64 0, .int .i64 0, .int .i64 0, .int .i64 0, .int .i64 0] (0, 0) _ rfl (blk_put (cs := #[.int .i64 0, .int .i64 0, .int .i64 0, .int .i64 0, .int .i64 0, .int .i64 0, .int .i64 0, .int .i64 0, .int .i64 0, .int .i64 0]) (cs' := #[.int .i64 0, .int .i64 0, .int .i64 0, .int .i64 0, .int .i64 0, .int .i64 0, .int .i64 0, .int .i64 0, .int .i64 0, .int .i64 0]) (blk_put (cs := #[.int .i64 0, .int .i64 0, .int .i64 0, .int .i64 0, .int .i64 0, .int .i64 0, .int .i64 0, .int .i64 0, .int .i64 0, .int .i64 0]) (cs' := #[.int .i64 0, .int .i64 0, .int .i64 0, .int .i64 0, .int .i64 0, .int .i64 0, .int .i64 0, .int .i64 0, .int .i64 0, .int .i64 0]) (blk_put (cs := #[.int .i64 0, .int .i64 0, .int .i64 0, .int .i64 0, .int .i64 0, .int .i64 0, .int .i64 0, .int .i64 0, .int .i64 0, .int .i64 0]) (cs' := #[.int .i64 0, .int .i64 0, .int .i64 0, .int .i64 0, .int .i64 0, .int .i64 0, .int .i64 0, .int .i64 0, .int .i64 0, .int .i64 0]) (blk_put (cs := #[.int .i64 0, .int .i64 0, .int .i64 0, .int .i64 0, .int .i64 0, .int .i64 0, .int .i64 0, .int .i64 0, .int .i64 0, .int .i64 0]) (cs' := #[.int .i64 0, .int .i64 0, .int .i64 0, .int .i64 0, .int .i64 0, .int .i64 0, .int .i64 0, .int .i64 0, .int .i64 0, .int .i64 0]) (blk_put (cs := #[.int .i64 0, .int .i64 0, .int .i64 0, .int .i64 0, .int .i64 0, .int .i64 0, .int .i64 0, .int .i64 0, .int .i64 0, .int .i64 0]) (cs' := #[.int .i64 0, .int .i64 0, .int .i64 0, .int .i64 0, .int .i64 0, .int .i64 0, .int .i64 0, .int .i64 0, .int .i64 0, .int .i64 0]) (blk_put (cs := #[.int .i64 0, .int .i64 0, .int .i64 0, .int .i64 0, .int .i64 0, .int .i64 0, .int .i64 0, .int .i64 0, .int .i64 0, .int .i64 0]) (cs' := #[.int .i64 0, .int .i64 0, .int .i64 0, .int .i64 0, .int .i64 0, .int .i64 0, .int .i64 0, .int .i64 0, .int .i64 0, .int .i64 0]) (blk_put (cs := #[.int .i64 0, .int .i64 0, .int .i64 0, .int .i64 0, .int .i64 0, .int .i64 0, .int .i64 0, .int .i64 0, .int .i64 0, .int .i64 0]) (cs' := #[.int .i64 0, .int .i64 0, .int .i64 0, .int .i64 0, .int .i64 0, .int .i64 0, .int .i64 0, .int .i64 0, .int .i64 0, .int .i64 0]) (blk_put (cs := #[.int .i64 0, .int .i64 0, .int .i64 0, .int .i64 0, .int .i64 0, .int .i64 0, .int .i64 0, .int .i64 0, .int .i64 0, .int .i64 0]) (cs' := #[.int .i64 0, .int .i64 0, .int .i64 0, .int .i64 0, .int .i64 0, .int .i64 0, .int .i64 0, .int .i64 0, .int .i64 0, .int .i64 0]) (blk_put (cs := #[.int .i64 0, .int .i64 0, .int .i64 0, .int .i64 0, .int .i64 0, .int .i64 0, .int .i64 0, .int .i64 0, .int .i64 0, .int .i64 0]) (cs' := #[.int .i64 0, .int .i64 0, .int .i64 0, .int .i64 0, .int .i64 0, .int .i64 0, .int .i64 0, .int .i64 0, .int .i64 0, .int .i64 0]) (blk_put (cs := #[.int .i64 0, .int .i64 0, .int .i64 0, .int .i64 0, .int .i64 0, .int .i64 0, .int .i64 0, .int .i64 0, .int .i64 0, .int .i64 0]) (cs' := #[.int .i64 0, .int .i64 0, .int .i64 0, .int .i64 0, .int .i64 0, .int .i64 0, .int .i64 0, .int .i64 0, .int .i64 0, .int .i64 0]) HX.out 0 _ rfl) 1 _ rfl) 2 _ rfl) 3 _ rfl) 4 _ rfl) 5 _ rfl) 6 _ rfl) 7 _ rfl) 8 _ rfl) 9 _ rfl) Tryd.underlying42 rfl (by kernel_rfl)) rfl ?_
  exact ⟨rfl, (below_set (below_set (below_set (below_set (below_set (below_set (below_set (below_set (below_set (below_set HB.out HG.out) HG.out) HG.out) HG.out) HG.out) HG.out) HG.out) HG.out) HG.out) HG.out)⟩
end
theorem same_calls (w : World) : Calls Tryd.prog 22 #[.slice none 0 0, .slice none 0 0] w fun e w' => e = .returned (.bool true) ∧ w' = w := by
  go_enter Tryd.func22, Tryd.ntmps22
  go_wp2
  go_loopw [5] (fun i wr => i = .int .i64 0 ∧ wr = w) (fun _ _ => 0)
  case atStart => exact ⟨rfl, rfl⟩
  case round =>
    obtain ⟨rfl, rfl⟩ := hrel
    go_wp2
    go_ret
    exact ⟨rfl, rfl⟩
theorem sameTalks_calls (w : World) : Calls Tryd.prog 19 #[.slice none 0 0, .slice none 0 0] w fun e w' => e = .returned (.bool true) ∧ w' = w := by
  go_enter Tryd.func19, Tryd.ntmps19
  go_wp2
  go_loopw [5] (fun i wr => i = .int .i64 0 ∧ wr = w) (fun _ _ => 0)
  case atStart => exact ⟨rfl, rfl⟩
  case round =>
    obtain ⟨rfl, rfl⟩ := hrel
    go_wp2
    go_ret
    exact ⟨rfl, rfl⟩
theorem dtalks_calls {w : World} {g : Nat} (h : DeskE w g) : Calls Tryd.prog 27 #[.pointer (some ⟨g, 0, none⟩)] w fun e w' => e = .returned (.slice none 0 0) ∧ w' = w := by
  obtain ⟨cs, h, h8⟩ := h
  have hc := (blk_cell h 8).trans h8
  clear h h8
  go_enter Tryd.func27, Tryd.ntmps27
  go_wp2
  go_loopw [3, 11] (fun o i wr => o = .slice none 0 0 ∧ i = .int .i64 0 ∧ wr = w) (fun _ _ _ => 0)
  case atStart => exact ⟨rfl, rfl, rfl⟩
  case round =>
    obtain ⟨rfl, rfl, rfl⟩ := hrel
    go_wp2
    go_ret
    exact ⟨rfl, rfl⟩
theorem rdtalks_calls {w : World} {g : Nat} (h : RDeskE w g) : Calls Tryd.prog 28 #[.pointer (some ⟨g, 0, none⟩)] w fun e w' => e = .returned (.slice none 0 0) ∧ w' = w := by
  obtain ⟨cs, h, h8⟩ := h
  have hc := (blk_cell h 8).trans h8
  clear h h8
  go_enter Tryd.func28, Tryd.ntmps28
  go_wp2
  go_loopw [3, 11] (fun o i wr => o = .slice none 0 0 ∧ i = .int .i64 0 ∧ wr = w) (fun _ _ _ => 0)
  case atStart => exact ⟨rfl, rfl, rfl⟩
  case round =>
    obtain ⟨rfl, rfl, rfl⟩ := hrel
    go_wp2
    go_ret
    exact ⟨rfl, rfl⟩
section
variable {w : World} {n s g t : Nat} {a b c d id : Int} {m : Value}
theorem talks_calls (h : NodeE w n s g t a b c d id m) : Calls Tryd.prog 20 #[.pointer (some ⟨n, 0, none⟩)] w fun e w' => e = .returned (.slice none 0 0) ∧ w' = w := by
  have hc := (blk_cell h.box 5).trans (show _ = some (Value.pointer (some ⟨g, 0, none⟩)) from rfl)
  have hd := h.desk
  clear h
  go_enter Tryd.func20, Tryd.ntmps20
  go_wp2_with (go_at_call 27; refine (dtalks_calls hd).mono ?_; rintro e w1 ⟨rfl, rfl⟩)
  go_ret
  exact ⟨rfl, rfl⟩
theorem rtalks_calls (h : RNodeE w n s g a b c d id) : Calls Tryd.prog 21 #[.pointer (some ⟨n, 0, none⟩)] w fun e w' => e = .returned (.slice none 0 0) ∧ w' = w := by
  have hc := (blk_cell h.box 5).trans (show _ = some (Value.pointer (some ⟨g, 0, none⟩)) from rfl)
  have hd := h.desk
  clear h
  go_enter Tryd.func21, Tryd.ntmps21
  go_wp2_with (go_at_call 28; refine (rdtalks_calls hd).mono ?_; rintro e w1 ⟨rfl, rfl⟩)
  go_ret
  exact ⟨rfl, rfl⟩
end
end Go.Proofs.YtdkkpngmplehfaaDoor.Nd
