-- By wip/late.py (a program of this session) out of wip/words.
import Derived.Test.YtghlellambnkeaaProg
import Derived.Test.YtghlellambnkeaaWWords
import Derived.Test.YtghlellambnkeaaWLast
import Derived.Test.YtghlellambnkeaaSMore0
import Derived.Test.YtghlellambnkeaaPAllx0
import Derived.Test.YtghlellambnkeaaPAllx4
import Derived.Test.YtghlellambnkeaaSMergeA
import Derived.Test.YtghlellambnkeaaSMerge
import Derived.Sort.CutIn
import Derived.RangeFuncCalls
import Derived.RangeFuncBox
import Derived.OwnWalkIn
import Derived.Maps.AppendAt
import Derived.BigRegion
import Derived.RegionTactic
import Derived.Test.YtghlellambnkeaaSItemcmp
set_option linter.unusedVariables false
set_option linter.unusedSimpArgs false
namespace Go.Proofs.Ytghlellambnkeaa.MergeW
open Go.RowKit Go.Shelf Go.Proofs.YtghlellambnkeaaW.PrintWords Go.Proofs.Ytghlellambnkeaa.PAll Go.Proofs.Ytghlellambnkeaa.Pure
attribute [local go_sem] Oper.semAt_some
set_option maxRecDepth 100000 in
set_option maxHeartbeats 4000000 in
theorem differ_in (k : Nat) (A A' : Option Addr) (c c' : Nat) (la lb : List S44) (w : World) (hr : Kd.C k44 w A la.length la) (hc : la.length ≤ c) (hr' : Kd.C k44 w A' lb.length lb) (hc' : lb.length ≤ c') (e0 : Int) (hk : merge_check.f k la lb = some e0) (hN : (mp la lb).length < 2513169434916) (res : List ByteArray) (hres0 : e0 = 0 → res = differL (mp la lb)) (hres1 : e0 ≠ 0 → res = []) :
    CallsIn Fence.wide 6 Try.prog 27 #[.slice A la.length c, .slice A' lb.length c'] w fun e w' => ∃ v, e = .returned (.tuple #[v, .int .i64 e0]) ∧ w'.ownsRow w.heap.size 9 1 v res.length (res.map Value.string) ∧ Below w.heap.size w w' := by
  have hrow := row_of hr
  have hrow' := row_of hr'
  obtain ⟨i0, hi, hz0, hz1, hz2⟩ := info_parts infoS
  refine callsIn_of_wp_marks Try.func27 rfl trivial ?_ rfl
  simp only [Try.ntmps27, List.size_toArray, List.length_cons, List.length_nil, Nat.reduceAdd, Nat.reduceSub, Array.replicate_succ, Array.replicate_zero, List.push_toArray, List.append_toArray, List.nil_append, List.cons_append]
  gi_wp2_with (refine ⟨trivial, ?_⟩; gi_at_call 41; refine (check_calls _ k A A' c c' la lb e0 _ hr hc hr' hc' hk).mono ?_; rintro e W1 ⟨rfl, hb1⟩)
  · have he : (e0 != 0) = true := by assumption
    have hz : ¬ e0 = 0 := by simpa using he
    obtain rfl := hres1 hz
    refine ⟨.tuple #[.slice none 0 0, .int .i64 e0], by simp [results, Try.f27, go_sem], _, rfl, World.ownsRow_nil _ _ _ _, hb1⟩
  · have he : (e0 != 0) = false := by assumption
    obtain rfl : e0 = 0 := by simpa using he
    obtain rfl := hres0 rfl
    clear hres0 hres1
    gi_wp2_with (refine ⟨trivial, ?_⟩; gi_at_call 42; refine (pairs_in _ _ _ _ _ _ _ _).mono ?_; rintro e w' ⟨rfl, rfl⟩)
    have gx := Boxed.new W1 53 (.slice none 0 0)
    have gxb : Below w.heap.size w (W1.alloc (.cells #[.slice none 0 0] 53)) := below_alloc hb1 _
    have hsx : (W1.alloc (.cells #[.slice none 0 0] 53)).heap.size = W1.heap.size + 1 := by simp
    have hs0 := hb1.size
    generalize hWx : W1.alloc (.cells #[.slice none 0 0] 53) = Wx at gx gxb hsx ⊢
    clear hWx
    have hba : ((Wx.alloc (.cells #[.slice A la.length c] 22)).alloc (.cells #[.slice A' lb.length c'] 22)).heap[Wx.heap.size]? = some (.cells #[.slice A la.length c] 22 (0, 0)) := blk_alloc (heap_alloc_new _ _) _
    have hbb : ((Wx.alloc (.cells #[.slice A la.length c] 22)).alloc (.cells #[.slice A' lb.length c'] 22)).heap[Wx.heap.size + 1]? = some (.cells #[.slice A' lb.length c'] 22 (0, 0)) := by simpa using heap_alloc_new (Wx.alloc (.cells #[.slice A la.length c] 22)) (.cells #[.slice A' lb.length c'] 22)
    have kx := (gx.alloc (.cells #[.slice A la.length c] 22)).alloc (.cells #[.slice A' lb.length c'] 22)
    have kb := below_alloc (below_alloc gxb (.cells #[.slice A la.length c] 22)) (.cells #[.slice A' lb.length c'] 22)
    have hs1 : ((Wx.alloc (.cells #[.slice A la.length c] 22)).alloc (.cells #[.slice A' lb.length c'] 22)).heap.size = Wx.heap.size + 2 := by simp
    generalize hW0 : (Wx.alloc (.cells #[.slice A la.length c] 22)).alloc (.cells #[.slice A' lb.length c'] 22) = W0 at hba hbb kx kb hs1 ⊢
    clear hW0
    rw [hsx] at hba hbb hs1
    refine wpIn_rangeFunc_ownH (F := Fence.wide) rfl (by omega) (gf := 53) (lb := #[.pointer (some ⟨(W1.heap.size + 1), 0, none⟩), .pointer (some ⟨(W1.heap.size + 1) + 1, 0, none⟩)]) rfl trivial (enters_of Try.func53 (by kernel_rfl) rfl)
      (pairs_stops _ (by omega) (W1.heap.size + 1) ((W1.heap.size + 1) + 1) w W0 A A' c c' la lb hrow hrow' kb hba hbb) (fun h k => Kp.t h k) (Kp.b kb.size (by omega) (by omega)) (Below.refl _ _) (fun _ => rfl)
      (fun pre W => (∃ v, Boxed W W1.heap.size 53 v ∧ W.ownsRow w.heap.size 9 1 v (differL pre).length ((differL pre).map Value.string) ∧ True) ∧ (W.heap[(W1.heap.size + 1)]? = some (.cells #[.slice A la.length c] 22 (0, 0)) ∧ W.heap[(W1.heap.size + 1) + 1]? = some (.cells #[.slice A' lb.length c'] 22 (0, 0))) ∧ Below w.heap.size w W)
      (fun _ _ _ => False)
      (OwnFrom.and (Own.from (holdsRow_own w.heap.size W1.heap.size 53 9 1 (fun pre => (differL pre).length) (fun pre => (differL pre).map Value.string) (fun _ _ => True)) _) (OwnFrom.and (Own.from (fun s X Y row hs hg hr => ⟨(grownBy_keeps_cells hg hr hs.1 rfl).trans hs.1, (grownBy_keeps_cells hg hr hs.2 rfl).trans hs.2⟩) _) (ownFrom_below (Nat.le_refl _) kb.size)))
      (fun _ => Own.from (fun _ _ _ _ hs _ _ => hs) _)
      ⟨⟨_, kx, World.ownsRow_nil _ _ _ _, trivial⟩, ⟨hba, hbb⟩, kb⟩
      (fun x a' W => ∃ ga gb : Nat, a' = { tmps := #[.slice A la.length c, .slice A' lb.length c', undef, undef, .slice none 0 0, .int .i64 0, .int .i64 0, .pointer (some ⟨W1.heap.size, 0, none⟩), .pointer (some ⟨ga, 0, none⟩), .pointer (some ⟨gb, 0, none⟩), .slice A la.length c, .slice A' lb.length c', .int .i64 0, .int .i64 0, .bool ((0 : Int) != 0), undef, .slice A la.length c, .slice A' lb.length c', .func (.func 53) #[] #[.pointer (some ⟨(W1.heap.size + 1), 0, none⟩), .pointer (some ⟨(W1.heap.size + 1) + 1, 0, none⟩)], av x.1, av x.2, undef, undef, undef, undef, undef, undef, undef, undef, undef, undef, undef, undef, undef, undef, undef], defers := [] } ∧
        W.heap[ga]? = some (.cells (ac x.1) 44 (0, 0)) ∧ W.heap[gb]? = some (.cells (ac x.2) 44 (0, 0)) ∧ w.heap.size ≤ ga ∧ ga ≠ gb)
      (fun x a' => Own.from (fun s X Y row hs hg hr => by obtain ⟨ga, gb, h1, h2, h3, h0⟩ := hs; exact ⟨ga, gb, h1, (grownBy_keeps_cells hg hr h2 rfl).trans h2, (grownBy_keeps_cells hg hr h3 rfl).trans h3, h0⟩) _)
      ?assign ?body ?done ?stop
    case assign =>
      intro l pre x W K hI hK
      obtain ⟨⟨v, h1, h2, _⟩, ⟨h4, h5⟩, h6⟩ := hI
      have hl4 := blk_lt h4
      have hl5 := blk_lt h5
      gi_wp2
      refine hK _ _ (((KeepsOthers.alloc _ _).trans (KeepsOthers.alloc _ _)).from _) ⟨((Below.refl w.heap.size W).alloc h6.size _).alloc (by have := h6.size; simp; omega) _, (Below.heap_alloc _ _ _ (by simp; omega)).trans (Below.heap_alloc _ _ _ (by omega)), (Below.heap_alloc _ _ _ (by simp; omega)).trans (Below.heap_alloc _ _ _ (by omega))⟩ ⟨⟨v, (h1.alloc _).alloc _, (h2.alloc _).alloc _, trivial⟩, ⟨blk_alloc (blk_alloc h4 _) _, blk_alloc (blk_alloc h5 _) _⟩, below_alloc (below_alloc h6 _) _⟩ ⟨W.heap.size, W.heap.size + 1, rfl, blk_alloc (heap_alloc_new _ _) _, by have := heap_alloc_new (W.alloc (.cells (ac x.1) 44)) (.cells (ac x.2) 44); simpa using this, h6.size, by omega⟩
    case body =>
      rintro l pre x a' W hl hr ⟨⟨v, h1, h2, _⟩, ⟨h4, h5⟩, h6⟩ ⟨ga, gb', rfl, h7, h8, h9, hne3⟩ hlt
      have x0 : W.cell? ⟨ga, 0, none⟩ = some (.string x.1.f0) := (blk_cell h7 0).trans rfl
      have x1 : W.cell? ⟨ga, 1, none⟩ = some (.int .i64 x.1.f1.f0) := (blk_cell h7 1).trans rfl
      have x2 : W.cell? ⟨ga, 2, none⟩ = some (.int .i64 x.1.f1.f1) := (blk_cell h7 2).trans rfl
      have x3 : W.cell? ⟨ga, 3, none⟩ = some (.string x.1.f2) := (blk_cell h7 3).trans rfl
      have x4 : W.cell? ⟨ga, 4, none⟩ = some (.bool x.1.f3) := (blk_cell h7 4).trans rfl
      have y0 : W.cell? ⟨gb', 0, none⟩ = some (.string x.2.f0) := (blk_cell h8 0).trans rfl
      have y1 : W.cell? ⟨gb', 1, none⟩ = some (.int .i64 x.2.f1.f0) := (blk_cell h8 1).trans rfl
      have y2 : W.cell? ⟨gb', 2, none⟩ = some (.int .i64 x.2.f1.f1) := (blk_cell h8 2).trans rfl
      have y3 : W.cell? ⟨gb', 3, none⟩ = some (.string x.2.f2) := (blk_cell h8 3).trans rfl
      have y4 : W.cell? ⟨gb', 4, none⟩ = some (.bool x.2.f3) := (blk_cell h8 4).trans rfl
      have hpl := differL_len pre
      cases e0 : (x.1.f1.f0 == x.2.f1.f0) with
      | true =>
        cases e1 : (x.1.f1.f1 == x.2.f1.f1) with
        | true =>
          have hv : verB x.1 x.2 = true := by unfold verB; rw [e0, e1]; rfl
          gi_wp2
          exact ⟨KeepsFrom.refl _ _, ⟨Below.refl _ _, rfl, rfl⟩, ⟨v, h1, by rw [differL_miss hv]; exact h2, trivial⟩, ⟨h4, h5⟩, h6⟩
        | false =>
          have hv : verB x.1 x.2 = false := by unfold verB; rw [e0, e1]; rfl
          cases ht : thereB x.1 with
          | false =>
            gi_upto_region 11 with (refine ⟨trivial, ?_⟩; gi_at_call 44; refine (CallsIn.inRound l (there_callsB _ x.1 false ht W)).mono ?_; rintro e W2 ⟨rfl, hb2⟩; clear hr x0 x1 x2 x3 x4 y0 y1 y2 y3 y4; replace h7 := blk_below h7 hb2; replace h8 := blk_below h8 hb2; replace h1 : Boxed _ _ _ _ := blk_below h1 hb2; replace h2 := pw_own_below h2 hb2; have q4 := (hb2.block _ (blk_lt h4)).trans h4; have q5 := (hb2.block _ (blk_lt h5)).trans h5; have q6 := h6.trans (hb2.mono h6.size); have hkp := keeps_below (B := W0.heap.size) hb2; have x0 : W2.cell? ⟨ga, 0, none⟩ = some (.string x.1.f0) := (blk_cell h7 0).trans rfl; have x1 : W2.cell? ⟨ga, 1, none⟩ = some (.int .i64 x.1.f1.f0) := (blk_cell h7 1).trans rfl; have x2 : W2.cell? ⟨ga, 2, none⟩ = some (.int .i64 x.1.f1.f1) := (blk_cell h7 2).trans rfl; have x3 : W2.cell? ⟨ga, 3, none⟩ = some (.string x.1.f2) := (blk_cell h7 3).trans rfl; have x4 : W2.cell? ⟨ga, 4, none⟩ = some (.bool x.1.f3) := (blk_cell h7 4).trans rfl; have y0 : W2.cell? ⟨gb', 0, none⟩ = some (.string x.2.f0) := (blk_cell h8 0).trans rfl; have y1 : W2.cell? ⟨gb', 1, none⟩ = some (.int .i64 x.2.f1.f0) := (blk_cell h8 1).trans rfl; have y2 : W2.cell? ⟨gb', 2, none⟩ = some (.int .i64 x.2.f1.f1) := (blk_cell h8 2).trans rfl; have y3 : W2.cell? ⟨gb', 3, none⟩ = some (.string x.2.f2) := (blk_cell h8 3).trans rfl; have y4 : W2.cell? ⟨gb', 4, none⟩ = some (.bool x.2.f3) := (blk_cell h8 4).trans rfl; have hcb := h1.cell; have hfb := h1.frozen; have fx0 := blk_frozen h7 0; have fx1 := blk_frozen h7 1; have fx2 := blk_frozen h7 2; have fx3 := blk_frozen h7 3; have fx4 := blk_frozen h7 4)
            have hgaB : ga ≠ W1.heap.size := fun e => (by rw [e] at h7; have := h7.symm.trans (show W2.heap[W1.heap.size]? = _ from h1); simp at this)
            have hgaC : ga ≠ W1.heap.size + 1 := fun e => (by rw [e] at h7; have := h7.symm.trans q4; simp at this)
            have hgaD : ga ≠ W1.heap.size + 1 + 1 := fun e => (by rw [e] at h7; have := h7.symm.trans q5; simp at this)
            have hne : some ga ≠ v.ownBlock := own_ne h2 h7 (by decide)
            have z7 := st_at x.2 h7
            have z1 : Boxed (st W2 ga x.2) W1.heap.size 53 v := (st_far (W := W2) x.2 (Ne.symm hgaB)).trans h1
            have z2 := row_st x.2 h2 hne
            have z4 := (st_far (W := W2) x.2 (Ne.symm hgaC)).trans q4
            have z5 := (st_far (W := W2) x.2 (Ne.symm hgaD)).trans q5
            have z6 := st_below x.2 q6 h9
            have zk := hkp.trans (st_keeps W2 ga W0.heap.size x.2)
            have zb := st_below x.2 (hb2.mono h6.size) h9
            dsimp only [st] at z7 z1 z2 z4 z5 z6 zk zb
            generalize hWx : ((((W2.setCell ⟨ga, 0, none⟩ (.string x.2.f0)).setCell ⟨ga, 1, none⟩ (.int .i64 x.2.f1.f0)).setCell ⟨ga, 2, none⟩ (.int .i64 x.2.f1.f1)).setCell ⟨ga, 3, none⟩ (.string x.2.f2)).setCell ⟨ga, 4, none⟩ (.bool x.2.f3) = Wx at z7 z1 z2 z4 z5 z6 zk zb ⊢
            clear hWx hb2 h7 h8 h1 h2 q4 q5 q6 hkp hcb hfb fx0 fx1 fx2 fx3 fx4 x0 x1 x2 x3 x4 y0 y1 y2 y3 y4
            have x0 : Wx.cell? ⟨ga, 0, none⟩ = some (.string x.2.f0) := (blk_cell z7 0).trans rfl
            have x1 : Wx.cell? ⟨ga, 1, none⟩ = some (.int .i64 x.2.f1.f0) := (blk_cell z7 1).trans rfl
            have x2 : Wx.cell? ⟨ga, 2, none⟩ = some (.int .i64 x.2.f1.f1) := (blk_cell z7 2).trans rfl
            have x3 : Wx.cell? ⟨ga, 3, none⟩ = some (.string x.2.f2) := (blk_cell z7 3).trans rfl
            have x4 : Wx.cell? ⟨ga, 4, none⟩ = some (.bool x.2.f3) := (blk_cell z7 4).trans rfl
            have hcb := z1.cell
            have hfb := z1.frozen
            have hkd : keyD x = x.2.f0 := by unfold keyD; rw [ht]; rfl
            gi_wp2_with (gi_at_builtin; refine wpListIn_append_own _ rfl _ _ 53 rfl w.heap.size 9 i0 _ 1 16 Try.underlying53 hi hz0 hz1 hz2 rfl (by decide) _ _ _ rfl (z2.alloc _) ⟨Wx.heap.size, 0, none⟩ 1 1 [.string x.2.f0] rfl rfl (cell_one_new _ _ _) (by simp [Value.oneCell']) (by simp only [maxLen]; omega) (by omega) (by have := z6.size; simp; omega) ?_; intro v' w1 hown' hgrow _; obtain ⟨g', cap', rfl⟩ := ownsRow_succ hown'; obtain ⟨hv1, hv2, hr2, hk2, hb4⟩ := z1.appended (by decide) z2 z6.size hs0 hown' hgrow; have hc1 := hv1.cell; have hf1 := hv1.frozen)
            have bA : Boxed Wx (W1.heap.size + 1) 22 (.slice A la.length c) := z4
            have bB : Boxed Wx (W1.heap.size + 1 + 1) 22 (.slice A' lb.length c') := z5
            have bA2 := ((bA.alloc _).kept hgrow (bA.not_row (by decide) z2)).other (B' := W1.heap.size) (by omega) (.slice (some ⟨g', 0, none⟩) ((differL pre).length + 1) cap')
            have bB2 := ((bB.alloc _).kept hgrow (bB.not_row (by decide) z2)).other (B' := W1.heap.size) (by omega) (.slice (some ⟨g', 0, none⟩) ((differL pre).length + 1) cap')
            exact ⟨zk.trans (hk2.from _), ⟨zb.trans hb4, bA2.trans h4.symm, bB2.trans h5.symm⟩, ⟨_, hv2, by rw [differL_hit hv, hkd, List.map_append]; simpa using hr2, trivial⟩, ⟨bA2, bB2⟩, z6.trans hb4⟩
          | true =>
            gi_upto_region 11 with (refine ⟨trivial, ?_⟩; gi_at_call 44; refine (CallsIn.inRound l (there_callsB _ x.1 true ht W)).mono ?_; rintro e W2 ⟨rfl, hb2⟩; clear hr x0 x1 x2 x3 x4 y0 y1 y2 y3 y4; replace h7 := blk_below h7 hb2; replace h8 := blk_below h8 hb2; replace h1 : Boxed _ _ _ _ := blk_below h1 hb2; replace h2 := pw_own_below h2 hb2; have q4 := (hb2.block _ (blk_lt h4)).trans h4; have q5 := (hb2.block _ (blk_lt h5)).trans h5; have q6 := h6.trans (hb2.mono h6.size); have hkp := keeps_below (B := W0.heap.size) hb2; have x0 : W2.cell? ⟨ga, 0, none⟩ = some (.string x.1.f0) := (blk_cell h7 0).trans rfl; have x1 : W2.cell? ⟨ga, 1, none⟩ = some (.int .i64 x.1.f1.f0) := (blk_cell h7 1).trans rfl; have x2 : W2.cell? ⟨ga, 2, none⟩ = some (.int .i64 x.1.f1.f1) := (blk_cell h7 2).trans rfl; have x3 : W2.cell? ⟨ga, 3, none⟩ = some (.string x.1.f2) := (blk_cell h7 3).trans rfl; have x4 : W2.cell? ⟨ga, 4, none⟩ = some (.bool x.1.f3) := (blk_cell h7 4).trans rfl; have y0 : W2.cell? ⟨gb', 0, none⟩ = some (.string x.2.f0) := (blk_cell h8 0).trans rfl; have y1 : W2.cell? ⟨gb', 1, none⟩ = some (.int .i64 x.2.f1.f0) := (blk_cell h8 1).trans rfl; have y2 : W2.cell? ⟨gb', 2, none⟩ = some (.int .i64 x.2.f1.f1) := (blk_cell h8 2).trans rfl; have y3 : W2.cell? ⟨gb', 3, none⟩ = some (.string x.2.f2) := (blk_cell h8 3).trans rfl; have y4 : W2.cell? ⟨gb', 4, none⟩ = some (.bool x.2.f3) := (blk_cell h8 4).trans rfl; have hcb := h1.cell; have hfb := h1.frozen; have fx0 := blk_frozen h7 0; have fx1 := blk_frozen h7 1; have fx2 := blk_frozen h7 2; have fx3 := blk_frozen h7 3; have fx4 := blk_frozen h7 4)
            have z7 := h7
            have z1 := h1
            have z2 := h2
            have z4 := q4
            have z5 := q5
            have z6 := q6
            have zk := hkp
            have zb := hb2.mono h6.size
            generalize hWx : W2 = Wx at z7 z1 z2 z4 z5 z6 zk zb ⊢
            clear hWx hb2 h7 h8 h1 h2 q4 q5 q6 hkp hcb hfb fx0 fx1 fx2 fx3 fx4 x0 x1 x2 x3 x4 y0 y1 y2 y3 y4
            have x0 : Wx.cell? ⟨ga, 0, none⟩ = some (.string x.1.f0) := (blk_cell z7 0).trans rfl
            have x1 : Wx.cell? ⟨ga, 1, none⟩ = some (.int .i64 x.1.f1.f0) := (blk_cell z7 1).trans rfl
            have x2 : Wx.cell? ⟨ga, 2, none⟩ = some (.int .i64 x.1.f1.f1) := (blk_cell z7 2).trans rfl
            have x3 : Wx.cell? ⟨ga, 3, none⟩ = some (.string x.1.f2) := (blk_cell z7 3).trans rfl
            have x4 : Wx.cell? ⟨ga, 4, none⟩ = some (.bool x.1.f3) := (blk_cell z7 4).trans rfl
            have hcb := z1.cell
            have hfb := z1.frozen
            have hkd : keyD x = x.1.f0 := by unfold keyD; rw [ht]; rfl
            gi_wp2_with (gi_at_builtin; refine wpListIn_append_own _ rfl _ _ 53 rfl w.heap.size 9 i0 _ 1 16 Try.underlying53 hi hz0 hz1 hz2 rfl (by decide) _ _ _ rfl (z2.alloc _) ⟨Wx.heap.size, 0, none⟩ 1 1 [.string x.1.f0] rfl rfl (cell_one_new _ _ _) (by simp [Value.oneCell']) (by simp only [maxLen]; omega) (by omega) (by have := z6.size; simp; omega) ?_; intro v' w1 hown' hgrow _; obtain ⟨g', cap', rfl⟩ := ownsRow_succ hown'; obtain ⟨hv1, hv2, hr2, hk2, hb4⟩ := z1.appended (by decide) z2 z6.size hs0 hown' hgrow; have hc1 := hv1.cell; have hf1 := hv1.frozen)
            have bA : Boxed Wx (W1.heap.size + 1) 22 (.slice A la.length c) := z4
            have bB : Boxed Wx (W1.heap.size + 1 + 1) 22 (.slice A' lb.length c') := z5
            have bA2 := ((bA.alloc _).kept hgrow (bA.not_row (by decide) z2)).other (B' := W1.heap.size) (by omega) (.slice (some ⟨g', 0, none⟩) ((differL pre).length + 1) cap')
            have bB2 := ((bB.alloc _).kept hgrow (bB.not_row (by decide) z2)).other (B' := W1.heap.size) (by omega) (.slice (some ⟨g', 0, none⟩) ((differL pre).length + 1) cap')
            exact ⟨zk.trans (hk2.from _), ⟨zb.trans hb4, bA2.trans h4.symm, bB2.trans h5.symm⟩, ⟨_, hv2, by rw [differL_hit hv, hkd, List.map_append]; simpa using hr2, trivial⟩, ⟨bA2, bB2⟩, z6.trans hb4⟩
      | false =>
        have hv : verB x.1 x.2 = false := by unfold verB; rw [e0]; rfl
        cases ht : thereB x.1 with
        | false =>
          gi_upto_region 11 with (refine ⟨trivial, ?_⟩; gi_at_call 44; refine (CallsIn.inRound l (there_callsB _ x.1 false ht W)).mono ?_; rintro e W2 ⟨rfl, hb2⟩; clear hr x0 x1 x2 x3 x4 y0 y1 y2 y3 y4; replace h7 := blk_below h7 hb2; replace h8 := blk_below h8 hb2; replace h1 : Boxed _ _ _ _ := blk_below h1 hb2; replace h2 := pw_own_below h2 hb2; have q4 := (hb2.block _ (blk_lt h4)).trans h4; have q5 := (hb2.block _ (blk_lt h5)).trans h5; have q6 := h6.trans (hb2.mono h6.size); have hkp := keeps_below (B := W0.heap.size) hb2; have x0 : W2.cell? ⟨ga, 0, none⟩ = some (.string x.1.f0) := (blk_cell h7 0).trans rfl; have x1 : W2.cell? ⟨ga, 1, none⟩ = some (.int .i64 x.1.f1.f0) := (blk_cell h7 1).trans rfl; have x2 : W2.cell? ⟨ga, 2, none⟩ = some (.int .i64 x.1.f1.f1) := (blk_cell h7 2).trans rfl; have x3 : W2.cell? ⟨ga, 3, none⟩ = some (.string x.1.f2) := (blk_cell h7 3).trans rfl; have x4 : W2.cell? ⟨ga, 4, none⟩ = some (.bool x.1.f3) := (blk_cell h7 4).trans rfl; have y0 : W2.cell? ⟨gb', 0, none⟩ = some (.string x.2.f0) := (blk_cell h8 0).trans rfl; have y1 : W2.cell? ⟨gb', 1, none⟩ = some (.int .i64 x.2.f1.f0) := (blk_cell h8 1).trans rfl; have y2 : W2.cell? ⟨gb', 2, none⟩ = some (.int .i64 x.2.f1.f1) := (blk_cell h8 2).trans rfl; have y3 : W2.cell? ⟨gb', 3, none⟩ = some (.string x.2.f2) := (blk_cell h8 3).trans rfl; have y4 : W2.cell? ⟨gb', 4, none⟩ = some (.bool x.2.f3) := (blk_cell h8 4).trans rfl; have hcb := h1.cell; have hfb := h1.frozen; have fx0 := blk_frozen h7 0; have fx1 := blk_frozen h7 1; have fx2 := blk_frozen h7 2; have fx3 := blk_frozen h7 3; have fx4 := blk_frozen h7 4)
          have hgaB : ga ≠ W1.heap.size := fun e => (by rw [e] at h7; have := h7.symm.trans (show W2.heap[W1.heap.size]? = _ from h1); simp at this)
          have hgaC : ga ≠ W1.heap.size + 1 := fun e => (by rw [e] at h7; have := h7.symm.trans q4; simp at this)
          have hgaD : ga ≠ W1.heap.size + 1 + 1 := fun e => (by rw [e] at h7; have := h7.symm.trans q5; simp at this)
          have hne : some ga ≠ v.ownBlock := own_ne h2 h7 (by decide)
          have z7 := st_at x.2 h7
          have z1 : Boxed (st W2 ga x.2) W1.heap.size 53 v := (st_far (W := W2) x.2 (Ne.symm hgaB)).trans h1
          have z2 := row_st x.2 h2 hne
          have z4 := (st_far (W := W2) x.2 (Ne.symm hgaC)).trans q4
          have z5 := (st_far (W := W2) x.2 (Ne.symm hgaD)).trans q5
          have z6 := st_below x.2 q6 h9
          have zk := hkp.trans (st_keeps W2 ga W0.heap.size x.2)
          have zb := st_below x.2 (hb2.mono h6.size) h9
          dsimp only [st] at z7 z1 z2 z4 z5 z6 zk zb
          generalize hWx : ((((W2.setCell ⟨ga, 0, none⟩ (.string x.2.f0)).setCell ⟨ga, 1, none⟩ (.int .i64 x.2.f1.f0)).setCell ⟨ga, 2, none⟩ (.int .i64 x.2.f1.f1)).setCell ⟨ga, 3, none⟩ (.string x.2.f2)).setCell ⟨ga, 4, none⟩ (.bool x.2.f3) = Wx at z7 z1 z2 z4 z5 z6 zk zb ⊢
          clear hWx hb2 h7 h8 h1 h2 q4 q5 q6 hkp hcb hfb fx0 fx1 fx2 fx3 fx4 x0 x1 x2 x3 x4 y0 y1 y2 y3 y4
          have x0 : Wx.cell? ⟨ga, 0, none⟩ = some (.string x.2.f0) := (blk_cell z7 0).trans rfl
          have x1 : Wx.cell? ⟨ga, 1, none⟩ = some (.int .i64 x.2.f1.f0) := (blk_cell z7 1).trans rfl
          have x2 : Wx.cell? ⟨ga, 2, none⟩ = some (.int .i64 x.2.f1.f1) := (blk_cell z7 2).trans rfl
          have x3 : Wx.cell? ⟨ga, 3, none⟩ = some (.string x.2.f2) := (blk_cell z7 3).trans rfl
          have x4 : Wx.cell? ⟨ga, 4, none⟩ = some (.bool x.2.f3) := (blk_cell z7 4).trans rfl
          have hcb := z1.cell
          have hfb := z1.frozen
          have hkd : keyD x = x.2.f0 := by unfold keyD; rw [ht]; rfl
          gi_wp2_with (gi_at_builtin; refine wpListIn_append_own _ rfl _ _ 53 rfl w.heap.size 9 i0 _ 1 16 Try.underlying53 hi hz0 hz1 hz2 rfl (by decide) _ _ _ rfl (z2.alloc _) ⟨Wx.heap.size, 0, none⟩ 1 1 [.string x.2.f0] rfl rfl (cell_one_new _ _ _) (by simp [Value.oneCell']) (by simp only [maxLen]; omega) (by omega) (by have := z6.size; simp; omega) ?_; intro v' w1 hown' hgrow _; obtain ⟨g', cap', rfl⟩ := ownsRow_succ hown'; obtain ⟨hv1, hv2, hr2, hk2, hb4⟩ := z1.appended (by decide) z2 z6.size hs0 hown' hgrow; have hc1 := hv1.cell; have hf1 := hv1.frozen)
          have bA : Boxed Wx (W1.heap.size + 1) 22 (.slice A la.length c) := z4
          have bB : Boxed Wx (W1.heap.size + 1 + 1) 22 (.slice A' lb.length c') := z5
          have bA2 := ((bA.alloc _).kept hgrow (bA.not_row (by decide) z2)).other (B' := W1.heap.size) (by omega) (.slice (some ⟨g', 0, none⟩) ((differL pre).length + 1) cap')
          have bB2 := ((bB.alloc _).kept hgrow (bB.not_row (by decide) z2)).other (B' := W1.heap.size) (by omega) (.slice (some ⟨g', 0, none⟩) ((differL pre).length + 1) cap')
          exact ⟨zk.trans (hk2.from _), ⟨zb.trans hb4, bA2.trans h4.symm, bB2.trans h5.symm⟩, ⟨_, hv2, by rw [differL_hit hv, hkd, List.map_append]; simpa using hr2, trivial⟩, ⟨bA2, bB2⟩, z6.trans hb4⟩
        | true =>
          gi_upto_region 11 with (refine ⟨trivial, ?_⟩; gi_at_call 44; refine (CallsIn.inRound l (there_callsB _ x.1 true ht W)).mono ?_; rintro e W2 ⟨rfl, hb2⟩; clear hr x0 x1 x2 x3 x4 y0 y1 y2 y3 y4; replace h7 := blk_below h7 hb2; replace h8 := blk_below h8 hb2; replace h1 : Boxed _ _ _ _ := blk_below h1 hb2; replace h2 := pw_own_below h2 hb2; have q4 := (hb2.block _ (blk_lt h4)).trans h4; have q5 := (hb2.block _ (blk_lt h5)).trans h5; have q6 := h6.trans (hb2.mono h6.size); have hkp := keeps_below (B := W0.heap.size) hb2; have x0 : W2.cell? ⟨ga, 0, none⟩ = some (.string x.1.f0) := (blk_cell h7 0).trans rfl; have x1 : W2.cell? ⟨ga, 1, none⟩ = some (.int .i64 x.1.f1.f0) := (blk_cell h7 1).trans rfl; have x2 : W2.cell? ⟨ga, 2, none⟩ = some (.int .i64 x.1.f1.f1) := (blk_cell h7 2).trans rfl; have x3 : W2.cell? ⟨ga, 3, none⟩ = some (.string x.1.f2) := (blk_cell h7 3).trans rfl; have x4 : W2.cell? ⟨ga, 4, none⟩ = some (.bool x.1.f3) := (blk_cell h7 4).trans rfl; have y0 : W2.cell? ⟨gb', 0, none⟩ = some (.string x.2.f0) := (blk_cell h8 0).trans rfl; have y1 : W2.cell? ⟨gb', 1, none⟩ = some (.int .i64 x.2.f1.f0) := (blk_cell h8 1).trans rfl; have y2 : W2.cell? ⟨gb', 2, none⟩ = some (.int .i64 x.2.f1.f1) := (blk_cell h8 2).trans rfl; have y3 : W2.cell? ⟨gb', 3, none⟩ = some (.string x.2.f2) := (blk_cell h8 3).trans rfl; have y4 : W2.cell? ⟨gb', 4, none⟩ = some (.bool x.2.f3) := (blk_cell h8 4).trans rfl; have hcb := h1.cell; have hfb := h1.frozen; have fx0 := blk_frozen h7 0; have fx1 := blk_frozen h7 1; have fx2 := blk_frozen h7 2; have fx3 := blk_frozen h7 3; have fx4 := blk_frozen h7 4)
          have z7 := h7
          have z1 := h1
          have z2 := h2
          have z4 := q4
          have z5 := q5
          have z6 := q6
          have zk := hkp
          have zb := hb2.mono h6.size
          generalize hWx : W2 = Wx at z7 z1 z2 z4 z5 z6 zk zb ⊢
          clear hWx hb2 h7 h8 h1 h2 q4 q5 q6 hkp hcb hfb fx0 fx1 fx2 fx3 fx4 x0 x1 x2 x3 x4 y0 y1 y2 y3 y4
          have x0 : Wx.cell? ⟨ga, 0, none⟩ = some (.string x.1.f0) := (blk_cell z7 0).trans rfl
          have x1 : Wx.cell? ⟨ga, 1, none⟩ = some (.int .i64 x.1.f1.f0) := (blk_cell z7 1).trans rfl
          have x2 : Wx.cell? ⟨ga, 2, none⟩ = some (.int .i64 x.1.f1.f1) := (blk_cell z7 2).trans rfl
          have x3 : Wx.cell? ⟨ga, 3, none⟩ = some (.string x.1.f2) := (blk_cell z7 3).trans rfl
          have x4 : Wx.cell? ⟨ga, 4, none⟩ = some (.bool x.1.f3) := (blk_cell z7 4).trans rfl
          have hcb := z1.cell
          have hfb := z1.frozen
          have hkd : keyD x = x.1.f0 := by unfold keyD; rw [ht]; rfl
          gi_wp2_with (gi_at_builtin; refine wpListIn_append_own _ rfl _ _ 53 rfl w.heap.size 9 i0 _ 1 16 Try.underlying53 hi hz0 hz1 hz2 rfl (by decide) _ _ _ rfl (z2.alloc _) ⟨Wx.heap.size, 0, none⟩ 1 1 [.string x.1.f0] rfl rfl (cell_one_new _ _ _) (by simp [Value.oneCell']) (by simp only [maxLen]; omega) (by omega) (by have := z6.size; simp; omega) ?_; intro v' w1 hown' hgrow _; obtain ⟨g', cap', rfl⟩ := ownsRow_succ hown'; obtain ⟨hv1, hv2, hr2, hk2, hb4⟩ := z1.appended (by decide) z2 z6.size hs0 hown' hgrow; have hc1 := hv1.cell; have hf1 := hv1.frozen)
          have bA : Boxed Wx (W1.heap.size + 1) 22 (.slice A la.length c) := z4
          have bB : Boxed Wx (W1.heap.size + 1 + 1) 22 (.slice A' lb.length c') := z5
          have bA2 := ((bA.alloc _).kept hgrow (bA.not_row (by decide) z2)).other (B' := W1.heap.size) (by omega) (.slice (some ⟨g', 0, none⟩) ((differL pre).length + 1) cap')
          have bB2 := ((bB.alloc _).kept hgrow (bB.not_row (by decide) z2)).other (B' := W1.heap.size) (by omega) (.slice (some ⟨g', 0, none⟩) ((differL pre).length + 1) cap')
          exact ⟨zk.trans (hk2.from _), ⟨zb.trans hb4, bA2.trans h4.symm, bB2.trans h5.symm⟩, ⟨_, hv2, by rw [differL_hit hv, hkd, List.map_append]; simpa using hr2, trivial⟩, ⟨bA2, bB2⟩, z6.trans hb4⟩
    case done =>
      rintro D ys W hD rfl ⟨⟨v, h1, h2, _⟩, _, h6⟩ hK
      have hcb := h1.cell
      gi_wp2
      refine ⟨by simp, .inl ⟨_, _, rfl, run_takeDeferred hK, ?_⟩⟩
      exact ⟨.tuple #[v, .int .i64 0], by simp [results, Try.f27, go_sem], v, rfl, ownsRow_putObj h2 _ hK rfl, h6.trans (belowK_b (w := w) (Nat.le_refl _) _ D _ _ (by have := kb.size; omega) hK rfl rfl)⟩
    case stop =>
      rintro D c' pre W _ _ h _
      exact h.elim
end Go.Proofs.Ytghlellambnkeaa.MergeW
namespace Go.Proofs.Ytghlellambnkeaa.PAll
open Go.RowKit Go.Proofs.YtghlellambnkeaaW.PrintWords Go.Proofs.Ytghlellambnkeaa.MergeW
def merge_Differ.f (k : Nat) (l0 l1 : List S44) : Option (List ByteArray × Int) := (merge_check.f k l0 l1).bind fun e => if (mp l0 l1).length < 2513169434916 then some (if e = 0 then differL (mp l0 l1) else [], e) else none
theorem merge_Differ.mono : ∀ a0 a1 k, LeO (merge_Differ.f k a0 a1) (merge_Differ.f (k + 1) a0 a1) := fun a0 a1 k => LeO.bind (merge_check.mono a0 a1 k) (fun _ => LeO.refl _)
theorem merge_Differ.calls (k : Nat) (A0 : Option Addr) (c0 : Nat) (l0 : List S44) (A1 : Option Addr) (c1 : Nat) (l1 : List S44) (r1 : List ByteArray) (r2 : Int) (w : World) (hr0 : Kd.C k44 w A0 l0.length l0) (hc0 : l0.length ≤ c0) (hr1 : Kd.C k44 w A1 l1.length l1) (hc1 : l1.length ≤ c1) (h : merge_Differ.f k l0 l1 = some (r1, r2)) :
    Calls Try.prog 27 #[.slice A0 l0.length c0, .slice A1 l1.length c1] w fun e w' => ∃ v0_ : Value, e = .returned (.tuple #[v0_, .int .i64 r2]) ∧ Kd.R Kd.string 9 w' w.heap.size (fun _ => True) v0_ r1 ∧ Below w.heap.size w w' := by
  obtain ⟨e0, he, h⟩ := Option.bind_eq_some_iff.1 h
  split at h
  · rename_i hN
    simp only [Option.some.injEq, Prod.mk.injEq] at h
    obtain ⟨h1, rfl⟩ := h
    exact (callsIn_wide.1 (differ_in k A0 A1 c0 c1 l0 l1 w hr0 hc0 hr1 hc1 e0 he hN r1 (fun h => by rw [← h1, if_pos h]) (fun h => by rw [← h1, if_neg h]))).mono fun e w' ⟨v, h2, h3, h4⟩ => ⟨v, h2, rowRS h3, h4⟩
  · cases h
end Go.Proofs.Ytghlellambnkeaa.PAll
