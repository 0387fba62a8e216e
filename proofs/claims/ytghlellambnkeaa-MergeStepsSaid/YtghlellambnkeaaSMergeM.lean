-- By wip/late.py (a program of this session) out of wip/words.
import Derived.Test.YtghlellambnkeaaProg
import Derived.Test.YtghlellambnkeaaWWords
import Derived.Test.YtghlellambnkeaaWLast
import Derived.Test.YtghlellambnkeaaSMore0
import Derived.Test.YtghlellambnkeaaPAllx0
import Derived.Test.YtghlellambnkeaaPAllx5
import Derived.Test.YtghlellambnkeaaPAllx6
import Derived.Test.YtghlellambnkeaaSMerge
import Derived.Sort.CutIn
import Derived.RangeFuncCalls
import Derived.RangeFuncBox
import Derived.OwnWalkIn
import Derived.Maps.AppendAt
import Derived.BigRegion
import Derived.RegionTactic
import Derived.Test.YtghlellambnkeaaSItemcmp
set_option linter.unusedVariables false
set_option linter.unusedSimpArgs false
namespace Go.Proofs.Ytghlellambnkeaa.MergeW
open Go.RowKit Go.Shelf Go.Proofs.YtghlellambnkeaaW.PrintWords Go.Proofs.Ytghlellambnkeaa.PAll Go.Proofs.Ytghlellambnkeaa.Pure
attribute [local go_sem] Oper.semAt_some
def bestK (x y : S44) : S44 := if newK y x = true then y else x
theorem best_f (x y : S44) : Ev (fun k => item_Best.f k x.f0 x.f1.f0 x.f1.f1 x.f2 x.f3 y.f0 y.f1.f0 y.f1.f1 y.f2 y.f3) ((bestK x y).f0, (bestK x y).f1.f0, (bestK x y).f1.f1, (bestK x y).f2, (bestK x y).f3) := by
  refine Ev.congr (fun k => by rw [item_Best.f]) (Ev.bind (newer_f y x) ?_)
  unfold bestK
  cases newK y x <;> exact Ev.const rfl
theorem best_calls (n : Nat) (x y : S44) (w : World) : CallsIn Fence.wide n Try.prog 45 #[av x, av y] w fun e w' => e = .returned (av (bestK x y)) ∧ Below w.heap.size w w' := by
  obtain ⟨k, hk⟩ := (best_f x y).rounds
  exact callsIn_wide.2 (item_Best.calls k _ _ _ _ _ _ _ _ _ _ _ _ _ _ _ w hk)
def maxL (l : List (S44 × S44)) : List S44 := l.map (fun t => bestK (if thereB t.1 = true then t.1 else t.2) t.2)
theorem maxL_snoc (l : List (S44 × S44)) (x : S44 × S44) : maxL (l ++ [x]) = maxL l ++ [bestK (if thereB x.1 = true then x.1 else x.2) x.2] := by simp [maxL]
theorem maxL_len (l : List (S44 × S44)) : (maxL l).length = l.length := by simp [maxL]
theorem boxed_inj {W : World} {B t : Nat} {v u : Value} (h : Boxed W B t v) (h' : Boxed W B t u) : v = u := by
  have := (show W.heap[B]? = _ from h).symm.trans h'
  simpa using this
/-- The append of a row of one's own, as one operation. -/
theorem oper_append {F : Fence} {n : Nat} {P : Program} (w : World) {o : Oper} {a : Act} {Q : Exit → Act → World → Prop} {K : Act → World → Prop}
    (s x : Operand) (t : TypeId) (hop : o.op = Op.call { callee := Callee.builtin Builtin.append, args := #[s, x], argTypes := #[t, t] })
    (base : Nat) (e : TypeId) (i : TypeInfo) (z : Value) (size bytes : Nat) (h1 : P.underlying t = some (.slice e)) (h2 : P.info? e = some i) (h3 : i.zero = some z) (h4 : i.size = size) (h5 : i.bytes = bytes) (h6 : z.cells.size = size) (h7 : 0 < size)
    (v : Value) (k : Nat) (xs : List Value) (hs : a.eval s = v) (hown : w.ownsRow base e size v k xs) (ad : Addr) (m c : Nat) (news : List Value) (hx : a.eval x = .slice (some ad) m c) (hn : news.length = m * size)
    (hc : ∀ j u, news[j]? = some u → w.cell? (ad.add j) = some u) (h1c : ∀ u ∈ news, u.oneCell' = true) (b1 : k + m ≤ maxLen) (b2 : (k + m) * bytes ≤ 140737488355328) (b3 : base ≤ w.heap.size)
    (hK : ∀ v' w', w'.ownsRow base e size v' (k + m) (xs ++ news) → w.grownBy w' v.ownBlock → K (a.put o.dst v') w') :
    o.wpIn F n P a w K Q := by
  obtain ⟨v', w', hrun, r1, r2, r3⟩ := run_append_own (P := P) w base t o.type e i z size bytes h1 h2 h3 h4 h5 h6 h7 v k xs hown ad m c news hn hc h1c b1 b2 b3
  unfold Oper.wpIn
  refine ⟨?_, ?_⟩
  · simp [Oper.about, hop, resolve, Target.leads, Sem.run_pure]
  · rw [Oper.semAt_plain F _ _ (by rw [hop]; intro c hc'; cases hc')]
    simp [execOp, hop, resolve, invoke, builtin, hs, hx, hrun, Result.andThen]
    exact hK v' w' r1 r2
set_option maxRecDepth 100000 in
set_option maxHeartbeats 4000000 in
theorem max_in (k : Nat) (A A' : Option Addr) (c c' : Nat) (la lb : List S44) (w : World) (hr : Kd.C k44 w A la.length la) (hc : la.length ≤ c) (hr' : Kd.C k44 w A' lb.length lb) (hc' : lb.length ≤ c') (e0 : Int) (hk : merge_check.f k la lb = some e0) (hN : (mp la lb).length < 2513169434916) (res : List S44) (hres0 : e0 = 0 → res = maxL (mp la lb)) (hres1 : e0 ≠ 0 → res = []) :
    CallsIn Fence.wide 6 Try.prog 25 #[.slice A la.length c, .slice A' lb.length c'] w fun e w' => ∃ v, e = .returned (.tuple #[v, .int .i64 e0]) ∧ w'.ownsRow w.heap.size 44 5 v res.length (rowE res) ∧ Below w.heap.size w w' := by
  have hrow := row_of hr
  have hrow' := row_of hr'
  obtain ⟨i0, hi, hz0, hz1, hz2⟩ := info_parts infoE
  refine callsIn_of_wp_marks Try.func25 rfl trivial ?_ rfl
  simp only [Try.ntmps25, List.size_toArray, List.length_cons, List.length_nil, Nat.reduceAdd, Nat.reduceSub, Array.replicate_succ, Array.replicate_zero, List.push_toArray, List.append_toArray, List.nil_append, List.cons_append]
  gi_wp2_with (refine ⟨trivial, ?_⟩; gi_at_call 41; refine (check_calls _ k A A' c c' la lb e0 _ hr hc hr' hc' hk).mono ?_; rintro e W1 ⟨rfl, hb1⟩)
  · have he : (e0 != 0) = true := by assumption
    have hz : ¬ e0 = 0 := by simpa using he
    obtain rfl := hres1 hz
    refine ⟨.tuple #[.slice none 0 0, .int .i64 e0], by simp [results, Try.f25, go_sem], _, rfl, World.ownsRow_nil _ _ _ _, hb1⟩
  · have he : (e0 != 0) = false := by assumption
    obtain rfl : e0 = 0 := by simpa using he
    obtain rfl := hres0 rfl
    clear hres0 hres1
    gi_wp2_with (refine ⟨trivial, ?_⟩; gi_at_call 42; refine (pairs_in _ _ _ _ _ _ _ _).mono ?_; rintro e w' ⟨rfl, rfl⟩)
    have gx := Boxed.new W1 22 (.slice none 0 0)
    have gxb : Below w.heap.size w (W1.alloc (.cells #[.slice none 0 0] 22)) := below_alloc hb1 _
    have hsx : (W1.alloc (.cells #[.slice none 0 0] 22)).heap.size = W1.heap.size + 1 := by simp
    have hs0 := hb1.size
    generalize hWx : W1.alloc (.cells #[.slice none 0 0] 22) = Wx at gx gxb hsx ⊢
    clear hWx
    have hba : ((Wx.alloc (.cells #[.slice A la.length c] 22)).alloc (.cells #[.slice A' lb.length c'] 22)).heap[Wx.heap.size]? = some (.cells #[.slice A la.length c] 22 (0, 0)) := blk_alloc (heap_alloc_new _ _) _
    have hbb : ((Wx.alloc (.cells #[.slice A la.length c] 22)).alloc (.cells #[.slice A' lb.length c'] 22)).heap[Wx.heap.size + 1]? = some (.cells #[.slice A' lb.length c'] 22 (0, 0)) := by simpa using heap_alloc_new (Wx.alloc (.cells #[.slice A la.length c] 22)) (.cells #[.slice A' lb.length c'] 22)
    have kx := (gx.alloc (.cells #[.slice A la.length c] 22)).alloc (.cells #[.slice A' lb.length c'] 22)
    have kb := below_alloc (below_alloc gxb (.cells #[.slice A la.length c] 22)) (.cells #[.slice A' lb.length c'] 22)
    have hs1 : ((Wx.alloc (.cells #[.slice A la.length c] 22)).alloc (.cells #[.slice A' lb.length c'] 22)).heap.size = Wx.heap.size + 2 := by simp
    generalize hW0 : (Wx.alloc (.cells #[.slice A la.length c] 22)).alloc (.cells #[.slice A' lb.length c'] 22) = W0 at hba hbb kx kb hs1 ⊢
    clear hW0
    rw [hsx] at hba hbb hs1
    refine wpIn_rangeFunc_ownH (F := Fence.wide) rfl (by omega) (gf := 53) (lb := #[.pointer (some ⟨(W1.heap.size + 1), 0, none⟩), .pointer (some ⟨(W1.heap.size + 1) + 1, 0, none⟩)]) rfl trivial (enters_of Try.func53 (by kernel_rfl) rfl)
      (pairs_stops _ (by omega) (W1.heap.size + 1) ((W1.heap.size + 1) + 1) w W0 A A' c c' la lb hrow hrow' kb hba hbb) (fun h k => Kp.t h k) (Kp.b kb.size (by omega) (by omega)) (Below.refl _ _) (fun _ => rfl)
      (fun pre W => (∃ v, Boxed W W1.heap.size 22 v ∧ W.ownsRow w.heap.size 44 5 v (maxL pre).length (rowE (maxL pre)) ∧ True) ∧ (W.heap[(W1.heap.size + 1)]? = some (.cells #[.slice A la.length c] 22 (0, 0)) ∧ W.heap[(W1.heap.size + 1) + 1]? = some (.cells #[.slice A' lb.length c'] 22 (0, 0))) ∧ Below w.heap.size w W)
      (fun _ _ _ => False)
      (OwnFrom.and (Own.from (holdsRow_own w.heap.size W1.heap.size 22 44 5 (fun pre => (maxL pre).length) (fun pre => rowE (maxL pre)) (fun _ _ => True)) _) (OwnFrom.and (Own.from (fun s X Y row hs hg hr => ⟨(grownBy_keeps_cells hg hr hs.1 rfl).trans hs.1, (grownBy_keeps_cells hg hr hs.2 rfl).trans hs.2⟩) _) (ownFrom_below (Nat.le_refl _) kb.size)))
      (fun _ => Own.from (fun _ _ _ _ hs _ _ => hs) _)
      ⟨⟨_, kx, World.ownsRow_nil _ _ _ _, trivial⟩, ⟨hba, hbb⟩, kb⟩
      (fun x a' W => ∃ ga gb : Nat, a' = { tmps := #[.slice A la.length c, .slice A' lb.length c', undef, undef, .slice none 0 0, .int .i64 0, .int .i64 0, .pointer (some ⟨W1.heap.size, 0, none⟩), .pointer (some ⟨ga, 0, none⟩), .pointer (some ⟨gb, 0, none⟩), .slice A la.length c, .slice A' lb.length c', .int .i64 0, .int .i64 0, .bool ((0 : Int) != 0), undef, .slice A la.length c, .slice A' lb.length c', .func (.func 53) #[] #[.pointer (some ⟨(W1.heap.size + 1), 0, none⟩), .pointer (some ⟨(W1.heap.size + 1) + 1, 0, none⟩)], av x.1, av x.2, undef, undef, undef, undef, undef, undef, undef, undef, undef, undef, undef], defers := [] } ∧
        W.heap[ga]? = some (.cells (ac x.1) 44 (0, 0)) ∧ W.heap[gb]? = some (.cells (ac x.2) 44 (0, 0)) ∧ w.heap.size ≤ ga ∧ ∃ u, Boxed W W1.heap.size 22 u ∧ some ga ≠ u.ownBlock ∧ some gb ≠ u.ownBlock ∧ ga ≠ gb)
      (fun x a' => Own.from (fun s X Y row hs hg hr => by obtain ⟨ga, gb, h1, h2, h3, h0, u, h4, h5⟩ := hs; exact ⟨ga, gb, h1, (grownBy_keeps_cells hg hr h2 rfl).trans h2, (grownBy_keeps_cells hg hr h3 rfl).trans h3, h0, u, (grownBy_keeps_cells hg hr h4 rfl).trans h4, h5⟩) _)
      ?assign ?body ?done ?stop
    case assign =>
      intro l pre x W K hI hK
      obtain ⟨⟨v, h1, h2, _⟩, ⟨h4, h5⟩, h6⟩ := hI
      have hl4 := blk_lt h4
      have hl5 := blk_lt h5
      gi_wp2
      refine hK _ _ (((KeepsOthers.alloc _ _).trans (KeepsOthers.alloc _ _)).from _) ⟨((Below.refl w.heap.size W).alloc h6.size _).alloc (by have := h6.size; simp; omega) _, (Below.heap_alloc _ _ _ (by simp; omega)).trans (Below.heap_alloc _ _ _ (by omega)), (Below.heap_alloc _ _ _ (by simp; omega)).trans (Below.heap_alloc _ _ _ (by omega))⟩ ⟨⟨v, (h1.alloc _).alloc _, (h2.alloc _).alloc _, trivial⟩, ⟨blk_alloc (blk_alloc h4 _) _, blk_alloc (blk_alloc h5 _) _⟩, below_alloc (below_alloc h6 _) _⟩ ⟨W.heap.size, W.heap.size + 1, rfl, blk_alloc (heap_alloc_new _ _) _, by have := heap_alloc_new (W.alloc (.cells (ac x.1) 44)) (.cells (ac x.2) 44); simpa using this, h6.size, v, (h1.alloc _).alloc _, fun e => by have := own_lt h2 _ e.symm; omega, fun e => by have := own_lt h2 _ e.symm; omega, by omega⟩
    case body =>
      rintro l pre x a' W hl hr ⟨⟨v, h1, h2, _⟩, ⟨h4, h5⟩, h6⟩ ⟨ga, gb', rfl, h7, h8, h9, u, hu, hne, hne2, hne3⟩ hlt
      obtain rfl := boxed_inj hu h1
      clear hu
      have x0 : W.cell? ⟨ga, 0, none⟩ = some (.string x.1.f0) := (blk_cell h7 0).trans rfl
      have x1 : W.cell? ⟨ga, 1, none⟩ = some (.int .i64 x.1.f1.f0) := (blk_cell h7 1).trans rfl
      have x2 : W.cell? ⟨ga, 2, none⟩ = some (.int .i64 x.1.f1.f1) := (blk_cell h7 2).trans rfl
      have x3 : W.cell? ⟨ga, 3, none⟩ = some (.string x.1.f2) := (blk_cell h7 3).trans rfl
      have x4 : W.cell? ⟨ga, 4, none⟩ = some (.bool x.1.f3) := (blk_cell h7 4).trans rfl
      have hpl : (maxL pre).length ≤ pre.length := Nat.le_of_eq (maxL_len pre)
      have hmx : Try.prog.follows .mixedOrders = true := by kernel_rfl
      cases ht : thereB x.1 with
      | false =>
        gi_wp2_with (refine ⟨trivial, ?_⟩; gi_at_call 44; refine (CallsIn.inRound l (there_callsB _ x.1 false ht W)).mono ?_; rintro e W2 ⟨rfl, hb2⟩; clear hr x0 x1 x2 x3 x4; replace h7 := blk_below h7 hb2; replace h8 := blk_below h8 hb2; replace h1 : Boxed _ _ _ _ := blk_below h1 hb2; replace h2 := pw_own_below h2 hb2; have q4 := (hb2.block _ (blk_lt h4)).trans h4; have q5 := (hb2.block _ (blk_lt h5)).trans h5; have q6 := h6.trans (hb2.mono h6.size); have hkp := keeps_below (B := W0.heap.size) hb2; have x0 : W2.cell? ⟨ga, 0, none⟩ = some (.string x.1.f0) := (blk_cell h7 0).trans rfl; have x1 : W2.cell? ⟨ga, 1, none⟩ = some (.int .i64 x.1.f1.f0) := (blk_cell h7 1).trans rfl; have x2 : W2.cell? ⟨ga, 2, none⟩ = some (.int .i64 x.1.f1.f1) := (blk_cell h7 2).trans rfl; have x3 : W2.cell? ⟨ga, 3, none⟩ = some (.string x.1.f2) := (blk_cell h7 3).trans rfl; have x4 : W2.cell? ⟨ga, 4, none⟩ = some (.bool x.1.f3) := (blk_cell h7 4).trans rfl; have y0 : W2.cell? ⟨gb', 0, none⟩ = some (.string x.2.f0) := (blk_cell h8 0).trans rfl; have y1 : W2.cell? ⟨gb', 1, none⟩ = some (.int .i64 x.2.f1.f0) := (blk_cell h8 1).trans rfl; have y2 : W2.cell? ⟨gb', 2, none⟩ = some (.int .i64 x.2.f1.f1) := (blk_cell h8 2).trans rfl; have y3 : W2.cell? ⟨gb', 3, none⟩ = some (.string x.2.f2) := (blk_cell h8 3).trans rfl; have y4 : W2.cell? ⟨gb', 4, none⟩ = some (.bool x.2.f3) := (blk_cell h8 4).trans rfl; have hcb := h1.cell; have hfb := h1.frozen; have fx0 := blk_frozen h7 0; have fx1 := blk_frozen h7 1; have fx2 := blk_frozen h7 2; have fx3 := blk_frozen h7 3; have fx4 := blk_frozen h7 4)
        have hgaB : ga ≠ W1.heap.size := fun e => (by rw [e] at h7; have := h7.symm.trans (show W2.heap[W1.heap.size]? = _ from h1); simp at this)
        have hgaC : ga ≠ W1.heap.size + 1 := fun e => (by rw [e] at h7; have := h7.symm.trans q4; simp at this)
        have hgaD : ga ≠ W1.heap.size + 1 + 1 := fun e => (by rw [e] at h7; have := h7.symm.trans q5; simp at this)
        have z7 := st_at x.2 h7
        have z8 := (st_far (W := W2) x.2 (Ne.symm hne3)).trans h8
        have z1 : Boxed (st W2 ga x.2) W1.heap.size 22 u := (st_far (W := W2) x.2 (Ne.symm hgaB)).trans h1
        have z2 := row_st x.2 h2 hne
        have z4 := (st_far (W := W2) x.2 (Ne.symm hgaC)).trans q4
        have z5 := (st_far (W := W2) x.2 (Ne.symm hgaD)).trans q5
        have z6 := st_below x.2 q6 h9
        have zk := hkp.trans (st_keeps W2 ga W0.heap.size x.2)
        have zb := st_below x.2 (hb2.mono h6.size) h9
        dsimp only [st] at z7 z8 z1 z2 z4 z5 z6 zk zb
        generalize hWx : ((((W2.setCell ⟨ga, 0, none⟩ (.string x.2.f0)).setCell ⟨ga, 1, none⟩ (.int .i64 x.2.f1.f0)).setCell ⟨ga, 2, none⟩ (.int .i64 x.2.f1.f1)).setCell ⟨ga, 3, none⟩ (.string x.2.f2)).setCell ⟨ga, 4, none⟩ (.bool x.2.f3) = Wx at z7 z8 z1 z2 z4 z5 z6 zk zb ⊢
        clear hWx hb2 h7 h8 h1 h2 q4 q5 q6 hkp hcb hfb fx0 fx1 fx2 fx3 fx4 x0 x1 x2 x3 x4 y0 y1 y2 y3 y4
        have hxx : (if thereB x.1 = true then x.1 else x.2) = x.2 := by rw [ht]; rfl
        have x0 : Wx.cell? ⟨ga, 0, none⟩ = some (.string x.2.f0) := (blk_cell z7 0).trans rfl
        have x1 : Wx.cell? ⟨ga, 1, none⟩ = some (.int .i64 x.2.f1.f0) := (blk_cell z7 1).trans rfl
        have x2 : Wx.cell? ⟨ga, 2, none⟩ = some (.int .i64 x.2.f1.f1) := (blk_cell z7 2).trans rfl
        have x3 : Wx.cell? ⟨ga, 3, none⟩ = some (.string x.2.f2) := (blk_cell z7 3).trans rfl
        have x4 : Wx.cell? ⟨ga, 4, none⟩ = some (.bool x.2.f3) := (blk_cell z7 4).trans rfl
        have y0 : Wx.cell? ⟨gb', 0, none⟩ = some (.string x.2.f0) := (blk_cell z8 0).trans rfl
        have y1 : Wx.cell? ⟨gb', 1, none⟩ = some (.int .i64 x.2.f1.f0) := (blk_cell z8 1).trans rfl
        have y2 : Wx.cell? ⟨gb', 2, none⟩ = some (.int .i64 x.2.f1.f1) := (blk_cell z8 2).trans rfl
        have y3 : Wx.cell? ⟨gb', 3, none⟩ = some (.string x.2.f2) := (blk_cell z8 3).trans rfl
        have y4 : Wx.cell? ⟨gb', 4, none⟩ = some (.bool x.2.f3) := (blk_cell z8 4).trans rfl
        have hcb := z1.cell
        have hfb := z1.frozen
        refine wpIn_region_any (by assumption) ?_
        change wpAnyIn _ _ _ _ _ _ _ _ _ (World.drew _)
        refine wpAnyIn_ready (rs := [0, 1, 2]) (by kernel_rfl) (by simp) ?_
        refine AllReadyIn.cons rfl (fun K hK => ?_) ?_
        · go_simp
          refine hK _ _ ?_
          clear hK K
          refine wpAnyIn_ready (rs := [1, 2]) (by kernel_rfl) (by simp) ?_
          refine AllReadyIn.cons rfl (fun K hK => ?_) ?_
          · go_simp
            refine hK _ _ ?_
            clear hK K
            refine wpAnyIn_ready (rs := [2]) (by kernel_rfl) (by simp) ?_
            refine AllReadyIn.cons rfl (fun K hK => ?_) ?_
            · go_simp
              refine hK _ _ ?_
              clear hK K
              refine wpAnyIn_ready (rs := [3]) (by kernel_rfl) (by simp) ?_
              refine AllReadyIn.cons rfl (fun K hK => ?_) ?_
              · go_simp
                gi_wp2_with (refine ⟨trivial, ?_⟩; gi_at_call 45; refine (CallsIn.inRound l (best_calls _ (x.2) x.2 _)).mono ?_; rintro e W3 ⟨rfl, hb3⟩; have hb3' : Below Wx.heap.size Wx W3 := (Below.drew (Below.refl Wx.heap.size Wx)).trans hb3; have y1 : Boxed W3 W1.heap.size 22 u := (hb3'.block _ z1.lt).trans z1; have y2 := pw_own_below z2 hb3'; have ycb := y1.cell; have yfb := y1.frozen; have yal : ∀ o_ : Obj, (W3.alloc o_).cell? ⟨W1.heap.size, 0, none⟩ = some u := fun o_ => (y1.alloc o_).cell; clear hcb hfb)
                try (refine hK _ _ ?_)
                try clear hK K
                refine wpAnyIn_ready (rs := [4]) (by kernel_rfl) (by simp) ?_
                refine AllReadyIn.cons rfl (fun K hK => ?_) ?_
                · go_simp
                  refine hK _ _ ?_
                  clear hK K
                  refine wpAnyIn_ready (rs := [5]) (by kernel_rfl) (by simp) ?_
                  refine AllReadyIn.cons rfl (fun K hK => ?_) ?_
                  · rw [if_pos (by rfl)]
                    refine oper_append _ _ _ 22 rfl w.heap.size 44 i0 _ 5 56 Try.underlying22 hi hz0 hz1 hz2 rfl (by decide) _ _ _ rfl (y2.alloc _) ⟨W3.heap.size, 0, none⟩ 1 1 (cellsE (bestK (x.2) x.2)) rfl rfl (five_new _ _) (by simp [cellsE, Value.oneCell']) (by simp only [maxLen]; omega) (by omega) (by have := z6.size; have := hb3'.size; simp; omega) ?_
                    intro v' w1 hown' hgrow
                    obtain ⟨g', cap', rfl⟩ := ownsRow_succ hown'
                    obtain ⟨hv1, hv2, hr2, hk2, hb4⟩ := y1.appended (by decide) y2 (by have := z6.size; have := hb3'.size; omega) hs0 hown' hgrow
                    have hc1 := hv1.cell
                    have hf1 := hv1.frozen
                    refine hK _ _ ?_
                    clear hK K
                    refine wpAnyIn_ready (rs := [6]) (by kernel_rfl) (by simp) ?_
                    refine AllReadyIn.cons rfl (fun K hK => ?_) ?_
                    · go_simp
                      refine hK _ _ ?_
                      clear hK K
                      refine wpAnyIn_done (by kernel_rfl) ?_ _
                      gi_wp2
                      have bA : Boxed W3 (W1.heap.size + 1) 22 (.slice A la.length c) := (hb3.block _ (blk_lt z4)).trans z4
                      have bB : Boxed W3 (W1.heap.size + 1 + 1) 22 (.slice A' lb.length c') := (hb3.block _ (blk_lt z5)).trans z5
                      have bA2 := ((bA.alloc _).kept hgrow (bA.not_row (by decide) y2)).other (B' := W1.heap.size) (by omega) (.slice (some ⟨g', 0, none⟩) ((maxL pre).length + 1) cap')
                      have bB2 := ((bB.alloc _).kept hgrow (bB.not_row (by decide) y2)).other (B' := W1.heap.size) (by omega) (.slice (some ⟨g', 0, none⟩) ((maxL pre).length + 1) cap')
                      exact ⟨(zk.trans (keeps_below hb3')).trans (hk2.from _), ⟨(zb.trans (hb3'.mono z6.size)).trans hb4, bA2.trans h4.symm, bB2.trans h5.symm⟩, ⟨_, hv2, by rw [maxL_snoc, hxx, rowE_snoc]; simpa using hr2, trivial⟩, ⟨bA2, bB2⟩, (z6.trans (hb3'.mono z6.size)).trans hb4⟩
                    exact AllReadyIn.nil
                  exact AllReadyIn.nil
                exact AllReadyIn.nil
              exact AllReadyIn.nil
            exact AllReadyIn.nil
          refine AllReadyIn.cons rfl (fun K hK => ?_) ?_
          · go_simp
            refine hK _ _ ?_
            clear hK K
            refine wpAnyIn_ready (rs := [1]) (by kernel_rfl) (by simp) ?_
            refine AllReadyIn.cons rfl (fun K hK => ?_) ?_
            · go_simp
              refine hK _ _ ?_
              clear hK K
              refine wpAnyIn_ready (rs := [3]) (by kernel_rfl) (by simp) ?_
              refine AllReadyIn.cons rfl (fun K hK => ?_) ?_
              · go_simp
                gi_wp2_with (refine ⟨trivial, ?_⟩; gi_at_call 45; refine (CallsIn.inRound l (best_calls _ (x.2) x.2 _)).mono ?_; rintro e W3 ⟨rfl, hb3⟩; have hb3' : Below Wx.heap.size Wx W3 := (Below.drew (Below.refl Wx.heap.size Wx)).trans hb3; have y1 : Boxed W3 W1.heap.size 22 u := (hb3'.block _ z1.lt).trans z1; have y2 := pw_own_below z2 hb3'; have ycb := y1.cell; have yfb := y1.frozen; have yal : ∀ o_ : Obj, (W3.alloc o_).cell? ⟨W1.heap.size, 0, none⟩ = some u := fun o_ => (y1.alloc o_).cell; clear hcb hfb)
                try (refine hK _ _ ?_)
                try clear hK K
                refine wpAnyIn_ready (rs := [4]) (by kernel_rfl) (by simp) ?_
                refine AllReadyIn.cons rfl (fun K hK => ?_) ?_
                · go_simp
                  refine hK _ _ ?_
                  clear hK K
                  refine wpAnyIn_ready (rs := [5]) (by kernel_rfl) (by simp) ?_
                  refine AllReadyIn.cons rfl (fun K hK => ?_) ?_
                  · rw [if_pos (by rfl)]
                    refine oper_append _ _ _ 22 rfl w.heap.size 44 i0 _ 5 56 Try.underlying22 hi hz0 hz1 hz2 rfl (by decide) _ _ _ rfl (y2.alloc _) ⟨W3.heap.size, 0, none⟩ 1 1 (cellsE (bestK (x.2) x.2)) rfl rfl (five_new _ _) (by simp [cellsE, Value.oneCell']) (by simp only [maxLen]; omega) (by omega) (by have := z6.size; have := hb3'.size; simp; omega) ?_
                    intro v' w1 hown' hgrow
                    obtain ⟨g', cap', rfl⟩ := ownsRow_succ hown'
                    obtain ⟨hv1, hv2, hr2, hk2, hb4⟩ := y1.appended (by decide) y2 (by have := z6.size; have := hb3'.size; omega) hs0 hown' hgrow
                    have hc1 := hv1.cell
                    have hf1 := hv1.frozen
                    refine hK _ _ ?_
                    clear hK K
                    refine wpAnyIn_ready (rs := [6]) (by kernel_rfl) (by simp) ?_
                    refine AllReadyIn.cons rfl (fun K hK => ?_) ?_
                    · go_simp
                      refine hK _ _ ?_
                      clear hK K
                      refine wpAnyIn_done (by kernel_rfl) ?_ _
                      gi_wp2
                      have bA : Boxed W3 (W1.heap.size + 1) 22 (.slice A la.length c) := (hb3.block _ (blk_lt z4)).trans z4
                      have bB : Boxed W3 (W1.heap.size + 1 + 1) 22 (.slice A' lb.length c') := (hb3.block _ (blk_lt z5)).trans z5
                      have bA2 := ((bA.alloc _).kept hgrow (bA.not_row (by decide) y2)).other (B' := W1.heap.size) (by omega) (.slice (some ⟨g', 0, none⟩) ((maxL pre).length + 1) cap')
                      have bB2 := ((bB.alloc _).kept hgrow (bB.not_row (by decide) y2)).other (B' := W1.heap.size) (by omega) (.slice (some ⟨g', 0, none⟩) ((maxL pre).length + 1) cap')
                      exact ⟨(zk.trans (keeps_below hb3')).trans (hk2.from _), ⟨(zb.trans (hb3'.mono z6.size)).trans hb4, bA2.trans h4.symm, bB2.trans h5.symm⟩, ⟨_, hv2, by rw [maxL_snoc, hxx, rowE_snoc]; simpa using hr2, trivial⟩, ⟨bA2, bB2⟩, (z6.trans (hb3'.mono z6.size)).trans hb4⟩
                    exact AllReadyIn.nil
                  exact AllReadyIn.nil
                exact AllReadyIn.nil
              exact AllReadyIn.nil
            exact AllReadyIn.nil
          exact AllReadyIn.nil
        refine AllReadyIn.cons rfl (fun K hK => ?_) ?_
        · go_simp
          refine hK _ _ ?_
          clear hK K
          refine wpAnyIn_ready (rs := [0, 2]) (by kernel_rfl) (by simp) ?_
          refine AllReadyIn.cons rfl (fun K hK => ?_) ?_
          · go_simp
            refine hK _ _ ?_
            clear hK K
            refine wpAnyIn_ready (rs := [2]) (by kernel_rfl) (by simp) ?_
            refine AllReadyIn.cons rfl (fun K hK => ?_) ?_
            · go_simp
              refine hK _ _ ?_
              clear hK K
              refine wpAnyIn_ready (rs := [3]) (by kernel_rfl) (by simp) ?_
              refine AllReadyIn.cons rfl (fun K hK => ?_) ?_
              · go_simp
                gi_wp2_with (refine ⟨trivial, ?_⟩; gi_at_call 45; refine (CallsIn.inRound l (best_calls _ (x.2) x.2 _)).mono ?_; rintro e W3 ⟨rfl, hb3⟩; have hb3' : Below Wx.heap.size Wx W3 := (Below.drew (Below.refl Wx.heap.size Wx)).trans hb3; have y1 : Boxed W3 W1.heap.size 22 u := (hb3'.block _ z1.lt).trans z1; have y2 := pw_own_below z2 hb3'; have ycb := y1.cell; have yfb := y1.frozen; have yal : ∀ o_ : Obj, (W3.alloc o_).cell? ⟨W1.heap.size, 0, none⟩ = some u := fun o_ => (y1.alloc o_).cell; clear hcb hfb)
                try (refine hK _ _ ?_)
                try clear hK K
                refine wpAnyIn_ready (rs := [4]) (by kernel_rfl) (by simp) ?_
                refine AllReadyIn.cons rfl (fun K hK => ?_) ?_
                · go_simp
                  refine hK _ _ ?_
                  clear hK K
                  refine wpAnyIn_ready (rs := [5]) (by kernel_rfl) (by simp) ?_
                  refine AllReadyIn.cons rfl (fun K hK => ?_) ?_
                  · rw [if_pos (by rfl)]
                    refine oper_append _ _ _ 22 rfl w.heap.size 44 i0 _ 5 56 Try.underlying22 hi hz0 hz1 hz2 rfl (by decide) _ _ _ rfl (y2.alloc _) ⟨W3.heap.size, 0, none⟩ 1 1 (cellsE (bestK (x.2) x.2)) rfl rfl (five_new _ _) (by simp [cellsE, Value.oneCell']) (by simp only [maxLen]; omega) (by omega) (by have := z6.size; have := hb3'.size; simp; omega) ?_
                    intro v' w1 hown' hgrow
                    obtain ⟨g', cap', rfl⟩ := ownsRow_succ hown'
                    obtain ⟨hv1, hv2, hr2, hk2, hb4⟩ := y1.appended (by decide) y2 (by have := z6.size; have := hb3'.size; omega) hs0 hown' hgrow
                    have hc1 := hv1.cell
                    have hf1 := hv1.frozen
                    refine hK _ _ ?_
                    clear hK K
                    refine wpAnyIn_ready (rs := [6]) (by kernel_rfl) (by simp) ?_
                    refine AllReadyIn.cons rfl (fun K hK => ?_) ?_
                    · go_simp
                      refine hK _ _ ?_
                      clear hK K
                      refine wpAnyIn_done (by kernel_rfl) ?_ _
                      gi_wp2
                      have bA : Boxed W3 (W1.heap.size + 1) 22 (.slice A la.length c) := (hb3.block _ (blk_lt z4)).trans z4
                      have bB : Boxed W3 (W1.heap.size + 1 + 1) 22 (.slice A' lb.length c') := (hb3.block _ (blk_lt z5)).trans z5
                      have bA2 := ((bA.alloc _).kept hgrow (bA.not_row (by decide) y2)).other (B' := W1.heap.size) (by omega) (.slice (some ⟨g', 0, none⟩) ((maxL pre).length + 1) cap')
                      have bB2 := ((bB.alloc _).kept hgrow (bB.not_row (by decide) y2)).other (B' := W1.heap.size) (by omega) (.slice (some ⟨g', 0, none⟩) ((maxL pre).length + 1) cap')
                      exact ⟨(zk.trans (keeps_below hb3')).trans (hk2.from _), ⟨(zb.trans (hb3'.mono z6.size)).trans hb4, bA2.trans h4.symm, bB2.trans h5.symm⟩, ⟨_, hv2, by rw [maxL_snoc, hxx, rowE_snoc]; simpa using hr2, trivial⟩, ⟨bA2, bB2⟩, (z6.trans (hb3'.mono z6.size)).trans hb4⟩
                    exact AllReadyIn.nil
                  exact AllReadyIn.nil
                exact AllReadyIn.nil
              exact AllReadyIn.nil
            exact AllReadyIn.nil
          refine AllReadyIn.cons rfl (fun K hK => ?_) ?_
          · go_simp
            refine hK _ _ ?_
            clear hK K
            refine wpAnyIn_ready (rs := [0, 3]) (by kernel_rfl) (by simp) ?_
            refine AllReadyIn.cons rfl (fun K hK => ?_) ?_
            · go_simp
              refine hK _ _ ?_
              clear hK K
              refine wpAnyIn_ready (rs := [3]) (by kernel_rfl) (by simp) ?_
              refine AllReadyIn.cons rfl (fun K hK => ?_) ?_
              · go_simp
                gi_wp2_with (refine ⟨trivial, ?_⟩; gi_at_call 45; refine (CallsIn.inRound l (best_calls _ (x.2) x.2 _)).mono ?_; rintro e W3 ⟨rfl, hb3⟩; have hb3' : Below Wx.heap.size Wx W3 := (Below.drew (Below.refl Wx.heap.size Wx)).trans hb3; have y1 : Boxed W3 W1.heap.size 22 u := (hb3'.block _ z1.lt).trans z1; have y2 := pw_own_below z2 hb3'; have ycb := y1.cell; have yfb := y1.frozen; have yal : ∀ o_ : Obj, (W3.alloc o_).cell? ⟨W1.heap.size, 0, none⟩ = some u := fun o_ => (y1.alloc o_).cell; clear hcb hfb)
                try (refine hK _ _ ?_)
                try clear hK K
                refine wpAnyIn_ready (rs := [4]) (by kernel_rfl) (by simp) ?_
                refine AllReadyIn.cons rfl (fun K hK => ?_) ?_
                · go_simp
                  refine hK _ _ ?_
                  clear hK K
                  refine wpAnyIn_ready (rs := [5]) (by kernel_rfl) (by simp) ?_
                  refine AllReadyIn.cons rfl (fun K hK => ?_) ?_
                  · rw [if_pos (by rfl)]
                    refine oper_append _ _ _ 22 rfl w.heap.size 44 i0 _ 5 56 Try.underlying22 hi hz0 hz1 hz2 rfl (by decide) _ _ _ rfl (y2.alloc _) ⟨W3.heap.size, 0, none⟩ 1 1 (cellsE (bestK (x.2) x.2)) rfl rfl (five_new _ _) (by simp [cellsE, Value.oneCell']) (by simp only [maxLen]; omega) (by omega) (by have := z6.size; have := hb3'.size; simp; omega) ?_
                    intro v' w1 hown' hgrow
                    obtain ⟨g', cap', rfl⟩ := ownsRow_succ hown'
                    obtain ⟨hv1, hv2, hr2, hk2, hb4⟩ := y1.appended (by decide) y2 (by have := z6.size; have := hb3'.size; omega) hs0 hown' hgrow
                    have hc1 := hv1.cell
                    have hf1 := hv1.frozen
                    refine hK _ _ ?_
                    clear hK K
                    refine wpAnyIn_ready (rs := [6]) (by kernel_rfl) (by simp) ?_
                    refine AllReadyIn.cons rfl (fun K hK => ?_) ?_
                    · go_simp
                      refine hK _ _ ?_
                      clear hK K
                      refine wpAnyIn_done (by kernel_rfl) ?_ _
                      gi_wp2
                      have bA : Boxed W3 (W1.heap.size + 1) 22 (.slice A la.length c) := (hb3.block _ (blk_lt z4)).trans z4
                      have bB : Boxed W3 (W1.heap.size + 1 + 1) 22 (.slice A' lb.length c') := (hb3.block _ (blk_lt z5)).trans z5
                      have bA2 := ((bA.alloc _).kept hgrow (bA.not_row (by decide) y2)).other (B' := W1.heap.size) (by omega) (.slice (some ⟨g', 0, none⟩) ((maxL pre).length + 1) cap')
                      have bB2 := ((bB.alloc _).kept hgrow (bB.not_row (by decide) y2)).other (B' := W1.heap.size) (by omega) (.slice (some ⟨g', 0, none⟩) ((maxL pre).length + 1) cap')
                      exact ⟨(zk.trans (keeps_below hb3')).trans (hk2.from _), ⟨(zb.trans (hb3'.mono z6.size)).trans hb4, bA2.trans h4.symm, bB2.trans h5.symm⟩, ⟨_, hv2, by rw [maxL_snoc, hxx, rowE_snoc]; simpa using hr2, trivial⟩, ⟨bA2, bB2⟩, (z6.trans (hb3'.mono z6.size)).trans hb4⟩
                    exact AllReadyIn.nil
                  exact AllReadyIn.nil
                exact AllReadyIn.nil
              exact AllReadyIn.nil
            refine AllReadyIn.cons rfl (fun K hK => ?_) ?_
            · go_simp
              gi_wp2_with (refine ⟨trivial, ?_⟩; gi_at_call 45; refine (CallsIn.inRound l (best_calls _ (x.2) x.2 _)).mono ?_; rintro e W3 ⟨rfl, hb3⟩; have hb3' : Below Wx.heap.size Wx W3 := (Below.drew (Below.refl Wx.heap.size Wx)).trans hb3; have y1 : Boxed W3 W1.heap.size 22 u := (hb3'.block _ z1.lt).trans z1; have y2 := pw_own_below z2 hb3'; have ycb := y1.cell; have yfb := y1.frozen; have yal : ∀ o_ : Obj, (W3.alloc o_).cell? ⟨W1.heap.size, 0, none⟩ = some u := fun o_ => (y1.alloc o_).cell; clear hcb hfb)
              try (refine hK _ _ ?_)
              try clear hK K
              refine wpAnyIn_ready (rs := [0, 4]) (by kernel_rfl) (by simp) ?_
              refine AllReadyIn.cons rfl (fun K hK => ?_) ?_
              · go_simp
                refine hK _ _ ?_
                clear hK K
                refine wpAnyIn_ready (rs := [4]) (by kernel_rfl) (by simp) ?_
                refine AllReadyIn.cons rfl (fun K hK => ?_) ?_
                · go_simp
                  refine hK _ _ ?_
                  clear hK K
                  refine wpAnyIn_ready (rs := [5]) (by kernel_rfl) (by simp) ?_
                  refine AllReadyIn.cons rfl (fun K hK => ?_) ?_
                  · rw [if_pos (by rfl)]
                    refine oper_append _ _ _ 22 rfl w.heap.size 44 i0 _ 5 56 Try.underlying22 hi hz0 hz1 hz2 rfl (by decide) _ _ _ rfl (y2.alloc _) ⟨W3.heap.size, 0, none⟩ 1 1 (cellsE (bestK (x.2) x.2)) rfl rfl (five_new _ _) (by simp [cellsE, Value.oneCell']) (by simp only [maxLen]; omega) (by omega) (by have := z6.size; have := hb3'.size; simp; omega) ?_
                    intro v' w1 hown' hgrow
                    obtain ⟨g', cap', rfl⟩ := ownsRow_succ hown'
                    obtain ⟨hv1, hv2, hr2, hk2, hb4⟩ := y1.appended (by decide) y2 (by have := z6.size; have := hb3'.size; omega) hs0 hown' hgrow
                    have hc1 := hv1.cell
                    have hf1 := hv1.frozen
                    refine hK _ _ ?_
                    clear hK K
                    refine wpAnyIn_ready (rs := [6]) (by kernel_rfl) (by simp) ?_
                    refine AllReadyIn.cons rfl (fun K hK => ?_) ?_
                    · go_simp
                      refine hK _ _ ?_
                      clear hK K
                      refine wpAnyIn_done (by kernel_rfl) ?_ _
                      gi_wp2
                      have bA : Boxed W3 (W1.heap.size + 1) 22 (.slice A la.length c) := (hb3.block _ (blk_lt z4)).trans z4
                      have bB : Boxed W3 (W1.heap.size + 1 + 1) 22 (.slice A' lb.length c') := (hb3.block _ (blk_lt z5)).trans z5
                      have bA2 := ((bA.alloc _).kept hgrow (bA.not_row (by decide) y2)).other (B' := W1.heap.size) (by omega) (.slice (some ⟨g', 0, none⟩) ((maxL pre).length + 1) cap')
                      have bB2 := ((bB.alloc _).kept hgrow (bB.not_row (by decide) y2)).other (B' := W1.heap.size) (by omega) (.slice (some ⟨g', 0, none⟩) ((maxL pre).length + 1) cap')
                      exact ⟨(zk.trans (keeps_below hb3')).trans (hk2.from _), ⟨(zb.trans (hb3'.mono z6.size)).trans hb4, bA2.trans h4.symm, bB2.trans h5.symm⟩, ⟨_, hv2, by rw [maxL_snoc, hxx, rowE_snoc]; simpa using hr2, trivial⟩, ⟨bA2, bB2⟩, (z6.trans (hb3'.mono z6.size)).trans hb4⟩
                    exact AllReadyIn.nil
                  exact AllReadyIn.nil
                exact AllReadyIn.nil
              refine AllReadyIn.cons rfl (fun K hK => ?_) ?_
              · go_simp
                refine hK _ _ ?_
                clear hK K
                refine wpAnyIn_ready (rs := [0]) (by kernel_rfl) (by simp) ?_
                refine AllReadyIn.cons rfl (fun K hK => ?_) ?_
                · go_simp
                  refine hK _ _ ?_
                  clear hK K
                  refine wpAnyIn_ready (rs := [5]) (by kernel_rfl) (by simp) ?_
                  refine AllReadyIn.cons rfl (fun K hK => ?_) ?_
                  · rw [if_pos (by rfl)]
                    refine oper_append _ _ _ 22 rfl w.heap.size 44 i0 _ 5 56 Try.underlying22 hi hz0 hz1 hz2 rfl (by decide) _ _ _ rfl (y2.alloc _) ⟨W3.heap.size, 0, none⟩ 1 1 (cellsE (bestK (x.2) x.2)) rfl rfl (five_new _ _) (by simp [cellsE, Value.oneCell']) (by simp only [maxLen]; omega) (by omega) (by have := z6.size; have := hb3'.size; simp; omega) ?_
                    intro v' w1 hown' hgrow
                    obtain ⟨g', cap', rfl⟩ := ownsRow_succ hown'
                    obtain ⟨hv1, hv2, hr2, hk2, hb4⟩ := y1.appended (by decide) y2 (by have := z6.size; have := hb3'.size; omega) hs0 hown' hgrow
                    have hc1 := hv1.cell
                    have hf1 := hv1.frozen
                    refine hK _ _ ?_
                    clear hK K
                    refine wpAnyIn_ready (rs := [6]) (by kernel_rfl) (by simp) ?_
                    refine AllReadyIn.cons rfl (fun K hK => ?_) ?_
                    · go_simp
                      refine hK _ _ ?_
                      clear hK K
                      refine wpAnyIn_done (by kernel_rfl) ?_ _
                      gi_wp2
                      have bA : Boxed W3 (W1.heap.size + 1) 22 (.slice A la.length c) := (hb3.block _ (blk_lt z4)).trans z4
                      have bB : Boxed W3 (W1.heap.size + 1 + 1) 22 (.slice A' lb.length c') := (hb3.block _ (blk_lt z5)).trans z5
                      have bA2 := ((bA.alloc _).kept hgrow (bA.not_row (by decide) y2)).other (B' := W1.heap.size) (by omega) (.slice (some ⟨g', 0, none⟩) ((maxL pre).length + 1) cap')
                      have bB2 := ((bB.alloc _).kept hgrow (bB.not_row (by decide) y2)).other (B' := W1.heap.size) (by omega) (.slice (some ⟨g', 0, none⟩) ((maxL pre).length + 1) cap')
                      exact ⟨(zk.trans (keeps_below hb3')).trans (hk2.from _), ⟨(zb.trans (hb3'.mono z6.size)).trans hb4, bA2.trans h4.symm, bB2.trans h5.symm⟩, ⟨_, hv2, by rw [maxL_snoc, hxx, rowE_snoc]; simpa using hr2, trivial⟩, ⟨bA2, bB2⟩, (z6.trans (hb3'.mono z6.size)).trans hb4⟩
                    exact AllReadyIn.nil
                  exact AllReadyIn.nil
                exact AllReadyIn.nil
              exact AllReadyIn.nil
            exact AllReadyIn.nil
          exact AllReadyIn.nil
        refine AllReadyIn.cons rfl (fun K hK => ?_) ?_
        · go_simp
          refine hK _ _ ?_
          clear hK K
          refine wpAnyIn_ready (rs := [0, 1]) (by kernel_rfl) (by simp) ?_
          refine AllReadyIn.cons rfl (fun K hK => ?_) ?_
          · go_simp
            refine hK _ _ ?_
            clear hK K
            refine wpAnyIn_ready (rs := [1]) (by kernel_rfl) (by simp) ?_
            refine AllReadyIn.cons rfl (fun K hK => ?_) ?_
            · go_simp
              refine hK _ _ ?_
              clear hK K
              refine wpAnyIn_ready (rs := [3]) (by kernel_rfl) (by simp) ?_
              refine AllReadyIn.cons rfl (fun K hK => ?_) ?_
              · go_simp
                gi_wp2_with (refine ⟨trivial, ?_⟩; gi_at_call 45; refine (CallsIn.inRound l (best_calls _ (x.2) x.2 _)).mono ?_; rintro e W3 ⟨rfl, hb3⟩; have hb3' : Below Wx.heap.size Wx W3 := (Below.drew (Below.refl Wx.heap.size Wx)).trans hb3; have y1 : Boxed W3 W1.heap.size 22 u := (hb3'.block _ z1.lt).trans z1; have y2 := pw_own_below z2 hb3'; have ycb := y1.cell; have yfb := y1.frozen; have yal : ∀ o_ : Obj, (W3.alloc o_).cell? ⟨W1.heap.size, 0, none⟩ = some u := fun o_ => (y1.alloc o_).cell; clear hcb hfb)
                try (refine hK _ _ ?_)
                try clear hK K
                refine wpAnyIn_ready (rs := [4]) (by kernel_rfl) (by simp) ?_
                refine AllReadyIn.cons rfl (fun K hK => ?_) ?_
                · go_simp
                  refine hK _ _ ?_
                  clear hK K
                  refine wpAnyIn_ready (rs := [5]) (by kernel_rfl) (by simp) ?_
                  refine AllReadyIn.cons rfl (fun K hK => ?_) ?_
                  · rw [if_pos (by rfl)]
                    refine oper_append _ _ _ 22 rfl w.heap.size 44 i0 _ 5 56 Try.underlying22 hi hz0 hz1 hz2 rfl (by decide) _ _ _ rfl (y2.alloc _) ⟨W3.heap.size, 0, none⟩ 1 1 (cellsE (bestK (x.2) x.2)) rfl rfl (five_new _ _) (by simp [cellsE, Value.oneCell']) (by simp only [maxLen]; omega) (by omega) (by have := z6.size; have := hb3'.size; simp; omega) ?_
                    intro v' w1 hown' hgrow
                    obtain ⟨g', cap', rfl⟩ := ownsRow_succ hown'
                    obtain ⟨hv1, hv2, hr2, hk2, hb4⟩ := y1.appended (by decide) y2 (by have := z6.size; have := hb3'.size; omega) hs0 hown' hgrow
                    have hc1 := hv1.cell
                    have hf1 := hv1.frozen
                    refine hK _ _ ?_
                    clear hK K
                    refine wpAnyIn_ready (rs := [6]) (by kernel_rfl) (by simp) ?_
                    refine AllReadyIn.cons rfl (fun K hK => ?_) ?_
                    · go_simp
                      refine hK _ _ ?_
                      clear hK K
                      refine wpAnyIn_done (by kernel_rfl) ?_ _
                      gi_wp2
                      have bA : Boxed W3 (W1.heap.size + 1) 22 (.slice A la.length c) := (hb3.block _ (blk_lt z4)).trans z4
                      have bB : Boxed W3 (W1.heap.size + 1 + 1) 22 (.slice A' lb.length c') := (hb3.block _ (blk_lt z5)).trans z5
                      have bA2 := ((bA.alloc _).kept hgrow (bA.not_row (by decide) y2)).other (B' := W1.heap.size) (by omega) (.slice (some ⟨g', 0, none⟩) ((maxL pre).length + 1) cap')
                      have bB2 := ((bB.alloc _).kept hgrow (bB.not_row (by decide) y2)).other (B' := W1.heap.size) (by omega) (.slice (some ⟨g', 0, none⟩) ((maxL pre).length + 1) cap')
                      exact ⟨(zk.trans (keeps_below hb3')).trans (hk2.from _), ⟨(zb.trans (hb3'.mono z6.size)).trans hb4, bA2.trans h4.symm, bB2.trans h5.symm⟩, ⟨_, hv2, by rw [maxL_snoc, hxx, rowE_snoc]; simpa using hr2, trivial⟩, ⟨bA2, bB2⟩, (z6.trans (hb3'.mono z6.size)).trans hb4⟩
                    exact AllReadyIn.nil
                  exact AllReadyIn.nil
                exact AllReadyIn.nil
              exact AllReadyIn.nil
            exact AllReadyIn.nil
          refine AllReadyIn.cons rfl (fun K hK => ?_) ?_
          · go_simp
            refine hK _ _ ?_
            clear hK K
            refine wpAnyIn_ready (rs := [0, 3]) (by kernel_rfl) (by simp) ?_
            refine AllReadyIn.cons rfl (fun K hK => ?_) ?_
            · go_simp
              refine hK _ _ ?_
              clear hK K
              refine wpAnyIn_ready (rs := [3]) (by kernel_rfl) (by simp) ?_
              refine AllReadyIn.cons rfl (fun K hK => ?_) ?_
              · go_simp
                gi_wp2_with (refine ⟨trivial, ?_⟩; gi_at_call 45; refine (CallsIn.inRound l (best_calls _ (x.2) x.2 _)).mono ?_; rintro e W3 ⟨rfl, hb3⟩; have hb3' : Below Wx.heap.size Wx W3 := (Below.drew (Below.refl Wx.heap.size Wx)).trans hb3; have y1 : Boxed W3 W1.heap.size 22 u := (hb3'.block _ z1.lt).trans z1; have y2 := pw_own_below z2 hb3'; have ycb := y1.cell; have yfb := y1.frozen; have yal : ∀ o_ : Obj, (W3.alloc o_).cell? ⟨W1.heap.size, 0, none⟩ = some u := fun o_ => (y1.alloc o_).cell; clear hcb hfb)
                try (refine hK _ _ ?_)
                try clear hK K
                refine wpAnyIn_ready (rs := [4]) (by kernel_rfl) (by simp) ?_
                refine AllReadyIn.cons rfl (fun K hK => ?_) ?_
                · go_simp
                  refine hK _ _ ?_
                  clear hK K
                  refine wpAnyIn_ready (rs := [5]) (by kernel_rfl) (by simp) ?_
                  refine AllReadyIn.cons rfl (fun K hK => ?_) ?_
                  · rw [if_pos (by rfl)]
                    refine oper_append _ _ _ 22 rfl w.heap.size 44 i0 _ 5 56 Try.underlying22 hi hz0 hz1 hz2 rfl (by decide) _ _ _ rfl (y2.alloc _) ⟨W3.heap.size, 0, none⟩ 1 1 (cellsE (bestK (x.2) x.2)) rfl rfl (five_new _ _) (by simp [cellsE, Value.oneCell']) (by simp only [maxLen]; omega) (by omega) (by have := z6.size; have := hb3'.size; simp; omega) ?_
                    intro v' w1 hown' hgrow
                    obtain ⟨g', cap', rfl⟩ := ownsRow_succ hown'
                    obtain ⟨hv1, hv2, hr2, hk2, hb4⟩ := y1.appended (by decide) y2 (by have := z6.size; have := hb3'.size; omega) hs0 hown' hgrow
                    have hc1 := hv1.cell
                    have hf1 := hv1.frozen
                    refine hK _ _ ?_
                    clear hK K
                    refine wpAnyIn_ready (rs := [6]) (by kernel_rfl) (by simp) ?_
                    refine AllReadyIn.cons rfl (fun K hK => ?_) ?_
                    · go_simp
                      refine hK _ _ ?_
                      clear hK K
                      refine wpAnyIn_done (by kernel_rfl) ?_ _
                      gi_wp2
                      have bA : Boxed W3 (W1.heap.size + 1) 22 (.slice A la.length c) := (hb3.block _ (blk_lt z4)).trans z4
                      have bB : Boxed W3 (W1.heap.size + 1 + 1) 22 (.slice A' lb.length c') := (hb3.block _ (blk_lt z5)).trans z5
                      have bA2 := ((bA.alloc _).kept hgrow (bA.not_row (by decide) y2)).other (B' := W1.heap.size) (by omega) (.slice (some ⟨g', 0, none⟩) ((maxL pre).length + 1) cap')
                      have bB2 := ((bB.alloc _).kept hgrow (bB.not_row (by decide) y2)).other (B' := W1.heap.size) (by omega) (.slice (some ⟨g', 0, none⟩) ((maxL pre).length + 1) cap')
                      exact ⟨(zk.trans (keeps_below hb3')).trans (hk2.from _), ⟨(zb.trans (hb3'.mono z6.size)).trans hb4, bA2.trans h4.symm, bB2.trans h5.symm⟩, ⟨_, hv2, by rw [maxL_snoc, hxx, rowE_snoc]; simpa using hr2, trivial⟩, ⟨bA2, bB2⟩, (z6.trans (hb3'.mono z6.size)).trans hb4⟩
                    exact AllReadyIn.nil
                  exact AllReadyIn.nil
                exact AllReadyIn.nil
              exact AllReadyIn.nil
            refine AllReadyIn.cons rfl (fun K hK => ?_) ?_
            · go_simp
              gi_wp2_with (refine ⟨trivial, ?_⟩; gi_at_call 45; refine (CallsIn.inRound l (best_calls _ (x.2) x.2 _)).mono ?_; rintro e W3 ⟨rfl, hb3⟩; have hb3' : Below Wx.heap.size Wx W3 := (Below.drew (Below.refl Wx.heap.size Wx)).trans hb3; have y1 : Boxed W3 W1.heap.size 22 u := (hb3'.block _ z1.lt).trans z1; have y2 := pw_own_below z2 hb3'; have ycb := y1.cell; have yfb := y1.frozen; have yal : ∀ o_ : Obj, (W3.alloc o_).cell? ⟨W1.heap.size, 0, none⟩ = some u := fun o_ => (y1.alloc o_).cell; clear hcb hfb)
              try (refine hK _ _ ?_)
              try clear hK K
              refine wpAnyIn_ready (rs := [0, 4]) (by kernel_rfl) (by simp) ?_
              refine AllReadyIn.cons rfl (fun K hK => ?_) ?_
              · go_simp
                refine hK _ _ ?_
                clear hK K
                refine wpAnyIn_ready (rs := [4]) (by kernel_rfl) (by simp) ?_
                refine AllReadyIn.cons rfl (fun K hK => ?_) ?_
                · go_simp
                  refine hK _ _ ?_
                  clear hK K
                  refine wpAnyIn_ready (rs := [5]) (by kernel_rfl) (by simp) ?_
                  refine AllReadyIn.cons rfl (fun K hK => ?_) ?_
                  · rw [if_pos (by rfl)]
                    refine oper_append _ _ _ 22 rfl w.heap.size 44 i0 _ 5 56 Try.underlying22 hi hz0 hz1 hz2 rfl (by decide) _ _ _ rfl (y2.alloc _) ⟨W3.heap.size, 0, none⟩ 1 1 (cellsE (bestK (x.2) x.2)) rfl rfl (five_new _ _) (by simp [cellsE, Value.oneCell']) (by simp only [maxLen]; omega) (by omega) (by have := z6.size; have := hb3'.size; simp; omega) ?_
                    intro v' w1 hown' hgrow
                    obtain ⟨g', cap', rfl⟩ := ownsRow_succ hown'
                    obtain ⟨hv1, hv2, hr2, hk2, hb4⟩ := y1.appended (by decide) y2 (by have := z6.size; have := hb3'.size; omega) hs0 hown' hgrow
                    have hc1 := hv1.cell
                    have hf1 := hv1.frozen
                    refine hK _ _ ?_
                    clear hK K
                    refine wpAnyIn_ready (rs := [6]) (by kernel_rfl) (by simp) ?_
                    refine AllReadyIn.cons rfl (fun K hK => ?_) ?_
                    · go_simp
                      refine hK _ _ ?_
                      clear hK K
                      refine wpAnyIn_done (by kernel_rfl) ?_ _
                      gi_wp2
                      have bA : Boxed W3 (W1.heap.size + 1) 22 (.slice A la.length c) := (hb3.block _ (blk_lt z4)).trans z4
                      have bB : Boxed W3 (W1.heap.size + 1 + 1) 22 (.slice A' lb.length c') := (hb3.block _ (blk_lt z5)).trans z5
                      have bA2 := ((bA.alloc _).kept hgrow (bA.not_row (by decide) y2)).other (B' := W1.heap.size) (by omega) (.slice (some ⟨g', 0, none⟩) ((maxL pre).length + 1) cap')
                      have bB2 := ((bB.alloc _).kept hgrow (bB.not_row (by decide) y2)).other (B' := W1.heap.size) (by omega) (.slice (some ⟨g', 0, none⟩) ((maxL pre).length + 1) cap')
                      exact ⟨(zk.trans (keeps_below hb3')).trans (hk2.from _), ⟨(zb.trans (hb3'.mono z6.size)).trans hb4, bA2.trans h4.symm, bB2.trans h5.symm⟩, ⟨_, hv2, by rw [maxL_snoc, hxx, rowE_snoc]; simpa using hr2, trivial⟩, ⟨bA2, bB2⟩, (z6.trans (hb3'.mono z6.size)).trans hb4⟩
                    exact AllReadyIn.nil
                  exact AllReadyIn.nil
                exact AllReadyIn.nil
              refine AllReadyIn.cons rfl (fun K hK => ?_) ?_
              · go_simp
                refine hK _ _ ?_
                clear hK K
                refine wpAnyIn_ready (rs := [0]) (by kernel_rfl) (by simp) ?_
                refine AllReadyIn.cons rfl (fun K hK => ?_) ?_
                · go_simp
                  refine hK _ _ ?_
                  clear hK K
                  refine wpAnyIn_ready (rs := [5]) (by kernel_rfl) (by simp) ?_
                  refine AllReadyIn.cons rfl (fun K hK => ?_) ?_
                  · rw [if_pos (by rfl)]
                    refine oper_append _ _ _ 22 rfl w.heap.size 44 i0 _ 5 56 Try.underlying22 hi hz0 hz1 hz2 rfl (by decide) _ _ _ rfl (y2.alloc _) ⟨W3.heap.size, 0, none⟩ 1 1 (cellsE (bestK (x.2) x.2)) rfl rfl (five_new _ _) (by simp [cellsE, Value.oneCell']) (by simp only [maxLen]; omega) (by omega) (by have := z6.size; have := hb3'.size; simp; omega) ?_
                    intro v' w1 hown' hgrow
                    obtain ⟨g', cap', rfl⟩ := ownsRow_succ hown'
                    obtain ⟨hv1, hv2, hr2, hk2, hb4⟩ := y1.appended (by decide) y2 (by have := z6.size; have := hb3'.size; omega) hs0 hown' hgrow
                    have hc1 := hv1.cell
                    have hf1 := hv1.frozen
                    refine hK _ _ ?_
                    clear hK K
                    refine wpAnyIn_ready (rs := [6]) (by kernel_rfl) (by simp) ?_
                    refine AllReadyIn.cons rfl (fun K hK => ?_) ?_
                    · go_simp
                      refine hK _ _ ?_
                      clear hK K
                      refine wpAnyIn_done (by kernel_rfl) ?_ _
                      gi_wp2
                      have bA : Boxed W3 (W1.heap.size + 1) 22 (.slice A la.length c) := (hb3.block _ (blk_lt z4)).trans z4
                      have bB : Boxed W3 (W1.heap.size + 1 + 1) 22 (.slice A' lb.length c') := (hb3.block _ (blk_lt z5)).trans z5
                      have bA2 := ((bA.alloc _).kept hgrow (bA.not_row (by decide) y2)).other (B' := W1.heap.size) (by omega) (.slice (some ⟨g', 0, none⟩) ((maxL pre).length + 1) cap')
                      have bB2 := ((bB.alloc _).kept hgrow (bB.not_row (by decide) y2)).other (B' := W1.heap.size) (by omega) (.slice (some ⟨g', 0, none⟩) ((maxL pre).length + 1) cap')
                      exact ⟨(zk.trans (keeps_below hb3')).trans (hk2.from _), ⟨(zb.trans (hb3'.mono z6.size)).trans hb4, bA2.trans h4.symm, bB2.trans h5.symm⟩, ⟨_, hv2, by rw [maxL_snoc, hxx, rowE_snoc]; simpa using hr2, trivial⟩, ⟨bA2, bB2⟩, (z6.trans (hb3'.mono z6.size)).trans hb4⟩
                    exact AllReadyIn.nil
                  exact AllReadyIn.nil
                exact AllReadyIn.nil
              exact AllReadyIn.nil
            exact AllReadyIn.nil
          exact AllReadyIn.nil
        exact AllReadyIn.nil
      | true =>
        gi_wp2_with (refine ⟨trivial, ?_⟩; gi_at_call 44; refine (CallsIn.inRound l (there_callsB _ x.1 true ht W)).mono ?_; rintro e W2 ⟨rfl, hb2⟩; clear hr x0 x1 x2 x3 x4; replace h7 := blk_below h7 hb2; replace h8 := blk_below h8 hb2; replace h1 : Boxed _ _ _ _ := blk_below h1 hb2; replace h2 := pw_own_below h2 hb2; have q4 := (hb2.block _ (blk_lt h4)).trans h4; have q5 := (hb2.block _ (blk_lt h5)).trans h5; have q6 := h6.trans (hb2.mono h6.size); have hkp := keeps_below (B := W0.heap.size) hb2; have x0 : W2.cell? ⟨ga, 0, none⟩ = some (.string x.1.f0) := (blk_cell h7 0).trans rfl; have x1 : W2.cell? ⟨ga, 1, none⟩ = some (.int .i64 x.1.f1.f0) := (blk_cell h7 1).trans rfl; have x2 : W2.cell? ⟨ga, 2, none⟩ = some (.int .i64 x.1.f1.f1) := (blk_cell h7 2).trans rfl; have x3 : W2.cell? ⟨ga, 3, none⟩ = some (.string x.1.f2) := (blk_cell h7 3).trans rfl; have x4 : W2.cell? ⟨ga, 4, none⟩ = some (.bool x.1.f3) := (blk_cell h7 4).trans rfl; have y0 : W2.cell? ⟨gb', 0, none⟩ = some (.string x.2.f0) := (blk_cell h8 0).trans rfl; have y1 : W2.cell? ⟨gb', 1, none⟩ = some (.int .i64 x.2.f1.f0) := (blk_cell h8 1).trans rfl; have y2 : W2.cell? ⟨gb', 2, none⟩ = some (.int .i64 x.2.f1.f1) := (blk_cell h8 2).trans rfl; have y3 : W2.cell? ⟨gb', 3, none⟩ = some (.string x.2.f2) := (blk_cell h8 3).trans rfl; have y4 : W2.cell? ⟨gb', 4, none⟩ = some (.bool x.2.f3) := (blk_cell h8 4).trans rfl; have hcb := h1.cell; have hfb := h1.frozen; have fx0 := blk_frozen h7 0; have fx1 := blk_frozen h7 1; have fx2 := blk_frozen h7 2; have fx3 := blk_frozen h7 3; have fx4 := blk_frozen h7 4)
        have z7 := h7
        have z8 := h8
        have z1 := h1
        have z2 := h2
        have z4 := q4
        have z5 := q5
        have z6 := q6
        have zk := hkp
        have zb := hb2.mono h6.size
        generalize hWx : W2 = Wx at z7 z8 z1 z2 z4 z5 z6 zk zb ⊢
        clear hWx hb2 h7 h8 h1 h2 q4 q5 q6 hkp hcb hfb fx0 fx1 fx2 fx3 fx4 x0 x1 x2 x3 x4 y0 y1 y2 y3 y4
        have hxx : (if thereB x.1 = true then x.1 else x.2) = x.1 := by rw [ht]; rfl
        have x0 : Wx.cell? ⟨ga, 0, none⟩ = some (.string x.1.f0) := (blk_cell z7 0).trans rfl
        have x1 : Wx.cell? ⟨ga, 1, none⟩ = some (.int .i64 x.1.f1.f0) := (blk_cell z7 1).trans rfl
        have x2 : Wx.cell? ⟨ga, 2, none⟩ = some (.int .i64 x.1.f1.f1) := (blk_cell z7 2).trans rfl
        have x3 : Wx.cell? ⟨ga, 3, none⟩ = some (.string x.1.f2) := (blk_cell z7 3).trans rfl
        have x4 : Wx.cell? ⟨ga, 4, none⟩ = some (.bool x.1.f3) := (blk_cell z7 4).trans rfl
        have y0 : Wx.cell? ⟨gb', 0, none⟩ = some (.string x.2.f0) := (blk_cell z8 0).trans rfl
        have y1 : Wx.cell? ⟨gb', 1, none⟩ = some (.int .i64 x.2.f1.f0) := (blk_cell z8 1).trans rfl
        have y2 : Wx.cell? ⟨gb', 2, none⟩ = some (.int .i64 x.2.f1.f1) := (blk_cell z8 2).trans rfl
        have y3 : Wx.cell? ⟨gb', 3, none⟩ = some (.string x.2.f2) := (blk_cell z8 3).trans rfl
        have y4 : Wx.cell? ⟨gb', 4, none⟩ = some (.bool x.2.f3) := (blk_cell z8 4).trans rfl
        have hcb := z1.cell
        have hfb := z1.frozen
        refine wpIn_region_any (by assumption) ?_
        change wpAnyIn _ _ _ _ _ _ _ _ _ (World.drew _)
        refine wpAnyIn_ready (rs := [0, 1, 2]) (by kernel_rfl) (by simp) ?_
        refine AllReadyIn.cons rfl (fun K hK => ?_) ?_
        · go_simp
          refine hK _ _ ?_
          clear hK K
          refine wpAnyIn_ready (rs := [1, 2]) (by kernel_rfl) (by simp) ?_
          refine AllReadyIn.cons rfl (fun K hK => ?_) ?_
          · go_simp
            refine hK _ _ ?_
            clear hK K
            refine wpAnyIn_ready (rs := [2]) (by kernel_rfl) (by simp) ?_
            refine AllReadyIn.cons rfl (fun K hK => ?_) ?_
            · go_simp
              refine hK _ _ ?_
              clear hK K
              refine wpAnyIn_ready (rs := [3]) (by kernel_rfl) (by simp) ?_
              refine AllReadyIn.cons rfl (fun K hK => ?_) ?_
              · go_simp
                gi_wp2_with (refine ⟨trivial, ?_⟩; gi_at_call 45; refine (CallsIn.inRound l (best_calls _ (x.1) x.2 _)).mono ?_; rintro e W3 ⟨rfl, hb3⟩; have hb3' : Below Wx.heap.size Wx W3 := (Below.drew (Below.refl Wx.heap.size Wx)).trans hb3; have y1 : Boxed W3 W1.heap.size 22 u := (hb3'.block _ z1.lt).trans z1; have y2 := pw_own_below z2 hb3'; have ycb := y1.cell; have yfb := y1.frozen; have yal : ∀ o_ : Obj, (W3.alloc o_).cell? ⟨W1.heap.size, 0, none⟩ = some u := fun o_ => (y1.alloc o_).cell; clear hcb hfb)
                try (refine hK _ _ ?_)
                try clear hK K
                refine wpAnyIn_ready (rs := [4]) (by kernel_rfl) (by simp) ?_
                refine AllReadyIn.cons rfl (fun K hK => ?_) ?_
                · go_simp
                  refine hK _ _ ?_
                  clear hK K
                  refine wpAnyIn_ready (rs := [5]) (by kernel_rfl) (by simp) ?_
                  refine AllReadyIn.cons rfl (fun K hK => ?_) ?_
                  · rw [if_pos (by rfl)]
                    refine oper_append _ _ _ 22 rfl w.heap.size 44 i0 _ 5 56 Try.underlying22 hi hz0 hz1 hz2 rfl (by decide) _ _ _ rfl (y2.alloc _) ⟨W3.heap.size, 0, none⟩ 1 1 (cellsE (bestK (x.1) x.2)) rfl rfl (five_new _ _) (by simp [cellsE, Value.oneCell']) (by simp only [maxLen]; omega) (by omega) (by have := z6.size; have := hb3'.size; simp; omega) ?_
                    intro v' w1 hown' hgrow
                    obtain ⟨g', cap', rfl⟩ := ownsRow_succ hown'
                    obtain ⟨hv1, hv2, hr2, hk2, hb4⟩ := y1.appended (by decide) y2 (by have := z6.size; have := hb3'.size; omega) hs0 hown' hgrow
                    have hc1 := hv1.cell
                    have hf1 := hv1.frozen
                    refine hK _ _ ?_
                    clear hK K
                    refine wpAnyIn_ready (rs := [6]) (by kernel_rfl) (by simp) ?_
                    refine AllReadyIn.cons rfl (fun K hK => ?_) ?_
                    · go_simp
                      refine hK _ _ ?_
                      clear hK K
                      refine wpAnyIn_done (by kernel_rfl) ?_ _
                      gi_wp2
                      have bA : Boxed W3 (W1.heap.size + 1) 22 (.slice A la.length c) := (hb3.block _ (blk_lt z4)).trans z4
                      have bB : Boxed W3 (W1.heap.size + 1 + 1) 22 (.slice A' lb.length c') := (hb3.block _ (blk_lt z5)).trans z5
                      have bA2 := ((bA.alloc _).kept hgrow (bA.not_row (by decide) y2)).other (B' := W1.heap.size) (by omega) (.slice (some ⟨g', 0, none⟩) ((maxL pre).length + 1) cap')
                      have bB2 := ((bB.alloc _).kept hgrow (bB.not_row (by decide) y2)).other (B' := W1.heap.size) (by omega) (.slice (some ⟨g', 0, none⟩) ((maxL pre).length + 1) cap')
                      exact ⟨(zk.trans (keeps_below hb3')).trans (hk2.from _), ⟨(zb.trans (hb3'.mono z6.size)).trans hb4, bA2.trans h4.symm, bB2.trans h5.symm⟩, ⟨_, hv2, by rw [maxL_snoc, hxx, rowE_snoc]; simpa using hr2, trivial⟩, ⟨bA2, bB2⟩, (z6.trans (hb3'.mono z6.size)).trans hb4⟩
                    exact AllReadyIn.nil
                  exact AllReadyIn.nil
                exact AllReadyIn.nil
              exact AllReadyIn.nil
            exact AllReadyIn.nil
          refine AllReadyIn.cons rfl (fun K hK => ?_) ?_
          · go_simp
            refine hK _ _ ?_
            clear hK K
            refine wpAnyIn_ready (rs := [1]) (by kernel_rfl) (by simp) ?_
            refine AllReadyIn.cons rfl (fun K hK => ?_) ?_
            · go_simp
              refine hK _ _ ?_
              clear hK K
              refine wpAnyIn_ready (rs := [3]) (by kernel_rfl) (by simp) ?_
              refine AllReadyIn.cons rfl (fun K hK => ?_) ?_
              · go_simp
                gi_wp2_with (refine ⟨trivial, ?_⟩; gi_at_call 45; refine (CallsIn.inRound l (best_calls _ (x.1) x.2 _)).mono ?_; rintro e W3 ⟨rfl, hb3⟩; have hb3' : Below Wx.heap.size Wx W3 := (Below.drew (Below.refl Wx.heap.size Wx)).trans hb3; have y1 : Boxed W3 W1.heap.size 22 u := (hb3'.block _ z1.lt).trans z1; have y2 := pw_own_below z2 hb3'; have ycb := y1.cell; have yfb := y1.frozen; have yal : ∀ o_ : Obj, (W3.alloc o_).cell? ⟨W1.heap.size, 0, none⟩ = some u := fun o_ => (y1.alloc o_).cell; clear hcb hfb)
                try (refine hK _ _ ?_)
                try clear hK K
                refine wpAnyIn_ready (rs := [4]) (by kernel_rfl) (by simp) ?_
                refine AllReadyIn.cons rfl (fun K hK => ?_) ?_
                · go_simp
                  refine hK _ _ ?_
                  clear hK K
                  refine wpAnyIn_ready (rs := [5]) (by kernel_rfl) (by simp) ?_
                  refine AllReadyIn.cons rfl (fun K hK => ?_) ?_
                  · rw [if_pos (by rfl)]
                    refine oper_append _ _ _ 22 rfl w.heap.size 44 i0 _ 5 56 Try.underlying22 hi hz0 hz1 hz2 rfl (by decide) _ _ _ rfl (y2.alloc _) ⟨W3.heap.size, 0, none⟩ 1 1 (cellsE (bestK (x.1) x.2)) rfl rfl (five_new _ _) (by simp [cellsE, Value.oneCell']) (by simp only [maxLen]; omega) (by omega) (by have := z6.size; have := hb3'.size; simp; omega) ?_
                    intro v' w1 hown' hgrow
                    obtain ⟨g', cap', rfl⟩ := ownsRow_succ hown'
                    obtain ⟨hv1, hv2, hr2, hk2, hb4⟩ := y1.appended (by decide) y2 (by have := z6.size; have := hb3'.size; omega) hs0 hown' hgrow
                    have hc1 := hv1.cell
                    have hf1 := hv1.frozen
                    refine hK _ _ ?_
                    clear hK K
                    refine wpAnyIn_ready (rs := [6]) (by kernel_rfl) (by simp) ?_
                    refine AllReadyIn.cons rfl (fun K hK => ?_) ?_
                    · go_simp
                      refine hK _ _ ?_
                      clear hK K
                      refine wpAnyIn_done (by kernel_rfl) ?_ _
                      gi_wp2
                      have bA : Boxed W3 (W1.heap.size + 1) 22 (.slice A la.length c) := (hb3.block _ (blk_lt z4)).trans z4
                      have bB : Boxed W3 (W1.heap.size + 1 + 1) 22 (.slice A' lb.length c') := (hb3.block _ (blk_lt z5)).trans z5
                      have bA2 := ((bA.alloc _).kept hgrow (bA.not_row (by decide) y2)).other (B' := W1.heap.size) (by omega) (.slice (some ⟨g', 0, none⟩) ((maxL pre).length + 1) cap')
                      have bB2 := ((bB.alloc _).kept hgrow (bB.not_row (by decide) y2)).other (B' := W1.heap.size) (by omega) (.slice (some ⟨g', 0, none⟩) ((maxL pre).length + 1) cap')
                      exact ⟨(zk.trans (keeps_below hb3')).trans (hk2.from _), ⟨(zb.trans (hb3'.mono z6.size)).trans hb4, bA2.trans h4.symm, bB2.trans h5.symm⟩, ⟨_, hv2, by rw [maxL_snoc, hxx, rowE_snoc]; simpa using hr2, trivial⟩, ⟨bA2, bB2⟩, (z6.trans (hb3'.mono z6.size)).trans hb4⟩
                    exact AllReadyIn.nil
                  exact AllReadyIn.nil
                exact AllReadyIn.nil
              exact AllReadyIn.nil
            exact AllReadyIn.nil
          exact AllReadyIn.nil
        refine AllReadyIn.cons rfl (fun K hK => ?_) ?_
        · go_simp
          refine hK _ _ ?_
          clear hK K
          refine wpAnyIn_ready (rs := [0, 2]) (by kernel_rfl) (by simp) ?_
          refine AllReadyIn.cons rfl (fun K hK => ?_) ?_
          · go_simp
            refine hK _ _ ?_
            clear hK K
            refine wpAnyIn_ready (rs := [2]) (by kernel_rfl) (by simp) ?_
            refine AllReadyIn.cons rfl (fun K hK => ?_) ?_
            · go_simp
              refine hK _ _ ?_
              clear hK K
              refine wpAnyIn_ready (rs := [3]) (by kernel_rfl) (by simp) ?_
              refine AllReadyIn.cons rfl (fun K hK => ?_) ?_
              · go_simp
                gi_wp2_with (refine ⟨trivial, ?_⟩; gi_at_call 45; refine (CallsIn.inRound l (best_calls _ (x.1) x.2 _)).mono ?_; rintro e W3 ⟨rfl, hb3⟩; have hb3' : Below Wx.heap.size Wx W3 := (Below.drew (Below.refl Wx.heap.size Wx)).trans hb3; have y1 : Boxed W3 W1.heap.size 22 u := (hb3'.block _ z1.lt).trans z1; have y2 := pw_own_below z2 hb3'; have ycb := y1.cell; have yfb := y1.frozen; have yal : ∀ o_ : Obj, (W3.alloc o_).cell? ⟨W1.heap.size, 0, none⟩ = some u := fun o_ => (y1.alloc o_).cell; clear hcb hfb)
                try (refine hK _ _ ?_)
                try clear hK K
                refine wpAnyIn_ready (rs := [4]) (by kernel_rfl) (by simp) ?_
                refine AllReadyIn.cons rfl (fun K hK => ?_) ?_
                · go_simp
                  refine hK _ _ ?_
                  clear hK K
                  refine wpAnyIn_ready (rs := [5]) (by kernel_rfl) (by simp) ?_
                  refine AllReadyIn.cons rfl (fun K hK => ?_) ?_
                  · rw [if_pos (by rfl)]
                    refine oper_append _ _ _ 22 rfl w.heap.size 44 i0 _ 5 56 Try.underlying22 hi hz0 hz1 hz2 rfl (by decide) _ _ _ rfl (y2.alloc _) ⟨W3.heap.size, 0, none⟩ 1 1 (cellsE (bestK (x.1) x.2)) rfl rfl (five_new _ _) (by simp [cellsE, Value.oneCell']) (by simp only [maxLen]; omega) (by omega) (by have := z6.size; have := hb3'.size; simp; omega) ?_
                    intro v' w1 hown' hgrow
                    obtain ⟨g', cap', rfl⟩ := ownsRow_succ hown'
                    obtain ⟨hv1, hv2, hr2, hk2, hb4⟩ := y1.appended (by decide) y2 (by have := z6.size; have := hb3'.size; omega) hs0 hown' hgrow
                    have hc1 := hv1.cell
                    have hf1 := hv1.frozen
                    refine hK _ _ ?_
                    clear hK K
                    refine wpAnyIn_ready (rs := [6]) (by kernel_rfl) (by simp) ?_
                    refine AllReadyIn.cons rfl (fun K hK => ?_) ?_
                    · go_simp
                      refine hK _ _ ?_
                      clear hK K
                      refine wpAnyIn_done (by kernel_rfl) ?_ _
                      gi_wp2
                      have bA : Boxed W3 (W1.heap.size + 1) 22 (.slice A la.length c) := (hb3.block _ (blk_lt z4)).trans z4
                      have bB : Boxed W3 (W1.heap.size + 1 + 1) 22 (.slice A' lb.length c') := (hb3.block _ (blk_lt z5)).trans z5
                      have bA2 := ((bA.alloc _).kept hgrow (bA.not_row (by decide) y2)).other (B' := W1.heap.size) (by omega) (.slice (some ⟨g', 0, none⟩) ((maxL pre).length + 1) cap')
                      have bB2 := ((bB.alloc _).kept hgrow (bB.not_row (by decide) y2)).other (B' := W1.heap.size) (by omega) (.slice (some ⟨g', 0, none⟩) ((maxL pre).length + 1) cap')
                      exact ⟨(zk.trans (keeps_below hb3')).trans (hk2.from _), ⟨(zb.trans (hb3'.mono z6.size)).trans hb4, bA2.trans h4.symm, bB2.trans h5.symm⟩, ⟨_, hv2, by rw [maxL_snoc, hxx, rowE_snoc]; simpa using hr2, trivial⟩, ⟨bA2, bB2⟩, (z6.trans (hb3'.mono z6.size)).trans hb4⟩
                    exact AllReadyIn.nil
                  exact AllReadyIn.nil
                exact AllReadyIn.nil
              exact AllReadyIn.nil
            exact AllReadyIn.nil
          refine AllReadyIn.cons rfl (fun K hK => ?_) ?_
          · go_simp
            refine hK _ _ ?_
            clear hK K
            refine wpAnyIn_ready (rs := [0, 3]) (by kernel_rfl) (by simp) ?_
            refine AllReadyIn.cons rfl (fun K hK => ?_) ?_
            · go_simp
              refine hK _ _ ?_
              clear hK K
              refine wpAnyIn_ready (rs := [3]) (by kernel_rfl) (by simp) ?_
              refine AllReadyIn.cons rfl (fun K hK => ?_) ?_
              · go_simp
                gi_wp2_with (refine ⟨trivial, ?_⟩; gi_at_call 45; refine (CallsIn.inRound l (best_calls _ (x.1) x.2 _)).mono ?_; rintro e W3 ⟨rfl, hb3⟩; have hb3' : Below Wx.heap.size Wx W3 := (Below.drew (Below.refl Wx.heap.size Wx)).trans hb3; have y1 : Boxed W3 W1.heap.size 22 u := (hb3'.block _ z1.lt).trans z1; have y2 := pw_own_below z2 hb3'; have ycb := y1.cell; have yfb := y1.frozen; have yal : ∀ o_ : Obj, (W3.alloc o_).cell? ⟨W1.heap.size, 0, none⟩ = some u := fun o_ => (y1.alloc o_).cell; clear hcb hfb)
                try (refine hK _ _ ?_)
                try clear hK K
                refine wpAnyIn_ready (rs := [4]) (by kernel_rfl) (by simp) ?_
                refine AllReadyIn.cons rfl (fun K hK => ?_) ?_
                · go_simp
                  refine hK _ _ ?_
                  clear hK K
                  refine wpAnyIn_ready (rs := [5]) (by kernel_rfl) (by simp) ?_
                  refine AllReadyIn.cons rfl (fun K hK => ?_) ?_
                  · rw [if_pos (by rfl)]
                    refine oper_append _ _ _ 22 rfl w.heap.size 44 i0 _ 5 56 Try.underlying22 hi hz0 hz1 hz2 rfl (by decide) _ _ _ rfl (y2.alloc _) ⟨W3.heap.size, 0, none⟩ 1 1 (cellsE (bestK (x.1) x.2)) rfl rfl (five_new _ _) (by simp [cellsE, Value.oneCell']) (by simp only [maxLen]; omega) (by omega) (by have := z6.size; have := hb3'.size; simp; omega) ?_
                    intro v' w1 hown' hgrow
                    obtain ⟨g', cap', rfl⟩ := ownsRow_succ hown'
                    obtain ⟨hv1, hv2, hr2, hk2, hb4⟩ := y1.appended (by decide) y2 (by have := z6.size; have := hb3'.size; omega) hs0 hown' hgrow
                    have hc1 := hv1.cell
                    have hf1 := hv1.frozen
                    refine hK _ _ ?_
                    clear hK K
                    refine wpAnyIn_ready (rs := [6]) (by kernel_rfl) (by simp) ?_
                    refine AllReadyIn.cons rfl (fun K hK => ?_) ?_
                    · go_simp
                      refine hK _ _ ?_
                      clear hK K
                      refine wpAnyIn_done (by kernel_rfl) ?_ _
                      gi_wp2
                      have bA : Boxed W3 (W1.heap.size + 1) 22 (.slice A la.length c) := (hb3.block _ (blk_lt z4)).trans z4
                      have bB : Boxed W3 (W1.heap.size + 1 + 1) 22 (.slice A' lb.length c') := (hb3.block _ (blk_lt z5)).trans z5
                      have bA2 := ((bA.alloc _).kept hgrow (bA.not_row (by decide) y2)).other (B' := W1.heap.size) (by omega) (.slice (some ⟨g', 0, none⟩) ((maxL pre).length + 1) cap')
                      have bB2 := ((bB.alloc _).kept hgrow (bB.not_row (by decide) y2)).other (B' := W1.heap.size) (by omega) (.slice (some ⟨g', 0, none⟩) ((maxL pre).length + 1) cap')
                      exact ⟨(zk.trans (keeps_below hb3')).trans (hk2.from _), ⟨(zb.trans (hb3'.mono z6.size)).trans hb4, bA2.trans h4.symm, bB2.trans h5.symm⟩, ⟨_, hv2, by rw [maxL_snoc, hxx, rowE_snoc]; simpa using hr2, trivial⟩, ⟨bA2, bB2⟩, (z6.trans (hb3'.mono z6.size)).trans hb4⟩
                    exact AllReadyIn.nil
                  exact AllReadyIn.nil
                exact AllReadyIn.nil
              exact AllReadyIn.nil
            refine AllReadyIn.cons rfl (fun K hK => ?_) ?_
            · go_simp
              gi_wp2_with (refine ⟨trivial, ?_⟩; gi_at_call 45; refine (CallsIn.inRound l (best_calls _ (x.1) x.2 _)).mono ?_; rintro e W3 ⟨rfl, hb3⟩; have hb3' : Below Wx.heap.size Wx W3 := (Below.drew (Below.refl Wx.heap.size Wx)).trans hb3; have y1 : Boxed W3 W1.heap.size 22 u := (hb3'.block _ z1.lt).trans z1; have y2 := pw_own_below z2 hb3'; have ycb := y1.cell; have yfb := y1.frozen; have yal : ∀ o_ : Obj, (W3.alloc o_).cell? ⟨W1.heap.size, 0, none⟩ = some u := fun o_ => (y1.alloc o_).cell; clear hcb hfb)
              try (refine hK _ _ ?_)
              try clear hK K
              refine wpAnyIn_ready (rs := [0, 4]) (by kernel_rfl) (by simp) ?_
              refine AllReadyIn.cons rfl (fun K hK => ?_) ?_
              · go_simp
                refine hK _ _ ?_
                clear hK K
                refine wpAnyIn_ready (rs := [4]) (by kernel_rfl) (by simp) ?_
                refine AllReadyIn.cons rfl (fun K hK => ?_) ?_
                · go_simp
                  refine hK _ _ ?_
                  clear hK K
                  refine wpAnyIn_ready (rs := [5]) (by kernel_rfl) (by simp) ?_
                  refine AllReadyIn.cons rfl (fun K hK => ?_) ?_
                  · rw [if_pos (by rfl)]
                    refine oper_append _ _ _ 22 rfl w.heap.size 44 i0 _ 5 56 Try.underlying22 hi hz0 hz1 hz2 rfl (by decide) _ _ _ rfl (y2.alloc _) ⟨W3.heap.size, 0, none⟩ 1 1 (cellsE (bestK (x.1) x.2)) rfl rfl (five_new _ _) (by simp [cellsE, Value.oneCell']) (by simp only [maxLen]; omega) (by omega) (by have := z6.size; have := hb3'.size; simp; omega) ?_
                    intro v' w1 hown' hgrow
                    obtain ⟨g', cap', rfl⟩ := ownsRow_succ hown'
                    obtain ⟨hv1, hv2, hr2, hk2, hb4⟩ := y1.appended (by decide) y2 (by have := z6.size; have := hb3'.size; omega) hs0 hown' hgrow
                    have hc1 := hv1.cell
                    have hf1 := hv1.frozen
                    refine hK _ _ ?_
                    clear hK K
                    refine wpAnyIn_ready (rs := [6]) (by kernel_rfl) (by simp) ?_
                    refine AllReadyIn.cons rfl (fun K hK => ?_) ?_
                    · go_simp
                      refine hK _ _ ?_
                      clear hK K
                      refine wpAnyIn_done (by kernel_rfl) ?_ _
                      gi_wp2
                      have bA : Boxed W3 (W1.heap.size + 1) 22 (.slice A la.length c) := (hb3.block _ (blk_lt z4)).trans z4
                      have bB : Boxed W3 (W1.heap.size + 1 + 1) 22 (.slice A' lb.length c') := (hb3.block _ (blk_lt z5)).trans z5
                      have bA2 := ((bA.alloc _).kept hgrow (bA.not_row (by decide) y2)).other (B' := W1.heap.size) (by omega) (.slice (some ⟨g', 0, none⟩) ((maxL pre).length + 1) cap')
                      have bB2 := ((bB.alloc _).kept hgrow (bB.not_row (by decide) y2)).other (B' := W1.heap.size) (by omega) (.slice (some ⟨g', 0, none⟩) ((maxL pre).length + 1) cap')
                      exact ⟨(zk.trans (keeps_below hb3')).trans (hk2.from _), ⟨(zb.trans (hb3'.mono z6.size)).trans hb4, bA2.trans h4.symm, bB2.trans h5.symm⟩, ⟨_, hv2, by rw [maxL_snoc, hxx, rowE_snoc]; simpa using hr2, trivial⟩, ⟨bA2, bB2⟩, (z6.trans (hb3'.mono z6.size)).trans hb4⟩
                    exact AllReadyIn.nil
                  exact AllReadyIn.nil
                exact AllReadyIn.nil
              refine AllReadyIn.cons rfl (fun K hK => ?_) ?_
              · go_simp
                refine hK _ _ ?_
                clear hK K
                refine wpAnyIn_ready (rs := [0]) (by kernel_rfl) (by simp) ?_
                refine AllReadyIn.cons rfl (fun K hK => ?_) ?_
                · go_simp
                  refine hK _ _ ?_
                  clear hK K
                  refine wpAnyIn_ready (rs := [5]) (by kernel_rfl) (by simp) ?_
                  refine AllReadyIn.cons rfl (fun K hK => ?_) ?_
                  · rw [if_pos (by rfl)]
                    refine oper_append _ _ _ 22 rfl w.heap.size 44 i0 _ 5 56 Try.underlying22 hi hz0 hz1 hz2 rfl (by decide) _ _ _ rfl (y2.alloc _) ⟨W3.heap.size, 0, none⟩ 1 1 (cellsE (bestK (x.1) x.2)) rfl rfl (five_new _ _) (by simp [cellsE, Value.oneCell']) (by simp only [maxLen]; omega) (by omega) (by have := z6.size; have := hb3'.size; simp; omega) ?_
                    intro v' w1 hown' hgrow
                    obtain ⟨g', cap', rfl⟩ := ownsRow_succ hown'
                    obtain ⟨hv1, hv2, hr2, hk2, hb4⟩ := y1.appended (by decide) y2 (by have := z6.size; have := hb3'.size; omega) hs0 hown' hgrow
                    have hc1 := hv1.cell
                    have hf1 := hv1.frozen
                    refine hK _ _ ?_
                    clear hK K
                    refine wpAnyIn_ready (rs := [6]) (by kernel_rfl) (by simp) ?_
                    refine AllReadyIn.cons rfl (fun K hK => ?_) ?_
                    · go_simp
                      refine hK _ _ ?_
                      clear hK K
                      refine wpAnyIn_done (by kernel_rfl) ?_ _
                      gi_wp2
                      have bA : Boxed W3 (W1.heap.size + 1) 22 (.slice A la.length c) := (hb3.block _ (blk_lt z4)).trans z4
                      have bB : Boxed W3 (W1.heap.size + 1 + 1) 22 (.slice A' lb.length c') := (hb3.block _ (blk_lt z5)).trans z5
                      have bA2 := ((bA.alloc _).kept hgrow (bA.not_row (by decide) y2)).other (B' := W1.heap.size) (by omega) (.slice (some ⟨g', 0, none⟩) ((maxL pre).length + 1) cap')
                      have bB2 := ((bB.alloc _).kept hgrow (bB.not_row (by decide) y2)).other (B' := W1.heap.size) (by omega) (.slice (some ⟨g', 0, none⟩) ((maxL pre).length + 1) cap')
                      exact ⟨(zk.trans (keeps_below hb3')).trans (hk2.from _), ⟨(zb.trans (hb3'.mono z6.size)).trans hb4, bA2.trans h4.symm, bB2.trans h5.symm⟩, ⟨_, hv2, by rw [maxL_snoc, hxx, rowE_snoc]; simpa using hr2, trivial⟩, ⟨bA2, bB2⟩, (z6.trans (hb3'.mono z6.size)).trans hb4⟩
                    exact AllReadyIn.nil
                  exact AllReadyIn.nil
                exact AllReadyIn.nil
              exact AllReadyIn.nil
            exact AllReadyIn.nil
          exact AllReadyIn.nil
        refine AllReadyIn.cons rfl (fun K hK => ?_) ?_
        · go_simp
          refine hK _ _ ?_
          clear hK K
          refine wpAnyIn_ready (rs := [0, 1]) (by kernel_rfl) (by simp) ?_
          refine AllReadyIn.cons rfl (fun K hK => ?_) ?_
          · go_simp
            refine hK _ _ ?_
            clear hK K
            refine wpAnyIn_ready (rs := [1]) (by kernel_rfl) (by simp) ?_
            refine AllReadyIn.cons rfl (fun K hK => ?_) ?_
            · go_simp
              refine hK _ _ ?_
              clear hK K
              refine wpAnyIn_ready (rs := [3]) (by kernel_rfl) (by simp) ?_
              refine AllReadyIn.cons rfl (fun K hK => ?_) ?_
              · go_simp
                gi_wp2_with (refine ⟨trivial, ?_⟩; gi_at_call 45; refine (CallsIn.inRound l (best_calls _ (x.1) x.2 _)).mono ?_; rintro e W3 ⟨rfl, hb3⟩; have hb3' : Below Wx.heap.size Wx W3 := (Below.drew (Below.refl Wx.heap.size Wx)).trans hb3; have y1 : Boxed W3 W1.heap.size 22 u := (hb3'.block _ z1.lt).trans z1; have y2 := pw_own_below z2 hb3'; have ycb := y1.cell; have yfb := y1.frozen; have yal : ∀ o_ : Obj, (W3.alloc o_).cell? ⟨W1.heap.size, 0, none⟩ = some u := fun o_ => (y1.alloc o_).cell; clear hcb hfb)
                try (refine hK _ _ ?_)
                try clear hK K
                refine wpAnyIn_ready (rs := [4]) (by kernel_rfl) (by simp) ?_
                refine AllReadyIn.cons rfl (fun K hK => ?_) ?_
                · go_simp
                  refine hK _ _ ?_
                  clear hK K
                  refine wpAnyIn_ready (rs := [5]) (by kernel_rfl) (by simp) ?_
                  refine AllReadyIn.cons rfl (fun K hK => ?_) ?_
                  · rw [if_pos (by rfl)]
                    refine oper_append _ _ _ 22 rfl w.heap.size 44 i0 _ 5 56 Try.underlying22 hi hz0 hz1 hz2 rfl (by decide) _ _ _ rfl (y2.alloc _) ⟨W3.heap.size, 0, none⟩ 1 1 (cellsE (bestK (x.1) x.2)) rfl rfl (five_new _ _) (by simp [cellsE, Value.oneCell']) (by simp only [maxLen]; omega) (by omega) (by have := z6.size; have := hb3'.size; simp; omega) ?_
                    intro v' w1 hown' hgrow
                    obtain ⟨g', cap', rfl⟩ := ownsRow_succ hown'
                    obtain ⟨hv1, hv2, hr2, hk2, hb4⟩ := y1.appended (by decide) y2 (by have := z6.size; have := hb3'.size; omega) hs0 hown' hgrow
                    have hc1 := hv1.cell
                    have hf1 := hv1.frozen
                    refine hK _ _ ?_
                    clear hK K
                    refine wpAnyIn_ready (rs := [6]) (by kernel_rfl) (by simp) ?_
                    refine AllReadyIn.cons rfl (fun K hK => ?_) ?_
                    · go_simp
                      refine hK _ _ ?_
                      clear hK K
                      refine wpAnyIn_done (by kernel_rfl) ?_ _
                      gi_wp2
                      have bA : Boxed W3 (W1.heap.size + 1) 22 (.slice A la.length c) := (hb3.block _ (blk_lt z4)).trans z4
                      have bB : Boxed W3 (W1.heap.size + 1 + 1) 22 (.slice A' lb.length c') := (hb3.block _ (blk_lt z5)).trans z5
                      have bA2 := ((bA.alloc _).kept hgrow (bA.not_row (by decide) y2)).other (B' := W1.heap.size) (by omega) (.slice (some ⟨g', 0, none⟩) ((maxL pre).length + 1) cap')
                      have bB2 := ((bB.alloc _).kept hgrow (bB.not_row (by decide) y2)).other (B' := W1.heap.size) (by omega) (.slice (some ⟨g', 0, none⟩) ((maxL pre).length + 1) cap')
                      exact ⟨(zk.trans (keeps_below hb3')).trans (hk2.from _), ⟨(zb.trans (hb3'.mono z6.size)).trans hb4, bA2.trans h4.symm, bB2.trans h5.symm⟩, ⟨_, hv2, by rw [maxL_snoc, hxx, rowE_snoc]; simpa using hr2, trivial⟩, ⟨bA2, bB2⟩, (z6.trans (hb3'.mono z6.size)).trans hb4⟩
                    exact AllReadyIn.nil
                  exact AllReadyIn.nil
                exact AllReadyIn.nil
              exact AllReadyIn.nil
            exact AllReadyIn.nil
          refine AllReadyIn.cons rfl (fun K hK => ?_) ?_
          · go_simp
            refine hK _ _ ?_
            clear hK K
            refine wpAnyIn_ready (rs := [0, 3]) (by kernel_rfl) (by simp) ?_
            refine AllReadyIn.cons rfl (fun K hK => ?_) ?_
            · go_simp
              refine hK _ _ ?_
              clear hK K
              refine wpAnyIn_ready (rs := [3]) (by kernel_rfl) (by simp) ?_
              refine AllReadyIn.cons rfl (fun K hK => ?_) ?_
              · go_simp
                gi_wp2_with (refine ⟨trivial, ?_⟩; gi_at_call 45; refine (CallsIn.inRound l (best_calls _ (x.1) x.2 _)).mono ?_; rintro e W3 ⟨rfl, hb3⟩; have hb3' : Below Wx.heap.size Wx W3 := (Below.drew (Below.refl Wx.heap.size Wx)).trans hb3; have y1 : Boxed W3 W1.heap.size 22 u := (hb3'.block _ z1.lt).trans z1; have y2 := pw_own_below z2 hb3'; have ycb := y1.cell; have yfb := y1.frozen; have yal : ∀ o_ : Obj, (W3.alloc o_).cell? ⟨W1.heap.size, 0, none⟩ = some u := fun o_ => (y1.alloc o_).cell; clear hcb hfb)
                try (refine hK _ _ ?_)
                try clear hK K
                refine wpAnyIn_ready (rs := [4]) (by kernel_rfl) (by simp) ?_
                refine AllReadyIn.cons rfl (fun K hK => ?_) ?_
                · go_simp
                  refine hK _ _ ?_
                  clear hK K
                  refine wpAnyIn_ready (rs := [5]) (by kernel_rfl) (by simp) ?_
                  refine AllReadyIn.cons rfl (fun K hK => ?_) ?_
                  · rw [if_pos (by rfl)]
                    refine oper_append _ _ _ 22 rfl w.heap.size 44 i0 _ 5 56 Try.underlying22 hi hz0 hz1 hz2 rfl (by decide) _ _ _ rfl (y2.alloc _) ⟨W3.heap.size, 0, none⟩ 1 1 (cellsE (bestK (x.1) x.2)) rfl rfl (five_new _ _) (by simp [cellsE, Value.oneCell']) (by simp only [maxLen]; omega) (by omega) (by have := z6.size; have := hb3'.size; simp; omega) ?_
                    intro v' w1 hown' hgrow
                    obtain ⟨g', cap', rfl⟩ := ownsRow_succ hown'
                    obtain ⟨hv1, hv2, hr2, hk2, hb4⟩ := y1.appended (by decide) y2 (by have := z6.size; have := hb3'.size; omega) hs0 hown' hgrow
                    have hc1 := hv1.cell
                    have hf1 := hv1.frozen
                    refine hK _ _ ?_
                    clear hK K
                    refine wpAnyIn_ready (rs := [6]) (by kernel_rfl) (by simp) ?_
                    refine AllReadyIn.cons rfl (fun K hK => ?_) ?_
                    · go_simp
                      refine hK _ _ ?_
                      clear hK K
                      refine wpAnyIn_done (by kernel_rfl) ?_ _
                      gi_wp2
                      have bA : Boxed W3 (W1.heap.size + 1) 22 (.slice A la.length c) := (hb3.block _ (blk_lt z4)).trans z4
                      have bB : Boxed W3 (W1.heap.size + 1 + 1) 22 (.slice A' lb.length c') := (hb3.block _ (blk_lt z5)).trans z5
                      have bA2 := ((bA.alloc _).kept hgrow (bA.not_row (by decide) y2)).other (B' := W1.heap.size) (by omega) (.slice (some ⟨g', 0, none⟩) ((maxL pre).length + 1) cap')
                      have bB2 := ((bB.alloc _).kept hgrow (bB.not_row (by decide) y2)).other (B' := W1.heap.size) (by omega) (.slice (some ⟨g', 0, none⟩) ((maxL pre).length + 1) cap')
                      exact ⟨(zk.trans (keeps_below hb3')).trans (hk2.from _), ⟨(zb.trans (hb3'.mono z6.size)).trans hb4, bA2.trans h4.symm, bB2.trans h5.symm⟩, ⟨_, hv2, by rw [maxL_snoc, hxx, rowE_snoc]; simpa using hr2, trivial⟩, ⟨bA2, bB2⟩, (z6.trans (hb3'.mono z6.size)).trans hb4⟩
                    exact AllReadyIn.nil
                  exact AllReadyIn.nil
                exact AllReadyIn.nil
              exact AllReadyIn.nil
            refine AllReadyIn.cons rfl (fun K hK => ?_) ?_
            · go_simp
              gi_wp2_with (refine ⟨trivial, ?_⟩; gi_at_call 45; refine (CallsIn.inRound l (best_calls _ (x.1) x.2 _)).mono ?_; rintro e W3 ⟨rfl, hb3⟩; have hb3' : Below Wx.heap.size Wx W3 := (Below.drew (Below.refl Wx.heap.size Wx)).trans hb3; have y1 : Boxed W3 W1.heap.size 22 u := (hb3'.block _ z1.lt).trans z1; have y2 := pw_own_below z2 hb3'; have ycb := y1.cell; have yfb := y1.frozen; have yal : ∀ o_ : Obj, (W3.alloc o_).cell? ⟨W1.heap.size, 0, none⟩ = some u := fun o_ => (y1.alloc o_).cell; clear hcb hfb)
              try (refine hK _ _ ?_)
              try clear hK K
              refine wpAnyIn_ready (rs := [0, 4]) (by kernel_rfl) (by simp) ?_
              refine AllReadyIn.cons rfl (fun K hK => ?_) ?_
              · go_simp
                refine hK _ _ ?_
                clear hK K
                refine wpAnyIn_ready (rs := [4]) (by kernel_rfl) (by simp) ?_
                refine AllReadyIn.cons rfl (fun K hK => ?_) ?_
                · go_simp
                  refine hK _ _ ?_
                  clear hK K
                  refine wpAnyIn_ready (rs := [5]) (by kernel_rfl) (by simp) ?_
                  refine AllReadyIn.cons rfl (fun K hK => ?_) ?_
                  · rw [if_pos (by rfl)]
                    refine oper_append _ _ _ 22 rfl w.heap.size 44 i0 _ 5 56 Try.underlying22 hi hz0 hz1 hz2 rfl (by decide) _ _ _ rfl (y2.alloc _) ⟨W3.heap.size, 0, none⟩ 1 1 (cellsE (bestK (x.1) x.2)) rfl rfl (five_new _ _) (by simp [cellsE, Value.oneCell']) (by simp only [maxLen]; omega) (by omega) (by have := z6.size; have := hb3'.size; simp; omega) ?_
                    intro v' w1 hown' hgrow
                    obtain ⟨g', cap', rfl⟩ := ownsRow_succ hown'
                    obtain ⟨hv1, hv2, hr2, hk2, hb4⟩ := y1.appended (by decide) y2 (by have := z6.size; have := hb3'.size; omega) hs0 hown' hgrow
                    have hc1 := hv1.cell
                    have hf1 := hv1.frozen
                    refine hK _ _ ?_
                    clear hK K
                    refine wpAnyIn_ready (rs := [6]) (by kernel_rfl) (by simp) ?_
                    refine AllReadyIn.cons rfl (fun K hK => ?_) ?_
                    · go_simp
                      refine hK _ _ ?_
                      clear hK K
                      refine wpAnyIn_done (by kernel_rfl) ?_ _
                      gi_wp2
                      have bA : Boxed W3 (W1.heap.size + 1) 22 (.slice A la.length c) := (hb3.block _ (blk_lt z4)).trans z4
                      have bB : Boxed W3 (W1.heap.size + 1 + 1) 22 (.slice A' lb.length c') := (hb3.block _ (blk_lt z5)).trans z5
                      have bA2 := ((bA.alloc _).kept hgrow (bA.not_row (by decide) y2)).other (B' := W1.heap.size) (by omega) (.slice (some ⟨g', 0, none⟩) ((maxL pre).length + 1) cap')
                      have bB2 := ((bB.alloc _).kept hgrow (bB.not_row (by decide) y2)).other (B' := W1.heap.size) (by omega) (.slice (some ⟨g', 0, none⟩) ((maxL pre).length + 1) cap')
                      exact ⟨(zk.trans (keeps_below hb3')).trans (hk2.from _), ⟨(zb.trans (hb3'.mono z6.size)).trans hb4, bA2.trans h4.symm, bB2.trans h5.symm⟩, ⟨_, hv2, by rw [maxL_snoc, hxx, rowE_snoc]; simpa using hr2, trivial⟩, ⟨bA2, bB2⟩, (z6.trans (hb3'.mono z6.size)).trans hb4⟩
                    exact AllReadyIn.nil
                  exact AllReadyIn.nil
                exact AllReadyIn.nil
              refine AllReadyIn.cons rfl (fun K hK => ?_) ?_
              · go_simp
                refine hK _ _ ?_
                clear hK K
                refine wpAnyIn_ready (rs := [0]) (by kernel_rfl) (by simp) ?_
                refine AllReadyIn.cons rfl (fun K hK => ?_) ?_
                · go_simp
                  refine hK _ _ ?_
                  clear hK K
                  refine wpAnyIn_ready (rs := [5]) (by kernel_rfl) (by simp) ?_
                  refine AllReadyIn.cons rfl (fun K hK => ?_) ?_
                  · rw [if_pos (by rfl)]
                    refine oper_append _ _ _ 22 rfl w.heap.size 44 i0 _ 5 56 Try.underlying22 hi hz0 hz1 hz2 rfl (by decide) _ _ _ rfl (y2.alloc _) ⟨W3.heap.size, 0, none⟩ 1 1 (cellsE (bestK (x.1) x.2)) rfl rfl (five_new _ _) (by simp [cellsE, Value.oneCell']) (by simp only [maxLen]; omega) (by omega) (by have := z6.size; have := hb3'.size; simp; omega) ?_
                    intro v' w1 hown' hgrow
                    obtain ⟨g', cap', rfl⟩ := ownsRow_succ hown'
                    obtain ⟨hv1, hv2, hr2, hk2, hb4⟩ := y1.appended (by decide) y2 (by have := z6.size; have := hb3'.size; omega) hs0 hown' hgrow
                    have hc1 := hv1.cell
                    have hf1 := hv1.frozen
                    refine hK _ _ ?_
                    clear hK K
                    refine wpAnyIn_ready (rs := [6]) (by kernel_rfl) (by simp) ?_
                    refine AllReadyIn.cons rfl (fun K hK => ?_) ?_
                    · go_simp
                      refine hK _ _ ?_
                      clear hK K
                      refine wpAnyIn_done (by kernel_rfl) ?_ _
                      gi_wp2
                      have bA : Boxed W3 (W1.heap.size + 1) 22 (.slice A la.length c) := (hb3.block _ (blk_lt z4)).trans z4
                      have bB : Boxed W3 (W1.heap.size + 1 + 1) 22 (.slice A' lb.length c') := (hb3.block _ (blk_lt z5)).trans z5
                      have bA2 := ((bA.alloc _).kept hgrow (bA.not_row (by decide) y2)).other (B' := W1.heap.size) (by omega) (.slice (some ⟨g', 0, none⟩) ((maxL pre).length + 1) cap')
                      have bB2 := ((bB.alloc _).kept hgrow (bB.not_row (by decide) y2)).other (B' := W1.heap.size) (by omega) (.slice (some ⟨g', 0, none⟩) ((maxL pre).length + 1) cap')
                      exact ⟨(zk.trans (keeps_below hb3')).trans (hk2.from _), ⟨(zb.trans (hb3'.mono z6.size)).trans hb4, bA2.trans h4.symm, bB2.trans h5.symm⟩, ⟨_, hv2, by rw [maxL_snoc, hxx, rowE_snoc]; simpa using hr2, trivial⟩, ⟨bA2, bB2⟩, (z6.trans (hb3'.mono z6.size)).trans hb4⟩
                    exact AllReadyIn.nil
                  exact AllReadyIn.nil
                exact AllReadyIn.nil
              exact AllReadyIn.nil
            exact AllReadyIn.nil
          exact AllReadyIn.nil
        exact AllReadyIn.nil
    case done =>
      rintro D ys W hD rfl ⟨⟨v, h1, h2, _⟩, _, h6⟩ hK
      have hcb := h1.cell
      gi_wp2
      refine ⟨by simp, .inl ⟨_, _, rfl, run_takeDeferred hK, ?_⟩⟩
      exact ⟨.tuple #[v, .int .i64 0], by simp [results, Try.f25, go_sem], v, rfl, ownsRow_putObj h2 _ hK rfl, h6.trans (belowK_b (w := w) (Nat.le_refl _) _ D _ _ (by have := kb.size; omega) hK rfl rfl)⟩
    case stop =>
      rintro D c' pre W _ _ h _
      exact h.elim
end Go.Proofs.Ytghlellambnkeaa.MergeW
namespace Go.Proofs.Ytghlellambnkeaa.PAll
open Go.RowKit Go.Proofs.YtghlellambnkeaaW.PrintWords Go.Proofs.Ytghlellambnkeaa.MergeW
def merge_Max.f (k : Nat) (l0 l1 : List S44) : Option (List S44 × Int) := (merge_check.f k l0 l1).bind fun e => if (mp l0 l1).length < 2513169434916 then some (if e = 0 then maxL (mp l0 l1) else [], e) else none
theorem merge_Max.mono : ∀ a0 a1 k, LeO (merge_Max.f k a0 a1) (merge_Max.f (k + 1) a0 a1) := fun a0 a1 k => LeO.bind (merge_check.mono a0 a1 k) (fun _ => LeO.refl _)
theorem merge_Max.calls (k : Nat) (A0 : Option Addr) (c0 : Nat) (l0 : List S44) (A1 : Option Addr) (c1 : Nat) (l1 : List S44) (r1 : List S44) (r2 : Int) (w : World) (hr0 : Kd.C k44 w A0 l0.length l0) (hc0 : l0.length ≤ c0) (hr1 : Kd.C k44 w A1 l1.length l1) (hc1 : l1.length ≤ c1) (h : merge_Max.f k l0 l1 = some (r1, r2)) :
    Calls Try.prog 25 #[.slice A0 l0.length c0, .slice A1 l1.length c1] w fun e w' => ∃ v0_ : Value, e = .returned (.tuple #[v0_, .int .i64 r2]) ∧ Kd.R k44 44 w' w.heap.size (fun _ => True) v0_ r1 ∧ Below w.heap.size w w' := by
  obtain ⟨e0, he, h⟩ := Option.bind_eq_some_iff.1 h
  split at h
  · rename_i hN
    simp only [Option.some.injEq, Prod.mk.injEq] at h
    obtain ⟨h1, rfl⟩ := h
    exact (callsIn_wide.1 (max_in k A0 A1 c0 c1 l0 l1 w hr0 hc0 hr1 hc1 e0 he hN r1 (fun h => by rw [← h1, if_pos h]) (fun h => by rw [← h1, if_neg h]))).mono fun e w' ⟨v, h2, h3, h4⟩ => ⟨v, h2, rowR h3, h4⟩
  · cases h
end Go.Proofs.Ytghlellambnkeaa.PAll
