-- By wip/late.py (a program of this session) out of wip/words.
import Derived.Test.YtghlellambnkeaaProg
import Derived.Test.YtghlellambnkeaaWWords
import Derived.Test.YtghlellambnkeaaWLast
import Derived.Test.YtghlellambnkeaaSMore0
import Derived.Test.YtghlellambnkeaaPAllx0
import Derived.Test.YtghlellambnkeaaPAllx4
import Derived.Test.YtghlellambnkeaaSMergeA
import Derived.Test.YtghlellambnkeaaSMerge
import Derived.Sort.CutIn
import Derived.RangeFuncCalls
import Derived.RangeFuncBox
import Derived.OwnWalkIn
import Derived.Maps.AppendAt
import Derived.BigRegion
import Derived.RegionTactic
import Derived.Test.YtghlellambnkeaaSItemcmp
set_option linter.unusedVariables false
set_option linter.unusedSimpArgs false
namespace Go.Proofs.Ytghlellambnkeaa.MergeW
open Go.RowKit Go.Shelf Go.Proofs.YtghlellambnkeaaW.PrintWords Go.Proofs.Ytghlellambnkeaa.PAll Go.Proofs.Ytghlellambnkeaa.Pure
attribute [local go_sem] Oper.semAt_some
set_option maxRecDepth 100000 in
set_option maxHeartbeats 4000000 in
theorem above_in (k : Nat) (A A' : Option Addr) (c c' : Nat) (la lb : List S44) (w : World) (hr : Kd.C k44 w A la.length la) (hc : la.length ≤ c) (hr' : Kd.C k44 w A' lb.length lb) (hc' : lb.length ≤ c') (e0 : Int) (hk : merge_check.f k la lb = some e0) :
    CallsIn Fence.wide 6 Try.prog 26 #[.slice A la.length c, .slice A' lb.length c'] w fun e w' => e = .returned (.tuple #[.bool (decide (e0 = 0) && aboveB (mp la lb)), .int .i64 e0]) ∧ Below w.heap.size w w' := by
  have hrow := row_of hr
  have hrow' := row_of hr'
  refine callsIn_of_wp_marks Try.func26 rfl trivial ?_ rfl
  simp only [Try.ntmps26, List.size_toArray, List.length_cons, List.length_nil, Nat.reduceAdd, Nat.reduceSub, Array.replicate_succ, Array.replicate_zero, List.push_toArray, List.append_toArray, List.nil_append, List.cons_append]
  have g4 : ((w.alloc (.cells #[.bool false] 4)).alloc (.cells #[.int .i64 0] 25)).heap[w.heap.size]? = some (.cells #[.bool false] 4 (0, 0)) := blk_alloc (heap_alloc_new _ _) _
  have g5 : ((w.alloc (.cells #[.bool false] 4)).alloc (.cells #[.int .i64 0] 25)).heap[w.heap.size + 1]? = some (.cells #[.int .i64 0] 25 (0, 0)) := by simpa using heap_alloc_new (w.alloc (.cells #[.bool false] 4)) (.cells #[.int .i64 0] 25)
  have gb : Below w.heap.size w ((w.alloc (.cells #[.bool false] 4)).alloc (.cells #[.int .i64 0] 25)) := below_alloc (below_alloc (Below.refl _ _) _) _
  gi_wp2_with (refine ⟨trivial, ?_⟩; gi_at_call 41; refine (check_calls _ k A A' c c' la lb e0 _ (Kd.C_below hr gb) hc (Kd.C_below hr' gb) hc' hk).mono ?_; rintro e W1 ⟨rfl, hb1⟩; replace gb := gb.trans (hb1.mono gb.size); replace g4 := blk_below g4 hb1; replace g5 := blk_below g5 hb1; have c4 : W1.cell? ⟨w.heap.size, 0, none⟩ = some (.bool false) := (blk_cell g4 0).trans rfl; have c5 : W1.cell? ⟨w.heap.size + 1, 0, none⟩ = some (.int .i64 0) := (blk_cell g5 0).trans rfl; have f4 := blk_frozen g4 0; have f5 := blk_frozen g5 0)
  · have he : (e0 != 0) = true := by assumption
    have hz : decide (e0 = 0) = false := by simpa using he
    obtain ⟨h4, h5⟩ := two_cells g4 g5 (.bool false) (.int .i64 e0)
    have q4 := (blk_cell h4 0).trans (rfl : _ = some (Value.bool false))
    have q5 := (blk_cell h5 0).trans (rfl : _ = some (Value.int .i64 e0))
    refine ⟨.tuple #[.bool false, .int .i64 e0], by simp [results, Try.f26, go_sem, q4, q5], ?_, ?_⟩
    · rw [hz]; rfl
    · exact below_set (below_set gb (Nat.le_refl _)) (by omega)
  · have he : (e0 != 0) = false := by assumption
    obtain rfl : e0 = 0 := by simpa using he
    gi_wp2_with (refine ⟨trivial, ?_⟩; gi_at_call 42; refine (pairs_in _ _ _ _ _ _ _ _).mono ?_; rintro e w' ⟨rfl, rfl⟩)
    have hba : ((W1.alloc (.cells #[.slice A la.length c] 22)).alloc (.cells #[.slice A' lb.length c'] 22)).heap[W1.heap.size]? = some (.cells #[.slice A la.length c] 22 (0, 0)) := blk_alloc (heap_alloc_new _ _) _
    have hbb : ((W1.alloc (.cells #[.slice A la.length c] 22)).alloc (.cells #[.slice A' lb.length c'] 22)).heap[W1.heap.size + 1]? = some (.cells #[.slice A' lb.length c'] 22 (0, 0)) := by simpa using heap_alloc_new (W1.alloc (.cells #[.slice A la.length c] 22)) (.cells #[.slice A' lb.length c'] 22)
    have k4 := blk_alloc (blk_alloc g4 (.cells #[.slice A la.length c] 22)) (.cells #[.slice A' lb.length c'] 22)
    have k5 := blk_alloc (blk_alloc g5 (.cells #[.slice A la.length c] 22)) (.cells #[.slice A' lb.length c'] 22)
    have kb := below_alloc (below_alloc gb (.cells #[.slice A la.length c] 22)) (.cells #[.slice A' lb.length c'] 22)
    have hs1 : ((W1.alloc (.cells #[.slice A la.length c] 22)).alloc (.cells #[.slice A' lb.length c'] 22)).heap.size = W1.heap.size + 2 := by simp
    generalize hW0 : (W1.alloc (.cells #[.slice A la.length c] 22)).alloc (.cells #[.slice A' lb.length c'] 22) = W0 at hba hbb k4 k5 kb hs1 ⊢
    clear hW0 c4 c5 f4 f5 g4 g5
    refine wpIn_rangeFunc_ownH (F := Fence.wide) rfl (by omega) (gf := 53) (lb := #[.pointer (some ⟨W1.heap.size, 0, none⟩), .pointer (some ⟨W1.heap.size + 1, 0, none⟩)]) rfl trivial (enters_of Try.func53 (by kernel_rfl) rfl)
      (pairs_stops _ (by omega) W1.heap.size (W1.heap.size + 1) w W0 A A' c c' la lb hrow hrow' kb hba hbb) (fun h k => Kp.t h k) (Kp.b kb.size (by omega) (by omega)) (Below.refl _ _) (fun _ => rfl)
      (fun pre W => (aboveB pre = true ∧ W.heap[w.heap.size]? = some (.cells #[.bool false] 4 (0, 0)) ∧ W.heap[w.heap.size + 1]? = some (.cells #[.int .i64 0] 25 (0, 0)) ∧ W.heap[W1.heap.size]? = some (.cells #[.slice A la.length c] 22 (0, 0)) ∧ W.heap[W1.heap.size + 1]? = some (.cells #[.slice A' lb.length c'] 22 (0, 0))) ∧ Below w.heap.size w W)
      (fun c' pre W => ((c' = .ret ∧ aboveB pre = false) ∧ W.heap[w.heap.size]? = some (.cells #[.bool false] 4 (0, 0)) ∧ W.heap[w.heap.size + 1]? = some (.cells #[.int .i64 0] 25 (0, 0))) ∧ Below w.heap.size w W)
      (OwnFrom.and (Own.from (fun s X Y row hs hg hr => ⟨hs.1, (grownBy_keeps_cells hg hr hs.2.1 rfl).trans hs.2.1, (grownBy_keeps_cells hg hr hs.2.2.1 rfl).trans hs.2.2.1, (grownBy_keeps_cells hg hr hs.2.2.2.1 rfl).trans hs.2.2.2.1, (grownBy_keeps_cells hg hr hs.2.2.2.2 rfl).trans hs.2.2.2.2⟩) _) (ownFrom_below (Nat.le_refl _) kb.size))
      (fun _ => OwnFrom.and (Own.from (fun s X Y row hs hg hr => ⟨hs.1, (grownBy_keeps_cells hg hr hs.2.1 rfl).trans hs.2.1, (grownBy_keeps_cells hg hr hs.2.2 rfl).trans hs.2.2⟩) _) (ownFrom_below (Nat.le_refl _) kb.size))
      ⟨⟨rfl, k4, k5, hba, hbb⟩, kb⟩
      (fun x a' W => ∃ ga gb : Nat, a' = { tmps := #[.slice A la.length c, .slice A' lb.length c', undef, undef, .pointer (some ⟨w.heap.size, 0, none⟩), .pointer (some ⟨w.heap.size + 1, 0, none⟩), .int .i64 0, .pointer (some ⟨ga, 0, none⟩), .pointer (some ⟨gb, 0, none⟩), .slice A la.length c, .slice A' lb.length c', .int .i64 0, .int .i64 0, .bool ((0 : Int) != 0), undef, .slice A la.length c, .slice A' lb.length c', .func (.func 53) #[] #[.pointer (some ⟨W1.heap.size, 0, none⟩), .pointer (some ⟨W1.heap.size + 1, 0, none⟩)], av x.1, av x.2, undef, undef, undef], defers := [] } ∧
        W.heap[ga]? = some (.cells (ac x.1) 44 (0, 0)) ∧ W.heap[gb]? = some (.cells (ac x.2) 44 (0, 0)))
      (fun x a' => Own.from (fun s X Y row hs hg hr => by obtain ⟨ga, gb, h1, h2, h3⟩ := hs; exact ⟨ga, gb, h1, (grownBy_keeps_cells hg hr h2 rfl).trans h2, (grownBy_keeps_cells hg hr h3 rfl).trans h3⟩) _)
      ?assign ?body ?done ?stop
    case assign =>
      intro l pre x W K hI hK
      obtain ⟨⟨h1, h2, h3, h4, h5⟩, h6⟩ := hI
      have hl4 := blk_lt h4
      have hl5 := blk_lt h5
      gi_wp2
      refine hK _ _ (((KeepsOthers.alloc _ _).trans (KeepsOthers.alloc _ _)).from _) ⟨((Below.refl w.heap.size W).alloc h6.size _).alloc (by have := h6.size; simp; omega) _, (Below.heap_alloc _ _ _ (by simp; omega)).trans (Below.heap_alloc _ _ _ (by omega)), (Below.heap_alloc _ _ _ (by simp; omega)).trans (Below.heap_alloc _ _ _ (by omega))⟩ ⟨⟨h1, blk_alloc (blk_alloc h2 _) _, blk_alloc (blk_alloc h3 _) _, blk_alloc (blk_alloc h4 _) _, blk_alloc (blk_alloc h5 _) _⟩, below_alloc (below_alloc h6 _) _⟩ ⟨W.heap.size, W.heap.size + 1, rfl, blk_alloc (heap_alloc_new _ _) _, by have := heap_alloc_new (W.alloc (.cells (ac x.1) 44)) (.cells (ac x.2) 44); simpa using this⟩
    case body =>
      rintro l pre x a' W hl hr ⟨⟨h1, h2, h3, h4, h5⟩, h6⟩ ⟨ga, gb', rfl, h7, h8⟩ _
      have x0 : W.cell? ⟨ga, 0, none⟩ = some (.string x.1.f0) := (blk_cell h7 0).trans rfl
      have x1 : W.cell? ⟨ga, 1, none⟩ = some (.int .i64 x.1.f1.f0) := (blk_cell h7 1).trans rfl
      have x2 : W.cell? ⟨ga, 2, none⟩ = some (.int .i64 x.1.f1.f1) := (blk_cell h7 2).trans rfl
      have x3 : W.cell? ⟨ga, 3, none⟩ = some (.string x.1.f2) := (blk_cell h7 3).trans rfl
      have x4 : W.cell? ⟨ga, 4, none⟩ = some (.bool x.1.f3) := (blk_cell h7 4).trans rfl
      have y0 : W.cell? ⟨gb', 0, none⟩ = some (.string x.2.f0) := (blk_cell h8 0).trans rfl
      have y1 : W.cell? ⟨gb', 1, none⟩ = some (.int .i64 x.2.f1.f0) := (blk_cell h8 1).trans rfl
      have y2 : W.cell? ⟨gb', 2, none⟩ = some (.int .i64 x.2.f1.f1) := (blk_cell h8 2).trans rfl
      have y3 : W.cell? ⟨gb', 3, none⟩ = some (.string x.2.f2) := (blk_cell h8 3).trans rfl
      have y4 : W.cell? ⟨gb', 4, none⟩ = some (.bool x.2.f3) := (blk_cell h8 4).trans rfl
      gi_wp2_with (refine ⟨trivial, ?_⟩; gi_at_call 46; refine (CallsIn.inRound l (newer_calls _ x.2 x.1 W)).mono ?_; rintro e W2 ⟨rfl, hb2⟩; have hkp := keeps_below (B := W0.heap.size) hb2; replace h2 := blk_below h2 hb2; replace h3 := blk_below h3 hb2; have j4 := (hb2.block _ (blk_lt h4)); have j5 := (hb2.block _ (blk_lt h5)); have b4 := hb2.mono h6.size; have c4 : W2.cell? ⟨w.heap.size, 0, none⟩ = some (.bool false) := (blk_cell h2 0).trans rfl; have c5 : W2.cell? ⟨w.heap.size + 1, 0, none⟩ = some (.int .i64 0) := (blk_cell h3 0).trans rfl; have f4 := blk_frozen h2 0; have f5 := blk_frozen h3 0)
      · have hx : newK x.2 x.1 = true := by assumption
        obtain ⟨q4, q5⟩ := two_cells h2 h3 (.bool false) (.int .i64 0)
        exact ⟨hkp.trans (two_keeps _ _ _ _ _), ⟨⟨rfl, by rw [aboveB_snoc, h1, hx]; rfl⟩, q4, q5⟩, below_set (below_set (h6.trans b4) (Nat.le_refl _)) (by omega)⟩
      · have hx : newK x.2 x.1 = false := by assumption
        exact ⟨hkp, ⟨b4, j4, j5⟩, ⟨by rw [aboveB_snoc, h1, hx]; rfl, h2, h3, j4.trans h4, j5.trans h5⟩, h6.trans b4⟩
    case done =>
      rintro D ys W hD rfl ⟨⟨h1, h2, h3, h4, h5⟩, h6⟩ hK
      have c4 : W.cell? ⟨w.heap.size, 0, none⟩ = some (.bool false) := (blk_cell h2 0).trans rfl
      have c5 : W.cell? ⟨w.heap.size + 1, 0, none⟩ = some (.int .i64 0) := (blk_cell h3 0).trans rfl
      have f4 := blk_frozen h2 0
      have f5 := blk_frozen h3 0
      gi_wp2
      have hK' : ((W.setCell ⟨w.heap.size, 0, none⟩ (.bool true)).setCell ⟨w.heap.size + 1, 0, none⟩ (.int .i64 0)).heap[D]? = some (.deferred (some [])) := ((KeepsOthers.setCell W ⟨w.heap.size, 0, none⟩ (.bool true)).trans (KeepsOthers.setCell _ ⟨w.heap.size + 1, 0, none⟩ (.int .i64 0))).same D _ hK rfl
      obtain ⟨q4, q5⟩ := two_cells h2 h3 (.bool true) (.int .i64 0)
      have p4 := cell_kept ((blk_cell q4 0).trans rfl : _ = some (Value.bool true)) (grownBy_putObj' _ D (.deferred none)) (fun r e => by cases e; exact ⟨_, hK', rfl⟩)
      have p5 := cell_kept ((blk_cell q5 0).trans rfl : _ = some (Value.int .i64 0)) (grownBy_putObj' _ D (.deferred none)) (fun r e => by cases e; exact ⟨_, hK', rfl⟩)
      refine ⟨by simp, .inl ⟨_, _, rfl, run_takeDeferred hK', ?_⟩⟩
      refine ⟨.tuple #[.bool true, .int .i64 0], by simp [results, Try.f26, go_sem, p4, p5], ?_, ?_⟩
      · first | rfl | (rw [h1]; rfl)
      · exact (below_set (below_set h6 (Nat.le_refl _)) (by omega)).trans (belowK_b (w := w) (Nat.le_refl _) _ D _ _ (by have := kb.size; omega) hK' rfl rfl)
    case stop =>
      rintro D c' pre W hD hSp ⟨⟨⟨rfl, h1⟩, h2, h3⟩, h6⟩ hK
      have c4 : W.cell? ⟨w.heap.size, 0, none⟩ = some (.bool false) := (blk_cell h2 0).trans rfl
      have c5 : W.cell? ⟨w.heap.size + 1, 0, none⟩ = some (.int .i64 0) := (blk_cell h3 0).trans rfl
      gi_wp2
      have p4 := cell_kept c4 (grownBy_putObj' _ D (.deferred none)) (fun r e => by cases e; exact ⟨_, hK, rfl⟩)
      have p5 := cell_kept c5 (grownBy_putObj' _ D (.deferred none)) (fun r e => by cases e; exact ⟨_, hK, rfl⟩)
      refine ⟨by simp, .inl ⟨_, _, rfl, run_takeDeferred hK, ?_⟩⟩
      refine ⟨.tuple #[.bool false, .int .i64 0], by simp [results, Try.f26, go_sem, p4, p5], ?_, ?_⟩
      · simp [aboveB_pre hSp h1]
      · exact h6.trans (belowK_b (w := w) (Nat.le_refl _) _ D _ _ (by have := kb.size; omega) hK rfl rfl)
end Go.Proofs.Ytghlellambnkeaa.MergeW
namespace Go.Proofs.Ytghlellambnkeaa.PAll
open Go.RowKit Go.Proofs.YtghlellambnkeaaW.PrintWords Go.Proofs.Ytghlellambnkeaa.MergeW
def merge_Above.f (k : Nat) (l0 l1 : List S44) : Option (Bool × Int) := (merge_check.f k l0 l1).bind fun e => some (decide (e = 0) && aboveB (mp l0 l1), e)
theorem merge_Above.mono : ∀ a0 a1 k, LeO (merge_Above.f k a0 a1) (merge_Above.f (k + 1) a0 a1) := fun a0 a1 k => LeO.bind (merge_check.mono a0 a1 k) (fun _ => LeO.refl _)
theorem merge_Above.calls (k : Nat) (A0 : Option Addr) (c0 : Nat) (l0 : List S44) (A1 : Option Addr) (c1 : Nat) (l1 : List S44) (r1 : Bool) (r2 : Int) (w : World) (hr0 : Kd.C k44 w A0 l0.length l0) (hc0 : l0.length ≤ c0) (hr1 : Kd.C k44 w A1 l1.length l1) (hc1 : l1.length ≤ c1) (h : merge_Above.f k l0 l1 = some (r1, r2)) :
    Calls Try.prog 26 #[.slice A0 l0.length c0, .slice A1 l1.length c1] w fun e w' => e = .returned (.tuple #[.bool r1, .int .i64 r2]) ∧ Below w.heap.size w w' := by
  obtain ⟨e0, he, h⟩ := Option.bind_eq_some_iff.1 h
  simp only [Option.some.injEq, Prod.mk.injEq] at h
  obtain ⟨rfl, rfl⟩ := h
  exact callsIn_wide.1 (above_in k A0 A1 c0 c1 l0 l1 w hr0 hc0 hr1 hc1 e0 he)
end Go.Proofs.Ytghlellambnkeaa.PAll
