-- By wip/late.py (a program of this session) out of wip/words.
import Derived.Test.YtgdhgamolenfgaaProg
import Derived.Test.YtgdhgamolenfgaaWWords
import Derived.Test.YtgdhgamolenfgaaWLast
import Derived.Test.YtgdhgamolenfgaaWMore
import Derived.Test.YtgdhgamolenfgaaPAllx0
import Derived.Test.YtgdhgamolenfgaaPAllx4
import Derived.Test.YtgdhgamolenfgaaSTilesA
import Derived.Test.YtgdhgamolenfgaaSEmpties
import Derived.BigRegion
import Derived.RegionTactic
set_option linter.unusedVariables false
set_option linter.unusedSimpArgs false
namespace Go.Proofs.Ytgdhgamolenfgaa.Tiles
open Go.RowKit Go.Shelf Go.Proofs.YtgdhgamolenfgaaW.PrintWords Go.Proofs.Ytgdhgamolenfgaa.PAll
attribute [local go_sem] Oper.semAt_some

/-! Rising. -/
def riseB : List (S23 × S23) → Bool := fun l => l.all (fun x => !(x.1.f2 || Op.bytesLess x.2.f0.toList x.1.f1.toList))
/-- Do ranges rise, none of them empty? -/
def risB (l : List S23) : Bool := l.all (fun r => !Pure.empK r.f0 r.f1 r.f2) && riseB (nxt l)
theorem emp_calls (n : Nat) (r : S23) (w : World) : CallsIn Fence.wide n Try.prog 14 #[av r] w fun e w' => e = .returned (.bool (Pure.empK r.f0 r.f1 r.f2)) ∧ Below w.heap.size w w' := by
  obtain ⟨k, hk⟩ := (Pure.emp_f r.f0 r.f1 r.f2).rounds
  exact callsIn_wide.2 (span_Empty.calls k _ _ _ _ w hk)
theorem riseB_snoc (l : List (S23 × S23)) (x : S23 × S23) : riseB (l ++ [x]) = (riseB l && !(x.1.f2 || Op.bytesLess x.2.f0.toList x.1.f1.toList)) := by simp [riseB]
theorem riseB_pre {l m : List (S23 × S23)} (h : l <+: m) (hl : riseB l = false) : riseB m = false := by
  obtain ⟨r, rfl⟩ := h
  unfold riseB at *
  rw [List.all_append, hl]; rfl
theorem below_alloc2 {B : Nat} {w W : World} {o o' : Obj} (h : Below B w W) (hB : B ≤ W.heap.size := by assumption) : Below B W ((W.alloc o).alloc o') := ((Below.refl B W).alloc hB _).alloc (by simp; omega) _
theorem risB_empty {l : List S23} (k : Nat) (h : k < l.length) (he : Pure.empK l[k].f0 l[k].f1 l[k].f2 = true) : risB l = false := by
  unfold risB
  have : l.all (fun r => !Pure.empK r.f0 r.f1 r.f2) = false := by
    rw [List.all_eq_false]; exact ⟨l[k], List.getElem_mem h, by simp [he]⟩
  rw [this]; rfl
theorem all_snoc {l : List S23} (k : Nat) (h : k < l.length) (ha : (l.take k).all (fun r => !Pure.empK r.f0 r.f1 r.f2) = true) (he : Pure.empK l[k].f0 l[k].f1 l[k].f2 = false) : (l.take (k + 1)).all (fun r => !Pure.empK r.f0 r.f1 r.f2) = true := by
  rw [List.take_succ_eq_append_getElem h, List.all_append, ha]; simp [he]
set_option maxRecDepth 100000 in
set_option maxHeartbeats 2000000 in
theorem rising_in (A : Option Addr) (c : Nat) (ls : List S23) (w : World) (hr : Kd.C k23 w A ls.length ls) (hc : ls.length ≤ c) :
    CallsIn Fence.wide 5 Try.prog 29 #[.slice A ls.length c] w fun e w' => e = .returned (.bool (risB ls)) ∧ Below w.heap.size w w' := by
  have hrow := row_of hr
  have hl := hrow.1
  refine callsIn_of_wp_marks Try.func29 rfl trivial ?_ rfl
  simp only [Try.ntmps29, List.size_toArray, List.length_cons, List.length_nil, Nat.reduceAdd, Nat.reduceSub, Array.replicate_succ, Array.replicate_zero, List.push_toArray, List.append_toArray, List.nil_append, List.cons_append]
  gi_wp2
  gi_loopw [9] (fun i wr => ∃ k : Nat, i = .int .i64 k ∧ k ≤ ls.length ∧ (ls.take k).all (fun r => !Pure.empK r.f0 r.f1 r.f2) = true ∧ Below w.heap.size w wr ∧ wr.heap[w.heap.size]? = some (.cells #[.bool false] 4 (0, 0))) (fun i wr => ls.length - (intOf i).toNat)
  case atStart => exact ⟨0, by simp, by omega, by simp, below_alloc (Below.refl _ _) _, heap_alloc_new _ _⟩
  case round =>
    obtain ⟨k, rfl, hk, hall, hb, hB⟩ := hrel
    by_cases hlt : (k : Int) < (ls.length : Int)
    · have hk1 : k < ls.length := by omega
      obtain ⟨ad, rfl, a0, a1, a2⟩ := hrow.2 k (ls[k]'(by omega)) (by simp)
      replace a0 := (hb.cell (World.block_lt_of_cell? w _ a0)).trans a0
      replace a1 := (hb.cell (World.block_lt_of_cell? w _ a1)).trans a1
      replace a2 := (hb.cell (World.block_lt_of_cell? w _ a2)).trans a2
      gi_wp2_with (refine ⟨trivial, ?_⟩; gi_at_call 14; refine (emp_calls _ (ls[k]'(by omega)) _).mono ?_; rintro e w' ⟨rfl, hbw⟩; have hBw := blk_below (blk_alloc hB _) hbw; have hcw : w'.cell? ⟨w.heap.size, 0, none⟩ = some (.bool false) := (blk_cell hBw 0).trans rfl; have hfw := blk_frozen hBw 0)
      · have he : Pure.empK (ls[k]'(by omega)).f0 (ls[k]'(by omega)).f1 (ls[k]'(by omega)).f2 = true := by assumption
        have hcs := blk_set hBw 0 (.bool false)
        refine ⟨.bool false, by simp [results, Try.f29, go_sem, hcw], ?_, ?_⟩
        · rw [risB_empty k hk1 he]
        · exact below_set (below_step (below_alloc hb _) hbw) (Nat.le_refl _)
      · have he : Pure.empK (ls[k]'(by omega)).f0 (ls[k]'(by omega)).f1 (ls[k]'(by omega)).f2 = false := by assumption
        refine ⟨⟨k + 1, by simp, by omega, all_snoc k hk1 hall he, below_step (below_alloc hb _) hbw, hBw⟩, by simp [intOf]; omega⟩
    · have hk2 : k = ls.length := by omega
      subst hk2
      gi_wp2_with (refine ⟨trivial, ?_⟩; gi_at_call 40; refine (pairs_in _ _ _ _ _).mono ?_; rintro e w' ⟨rfl, rfl⟩)
      have hB1 := blk_alloc hB (.cells #[.slice A ls.length c] 30)
      have hb1 := below_alloc hb (.cells #[.slice A ls.length c] 30)
      have hbx : (wr.alloc (.cells #[.slice A ls.length c] 30)).heap[wr.heap.size]? = some (.cells #[.slice A ls.length c] 30 (0, 0)) := heap_alloc_new _ _
      have hbs := hb.size
      have hs1 : (wr.alloc (.cells #[.slice A ls.length c] 30)).heap.size = wr.heap.size + 1 := by simp
      have hbl := blk_lt hB
      generalize hW0 : wr.alloc (.cells #[.slice A ls.length c] 30) = W0 at hB1 hb1 hbx hs1 ⊢
      clear hW0
      rw [List.take_length] at hall
      refine wpIn_rangeFunc_ownH (F := Fence.wide) rfl (by omega) (gf := 44) (lb := #[.pointer (some ⟨wr.heap.size, 0, none⟩)]) rfl trivial (enters_of Try.func44 (by kernel_rfl) rfl)
        (pairs_stops _ (by omega) wr.heap.size w W0 A c ls hrow hb1 hbx) (fun h k => Kp.t h k) (Kp.b hb1.size (by omega)) (Below.refl _ _) (fun _ => rfl)
        (fun pre W => (riseB pre = true ∧ W.heap[w.heap.size]? = some (.cells #[.bool false] 4 (0, 0)) ∧ W.heap[wr.heap.size]? = some (.cells #[.slice A ls.length c] 30 (0, 0))) ∧ Below w.heap.size w W)
        (fun c' pre W => ((c' = .ret ∧ riseB pre = false) ∧ W.heap[w.heap.size]? = some (.cells #[.bool false] 4 (0, 0))) ∧ Below w.heap.size w W)
        (OwnFrom.and (Own.from (fun s X Y row hs hg hr => ⟨hs.1, (grownBy_keeps_cells hg hr hs.2.1 rfl).trans hs.2.1, (grownBy_keeps_cells hg hr hs.2.2 rfl).trans hs.2.2⟩) _) (ownFrom_below (Nat.le_refl _) hb1.size))
        (fun _ => OwnFrom.and (Own.from (fun s X Y row hs hg hr => ⟨hs.1, (grownBy_keeps_cells hg hr hs.2 rfl).trans hs.2⟩) _) (ownFrom_below (Nat.le_refl _) hb1.size))
        ⟨⟨rfl, hB1, hbx⟩, hb1⟩
        (fun x a' W => ∃ ga gb : Nat, a' = { tmps := #[.slice A ls.length c, undef, .pointer (some ⟨w.heap.size, 0, none⟩), undef, u4, .pointer (some ⟨ga, 0, none⟩), .pointer (some ⟨gb, 0, none⟩), .slice A ls.length c, .int .i64 ls.length, .int .i64 ls.length, .bool false, u11, u12, u13, u14, u15, .slice A ls.length c, .func (.func 44) #[] #[.pointer (some ⟨wr.heap.size, 0, none⟩)], av x.1, av x.2, undef, undef, undef, undef, undef, undef, undef, undef, undef], defers := [] } ∧
          W.heap[ga]? = some (.cells #[.string x.1.f0, .string x.1.f1, .bool x.1.f2] 23 (0, 0)) ∧ W.heap[gb]? = some (.cells #[.string x.2.f0, .string x.2.f1, .bool x.2.f2] 23 (0, 0)))
        (fun x a' => Own.from (fun s X Y row hs hg hr => by obtain ⟨ga, gb, h1, h2, h3⟩ := hs; exact ⟨ga, gb, h1, (grownBy_keeps_cells hg hr h2 rfl).trans h2, (grownBy_keeps_cells hg hr h3 rfl).trans h3⟩) _)
        ?assign ?body ?done ?stop
      case assign =>
        intro l pre x W K hI hK
        obtain ⟨⟨h1, h2, h2b⟩, h3⟩ := hI
        have hlt2 := blk_lt h2b
        gi_wp2
        refine hK _ _ (((KeepsOthers.alloc _ _).trans (KeepsOthers.alloc _ _)).from _) ⟨below_alloc2 h3 h3.size, (Below.heap_alloc _ _ _ (by simp; omega)).trans (Below.heap_alloc _ _ _ (by omega))⟩ ⟨⟨h1, blk_alloc (blk_alloc h2 _) _, blk_alloc (blk_alloc h2b _) _⟩, below_alloc (below_alloc h3 _) _⟩ ⟨W.heap.size, W.heap.size + 1, rfl, blk_alloc (heap_alloc_new _ _) _, by have := heap_alloc_new (W.alloc (.cells #[.string x.1.f0, .string x.1.f1, .bool x.1.f2] 23)) (.cells #[.string x.2.f0, .string x.2.f1, .bool x.2.f2] 23); simpa using this⟩
      case body =>
        rintro l pre x a' W hl hr ⟨⟨h1, h2, h2b⟩, h3⟩ ⟨ga, gb, rfl, h4, h5⟩ _
        have c0 : W.cell? ⟨ga, 1, none⟩ = some (.string x.1.f1) := (blk_cell h4 1).trans rfl
        have c1 : W.cell? ⟨ga, 2, none⟩ = some (.bool x.1.f2) := (blk_cell h4 2).trans rfl
        have c2 : W.cell? ⟨gb, 0, none⟩ = some (.string x.2.f0) := (blk_cell h5 0).trans rfl
        have c3 : W.cell? ⟨w.heap.size, 0, none⟩ = some (.bool false) := (blk_cell h2 0).trans rfl
        have f3 := blk_frozen h2 0
        gi_wp2
        · have hx : x.1.f2 = true := by assumption
          exact ⟨(KeepsOthers.setCell _ _ _).from _, ⟨⟨rfl, by rw [riseB_snoc, h1, hx]; rfl⟩, blk_set h2 0 _⟩, below_set h3 (Nat.le_refl _)⟩
        · have hx : Op.bytesLess x.2.f0.toList x.1.f1.toList = true := by assumption
          exact ⟨(KeepsOthers.setCell _ _ _).from _, ⟨⟨rfl, by rw [riseB_snoc, h1, hx]; simp⟩, blk_set h2 0 _⟩, below_set h3 (Nat.le_refl _)⟩
        · have hx : Op.bytesLess x.2.f0.toList x.1.f1.toList = false := by assumption
          have hx2 : x.1.f2 = false := by have h_ : ¬ x.1.f2 = true := by assumption
                                          simpa using h_
          exact ⟨(KeepsOthers.refl _).from _, Kp.r _ _ _, ⟨by rw [riseB_snoc, h1, hx, hx2]; rfl, h2, h2b⟩, h3⟩
      case done =>
        rintro D ys W hD rfl ⟨⟨h1, h2, h2b⟩, h3⟩ hK
        have c3 : W.cell? ⟨w.heap.size, 0, none⟩ = some (.bool false) := (blk_cell h2 0).trans rfl
        have f3 := blk_frozen h2 0
        gi_wp2
        have hK' := (KeepsOthers.setCell W ⟨w.heap.size, 0, none⟩ (.bool true)).same D _ hK rfl
        have h2' := blk_set h2 0 (.bool true)
        have hc5 := cell_kept ((blk_cell h2' 0).trans rfl : _ = some (Value.bool true)) (grownBy_putObj' _ D (.deferred none)) (fun r e => by cases e; exact ⟨_, hK', rfl⟩)
        refine ⟨by simp, .inl ⟨_, _, rfl, run_takeDeferred hK', ?_⟩⟩
        refine ⟨.bool true, by simp [results, Try.f29, go_sem, hc5], ?_, ?_⟩
        · unfold risB; rw [hall, h1]; rfl
        · exact (below_set h3 (Nat.le_refl _)).trans (belowK_b (w := w) (Nat.le_refl _) _ D _ _ (by omega) hK' rfl rfl)
      case stop =>
        rintro D c' pre W hD hSp ⟨⟨⟨rfl, h1⟩, h2⟩, h3⟩ hK
        have c3 : W.cell? ⟨w.heap.size, 0, none⟩ = some (.bool false) := (blk_cell h2 0).trans rfl
        gi_wp2
        have hc5 := cell_kept c3 (grownBy_putObj' _ D (.deferred none)) (fun r e => by cases e; exact ⟨_, hK, rfl⟩)
        refine ⟨by simp, .inl ⟨_, _, rfl, run_takeDeferred hK, ?_⟩⟩
        refine ⟨.bool false, by simp [results, Try.f29, go_sem, hc5], ?_, ?_⟩
        · unfold risB; rw [riseB_pre hSp h1, Bool.and_false]
        · exact h3.trans (belowK_b (w := w) (Nat.le_refl _) _ D _ _ (by omega) hK rfl rfl)
theorem rising_calls (A : Option Addr) (c : Nat) (ls : List S23) (w : World) (hr : Kd.C k23 w A ls.length ls) (hc : ls.length ≤ c) :
    Calls Try.prog 29 #[.slice A ls.length c] w fun e w' => e = .returned (.bool (risB ls)) ∧ Below w.heap.size w w' := callsIn_wide.1 (rising_in A c ls w hr hc)

/-! Tile. -/
def fitB : List (S23 × S23) → Bool := fun l => l.all (fun x => !(x.1.f1.toList != x.2.f0.toList))
theorem fitB_snoc (l : List (S23 × S23)) (x : S23 × S23) : fitB (l ++ [x]) = (fitB l && !(x.1.f1.toList != x.2.f0.toList)) := by simp [fitB]
theorem fitB_pre {l m : List (S23 × S23)} (h : l <+: m) (hl : fitB l = false) : fitB m = false := by
  obtain ⟨r, rfl⟩ := h
  unfold fitB at *
  rw [List.all_append, hl]; rfl
/-- Do ranges tile one? -/
def tilB (l : List S23) (lo hi : ByteArray) (op : Bool) : Bool :=
  decide (0 < l.length) && (risB l && (fitB (nxt l) && (((rd_T23 l 0).f0.toList == lo.toList) && (((rd_T23 l ((l.length - 1 : Nat) : Int)).f2 == op) && (op || ((rd_T23 l ((l.length - 1 : Nat) : Int)).f1.toList == hi.toList))))))
theorem rd_get {l : List S23} {i : Nat} (h : i < l.length) : rd_T23 l (i : Int) = l[i] := by
  unfold rd_T23
  rw [Int.toNat_natCast, List.getD_eq_getElem?_getD, List.getElem?_eq_getElem h]; rfl
set_option maxRecDepth 100000 in
theorem tile_end {w W1 : World} (v r : Bool) {b : Nat} (D : Nat) (gK : W1.heap[D]? = some (.deferred (some []))) (g2 : W1.heap[b]? = some (.cells #[.bool false] 4 (0, 0))) (g3 : Below w.heap.size w W1) (hb : w.heap.size ≤ b) (hD : w.heap.size ≤ D) (tmps : Array Value) (ht : tmps.getD 4 undef = .pointer (some ⟨b, 0, none⟩)) (hv : v = r) :
    bodyPostM Fence.wide 6 Try.prog Try.f31 (fun e w' => e = .returned (.bool r) ∧ Below w.heap.size w w') .ret { tmps := tmps, defers := [{ target := .collected D, args := #[] }] } ((W1.setCell ⟨b, 0, none⟩ (.bool v)).drew) := by
  subst hv
  have hK' : ((W1.setCell ⟨b, 0, none⟩ (.bool v)).drew).heap[D]? = some (.deferred (some [])) := (KeepsOthers.setCell W1 ⟨b, 0, none⟩ (.bool v)).same D _ gK rfl
  have h2' : ((W1.setCell ⟨b, 0, none⟩ (.bool v)).drew).heap[b]? = some (.cells #[.bool v] 4 (0, 0)) := blk_set g2 0 (.bool v)
  have hc5 := cell_kept ((blk_cell h2' 0).trans rfl : _ = some (Value.bool v)) (grownBy_putObj' _ D (.deferred none)) (fun r e => by cases e; exact ⟨_, hK', rfl⟩)
  refine ⟨by simp, .inl ⟨_, _, rfl, run_takeDeferred hK', ?_⟩⟩
  refine ⟨.bool v, ?_, rfl, ?_⟩
  · rw [Array.getD_eq_getD_getElem?] at ht
    simp [results, Try.f31, go_sem, ht, hc5]
  · exact (below_drew (below_set g3 hb)).trans (belowK_b (w := w) (Nat.le_refl _) _ D _ _ hD hK' rfl rfl)
set_option maxRecDepth 100000 in
set_option maxHeartbeats 4000000 in
theorem tile_in (A : Option Addr) (c : Nat) (ls : List S23) (lo hi : ByteArray) (op : Bool) (w : World) (hr : Kd.C k23 w A ls.length ls) (hc : ls.length ≤ c) :
    CallsIn Fence.wide 6 Try.prog 31 #[.slice A ls.length c, .agg #[.string lo, .string hi, .bool op]] w fun e w' => e = .returned (.bool (tilB ls lo hi op)) ∧ Below w.heap.size w w' := by
  have hrow := row_of hr
  have hl := hrow.1
  have e1 : ((w.alloc (.cells #[.string lo, .string hi, .bool op] 23)).alloc (.cells #[.bool false] 4)).heap[w.heap.size]? = some (.cells #[.string lo, .string hi, .bool op] 23 (0, 0)) := blk_alloc (heap_alloc_new _ _) _
  have e2 : ((w.alloc (.cells #[.string lo, .string hi, .bool op] 23)).alloc (.cells #[.bool false] 4)).heap[w.heap.size + 1]? = some (.cells #[.bool false] 4 (0, 0)) := by simpa using heap_alloc_new (w.alloc (.cells #[.string lo, .string hi, .bool op] 23)) (.cells #[.bool false] 4)
  by_cases h0 : 0 < ls.length
  case neg =>
    have hn : ls.length = 0 := by omega
    refine callsIn_of_wp_marks Try.func31 rfl trivial ?_ rfl
    simp only [Try.ntmps31, List.size_toArray, List.length_cons, List.length_nil, Nat.reduceAdd, Nat.reduceSub, Array.replicate_succ, Array.replicate_zero, List.push_toArray, List.append_toArray, List.nil_append, List.cons_append]
    rw [hn]
    gi_wp2_with (refine ⟨trivial, ?_⟩)
    refine ⟨.bool false, by simp [results, Try.f31, go_sem], ?_, ?_⟩
    · unfold tilB; simp [hn]
    · first | exact below_alloc (below_alloc (Below.refl _ _) _) _ | exact below_set (below_alloc (below_alloc (Below.refl w.heap.size w) _) _) (show w.heap.size ≤ w.heap.size + 1 by omega)
  case pos =>
    have hne : ((ls.length : Int) == 0) = false := by rw [beq_eq_false_iff_ne]; omega
    cases hR : risB ls with
    | false =>
      refine callsIn_of_wp_marks Try.func31 rfl trivial ?_ rfl
      simp only [Try.ntmps31, List.size_toArray, List.length_cons, List.length_nil, Nat.reduceAdd, Nat.reduceSub, Array.replicate_succ, Array.replicate_zero, List.push_toArray, List.append_toArray, List.nil_append, List.cons_append]
      gi_wp2_with (refine ⟨trivial, ?_⟩; gi_at_call 29; refine (callsIn_wide.2 (rising_calls A c ls _ (Kd.C_alloc (Kd.C_alloc hr _) _) hc)).mono ?_; rintro e w' ⟨rfl, hbw⟩; have hQb := blk_below e2 hbw; have hRb := blk_below e1 hbw; have hcw : w'.cell? ⟨w.heap.size + 1, 0, none⟩ = some (.bool false) := (blk_cell hQb 0).trans rfl; have hfw := blk_frozen hQb 0; have hb2 := below_step (below_alloc (below_alloc (Below.refl w.heap.size w) _) _) hbw)
      refine ⟨.bool false, by simp [results, Try.f31, go_sem, hcw], ?_, ?_⟩
      · unfold tilB; simp [hR]
      · exact below_set hb2 (by omega)
    | true =>
      refine callsIn_of_wp_marks Try.func31 rfl trivial ?_ rfl
      simp only [Try.ntmps31, List.size_toArray, List.length_cons, List.length_nil, Nat.reduceAdd, Nat.reduceSub, Array.replicate_succ, Array.replicate_zero, List.push_toArray, List.append_toArray, List.nil_append, List.cons_append]
      gi_wp2_with (first | (refine ⟨trivial, ?_⟩; gi_at_call 29; refine (callsIn_wide.2 (rising_calls A c ls _ (Kd.C_alloc (Kd.C_alloc hr _) _) hc)).mono ?_; rintro e w' ⟨rfl, hbw⟩; have hQb := blk_below e2 hbw; have hRb := blk_below e1 hbw; have hcw : w'.cell? ⟨w.heap.size + 1, 0, none⟩ = some (.bool false) := (blk_cell hQb 0).trans rfl; have hfw := blk_frozen hQb 0; have hb2 := below_step (below_alloc (below_alloc (Below.refl w.heap.size w) _) _) hbw) | (refine ⟨trivial, ?_⟩; gi_at_call 40; refine (pairs_in _ _ _ _ _).mono ?_; rintro e w2 ⟨rfl, rfl⟩))
      have hlt := blk_lt hQb
      have hB1 := blk_alloc hQb (.cells #[.slice A ls.length c] 30)
      have hR1 := blk_alloc hRb (.cells #[.slice A ls.length c] 30)
      have hb1 := below_alloc hb2 (.cells #[.slice A ls.length c] 30)
      have hbx : (w'.alloc (.cells #[.slice A ls.length c] 30)).heap[w'.heap.size]? = some (.cells #[.slice A ls.length c] 30 (0, 0)) := heap_alloc_new _ _
      have hs1 : (w'.alloc (.cells #[.slice A ls.length c] 30)).heap.size = w'.heap.size + 1 := by simp
      generalize hW0 : w'.alloc (.cells #[.slice A ls.length c] 30) = W0 at hB1 hR1 hb1 hbx hs1 ⊢
      clear hW0
      refine wpIn_rangeFunc_ownH (F := Fence.wide) rfl (by omega) (gf := 44) (lb := #[.pointer (some ⟨w'.heap.size, 0, none⟩)]) rfl trivial (enters_of Try.func44 (by kernel_rfl) rfl)
        (pairs_stops _ (by omega) w'.heap.size w W0 A c ls hrow hb1 hbx) (fun h k => Kp.t h k) (Kp.b hb1.size (by omega)) (Below.refl _ _) (fun _ => rfl)
        (fun pre W => (fitB pre = true ∧ W.heap[w.heap.size + 1]? = some (.cells #[.bool false] 4 (0, 0)) ∧ W.heap[w'.heap.size]? = some (.cells #[.slice A ls.length c] 30 (0, 0)) ∧ W.heap[w.heap.size]? = some (.cells #[.string lo, .string hi, .bool op] 23 (0, 0))) ∧ Below w.heap.size w W)
        (fun c' pre W => ((c' = .ret ∧ fitB pre = false) ∧ W.heap[w.heap.size + 1]? = some (.cells #[.bool false] 4 (0, 0))) ∧ Below w.heap.size w W)
        (OwnFrom.and (Own.from (fun s X Y row hs hg hr => ⟨hs.1, (grownBy_keeps_cells hg hr hs.2.1 rfl).trans hs.2.1, (grownBy_keeps_cells hg hr hs.2.2.1 rfl).trans hs.2.2.1, (grownBy_keeps_cells hg hr hs.2.2.2 rfl).trans hs.2.2.2⟩) _) (ownFrom_below (Nat.le_refl _) hb1.size))
        (fun _ => OwnFrom.and (Own.from (fun s X Y row hs hg hr => ⟨hs.1, (grownBy_keeps_cells hg hr hs.2 rfl).trans hs.2⟩) _) (ownFrom_below (Nat.le_refl _) hb1.size))
        ⟨⟨rfl, hB1, hbx, hR1⟩, hb1⟩
        (fun x a' W => ∃ ga gb : Nat, a' = { tmps := #[.slice A ls.length c, .agg #[.string lo, .string hi, .bool op], undef, .pointer (some ⟨w.heap.size, 0, none⟩), .pointer (some ⟨w.heap.size + 1, 0, none⟩), .pointer (some ⟨ga, 0, none⟩), .pointer (some ⟨gb, 0, none⟩), undef, .slice A ls.length c, .int .i64 ls.length, .bool false, .bool false, .slice A ls.length c, .bool true, .bool false, .bool false, .slice A ls.length c, .func (.func 44) #[] #[.pointer (some ⟨w'.heap.size, 0, none⟩)], av x.1, av x.2, undef, undef, undef, undef, undef, undef, undef, undef, undef, undef, undef, undef, undef, undef, undef, undef, undef, undef, undef, undef, undef, undef, undef, undef, undef, undef, undef, undef, undef, undef, undef, undef, undef, undef, undef, undef], defers := [] } ∧
          W.heap[ga]? = some (.cells #[.string x.1.f0, .string x.1.f1, .bool x.1.f2] 23 (0, 0)) ∧ W.heap[gb]? = some (.cells #[.string x.2.f0, .string x.2.f1, .bool x.2.f2] 23 (0, 0)))
        (fun x a' => Own.from (fun s X Y row hs hg hr => by obtain ⟨ga, gb, h1, h2, h3⟩ := hs; exact ⟨ga, gb, h1, (grownBy_keeps_cells hg hr h2 rfl).trans h2, (grownBy_keeps_cells hg hr h3 rfl).trans h3⟩) _)
        ?assign ?body ?done ?stop
      case assign =>
        intro l pre x W K hI hK
        obtain ⟨⟨h1, h2, h2b, h2c⟩, h3⟩ := hI
        have hlt2 := blk_lt h2b
        gi_wp2
        refine hK _ _ (((KeepsOthers.alloc _ _).trans (KeepsOthers.alloc _ _)).from _) ⟨below_alloc2 h3 h3.size, (Below.heap_alloc _ _ _ (by simp; omega)).trans (Below.heap_alloc _ _ _ (by omega))⟩ ⟨⟨h1, blk_alloc (blk_alloc h2 _) _, blk_alloc (blk_alloc h2b _) _, blk_alloc (blk_alloc h2c _) _⟩, below_alloc (below_alloc h3 _) _⟩ ⟨W.heap.size, W.heap.size + 1, rfl, blk_alloc (heap_alloc_new _ _) _, by have := heap_alloc_new (W.alloc (.cells #[.string x.1.f0, .string x.1.f1, .bool x.1.f2] 23)) (.cells #[.string x.2.f0, .string x.2.f1, .bool x.2.f2] 23); simpa using this⟩
      case body =>
        rintro l pre x a' W hl hr ⟨⟨h1, h2, h2b, h2c⟩, h3⟩ ⟨ga, gb, rfl, h4, h5⟩ _
        have c0 : W.cell? ⟨ga, 1, none⟩ = some (.string x.1.f1) := (blk_cell h4 1).trans rfl
        have c2 : W.cell? ⟨gb, 0, none⟩ = some (.string x.2.f0) := (blk_cell h5 0).trans rfl
        have c3 : W.cell? ⟨w.heap.size + 1, 0, none⟩ = some (.bool false) := (blk_cell h2 0).trans rfl
        have f3 := blk_frozen h2 0
        gi_wp2
        · have hx : (x.1.f1.toList != x.2.f0.toList) = true := by first | assumption | (simp [*]; done)
          exact ⟨(KeepsOthers.setCell _ _ _).from _, ⟨⟨rfl, by rw [fitB_snoc, h1, hx]; rfl⟩, blk_set h2 0 _⟩, below_set h3 (by omega)⟩
        · have hx : (x.1.f1.toList != x.2.f0.toList) = false := by first | assumption | (simp [*]; done)
          exact ⟨(KeepsOthers.refl _).from _, Kp.r _ _ _, ⟨by rw [fitB_snoc, h1, hx]; rfl, h2, h2b, h2c⟩, h3⟩
      case done =>
        rintro D ys W hD rfl ⟨⟨h1, h2, h2b, h2c⟩, h3⟩ hK
        have c3 : W.cell? ⟨w.heap.size + 1, 0, none⟩ = some (.bool false) := (blk_cell h2 0).trans rfl
        have f3 := blk_frozen h2 0
        obtain ⟨ad, rfl, a0, _, _⟩ := hrow.2 0 (ls[0]'h0) (by simp)
        obtain ⟨ad', e', b0, b1, b2⟩ := hrow.2 (ls.length - 1) (ls[ls.length - 1]'(by omega)) (by simp)
        cases e'
        replace a0 := (h3.cell (World.block_lt_of_cell? w _ a0)).trans a0
        replace b0 := (h3.cell (World.block_lt_of_cell? w _ b0)).trans b0
        replace b1 := (h3.cell (World.block_lt_of_cell? w _ b1)).trans b1
        replace b2 := (h3.cell (World.block_lt_of_cell? w _ b2)).trans b2
        have r0 := rd_get (l := ls) h0
        have r1 := rd_get (l := ls) (i := ls.length - 1) (by omega)
        have i0 : (0 : Int) ≤ (ls.length : Int) - 1 := by omega
        have i1 : ((ls.length : Int) - 1).toNat = ls.length - 1 := by omega
        have i2 : IntKind.i64.wrap ((ls.length : Int) - 1) = (ls.length : Int) - 1 := IntWalk.i64_in _ (by omega)
        have i3 : (0 : Int) < (ls.length : Int) := by omega
        gi_wp2
        clear b0 b1 b2
        have hmx : Try.prog.follows .mixedOrders = true := by kernel_rfl
        generalize hO : Obj.cells #[.string (ls[ls.length - 1]'(by omega)).f0, .string (ls[ls.length - 1]'(by omega)).f1, .bool (ls[ls.length - 1]'(by omega)).f2] 23 = O
        have g2 := blk_alloc h2 O
        have g2c := blk_alloc h2c O
        have g3 := below_alloc h3 O
        have gK := blk_alloc hK O
        have gl : (W.alloc O).heap[W.heap.size]? = some (Obj.cells #[.string (ls[ls.length - 1]'(by omega)).f0, .string (ls[ls.length - 1]'(by omega)).f1, .bool (ls[ls.length - 1]'(by omega)).f2] 23) := (heap_alloc_new _ _).trans (by rw [← hO])
        replace a0 := pw_cell_below (below_alloc (Below.refl _ W) O) a0
        have gn : w.heap.size < W.heap.size := blk_lt h2c
        generalize hW1 : W.alloc O = W1 at g2 g2c g3 gl gK a0 ⊢
        clear hW1 hO c3 f3
        replace a0 : W1.cell? ad = some (.string (ls[0]'h0).f0) := by rw [Nat.zero_mul, show ad.add 0 = ad by simp [Addr.add]] at a0; exact a0
        have q0 : W1.cell? ⟨w.heap.size, 0, none⟩ = some (.string lo) := (blk_cell g2c 0).trans rfl
        have q1 : W1.cell? ⟨w.heap.size, 1, none⟩ = some (.string hi) := (blk_cell g2c 1).trans rfl
        have q2 : W1.cell? ⟨w.heap.size, 2, none⟩ = some (.bool op) := (blk_cell g2c 2).trans rfl
        have t1 : W1.cell? ⟨W.heap.size, 1, none⟩ = some (.string (ls[ls.length - 1]'(by omega)).f1) := (blk_cell gl 1).trans rfl
        have t2 : W1.cell? ⟨W.heap.size, 2, none⟩ = some (.bool (ls[ls.length - 1]'(by omega)).f2) := (blk_cell gl 2).trans rfl
        have c3 : W1.cell? ⟨w.heap.size + 1, 0, none⟩ = some (.bool false) := (blk_cell g2 0).trans rfl
        have f3 := blk_frozen g2 0
        cases hA : ((ls[0]'h0).f0.toList == lo.toList) <;> cases hB2 : ((ls[ls.length - 1]'(by omega)).f2 == op) <;> cases op
        all_goals (refine wpIn_wide.2 ?_; go_region)
        all_goals gi_wp2
        all_goals refine tile_end (w := w) _ _ D gK g2 g3 (by omega) (by omega) _ rfl ?_
        all_goals (unfold tilB; rw [hR, h1, r1, show rd_T23 ls 0 = ls[0]'h0 from r0, decide_eq_true h0]; simp only [hA, hB2, Bool.true_and, Bool.false_and, Bool.and_true, Bool.and_false, Bool.true_or, Bool.false_or])
      case stop =>
        rintro D c' pre W hD hSp ⟨⟨⟨rfl, h1⟩, h2⟩, h3⟩ hK
        have c3 : W.cell? ⟨w.heap.size + 1, 0, none⟩ = some (.bool false) := (blk_cell h2 0).trans rfl
        gi_wp2
        have hc5 := cell_kept c3 (grownBy_putObj' _ D (.deferred none)) (fun r e => by cases e; exact ⟨_, hK, rfl⟩)
        refine ⟨by simp, .inl ⟨_, _, rfl, run_takeDeferred hK, ?_⟩⟩
        refine ⟨.bool false, by simp [results, Try.f31, go_sem, hc5], ?_, ?_⟩
        · unfold tilB; rw [fitB_pre hSp h1]; simp
        · exact h3.trans (belowK_b (w := w) (Nat.le_refl _) _ D _ _ (by omega) hK rfl rfl)
theorem tile_calls (A : Option Addr) (c : Nat) (ls : List S23) (lo hi : ByteArray) (op : Bool) (w : World) (hr : Kd.C k23 w A ls.length ls) (hc : ls.length ≤ c) :
    Calls Try.prog 31 #[.slice A ls.length c, .agg #[.string lo, .string hi, .bool op]] w fun e w' => e = .returned (.bool (tilB ls lo hi op)) ∧ Below w.heap.size w w' := callsIn_wide.1 (tile_in A c ls lo hi op w hr hc)
end Go.Proofs.Ytgdhgamolenfgaa.Tiles
namespace Go.Proofs.Ytgdhgamolenfgaa.PAll
open Go.RowKit Go.Proofs.YtgdhgamolenfgaaW.PrintWords Go.Proofs.Ytgdhgamolenfgaa.Tiles
def span_Rising.f (l0 : List S23) : Option Bool := some (risB l0)
theorem span_Rising.calls (A0 : Option Addr) (c0 : Nat) (l0 : List S23) (r : Bool) (w : World) (hr0 : Kd.C k23 w A0 l0.length l0) (hc0 : l0.length ≤ c0) (h : span_Rising.f l0 = some r) :
    Calls Try.prog 29 #[.slice A0 l0.length c0] w fun e w' => e = .returned (.bool r) ∧ Below w.heap.size w w' := by
  obtain rfl := Option.some.inj h
  exact rising_calls A0 c0 l0 w hr0 hc0
def span_Tile.f (l0 : List S23) (a1_0 a1_1 : ByteArray) (a1_2 : Bool) : Option Bool := some (tilB l0 a1_0 a1_1 a1_2)
theorem span_Tile.calls (A0 : Option Addr) (c0 : Nat) (l0 : List S23) (a1_0 : ByteArray) (a1_1 : ByteArray) (a1_2 : Bool) (r : Bool) (w : World) (hr0 : Kd.C k23 w A0 l0.length l0) (hc0 : l0.length ≤ c0) (h : span_Tile.f l0 a1_0 a1_1 a1_2 = some r) :
    Calls Try.prog 31 #[.slice A0 l0.length c0, .agg #[.string a1_0, .string a1_1, .bool a1_2]] w fun e w' => e = .returned (.bool r) ∧ Below w.heap.size w w' := by
  obtain rfl := Option.some.inj h
  exact tile_calls A0 c0 l0 a1_0 a1_1 a1_2 w hr0 hc0
end Go.Proofs.Ytgdhgamolenfgaa.PAll
