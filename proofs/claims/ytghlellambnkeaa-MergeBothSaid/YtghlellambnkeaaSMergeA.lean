-- By wip/late.py (a program of this session) out of wip/words.
import Derived.Test.YtghlellambnkeaaProg
import Derived.Test.YtghlellambnkeaaWWords
import Derived.Test.YtghlellambnkeaaWLast
import Derived.Test.YtghlellambnkeaaWMore
import Derived.Test.YtghlellambnkeaaPAllx0
import Derived.Sort.CutIn
import Derived.RangeFuncNested
import Derived.RangeFuncLeaves
import Derived.Shelf.Abstract
import Derived.Shelf.RegionOpen
import Derived.WalkKit
import Derived.OwnWalkIn
import Derived.TacticsInMore
import Derived.LoopNIn
import Derived.LoopIn
import Derived.BigFrameIn
import Derived.BigRegion
import Derived.RegionTactic
import Derived.BigQuiet
import Derived.Deep.QuietTactic
import Derived.WalkMore
import Derived.Test.YtghlellambnkeaaSMergeP
set_option linter.unusedVariables false
set_option linter.unusedSimpArgs false
namespace Go.Proofs.Ytghlellambnkeaa.MergeW
open Go.RowKit Go.Shelf Go.Proofs.YtghlellambnkeaaW.PrintWords Go.Proofs.Ytghlellambnkeaa.PAll Go.Proofs.Ytghlellambnkeaa.Pure
attribute [local go_sem] Oper.semAt_some
abbrev av (x : S44) : Value := .agg #[.string x.f0, .int .i64 x.f1.f0, .int .i64 x.f1.f1, .string x.f2, .bool x.f3]
abbrev ac (x : S44) : Array Value := #[.string x.f0, .int .i64 x.f1.f0, .int .i64 x.f1.f1, .string x.f2, .bool x.f3]
/-- A row of entries, in memory. -/
def Row (w : World) (A : Option Addr) (l : List S44) : Prop :=
  l.length ≤ 9223372036854775807 ∧ ∀ i r, l[i]? = some r → ∃ ad, A = some ad ∧ w.cell? (ad.add (i * 5)) = some (.string r.f0) ∧ w.cell? ⟨(ad.add (i * 5)).block, (ad.add (i * 5)).off + 1, none⟩ = some (.int .i64 r.f1.f0) ∧ w.cell? ⟨(ad.add (i * 5)).block, (ad.add (i * 5)).off + 2, none⟩ = some (.int .i64 r.f1.f1) ∧ w.cell? ⟨(ad.add (i * 5)).block, (ad.add (i * 5)).off + 3, none⟩ = some (.string r.f2) ∧ w.cell? ⟨(ad.add (i * 5)).block, (ad.add (i * 5)).off + 4, none⟩ = some (.bool r.f3)
theorem row_of {w : World} {A : Option Addr} {l : List S44} (h : Kd.C k44 w A l.length l) : Row w A l := by
  refine ⟨h.2.1, fun i r hr => ?_⟩
  have hi : i < l.length := (List.getElem?_eq_some_iff.1 hr).1
  obtain ⟨ad, e, h0, h1, h2, h3, h4⟩ := at_T44 h (i : Int) (by omega) (by omega)
  have er : rd_T44 l (i : Int) = r := by
    unfold rd_T44
    rw [Int.toNat_natCast, List.getD_eq_getElem?_getD, hr]; rfl
  rw [er, Int.toNat_natCast] at h0 h1 h2 h3 h4
  exact ⟨ad, e, h0, h1, h2, h3, h4⟩
theorem Row.below {w W : World} {A : Option Addr} {l : List S44} (h : Row w A l) (hb : Below w.heap.size w W) : Row W A l :=
  ⟨h.1, fun i r hr => by
    obtain ⟨ad, e, h0, h1, h2, h3, h4⟩ := h.2 i r hr
    exact ⟨ad, e, pw_cell_below hb h0, pw_cell_below hb h1, pw_cell_below hb h2, pw_cell_below hb h3, pw_cell_below hb h4⟩⟩
abbrev ltE : List UInt8 → List UInt8 → Bool := fun x y => Op.bytesLess x y
abbrev keyE : S44 → List UInt8 := fun e => e.f0.toList
abbrev km (a b : List S44) : List (Option S44 × Option S44) := kmerge ltE keyE a b
def mp (a b : List S44) : List (S44 × S44) := (km a b).map fun t => (t.1.getD z44, t.2.getD z44)
theorem mp_nil : mp [] [] = [] := by unfold mp km; rw [kmerge_nil_nil]; rfl
theorem mp_left (x : S44) (xs : List S44) : mp (x :: xs) [] = (x, z44) :: mp xs [] := by unfold mp km; rw [kmerge_cons_nil]; rfl
theorem mp_right (y : S44) (ys : List S44) : mp [] (y :: ys) = (z44, y) :: mp [] ys := by unfold mp km; rw [kmerge_nil_cons]; rfl
theorem mp_lt {x y : S44} (h : Op.bytesLess x.f0.toList y.f0.toList = true) (xs ys : List S44) : mp (x :: xs) (y :: ys) = (x, z44) :: mp xs (y :: ys) := by unfold mp km; rw [kmerge_lt (lt := ltE) (key := keyE) h]; rfl
theorem mp_gt {x y : S44} (h : Op.bytesLess x.f0.toList y.f0.toList = false) (h' : Op.bytesLess y.f0.toList x.f0.toList = true) (xs ys : List S44) : mp (x :: xs) (y :: ys) = (z44, y) :: mp (x :: xs) ys := by unfold mp km; rw [kmerge_gt (lt := ltE) (key := keyE) h h']; rfl
theorem mp_eq {x y : S44} (h : Op.bytesLess x.f0.toList y.f0.toList = false) (h' : Op.bytesLess y.f0.toList x.f0.toList = false) (xs ys : List S44) : mp (x :: xs) (y :: ys) = (x, y) :: mp xs ys := by unfold mp km; rw [kmerge_eq (lt := ltE) (key := keyE) h h']; rfl
theorem mp_len (a b : List S44) : (mp a b).length ≤ a.length + b.length := by unfold mp; rw [List.length_map]; exact kmerge_len a b
abbrev zo : Obj := .cells #[.string ⟨#[]⟩, .int .i64 0, .int .i64 0, .string ⟨#[]⟩, .bool false] 44 (0, 0)
theorem zz (W : World) : Below W.heap.size W ((W.alloc zo).alloc zo) := below_alloc (below_alloc (Below.refl _ _) _) _
theorem drop_cons' {α : Type} {l : List α} {i : Nat} (h : i < l.length) : l.drop i = l[i] :: l.drop (i + 1) := List.drop_eq_getElem_cons h
/-- An entry is laid into a block of its own. -/
abbrev st (W : World) (b : Nat) (x : S44) : World := ((((W.setCell ⟨b, 0, none⟩ (.string x.f0)).setCell ⟨b, 1, none⟩ (.int .i64 x.f1.f0)).setCell ⟨b, 2, none⟩ (.int .i64 x.f1.f1)).setCell ⟨b, 3, none⟩ (.string x.f2)).setCell ⟨b, 4, none⟩ (.bool x.f3)
theorem st_at {W : World} {b : Nat} {v0 v1 v2 v3 v4 : Value} (x : S44) (h : W.heap[b]? = some (.cells #[v0, v1, v2, v3, v4] 44 (0, 0))) : (st W b x).heap[b]? = some (.cells (ac x) 44 (0, 0)) :=
  blk_put (blk_put (blk_put (blk_put (blk_put h 0 _ rfl) 1 _ rfl) 2 _ rfl) 3 _ rfl) 4 _ rfl
theorem st_far {W : World} {b k : Nat} (x : S44) (h : k ≠ b) : (st W b x).heap[k]? = W.heap[k]? := by
  unfold st
  rw [Below.heap_setCell _ _ _ _ h, Below.heap_setCell _ _ _ _ h, Below.heap_setCell _ _ _ _ h, Below.heap_setCell _ _ _ _ h, Below.heap_setCell _ _ _ _ h]
theorem st_below {B b : Nat} {w W : World} (x : S44) (h : Below B w W) (hb : B ≤ b) : Below B w (st W b x) :=
  ((((h.setCell hb _).setCell hb _).setCell hb _).setCell hb _).setCell hb _
theorem dN_heap (W : World) (n k : Nat) : (W.drewN n).heap[k]? = W.heap[k]? := rfl
theorem dN_below (B : Nat) (W : World) (n : Nat) : Below B W (W.drewN n) := ⟨rfl, rfl, rfl, Nat.le_refl _, fun _ _ => rfl⟩
theorem st_cell {W1 : World} {b m : Nat} (x : S44) {p : Addr} {v : Value} (hp : p.block ≠ b) (h : W1.cell? p = some v) : (st (W1.drewN m) b x).cell? p = some v := by
  have e : (st (W1.drewN m) b x).heap[p.block]? = W1.heap[p.block]? := (st_far (W := W1.drewN m) x hp).trans (dN_heap W1 m p.block)
  exact (World.cell?_of_block (w := W1) e).trans h
theorem grow_of {w W : World} (h : Below w.heap.size w W) : w.grownBy W none := ⟨h.os, h.tape, h.output, h.size, fun k hk _ => h.block k hk⟩
set_option maxRecDepth 100000 in
set_option maxHeartbeats 4000000 in
theorem pairs1_in (n : Nat) (hn : 1 ≤ n) (l Ba Bb : Nat) (w0 : World) (A A' : Option Addr) (c c' : Nat) (la lb : List S44) (hra : Row w0 A la) (hrb : Row w0 A' lb) (J Jx : List (S44 × S44) → World → Prop) (hJ : ∀ s W W', J s W → W.grownBy W' none → J s W')
    (hY : ∀ pre x W, J pre W → pre.length < (mp la lb).length → YieldAt Fence.wide (n - 1) Try.prog l #[av x.1, av x.2] W fun e W' =>
      (e = .returned (.bool true) ∧ J (pre ++ [x]) W' ∧ (Below w0.heap.size W W' ∧ W'.heap[Ba]? = W.heap[Ba]? ∧ W'.heap[Bb]? = W.heap[Bb]?)) ∨ (e = .returned (.bool false) ∧ Jx (pre ++ [x]) W'))
    (W : World) (hb : Below w0.heap.size w0 W) (hBa : W.heap[Ba]? = some (.cells #[.slice A la.length c] 22 (0, 0))) (hBb : W.heap[Bb]? = some (.cells #[.slice A' lb.length c'] 22 (0, 0))) (h0 : J [] W) :
    CallsIn Fence.wide n Try.prog 53 #[.func (.yield l) #[] #[], .pointer (some ⟨Ba, 0, none⟩), .pointer (some ⟨Bb, 0, none⟩)] W fun e W' => (∃ v, e = .returned v) ∧
      ((∃ ys, ys = mp la lb ∧ J ys W') ∨ (∃ pre, pre <+: mp la lb ∧ Jx pre W')) := by
  refine callsIn_of_wp Try.func53 rfl trivial ?_ rfl
  simp only [Try.ntmps53, List.size_toArray, List.length_cons, List.length_nil, Nat.reduceAdd, Nat.reduceSub, Array.replicate_succ, Array.replicate_zero, List.push_toArray, List.append_toArray, List.nil_append, List.cons_append]
  refine wpIn_wide.2 ?_
  try go_wp2
  go_step3
  go_wp2
  go_step3
  go_wp2
  refine (wpIn_wide (n := n)).1 ?_
  gi_loopw [4, 5] (fun vi vj wr => ∃ (i j : Nat) (pre : List (S44 × S44)), vi = .int .i64 i ∧ vj = .int .i64 j ∧ i ≤ la.length ∧ j ≤ lb.length ∧ pre ++ mp (la.drop i) (lb.drop j) = mp la lb ∧ J pre wr ∧ Below w0.heap.size w0 wr ∧ wr.heap[Ba]? = some (.cells #[.slice A la.length c] 22 (0, 0)) ∧ wr.heap[Bb]? = some (.cells #[.slice A' lb.length c'] 22 (0, 0)))
    (fun vi vj wr => la.length + lb.length - (intOf vi).toNat - (intOf vj).toNat)
  case atStart => exact ⟨0, 0, [], rfl, rfl, by omega, by omega, by simp, h0, hb, hBa, hBb⟩
  case round =>
    obtain ⟨i, j, pre, rfl, rfl, hi, hj, hpre, hJp, hbw, hA, hB⟩ := hrel
    have hla := hra.1
    have hlb := hrb.1
    have hmx : Try.prog.follows .mixedOrders = true := by kernel_rfl
    gi_upto_region 1 with fail
    iterate 11 (first | go_values | gi_guarded | gi_step | gi_upon | gi_back)
    have gx : ((wr.alloc zo).alloc zo).heap[wr.heap.size]? = some zo := blk_alloc (heap_alloc_new _ _) _
    have gy : ((wr.alloc zo).alloc zo).heap[wr.heap.size + 1]? = some zo := by simpa using heap_alloc_new (wr.alloc zo) zo
    have gA := blk_alloc (blk_alloc hA zo) zo
    have gB := blk_alloc (blk_alloc hB zo) zo
    have hd : Below wr.heap.size wr ((wr.alloc zo).alloc zo) := zz wr
    have hJ' : ∀ W', Below wr.heap.size wr W' → J pre W' := fun W' h => hJ _ _ _ hJp (grow_of h)
    have g1 : Below w0.heap.size w0 ((wr.alloc zo).alloc zo) := (hbw.alloc hbw.size zo).alloc (by have := hbw.size; simp; omega) zo
    have hs := hbw.size
    have lA := blk_lt hA
    have lB := blk_lt hB
    generalize hW1 : (wr.alloc zo).alloc zo = W1 at gx gy gA gB hd g1 ⊢
    clear hW1 hJp hA hB hbw
    generalize wr.heap.size = bx at gx gy hs lA lB hd hJ' ⊢
    gi_cut [4, 5] from 8 (fun vi vj wc => ∃ (i' j' : Nat) (x y : S44), vi = .int .i64 i' ∧ vj = .int .i64 j' ∧ i' ≤ la.length ∧ j' ≤ lb.length ∧ i + j < i' + j' ∧ pre ++ (x, y) :: mp (la.drop i') (lb.drop j') = mp la lb ∧ J pre wc ∧ Below w0.heap.size w0 wc ∧ wc.heap[Ba]? = some (.cells #[.slice A la.length c] 22 (0, 0)) ∧ wc.heap[Bb]? = some (.cells #[.slice A' lb.length c'] 22 (0, 0)) ∧ wc.heap[bx]? = some (.cells (ac x) 44 (0, 0)) ∧ wc.heap[bx + 1]? = some (.cells (ac y) 44 (0, 0)))
    case first =>
      have cA : W1.cell? ⟨Ba, 0, none⟩ = some (.slice A la.length c) := (blk_cell gA 0).trans rfl
      have cB : W1.cell? ⟨Bb, 0, none⟩ = some (.slice A' lb.length c') := (blk_cell gB 0).trans rfl
      have x0 : W1.cell? ⟨bx, 0, none⟩ = some (.string ⟨#[]⟩) := (blk_cell gx 0).trans rfl
      have x1 : W1.cell? ⟨bx, 1, none⟩ = some (.int .i64 0) := (blk_cell gx 1).trans rfl
      have x2 : W1.cell? ⟨bx, 2, none⟩ = some (.int .i64 0) := (blk_cell gx 2).trans rfl
      have x3 : W1.cell? ⟨bx, 3, none⟩ = some (.string ⟨#[]⟩) := (blk_cell gx 3).trans rfl
      have x4 : W1.cell? ⟨bx, 4, none⟩ = some (.bool false) := (blk_cell gx 4).trans rfl
      have y0 : W1.cell? ⟨bx + 1, 0, none⟩ = some (.string ⟨#[]⟩) := (blk_cell gy 0).trans rfl
      have y1 : W1.cell? ⟨bx + 1, 1, none⟩ = some (.int .i64 0) := (blk_cell gy 1).trans rfl
      have y2 : W1.cell? ⟨bx + 1, 2, none⟩ = some (.int .i64 0) := (blk_cell gy 2).trans rfl
      have y3 : W1.cell? ⟨bx + 1, 3, none⟩ = some (.string ⟨#[]⟩) := (blk_cell gy 3).trans rfl
      have y4 : W1.cell? ⟨bx + 1, 4, none⟩ = some (.bool false) := (blk_cell gy 4).trans rfl
      have fx0 := blk_frozen gx 0
      have fx1 := blk_frozen gx 1
      have fx2 := blk_frozen gx 2
      have fx3 := blk_frozen gx 3
      have fx4 := blk_frozen gx 4
      have fy0 := blk_frozen gy 0
      have fy1 := blk_frozen gy 1
      have fy2 := blk_frozen gy 2
      have fy3 := blk_frozen gy 3
      have fy4 := blk_frozen gy 4
      by_cases ei : i = la.length
      · have bi : ((i : Int) == (la.length : Int)) = true := by simp [ei]
        have di : ((i : Int) < (la.length : Int)) = False := by simp [ei]
        by_cases ej : j = lb.length
        · have bj : ((j : Int) == (lb.length : Int)) = true := by simp [ej]
          gi_wp2
          simp only [Exit.noGoto_normal]
          go_end0
          have e0 : mp (la.drop i) (lb.drop j) = [] := by rw [ei, ej, List.drop_length, List.drop_length]; exact mp_nil
          rw [e0, List.append_nil] at hpre
          exact ⟨⟨_, rfl⟩, .inl ⟨_, hpre, hJ' _ hd⟩⟩
        · have bj : ((j : Int) == (lb.length : Int)) = false := by rw [beq_eq_false_iff_ne]; omega
          obtain ⟨ad', rfl, b0, b1, b2, b3, b4⟩ := hrb.2 j (lb[j]'(by omega)) (by simp)
          replace b0 := (g1.cell (World.block_lt_of_cell? w0 _ b0)).trans b0
          replace b1 := (g1.cell (World.block_lt_of_cell? w0 _ b1)).trans b1
          replace b2 := (g1.cell (World.block_lt_of_cell? w0 _ b2)).trans b2
          replace b3 := (g1.cell (World.block_lt_of_cell? w0 _ b3)).trans b3
          replace b4 := (g1.cell (World.block_lt_of_cell? w0 _ b4)).trans b4
          gi_wp2
          refine (wpIn_wide (n := n)).2 ?_
          go_quiet (fail)
          gi_wp2
          refine (wpIn_wide (n := n)).2 ?_
          go_quiet (fail)
          gi_wp2
          gi_meet
          case rel =>
            refine ⟨i, j + 1, z44, (lb[j]'(by omega)), by first | rfl | (simp; done) | (simp; omega), by first | rfl | (simp; done) | (simp; omega), by omega, by omega, by omega, ?_, hJ' _ (hd.trans ?hk), g1.trans (Below.mono ?hk hs), ((?hk : Below bx W1 _).block _ lA).trans gA, ((?hk : Below bx W1 _).block _ lB).trans gB, ?_, ?_⟩
            · rw [← hpre, drop_cons' (show j < lb.length by omega)]; rw [ei, List.drop_length, mp_right]
            case hk => exact st_below _ (dN_below _ _ _) (by omega)
            · exact (st_far _ (by omega)).trans gx
            · exact st_at _ gy
      · have bi : ((i : Int) == (la.length : Int)) = false := by rw [beq_eq_false_iff_ne]; omega
        have di : ((i : Int) < (la.length : Int)) = True := by simp; omega
        obtain ⟨ad, rfl, a0, a1, a2, a3, a4⟩ := hra.2 i (la[i]'(by omega)) (by simp)
        replace a0 := (g1.cell (World.block_lt_of_cell? w0 _ a0)).trans a0
        replace a1 := (g1.cell (World.block_lt_of_cell? w0 _ a1)).trans a1
        replace a2 := (g1.cell (World.block_lt_of_cell? w0 _ a2)).trans a2
        replace a3 := (g1.cell (World.block_lt_of_cell? w0 _ a3)).trans a3
        replace a4 := (g1.cell (World.block_lt_of_cell? w0 _ a4)).trans a4
        by_cases ej : j = lb.length
        · have bj : ((j : Int) == (lb.length : Int)) = true := by simp [ej]
          gi_wp2
          refine (wpIn_wide (n := n)).2 ?_
          go_quiet (fail)
          gi_wp2
          gi_meet
          case rel =>
            refine ⟨i + 1, j, (la[i]'(by omega)), z44, by first | rfl | (simp; done) | (simp; omega), by first | rfl | (simp; done) | (simp; omega), by omega, by omega, by omega, ?_, hJ' _ (hd.trans ?hk), g1.trans (Below.mono ?hk hs), ((?hk : Below bx W1 _).block _ lA).trans gA, ((?hk : Below bx W1 _).block _ lB).trans gB, ?_, ?_⟩
            · rw [← hpre, drop_cons' (show i < la.length by omega)]; rw [ej, List.drop_length, mp_left]
            case hk => exact st_below _ (dN_below _ _ _) (Nat.le_refl _)
            · exact st_at _ gx
            · exact (st_far _ (by omega)).trans gy
        · have bj : ((j : Int) == (lb.length : Int)) = false := by rw [beq_eq_false_iff_ne]; omega
          obtain ⟨ad', rfl, b0, b1, b2, b3, b4⟩ := hrb.2 j (lb[j]'(by omega)) (by simp)
          have nbl := World.block_lt_of_cell? w0 _ b0
          replace b0 := (g1.cell (World.block_lt_of_cell? w0 _ b0)).trans b0
          replace b1 := (g1.cell (World.block_lt_of_cell? w0 _ b1)).trans b1
          replace b2 := (g1.cell (World.block_lt_of_cell? w0 _ b2)).trans b2
          replace b3 := (g1.cell (World.block_lt_of_cell? w0 _ b3)).trans b3
          replace b4 := (g1.cell (World.block_lt_of_cell? w0 _ b4)).trans b4
          cases hab : Op.bytesLess (la[i]'(by omega)).f0.toList (lb[j]'(by omega)).f0.toList with
          | true =>
            gi_wp2
            refine (wpIn_wide (n := n)).2 ?_
            go_quiet (fail)
            gi_wp2
            gi_meet
            case rel =>
              refine ⟨i + 1, j, (la[i]'(by omega)), z44, by first | rfl | (simp; done) | (simp; omega), by first | rfl | (simp; done) | (simp; omega), by omega, by omega, by omega, ?_, hJ' _ (hd.trans ?hk), g1.trans (Below.mono ?hk hs), ((?hk : Below bx W1 _).block _ lA).trans gA, ((?hk : Below bx W1 _).block _ lB).trans gB, ?_, ?_⟩
              · rw [← hpre, drop_cons' (show i < la.length by omega), drop_cons' (show j < lb.length by omega)]; rw [mp_lt hab]
              case hk => exact st_below _ (dN_below _ _ _) (Nat.le_refl _)
              · exact st_at _ gx
              · exact (st_far _ (by omega)).trans gy
          | false =>
            cases hba : Op.bytesLess (lb[j]'(by omega)).f0.toList (la[i]'(by omega)).f0.toList with
            | true =>
              gi_wp2
              refine (wpIn_wide (n := n)).2 ?_
              go_quiet (fail)
              gi_wp2
              refine (wpIn_wide (n := n)).2 ?_
              go_quiet (fail)
              gi_wp2
              gi_meet
              case rel =>
                refine ⟨i, j + 1, z44, (lb[j]'(by omega)), by first | rfl | (simp; done) | (simp; omega), by first | rfl | (simp; done) | (simp; omega), by omega, by omega, by omega, ?_, hJ' _ (hd.trans ?hk), g1.trans (Below.mono ?hk hs), ((?hk : Below bx W1 _).block _ lA).trans gA, ((?hk : Below bx W1 _).block _ lB).trans gB, ?_, ?_⟩
                · rw [← hpre, drop_cons' (show i < la.length by omega), drop_cons' (show j < lb.length by omega)]; rw [mp_gt hab hba]
                case hk => exact st_below _ (dN_below _ _ _) (by omega)
                · exact (st_far _ (by omega)).trans gx
                · exact st_at _ gy
            | false =>
              gi_wp2
              refine (wpIn_wide (n := n)).2 ?_
              go_quiet (fail)
              gi_wp2
              refine (wpIn_wide (n := n)).2 ?_
              go_quiet (fail)
              gi_wp2
              have hjl : j < lb.length := by omega
              have hil : i < la.length := by omega
              have hbl : (ad'.add (j * 5)).block ≠ bx := by omega
              have p0 : ∀ m_ : Nat, ((((((W1.drewN m_).setCell ⟨bx, 0, none⟩ (.string la[i].f0)).setCell ⟨bx, 1, none⟩ (.int .i64 la[i].f1.f0)).setCell ⟨bx, 2, none⟩ (.int .i64 la[i].f1.f1)).setCell ⟨bx, 3, none⟩ (.string la[i].f2)).setCell ⟨bx, 4, none⟩ (.bool la[i].f3)).cell? (ad'.add (j * 5)) = some (.string lb[j].f0) := fun m_ => st_cell (p := (ad'.add (j * 5))) (la[i]'hil) hbl b0
              have p1 : ∀ m_ : Nat, ((((((W1.drewN m_).setCell ⟨bx, 0, none⟩ (.string la[i].f0)).setCell ⟨bx, 1, none⟩ (.int .i64 la[i].f1.f0)).setCell ⟨bx, 2, none⟩ (.int .i64 la[i].f1.f1)).setCell ⟨bx, 3, none⟩ (.string la[i].f2)).setCell ⟨bx, 4, none⟩ (.bool la[i].f3)).cell? ⟨(ad'.add (j * 5)).block, (ad'.add (j * 5)).off + 1, none⟩ = some (.int .i64 lb[j].f1.f0) := fun m_ => st_cell (p := ⟨(ad'.add (j * 5)).block, (ad'.add (j * 5)).off + 1, none⟩) (la[i]'hil) hbl b1
              have p2 : ∀ m_ : Nat, ((((((W1.drewN m_).setCell ⟨bx, 0, none⟩ (.string la[i].f0)).setCell ⟨bx, 1, none⟩ (.int .i64 la[i].f1.f0)).setCell ⟨bx, 2, none⟩ (.int .i64 la[i].f1.f1)).setCell ⟨bx, 3, none⟩ (.string la[i].f2)).setCell ⟨bx, 4, none⟩ (.bool la[i].f3)).cell? ⟨(ad'.add (j * 5)).block, (ad'.add (j * 5)).off + 2, none⟩ = some (.int .i64 lb[j].f1.f1) := fun m_ => st_cell (p := ⟨(ad'.add (j * 5)).block, (ad'.add (j * 5)).off + 2, none⟩) (la[i]'hil) hbl b2
              have p3 : ∀ m_ : Nat, ((((((W1.drewN m_).setCell ⟨bx, 0, none⟩ (.string la[i].f0)).setCell ⟨bx, 1, none⟩ (.int .i64 la[i].f1.f0)).setCell ⟨bx, 2, none⟩ (.int .i64 la[i].f1.f1)).setCell ⟨bx, 3, none⟩ (.string la[i].f2)).setCell ⟨bx, 4, none⟩ (.bool la[i].f3)).cell? ⟨(ad'.add (j * 5)).block, (ad'.add (j * 5)).off + 3, none⟩ = some (.string lb[j].f2) := fun m_ => st_cell (p := ⟨(ad'.add (j * 5)).block, (ad'.add (j * 5)).off + 3, none⟩) (la[i]'hil) hbl b3
              have p4 : ∀ m_ : Nat, ((((((W1.drewN m_).setCell ⟨bx, 0, none⟩ (.string la[i].f0)).setCell ⟨bx, 1, none⟩ (.int .i64 la[i].f1.f0)).setCell ⟨bx, 2, none⟩ (.int .i64 la[i].f1.f1)).setCell ⟨bx, 3, none⟩ (.string la[i].f2)).setCell ⟨bx, 4, none⟩ (.bool la[i].f3)).cell? ⟨(ad'.add (j * 5)).block, (ad'.add (j * 5)).off + 4, none⟩ = some (.bool lb[j].f3) := fun m_ => st_cell (p := ⟨(ad'.add (j * 5)).block, (ad'.add (j * 5)).off + 4, none⟩) (la[i]'hil) hbl b4
              refine (wpIn_wide (n := n)).2 ?_
              go_region
              all_goals gi_wp2
              all_goals gi_meet
              all_goals
                refine ⟨i + 1, j + 1, (la[i]'hil), (lb[j]'hjl), by first | rfl | (simp; done) | (simp; omega), by first | rfl | (simp; done) | (simp; omega), by omega, by omega, by omega, ?_, hJ' _ (hd.trans ?hk), g1.trans (Below.mono ?hk hs), ((?hk : Below bx W1 _).block _ lA).trans gA, ((?hk : Below bx W1 _).block _ lB).trans gB, ?_, ?_⟩
                · rw [← hpre, drop_cons' hil, drop_cons' hjl, mp_eq hab hba]
                case hk => exact st_below _ (st_below _ (dN_below _ _ _) (Nat.le_refl _)) (by omega)
                · exact (st_far _ (by omega)).trans (st_at _ gx)
                · exact st_at _ ((st_far _ (by omega)).trans gy)
    case rest =>
      obtain ⟨i', j', x, y, rfl, rfl, hi', hj', hlt, hpre', hJc, hbc, hA, hB, hx, hy⟩ := hcut
      obtain ⟨fn, tmps, assign, body, hyy, hR⟩ := hY pre (x, y) wc hJc (by have := congrArg List.length hpre'; simp at this; omega)
      have hR2 := hR.mono (R' := fun e w' => ∃ b : Bool, e = .returned (.bool b) ∧ Aside0 ((b = true → J (pre ++ [(x, y)]) w' ∧ Below w0.heap.size wc w' ∧ w'.heap[Ba]? = wc.heap[Ba]? ∧ w'.heap[Bb]? = wc.heap[Bb]?) ∧ (b = false → Jx (pre ++ [(x, y)]) w'))) (by
        rintro e w' (⟨rfl, hd⟩ | ⟨rfl, hd⟩)
        · exact ⟨true, rfl, Aside0.mk (And.intro (fun _ => hd) (fun h => Bool.noConfusion h))⟩
        · exact ⟨false, rfl, Aside0.mk (And.intro (fun h => Bool.noConfusion h) (fun _ => hd))⟩)
      clear hR
      have x0 : wc.cell? ⟨bx, 0, none⟩ = some (.string x.f0) := (blk_cell hx 0).trans rfl
      have x1 : wc.cell? ⟨bx, 1, none⟩ = some (.int .i64 x.f1.f0) := (blk_cell hx 1).trans rfl
      have x2 : wc.cell? ⟨bx, 2, none⟩ = some (.int .i64 x.f1.f1) := (blk_cell hx 2).trans rfl
      have x3 : wc.cell? ⟨bx, 3, none⟩ = some (.string x.f2) := (blk_cell hx 3).trans rfl
      have x4 : wc.cell? ⟨bx, 4, none⟩ = some (.bool x.f3) := (blk_cell hx 4).trans rfl
      have y0 : wc.cell? ⟨bx + 1, 0, none⟩ = some (.string y.f0) := (blk_cell hy 0).trans rfl
      have y1 : wc.cell? ⟨bx + 1, 1, none⟩ = some (.int .i64 y.f1.f0) := (blk_cell hy 1).trans rfl
      have y2 : wc.cell? ⟨bx + 1, 2, none⟩ = some (.int .i64 y.f1.f1) := (blk_cell hy 2).trans rfl
      have y3 : wc.cell? ⟨bx + 1, 3, none⟩ = some (.string y.f2) := (blk_cell hy 3).trans rfl
      have y4 : wc.cell? ⟨bx + 1, 4, none⟩ = some (.bool y.f3) := (blk_cell hy 4).trans rfl
      gi_wp2
      refine hR2.mono ?_
      rintro e W3 ⟨b, rfl, hd'⟩
      gi_wp2
      all_goals
        first
        | (have hbf : b = false := by have h_ : (!b) = true := by assumption
                                      simpa using h_
           simp only [Exit.noGoto_ret]
           refine bodyPost_ret (results_none rfl _ _ _) rfl ?_
           exact ⟨⟨_, rfl⟩, .inr ⟨_, ⟨mp (la.drop i') (lb.drop j'), by rw [← hpre']; simp⟩, hd'.out.2 hbf⟩⟩)
        | (have hbt : b = true := by have h_ : (!b) = false := by assumption
                                     simpa using h_
           obtain ⟨j1, j2, j3, j4⟩ := hd'.out.1 hbt
           refine ⟨⟨i', j', pre ++ [(x, y)], rfl, rfl, hi', hj', by rw [← hpre']; simp, j1, hbc.trans j2, j3.trans hA, j4.trans hB⟩, by simp [intOf]; omega⟩)
theorem pairs_in (n : Nat) (A A' : Option Addr) (m c m' c' : Nat) (w : World) :
    CallsIn Fence.wide n Try.prog 42 #[.slice A m c, .slice A' m' c'] w fun e w' => e = .returned (.func (.func 53) #[] #[.pointer (some ⟨w.heap.size, 0, none⟩), .pointer (some ⟨w.heap.size + 1, 0, none⟩)]) ∧ w' = (w.alloc (.cells #[.slice A m c] 22)).alloc (.cells #[.slice A' m' c'] 22) := by
  refine callsIn_of_wp Try.func42 rfl trivial ?_ rfl
  simp only [Try.ntmps42, List.size_toArray, List.length_cons, List.length_nil, Nat.reduceAdd, Nat.reduceSub, Array.replicate_succ, Array.replicate_zero, List.push_toArray, List.append_toArray, List.nil_append, List.cons_append]
  gi_wp2
  go_ret
  first | exact ⟨rfl, rfl⟩ | exact ⟨by simp, rfl⟩
/-- What a round must keep. -/
def Kp (B0 Ba Bb : Nat) (W W' : World) : Prop := Below B0 W W' ∧ W'.heap[Ba]? = W.heap[Ba]? ∧ W'.heap[Bb]? = W.heap[Bb]?
theorem Kp.t {B0 Ba Bb : Nat} {X Y Z : World} (h : Kp B0 Ba Bb X Y) (k : Kp B0 Ba Bb Y Z) : Kp B0 Ba Bb X Z := ⟨h.1.trans k.1, k.2.1.trans h.2.1, k.2.2.trans h.2.2⟩
theorem Kp.r (B0 Ba Bb : Nat) (W : World) : Kp B0 Ba Bb W W := ⟨Below.refl _ _, rfl, rfl⟩
theorem Kp.b {B0 Ba Bb : Nat} {w : World} (h0 : B0 ≤ w.heap.size) (hBa : Ba < w.heap.size) (hBb : Bb < w.heap.size) (W : World) (l : Nat) (o o' : Obj) (hl : w.heap.size ≤ l) (h : W.heap[l]? = some o) (h1 : o.isCells = false) (h2 : o.isWalk = false) : Kp B0 Ba Bb W (W.putObj l o') :=
  ⟨belowK_b h0 W l o o' hl h h1 h2, World.putObj_heap_other (by omega), World.putObj_heap_other (by omega)⟩
theorem pairs_stops (n : Nat) (hn : 1 ≤ n) (Ba Bb : Nat) (w0 w : World) (A A' : Option Addr) (c c' : Nat) (la lb : List S44) (hra : Row w0 A la) (hrb : Row w0 A' lb) (hb : Below w0.heap.size w0 w) (hBa : w.heap[Ba]? = some (.cells #[.slice A la.length c] 22 (0, 0))) (hBb : w.heap[Bb]? = some (.cells #[.slice A' lb.length c'] 22 (0, 0))) :
    SeqStopsK Fence.wide n Try.prog 53 #[.pointer (some ⟨Ba, 0, none⟩), .pointer (some ⟨Bb, 0, none⟩)] (fun x : S44 × S44 => #[av x.1, av x.2]) (Kp w0.heap.size Ba Bb) (fun ys => ys = mp la lb) (fun pre => pre <+: mp la lb) (mp la lb).length w := fun l J Jx W hW hJ _ hY h0 =>
  pairs1_in n hn l Ba Bb w0 A A' c c' la lb hra hrb J Jx (fun s W W' h g => hJ s W W' none h g (fun r e => by cases e)) hY W (hb.trans (hW.mono hb.size)) ((hW.block Ba (blk_lt hBa)).trans hBa) ((hW.block Bb (blk_lt hBb)).trans hBb) h0
end Go.Proofs.Ytghlellambnkeaa.MergeW
