-- By wip/late.py (a program of this session) out of wip/words.
import Derived.Test.YtgdhgamolenfgaaProg
import Derived.Test.YtgdhgamolenfgaaWWords
import Derived.Test.YtgdhgamolenfgaaWLast
import Derived.Test.YtgdhgamolenfgaaWMore
import Derived.Test.YtgdhgamolenfgaaPAllx0
import Derived.RangeFuncNested
import Derived.RangeFuncLeaves
import Derived.Shelf.Abstract
import Derived.Shelf.RegionOpen
import Derived.WalkKit
import Derived.OwnWalkIn
import Derived.TacticsInMore
import Derived.LoopNIn
import Derived.LoopIn
import Derived.BigFrameIn
import Derived.Test.YtgdhgamolenfgaaSEmpties
set_option linter.unusedVariables false
set_option linter.unusedSimpArgs false
namespace Go.Proofs.Ytgdhgamolenfgaa.Tiles
open Go.RowKit Go.Shelf Go.Proofs.YtgdhgamolenfgaaW.PrintWords Go.Proofs.Ytgdhgamolenfgaa.PAll
attribute [local go_sem] Oper.semAt_some
abbrev av (r : S23) : Value := .agg #[.string r.f0, .string r.f1, .bool r.f2]
/-- A row of ranges, in memory. -/
def Row (w : World) (A : Option Addr) (l : List S23) : Prop :=
  l.length ≤ 9223372036854775807 ∧ ∀ i r, l[i]? = some r → ∃ ad, A = some ad ∧ w.cell? (ad.add (i * 3)) = some (.string r.f0) ∧ w.cell? ⟨(ad.add (i * 3)).block, (ad.add (i * 3)).off + 1, none⟩ = some (.string r.f1) ∧ w.cell? ⟨(ad.add (i * 3)).block, (ad.add (i * 3)).off + 2, none⟩ = some (.bool r.f2)
theorem row_of {w : World} {A : Option Addr} {l : List S23} (h : Kd.C k23 w A l.length l) : Row w A l := by
  refine ⟨h.2.1, fun i r hr => ?_⟩
  have hi : i < l.length := (List.getElem?_eq_some_iff.1 hr).1
  obtain ⟨ad, e, h0, h1, h2⟩ := at_T23 h (i : Int) (by omega) (by omega)
  have er : rd_T23 l (i : Int) = r := by
    unfold rd_T23
    rw [Int.toNat_natCast, List.getD_eq_getElem?_getD, hr]; rfl
  rw [er, Int.toNat_natCast] at h0 h1 h2
  exact ⟨ad, e, h0, h1, h2⟩
def nxt (l : List S23) : List (S23 × S23) := l.zip (l.drop 1)
theorem nxt_length (l : List S23) : (nxt l).length = l.length - 1 := by simp [nxt]
theorem take_nxt {l : List S23} (k : Nat) (h : k + 1 < l.length) : (nxt l).take (k + 1) = (nxt l).take k ++ [(l[k]'(by omega), l[k+1]'h)] := by
  rw [List.take_succ_eq_append_getElem (by rw [nxt_length]; omega)]
  congr 1
  simp [nxt]
theorem pre_nxt {l : List S23} (k : Nat) (h : k + 1 < l.length) : (nxt l).take k ++ [(l[k]'(by omega), l[k+1]'h)] <+: nxt l := by rw [← take_nxt k h]; exact List.take_prefix _ _
theorem all_nxt (l : List S23) : (nxt l).take (l.length - 1) = nxt l := List.take_of_length_le (by rw [nxt_length]; omega)
set_option maxRecDepth 100000 in
set_option maxHeartbeats 2000000 in
theorem pairs1_in (n : Nat) (hn : 1 ≤ n) (l B : Nat) (w0 : World) (A : Option Addr) (c : Nat) (ls : List S23) (hrow : Row w0 A ls) (J Jx : List (S23 × S23) → World → Prop) (hJ : ∀ s W, J s W → J s W.drew)
    (hY : ∀ pre x W, J pre W → pre.length < ls.length - 1 → YieldAt Fence.wide (n - 1) Try.prog l #[av x.1, av x.2] W fun e W' =>
      (e = .returned (.bool true) ∧ J (pre ++ [x]) W' ∧ Below w0.heap.size W W' ∧ W'.heap[B]? = W.heap[B]?) ∨ (e = .returned (.bool false) ∧ Jx (pre ++ [x]) W'))
    (W : World) (hb : Below w0.heap.size w0 W) (hB : W.heap[B]? = some (.cells #[.slice A ls.length c] 30 (0, 0))) (h0 : J [] W) :
    CallsIn Fence.wide n Try.prog 44 #[.func (.yield l) #[] #[], .pointer (some ⟨B, 0, none⟩)] W fun e W' => (∃ v, e = .returned v) ∧
      ((∃ ys, ys = nxt ls ∧ J ys W') ∨ (∃ pre, pre <+: nxt ls ∧ Jx pre W')) := by
  refine callsIn_of_wp Try.func44 rfl trivial ?_ rfl
  simp only [Try.ntmps44, List.size_toArray, List.length_cons, List.length_nil, Nat.reduceAdd, Nat.reduceSub, Array.replicate_succ, Array.replicate_zero, List.push_toArray, List.append_toArray, List.nil_append, List.cons_append]
  gi_wp2
  gi_loopw [3] (fun i wr => ∃ k : Nat, i = .int .i64 (k + 1) ∧ k ≤ ls.length - 1 ∧ J ((nxt ls).take k) wr ∧ Below w0.heap.size w0 wr ∧ wr.heap[B]? = some (.cells #[.slice A ls.length c] 30 (0, 0))) (fun i wr => ls.length - (intOf i).toNat)
  case atStart => exact ⟨0, by simp, by omega, by simpa using h0, hb, hB⟩
  case round =>
    obtain ⟨k, rfl, hk, hJk, hbk, hBk⟩ := hrel
    have hcB := blk_cell hBk 0
    have hl := hrow.1
    by_cases hlt : (k : Int) + 1 < (ls.length : Int)
    · have hk1 : k + 1 < ls.length := by omega
      obtain ⟨ad, rfl, a0, a1, a2⟩ := hrow.2 k (ls[k]'(by omega)) (by simp)
      obtain ⟨ad', e', b0, b1, b2⟩ := hrow.2 (k + 1) (ls[k+1]'(by omega)) (by simp)
      cases e'
      obtain ⟨fn, tmps, assign, body, hy, hR⟩ := hY _ (ls[k]'(by omega), ls[k+1]'hk1) wr.drew (hJ _ _ hJk) (by simp [nxt]; omega)
      have hmx : Try.prog.follows .mixedOrders = true := by kernel_rfl
      have e1 : IntKind.i64.wrap (k:Int) = k := IntWalk.i64_in _ (by omega)
      replace a0 := (hbk.cell (World.block_lt_of_cell? w0 _ a0)).trans a0
      replace a1 := (hbk.cell (World.block_lt_of_cell? w0 _ a1)).trans a1
      replace a2 := (hbk.cell (World.block_lt_of_cell? w0 _ a2)).trans a2
      replace b0 := (hbk.cell (World.block_lt_of_cell? w0 _ b0)).trans b0
      replace b1 := (hbk.cell (World.block_lt_of_cell? w0 _ b1)).trans b1
      replace b2 := (hbk.cell (World.block_lt_of_cell? w0 _ b2)).trans b2
      have f1 : (0:Int) ≤ (k:Int) := by omega
      have f2 : (k:Int) < ls.length := by omega
      have e2 : ((k:Int)+1).toNat = k + 1 := by omega
      have hR2 := hR.mono (R' := fun e w' => ∃ b : Bool, e = .returned (.bool b) ∧ Aside0 ((b = true → J ((nxt ls).take k ++ [(ls[k]'(by omega), ls[k+1]'hk1)]) w' ∧ Below w0.heap.size wr.drew w' ∧ w'.heap[B]? = wr.drew.heap[B]?) ∧ (b = false → Jx ((nxt ls).take k ++ [(ls[k]'(by omega), ls[k+1]'hk1)]) w'))) (by
        rintro e w' (⟨rfl, hd⟩ | ⟨rfl, hd⟩)
        · exact ⟨true, rfl, Aside0.mk (And.intro (fun _ => hd) (fun h => Bool.noConfusion h))⟩
        · exact ⟨false, rfl, Aside0.mk (And.intro (fun h => Bool.noConfusion h) (fun _ => hd))⟩)
      clear hR
      gi_wp2
      gi_region_with_o (refine hR2.mono ?_; rintro e W3 ⟨b, rfl, hd⟩)
      all_goals gi_wp2
      all_goals
        first
        | (have hbf : b = false := by have h_ : (!b) = true := by assumption
                                      simpa using h_
           refine bodyPost_ret (results_none rfl _ _ _) rfl ?_
           exact ⟨⟨_, rfl⟩, .inr ⟨_, pre_nxt k hk1, hd.out.2 hbf⟩⟩)
        | (have hbt : b = true := by have h_ : (!b) = false := by assumption
                                     simpa using h_
           obtain ⟨j1, j2, j3⟩ := hd.out.1 hbt
           refine ⟨⟨k + 1, by simp, by omega, by rw [take_nxt k hk1]; exact j1, hbk.drew.trans j2, j3.trans hBk⟩, by simp [intOf]; omega⟩)
    · gi_wp2
      go_end0
      have hk2 : k = ls.length - 1 := by omega
      rw [hk2, all_nxt] at hJk
      first | exact ⟨⟨_, rfl⟩, .inl hJk⟩ | exact ⟨⟨_, rfl⟩, .inl ⟨_, rfl, hJk⟩⟩
theorem pairs_in (n : Nat) (A : Option Addr) (m c : Nat) (w : World) :
    CallsIn Fence.wide n Try.prog 40 #[.slice A m c] w fun e w' => e = .returned (.func (.func 44) #[] #[.pointer (some ⟨w.heap.size, 0, none⟩)]) ∧ w' = w.alloc (.cells #[.slice A m c] 30) := by
  refine callsIn_of_wp Try.func40 rfl trivial ?_ rfl
  simp only [Try.ntmps40, List.size_toArray, List.length_cons, List.length_nil, Nat.reduceAdd, Nat.reduceSub, Array.replicate_succ, Array.replicate_zero, List.push_toArray, List.append_toArray, List.nil_append, List.cons_append]
  gi_wp2
  go_ret
  exact ⟨rfl, rfl⟩
/-- What a round must keep. -/
def Kp (B0 B : Nat) (W W' : World) : Prop := Below B0 W W' ∧ W'.heap[B]? = W.heap[B]?
theorem Kp.t {B0 B : Nat} {X Y Z : World} (h : Kp B0 B X Y) (k : Kp B0 B Y Z) : Kp B0 B X Z := ⟨h.1.trans k.1, k.2.trans h.2⟩
theorem Kp.r (B0 B : Nat) (W : World) : Kp B0 B W W := ⟨Below.refl _ _, rfl⟩
theorem Kp.b {B0 B : Nat} {w : World} (h0 : B0 ≤ w.heap.size) (hB : B < w.heap.size) (W : World) (l : Nat) (o o' : Obj) (hl : w.heap.size ≤ l) (h : W.heap[l]? = some o) (h1 : o.isCells = false) (h2 : o.isWalk = false) : Kp B0 B W (W.putObj l o') :=
  ⟨belowK_b h0 W l o o' hl h h1 h2, World.putObj_heap_other (by omega)⟩
theorem pairs_stops (n : Nat) (hn : 1 ≤ n) (B : Nat) (w0 w : World) (A : Option Addr) (c : Nat) (ls : List S23) (hrow : Row w0 A ls) (hb : Below w0.heap.size w0 w) (hB : w.heap[B]? = some (.cells #[.slice A ls.length c] 30 (0, 0))) :
    SeqStopsK Fence.wide n Try.prog 44 #[.pointer (some ⟨B, 0, none⟩)] (fun x : S23 × S23 => #[av x.1, av x.2]) (Kp w0.heap.size B) (fun ys => ys = nxt ls) (fun pre => pre <+: nxt ls) (ls.length - 1) w := fun l J Jx W hW hJ _ hY h0 =>
  pairs1_in n hn l B w0 A c ls hrow J Jx (fun s W h => hJ s W _ none h ⟨rfl, rfl, rfl, Nat.le_refl _, fun _ _ _ => rfl⟩ (fun r e => by cases e)) hY W (hb.trans (hW.mono hb.size)) ((hW.block B (blk_lt hB)).trans hB) h0

end Go.Proofs.Ytgdhgamolenfgaa.Tiles
