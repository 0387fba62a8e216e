import Derived.Test.YtodmbjbfigifnaaDoorProg
import Derived.Test.YtodmbjbfigifnaaDoorWWords
import Derived.Test.YtodmbjbfigifnaaDoorWLast
import Derived.Test.YtodmbjbfigifnaaDoorWMore
import Derived.Test.YtodmbjbfigifnaaDoorPAllx1
import Derived.Test.YtodmbjbfigifnaaDoorMgP
import Derived.Below
import Derived.RangeFuncBox
import Derived.BigQuiet
import Derived.Deep.QuietTactic
import Derived.Lib.Hide
import Derived.Tactics
import Derived.WalkKit
import Derived.OwnWalk
import Derived.BigRegion
import Derived.RegionTactic
import Derived.Deep.RegionWith
import Derived.Deep.RegionHeld
import Derived.Deep.RegionHeld3
import Derived.WalkSmall
import Derived.WalkLawsBesides
import Derived.Laws.Slices
import Derived.Test.YtodmbjbfigifnaaDoorRows
import Derived.Test.YtodmbjbfigifnaaDoorCards
import Derived.Test.YtodmbjbfigifnaaDoorTie
import Derived.ProofKit
import Derived.OpenShut
import Derived.ShutString
import Derived.ChangeOld
import Derived.SizedLaws
import Derived.Carry
import Derived.LaidMore
import Derived.Lay
import Derived.Lib.LaidTab
import Derived.Stop.LaidErr
import Derived.Stop.Joined
import Derived.SevenTiedAt
section
-- By wip/late.py (a program of this session) out of wip/words.
set_option linter.unusedVariables false
set_option linter.unusedSimpArgs false
namespace Go.Proofs.YtodmbjbfigifnaaDoor.Sc
open Go.RowKit Go.Proofs.YtodmbjbfigifnaaDoor.Glob Go.Proofs.YtodmbjbfigifnaaDoor.Dig Go.Proofs.YtodmbjbfigifnaaDoorW.PrintWords Go.Proofs.YtodmbjbfigifnaaDoor.PAll Go.Proofs.YtodmbjbfigifnaaDoor.Pure
/-! script.Print, walked. -/
theorem op_ext {a b : OpT} (h0 : a.f0 = b.f0) (h1 : a.f1 = b.f1) (h2 : a.f2 = b.f2) (h3 : a.f3 = b.f3) (h4 : a.f4 = b.f4) (h5 : a.f5 = b.f5) (h6 : a.f6.f0 = b.f6.f0) (h7 : a.f6.f1 = b.f6.f1) (h8 : a.f6.f2 = b.f6.f2) : a = b := by
  obtain ⟨a0, a1, a2, a3, a4, a5, ⟨a6, a7, a8⟩⟩ := a
  obtain ⟨b0, b1, b2, b3, b4, b5, ⟨b6, b7, b8⟩⟩ := b
  simp only at h0 h1 h2 h3 h4 h5 h6 h7 h8
  subst h0 h1 h2 h3 h4 h5 h6 h7 h8
  rfl
theorem op_diff {a b : OpT} (h : a ≠ b) (d : Nat) (w : World) : (Op.equalIn (d + 3) 31 (.agg #[.int .i64 a.f0, .int .i64 a.f1, .int .i64 a.f2, .int .i64 a.f3, .string a.f4, .string a.f5, .string a.f6.f0, .string a.f6.f1, .bool a.f6.f2]) (.agg #[.int .i64 b.f0, .int .i64 b.f1, .int .i64 b.f2, .int .i64 b.f3, .string b.f4, .string b.f5, .string b.f6.f0, .string b.f6.f1, .bool b.f6.f2])).run Tryd.prog w = .ok false w := by
  rw [eqA31]
  refine congrArg (fun x => Result.ok x w) (Bool.eq_false_iff.2 fun e => h ?_)
  simp only [Bool.and_eq_true, beq_iff_eq] at e
  obtain ⟨e0, e1, e2, e3, e4, e5, e6, e7, e8⟩ := e
  exact op_ext e0 e1 e2 e3 (ba_eq.1 e4) (ba_eq.1 e5) (ba_eq.1 e6) (ba_eq.1 e7) e8
theorem op_same (a : OpT) (d : Nat) (w : World) : (Op.equalIn (d + 3) 31 (.agg #[.int .i64 a.f0, .int .i64 a.f1, .int .i64 a.f2, .int .i64 a.f3, .string a.f4, .string a.f5, .string a.f6.f0, .string a.f6.f1, .bool a.f6.f2]) (.agg #[.int .i64 a.f0, .int .i64 a.f1, .int .i64 a.f2, .int .i64 a.f3, .string a.f4, .string a.f5, .string a.f6.f0, .string a.f6.f1, .bool a.f6.f2])).run Tryd.prog w = .ok true w := by
  rw [eqA31]
  simp only [beq_self_eq_true, Bool.and_self]
/-- A command in a box: its cells. -/
theorem op_cells {W : World} {b : Nat} {o : OpT} (h : W.heap[b]? = some (.cells (opA o) 31 (0, 0))) : W.cell? ⟨b, 0, none⟩ = some (.int .i64 o.f0) ∧ W.cell? ⟨b, 1, none⟩ = some (.int .i64 o.f1) ∧ W.cell? ⟨b, 2, none⟩ = some (.int .i64 o.f2) ∧ W.cell? ⟨b, 3, none⟩ = some (.int .i64 o.f3) ∧ W.cell? ⟨b, 4, none⟩ = some (.string o.f4) ∧ W.cell? ⟨b, 5, none⟩ = some (.string o.f5) ∧ W.cell? ⟨b, 6, none⟩ = some (.string o.f6.f0) ∧ W.cell? ⟨b, 7, none⟩ = some (.string o.f6.f1) ∧ W.cell? ⟨b, 8, none⟩ = some (.bool o.f6.f2) :=
  ⟨(blk_cell h 0).trans rfl, (blk_cell h 1).trans rfl, (blk_cell h 2).trans rfl, (blk_cell h 3).trans rfl, (blk_cell h 4).trans rfl, (blk_cell h 5).trans rfl, (blk_cell h 6).trans rfl, (blk_cell h 7).trans rfl, (blk_cell h 8).trans rfl⟩
theorem printV_none {o : OpT} (h4 : ¬ 400 < o.f4.size) (h5 : ¬ 400 < o.f5.size) (h : wsV o = none) : printV o = (⟨#[]⟩, 210) := by
  unfold printV
  rw [if_neg h4, if_neg h5, h]
open Classical in
theorem printV_some {o : OpT} {ws : List ByteArray} (h4 : ¬ 400 < o.f4.size) (h5 : ¬ 400 < o.f5.size) (h : wsV o = some ws) : printV o = if (ansW (joinB ws)).2 = 0 ∧ (ansW (joinB ws)).1 = o then (joinB ws, 0) else (⟨#[]⟩, 210) := by
  unfold printV
  rw [if_neg h4, if_neg h5, h]
theorem dg_size {n : Int} (h : n ≤ 9223372036854775807) : (dg n).size ≤ 20 := by
  show (Lib.decDigits (max n 0).toNat).toArray.size ≤ _
  rw [List.size_toArray, Lib.decDigits_length]
  have := nDigits_pow 19 (max n 0).toNat (by omega)
  omega
theorem rng_size (o : OpT) : (rngT o).size ≤ 100 := by
  unfold rngT prtV
  split
  · rename_i h
    obtain ⟨h1, h2⟩ := rgE_sizes h
    have s1 := hexB_size o.f6.f0
    have s2 := hexB_size o.f6.f1
    split
    · show (hexB o.f6.f0 ++ (⟨#[46, 46, 42]⟩ : ByteArray)).size ≤ 100
      rw [ByteArray.size_append]
      show (hexB o.f6.f0).size + 3 ≤ 100
      omega
    · show (hexB o.f6.f0 ++ (⟨#[46, 46]⟩ : ByteArray) ++ hexB o.f6.f1).size ≤ 100
      rw [ByteArray.size_append, ByteArray.size_append]
      show (hexB o.f6.f0).size + 2 + (hexB o.f6.f1).size ≤ 100
      omega
  · exact Nat.zero_le _
theorem join_len : ∀ (xs : List (List UInt8)) (c : UInt8) (m : Nat), (∀ x ∈ xs, x.length ≤ m) → (Lib.join xs [c]).length ≤ xs.length * (m + 1)
  | [], c, m, _ => by rw [Lib.join_nil]; exact Nat.zero_le _
  | x :: r, c, m, h => by
    rw [Lib.join_cons, List.length_append, Lib.joinTail_length]
    have hl : ∀ l : List (List UInt8), (∀ y ∈ l, y.length ≤ m) → Lib.lens l ≤ l.length * m := by
      intro l
      induction l with
      | nil => intro _; exact Nat.zero_le _
      | cons y l ih =>
        intro hy
        have := ih (fun z hz => hy z (List.mem_cons_of_mem _ hz))
        have hy0 := hy y (List.mem_cons_self ..)
        unfold Lib.lens at this ⊢
        rw [List.map_cons, List.sum_cons, List.length_cons, Nat.succ_mul]
        omega
    have h1 := hl r (fun y hy => h y (List.mem_cons_of_mem _ hy))
    have h2 := h x (List.mem_cons_self ..)
    have e1 : ([c] : List UInt8).length = 1 := rfl
    have e2 : (x :: r).length = r.length + 1 := rfl
    rw [e1, e2, Nat.one_mul, Nat.succ_mul, Nat.mul_succ]
    omega
def ShortW (r : Option (List ByteArray)) : Prop := ∀ ws, r = some ws → ws.length ≤ 4 ∧ ∀ x ∈ ws, x.size ≤ 1000
theorem ite_short {c : Prop} [Decidable c] {x y : Option (List ByteArray)} (hx : ShortW x) (hy : ShortW y) : ShortW (if c then x else y) := by
  split
  · exact hx
  · exact hy
theorem none_short : ShortW none := fun _ h => by cases h
theorem some_short {ws : List ByteArray} (h1 : ws.length ≤ 4) (h2 : ∀ x ∈ ws, x.size ≤ 1000) : ShortW (some ws) := by
  intro ws' h
  obtain rfl := Option.some.inj h
  exact ⟨h1, h2⟩
theorem ws_short {o : OpT} (hB : OpB o) (h4 : ¬ 400 < o.f4.size) (h5 : ¬ 400 < o.f5.size) {ws : List ByteArray} (h : wsV o = some ws) : ws.length ≤ 4 ∧ ∀ x ∈ ws, x.data.toList.length ≤ 1000 := by
  have k1 : (keyT o).size ≤ 1000 := by unfold keyT; rw [ByteArray.size_append, hexB_size]; show 1 + _ ≤ _; omega
  have k2 : (valT o).size ≤ 1000 := by unfold valT; rw [ByteArray.size_append, hexB_size]; show 1 + _ ≤ _; omega
  have k3 := rng_size o
  have d1 := dg_size hB.n
  have d2 := dg_size hB.p
  have d3 := dg_size hB.i
  have c1 : ∀ x : ByteArray, x.data.toList.length = x.size := fun x => Array.length_toList
  have hx : ShortW (wsV o) := by
    unfold wsV
    repeat' (refine ite_short ?_ ?_)
    all_goals first
      | exact none_short
      | (refine some_short (by simp) ?_
         simp only [List.forall_mem_cons, List.not_mem_nil, false_implies, implies_true, and_true]
         (repeat' apply And.intro) <;> first | omega | decide)
  obtain ⟨h1, h2⟩ := hx ws h
  exact ⟨h1, fun x hx => by rw [c1]; exact h2 x hx⟩
theorem join_calls (g : Nat) (ws : List ByteArray) (w : World) (h : w.heap[g]? = some (.cells (sv ws).toArray 9 (0, 0))) (hl : ws.length ≤ 4) (hs : ∀ x ∈ ws, x.data.toList.length ≤ 1000) :
    Calls Tryd.prog 21 #[.slice (some ⟨g, 0, none⟩) ws.length ws.length, .string ⟨#[32]⟩] w fun e w' => e = .returned (.string (joinB ws)) ∧ Below w.heap.size w w' := by
  have hj := join_len (ws.map (fun x => x.data.toList)) 32 1000 (by
    intro x hx
    obtain ⟨y, hy, rfl⟩ := List.mem_map.1 hx
    exact hs y hy)
  rw [List.length_map] at hj
  have hj2 : ws.length * (1000 + 1) ≤ 4 * (1000 + 1) := Nat.mul_le_mul_right _ hl
  refine Tryd.strings_Join g 0 ws.length ws ⟨#[32]⟩ w ?_ (blk_lt h) (by omega) (Nat.le_refl _) (Nat.le_trans hj (by omega))
  intro j x hx
  rw [Nat.zero_add, blk_cell h j, List.getElem?_toArray]
  unfold sv
  rw [List.getElem?_map, hx]
  rfl
set_option maxRecDepth 100000 in
set_option maxHeartbeats 2500000 in
theorem print_calls (o : OpT) (hB : OpB o) (w : World) (hG : GlobOK w) : Calls Tryd.prog 10 #[opX o] w fun e w' => e = .returned (.tuple #[.string (printV o).1, .int .i64 (printV o).2]) ∧ Below w.heap.size w w' := by
  have HK : Aside0 (Ob w (w.alloc (.cells (opA o) 31)) o) := ⟨⟨heap_alloc_new _ _, below_alloc (Below.refl _ _) _⟩⟩
  obtain ⟨k0, k1, k2, k3, k4, k5, k6, k7, k8⟩ := op_cells HK.out.box
  by_cases h4 : 400 < o.f4.size
  · have h4' : (o.f4.size : Int) > 400 := by omega
    have hv : printV o = (⟨#[]⟩, 210) := by unfold printV; rw [if_pos h4]
    rw [hv]
    go_enter Tryd.func10, Tryd.ntmps10
    go_wp2
    go_ret2
    exact ⟨rfl, HK.out.be⟩
  have h4' : ¬ (o.f4.size : Int) > 400 := by omega
  by_cases h5 : 400 < o.f5.size
  · have h5' : (o.f5.size : Int) > 400 := by omega
    have hv : printV o = (⟨#[]⟩, 210) := by unfold printV; rw [if_neg h4, if_pos h5]
    rw [hv]
    go_enter Tryd.func10, Tryd.ntmps10
    go_wp2
    go_ret2
    exact ⟨rfl, HK.out.be⟩
  have h5' : ¬ (o.f5.size : Int) > 400 := by omega
  have HG := Aside0.mk hG
  have HB := Aside0.mk hB
  clear hG hB
  cases hw : wsV o with
  | none =>
    rw [printV_none h4 h5 hw]
    have HW := Aside0.mk hw
    clear hw
    go_enter Tryd.func10, Tryd.ntmps10
    go_wp2_with (go_at_call 20; refine (words_calls o HB.out _ (HG.out.below HK.out.be)).mono ?_; rintro e w1 ⟨h1, hb⟩; rw [HW.out] at h1; obtain rfl := h1; have HK1 := Aside0.mk (HK.out.then hb); clear hb)
    go_ret2
    exact ⟨rfl, HK1.out.be⟩
  | some ws =>
    have HSH := Aside0.mk (ws_short HB.out h4 h5 hw)
    rw [printV_some h4 h5 hw]
    have hj := fun g W h => join_calls g ws W h HSH.out.1 HSH.out.2
    have hpc0 := fun W hG => parse_calls (joinB ws) W hG
    generalize joinB ws = s at hj hpc0 ⊢
    generalize ansW s = R at hpc0 ⊢
    obtain ⟨q, n⟩ := R
    have hpc : ∀ W, GlobOK W → Calls Tryd.prog 8 #[.string s] W fun e w' => e = .returned (.tuple #[opX q, .int .i64 n]) ∧ Below W.heap.size W w' := hpc0
    have HW := Aside0.mk hw
    have HJ := Aside0.mk hj
    have HPC := Aside0.mk hpc
    clear hw hj hpc hpc0
    dsimp only
    by_cases hn : n = 0
    · subst hn
      have b0 : ((0 : Int) == 0) = true := rfl
      by_cases hq : q = o
      · obtain rfl : o = q := hq.symm
        rw [if_pos ⟨rfl, rfl⟩]
        have hEq := op_same o
        go_enter Tryd.func10, Tryd.ntmps10
        go_wp2_with (first
          | (go_at_call 20; refine (words_calls o HB.out _ (HG.out.below HK.out.be)).mono ?_; rintro e w1 ⟨h1, hb⟩; rw [HW.out] at h1; obtain ⟨g, rfl, hrow⟩ := h1; have HK1 := Aside0.mk (HK.out.then hb); have HROW := Aside0.mk hrow; clear hb hrow k0 k1 k2 k3 k4 k5 k6 k7 k8)
          | (go_at_call 21; refine (HJ.out g w1 HROW.out).mono ?_; rintro e w2 ⟨rfl, hb⟩; have HK2 := Aside0.mk (HK1.out.then hb); clear hb)
          | (go_at_call 8; go_loud (refine (HPC.out _ (HG.out.below HK2.out.be)).mono ?_; rintro e w3 ⟨rfl, hb⟩; have HK3 := Aside0.mk (HK2.out.then hb); have hnl : w.heap.size < w3.heap.size := blk_lt HK3.out.box; have hn1 : w.heap.size ≠ w3.heap.size := (by omega); have hn2 : w3.heap.size ≠ w.heap.size := (by omega); have g0 := fun ob => (op_cells (blk_alloc HK3.out.box ob)).1; have g1 := fun ob => (op_cells (blk_alloc HK3.out.box ob)).2.1; have g2 := fun ob => (op_cells (blk_alloc HK3.out.box ob)).2.2.1; have g3 := fun ob => (op_cells (blk_alloc HK3.out.box ob)).2.2.2.1; have g4 := fun ob => (op_cells (blk_alloc HK3.out.box ob)).2.2.2.2.1; have g5 := fun ob => (op_cells (blk_alloc HK3.out.box ob)).2.2.2.2.2.1; have g6 := fun ob => (op_cells (blk_alloc HK3.out.box ob)).2.2.2.2.2.2.1; have g7 := fun ob => (op_cells (blk_alloc HK3.out.box ob)).2.2.2.2.2.2.2.1; have g8 := fun ob => (op_cells (blk_alloc HK3.out.box ob)).2.2.2.2.2.2.2.2; clear hb)))
        go_ret2
        exact ⟨rfl, below_alloc HK3.out.be _⟩
      · rw [if_neg (fun h => hq h.2)]
        have hEq := op_diff hq
        go_enter Tryd.func10, Tryd.ntmps10
        go_wp2_with (first
          | (go_at_call 20; refine (words_calls o HB.out _ (HG.out.below HK.out.be)).mono ?_; rintro e w1 ⟨h1, hb⟩; rw [HW.out] at h1; obtain ⟨g, rfl, hrow⟩ := h1; have HK1 := Aside0.mk (HK.out.then hb); have HROW := Aside0.mk hrow; clear hb hrow k0 k1 k2 k3 k4 k5 k6 k7 k8)
          | (go_at_call 21; refine (HJ.out g w1 HROW.out).mono ?_; rintro e w2 ⟨rfl, hb⟩; have HK2 := Aside0.mk (HK1.out.then hb); clear hb)
          | (go_at_call 8; go_loud (refine (HPC.out _ (HG.out.below HK2.out.be)).mono ?_; rintro e w3 ⟨rfl, hb⟩; have HK3 := Aside0.mk (HK2.out.then hb); have hnl : w.heap.size < w3.heap.size := blk_lt HK3.out.box; have hn1 : w.heap.size ≠ w3.heap.size := (by omega); have hn2 : w3.heap.size ≠ w.heap.size := (by omega); have g0 := fun ob => (op_cells (blk_alloc HK3.out.box ob)).1; have g1 := fun ob => (op_cells (blk_alloc HK3.out.box ob)).2.1; have g2 := fun ob => (op_cells (blk_alloc HK3.out.box ob)).2.2.1; have g3 := fun ob => (op_cells (blk_alloc HK3.out.box ob)).2.2.2.1; have g4 := fun ob => (op_cells (blk_alloc HK3.out.box ob)).2.2.2.2.1; have g5 := fun ob => (op_cells (blk_alloc HK3.out.box ob)).2.2.2.2.2.1; have g6 := fun ob => (op_cells (blk_alloc HK3.out.box ob)).2.2.2.2.2.2.1; have g7 := fun ob => (op_cells (blk_alloc HK3.out.box ob)).2.2.2.2.2.2.2.1; have g8 := fun ob => (op_cells (blk_alloc HK3.out.box ob)).2.2.2.2.2.2.2.2; clear hb)))
        go_ret2
        exact ⟨rfl, below_alloc HK3.out.be _⟩
    · rw [if_neg (fun h => hn h.1)]
      have b0 : (n == 0) = false := beq_eq_false_iff_ne.2 hn
      go_enter Tryd.func10, Tryd.ntmps10
      go_wp2_with (first
        | (go_at_call 20; refine (words_calls o HB.out _ (HG.out.below HK.out.be)).mono ?_; rintro e w1 ⟨h1, hb⟩; rw [HW.out] at h1; obtain ⟨g, rfl, hrow⟩ := h1; have HK1 := Aside0.mk (HK.out.then hb); have HROW := Aside0.mk hrow; clear hb hrow k0 k1 k2 k3 k4 k5 k6 k7 k8)
        | (go_at_call 21; refine (HJ.out g w1 HROW.out).mono ?_; rintro e w2 ⟨rfl, hb⟩; have HK2 := Aside0.mk (HK1.out.then hb); clear hb)
        | (go_at_call 8; go_loud (refine (HPC.out _ (HG.out.below HK2.out.be)).mono ?_; rintro e w3 ⟨rfl, hb⟩; have HK3 := Aside0.mk (HK2.out.then hb); have hnl : w.heap.size < w3.heap.size := blk_lt HK3.out.box; have hn1 : w.heap.size ≠ w3.heap.size := (by omega); have hn2 : w3.heap.size ≠ w.heap.size := (by omega); have g0 := fun ob => (op_cells (blk_alloc HK3.out.box ob)).1; have g1 := fun ob => (op_cells (blk_alloc HK3.out.box ob)).2.1; have g2 := fun ob => (op_cells (blk_alloc HK3.out.box ob)).2.2.1; have g3 := fun ob => (op_cells (blk_alloc HK3.out.box ob)).2.2.2.1; have g4 := fun ob => (op_cells (blk_alloc HK3.out.box ob)).2.2.2.2.1; have g5 := fun ob => (op_cells (blk_alloc HK3.out.box ob)).2.2.2.2.2.1; have g6 := fun ob => (op_cells (blk_alloc HK3.out.box ob)).2.2.2.2.2.2.1; have g7 := fun ob => (op_cells (blk_alloc HK3.out.box ob)).2.2.2.2.2.2.2.1; have g8 := fun ob => (op_cells (blk_alloc HK3.out.box ob)).2.2.2.2.2.2.2.2; clear hb)))
      go_ret2
      exact ⟨rfl, below_alloc HK3.out.be _⟩
end Go.Proofs.YtodmbjbfigifnaaDoor.Sc
end

section
-- By wip/late.py (a program of this session) out of wip/words.
set_option linter.unusedVariables false
set_option linter.unusedSimpArgs false
namespace Go.Proofs.YtodmbjbfigifnaaDoor.Sc
open Go.RowKit Go.Proofs.YtodmbjbfigifnaaDoor.Glob Go.Proofs.YtodmbjbfigifnaaDoor.Dig Go.Proofs.YtodmbjbfigifnaaDoorW.PrintWords Go.Proofs.YtodmbjbfigifnaaDoor.PAll Go.Proofs.YtodmbjbfigifnaaDoor.Pure
/-! The law ScriptParses. -/
set_option maxRecDepth 100000 in
set_option maxHeartbeats 2500000 in
theorem parses_calls (s : ByteArray) (w : World) (hG : GlobOK w) : Calls Tryd.prog 4 #[.string s] w fun e w' => e = .returned (.bool true) ∧ Below w.heap.size w w' := by
  by_cases hs : (s.size : Int) > 1073741824
  · go_enter Tryd.func4, Tryd.ntmps4
    go_wp2
    go_ret
    exact ⟨rfl, Below.refl _ _⟩
  · have hp0 := parse_calls s w hG
    have hrp0 := fun W => rparse_calls s W
    have hB := ans_B s
    have hback := fun h => ans_back (s := s) h
    generalize ansW s = R at hp0 hrp0 hB hback
    obtain ⟨o, n⟩ := R
    dsimp only at hp0 hrp0 hB hback
    have hpr0 := fun W hG => print_calls o hB W hG
    generalize printV o = P at hpr0 hback
    obtain ⟨u, v⟩ := P
    dsimp only at hpr0
    have hp : Calls Tryd.prog 8 #[.string s] w fun e w' => e = .returned (.tuple #[opX o, .int .i64 n]) ∧ Below w.heap.size w w' := hp0
    have HRP : Aside0 (∀ W, Calls Tryd.prog 9 #[.string s] W fun e w' => e = .returned (.tuple #[opX o, .int .i64 n]) ∧ Below W.heap.size W w') := ⟨hrp0⟩
    have HPR := Aside0.mk hpr0
    have HG := Aside0.mk hG
    have hEq := op_same o
    have b1 : (n == n) = true := beq_self_eq_true n
    clear hp0 hrp0 hpr0 hB hG
    by_cases hn : n = 0
    · obtain ⟨rfl, rfl⟩ := Prod.mk.inj (hback hn)
      subst hn
      clear hback
      go_enter Tryd.func4, Tryd.ntmps4
      go_wp2_with (first
        | (go_at_call 8; refine hp.mono ?_; rintro e w1 ⟨rfl, hb⟩; have HB1 := Aside0.mk hb; clear hb)
        | (go_at_call 9; refine (HRP.out _).mono ?_; rintro e w2 ⟨rfl, hb⟩; have HB2 := Aside0.mk (below_step (below_alloc HB1.out _) hb); have HX : Aside0 (w2.heap[w1.heap.size]? = some (.cells (opA o) 31 (0, 0))) := ⟨blk_below (heap_alloc_new w1 _) hb⟩; have hnl : w1.heap.size < w2.heap.size := blk_lt HX.out; have hn1 : w1.heap.size ≠ w2.heap.size := (by omega); have hn2 : w2.heap.size ≠ w1.heap.size := (by omega); have g0 := fun ob => (op_cells (blk_alloc HX.out ob)).1; have g1 := fun ob => (op_cells (blk_alloc HX.out ob)).2.1; have g2 := fun ob => (op_cells (blk_alloc HX.out ob)).2.2.1; have g3 := fun ob => (op_cells (blk_alloc HX.out ob)).2.2.2.1; have g4 := fun ob => (op_cells (blk_alloc HX.out ob)).2.2.2.2.1; have g5 := fun ob => (op_cells (blk_alloc HX.out ob)).2.2.2.2.2.1; have g6 := fun ob => (op_cells (blk_alloc HX.out ob)).2.2.2.2.2.2.1; have g7 := fun ob => (op_cells (blk_alloc HX.out ob)).2.2.2.2.2.2.2.1; have g8 := fun ob => (op_cells (blk_alloc HX.out ob)).2.2.2.2.2.2.2.2; clear hb)
        | (go_at_call 10; refine (HPR.out _ (HG.out.below (below_alloc HB2.out _))).mono ?_; rintro e w3 ⟨rfl, hb⟩; have HB3 := Aside0.mk (below_step (below_alloc HB2.out _) hb); clear hb))
      go_ret
      exact ⟨rfl, HB3.out⟩
    · have b0 : (n == 0) = false := beq_eq_false_iff_ne.2 hn
      clear hback
      go_enter Tryd.func4, Tryd.ntmps4
      go_wp2_with (first
        | (go_at_call 8; refine hp.mono ?_; rintro e w1 ⟨rfl, hb⟩; have HB1 := Aside0.mk hb; clear hb)
        | (go_at_call 9; refine (HRP.out _).mono ?_; rintro e w2 ⟨rfl, hb⟩; have HB2 := Aside0.mk (below_step (below_alloc HB1.out _) hb); have HX : Aside0 (w2.heap[w1.heap.size]? = some (.cells (opA o) 31 (0, 0))) := ⟨blk_below (heap_alloc_new w1 _) hb⟩; have hnl : w1.heap.size < w2.heap.size := blk_lt HX.out; have hn1 : w1.heap.size ≠ w2.heap.size := (by omega); have hn2 : w2.heap.size ≠ w1.heap.size := (by omega); have g0 := fun ob => (op_cells (blk_alloc HX.out ob)).1; have g1 := fun ob => (op_cells (blk_alloc HX.out ob)).2.1; have g2 := fun ob => (op_cells (blk_alloc HX.out ob)).2.2.1; have g3 := fun ob => (op_cells (blk_alloc HX.out ob)).2.2.2.1; have g4 := fun ob => (op_cells (blk_alloc HX.out ob)).2.2.2.2.1; have g5 := fun ob => (op_cells (blk_alloc HX.out ob)).2.2.2.2.2.1; have g6 := fun ob => (op_cells (blk_alloc HX.out ob)).2.2.2.2.2.2.1; have g7 := fun ob => (op_cells (blk_alloc HX.out ob)).2.2.2.2.2.2.2.1; have g8 := fun ob => (op_cells (blk_alloc HX.out ob)).2.2.2.2.2.2.2.2; clear hb)
        | (go_at_call 10; refine (HPR.out _ (HG.out.below (below_alloc HB2.out _))).mono ?_; rintro e w3 ⟨rfl, hb⟩; have HB3 := Aside0.mk (below_step (below_alloc HB2.out _) hb); clear hb))
      go_ret
      exact ⟨rfl, HB3.out⟩
end Go.Proofs.YtodmbjbfigifnaaDoor.Sc
end

section
/- For every line of whatever length the law ScriptParses answers true: what the program says of the line is what the document says, and a line that is a command is written so again from what was read. Its condition: the package-level variables that it reads (tables of strconv, math/bits and unicode/utf8, ErrRange, ErrSyntax) hold what start-up laid in them, which the card ties to the program's text, and the form's own reach. -/
namespace Go.Proofs.YtodmbjbfigifnaaDoor
open Go.ChangeMaps (open_string shut_string)
open Go.ChangeShapes Go.WideShapes Go.ChangeAt Go.WideMaps Go.WideElems Go.RowKit Go.Proofs.YtodmbjbfigifnaaDoor.Dig Go.Proofs.YtodmbjbfigifnaaDoor.PAll Go.Proofs.YtodmbjbfigifnaaDoorW.PrintWords
set_option linter.unusedVariables false
def laid7 : List (String × DataW Unit) := [("math/bits.deBruijn32tab", Rows.laid_math_bits_deBruijn32tab), ("math/bits.deBruijn64tab", Rows.laid_math_bits_deBruijn64tab), ("internal/strconv.uint64pow10", Rows.laid_internal_strconv_uint64pow10), ("unicode/utf8.acceptRanges", Rows.laid_unicode_utf8_acceptRanges), ("strconv.ErrRange", Rows.laid_strconv_ErrRange), ("strconv.ErrSyntax", Rows.laid_strconv_ErrSyntax), ("unicode/utf8.first", Rows.laid_unicode_utf8_first)]
theorem own : ownKnob Tryd.prog.godebug = none := by kernel_rfl
theorem laidOut : laidOutB Tryd.prog = true := by kernel_rfl
/-- A heap that the listed data lay meets the condition (one of them is pinned: no run lays it). -/
theorem all_met (os : Os) (args : Array Value) : laidMetH Tryd.prog laid7 ((World.laidAll Tryd.prog os laid7).forCall (fun _ _ => 0) ⟨#[], args, []⟩).memory := by
  rw [MakeChecks.laidMetH_plain _ _ _ (by kernel_rfl)]
  exact laidMet_laidAll _ (by kernel_rfl) (by kernel_rfl)
theorem tab_eq : (Rows.laid_internal_strconv_uint64pow10 : DataW Unit) = Lib.tabData .u64 Lib.pow10Tab := by kernel_rfl
theorem gPow : Tryd.prog.globalNamed "internal/strconv.uint64pow10" = some 3 := by kernel_rfl
theorem tPow : (Tryd.prog.globals[3]?).map (·.type) = some 127 := by kernel_rfl
theorem gRange : Tryd.prog.globalNamed "strconv.ErrRange" = some 5 := by kernel_rfl
theorem tRange : (Tryd.prog.globals[5]?).map (·.type) = some 78 := by kernel_rfl
theorem star : "*errors.errorString" = "*" ++ "errors.errorString" := by decide
theorem row135 (u : TypeId) (h : Tryd.prog.typeName? 3 u = some "*errors.errorString") : u = 135 :=
  typeName_ptr_named (nm := "errors.errorString") (by rw [← star]; kernel_rfl) (by kernel_rfl) (by decide) u (by rw [← star]; exact h)
theorem of_laid {W : World} (h : laidMetH Tryd.prog laid7 W) : TabsOK W := by
  rw [MakeChecks.laidMetH_plain _ _ _ (by kernel_rfl)] at h
  have h3 : laidMet Tryd.prog [("internal/strconv.uint64pow10", Rows.laid_internal_strconv_uint64pow10), ("unicode/utf8.acceptRanges", Rows.laid_unicode_utf8_acceptRanges), ("strconv.ErrRange", Rows.laid_strconv_ErrRange), ("strconv.ErrSyntax", Rows.laid_strconv_ErrSyntax), ("unicode/utf8.first", Rows.laid_unicode_utf8_first)] W := h.tail.tail
  have htab : Lib.TabIs Tryd.prog W "internal/strconv.uint64pow10" .u64 Lib.pow10Tab := by
    rw [tab_eq] at h3
    exact Lib.tabIs_of_head gPow tPow Tryd.underlying127 Tryd.underlying101 (by kernel_rfl) (by kernel_rfl) h3
  obtain ⟨a, t, hv, _⟩ := laid_sentinel h3.tail.tail gRange tRange Tryd.underlying78 row135 Tryd.underlying135 Tryd.underlying137 rfl rfl Tryd.underlying9 (by kernel_rfl) (by kernel_rfl)
  refine ⟨htab, _, (World.var?_cell gRange hv 0).trans rfl, .inr ⟨_, _, rfl⟩⟩
/-- The kit's 'returnsInHanded_of_change_and', the world's shape told too. -/
theorem change_and_shaped {H : Type} {enc : TypeId × Value → H} {a : Assume} {C : Checked} {os : Os} {f : FuncId} {fn : Func} {s : ChangeSpec} {conds : List PathCond} {apart fresh handsOn again : Bool} {X : World → Array Value → Prop}
    (hX : ∀ (w w' : World) (args : Array Value), w.heap = w'.heap → X w args → X w' args)
    (own : ownKnob C.prog.godebug = none) (started : os.Started) (noInit : C.prog.inits.idxOf? f = none) (hfn : C.prog.funcs[f]? = some fn)
    (witness : ∃ (w : World) (tape : Tape) (i : Input), w.os = os ∧ (w.forCall tape i).Shaped C.prog ∧ i.vars = [] ∧ Input.okWide C.prog (w.forCall tape i) .any w.heap.size f i ∧
      ((s.pre enc C.prog fn conds apart (w.forCall tape i).memory i.args ∧ X (w.forCall tape i).memory i.args) ∧ sizedMet enc C.prog fn (OpenSpec.ofChange s) apart (w.forCall tape i).memory i.args) ∧ a.holds C.prog (lone (Frame.enter C.prog f i.args .normal) [] (w.forCall tape i)))
    (contract : ∀ (W : World) (base : Nat) (args : Array Value) (ds gs : List (DataW H)) (before : List MemPlace), W.ShapedOpen C.prog →
      (∀ (j : Nat) t v, fn.params[j]? = some t → args[j]? = some v → Value.okWide C.prog W .any base t v) →
      DataW.Whole enc C.prog fn.params.toList s.vars apart W args.toList ds gs before →
      conds.all (PathCond.test C.prog ⟨fn.params.toList, ds, s.plain.varTypes C.prog, gs⟩) = true →
      (DataW.weightsEach C.prog (fn.params.toList ++ s.plain.varTypes C.prog) (ds ++ gs)).all (· ≤ reachBytes) = true → X W args →
      a.holds C.prog (lone (Frame.enter C.prog f args .normal) [] W) →
      Calls C.prog f args W fun e W' => ∃ v, e = .returned v ∧ s.post enc C.prog fn apart fresh handsOn again W args v W') :
    ReturnsInHanded a C os f .any (fun w args => (s.pre enc C.prog fn conds apart w args ∧ X w args) ∧ sizedMet enc C.prog fn (OpenSpec.ofChange s) apart w args) (s.post enc C.prog fn apart fresh handsOn again) := by
  refine returnsInHanded_of_calls own started noInit witness ?_
  intro w tape i _ hsh _ hok hpre hholds
  obtain ⟨_, _, _, fn', hfn', _, _, _, _, hval⟩ := hok
  have e : fn' = fn := Option.some.inj (hfn'.symm.trans hfn)
  subst e
  obtain ⟨⟨⟨ds, gs, before, hw, hc⟩, hx⟩, hz⟩ := hpre
  have hw' := DataW.Whole.of_heap (w' := w.forCall tape i) (by rfl) hw
  refine (contract (w.forCall tape i) w.heap.size i.args ds gs before hsh hval hw' hc (hz.weights hw) (hX _ _ _ (by rfl) hx) hholds).mono fun e W' ⟨v, he, hp⟩ => ?_
  subst he
  exact ChangeSpec.post_blind hp
set_option maxRecDepth 100000 in
theorem lifted (os : Os) (started : os.Started) (H : Type) (enc : TypeId × Value → H) :
    ReturnsInHanded {} Tryd.checked os 4 .any (fun w args => (Rows.scriptParsesSpec.pre enc Tryd.prog Tryd.f4 [] false w args ∧ laidMetH Tryd.prog laid7 w) ∧ sizedMet enc Tryd.prog Tryd.f4 (OpenSpec.ofChange Rows.scriptParsesSpec) false w args)
      (Rows.scriptParsesSpec.post enc Tryd.prog Tryd.f4 false true false false) := by
  refine change_and_shaped (C := Tryd.checked) (X := fun w _ => laidMetH Tryd.prog laid7 w) (fun _ _ _ hh h => h.of_heap hh) own started (by kernel_rfl) Tryd.func4
    (ChangeSpec.witness_shaped (enc := enc) (C := Tryd.checked) (os := os) (X := fun w _ => laidMetH Tryd.prog laid7 w) false (World.laidAll Tryd.prog os laid7) #[.string ByteArray.empty] 8 (World.laidAll_os _ _ _) (World.shaped_of_ZipB (by kernel_rfl) (by kernel_rfl)) (by kernel_rfl) (by kernel_rfl) (by kernel_rfl) (all_met os _)) ?_
  intro W base args ds gs before hshape hval0 hW _ hsz0 hL _
  have hG : Go.Proofs.YtodmbjbfigifnaaDoor.Glob.GlobOK W := ⟨of_laid hL, Tryd.laysM219.s1_3 W hshape⟩
  have hsz : (DataW.weightsEach Tryd.prog (Tryd.f4.params.toList ++ Rows.scriptParsesSpec.plain.varTypes Tryd.prog) (ds ++ gs)).all (· ≤ reachBytes) = true := hsz0
  have hval : ∀ (j : Nat) t v, Tryd.f4.params[j]? = some t → args[j]? = some v → Value.okWide Tryd.prog W .any base t v := hval0
  have hW' := hW
  obtain ⟨p, q, hA0, hV, rfl, hfz, hnd⟩ := hW
  have hA : DataW.TrodAll enc Tryd.prog W 0 (fun _ => true) true Tryd.f4.params.toList args.toList ds p := hA0
  rw [Tryd.params4] at hA hval hsz
  obtain ⟨v0, vs0, d0, ds0, p0, q0, hargs, rfl, rfl, h0, r0⟩ := trodAll_cons hA
  obtain ⟨rfl, rfl, rfl⟩ := trodAll_nil r0
  obtain rfl : args = #[v0] := by cases args; simp_all
  obtain ⟨rfl, rfl⟩ := trodVars_none hV
  obtain ⟨a0, rfl, rfl, rfl, y0⟩ := open_string Tryd.underlying9 (hval 0 9 v0 rfl rfl) h0
  refine (Sc.parses_calls a0 W hG).mono fun e W' ⟨he, bel0⟩ => ?_
  have bel : Below W.heap.size W W' := bel0
  subst he
  exact ⟨_, rfl, _, _, _, [], _, [], hW', trodAll_mk1 (shut_bool Tryd.underlying4 _), (trodAll_cons_mk (shut_string Tryd.underlying9 y0) trodAll_mk0), rfl, bel.frame _, fun h => by cases h⟩
theorem scriptParses_row : Rows.ScriptParsesSaid :=
  OpenClaim.holds_of_wide 4 Tryd.f4 rfl rfl rfl rfl rfl rfl rfl ⟨rfl, rfl, rfl, rfl, rfl⟩ rfl rfl rfl rfl rfl (by kernel_rfl) Tryd.func4 (by kernel_rfl)
    (of_decide_eq_true (by kernel_rfl)) (by unfold Func.isWrapper; first | (rw [if_pos (by decide +kernel)]; kernel_rfl) | (rw [if_neg (by decide +kernel)]; exact ⟨rfl, rfl⟩))
    (fun os started H enc _ => lifted os started H enc)
theorem scriptParses_holds : Rows.ScriptParsesCardSaid :=
  Claim7.holds_tied_plain_at .later [] [.data, .data, .data, .data, .sentinel, .sentinel, .pinned] true (true, "9d1d0af69867e12346e384c1d8c6a19310d10e8a58dbfb4f1aa32b8d67894b63") true
    scriptParses_row (fun _ h => by cases h) (by kernel_rfl) (fun _ h => by cases h) scriptParses_row_tie rfl ⟨rfl, rfl⟩ (by kernel_rfl) rfl
    (fun f fn hf hfn => by
      obtain rfl : f = 4 := Option.some.inj ((show Tryd.prog.funcNamed "tideline/tidelinelaw21.ScriptParses" = some 4 by kernel_rfl).symm.trans hf) |>.symm
      obtain rfl : fn = Tryd.f4 := (Option.some.inj (Tryd.func4.symm.trans hfn)).symm
      exact ⟨by kernel_rfl, fun j t ht => by
        rw [Tryd.params4] at ht
        have hm : t ∈ [9] := by simpa using Array.mem_of_getElem? ht
        have hall : ([9].all fun u => !Tryd.prog.wantsStandIn u) = true := by kernel_rfl
        exact (show Tryd.prog.wantsStandIn t = false by simpa using List.all_eq_true.1 hall t hm)⟩)
    (by kernel_rfl)
#print axioms scriptParses_holds
end Go.Proofs.YtodmbjbfigifnaaDoor
end
