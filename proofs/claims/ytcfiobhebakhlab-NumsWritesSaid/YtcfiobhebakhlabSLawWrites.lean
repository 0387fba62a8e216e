-- By wip/late.py (a program of this session) out of wip/words.
import Derived.Test.YtcfiobhebakhlabProg
import Derived.Test.YtcfiobhebakhlabWWords
import Derived.Test.YtcfiobhebakhlabWLast
import Derived.Test.YtcfiobhebakhlabWMore
import Derived.Test.YtcfiobhebakhlabPAllx0
import Derived.Test.YtcfiobhebakhlabPAllx1
import Derived.Test.YtcfiobhebakhlabPAllx2
import Derived.Test.YtcfiobhebakhlabSWr
import Derived.Test.YtcfiobhebakhlabSWrNums
import Derived.Test.YtcfiobhebakhlabSWrRef
import Derived.Test.YtcfiobhebakhlabSWrWord
import Derived.Test.YtcfiobhebakhlabSWrWrite
import Derived.Test.YtcfiobhebakhlabSWrTwo
import Derived.Test.YtcfiobhebakhlabSWrLen
import Derived.RangeFuncBox
import Derived.BigQuiet
import Derived.Deep.QuietTactic
import Derived.Lib.Hide
import Derived.Tactics
import Derived.WalkKit
import Derived.OwnWalk
import Derived.Deep.RegionHeld
import Derived.Test.YtcfiobhebakhlabSNumsP
set_option linter.unusedVariables false
set_option linter.unusedSimpArgs false
namespace Go.Proofs.Ytcfiobhebakhlab.PAll
open Go.RowKit Go.Proofs.YtcfiobhebakhlabW.PrintWords Go.Proofs.YtcfiobhebakhlabW.PrintLast Go.Proofs.YtcfiobhebakhlabW.PrintMore Go.Proofs.Ytcfiobhebakhlab.Pure Go.Proofs.Ytcfiobhebakhlab.Wr
theorem same_self (l : List Int) : tidelinelaw01_sameBytes.f l l = some true := by simp [tidelinelaw01_sameBytes.f]
def stepB (x : S34) : List Int := partB x.f0 x.f1 x.f2 x.f3 x.f4
def OkStep (x : S34) : Prop := -9223372036854775808 ≤ x.f1 ∧ x.f1 ≤ 9223372036854775807 ∧ 0 ≤ x.f3 ∧ x.f3 < 18446744073709551616
theorem okStep_iff {x : S34} : OkStep x ↔ -9223372036854775808 ≤ x.f1 ∧ x.f1 ≤ 9223372036854775807 ∧ 0 ≤ x.f3 ∧ x.f3 < 18446744073709551616 := Iff.rfl
def total : List S34 → Nat
  | [] => 0
  | x :: l => 1 + x.f2.size + total l
theorem total_at : ∀ (l : List S34) (j : Nat), j < l.length → total (l.take j) + (1 + (rd_T34 l (j : Int)).f2.size) = total (l.take (j + 1)) := by
  intro l
  induction l with
  | nil => intro j hj; simp at hj
  | cons x l ih =>
    intro j hj
    cases j with
    | zero => simp [total, rd_T34]
    | succ j =>
      have := ih j (by simpa using hj)
      simp only [List.take_succ_cons, total]
      rw [show rd_T34 (x :: l) ((j + 1 : Nat) : Int) = rd_T34 l (j : Int) by simp [rd_T34]]
      omega
theorem total_le : ∀ (l : List S34) (j : Nat), total (l.take j) ≤ total l := by
  intro l
  induction l with
  | nil => intro j; simp
  | cons x l ih =>
    intro j
    cases j with
    | zero => simp [total]
    | succ j => have := ih j; simp only [List.take_succ_cons, total]; omega
theorem rd_mem {l : List S34} {j : Nat} (h : j < l.length) : rd_T34 l (j : Int) ∈ l := by
  simp only [rd_T34, Int.toNat_natCast]
  rw [List.getD_eq_getElem?_getD, List.getElem?_eq_getElem h]
  exact List.getElem_mem h
theorem own_kept {W W' : World} {S : Nat → Prop} {base : Nat} {v : Value} {n : Nat} {xs : List Value} (h : W.ownsRow base 5 1 v n xs) (hk : Kept W W' S) (hne : ∀ g, v.ownBlock = some g → ¬ S g) : W'.ownsRow base 5 1 v n xs := by
  refine ⟨h.1, ?_⟩
  rcases h.2 with ⟨e, h0⟩ | ⟨g, cap, cur, e, hb, hg, r⟩
  · exact .inl ⟨e, h0⟩
  · exact .inr ⟨g, cap, cur, e, hb, (hk.2 g (Array.getElem?_eq_some_iff.1 hg).1 (hne g (by rw [e]; rfl))).trans hg, r⟩
theorem own_base {W : World} {base : Nat} {v : Value} {n : Nat} {xs : List Value} (h : W.ownsRow base 5 1 v n xs) {g : Nat} (hg : v.ownBlock = some g) : base ≤ g ∧ g < W.heap.size := by
  rcases h.2 with ⟨rfl, h0⟩ | ⟨g', cap, cur, rfl, hb, hg', r⟩
  · simp [Value.ownBlock] at hg
  · have : g' = g := by simpa [Value.ownBlock] using hg
    subst this
    exact ⟨hb, (Array.getElem?_eq_some_iff.1 hg').1⟩
theorem len_steps (l : List S34) : (l.flatMap stepB).length ≤ 9 * total l := by
  induction l with
  | nil => simp
  | cons x l ih =>
    have : (stepB x).length ≤ 9 + x.f2.size := partB_len x.f0 x.f1 x.f2 x.f3 x.f4
    simp only [List.flatMap_cons, List.length_append, total]
    omega
theorem len_total (l : List S34) : l.length ≤ total l := by
  induction l with
  | nil => simp
  | cons x l ih => simp only [List.length_cons, total]; omega
theorem take_step {l : List S34} {j : Nat} (h : j < l.length) : (l.take j).flatMap stepB ++ partB (rd_T34 l (j : Int)).f0 (rd_T34 l (j : Int)).f1 (rd_T34 l (j : Int)).f2 (rd_T34 l (j : Int)).f3 (rd_T34 l (j : Int)).f4 = (l.take (j + 1)).flatMap stepB := by
  rw [List.take_add_one, List.getElem?_eq_getElem h]
  simp only [rd_T34, Int.toNat_natCast, List.getD_eq_getElem?_getD, List.getElem?_eq_getElem h, Option.getD_some, Option.toList_some, List.flatMap_append, List.flatMap_cons, List.flatMap_nil, List.append_nil]
  rfl
theorem round_bounds (l0 : List S34) (htot : total l0 ≤ 2147483647) (j : Nat) (hj : j < l0.length) : (rd_T34 l0 (j : Int)).f2.size ≤ 70368744177664 ∧ ((l0.take j).flatMap stepB).length + 9 + (rd_T34 l0 (j : Int)).f2.size ≤ 140737488355328 ∧ wrap64 ((j : Int) + 1) = (j : Int) + 1 := by
  have l1 := len_steps (l0.take j)
  have l2 := total_at l0 j hj
  have l3 := total_le l0 (j + 1)
  have l5 := len_total l0
  refine ⟨by omega, by omega, ?_⟩
  unfold wrap64
  omega
theorem round_measure (n j : Nat) (hj : j < n) (hw : wrap64 ((j : Int) + 1) = (j : Int) + 1) : n - (intOf (Value.int .i64 (wrap64 ((j : Int) + 1)))).toNat < n - (intOf (Value.int .i64 (j : Int))).toNat := by
  rw [hw]
  simp only [intOf]
  omega
theorem held2 {n1 n2 : Nat} {w : World} {B1 B2 : Nat} {W : World} {v1 v2 : Value} {l1 l2 : List Int} {C : Prop} (h : Two n1 n2 w B1 B2 W v1 v2 l1 l2) (hc : C) : W.cell? ⟨B2, 0, none⟩ = some v2 ∧ (Aside0 (Two n1 n2 w B1 B2 W v1 v2 l1 l2) ∧ Aside0 C) := ⟨h.b.box.cell, ⟨h⟩, ⟨hc⟩⟩
open Classical in
noncomputable def tidelinelaw01_NumsWrites.f (k : Nat) (l0 : List S34) : Option Bool := (tidelinelaw01_beyond.f k l0).bind fun b => if b = true then some true else if (∀ x ∈ l0, OkStep x) ∧ total l0 ≤ 2147483647 then (tidelinelaw01_spoil.f k (l0.flatMap stepB)).bind fun _ => some true else none
set_option maxRecDepth 100000 in
set_option maxHeartbeats 4000000 in
theorem tidelinelaw01_NumsWrites.calls (k : Nat) (A0 : Option Addr) (c0 : Nat) (l0 : List S34) (r : Bool) (w : World) (hr0 : Kd.C k34 w A0 l0.length l0) (hc0 : l0.length ≤ c0) (h : tidelinelaw01_NumsWrites.f k l0 = some r) :
    Calls Try.prog 3 #[.slice A0 l0.length c0] w fun e w' => e = .returned (.bool r) ∧ Below w.heap.size w w' := by
  unfold tidelinelaw01_NumsWrites.f at h
  obtain ⟨b, hb, h⟩ := Option.bind_eq_some_iff.1 h
  have Ab := Aside0.mk hb
  have HR := Aside0.mk hr0
  clear hr0 hb
  cases b with
  | true =>
    obtain rfl : true = r := by simpa using h
    clear h
    go_enter Try.func3, Try.ntmps3
    go_wp2_with (go_at_call 8; refine (tidelinelaw01_beyond.calls k A0 c0 l0 true _ HR.out hc0 Ab.out).mono ?_; rintro e wb ⟨rfl, hdb⟩; have HBb := Aside0.mk hdb.below; clear hdb)
    go_ret
    exact ⟨rfl, HBb.out⟩
  | false =>
    rw [if_neg (by decide)] at h
    by_cases hk : (∀ x ∈ l0, OkStep x) ∧ total l0 ≤ 2147483647
    case neg => rw [if_neg hk] at h; cases h
    rw [if_pos hk] at h
    obtain ⟨u, hs, h⟩ := Option.bind_eq_some_iff.1 h
    obtain rfl : true = r := by simpa using h
    obtain ⟨hok, htot⟩ := hk
    have As := Aside0.mk hs
    have AK := Aside0.mk hok
    have hlen : Aside0 (((l0.flatMap stepB).length ≤ 140737488355328) ∧ (l0.flatMap stepB).length ≤ 9223372036854775807) := ⟨by have := len_steps l0; omega⟩
    have htot := Aside0.mk htot
    clear h hs hok
    go_enter Try.func3, Try.ntmps3
    go_wp2_with (first
      | (go_at_call 8; refine (tidelinelaw01_beyond.calls k A0 c0 l0 false _ HR.out hc0 Ab.out).mono ?_; rintro e wb ⟨rfl, hdb⟩; have HBb := Aside0.mk hdb.below; clear hdb)
      | (go_at_call 9; refine (new_calls _).mono ?_; rintro e w1 ⟨B1, rfl, hw1, hb1⟩; have HW1 := Aside0.mk hw1; have HB1 := Aside0.mk hb1; clear hw1 hb1)
      | (go_at_call 10; refine (rnew_calls _).mono ?_; rintro e w2 ⟨B2, rfl, hw2, hb2⟩; have HT0 : Aside0 (Two wb.heap.size w1.heap.size wb B1 B2 w2 (.slice none 0 0) (.slice none 0 0) [] []) := ⟨⟨HW1.out.below hb2, hw2, fun g e _ => by simp [Value.ownBlock] at e, HB1.out.trans (hb2.mono HB1.out.size), Nat.le_trans HB1.out.size hb2.size, hb2.size, HB1.out.size⟩⟩; clear hw2 hb2)
      | (go_at_call 11; refine (len_calls HT0.out.a).mono ?_; rintro e w3 ⟨rfl, rfl⟩)
      | (go_at_call 12; refine (bytes_calls HT0.out.a (by simp)).mono ?_; rintro e w3 ⟨v3, rfl, hr3, hb3⟩; have HT1 := Aside0.mk (two_below HT0.out hb3); obtain ⟨A3, c3, rfl, hc3, hC3⟩ := own_C hr3 (by simp); clear hr3 hb3 hC3))
    go_loopw [5] (fun s5 wr => ∃ (j : Nat) (v1 v2 : Value), s5 = .int .i64 (j : Int) ∧ j ≤ l0.length ∧ Two wb.heap.size w1.heap.size wb B1 B2 wr v1 v2 ((l0.take j).flatMap stepB) ((l0.take j).flatMap stepB)) (fun s5 _ => l0.length - (intOf s5).toNat)
    case atStart => exact ⟨0, _, _, rfl, by omega, HT1.out⟩
    case round =>
      obtain ⟨j, v1, v2, rfl, hj, ht⟩ := hrel
      have HT2 := Aside0.mk ht
      clear ht HT0 HT1
      by_cases h1 : (j : Int) < (l0.length : Int)
      · have b1 : decide (j < l0.length) = true := decide_eq_true (by omega)
        have hj' : j < l0.length := by omega
        obtain ⟨ad, e0, x0, x1, x2, x3, x4⟩ := at_T34 (Kd.C_below HR.out (HBb.out.trans (HT2.out.be.mono HBb.out.size))) (j : Int) (Int.natCast_nonneg j) h1
        cases e0
        simp only [Int.toNat_natCast] at x0 x1 x2 x3 x4
        have p0 : (0 ≤ (j : Int)) = True := eq_true (by omega)
        have q0 : ((j : Int) < (l0.length : Int)) = True := eq_true h1
        have O := Aside0.mk (okStep_iff.1 (AK.out _ (rd_mem hj')))
        have G := Aside0.mk (round_bounds l0 htot.out j hj')
        have hw64 := G.out.2.2
        obtain ⟨lj, hlj⟩ : ∃ lj, lj = (l0.take j).flatMap stepB ++ partB (rd_T34 l0 (j : Int)).f0 (rd_T34 l0 (j : Int)).f1 (rd_T34 l0 (j : Int)).f2 (rd_T34 l0 (j : Int)).f3 (rd_T34 l0 (j : Int)).f4 := ⟨_, rfl⟩
        have LJ := Aside0.mk hlj
        clear hlj
        go_wp2_with (first
          | (go_at_call 13; (with_reducible refine (write_calls _ _ _ _ _ O.out.1 O.out.2.1 O.out.2.2.1 O.out.2.2.2 G.out.1 HT2.out.a HT2.out.s1 G.out.2.1).mono ?_); rintro e w3 ⟨rfl, v3, h3⟩; rw [← LJ.out] at h3; have HT3 := Aside0.mk (HT2.out.left h3); clear h3 x0 x1 x2 x3 x4; obtain ⟨ad2, e0, x0, x1, x2, x3, x4⟩ := at_T34 (Kd.C_below HR.out (HBb.out.trans (HT3.out.be.mono HBb.out.size))) (j : Int) (Int.natCast_nonneg j) h1; cases e0; simp only [Int.toNat_natCast] at x0 x1 x2 x3 x4)
          | (go_at_call 14; (with_reducible refine (rwrite_calls _ _ _ _ _ O.out.1 O.out.2.1 O.out.2.2.1 O.out.2.2.2 G.out.1 HT3.out.b HT3.out.s2 G.out.2.1).mono ?_); rintro e w4 ⟨rfl, v4, h4⟩; rw [← LJ.out] at h4; have HT4 := Aside0.mk (HT3.out.right h4); clear h4 x0 x1 x2 x3 x4)
          | (go_at_call 11; refine (len_calls HT4.out.a).mono ?_; rintro e w5 ⟨rfl, rfl⟩)
          | (go_at_call 15; refine (rlen_calls HT4.out.b).mono ?_; rintro e w5 ⟨rfl, rfl⟩))
        go_roundw
        case rel => exact ⟨j + 1, _, _, by simp [hw64], by omega, by rw [← take_step hj', ← LJ.out]; exact HT4.out⟩
        case measure => exact round_measure _ _ hj' hw64
      · have b1 : decide (j < l0.length) = false := decide_eq_false (by omega)
        have hjl : l0.take j = l0 := List.take_of_length_le (by omega)
        rw [hjl] at HT2
        obtain ⟨l, hl⟩ : ∃ l, l = l0.flatMap stepB := ⟨_, rfl⟩
        rw [← hl] at HT2 As hlen
        clear hl hjl
        have hL : l.length ≤ 140737488355328 := hlen.out.1
        have hL3 : l.length ≤ 9223372036854775807 := hlen.out.2
        obtain ⟨A2, c2, rfl, hc2⟩ := HT2.out.b.shape
        have hx := HT2.out.b.box.cell
        go_wp2_with (first
          | (go_at_call 12; (with_reducible refine (bytes_calls HT2.out.a hL).mono ?_); rintro e w7 ⟨v7, rfl, hr7, hb7⟩; have HT7 := Aside0.mk (two_below HT2.out hb7); have HB7 := Aside0.mk hb7; have HR7 := Aside0.mk hr7; clear hb7; obtain ⟨A7, c7, e7, hc7, hC7⟩ := own_C hr7 hL3; subst e7; clear hr7; have HC7 := Aside0.mk hC7; clear hC7)
          | (go_at_call 12; (with_reducible refine (bytes_calls HT7.out.a hL).mono ?_); rintro e w8 ⟨v8, rfl, hr8, hb8⟩; have HT8 := Aside0.mk (two_below HT7.out hb8); have HB8 := Aside0.mk (HB7.out.trans (hb8.mono HB7.out.size)); have HR8 := Aside0.mk hr8; have HR78 := Aside0.mk (pw_own_below HR7.out hb8); have HC78 := Aside0.mk (Kd.C_below HC7.out hb8); clear hb8; obtain ⟨A8, c8, e8, hc8, hC8⟩ := own_C hr8 hL3; subst e8; clear hr8; have HC8 := Aside0.mk hC8; clear hC8; clear hx; have hx := HT8.out.b.box.cell)
          | (go_at_call 16; refine (tidelinelaw01_sameBytes.calls A7 c7 l A2 c2 l true _ HC78.out hc7 ?_ hc2 (same_self l)).mono ?_; (obtain ⟨Ax, cx, ex, _, hCx⟩ := own_C HT8.out.b.row hL3; cases ex; exact hCx); rintro e w9 ⟨rfl, hd9⟩; have HT9 := Aside0.mk (two_below HT8.out hd9.below); have HB9 := Aside0.mk (HB8.out.trans (hd9.below.mono HB8.out.size)); have HR79 := Aside0.mk (pw_own_below HR78.out hd9.below); have HR89 := Aside0.mk (pw_own_below HR8.out hd9.below); have HC89 := Aside0.mk (Kd.C_below HC8.out hd9.below); clear hd9; clear hx; have hx := HT9.out.b.box.cell)
          | (go_at_call 16; refine (tidelinelaw01_sameBytes.calls A8 c8 l A2 c2 l true _ HC89.out hc8 ?_ hc2 (same_self l)).mono ?_; (obtain ⟨Ax, cx, ex, _, hCx⟩ := own_C HT9.out.b.row hL3; cases ex; exact hCx); rintro e w10 ⟨rfl, hd10⟩; have HB10 := Aside0.mk (HB9.out.trans (hd10.below.mono HB9.out.size)); have HR710 := Aside0.mk (pw_own_below HR79.out hd10.below); have HR810 := Aside0.mk (pw_own_below HR89.out hd10.below); clear hd10)
          | (go_at_call 17; refine (tidelinelaw01_spoil.calls k (fun q => (Value.slice A7 l.length c7).ownBlock = some q) (.slice A7 l.length c7) l wr w10 HB10.out (own_R HR710.out) As.out).mono ?_; rintro e w11 ⟨rfl, hb11, hk11⟩; have HT11 := Aside0.mk (two_below HT2.out hb11); have HR811 := Aside0.mk (own_kept HR810.out hk11 (fun q e1 e2 => by have a1 := (own_base HR8.out e1).1; have a2 := (own_base HR7.out e2).2; omega)); clear hb11 hk11; clear hx; have hx := HT11.out.b.box.cell))
        have HC11 : Aside0 (Kd.C (Kd.int .u8) w11 A8 l.length l) := ⟨by obtain ⟨Ax, cx, ex, _, hCx⟩ := own_C HR811.out hL3; cases ex; exact hCx⟩
        clear HT2 HT7 HB7 HR7 HC7 HT8 HB8 HR8 HR78 HC78 HC8 HT9 HB9 HR79 HR89 HC89 HB10 HR710 HR810 HR811
        have HTd := Aside0.mk (two_drew HT11.out)
        have HCd := Aside0.mk (Kd.C_below HC11.out (Drawn0.below (w := w11) (w' := w11.drew) ⟨1, rfl⟩))
        go_region_held (fun W => W.cell? ⟨B2, 0, none⟩ = some (.slice A2 l.length c2) ∧ (Aside0 (Two wb.heap.size w1.heap.size wb B1 B2 W v1 (.slice A2 l.length c2) l l) ∧ Aside0 (Kd.C (Kd.int .u8) W A8 l.length l))) (first | exact held2 HT14.out HC14.out | exact held2 HT13.out HC13.out | exact held2 HT12.out HC12.out | exact held2 HTd.out HCd.out)
          (first
            | (go_at_call 12; refine (bytes_calls HT12.out.a hL).mono ?_; rintro e w13 ⟨v13, rfl, hr13, hb13⟩; have HT13 := Aside0.mk (two_below HT12.out hb13); have HC13 := Aside0.mk (Kd.C_below HC12.out hb13); obtain ⟨A13, c13, rfl, hc13, hC13⟩ := own_C hr13 hL3; have HD13 := Aside0.mk hC13; clear hb13 hr13 hC13)
            | (go_at_call 16; refine (tidelinelaw01_sameBytes.calls A8 c8 l A2 c2 l true _ HCd.out hc8 ?_ hc2 (same_self l)).mono ?_; (obtain ⟨Ax, cx, ex, _, hCx⟩ := own_C HTd.out.b.row hL3; cases ex; exact hCx); rintro e w12 ⟨rfl, hd12⟩; have HT12 := Aside0.mk (two_below HTd.out hd12.below); have HC12 := Aside0.mk (Kd.C_below HCd.out hd12.below); clear hd12)
            | (go_at_call 16; refine (tidelinelaw01_sameBytes.calls A13 c13 l A2 c2 l true _ HD13.out hc13 ?_ hc2 (same_self l)).mono ?_; (obtain ⟨Ax, cx, ex, _, hCx⟩ := own_C HT13.out.b.row hL3; cases ex; exact hCx); rintro e w14 ⟨rfl, hd14⟩; have HT14 := Aside0.mk (two_below HT13.out hd14.below); have HC14 := Aside0.mk (Kd.C_below HC13.out hd14.below); clear hd14))
        go_wp2
        go_ret
        exact ⟨rfl, HBb.out.trans (HT14.out.be.mono HBb.out.size)⟩
end Go.Proofs.Ytcfiobhebakhlab.PAll
