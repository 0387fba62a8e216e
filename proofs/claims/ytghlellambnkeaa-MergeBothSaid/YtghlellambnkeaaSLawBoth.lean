-- By wip/late.py (a program of this session) out of wip/words.
import Derived.Test.YtghlellambnkeaaProg
import Derived.Test.YtghlellambnkeaaWWords
import Derived.Test.YtghlellambnkeaaWLast
import Derived.Test.YtghlellambnkeaaWMore
import Derived.Test.YtghlellambnkeaaPAllx0
import Derived.Test.YtghlellambnkeaaPAllx3
import Derived.Test.YtghlellambnkeaaPAllx4
import Derived.Test.YtghlellambnkeaaPAllx5
import Derived.Test.YtghlellambnkeaaPAllx6
import Derived.Test.YtghlellambnkeaaSMergeA
import Derived.Test.YtghlellambnkeaaSMerge
import Derived.Test.YtghlellambnkeaaSBeyond
import Derived.Test.YtghlellambnkeaaSCopied
import Derived.Test.YtghlellambnkeaaSBoth
import Derived.Test.YtghlellambnkeaaSBothL
import Derived.Sort.CutIn
import Derived.RangeFuncCalls
import Derived.RangeFuncBox
import Derived.OwnWalkIn
import Derived.BigRegion
import Derived.RegionTactic
import Derived.BigQuiet
import Derived.Deep.QuietTactic
import Derived.Lib.Hide
set_option linter.unusedVariables false
set_option linter.unusedSimpArgs false
namespace Go.Proofs.Ytghlellambnkeaa.PAll
open Go.RowKit Go.Shelf Go.Proofs.YtghlellambnkeaaW.PrintWords Go.Proofs.Ytghlellambnkeaa.MergeW
open Classical in
noncomputable def tidelinelaw09_MergeBoth.f (k : Nat) (a b : List S44) (stop : Int) : Option Bool := (tidelinelaw09_beyond.f k [a, b]).bind fun t => if t = true then some true else
  (tidelineref09_Pairs.f k a b).bind fun want => (merge_check.f k a b).bind fun e0 => (tidelinelaw09_same.f k a a).bind fun s4 => (tidelinelaw09_same.f k b b).bind fun s5 => (tidelinelaw09_spoil.f k a).bind fun _ => (tidelinelaw09_spoil.f k b).bind fun _ =>
  if a.length ≤ 2513169434843 ∧ b.length ≤ 2513169434843 ∧ s4 = true ∧ s5 = true ∧ want = (if e0 = 0 then mp a b else []).map pairT then some true else none
theorem eq_func (w : World) (x y : Value) : (binOp .eql 39 (.func (.func 53) #[] #[x, y]) .nilFunc).run Try.prog w = .ok (.bool false) w := by kernel_rfl
theorem room_own {W : World} {g : Nat} {l : List S44} {base : Nat} (h : Room W g l) (hb : base ≤ g) (hl : l.length ≤ 2513169434843) : W.ownsRow base 44 5 (.slice (some ⟨g, 0, none⟩) l.length (l.length + 2)) l.length (rowE l) := by
  obtain ⟨cur, h1, h2⟩ := h
  have hz : cur.toList.length = (l.length + 2) * 5 := by rw [h2, rowE_len]; simp
  refine ⟨rowE_len l, .inr ⟨g, l.length + 2, cur, rfl, hb, h1, by omega, by simp only [maxLen]; omega, by rw [← Array.length_toList]; exact hz, ?_⟩⟩
  rw [h2, rowE_app]
  exact List.take_left' (rowE_len l)
theorem room_R {W : World} {g : Nat} {l : List S44} {base : Nat} (h : Room W g l) (hb : base ≤ g) (hl : l.length ≤ 2513169434843) : Kd.R k44 44 W base (fun k => k = g) (.slice (some ⟨g, 0, none⟩) l.length (l.length + 2)) l :=
  ⟨fun k hk => by simpa [Value.ownBlock] using hk.symm, rowE l, room_own h hb hl, reps_rowE (fun x => k44_mkM _ _ _ x) l⟩
set_option maxRecDepth 100000 in
set_option maxHeartbeats 8000000 in
theorem both_law (k : Nat) (A0 : Option Addr) (c0 : Nat) (a : List S44) (A1 : Option Addr) (c1 : Nat) (b : List S44) (stop : Int) (r : Bool) (w : World) (hr0 : Kd.C k44 w A0 a.length a) (hc0 : a.length ≤ c0) (hr1 : Kd.C k44 w A1 b.length b) (hc1 : b.length ≤ c1) (h : tidelinelaw09_MergeBoth.f k a b stop = some r) :
    CallsIn Fence.wide 6 Try.prog 5 #[.slice A0 a.length c0, .slice A1 b.length c1, .int .i64 stop] w fun e w' => e = .returned (.bool r) ∧ Below w.heap.size w w' := by
  unfold tidelinelaw09_MergeBoth.f at h
  have g_ := Option.bind_eq_some_iff.1 h; clear h; obtain ⟨t, hb, h⟩ := g_
  have Ab := Aside0.mk hb
  clear hb
  have RA := Aside0.mk hr0
  have RB := Aside0.mk hr1
  clear hr0 hr1
  refine callsIn_of_wp_marks Try.func5 rfl trivial ?_ rfl
  simp only [Try.ntmps5, List.size_toArray, List.length_cons, List.length_nil, Nat.reduceAdd, Nat.reduceSub, Array.replicate_succ, Array.replicate_zero, List.push_toArray, List.append_toArray, List.nil_append, List.cons_append]
  refine wpIn_wide.2 ?_
  cases t with
  | true =>
    obtain rfl : true = r := by simpa using h
    clear h
    go_wp2_with (first | ((with_reducible refine gate_dst (N := 5) rfl ?_); refine box_event ?hg (N := 5) ?hd (cs := #[.int .i64 stop]) (t := 3) ?hr ?_; (case hd => rfl); (case hg => rfl); (case hr => first | (go_simp; done) | (go_simp; rfl)); intro gs hgs w0 hbox hb0; have HB0 := Aside0.mk hb0; clear hgs hb0) | ((with_reducible refine gate_dst (N := 6) rfl ?_); refine box_event ?hg (N := 6) ?hd (cs := #[.bool false]) (t := 4) ?hr ?_; (case hd => rfl); (case hg => rfl); (case hr => first | (go_simp; done) | (go_simp; rfl)); intro gr hgr w0' hbox' hb0'; have HB0' := Aside0.mk (HB0.out.trans (hb0'.mono HB0.out.size)); have HR0 := Aside0.mk hbox'; have HG := Aside0.mk (show w.heap.size ≤ gr by rw [hgr]; exact HB0.out.size); clear hgr hb0' hbox') | (go_at_call 12; refine (tidelinelaw09_beyond2.callsL k A0 c0 a A1 c1 b true _ (Kd.C_below RA.out HB0'.out) hc0 (Kd.C_below RB.out HB0'.out) hc1 Ab.out).mono ?_; rintro e w1 ⟨rfl, hb1⟩; have g6 := blk_below (blk_alloc HR0.out _) hb1; have c6 : w1.cell? ⟨gr, 0, none⟩ = some (.bool false) := (blk_cell g6 0).trans rfl; have f6 := blk_frozen g6 0; have HB1 := Aside0.mk ((below_alloc HB0'.out _).trans (hb1.mono (by have := HB0'.out.size; simp; omega))); have G6 := Aside0.mk g6; clear hb1 g6))
    have q6 : (w1.setCell ⟨gr, 0, none⟩ (.bool true)).cell? ⟨gr, 0, none⟩ = some (.bool true) := (blk_cell (blk_put G6.out 0 _ rfl) 0).trans rfl
    exact ⟨.bool true, by simp [results, Try.f5, go_sem, q6], rfl, HB1.out.setCell HG.out _⟩
  | false =>
    rw [if_neg (by decide)] at h
    have g_ := Option.bind_eq_some_iff.1 h; clear h; obtain ⟨want, hw, h⟩ := g_
    have g_ := Option.bind_eq_some_iff.1 h; clear h; obtain ⟨e0, hk, h⟩ := g_
    have g_ := Option.bind_eq_some_iff.1 h; clear h; obtain ⟨s4, hs4, h⟩ := g_
    have g_ := Option.bind_eq_some_iff.1 h; clear h; obtain ⟨s5, hs5, h⟩ := g_
    have g_ := Option.bind_eq_some_iff.1 h; clear h; obtain ⟨_, hp1, h⟩ := g_
    have g_ := Option.bind_eq_some_iff.1 h; clear h; obtain ⟨_, hp2, h⟩ := g_
    by_cases hc : a.length ≤ 2513169434843 ∧ b.length ≤ 2513169434843 ∧ s4 = true ∧ s5 = true ∧ want = (if e0 = 0 then mp a b else []).map pairT
    · rw [if_pos hc] at h
      obtain ⟨la, lb, rfl, rfl, hwant⟩ := hc
      obtain rfl : true = r := by simpa using h
      clear h
      have AW := Aside0.mk hw
      have AK := Aside0.mk hk
      have A4 := Aside0.mk hs4
      have A5 := Aside0.mk hs5
      have P1 := Aside0.mk hp1
      have P2 := Aside0.mk hp2
      have AQ := Aside0.mk hwant
      clear hw hk hs4 hs5 hp1 hp2 hwant
      go_wp2_with (first
        | ((with_reducible refine gate_dst (N := 5) rfl ?_); refine box_event ?hg (N := 5) ?hd (cs := #[.int .i64 stop]) (t := 3) ?hr ?_; (case hd => rfl); (case hg => rfl); (case hr => first | (go_simp; done) | (go_simp; rfl)); intro gs hgs w0 hbox hb0; have HB0 := Aside0.mk hb0; have HS0 := Aside0.mk hbox; clear hgs hb0 hbox)
        | ((with_reducible refine gate_dst (N := 6) rfl ?_); refine box_event ?hg (N := 6) ?hd (cs := #[.bool false]) (t := 4) ?hr ?_; (case hd => rfl); (case hg => rfl); (case hr => first | (go_simp; done) | (go_simp; rfl)); intro gr hgr w0' hbox' hb0'; have HB0' := Aside0.mk (HB0.out.trans (hb0'.mono HB0.out.size)); have HR0 := Aside0.mk hbox'; have HS1 := Aside0.mk (blk_below HS0.out hb0'); have HG := Aside0.mk (show w.heap.size ≤ gr by rw [hgr]; exact HB0.out.size); clear hgr hb0' hbox' HS0)
        | (go_at_call 12; refine (tidelinelaw09_beyond2.callsL k A0 c0 a A1 c1 b false _ (Kd.C_below RA.out HB0'.out) hc0 (Kd.C_below RB.out HB0'.out) hc1 Ab.out).mono ?_; rintro e w1 ⟨rfl, hb1⟩; have HB1 := Aside0.mk ((below_alloc HB0'.out _).trans (hb1.mono (by have := HB0'.out.size; simp; omega))); have R1 := Aside0.mk (blk_below (blk_alloc HR0.out _) hb1); have S1 := Aside0.mk (blk_below (blk_alloc HS1.out _) hb1); clear hb1 HR0 HS1)
        | (go_at_call 13; (with_reducible refine (copied_calls A0 c0 a _ (Kd.C_below RA.out HB1.out) hc0 la).mono ?_); rintro e w2 ⟨g, rfl, hg1, hg2, hR, hb2⟩; have HC2 := Aside0.mk hb2; have RX2 := Aside0.mk hR; have G1 := Aside0.mk hg1; have G2 := Aside0.mk hg2; clear hR hb2 hg1 hg2)
        | (go_at_call 13; (with_reducible refine (copied_calls A1 c1 b _ (Kd.C_below RB.out (HB1.out.trans (HC2.out.mono HB1.out.size))) hc1 lb).mono ?_); rintro e w3 ⟨g', rfl, hg1, hg2, hR, hb3⟩; have HC3 := Aside0.mk (HC2.out.trans (hb3.mono HC2.out.size)); have RY3 := Aside0.mk hR; have RX3 := Aside0.mk (RX2.out.below hb3); have G1' := Aside0.mk hg1; have G2' := Aside0.mk hg2; have Z2 := Aside0.mk HC2.out.size; clear hR hb3 hg1 hg2 RX2 HC2)
        | (go_at_call 22; (with_reducible refine (tidelineref09_Pairs.calls k A0 c0 a A1 c1 b want _ (Kd.C_below RA.out (HB1.out.trans (HC3.out.mono HB1.out.size))) hc0 (Kd.C_below RB.out (HB1.out.trans (HC3.out.mono HB1.out.size))) hc1 AW.out).mono ?_); rintro e w4 ⟨v4, rfl, hr4, hb4⟩; have HC4 := Aside0.mk (HC3.out.trans (hb4.mono HC3.out.size)); have RX4 := Aside0.mk (RX3.out.below hb4); have RY4 := Aside0.mk (RY3.out.below hb4); have HW4 := Aside0.mk (Kd.R_mono (Kd.R_bound hr4) (ok' := fun j => w3.heap.size ≤ j ∧ j < w4.heap.size) (fun j hj => ⟨hj.2.1, hj.2.2.1⟩)); have Z3 := Aside0.mk HC3.out.size; have Z4 := Aside0.mk hb4.size; clear hb4 hr4 HC3 RX3 RY3; obtain ⟨Aw, cw, ew⟩ := Kd.R_slice HW4.out; subst ew)
        | (go_at_call 23; refine (both_calls k _ _ _ _ a b _ ((RX4.out.below (below_alloc (Below.refl _ _) _)).slice (by omega)) (by omega) ((RY4.out.below (below_alloc (Below.refl _ _) _)).slice (by omega)) (by omega) la lb e0 AK.out).mono ?_; rintro e w5 ⟨l1, l2, Ba, Bb, B1, d1, B2, d2, rfl, hmp, hL, hb5⟩; have hz := World.size_alloc w4 (.cells #[.slice Aw want.length cw] 36); have HB5 := Aside0.mk ((below_alloc (Below.refl _ _) _).trans (hb5.mono (by rw [hz]; omega))); have GW5 := Aside0.mk (blk_below (heap_alloc_new w4 (.cells #[.slice Aw want.length cw] 36)) hb5); rw [hz] at hL; have HL5 := Aside0.mk hL; have HMP := Aside0.mk hmp; clear hL hmp hb5 hz; have q39 := eq_func)
        | (go_at_call 16; (with_reducible refine (kept_calls k g A0 c0 a _ (RX4.out.below HB5.out) (Kd.C_below RA.out (HB1.out.trans ((HC4.out.trans (HB5.out.mono HC4.out.size)).mono HB1.out.size))) hc0 la A4.out).mono ?_); rintro e w6 ⟨rfl, hb6⟩; have HB6 := Aside0.mk (HB5.out.trans (hb6.mono HB5.out.size)); have HC6 := Aside0.mk hb6; clear hb6)
        | (go_at_call 16; (with_reducible refine (kept_calls k g' A1 c1 b _ (RY4.out.below HB6.out) (Kd.C_below RB.out (HB1.out.trans ((HC4.out.trans (HB6.out.mono HC4.out.size)).mono HB1.out.size))) hc1 lb A5.out).mono ?_); rintro e w7 ⟨rfl, hb7⟩; have HB7 := Aside0.mk (HB6.out.trans (hb7.mono HB6.out.size)); have HC7 := Aside0.mk (HC6.out.trans (hb7.mono HC6.out.size)); have RX7 := Aside0.mk (RX4.out.below HB7.out); have RY7 := Aside0.mk (RY4.out.below HB7.out); have HD7 := Aside0.mk (HC4.out.trans (HB7.out.mono HC4.out.size)); clear hb7 HB5 HB6 HC6)
        | (go_at_call 21; (with_reducible refine (tidelinelaw09_spoil.calls k (fun j => j = g) _ a w1 _ HD7.out (room_R RX7.out G1.out la) P1.out).mono ?_); rintro e w8 ⟨rfl, hb8, hk8⟩; have HD8 := Aside0.mk hb8; have HK8 := Aside0.mk hk8; have RY8 := Aside0.mk (RY7.out.keep (hk8.2 g' (Nat.lt_of_lt_of_le G2'.out (by have h1 := Z4.out; have h2 := HB7.out.size; omega)) (fun e => by have h1 := G2.out; have h2 := G1'.out; omega))); clear hb8 hk8)
        | (go_at_call 21; (with_reducible refine (tidelinelaw09_spoil.calls k (fun j => j = g') _ b w1 _ HD8.out (room_R RY8.out (by have h1 := G1'.out; have h2 := Z2.out; omega) lb) P2.out).mono ?_); rintro e w9 ⟨rfl, hb9, hk9⟩; have HD9 := Aside0.mk hb9; have HK9 := Aside0.mk hk9; clear hb9 hk9))
      have zz2 := Z2.out
      have zz3 := Z3.out
      have zz4 := Z4.out
      have gg1 := G1.out
      have gg2 := G2.out
      have gg1' := G1'.out
      have gg2' := G2'.out
      have zz7 := HB7.out.size
      have zz57 := HC7.out.size
      have lGW := blk_lt GW5.out
      have keep : ∀ j, j < w7.heap.size → j ≠ g → j ≠ g' → w9.heap[j]? = w7.heap[j]? := fun j h1 h2 h3 => (HK9.out.2 j (Nat.lt_of_lt_of_le h1 HK8.out.1) h3).trans (HK8.out.2 j h1 h2)
      have hs := blk_below S1.out HD9.out
      have hgr := blk_below R1.out HD9.out
      have hw := (keep w4.heap.size (by omega) (by omega) (by omega)).trans (blk_below GW5.out HC7.out)
      have hrow := (Kd.R_reads' (Kd.R_step (Kd.R_below HW4.out HB7.out) (fun j (hj : w3.heap.size ≤ j ∧ j < w4.heap.size) hlt => keep j hlt (by omega) (by omega)))).2.2
      have hL := HL5.out.keep (W' := w9) (fun j h1 h2 => (keep j (by omega) (by omega) (by omega)).trans (HC7.out.block j h2))
      have hwant : want = (mp l1 l2).map pairT := by rw [HMP.out]; exact AQ.out
      have hlen : want.length ≤ 5026338869686 := by
        rw [AQ.out, List.length_map]
        have := mp_len a b
        split
        · omega
        · simp
      clear keep
      refine (wpIn_wide (n := 6)).1 ?_
      refine both_loop _ w9 l1 l2 B1 B2 d1 d2 Ba Bb stop gs gr w4.heap.size want Aw cw hs hgr hw hrow hL.rows.1 hL.rows.2 hL.1 hL.2.1 hwant hlen _ (below_alloc (Below.refl _ _) _) w9.heap.size (heap_alloc_new _ _) (Nat.le_refl _) ?_
      intro Ds b11 _ _ _ _ _ _ _ _ _ _ _ _ _ _ _ _ _ _ _ _ _ W' hM hB'
      have g6 := blk_below hgr hB'
      have c6 : W'.cell? ⟨gr, 0, none⟩ = some (.bool false) := (blk_cell g6 0).trans rfl
      have f6 := blk_frozen g6 0
      have q6 : (W'.setCell ⟨gr, 0, none⟩ (.bool true)).cell? ⟨gr, 0, none⟩ = some (.bool true) := (blk_cell (blk_put g6 0 _ rfl) 0).trans rfl
      have hbw : Below w.heap.size w (W'.setCell ⟨gr, 0, none⟩ (.bool true)) := (HB1.out.trans ((HD9.out.trans (hB'.mono HD9.out.size)).mono HB1.out.size)).setCell HG.out _
      have hzw := HB1.out.size
      have hz9 := HD9.out.size
      have HBW := Aside0.mk hbw
      have HQ6 := Aside0.mk q6
      clear hbw q6
      dsimp only
      go_wp2
      refine leaves_marks Ds _ (hM.keep (KeepsOthers.setCell _ _ _)) (fun W'' hb hv => ?_)
      have q6 := hv _ _ HQ6.out
      exact ⟨.bool true, by simp [results, Try.f5, go_sem, q6], rfl, HBW.out.trans (hb.mono (by omega))⟩
    · rw [if_neg hc] at h; cases h
theorem tidelinelaw09_MergeBoth.calls (k : Nat) (A0 : Option Addr) (c0 : Nat) (l0 : List S44) (A1 : Option Addr) (c1 : Nat) (l1 : List S44) (a2 : Int) (r : Bool) (w : World) (hr0 : Kd.C k44 w A0 l0.length l0) (hc0 : l0.length ≤ c0) (hr1 : Kd.C k44 w A1 l1.length l1) (hc1 : l1.length ≤ c1) (h : tidelinelaw09_MergeBoth.f k l0 l1 a2 = some r) :
    Calls Try.prog 5 #[.slice A0 l0.length c0, .slice A1 l1.length c1, .int .i64 a2] w fun e w' => e = .returned (.bool r) ∧ Below w.heap.size w w' :=
  callsIn_wide.1 (both_law k A0 c0 l0 A1 c1 l1 a2 r w hr0 hc0 hr1 hc1 h)
end Go.Proofs.Ytghlellambnkeaa.PAll
