-- By wip/late.py (a program of this session) out of wip/words.
import Derived.Test.YtcfiobhebakhlabProg
import Derived.Test.YtcfiobhebakhlabWWords
import Derived.Test.YtcfiobhebakhlabWLast
import Derived.Test.YtcfiobhebakhlabWMore
import Derived.Test.YtcfiobhebakhlabPAllx0
import Derived.Test.YtcfiobhebakhlabPAllx1
import Derived.Test.YtcfiobhebakhlabSRdTwo
import Derived.Test.YtcfiobhebakhlabSRdSame
import Derived.Test.YtcfiobhebakhlabSRdNew
import Derived.Test.YtcfiobhebakhlabSWrNums
import Derived.Test.YtcfiobhebakhlabSWrTwo
import Derived.RangeFuncBox
import Derived.Maps.AppendAt
import Derived.Deep.AppendSrc
import Derived.Deep.Upon
import Derived.BigQuiet
import Derived.Deep.QuietTactic
import Derived.Lib.Hide
import Derived.Tactics
import Derived.WalkKit
import Derived.OwnWalk
import Derived.Test.YtcfiobhebakhlabSRdP
set_option linter.unusedVariables false
set_option linter.unusedSimpArgs false
namespace Go.Proofs.Ytcfiobhebakhlab.PAll
open Go.RowKit Go.Proofs.YtcfiobhebakhlabW.PrintWords Go.Proofs.YtcfiobhebakhlabW.PrintLast Go.Proofs.YtcfiobhebakhlabW.PrintMore Go.Proofs.Ytcfiobhebakhlab.Pure Go.Proofs.Ytcfiobhebakhlab.Wr Go.Proofs.Ytcfiobhebakhlab.Rd
open Classical in
noncomputable def tidelinelaw01_NumsReads.f (k : Nat) (l0 : List Int) (l1 : List S34) : Option Bool := (tidelinelaw01_beyond.f k l1).bind fun b => if b = true then some true else if 2147483647 < (l0.length : Int) then some true else if (∀ x ∈ l0, 0 ≤ x ∧ x < 256) ∧ (∀ x ∈ l1, -9223372036854775808 ≤ x.f1 ∧ x.f1 ≤ 9223372036854775807) then (tidelinelaw01_spoil.f k l0).bind fun _ => some true else none
theorem rd_memR {l : List S34} {j : Nat} (h : j < l.length) : rd_T34 l (j : Int) ∈ l := by
  simp only [rd_T34, Int.toNat_natCast]
  rw [List.getD_eq_getElem?_getD, List.getElem?_eq_getElem h]
  exact List.getElem_mem h
theorem same_selfR (l : List Int) : tidelinelaw01_sameBytes.f l l = some true := by simp [tidelinelaw01_sameBytes.f]
theorem readsMeasure (n j : Nat) (hj : j < n) (hw : wrap64 ((j : Int) + 1) = ((j + 1 : Nat) : Int)) : n - (intOf (Value.int .i64 (wrap64 ((j : Int) + 1)))).toNat < n - (intOf (Value.int .i64 (j : Int))).toNat := by
  rw [hw]
  simp only [intOf]
  omega
/-- 'in := []byte{}', and b appended. -/
theorem in_run (w : World) {A : Option Addr} {c : Nat} {l : List Int} (h : Kd.C (Kd.int .u8) w A l.length l) (hl : l.length ≤ 2147483647) :
    ∃ A' c' w1, (∀ ty, (Builtin.append_ #[29, 29] ty #[.slice (some ⟨w.heap.size, 0, none⟩) 0 0, .slice A l.length c]).run Try.prog (w.alloc (.cells #[] 5)) = .ok (.slice A' l.length c') w1) ∧ w1.ownsRow w.heap.size 5 1 (.slice A' l.length c') l.length (bv l) ∧ Below w.heap.size w w1 := by
  obtain ⟨i0, hi, hz0, hz1, hz2⟩ := infoB
  have hb0 : Below w.heap.size w (w.alloc (.cells #[] 5)) := below_alloc (Below.refl _ _) _
  have hown : (w.alloc (.cells #[] 5)).ownsRow w.heap.size 5 1 (.slice (some ⟨w.heap.size, 0, none⟩) 0 0) 0 [] := ⟨rfl, .inr ⟨w.heap.size, 0, #[], rfl, Nat.le_refl _, heap_alloc_new _ _, Nat.le_refl _, by decide, rfl, rfl⟩⟩
  obtain ⟨v', w1, hr, h1, h2, h3⟩ := run_append_own_src (P := Try.prog) (w.alloc (.cells #[] 5)) w.heap.size 29 29 29 5 i0 (.int .u8 0) 1 1 Try.underlying29 hi hz0 hz1 hz2 rfl (by decide) (.slice (some ⟨w.heap.size, 0, none⟩) 0 0) 0 [] hown (.slice A l.length c) l.length (bv l) (C_src (Kd.C_below h hb0)) (by simp only [maxLen]; omega) (by omega) hb0.size
  rw [Nat.zero_add, List.nil_append] at h1
  obtain ⟨A', c', rfl⟩ := own_shape h1
  refine ⟨A', c', w1, fun ty => hr, h1, hb0.trans ⟨h2.os, h2.tape, h2.output, h2.size, fun k hk => h2.block k (Nat.lt_of_lt_of_le hk hb0.size) ?_⟩⟩
  intro e
  have : w.heap.size = k := by simpa [Value.ownBlock] using e.symm
  omega
theorem own_CA {W : World} {base : Nat} {A : Option Addr} {c : Nat} {l : List Int} (h : W.ownsRow base 5 1 (.slice A l.length c) l.length (bv l)) (hl : l.length ≤ 9223372036854775807) : Kd.C (Kd.int .u8) W A l.length l := by
  obtain ⟨A', c', ev, _, hC⟩ := own_C h hl
  cases ev
  exact hC
theorem own_cap {W : World} {base : Nat} {A : Option Addr} {c : Nat} {l : List Int} (h : W.ownsRow base 5 1 (.slice A l.length c) l.length (bv l)) (hl : l.length ≤ 9223372036854775807) : l.length ≤ c := by
  obtain ⟨A', c', ev, hc, _⟩ := own_C h hl
  cases ev
  exact hc
theorem own_lt {W : World} {base : Nat} {v : Value} {n : Nat} {xs : List Value} (h : W.ownsRow base 5 1 v n xs) {g : Nat} (hg : v.ownBlock = some g) : g < W.heap.size := by
  obtain ⟨cells, hc⟩ := own_typed h g hg
  exact blk_lt hc
set_option maxRecDepth 100000 in
set_option maxHeartbeats 4000000 in
theorem tidelinelaw01_NumsReads.calls (k : Nat) (A0 : Option Addr) (c0 : Nat) (l0 : List Int) (A1 : Option Addr) (c1 : Nat) (l1 : List S34) (r : Bool) (w : World) (hr0 : Kd.C (Kd.int .u8) w A0 l0.length l0) (hc0 : l0.length ≤ c0) (hr1 : Kd.C k34 w A1 l1.length l1) (hc1 : l1.length ≤ c1) (h : tidelinelaw01_NumsReads.f k l0 l1 = some r) :
    Calls Try.prog 6 #[.slice A0 l0.length c0, .slice A1 l1.length c1] w fun e w' => e = .returned (.bool r) ∧ Below w.heap.size w w' := by
  unfold tidelinelaw01_NumsReads.f at h
  obtain ⟨b, hb, h⟩ := Option.bind_eq_some_iff.1 h
  have Ab := Aside0.mk hb
  have HR0 := Aside0.mk hr0
  have HR1 := Aside0.mk hr1
  clear hr0 hr1 hb
  cases b with
  | true =>
    obtain rfl : true = r := by simpa using h
    clear h
    go_enter Try.func6, Try.ntmps6
    go_wp2_with (go_at_call 8; refine (tidelinelaw01_beyond.calls k A1 c1 l1 true _ HR1.out hc1 Ab.out).mono ?_; rintro e wb ⟨rfl, hdb⟩; have HBb := Aside0.mk hdb.below; clear hdb)
    go_ret
    exact ⟨rfl, HBb.out⟩
  | false =>
    rw [if_neg (by decide)] at h
    by_cases hg : 2147483647 < (l0.length : Int)
    · rw [if_pos hg] at h
      obtain rfl : true = r := by simpa using h
      have d1 : decide (2147483647 < (l0.length : Int)) = true := decide_eq_true hg
      have d2 : decide (2147483647 < l0.length) = true := decide_eq_true (by omega)
      clear h hg
      go_enter Try.func6, Try.ntmps6
      go_wp2_with (go_at_call 8; refine (tidelinelaw01_beyond.calls k A1 c1 l1 false _ HR1.out hc1 Ab.out).mono ?_; rintro e wb ⟨rfl, hdb⟩; have HBb := Aside0.mk hdb.below; clear hdb)
      go_ret
      exact ⟨rfl, HBb.out⟩
    rw [if_neg hg] at h
    by_cases hk : (∀ x ∈ l0, 0 ≤ x ∧ x < 256) ∧ (∀ x ∈ l1, -9223372036854775808 ≤ x.f1 ∧ x.f1 ≤ 9223372036854775807)
    case neg => rw [if_neg hk] at h; cases h
    rw [if_pos hk] at h
    obtain ⟨u, hs, h⟩ := Option.bind_eq_some_iff.1 h
    obtain rfl : true = r := by simpa using h
    have As := Aside0.mk hs
    have AK := Aside0.mk hk
    have d1 : decide (2147483647 < (l0.length : Int)) = false := decide_eq_false hg
    have d2 : decide (2147483647 < l0.length) = false := decide_eq_false (by omega)
    have HL : Aside0 (l0.length ≤ 2147483647) := ⟨by omega⟩
    have HL2 : Aside0 (l0.length ≤ 1099511627776 ∧ l0.length ≤ 9223372036854775807) := ⟨by omega⟩
    clear h hs hk hg
    go_enter Try.func6, Try.ntmps6
    go_wp2_with (first
      | (go_at_call 8; refine (tidelinelaw01_beyond.calls k A1 c1 l1 false _ HR1.out hc1 Ab.out).mono ?_; rintro e wb ⟨rfl, hdb⟩; have HBb := Aside0.mk hdb.below; have HC0 := Aside0.mk (Kd.C_below HR0.out hdb.below); clear hdb; obtain ⟨A3, c3, w3, hr3, h3, hb3⟩ := in_run wb (c := c0) HC0.out HL.out; have H3 := Aside0.mk h3; have HB3 := Aside0.mk hb3; have HC3 := Aside0.mk (Kd.C_below HC0.out hb3); clear h3 hb3)
      | ((with_reducible refine gate_dst (N := 19) rfl ?_); refine Lib.wpList_append_run _ rfl _ _ 29 29 rfl _ _ rfl rfl _ _ (hr3 _) ?_)
      | (go_at_call 27; refine (rnewr_calls HC3.out HL2.out.1 AK.out.1).mono ?_; rintro e w4 ⟨B2, A4, c4, rfl, hr4, hb4⟩; have HD4 := Aside0.mk hr4; have HB4 := Aside0.mk hb4; have HC4 := Aside0.mk (Kd.C_below HC3.out hb4); have H4 := Aside0.mk (pw_own_below H3.out hb4); clear hr4 hb4)
      | (go_at_call 22; refine (newr_calls (own_CA H4.out HL2.out.2) HL2.out.1 AK.out.1).mono ?_; rintro e w5 ⟨B1, A5, c5, rfl, hr5, hb5⟩; have HT5 : Aside0 (TwoR wb.heap.size w4.heap.size w3.heap.size wb B1 B2 w5 A5 c5 A4 c4 l0 0 0 0 0) := ⟨⟨hr5, HD4.out.below hb5, HB3.out.trans ((HB4.out.trans (hb5.mono HB4.out.size)).mono HB3.out.size), Nat.le_trans HB3.out.size HB4.out.size, HB3.out.size⟩⟩; have HS4 : Aside0 (w3.heap.size ≤ w4.heap.size) := ⟨HB4.out.size⟩; have HC5 := Aside0.mk (Kd.C_below HC4.out hb5); have H5 := Aside0.mk (pw_own_below H4.out hb5); clear hr5 hb5)
      | (go_at_call 28; refine (same_calls HT5.out).mono ?_; rintro e w6 ⟨rfl, hd6⟩; have HT6 := Aside0.mk (HT5.out.drawn hd6); have HC6 := Aside0.mk (Kd.C_below HC5.out hd6.below); have H6 := Aside0.mk (pw_own_below H5.out hd6.below); clear hd6)
      | (go_at_call 16; refine (tidelinelaw01_sameBytes.calls A3 c3 l0 A0 c0 l0 true _ (own_CA H6.out HL2.out.2) (own_cap H6.out HL2.out.2) HC6.out hc0 (same_selfR l0)).mono ?_; rintro e w7 ⟨rfl, hd7⟩; have HT7 := Aside0.mk (HT6.out.drawn hd7); have H7 := Aside0.mk (pw_own_below H6.out hd7.below); clear hd7)
      | (go_at_call 17; refine (tidelinelaw01_spoil.calls k (fun q => (Value.slice A3 l0.length c3).ownBlock = some q) (.slice A3 l0.length c3) l0 wb w7 HT7.out.be (own_R H7.out) As.out).mono ?_; rintro e w8 ⟨rfl, hb8, hk8⟩; have HT8 := Aside0.mk (HT7.out.kept hk8 hb8 (fun g hg => Nat.lt_of_lt_of_le (own_lt H3.out hg) HS4.out) (fun g hg => own_lt H3.out hg)); clear hb8 hk8))
    clear HC4 H4 HC5 H5 HT5 HC6 H6 HT6 H7 HT7 hr3
    go_loopw [8] (fun s8 wr => ∃ (j p : Nat) (e : Int), s8 = .int .i64 (j : Int) ∧ j ≤ l1.length ∧ TwoR wb.heap.size w4.heap.size w3.heap.size wb B1 B2 wr A5 c5 A4 c4 l0 p e p e) (fun s8 _ => l1.length - (intOf s8).toNat)
    case atStart => exact ⟨0, 0, 0, rfl, by omega, HT8.out⟩
    case round =>
      obtain ⟨j, p, er, rfl, hj, ht⟩ := hrel
      have HT := Aside0.mk ht
      clear ht HT8
      by_cases h1 : (j : Int) < (l1.length : Int)
      · have b1 : decide (j < l1.length) = true := decide_eq_true (by omega)
        have b2 : decide ((j : Int) < (l1.length : Int)) = true := decide_eq_true h1
        have hj' : j < l1.length := by omega
        obtain ⟨ad, e0, x0, x1, x2, x3, x4⟩ := at_T34 (Kd.C_below HR1.out (HBb.out.trans (HT.out.be.mono HBb.out.size))) (j : Int) (Int.natCast_nonneg j) h1
        cases e0
        simp only [Int.toNat_natCast] at x0 x1 x2 x3 x4
        have p0 : (0 ≤ (j : Int)) = True := eq_true (Int.natCast_nonneg j)
        have q0 : ((j : Int) < (l1.length : Int)) = True := eq_true h1
        have O := Aside0.mk (AK.out.2 _ (rd_memR hj'))
        have hlen : l1.length ≤ 9223372036854775807 := HR1.out.2.1
        have hw64 : wrap64 ((j : Int) + 1) = ((j + 1 : Nat) : Int) := by clear x0 x1 x2 x3 x4; unfold wrap64; omega
        clear hlen
        go_wp2_with (first
          | (go_at_call 29; (with_reducible refine (read_calls _ _ _ _ _ O.out.1 O.out.2 HT.out).mono ?_); rintro x w9 ⟨rfl, p9, e9, h9⟩; have HT9 := Aside0.mk h9; clear h9 x0 x1 x2 x3 x4)
          | (go_at_call 28; refine (same_calls HT9.out).mono ?_; rintro x w10 ⟨rfl, hd10⟩; have HT10 := Aside0.mk (HT9.out.drawn hd10); clear hd10))
        go_roundw
        case rel => exact ⟨j + 1, _, _, by rw [hw64], hj', HT10.out⟩
        case measure => exact readsMeasure _ _ hj' hw64
      · have b1 : decide (j < l1.length) = false := decide_eq_false (by omega)
        have b2 : decide ((j : Int) < (l1.length : Int)) = false := decide_eq_false h1
        go_wp2
        go_ret
        exact ⟨rfl, HBb.out.trans (HT.out.be.mono HBb.out.size)⟩
end Go.Proofs.Ytcfiobhebakhlab.PAll
