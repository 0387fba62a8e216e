-- By wip/late.py (a program of this session) out of wip/words.
import Derived.Test.YthalodnfecaccaaProg
import Derived.Test.YthalodnfecaccaaWWords
import Derived.Test.YthalodnfecaccaaWLast
import Derived.Test.YthalodnfecaccaaWMore
import Derived.Test.YthalodnfecaccaaPAllx0
import Derived.Test.YthalodnfecaccaaPAllx1
import Derived.Test.YthalodnfecaccaaSInRun
import Derived.Test.YthalodnfecaccaaSRdOf
import Derived.Test.YthalodnfecaccaaSWrBytes
import Derived.RangeFuncBox
import Derived.Maps.AppendAt
import Derived.Deep.AppendSrc
import Derived.Deep.Upon
import Derived.BigQuiet
import Derived.Deep.QuietTactic
import Derived.Lib.Hide
import Derived.Tactics
import Derived.WalkKit
import Derived.OwnWalk
import Derived.Test.YthalodnfecaccaaSRdP
import Derived.Test.YthalodnfecaccaaSNumsP
set_option linter.unusedVariables false
set_option linter.unusedSimpArgs false
namespace Go.Proofs.Ythalodnfecaccaa.PAll
open Go.RowKit Go.Proofs.YthalodnfecaccaaW.PrintWords Go.Proofs.YthalodnfecaccaaW.PrintLast Go.Proofs.YthalodnfecaccaaW.PrintMore Go.Proofs.Ythalodnfecaccaa.Pure Go.Proofs.Ythalodnfecaccaa.Wr Go.Proofs.Ythalodnfecaccaa.Rd
abbrev ofX (q : OfR) : S25 := ⟨q.k, ⟨q.cn, q.nd⟩, q.v, q.d⟩
/-- What the walk leans on: an entry's bytes are bytes, and say the entry; what says an entry is its bytes. -/
def BytesOK (x : S25) (l1 : List Int) : Prop :=
  (∀ y ∈ l1, 0 ≤ y ∧ y < 256) ∧ (∀ y ∈ putA x, 0 ≤ y ∧ y < 256) ∧ (codeE x = 0 → ofR (putA x) = ⟨x.f0, x.f1.f0, x.f1.f1, x.f2, x.f3, 0⟩) ∧ ((ofR l1).e = 0 → codeE (ofX (ofR l1)) = 0 ∧ putA (ofX (ofR l1)) = l1)
open Classical in
noncomputable def tidelinelaw03_ItemBytes.f (a0_0 : ByteArray) (a0_1 : Int) (a0_2 : Int) (a0_3 : ByteArray) (a0_4 : Bool) (l1 : List Int) : Option Bool :=
  (tidelinelaw03_long.f a0_0 a0_1 a0_2 a0_3 a0_4).bind fun b => if b = true then some true else if 1073741824 < (l1.length : Int) then some true else if BytesOK ⟨a0_0, ⟨a0_1, a0_2⟩, a0_3, a0_4⟩ l1 then some true else none
theorem sameB (l : List Int) : tidelinelaw03_sameBytes.f l l = some true := by simp [tidelinelaw03_sameBytes.f]
structure PB (w : World) (gb : Nat) (x : S25) (A1 : Option Addr) (l1 : List Int) (A3 : Option Addr) (W : World) : Prop where
  box : W.heap[gb]? = some (.cells #[.string x.f0, .int .i64 x.f1.f0, .int .i64 x.f1.f1, .string x.f2, .bool x.f3] 25 (0, 0))
  hb : Kd.C (Kd.int .u8) W A1 l1.length l1
  hin : Kd.C (Kd.int .u8) W A3 l1.length l1
  be : Below w.heap.size w W
theorem PB.below {w : World} {gb : Nat} {x : S25} {A1 : Option Addr} {l1 : List Int} {A3 : Option Addr} {W W' : World} (h : PB w gb x A1 l1 A3 W) (hb : Below W.heap.size W W') : PB w gb x A1 l1 A3 W' :=
  ⟨blk_below h.box hb, Kd.C_below h.hb hb, Kd.C_below h.hin hb, h.be.trans (hb.mono h.be.size)⟩
theorem PB.alloc {w : World} {gb : Nat} {x : S25} {A1 : Option Addr} {l1 : List Int} {A3 : Option Addr} {W : World} (h : PB w gb x A1 l1 A3 W) (cs : Array Value) : PB w gb x A1 l1 A3 (W.alloc (.cells cs 25)) := h.below (below_alloc (Below.refl _ _) _)
set_option maxRecDepth 100000 in
set_option maxHeartbeats 8000000 in
theorem bytes_walk (x : S25) (A1 : Option Addr) (c1 : Nat) (l1 : List Int) (w : World) (hr1 : Kd.C (Kd.int .u8) w A1 l1.length l1) (hc1 : l1.length ≤ c1) (b : Bool) (hL : tidelinelaw03_long.f x.f0 x.f1.f0 x.f1.f1 x.f2 x.f3 = some b) (h : b = true ∨ (b = false ∧ 1073741824 < (l1.length : Int)) ∨ (b = false ∧ ¬ 1073741824 < (l1.length : Int) ∧ BytesOK x l1)) :
    Calls Try.prog 10 #[.agg #[.string x.f0, .int .i64 x.f1.f0, .int .i64 x.f1.f1, .string x.f2, .bool x.f3], .slice A1 l1.length c1] w fun e w' => e = .returned (.bool true) ∧ Below w.heap.size w w' := by
  have HC := Aside0.mk hr1
  have HL := Aside0.mk hL
  clear hr1 hL
  rcases h with rfl | ⟨rfl, hg⟩ | ⟨rfl, hg, hk⟩
  · go_enter Try.func10, Try.ntmps10
    go_wp2_with (first
      | ((with_reducible refine gate_dst (N := 2) rfl ?_); refine box_event ?hg (N := 2) ?hd (cs := #[.string x.f0, .int .i64 x.f1.f0, .int .i64 x.f1.f1, .string x.f2, .bool x.f3]) (t := 25) ?hr ?_; (case hd => rfl); (case hg => rfl); (case hr => first | (go_simp; done) | (go_simp; rfl)); intro gb w0g w0 hbox hb0; have HX0 := Aside0.mk hbox; have HB0 := Aside0.mk hb0; obtain ⟨x0, x1, x2, x3, x4⟩ := five (x := x) hbox; clear w0g hbox hb0)
      | (go_at_call 11; refine (tidelinelaw03_long.calls x.f0 x.f1.f0 x.f1.f1 x.f2 x.f3 true _ HL.out).mono ?_; rintro e wb ⟨rfl, hdb⟩; have HBb := Aside0.mk (HB0.out.trans (hdb.mono HB0.out.size)); clear hdb))
    go_ret
    exact ⟨rfl, HBb.out⟩
  · have d1 : decide (1073741824 < (l1.length : Int)) = true := decide_eq_true hg
    have d2 : decide (1073741824 < l1.length) = true := decide_eq_true (by omega)
    clear hg
    go_enter Try.func10, Try.ntmps10
    go_wp2_with (first
      | ((with_reducible refine gate_dst (N := 2) rfl ?_); refine box_event ?hg (N := 2) ?hd (cs := #[.string x.f0, .int .i64 x.f1.f0, .int .i64 x.f1.f1, .string x.f2, .bool x.f3]) (t := 25) ?hr ?_; (case hd => rfl); (case hg => rfl); (case hr => first | (go_simp; done) | (go_simp; rfl)); intro gb w0g w0 hbox hb0; have HX0 := Aside0.mk hbox; have HB0 := Aside0.mk hb0; obtain ⟨x0, x1, x2, x3, x4⟩ := five (x := x) hbox; clear w0g hbox hb0)
      | (go_at_call 11; refine (tidelinelaw03_long.calls x.f0 x.f1.f0 x.f1.f1 x.f2 x.f3 false _ HL.out).mono ?_; rintro e wb ⟨rfl, hdb⟩; have HBb := Aside0.mk (HB0.out.trans (hdb.mono HB0.out.size)); clear hdb))
    go_ret
    exact ⟨rfl, HBb.out⟩
  have d1 : decide (1073741824 < (l1.length : Int)) = false := decide_eq_false hg
  have d2 : decide (1073741824 < l1.length) = false := decide_eq_false (by omega)
  have HLEN : Aside0 (l1.length ≤ 2147483647) := ⟨by omega⟩
  have HLE : Aside0 (l1.length ≤ 1099511627776 ∧ l1.length ≤ 9223372036854775807) := ⟨by omega⟩
  obtain ⟨k1, k2, k3, k4⟩ := hk
  have K1 := Aside0.mk k1
  have K2 := Aside0.mk k2
  have hlx := putA_len x
  obtain ⟨lx, hlxd⟩ : ∃ lx, lx = putA x := ⟨_, rfl⟩
  rw [← hlxd] at hlx k3 K2
  have LX := Aside0.mk hlxd
  have HLX : Aside0 (lx.length ≤ 1099511627776 ∧ lx.length ≤ 9223372036854775807) := ⟨by omega⟩
  obtain ⟨cx, hcx⟩ : ∃ cx, cx = codeE x := ⟨_, rfl⟩
  rw [← hcx] at k3
  have CX := Aside0.mk hcx
  obtain ⟨q, hq⟩ : ∃ q, q = ofR l1 := ⟨_, rfl⟩
  rw [← hq] at k4
  have HQ := Aside0.mk hq
  have K3 := Aside0.mk k3
  have K4 := Aside0.mk k4
  clear hg hlx hlxd hcx hq k1 k2 k3 k4
  by_cases hx : cx = 0
  · have K6 := Aside0.mk (K3.out hx)
    subst hx
    by_cases he : q.e = 0
    · have K5 := Aside0.mk (K4.out he)
      have e1 : (q.e == 0) = true := by simp [he]
      go_enter Try.func10, Try.ntmps10
      go_wp2_with (first
        | ((with_reducible refine gate_dst (N := 2) rfl ?_); refine box_event ?hg (N := 2) ?hd (cs := #[.string x.f0, .int .i64 x.f1.f0, .int .i64 x.f1.f1, .string x.f2, .bool x.f3]) (t := 25) ?hr ?_; (case hd => rfl); (case hg => rfl); (case hr => first | (go_simp; done) | (go_simp; rfl)); intro gb w0g w0 hbox hb0; have HX0 := Aside0.mk hbox; have HB0 := Aside0.mk hb0; obtain ⟨x0, x1, x2, x3, x4⟩ := five (x := x) hbox; clear w0g hbox hb0)
        | (go_at_call 11; refine (tidelinelaw03_long.calls x.f0 x.f1.f0 x.f1.f1 x.f2 x.f3 false _ HL.out).mono ?_; rintro e wb ⟨rfl, hdb⟩; have hdb' := hdb; have HBb := Aside0.mk (HB0.out.trans (hdb'.mono HB0.out.size)); have HXb := Aside0.mk (blk_below HX0.out hdb'); obtain ⟨A3, c3, w3, hr3, h3, hb3⟩ := in_run wb (c := c1) (Kd.C_below HC.out HBb.out) HLEN.out; have HI3 := Aside0.mk h3; have H3 : Aside0 (PB w gb x A1 l1 A3 w3) := ⟨⟨blk_below HXb.out hb3, Kd.C_below (Kd.C_below HC.out HBb.out) hb3, own_CA h3 HLE.out.2, HBb.out.trans (hb3.mono HBb.out.size)⟩⟩; clear hdb hdb' h3 hb3 x0 x1 x2 x3 x4; obtain ⟨x0, x1, x2, x3, x4⟩ := five (x := x) H3.out.box)
        | ((with_reducible refine gate_dst (N := 28) rfl ?_); refine Lib.wpList_append_run _ rfl _ _ 49 49 rfl _ _ rfl rfl _ _ (hr3 _) ?_)
        | (go_at_call 42; have hN := ebytes_calls x w3; rw [← LX.out, ← CX.out] at hN; (with_reducible refine hN.mono ?_); rintro e w4 ⟨A4, c4, rfl, hr4, hb4⟩; have H4 := Aside0.mk (H3.out.below hb4); have HX4 := Aside0.mk (own_CA hr4 HLX.out.2); have HXc := Aside0.mk (own_cap hr4 HLX.out.2); clear hN hr4 hb4 x0 x1 x2 x3 x4; obtain ⟨x0, x1, x2, x3, x4⟩ := five (x := x) H4.out.box)
        | (go_at_call 43; have hN := rebytes_calls x w4; rw [← LX.out, ← CX.out] at hN; (with_reducible refine hN.mono ?_); rintro e w5 ⟨A5, c5, rfl, hr5, hb5⟩; have H5 := Aside0.mk (H4.out.below hb5); have HX5 := Aside0.mk (Kd.C_below HX4.out hb5); have HY5 := Aside0.mk (own_CA hr5 HLX.out.2); have HYc := Aside0.mk (own_cap hr5 HLX.out.2); clear hN hr5 hb5 x0 x1 x2 x3 x4)
        | (go_at_call 30; (with_reducible refine (tidelinelaw03_sameBytes.calls A4 c4 lx A5 c5 lx true w5 HX5.out HXc.out HY5.out HYc.out (sameB lx)).mono ?_); rintro e w6 ⟨rfl, hd6⟩; have H6 := Aside0.mk (H5.out.below hd6.below); have HX6 := Aside0.mk (Kd.C_below HX5.out hd6.below); clear hd6)
        | (go_at_call 44; have hN := of_calls (c := c4) HX6.out HLX.out.1 K2.out; rw [K6.out] at hN; simp only [entC] at hN; (with_reducible refine hN.mono ?_); rintro e w7 ⟨rfl, hb7⟩; have H7 := Aside0.mk ((H6.out.below hb7).alloc #[.string x.f0, .int .i64 x.f1.f0, .int .i64 x.f1.f1, .string x.f2, .bool x.f3]); obtain ⟨x0, x1, x2, x3, x4⟩ := five (x := x) H7.out.box; clear hN hb7)
        | (go_at_call 44; have hN := of_calls (c := c3) H7.out.hin HLE.out.1 K1.out; rw [← HQ.out] at hN; simp only [entC] at hN; (with_reducible refine hN.mono ?_); rintro e w8 ⟨rfl, hb8⟩; have H8 := Aside0.mk ((H7.out.below hb8).alloc #[.string q.k, .int .i64 q.cn, .int .i64 q.nd, .string q.v, .bool q.d]); have HK8 : Aside0 ((w8.alloc (.cells #[.string q.k, .int .i64 q.cn, .int .i64 q.nd, .string q.v, .bool q.d] 25)).heap[w8.heap.size]? = some (.cells (entC q.k q.cn q.nd q.v q.d) 25 (0, 0))) := ⟨heap_alloc_new _ _⟩; clear hN hb8)
        | (go_at_call 45; have hN := rof_calls (c := c1) H8.out.hb HLE.out.1 K1.out; rw [← HQ.out] at hN; simp only [entC] at hN; (with_reducible refine hN.mono ?_); rintro e w9 ⟨rfl, hb9⟩; have H9 := Aside0.mk ((H8.out.below hb9).alloc #[.string q.k, .int .i64 q.cn, .int .i64 q.nd, .string q.v, .bool q.d]); have HK9 := Aside0.mk (blk_below (blk_below HK8.out hb9) (below_alloc (Below.refl w9.heap.size w9) (.cells #[.string q.k, .int .i64 q.cn, .int .i64 q.nd, .string q.v, .bool q.d] 25))); obtain ⟨y0, y1, y2, y3, y4⟩ := fiveE HK9.out; clear hN hb9)
        | (go_at_call 30; (with_reducible refine (tidelinelaw03_sameBytes.calls A3 c3 l1 A1 c1 l1 true _ H9.out.hin (own_cap HI3.out HLE.out.2) H9.out.hb hc1 (sameB l1)).mono ?_); rintro e w10 ⟨rfl, hd10⟩; have H10 := Aside0.mk (H9.out.below hd10.below); clear y0 y1 y2 y3 y4; obtain ⟨y0, y1, y2, y3, y4⟩ := fiveE (blk_below HK9.out hd10.below); clear hd10)
        | (go_at_call 42; have hN := ebytes_calls (ofX q) w10; rw [K5.out.1, K5.out.2] at hN; (with_reducible refine hN.mono ?_); rintro e w11 ⟨A11, c11, rfl, hr11, hb11⟩; have H11 := Aside0.mk (H10.out.below hb11); have HZ := Aside0.mk (own_CA hr11 HLE.out.2); have HZc := Aside0.mk (own_cap hr11 HLE.out.2); clear hN hr11 hb11)
        | (go_at_call 30; (with_reducible refine (tidelinelaw03_sameBytes.calls A11 c11 l1 A1 c1 l1 true _ HZ.out HZc.out H11.out.hb hc1 (sameB l1)).mono ?_); rintro e w12 ⟨rfl, hd12⟩; have H12 := Aside0.mk (H11.out.below hd12.below); clear hd12))
      go_ret
      exact ⟨rfl, H12.out.be⟩
    · have e1 : (q.e == 0) = false := by simp [he]
      have e2 : (q.e = 0) = False := eq_false he
      clear he
      go_enter Try.func10, Try.ntmps10
      go_wp2_with (first
        | ((with_reducible refine gate_dst (N := 2) rfl ?_); refine box_event ?hg (N := 2) ?hd (cs := #[.string x.f0, .int .i64 x.f1.f0, .int .i64 x.f1.f1, .string x.f2, .bool x.f3]) (t := 25) ?hr ?_; (case hd => rfl); (case hg => rfl); (case hr => first | (go_simp; done) | (go_simp; rfl)); intro gb w0g w0 hbox hb0; have HX0 := Aside0.mk hbox; have HB0 := Aside0.mk hb0; obtain ⟨x0, x1, x2, x3, x4⟩ := five (x := x) hbox; clear w0g hbox hb0)
        | (go_at_call 11; refine (tidelinelaw03_long.calls x.f0 x.f1.f0 x.f1.f1 x.f2 x.f3 false _ HL.out).mono ?_; rintro e wb ⟨rfl, hdb⟩; have hdb' := hdb; have HBb := Aside0.mk (HB0.out.trans (hdb'.mono HB0.out.size)); have HXb := Aside0.mk (blk_below HX0.out hdb'); obtain ⟨A3, c3, w3, hr3, h3, hb3⟩ := in_run wb (c := c1) (Kd.C_below HC.out HBb.out) HLEN.out; have HI3 := Aside0.mk h3; have H3 : Aside0 (PB w gb x A1 l1 A3 w3) := ⟨⟨blk_below HXb.out hb3, Kd.C_below (Kd.C_below HC.out HBb.out) hb3, own_CA h3 HLE.out.2, HBb.out.trans (hb3.mono HBb.out.size)⟩⟩; clear hdb hdb' h3 hb3 x0 x1 x2 x3 x4; obtain ⟨x0, x1, x2, x3, x4⟩ := five (x := x) H3.out.box)
        | ((with_reducible refine gate_dst (N := 28) rfl ?_); refine Lib.wpList_append_run _ rfl _ _ 49 49 rfl _ _ rfl rfl _ _ (hr3 _) ?_)
        | (go_at_call 42; have hN := ebytes_calls x w3; rw [← LX.out, ← CX.out] at hN; (with_reducible refine hN.mono ?_); rintro e w4 ⟨A4, c4, rfl, hr4, hb4⟩; have H4 := Aside0.mk (H3.out.below hb4); have HX4 := Aside0.mk (own_CA hr4 HLX.out.2); have HXc := Aside0.mk (own_cap hr4 HLX.out.2); clear hN hr4 hb4 x0 x1 x2 x3 x4; obtain ⟨x0, x1, x2, x3, x4⟩ := five (x := x) H4.out.box)
        | (go_at_call 43; have hN := rebytes_calls x w4; rw [← LX.out, ← CX.out] at hN; (with_reducible refine hN.mono ?_); rintro e w5 ⟨A5, c5, rfl, hr5, hb5⟩; have H5 := Aside0.mk (H4.out.below hb5); have HX5 := Aside0.mk (Kd.C_below HX4.out hb5); have HY5 := Aside0.mk (own_CA hr5 HLX.out.2); have HYc := Aside0.mk (own_cap hr5 HLX.out.2); clear hN hr5 hb5 x0 x1 x2 x3 x4)
        | (go_at_call 30; (with_reducible refine (tidelinelaw03_sameBytes.calls A4 c4 lx A5 c5 lx true w5 HX5.out HXc.out HY5.out HYc.out (sameB lx)).mono ?_); rintro e w6 ⟨rfl, hd6⟩; have H6 := Aside0.mk (H5.out.below hd6.below); have HX6 := Aside0.mk (Kd.C_below HX5.out hd6.below); clear hd6)
        | (go_at_call 44; have hN := of_calls (c := c4) HX6.out HLX.out.1 K2.out; rw [K6.out] at hN; simp only [entC] at hN; (with_reducible refine hN.mono ?_); rintro e w7 ⟨rfl, hb7⟩; have H7 := Aside0.mk ((H6.out.below hb7).alloc #[.string x.f0, .int .i64 x.f1.f0, .int .i64 x.f1.f1, .string x.f2, .bool x.f3]); obtain ⟨x0, x1, x2, x3, x4⟩ := five (x := x) H7.out.box; clear hN hb7)
        | (go_at_call 44; have hN := of_calls (c := c3) H7.out.hin HLE.out.1 K1.out; rw [← HQ.out] at hN; simp only [entC] at hN; (with_reducible refine hN.mono ?_); rintro e w8 ⟨rfl, hb8⟩; have H8 := Aside0.mk ((H7.out.below hb8).alloc #[.string q.k, .int .i64 q.cn, .int .i64 q.nd, .string q.v, .bool q.d]); have HK8 : Aside0 ((w8.alloc (.cells #[.string q.k, .int .i64 q.cn, .int .i64 q.nd, .string q.v, .bool q.d] 25)).heap[w8.heap.size]? = some (.cells (entC q.k q.cn q.nd q.v q.d) 25 (0, 0))) := ⟨heap_alloc_new _ _⟩; clear hN hb8)
        | (go_at_call 45; have hN := rof_calls (c := c1) H8.out.hb HLE.out.1 K1.out; rw [← HQ.out] at hN; simp only [entC] at hN; (with_reducible refine hN.mono ?_); rintro e w9 ⟨rfl, hb9⟩; have H9 := Aside0.mk ((H8.out.below hb9).alloc #[.string q.k, .int .i64 q.cn, .int .i64 q.nd, .string q.v, .bool q.d]); have HK9 := Aside0.mk (blk_below (blk_below HK8.out hb9) (below_alloc (Below.refl w9.heap.size w9) (.cells #[.string q.k, .int .i64 q.cn, .int .i64 q.nd, .string q.v, .bool q.d] 25))); obtain ⟨y0, y1, y2, y3, y4⟩ := fiveE HK9.out; clear hN hb9)
        | (go_at_call 30; (with_reducible refine (tidelinelaw03_sameBytes.calls A3 c3 l1 A1 c1 l1 true _ H9.out.hin (own_cap HI3.out HLE.out.2) H9.out.hb hc1 (sameB l1)).mono ?_); rintro e w10 ⟨rfl, hd10⟩; have H10 := Aside0.mk (H9.out.below hd10.below); clear y0 y1 y2 y3 y4; obtain ⟨y0, y1, y2, y3, y4⟩ := fiveE (blk_below HK9.out hd10.below); clear hd10)
        | (go_at_call 42; (with_reducible refine (ebytes_calls (ofX q) w10).mono ?_); rintro e w11 ⟨A11, c11, rfl, hr11, hb11⟩; have H11 := Aside0.mk (H10.out.below hb11); clear hr11 hb11))
      go_ret
      exact ⟨rfl, H11.out.be⟩
  · have f1 : (cx == 0) = false := by simp [hx]
    have f2 : (cx = 0) = False := eq_false hx
    clear hx
    by_cases he : q.e = 0
    · have K5 := Aside0.mk (K4.out he)
      have e1 : (q.e == 0) = true := by simp [he]
      go_enter Try.func10, Try.ntmps10
      go_wp2_with (first
        | ((with_reducible refine gate_dst (N := 2) rfl ?_); refine box_event ?hg (N := 2) ?hd (cs := #[.string x.f0, .int .i64 x.f1.f0, .int .i64 x.f1.f1, .string x.f2, .bool x.f3]) (t := 25) ?hr ?_; (case hd => rfl); (case hg => rfl); (case hr => first | (go_simp; done) | (go_simp; rfl)); intro gb w0g w0 hbox hb0; have HX0 := Aside0.mk hbox; have HB0 := Aside0.mk hb0; obtain ⟨x0, x1, x2, x3, x4⟩ := five (x := x) hbox; clear w0g hbox hb0)
        | (go_at_call 11; refine (tidelinelaw03_long.calls x.f0 x.f1.f0 x.f1.f1 x.f2 x.f3 false _ HL.out).mono ?_; rintro e wb ⟨rfl, hdb⟩; have hdb' := hdb; have HBb := Aside0.mk (HB0.out.trans (hdb'.mono HB0.out.size)); have HXb := Aside0.mk (blk_below HX0.out hdb'); obtain ⟨A3, c3, w3, hr3, h3, hb3⟩ := in_run wb (c := c1) (Kd.C_below HC.out HBb.out) HLEN.out; have HI3 := Aside0.mk h3; have H3 : Aside0 (PB w gb x A1 l1 A3 w3) := ⟨⟨blk_below HXb.out hb3, Kd.C_below (Kd.C_below HC.out HBb.out) hb3, own_CA h3 HLE.out.2, HBb.out.trans (hb3.mono HBb.out.size)⟩⟩; clear hdb hdb' h3 hb3 x0 x1 x2 x3 x4; obtain ⟨x0, x1, x2, x3, x4⟩ := five (x := x) H3.out.box)
        | ((with_reducible refine gate_dst (N := 28) rfl ?_); refine Lib.wpList_append_run _ rfl _ _ 49 49 rfl _ _ rfl rfl _ _ (hr3 _) ?_)
        | (go_at_call 42; have hN := ebytes_calls x w3; rw [← LX.out, ← CX.out] at hN; (with_reducible refine hN.mono ?_); rintro e w4 ⟨A4, c4, rfl, hr4, hb4⟩; have H4 := Aside0.mk (H3.out.below hb4); have HX4 := Aside0.mk (own_CA hr4 HLX.out.2); have HXc := Aside0.mk (own_cap hr4 HLX.out.2); clear hN hr4 hb4 x0 x1 x2 x3 x4; obtain ⟨x0, x1, x2, x3, x4⟩ := five (x := x) H4.out.box)
        | (go_at_call 43; have hN := rebytes_calls x w4; rw [← LX.out, ← CX.out] at hN; (with_reducible refine hN.mono ?_); rintro e w5 ⟨A5, c5, rfl, hr5, hb5⟩; have H5 := Aside0.mk (H4.out.below hb5); have HX5 := Aside0.mk (Kd.C_below HX4.out hb5); have HY5 := Aside0.mk (own_CA hr5 HLX.out.2); have HYc := Aside0.mk (own_cap hr5 HLX.out.2); clear hN hr5 hb5 x0 x1 x2 x3 x4)
        | (go_at_call 30; (with_reducible refine (tidelinelaw03_sameBytes.calls A4 c4 lx A5 c5 lx true w5 HX5.out HXc.out HY5.out HYc.out (sameB lx)).mono ?_); rintro e w6 ⟨rfl, hd6⟩; have H6 := Aside0.mk (H5.out.below hd6.below); have HX6 := Aside0.mk (Kd.C_below HX5.out hd6.below); clear hd6)
        | (go_at_call 44; have hN := of_calls (c := c3) H6.out.hin HLE.out.1 K1.out; rw [← HQ.out] at hN; simp only [entC] at hN; (with_reducible refine hN.mono ?_); rintro e w8 ⟨rfl, hb8⟩; have H8 := Aside0.mk ((H6.out.below hb8).alloc #[.string q.k, .int .i64 q.cn, .int .i64 q.nd, .string q.v, .bool q.d]); have HK8 : Aside0 ((w8.alloc (.cells #[.string q.k, .int .i64 q.cn, .int .i64 q.nd, .string q.v, .bool q.d] 25)).heap[w8.heap.size]? = some (.cells (entC q.k q.cn q.nd q.v q.d) 25 (0, 0))) := ⟨heap_alloc_new _ _⟩; clear hN hb8)
        | (go_at_call 45; have hN := rof_calls (c := c1) H8.out.hb HLE.out.1 K1.out; rw [← HQ.out] at hN; simp only [entC] at hN; (with_reducible refine hN.mono ?_); rintro e w9 ⟨rfl, hb9⟩; have H9 := Aside0.mk ((H8.out.below hb9).alloc #[.string q.k, .int .i64 q.cn, .int .i64 q.nd, .string q.v, .bool q.d]); have HK9 := Aside0.mk (blk_below (blk_below HK8.out hb9) (below_alloc (Below.refl w9.heap.size w9) (.cells #[.string q.k, .int .i64 q.cn, .int .i64 q.nd, .string q.v, .bool q.d] 25))); obtain ⟨y0, y1, y2, y3, y4⟩ := fiveE HK9.out; clear hN hb9)
        | (go_at_call 30; (with_reducible refine (tidelinelaw03_sameBytes.calls A3 c3 l1 A1 c1 l1 true _ H9.out.hin (own_cap HI3.out HLE.out.2) H9.out.hb hc1 (sameB l1)).mono ?_); rintro e w10 ⟨rfl, hd10⟩; have H10 := Aside0.mk (H9.out.below hd10.below); clear y0 y1 y2 y3 y4; obtain ⟨y0, y1, y2, y3, y4⟩ := fiveE (blk_below HK9.out hd10.below); clear hd10)
        | (go_at_call 42; have hN := ebytes_calls (ofX q) w10; rw [K5.out.1, K5.out.2] at hN; (with_reducible refine hN.mono ?_); rintro e w11 ⟨A11, c11, rfl, hr11, hb11⟩; have H11 := Aside0.mk (H10.out.below hb11); have HZ := Aside0.mk (own_CA hr11 HLE.out.2); have HZc := Aside0.mk (own_cap hr11 HLE.out.2); clear hN hr11 hb11)
        | (go_at_call 30; (with_reducible refine (tidelinelaw03_sameBytes.calls A11 c11 l1 A1 c1 l1 true _ HZ.out HZc.out H11.out.hb hc1 (sameB l1)).mono ?_); rintro e w12 ⟨rfl, hd12⟩; have H12 := Aside0.mk (H11.out.below hd12.below); clear hd12))
      go_ret
      exact ⟨rfl, H12.out.be⟩
    · have e1 : (q.e == 0) = false := by simp [he]
      have e2 : (q.e = 0) = False := eq_false he
      clear he
      go_enter Try.func10, Try.ntmps10
      go_wp2_with (first
        | ((with_reducible refine gate_dst (N := 2) rfl ?_); refine box_event ?hg (N := 2) ?hd (cs := #[.string x.f0, .int .i64 x.f1.f0, .int .i64 x.f1.f1, .string x.f2, .bool x.f3]) (t := 25) ?hr ?_; (case hd => rfl); (case hg => rfl); (case hr => first | (go_simp; done) | (go_simp; rfl)); intro gb w0g w0 hbox hb0; have HX0 := Aside0.mk hbox; have HB0 := Aside0.mk hb0; obtain ⟨x0, x1, x2, x3, x4⟩ := five (x := x) hbox; clear w0g hbox hb0)
        | (go_at_call 11; refine (tidelinelaw03_long.calls x.f0 x.f1.f0 x.f1.f1 x.f2 x.f3 false _ HL.out).mono ?_; rintro e wb ⟨rfl, hdb⟩; have hdb' := hdb; have HBb := Aside0.mk (HB0.out.trans (hdb'.mono HB0.out.size)); have HXb := Aside0.mk (blk_below HX0.out hdb'); obtain ⟨A3, c3, w3, hr3, h3, hb3⟩ := in_run wb (c := c1) (Kd.C_below HC.out HBb.out) HLEN.out; have HI3 := Aside0.mk h3; have H3 : Aside0 (PB w gb x A1 l1 A3 w3) := ⟨⟨blk_below HXb.out hb3, Kd.C_below (Kd.C_below HC.out HBb.out) hb3, own_CA h3 HLE.out.2, HBb.out.trans (hb3.mono HBb.out.size)⟩⟩; clear hdb hdb' h3 hb3 x0 x1 x2 x3 x4; obtain ⟨x0, x1, x2, x3, x4⟩ := five (x := x) H3.out.box)
        | ((with_reducible refine gate_dst (N := 28) rfl ?_); refine Lib.wpList_append_run _ rfl _ _ 49 49 rfl _ _ rfl rfl _ _ (hr3 _) ?_)
        | (go_at_call 42; have hN := ebytes_calls x w3; rw [← LX.out, ← CX.out] at hN; (with_reducible refine hN.mono ?_); rintro e w4 ⟨A4, c4, rfl, hr4, hb4⟩; have H4 := Aside0.mk (H3.out.below hb4); have HX4 := Aside0.mk (own_CA hr4 HLX.out.2); have HXc := Aside0.mk (own_cap hr4 HLX.out.2); clear hN hr4 hb4 x0 x1 x2 x3 x4; obtain ⟨x0, x1, x2, x3, x4⟩ := five (x := x) H4.out.box)
        | (go_at_call 43; have hN := rebytes_calls x w4; rw [← LX.out, ← CX.out] at hN; (with_reducible refine hN.mono ?_); rintro e w5 ⟨A5, c5, rfl, hr5, hb5⟩; have H5 := Aside0.mk (H4.out.below hb5); have HX5 := Aside0.mk (Kd.C_below HX4.out hb5); have HY5 := Aside0.mk (own_CA hr5 HLX.out.2); have HYc := Aside0.mk (own_cap hr5 HLX.out.2); clear hN hr5 hb5 x0 x1 x2 x3 x4)
        | (go_at_call 30; (with_reducible refine (tidelinelaw03_sameBytes.calls A4 c4 lx A5 c5 lx true w5 HX5.out HXc.out HY5.out HYc.out (sameB lx)).mono ?_); rintro e w6 ⟨rfl, hd6⟩; have H6 := Aside0.mk (H5.out.below hd6.below); have HX6 := Aside0.mk (Kd.C_below HX5.out hd6.below); clear hd6)
        | (go_at_call 44; have hN := of_calls (c := c3) H6.out.hin HLE.out.1 K1.out; rw [← HQ.out] at hN; simp only [entC] at hN; (with_reducible refine hN.mono ?_); rintro e w8 ⟨rfl, hb8⟩; have H8 := Aside0.mk ((H6.out.below hb8).alloc #[.string q.k, .int .i64 q.cn, .int .i64 q.nd, .string q.v, .bool q.d]); have HK8 : Aside0 ((w8.alloc (.cells #[.string q.k, .int .i64 q.cn, .int .i64 q.nd, .string q.v, .bool q.d] 25)).heap[w8.heap.size]? = some (.cells (entC q.k q.cn q.nd q.v q.d) 25 (0, 0))) := ⟨heap_alloc_new _ _⟩; clear hN hb8)
        | (go_at_call 45; have hN := rof_calls (c := c1) H8.out.hb HLE.out.1 K1.out; rw [← HQ.out] at hN; simp only [entC] at hN; (with_reducible refine hN.mono ?_); rintro e w9 ⟨rfl, hb9⟩; have H9 := Aside0.mk ((H8.out.below hb9).alloc #[.string q.k, .int .i64 q.cn, .int .i64 q.nd, .string q.v, .bool q.d]); have HK9 := Aside0.mk (blk_below (blk_below HK8.out hb9) (below_alloc (Below.refl w9.heap.size w9) (.cells #[.string q.k, .int .i64 q.cn, .int .i64 q.nd, .string q.v, .bool q.d] 25))); obtain ⟨y0, y1, y2, y3, y4⟩ := fiveE HK9.out; clear hN hb9)
        | (go_at_call 30; (with_reducible refine (tidelinelaw03_sameBytes.calls A3 c3 l1 A1 c1 l1 true _ H9.out.hin (own_cap HI3.out HLE.out.2) H9.out.hb hc1 (sameB l1)).mono ?_); rintro e w10 ⟨rfl, hd10⟩; have H10 := Aside0.mk (H9.out.below hd10.below); clear y0 y1 y2 y3 y4; obtain ⟨y0, y1, y2, y3, y4⟩ := fiveE (blk_below HK9.out hd10.below); clear hd10)
        | (go_at_call 42; (with_reducible refine (ebytes_calls (ofX q) w10).mono ?_); rintro e w11 ⟨A11, c11, rfl, hr11, hb11⟩; have H11 := Aside0.mk (H10.out.below hb11); clear hr11 hb11))
      go_ret
      exact ⟨rfl, H11.out.be⟩
theorem tidelinelaw03_ItemBytes.calls (a0_0 : ByteArray) (a0_1 : Int) (a0_2 : Int) (a0_3 : ByteArray) (a0_4 : Bool) (A1 : Option Addr) (c1 : Nat) (l1 : List Int) (r : Bool) (w : World) (hr1 : Kd.C (Kd.int .u8) w A1 l1.length l1) (hc1 : l1.length ≤ c1) (h : tidelinelaw03_ItemBytes.f a0_0 a0_1 a0_2 a0_3 a0_4 l1 = some r) :
    Calls Try.prog 10 #[.agg #[.string a0_0, .int .i64 a0_1, .int .i64 a0_2, .string a0_3, .bool a0_4], .slice A1 l1.length c1] w fun e w' => e = .returned (.bool r) ∧ Below w.heap.size w w' := by
  unfold tidelinelaw03_ItemBytes.f at h
  obtain ⟨b, hb, h⟩ := Option.bind_eq_some_iff.1 h
  have hw := bytes_walk ⟨a0_0, ⟨a0_1, a0_2⟩, a0_3, a0_4⟩ A1 c1 l1 w hr1 hc1 b hb
  cases b with
  | true =>
    obtain rfl : true = r := by simpa using h
    exact hw (.inl rfl)
  | false =>
    rw [if_neg (by decide)] at h
    by_cases hg : 1073741824 < (l1.length : Int)
    · rw [if_pos hg] at h
      obtain rfl : true = r := by simpa using h
      exact hw (.inr (.inl ⟨rfl, hg⟩))
    · rw [if_neg hg] at h
      by_cases hk : BytesOK ⟨a0_0, ⟨a0_1, a0_2⟩, a0_3, a0_4⟩ l1
      · rw [if_pos hk] at h
        obtain rfl : true = r := by simpa using h
        exact hw (.inr (.inr ⟨rfl, hg, hk⟩))
      · rw [if_neg hk] at h; cases h
end Go.Proofs.Ythalodnfecaccaa.PAll
