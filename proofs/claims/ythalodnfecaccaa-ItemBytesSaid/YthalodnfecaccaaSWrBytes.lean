-- By wip/late.py (a program of this session) out of wip/words.
import Derived.Test.YthalodnfecaccaaProg
import Derived.Test.YthalodnfecaccaaWWords
import Derived.Test.YthalodnfecaccaaWLast
import Derived.Test.YthalodnfecaccaaWMore
import Derived.Test.YthalodnfecaccaaPAllx0
import Derived.Test.YthalodnfecaccaaPAllx1
import Derived.Test.YthalodnfecaccaaSWr
import Derived.Test.YthalodnfecaccaaSWrNums
import Derived.Test.YthalodnfecaccaaSWrRef
import Derived.Test.YthalodnfecaccaaSWrPut
import Derived.Test.YthalodnfecaccaaSWrTwo
import Derived.Test.YthalodnfecaccaaSWrLays
import Derived.RangeFuncBox
import Derived.Maps.AppendAt
import Derived.Deep.AppendSrc
import Derived.Deep.Upon
import Derived.BigQuiet
import Derived.Deep.QuietTactic
import Derived.Lib.Hide
import Derived.Tactics
import Derived.WalkKit
import Derived.OwnWalk
import Derived.Test.YthalodnfecaccaaSNumsP
set_option linter.unusedVariables false
set_option linter.unusedSimpArgs false
namespace Go.Proofs.Ythalodnfecaccaa.Wr
open Go.RowKit Go.Proofs.YthalodnfecaccaaW.PrintWords Go.Proofs.Ythalodnfecaccaa.PAll Go.Proofs.Ythalodnfecaccaa.Pure
/-! An entry's bytes, by both sides. -/
noncomputable def codeE (x : S25) : Int := (item_Check.f x.f0 x.f1.f0 x.f1.f1 x.f2 x.f3).getD 0
theorem shapeB {W : World} {base : Nat} {v : Value} {l : List Int} (h : W.ownsRow base 5 1 v l.length (bv l)) : ∃ A c, v = .slice A l.length c := by
  rcases h.2 with ⟨rfl, h0⟩ | ⟨g, cap, cur, rfl, _, _, hc, _⟩
  · exact ⟨none, 0, by rw [h0]⟩
  · exact ⟨_, _, rfl⟩
set_option maxRecDepth 100000 in
theorem rbytes_calls {n₀ B : Nat} {w : World} {v : Value} {l : List Int} (h : Wrt n₀ 52 w B v l) (hl : l.length ≤ 140737488355328) :
    Calls Try.prog 60 #[.pointer (some ⟨B, 0, none⟩)] w fun e w' => ∃ A c, e = .returned (.slice A l.length c) ∧ w'.ownsRow w.heap.size 5 1 (.slice A l.length c) l.length (bv l) ∧ Below w.heap.size w w' := by
  obtain ⟨i0, hi, hz0, hz1, hz2⟩ := infoB
  have hb0 : Below w.heap.size w (w.alloc (.cells #[] 5)) := below_alloc (Below.refl _ _) _
  have hown : (w.alloc (.cells #[] 5)).ownsRow w.heap.size 5 1 (.slice (some ⟨w.heap.size, 0, none⟩) 0 0) 0 [] := ⟨rfl, .inr ⟨w.heap.size, 0, #[], rfl, Nat.le_refl _, heap_alloc_new _ _, Nat.le_refl _, by decide, rfl, rfl⟩⟩
  have hc := (h.below hb0).box.cell
  obtain ⟨v', w1, hr, h1, h2, h3⟩ := run_append_own_src (P := Try.prog) (w.alloc (.cells #[] 5)) w.heap.size 49 49 49 5 i0 (.int .u8 0) 1 1 Try.underlying49 hi hz0 hz1 hz2 rfl (by decide) (.slice (some ⟨w.heap.size, 0, none⟩) 0 0) 0 [] hown v l.length (bv l) (h.below hb0).src (by simp only [maxLen]; omega) (by omega) hb0.size
  rw [Nat.zero_add, List.nil_append] at h1
  obtain ⟨A', c', rfl⟩ := shapeB h1
  have hnb : ∀ k, k < w.heap.size → some k ≠ (Value.slice (some ⟨w.heap.size, 0, none⟩) 0 0).ownBlock := by
    intro k hk e
    have : w.heap.size = k := by simpa [Value.ownBlock] using e.symm
    omega
  have hb : Below w.heap.size w w1 := hb0.trans ⟨h2.os, h2.tape, h2.output, h2.size, fun k hk => h2.block k (Nat.lt_of_lt_of_le hk hb0.size) (hnb k hk)⟩
  obtain ⟨A, c, rfl, _⟩ := h.shape
  clear h h2 h3 hi hz0 hz1 hz2 hb0 hown hnb
  go_enter Try.func60, Try.ntmps60
  go_wp2_with ((with_reducible refine gate_dst (N := 10) rfl ?_); refine Lib.wpList_append_run _ rfl _ _ 49 49 rfl _ _ rfl rfl _ _ hr ?_)
  go_ret
  exact ⟨_, _, rfl, h1, hb⟩
theorem putA_small (x : S25) : (putA x).length ≤ 140737488355328 := by have := putA_len x; omega
set_option maxRecDepth 100000 in
set_option maxHeartbeats 4000000 in
theorem ebytes_calls (x : S25) (w : World) :
    Calls Try.prog 42 #[.agg #[.string x.f0, .int .i64 x.f1.f0, .int .i64 x.f1.f1, .string x.f2, .bool x.f3]] w fun e w' => ∃ A c, e = .returned (.tuple #[.slice A (putA x).length c, .int .i64 (codeE x)]) ∧ w'.ownsRow w.heap.size 5 1 (.slice A (putA x).length c) (putA x).length (bv (putA x)) ∧ Below w.heap.size w w' := by
  rcases chk_cases x with ⟨h1, h2, hS⟩ | ⟨c, hc, h1, h2⟩
  · have hE : codeE x = 0 := by unfold codeE; rw [h1]; rfl
    rw [hE]
    have HK := Aside0.mk h1
    clear h1 h2 hS hE
    go_enter Try.func42, Try.ntmps42
    go_wp2_with (first
      | ((with_reducible refine gate_dst (N := 1) rfl ?_); refine box_event ?hg (N := 1) ?hd (cs := #[.string x.f0, .int .i64 x.f1.f0, .int .i64 x.f1.f1, .string x.f2, .bool x.f3]) (t := 25) ?hr ?_; (case hd => rfl); (case hg => rfl); (case hr => first | (go_simp; done) | (go_simp; rfl)); intro gb w0g w0 hbox hb0; have HB0 := Aside0.mk hb0; have HK0 := Aside0.mk hbox; obtain ⟨x0, x1, x2, x3, x4⟩ := five (x := x) HK0.out; clear w0g hbox hb0)
      | (go_at_call 12; refine (item_Check.calls x.f0 x.f1.f0 x.f1.f1 x.f2 x.f3 0 _ HK.out).mono ?_; rintro e w1 ⟨rfl, hb1⟩; have HB1 := Aside0.mk (HB0.out.trans (hb1.mono HB0.out.size)); have HK1 := Aside0.mk (blk_below HK0.out hb1); clear hb1 x0 x1 x2 x3 x4)
      | (go_at_call 24; refine (new_calls _).mono ?_; rintro e w2 ⟨B, rfl, hw2, hb2⟩; have HW2 := Aside0.mk hw2; have HBn := Aside0.mk hb2; have HB2 := Aside0.mk (HB1.out.trans (hb2.mono HB1.out.size)); obtain ⟨x0, x1, x2, x3, x4⟩ := five (x := x) (blk_below HK1.out hb2); clear hw2 hb2)
      | (go_at_call 26; (with_reducible refine (put_any x HW2.out HBn.out.size (by simp)).mono ?_); rintro e w3 ⟨rfl, v3, h3⟩; rw [List.nil_append] at h3; have HW3 := Aside0.mk h3.st; have HB3 := Aside0.mk (HB2.out.trans (h3.be.mono HB1.out.size)); clear h3 x0 x1 x2 x3 x4)
      | (go_at_call 31; refine (bytes_calls HW3.out (putA_small x)).mono ?_; rintro e w4 ⟨v4, rfl, hr4, hb4⟩; obtain ⟨A4, c4, rfl⟩ := shapeB hr4; have HR4 := Aside0.mk hr4; have HB4 := Aside0.mk (HB3.out.trans (hb4.mono HB3.out.size)); have HS3 := Aside0.mk HB3.out.size; clear hr4 hb4))
    go_ret2
    exact ⟨_, _, rfl, own_less HR4.out HS3.out, HB4.out⟩
  · have hE : codeE x = c := by unfold codeE; rw [h1]; rfl
    have hA : putA x = [] := by unfold putA; rw [if_neg (by rw [h1]; intro e; exact hc (Option.some.inj e))]
    rw [hE, hA]
    have HK := Aside0.mk h1
    have hc0 : (c == 0) = false := beq_eq_false_iff_ne.mpr hc
    have hc1 : (c != 0) = true := bne_iff_ne.mpr hc
    have hc2 : (c = 0) = False := eq_false hc
    clear h1 h2 hc hE hA
    go_enter Try.func42, Try.ntmps42
    go_wp2_with (first
      | ((with_reducible refine gate_dst (N := 1) rfl ?_); refine box_event ?hg (N := 1) ?hd (cs := #[.string x.f0, .int .i64 x.f1.f0, .int .i64 x.f1.f1, .string x.f2, .bool x.f3]) (t := 25) ?hr ?_; (case hd => rfl); (case hg => rfl); (case hr => first | (go_simp; done) | (go_simp; rfl)); intro gb w0g w0 hbox hb0; have HB0 := Aside0.mk hb0; have HK0 := Aside0.mk hbox; obtain ⟨x0, x1, x2, x3, x4⟩ := five (x := x) HK0.out; clear w0g hbox hb0)
      | (go_at_call 12; refine (item_Check.calls x.f0 x.f1.f0 x.f1.f1 x.f2 x.f3 c _ HK.out).mono ?_; rintro e w1 ⟨rfl, hb1⟩; have HB1 := Aside0.mk (HB0.out.trans (hb1.mono HB0.out.size)); have HK1 := Aside0.mk (blk_below HK0.out hb1); clear hb1 x0 x1 x2 x3 x4))
    go_ret2
    exact ⟨none, 0, rfl, World.ownsRow_nil _ _ _ _, HB1.out⟩
set_option maxRecDepth 100000 in
set_option maxHeartbeats 4000000 in
theorem rebytes_calls (x : S25) (w : World) :
    Calls Try.prog 43 #[.agg #[.string x.f0, .int .i64 x.f1.f0, .int .i64 x.f1.f1, .string x.f2, .bool x.f3]] w fun e w' => ∃ A c, e = .returned (.tuple #[.slice A (putA x).length c, .int .i64 (codeE x)]) ∧ w'.ownsRow w.heap.size 5 1 (.slice A (putA x).length c) (putA x).length (bv (putA x)) ∧ Below w.heap.size w w' := by
  rcases chk_cases x with ⟨h1, h2, hS⟩ | ⟨c, hc, h1, h2⟩
  · have hE : codeE x = 0 := by unfold codeE; rw [h1]; rfl
    rw [hE]
    have HK := Aside0.mk h2
    clear h1 h2 hS hE
    go_enter Try.func43, Try.ntmps43
    go_wp2_with (first
      | ((with_reducible refine gate_dst (N := 1) rfl ?_); refine box_event ?hg (N := 1) ?hd (cs := #[.string x.f0, .int .i64 x.f1.f0, .int .i64 x.f1.f1, .string x.f2, .bool x.f3]) (t := 25) ?hr ?_; (case hd => rfl); (case hg => rfl); (case hr => first | (go_simp; done) | (go_simp; rfl)); intro gb w0g w0 hbox hb0; have HB0 := Aside0.mk hb0; have HK0 := Aside0.mk hbox; obtain ⟨x0, x1, x2, x3, x4⟩ := five (x := x) HK0.out; clear w0g hbox hb0)
      | (go_at_call 13; refine (tidelineref03_Check.calls x.f0 x.f1.f0 x.f1.f1 x.f2 x.f3 0 _ HK.out).mono ?_; rintro e w1 ⟨rfl, hb1⟩; have HB1 := Aside0.mk (HB0.out.trans (hb1.mono HB0.out.size)); have HK1 := Aside0.mk (blk_below HK0.out hb1); clear hb1 x0 x1 x2 x3 x4)
      | (go_at_call 25; refine (rnew_calls _).mono ?_; rintro e w2 ⟨B, rfl, hw2, hb2⟩; have HW2 := Aside0.mk hw2; have HBn := Aside0.mk hb2; have HB2 := Aside0.mk (HB1.out.trans (hb2.mono HB1.out.size)); obtain ⟨x0, x1, x2, x3, x4⟩ := five (x := x) (blk_below HK1.out hb2); clear hw2 hb2)
      | (go_at_call 27; (with_reducible refine (rput_any x HW2.out HBn.out.size (by simp)).mono ?_); rintro e w3 ⟨rfl, v3, h3⟩; rw [List.nil_append] at h3; have HW3 := Aside0.mk h3.st; have HB3 := Aside0.mk (HB2.out.trans (h3.be.mono HB1.out.size)); clear h3 x0 x1 x2 x3 x4)
      | (go_at_call 60; refine (rbytes_calls HW3.out (putA_small x)).mono ?_; rintro e w4 ⟨A4, c4, rfl, hr4, hb4⟩; have HR4 := Aside0.mk hr4; have HB4 := Aside0.mk (HB3.out.trans (hb4.mono HB3.out.size)); have HS3 := Aside0.mk HB3.out.size; clear hr4 hb4))
    go_ret2
    exact ⟨_, _, rfl, own_less HR4.out HS3.out, HB4.out⟩
  · have hE : codeE x = c := by unfold codeE; rw [h1]; rfl
    have hA : putA x = [] := by unfold putA; rw [if_neg (by rw [h1]; intro e; exact hc (Option.some.inj e))]
    rw [hE, hA]
    have HK := Aside0.mk h2
    have hc0 : (c == 0) = false := beq_eq_false_iff_ne.mpr hc
    have hc1 : (c != 0) = true := bne_iff_ne.mpr hc
    have hc2 : (c = 0) = False := eq_false hc
    clear h1 h2 hc hE hA
    go_enter Try.func43, Try.ntmps43
    go_wp2_with (first
      | ((with_reducible refine gate_dst (N := 1) rfl ?_); refine box_event ?hg (N := 1) ?hd (cs := #[.string x.f0, .int .i64 x.f1.f0, .int .i64 x.f1.f1, .string x.f2, .bool x.f3]) (t := 25) ?hr ?_; (case hd => rfl); (case hg => rfl); (case hr => first | (go_simp; done) | (go_simp; rfl)); intro gb w0g w0 hbox hb0; have HB0 := Aside0.mk hb0; have HK0 := Aside0.mk hbox; obtain ⟨x0, x1, x2, x3, x4⟩ := five (x := x) HK0.out; clear w0g hbox hb0)
      | (go_at_call 13; refine (tidelineref03_Check.calls x.f0 x.f1.f0 x.f1.f1 x.f2 x.f3 c _ HK.out).mono ?_; rintro e w1 ⟨rfl, hb1⟩; have HB1 := Aside0.mk (HB0.out.trans (hb1.mono HB0.out.size)); have HK1 := Aside0.mk (blk_below HK0.out hb1); clear hb1 x0 x1 x2 x3 x4))
    go_ret2
    exact ⟨none, 0, rfl, World.ownsRow_nil _ _ _ _, HB1.out⟩
end Go.Proofs.Ythalodnfecaccaa.Wr
