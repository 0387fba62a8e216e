-- By wip/late.py (a program of this session) out of wip/words.
import Derived.Test.YthalodnfecaccaaProg
import Derived.Test.YthalodnfecaccaaWWords
import Derived.Test.YthalodnfecaccaaWLast
import Derived.Test.YthalodnfecaccaaWMore
import Derived.Test.YthalodnfecaccaaPAllx0
import Derived.Test.YthalodnfecaccaaPAllx1
import Derived.Test.YthalodnfecaccaaSWr
import Derived.Test.YthalodnfecaccaaSWrNums
import Derived.Test.YthalodnfecaccaaSWrRef
import Derived.RangeFuncBox
import Derived.BigQuiet
import Derived.Deep.QuietTactic
import Derived.Lib.Hide
import Derived.Tactics
import Derived.WalkKit
import Derived.OwnWalk
import Derived.Test.YthalodnfecaccaaSNumsP
set_option linter.unusedVariables false
set_option linter.unusedSimpArgs false
namespace Go.Proofs.Ythalodnfecaccaa.Wr
open Go.RowKit Go.Proofs.YthalodnfecaccaaW.PrintWords Go.Proofs.Ythalodnfecaccaa.PAll Go.Proofs.Ythalodnfecaccaa.Pure
/-! An entry, laid down. -/
def txtB (s : ByteArray) : List Int := numB 8 s.size ++ bytesOf s
theorem txtB_len (s : ByteArray) : (txtB s).length ≤ 9 + s.size := by
  have := (numB_len 8 (s.size : Int)).2
  unfold txtB
  rw [List.length_append, bytesOf_length]; omega
def putB (x : S25) : List Int := txtB x.f0 ++ (numB 8 x.f1.f0 ++ (numB 8 x.f1.f1 ++ ([if x.f3 = true then 1 else 0] ++ (if x.f3 = true then [] else txtB x.f2))))
/-- The bounds of an entry that may be. -/
structure Small (x : S25) : Prop where
  k : x.f0.size ≤ 16
  v : x.f2.size ≤ 32
  c0 : 0 ≤ x.f1.f0
  c1 : x.f1.f0 ≤ 1099511627776
  n0 : 0 ≤ x.f1.f1
  n1 : x.f1.f1 ≤ 8
theorem five {W : World} {g : Nat} {x : S25} (h : W.heap[g]? = some (.cells #[.string x.f0, .int .i64 x.f1.f0, .int .i64 x.f1.f1, .string x.f2, .bool x.f3] 25 (0, 0))) :
    W.cell? ⟨g, 0, none⟩ = some (.string x.f0) ∧ W.cell? ⟨g, 1, none⟩ = some (.int .i64 x.f1.f0) ∧ W.cell? ⟨g, 2, none⟩ = some (.int .i64 x.f1.f1) ∧ W.cell? ⟨g, 3, none⟩ = some (.string x.f2) ∧ W.cell? ⟨g, 4, none⟩ = some (.bool x.f3) :=
  ⟨(blk_cell h 0).trans rfl, (blk_cell h 1).trans rfl, (blk_cell h 2).trans rfl, (blk_cell h 3).trans rfl, (blk_cell h 4).trans rfl⟩
set_option maxRecDepth 100000 in
set_option maxHeartbeats 4000000 in
theorem put_ok (x : S25) (hx : Small x) (hk : item_Check.f x.f0 x.f1.f0 x.f1.f1 x.f2 x.f3 = some 0) {n₀ B : Nat} {w : World} {v : Value} {l : List Int} (h : Wrt n₀ 71 w B v l) (hn₀ : n₀ ≤ w.heap.size) (hl : l.length + 200 ≤ 140737488355328) :
    Calls Try.prog 26 #[.pointer (some ⟨B, 0, none⟩), .agg #[.string x.f0, .int .i64 x.f1.f0, .int .i64 x.f1.f1, .string x.f2, .bool x.f3]] w fun e w' => e = .returned (.tuple #[]) ∧ ∃ v', Adv n₀ 71 B w v w' v' (l ++ putB x) := by
  obtain ⟨s0, s1, s2, s3, s4, s5⟩ := hx
  have HW := Aside0.mk h
  have HK := Aside0.mk hk
  have t0 := txtB_len x.f0
  have t2 := txtB_len x.f2
  have t3 := (numB_len 8 x.f1.f0).2
  have t4 := (numB_len 8 x.f1.f1).2
  clear h hk
  obtain ⟨k, ⟨c, nd⟩, val, dead⟩ := x
  dsimp only at *
  cases dead with
  | true =>
    go_enter Try.func26, Try.ntmps26
    go_wp2_with (first
      | ((with_reducible refine gate_dst (N := 3) rfl ?_); refine box_event ?hg (N := 3) ?hd (cs := #[.string k, .int .i64 c, .int .i64 nd, .string val, .bool true]) (t := 25) ?hr ?_; (case hd => rfl); (case hg => rfl); (case hr => first | (go_simp; done) | (go_simp; rfl)); intro gb w0g w0 hbox hb0; have HA0 := Aside0.mk ((Adv.refl HW.out).below hn₀ hb0); have HK0 := Aside0.mk hbox; obtain ⟨x0, x1, x2, x3, x4⟩ := five (x := ⟨k, ⟨c, nd⟩, val, true⟩) HK0.out; clear w0g hbox hb0)
      | (go_at_call 12; refine (item_Check.calls k c nd val true 0 _ HK.out).mono ?_; rintro e w1 ⟨rfl, hb1⟩; have HA1 := Aside0.mk (HA0.out.below hn₀ hb1); have HK1 := Aside0.mk (blk_below HK0.out hb1); clear x0 x1 x2 x3 x4; obtain ⟨x0, x1, x2, x3, x4⟩ := five (x := ⟨k, ⟨c, nd⟩, val, true⟩) HK1.out; clear hb1)
      | (go_at_call 48; (with_reducible refine (text_calls k (by omega) HA1.out.st (Nat.le_trans hn₀ HA1.out.size) (by omega)).mono ?_); rintro e w2 ⟨rfl, v2, h2⟩; have HA2 := Aside0.mk (HA1.out.trans h2); have HK2 := Aside0.mk (h2.box HA1.out.st HK1.out (by decide) (by decide)); clear x0 x1 x2 x3 x4; obtain ⟨x0, x1, x2, x3, x4⟩ := five (x := ⟨k, ⟨c, nd⟩, val, true⟩) HK2.out; clear h2)
      | (go_at_call 28; (with_reducible refine (num_calls c (by omega) (by omega) HA2.out.st (Nat.le_trans hn₀ HA2.out.size) (by unfold txtB at t0; rw [List.length_append]; omega)).mono ?_); rintro e w3 ⟨rfl, v3, h3⟩; have HA3 := Aside0.mk (HA2.out.trans h3); have HK3 := Aside0.mk (h3.box HA2.out.st HK2.out (by decide) (by decide)); clear x0 x1 x2 x3 x4; obtain ⟨x0, x1, x2, x3, x4⟩ := five (x := ⟨k, ⟨c, nd⟩, val, true⟩) HK3.out; clear h3)
      | (go_at_call 28; (with_reducible refine (num_calls nd (by omega) (by omega) HA3.out.st (Nat.le_trans hn₀ HA3.out.size) (by unfold txtB at t0; rw [List.length_append, List.length_append]; omega)).mono ?_); rintro e w4 ⟨rfl, v4, h4⟩; have HA4 := Aside0.mk (HA3.out.trans h4); have HK4 := Aside0.mk (h4.box HA3.out.st HK3.out (by decide) (by decide)); clear x0 x1 x2 x3 x4; obtain ⟨x0, x1, x2, x3, x4⟩ := five (x := ⟨k, ⟨c, nd⟩, val, true⟩) HK4.out; clear h4)
      | (go_at_call 49; (with_reducible refine (flag_calls true HA4.out.st (Nat.le_trans hn₀ HA4.out.size) (by unfold txtB at t0; rw [List.length_append, List.length_append, List.length_append]; omega)).mono ?_); rintro e w5 ⟨rfl, v5, h5⟩; have HA5 := Aside0.mk (HA4.out.trans h5); have HK5 := Aside0.mk (h5.box HA4.out.st HK4.out (by decide) (by decide)); clear x0 x1 x2 x3 x4; obtain ⟨x0, x1, x2, x3, x4⟩ := five (x := ⟨k, ⟨c, nd⟩, val, true⟩) HK5.out; clear h5))
    first | go_end0 | ((try simp only [Exit.inBlock, Exit.then]); refine bodyPost_ret (results_none rfl _ _ _) rfl ?_)
    have h9 := HA5.out
    simp only [List.append_assoc] at h9
    exact ⟨rfl, _, by simpa [putB, txtB] using h9⟩
  | false =>
    go_enter Try.func26, Try.ntmps26
    go_wp2_with (first
      | ((with_reducible refine gate_dst (N := 3) rfl ?_); refine box_event ?hg (N := 3) ?hd (cs := #[.string k, .int .i64 c, .int .i64 nd, .string val, .bool false]) (t := 25) ?hr ?_; (case hd => rfl); (case hg => rfl); (case hr => first | (go_simp; done) | (go_simp; rfl)); intro gb w0g w0 hbox hb0; have HA0 := Aside0.mk ((Adv.refl HW.out).below hn₀ hb0); have HK0 := Aside0.mk hbox; obtain ⟨x0, x1, x2, x3, x4⟩ := five (x := ⟨k, ⟨c, nd⟩, val, false⟩) HK0.out; clear w0g hbox hb0)
      | (go_at_call 12; refine (item_Check.calls k c nd val false 0 _ HK.out).mono ?_; rintro e w1 ⟨rfl, hb1⟩; have HA1 := Aside0.mk (HA0.out.below hn₀ hb1); have HK1 := Aside0.mk (blk_below HK0.out hb1); clear x0 x1 x2 x3 x4; obtain ⟨x0, x1, x2, x3, x4⟩ := five (x := ⟨k, ⟨c, nd⟩, val, false⟩) HK1.out; clear hb1)
      | (go_at_call 48; (with_reducible refine (text_calls k (by omega) HA1.out.st (Nat.le_trans hn₀ HA1.out.size) (by omega)).mono ?_); rintro e w2 ⟨rfl, v2, h2⟩; have HA2 := Aside0.mk (HA1.out.trans h2); have HK2 := Aside0.mk (h2.box HA1.out.st HK1.out (by decide) (by decide)); clear x0 x1 x2 x3 x4; obtain ⟨x0, x1, x2, x3, x4⟩ := five (x := ⟨k, ⟨c, nd⟩, val, false⟩) HK2.out; clear h2)
      | (go_at_call 28; (with_reducible refine (num_calls c (by omega) (by omega) HA2.out.st (Nat.le_trans hn₀ HA2.out.size) (by unfold txtB at t0; rw [List.length_append]; omega)).mono ?_); rintro e w3 ⟨rfl, v3, h3⟩; have HA3 := Aside0.mk (HA2.out.trans h3); have HK3 := Aside0.mk (h3.box HA2.out.st HK2.out (by decide) (by decide)); clear x0 x1 x2 x3 x4; obtain ⟨x0, x1, x2, x3, x4⟩ := five (x := ⟨k, ⟨c, nd⟩, val, false⟩) HK3.out; clear h3)
      | (go_at_call 28; (with_reducible refine (num_calls nd (by omega) (by omega) HA3.out.st (Nat.le_trans hn₀ HA3.out.size) (by unfold txtB at t0; rw [List.length_append, List.length_append]; omega)).mono ?_); rintro e w4 ⟨rfl, v4, h4⟩; have HA4 := Aside0.mk (HA3.out.trans h4); have HK4 := Aside0.mk (h4.box HA3.out.st HK3.out (by decide) (by decide)); clear x0 x1 x2 x3 x4; obtain ⟨x0, x1, x2, x3, x4⟩ := five (x := ⟨k, ⟨c, nd⟩, val, false⟩) HK4.out; clear h4)
      | (go_at_call 49; (with_reducible refine (flag_calls false HA4.out.st (Nat.le_trans hn₀ HA4.out.size) (by unfold txtB at t0; rw [List.length_append, List.length_append, List.length_append]; omega)).mono ?_); rintro e w5 ⟨rfl, v5, h5⟩; have HA5 := Aside0.mk (HA4.out.trans h5); have HK5 := Aside0.mk (h5.box HA4.out.st HK4.out (by decide) (by decide)); clear x0 x1 x2 x3 x4; obtain ⟨x0, x1, x2, x3, x4⟩ := five (x := ⟨k, ⟨c, nd⟩, val, false⟩) HK5.out; clear h5)
      | (go_at_call 48; (with_reducible refine (text_calls val (by omega) HA5.out.st (Nat.le_trans hn₀ HA5.out.size) (by unfold txtB at t0; simp only [List.length_append, List.length_singleton] at t0 ⊢; omega)).mono ?_); rintro e w6 ⟨rfl, v6, h6⟩; have HA6 := Aside0.mk (HA5.out.trans h6); clear h6))
    first | go_end0 | ((try simp only [Exit.inBlock, Exit.then]); refine bodyPost_ret (results_none rfl _ _ _) rfl ?_)
    have h9 := HA6.out
    simp only [List.append_assoc] at h9
    exact ⟨rfl, _, by simpa [putB, txtB] using h9⟩
set_option maxRecDepth 100000 in
set_option maxHeartbeats 4000000 in
theorem rput_ok (x : S25) (hx : Small x) (hk : tidelineref03_Check.f x.f0 x.f1.f0 x.f1.f1 x.f2 x.f3 = some 0) {n₀ B : Nat} {w : World} {v : Value} {l : List Int} (h : Wrt n₀ 52 w B v l) (hn₀ : n₀ ≤ w.heap.size) (hl : l.length + 200 ≤ 140737488355328) :
    Calls Try.prog 27 #[.pointer (some ⟨B, 0, none⟩), .agg #[.string x.f0, .int .i64 x.f1.f0, .int .i64 x.f1.f1, .string x.f2, .bool x.f3]] w fun e w' => e = .returned (.tuple #[]) ∧ ∃ v', Adv n₀ 52 B w v w' v' (l ++ putB x) := by
  obtain ⟨s0, s1, s2, s3, s4, s5⟩ := hx
  have HW := Aside0.mk h
  have HK := Aside0.mk hk
  have t0 := txtB_len x.f0
  have t2 := txtB_len x.f2
  have t3 := (numB_len 8 x.f1.f0).2
  have t4 := (numB_len 8 x.f1.f1).2
  clear h hk
  obtain ⟨k, ⟨c, nd⟩, val, dead⟩ := x
  dsimp only at *
  cases dead with
  | true =>
    go_enter Try.func27, Try.ntmps27
    go_wp2_with (first
      | ((with_reducible refine gate_dst (N := 3) rfl ?_); refine box_event ?hg (N := 3) ?hd (cs := #[.string k, .int .i64 c, .int .i64 nd, .string val, .bool true]) (t := 25) ?hr ?_; (case hd => rfl); (case hg => rfl); (case hr => first | (go_simp; done) | (go_simp; rfl)); intro gb w0g w0 hbox hb0; have HA0 := Aside0.mk ((Adv.refl HW.out).below hn₀ hb0); have HK0 := Aside0.mk hbox; obtain ⟨x0, x1, x2, x3, x4⟩ := five (x := ⟨k, ⟨c, nd⟩, val, true⟩) HK0.out; clear w0g hbox hb0)
      | (go_at_call 13; refine (tidelineref03_Check.calls k c nd val true 0 _ HK.out).mono ?_; rintro e w1 ⟨rfl, hb1⟩; have HA1 := Aside0.mk (HA0.out.below hn₀ hb1); have HK1 := Aside0.mk (blk_below HK0.out hb1); clear x0 x1 x2 x3 x4; obtain ⟨x0, x1, x2, x3, x4⟩ := five (x := ⟨k, ⟨c, nd⟩, val, true⟩) HK1.out; clear hb1)
      | (go_at_call 50; (with_reducible refine (rtext_calls k (by omega) HA1.out.st (Nat.le_trans hn₀ HA1.out.size) (by omega)).mono ?_); rintro e w2 ⟨rfl, v2, h2⟩; have HA2 := Aside0.mk (HA1.out.trans h2); have HK2 := Aside0.mk (h2.box HA1.out.st HK1.out (by decide) (by decide)); clear x0 x1 x2 x3 x4; obtain ⟨x0, x1, x2, x3, x4⟩ := five (x := ⟨k, ⟨c, nd⟩, val, true⟩) HK2.out; clear h2)
      | (go_at_call 29; (with_reducible refine (rnum_calls c (by omega) (by omega) HA2.out.st (Nat.le_trans hn₀ HA2.out.size) (by unfold txtB at t0; rw [List.length_append]; omega)).mono ?_); rintro e w3 ⟨rfl, v3, h3⟩; have HA3 := Aside0.mk (HA2.out.trans h3); have HK3 := Aside0.mk (h3.box HA2.out.st HK2.out (by decide) (by decide)); clear x0 x1 x2 x3 x4; obtain ⟨x0, x1, x2, x3, x4⟩ := five (x := ⟨k, ⟨c, nd⟩, val, true⟩) HK3.out; clear h3)
      | (go_at_call 29; (with_reducible refine (rnum_calls nd (by omega) (by omega) HA3.out.st (Nat.le_trans hn₀ HA3.out.size) (by unfold txtB at t0; rw [List.length_append, List.length_append]; omega)).mono ?_); rintro e w4 ⟨rfl, v4, h4⟩; have HA4 := Aside0.mk (HA3.out.trans h4); have HK4 := Aside0.mk (h4.box HA3.out.st HK3.out (by decide) (by decide)); clear x0 x1 x2 x3 x4; obtain ⟨x0, x1, x2, x3, x4⟩ := five (x := ⟨k, ⟨c, nd⟩, val, true⟩) HK4.out; clear h4)
      | (go_at_call 51; (with_reducible refine (rflag_calls true HA4.out.st (Nat.le_trans hn₀ HA4.out.size) (by unfold txtB at t0; rw [List.length_append, List.length_append, List.length_append]; omega)).mono ?_); rintro e w5 ⟨rfl, v5, h5⟩; have HA5 := Aside0.mk (HA4.out.trans h5); have HK5 := Aside0.mk (h5.box HA4.out.st HK4.out (by decide) (by decide)); clear x0 x1 x2 x3 x4; obtain ⟨x0, x1, x2, x3, x4⟩ := five (x := ⟨k, ⟨c, nd⟩, val, true⟩) HK5.out; clear h5))
    first | go_end0 | ((try simp only [Exit.inBlock, Exit.then]); refine bodyPost_ret (results_none rfl _ _ _) rfl ?_)
    have h9 := HA5.out
    simp only [List.append_assoc] at h9
    exact ⟨rfl, _, by simpa [putB, txtB] using h9⟩
  | false =>
    go_enter Try.func27, Try.ntmps27
    go_wp2_with (first
      | ((with_reducible refine gate_dst (N := 3) rfl ?_); refine box_event ?hg (N := 3) ?hd (cs := #[.string k, .int .i64 c, .int .i64 nd, .string val, .bool false]) (t := 25) ?hr ?_; (case hd => rfl); (case hg => rfl); (case hr => first | (go_simp; done) | (go_simp; rfl)); intro gb w0g w0 hbox hb0; have HA0 := Aside0.mk ((Adv.refl HW.out).below hn₀ hb0); have HK0 := Aside0.mk hbox; obtain ⟨x0, x1, x2, x3, x4⟩ := five (x := ⟨k, ⟨c, nd⟩, val, false⟩) HK0.out; clear w0g hbox hb0)
      | (go_at_call 13; refine (tidelineref03_Check.calls k c nd val false 0 _ HK.out).mono ?_; rintro e w1 ⟨rfl, hb1⟩; have HA1 := Aside0.mk (HA0.out.below hn₀ hb1); have HK1 := Aside0.mk (blk_below HK0.out hb1); clear x0 x1 x2 x3 x4; obtain ⟨x0, x1, x2, x3, x4⟩ := five (x := ⟨k, ⟨c, nd⟩, val, false⟩) HK1.out; clear hb1)
      | (go_at_call 50; (with_reducible refine (rtext_calls k (by omega) HA1.out.st (Nat.le_trans hn₀ HA1.out.size) (by omega)).mono ?_); rintro e w2 ⟨rfl, v2, h2⟩; have HA2 := Aside0.mk (HA1.out.trans h2); have HK2 := Aside0.mk (h2.box HA1.out.st HK1.out (by decide) (by decide)); clear x0 x1 x2 x3 x4; obtain ⟨x0, x1, x2, x3, x4⟩ := five (x := ⟨k, ⟨c, nd⟩, val, false⟩) HK2.out; clear h2)
      | (go_at_call 29; (with_reducible refine (rnum_calls c (by omega) (by omega) HA2.out.st (Nat.le_trans hn₀ HA2.out.size) (by unfold txtB at t0; rw [List.length_append]; omega)).mono ?_); rintro e w3 ⟨rfl, v3, h3⟩; have HA3 := Aside0.mk (HA2.out.trans h3); have HK3 := Aside0.mk (h3.box HA2.out.st HK2.out (by decide) (by decide)); clear x0 x1 x2 x3 x4; obtain ⟨x0, x1, x2, x3, x4⟩ := five (x := ⟨k, ⟨c, nd⟩, val, false⟩) HK3.out; clear h3)
      | (go_at_call 29; (with_reducible refine (rnum_calls nd (by omega) (by omega) HA3.out.st (Nat.le_trans hn₀ HA3.out.size) (by unfold txtB at t0; rw [List.length_append, List.length_append]; omega)).mono ?_); rintro e w4 ⟨rfl, v4, h4⟩; have HA4 := Aside0.mk (HA3.out.trans h4); have HK4 := Aside0.mk (h4.box HA3.out.st HK3.out (by decide) (by decide)); clear x0 x1 x2 x3 x4; obtain ⟨x0, x1, x2, x3, x4⟩ := five (x := ⟨k, ⟨c, nd⟩, val, false⟩) HK4.out; clear h4)
      | (go_at_call 51; (with_reducible refine (rflag_calls false HA4.out.st (Nat.le_trans hn₀ HA4.out.size) (by unfold txtB at t0; rw [List.length_append, List.length_append, List.length_append]; omega)).mono ?_); rintro e w5 ⟨rfl, v5, h5⟩; have HA5 := Aside0.mk (HA4.out.trans h5); have HK5 := Aside0.mk (h5.box HA4.out.st HK4.out (by decide) (by decide)); clear x0 x1 x2 x3 x4; obtain ⟨x0, x1, x2, x3, x4⟩ := five (x := ⟨k, ⟨c, nd⟩, val, false⟩) HK5.out; clear h5)
      | (go_at_call 50; (with_reducible refine (rtext_calls val (by omega) HA5.out.st (Nat.le_trans hn₀ HA5.out.size) (by unfold txtB at t0; simp only [List.length_append, List.length_singleton] at t0 ⊢; omega)).mono ?_); rintro e w6 ⟨rfl, v6, h6⟩; have HA6 := Aside0.mk (HA5.out.trans h6); clear h6))
    first | go_end0 | ((try simp only [Exit.inBlock, Exit.then]); refine bodyPost_ret (results_none rfl _ _ _) rfl ?_)
    have h9 := HA6.out
    simp only [List.append_assoc] at h9
    exact ⟨rfl, _, by simpa [putB, txtB] using h9⟩
end Go.Proofs.Ythalodnfecaccaa.Wr
