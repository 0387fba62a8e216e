-- By wip/late.py (a program of this session) out of wip/words.
import Derived.Test.YtcfiobhebakhlabProg
import Derived.Test.YtcfiobhebakhlabWWords
import Derived.Test.YtcfiobhebakhlabWLast
import Derived.Test.YtcfiobhebakhlabWMore
import Derived.Test.YtcfiobhebakhlabSWr
import Derived.Test.YtcfiobhebakhlabSWrNums
import Derived.Test.YtcfiobhebakhlabSWrRef
import Derived.Test.YtcfiobhebakhlabSWrWord
import Derived.RangeFuncBox
import Derived.BigQuiet
import Derived.Deep.QuietTactic
import Derived.Lib.Hide
import Derived.Tactics
import Derived.WalkKit
import Derived.OwnWalk
import Derived.Test.YtcfiobhebakhlabSNumsP
set_option linter.unusedVariables false
set_option linter.unusedSimpArgs false
namespace Go.Proofs.Ytcfiobhebakhlab.Wr
open Go.RowKit Go.Proofs.YtcfiobhebakhlabW.PrintWords Go.Proofs.Ytcfiobhebakhlab.Pure
/-! One part, written by both sides. -/
/-- What a part lays down. -/
def partB (k n : Int) (t : ByteArray) (u : Int) (b : Bool) : List Int :=
  if k = 0 then numB 8 (max n 0) else if k = 1 then numB 8 t.size ++ bytesOf t else if k = 2 then wordB u 8 else if k = 3 then [if b = true then 1 else 0] else []
theorem partB_len (k n : Int) (t : ByteArray) (u : Int) (b : Bool) : (partB k n t u b).length ≤ 9 + t.size := by
  have h1 := (numB_len 8 (max n 0)).2
  have h2 := (numB_len 8 (t.size : Int)).2
  have h3 := wordB_len u 8
  have h4 := bytesOf_length t
  unfold partB
  (repeat' split) <;> (try simp only [List.length_append, List.length_singleton, List.length_nil]) <;> omega
theorem fiveP {W : World} {g : Nat} {k n u : Int} {t : ByteArray} {b : Bool} (h : W.heap[g]? = some (.cells #[.int .i64 k, .int .i64 n, .string t, .int .u64 u, .bool b] 34 (0, 0))) :
    W.cell? ⟨g, 0, none⟩ = some (.int .i64 k) ∧ W.cell? ⟨g, 1, none⟩ = some (.int .i64 n) ∧ W.cell? ⟨g, 2, none⟩ = some (.string t) ∧ W.cell? ⟨g, 3, none⟩ = some (.int .u64 u) ∧ W.cell? ⟨g, 4, none⟩ = some (.bool b) :=
  ⟨(blk_cell h 0).trans rfl, (blk_cell h 1).trans rfl, (blk_cell h 2).trans rfl, (blk_cell h 3).trans rfl, (blk_cell h 4).trans rfl⟩
set_option maxRecDepth 100000 in
set_option maxHeartbeats 4000000 in
theorem write_calls (k n : Int) (t : ByteArray) (u : Int) (b : Bool) (hn0 : -9223372036854775808 ≤ n) (hn1 : n ≤ 9223372036854775807) (hu0 : 0 ≤ u) (hu1 : u < 18446744073709551616) (ht : t.size ≤ 70368744177664)
    {n₀ B : Nat} {w : World} {v : Value} {l : List Int} (h : Wrt n₀ 60 w B v l) (hn₀ : n₀ ≤ w.heap.size) (hl : l.length + 9 + t.size ≤ 140737488355328) :
    Calls Try.prog 13 #[.pointer (some ⟨B, 0, none⟩), .agg #[.int .i64 k, .int .i64 n, .string t, .int .u64 u, .bool b]] w fun e w' => e = .returned (.tuple #[]) ∧ ∃ v', Adv n₀ 60 B w v w' v' (l ++ partB k n t u b) := by
  have HW := Aside0.mk h
  clear h
  unfold partB
  by_cases k0 : k = 0
  · subst k0
    simp only [reduceIte, Int.reduceEq]
    go_enter Try.func13, Try.ntmps13
    go_wp2_with (first
      | ((with_reducible refine gate_dst (N := 3) rfl ?_); refine box_event ?hg (N := 3) ?hd (cs := #[.int .i64 0, .int .i64 n, .string t, .int .u64 u, .bool b]) (t := 34) ?hr ?_; (case hd => rfl); (case hg => rfl); (case hr => first | (go_simp; done) | (go_simp; rfl)); intro gb w0g w0 hbox hb0; have HA0 := Aside0.mk ((Adv.refl HW.out).below hn₀ hb0); obtain ⟨x0, x1, x2, x3, x4⟩ := fiveP hbox; clear w0g hbox hb0)
      | (go_at_call 26; (with_reducible refine (num_any n hn0 hn1 HA0.out.st (Nat.le_trans hn₀ HA0.out.size) (by omega)).mono ?_); rintro e w1 ⟨rfl, v1, h1⟩; have HA1 := Aside0.mk (HA0.out.trans h1); clear h1))
    first | go_end0 | ((try simp only [Exit.inBlock, Exit.then]); refine bodyPost_ret (results_none rfl _ _ _) rfl ?_)
    exact ⟨rfl, _, HA1.out⟩
  by_cases k1 : k = 1
  · subst k1
    simp only [reduceIte, Int.reduceEq]
    go_enter Try.func13, Try.ntmps13
    go_wp2_with (first
      | ((with_reducible refine gate_dst (N := 3) rfl ?_); refine box_event ?hg (N := 3) ?hd (cs := #[.int .i64 1, .int .i64 n, .string t, .int .u64 u, .bool b]) (t := 34) ?hr ?_; (case hd => rfl); (case hg => rfl); (case hr => first | (go_simp; done) | (go_simp; rfl)); intro gb w0g w0 hbox hb0; have HA0 := Aside0.mk ((Adv.refl HW.out).below hn₀ hb0); obtain ⟨x0, x1, x2, x3, x4⟩ := fiveP hbox; clear w0g hbox hb0)
      | (go_at_call 35; (with_reducible refine (text_calls t ht HA0.out.st (Nat.le_trans hn₀ HA0.out.size) (by omega)).mono ?_); rintro e w1 ⟨rfl, v1, h1⟩; have HA1 := Aside0.mk (HA0.out.trans h1); clear h1))
    first | go_end0 | ((try simp only [Exit.inBlock, Exit.then]); refine bodyPost_ret (results_none rfl _ _ _) rfl ?_)
    exact ⟨rfl, _, HA1.out⟩
  by_cases k2 : k = 2
  · subst k2
    simp only [reduceIte, Int.reduceEq]
    go_enter Try.func13, Try.ntmps13
    go_wp2_with (first
      | ((with_reducible refine gate_dst (N := 3) rfl ?_); refine box_event ?hg (N := 3) ?hd (cs := #[.int .i64 2, .int .i64 n, .string t, .int .u64 u, .bool b]) (t := 34) ?hr ?_; (case hd => rfl); (case hg => rfl); (case hr => first | (go_simp; done) | (go_simp; rfl)); intro gb w0g w0 hbox hb0; have HA0 := Aside0.mk ((Adv.refl HW.out).below hn₀ hb0); obtain ⟨x0, x1, x2, x3, x4⟩ := fiveP hbox; clear w0g hbox hb0)
      | (go_at_call 36; (with_reducible refine (word_calls u hu0 hu1 HA0.out.st (Nat.le_trans hn₀ HA0.out.size) (by omega)).mono ?_); rintro e w1 ⟨rfl, v1, h1⟩; have HA1 := Aside0.mk (HA0.out.trans h1); clear h1))
    first | go_end0 | ((try simp only [Exit.inBlock, Exit.then]); refine bodyPost_ret (results_none rfl _ _ _) rfl ?_)
    exact ⟨rfl, _, HA1.out⟩
  by_cases k3 : k = 3
  · subst k3
    simp only [reduceIte, Int.reduceEq]
    obtain ⟨fb, hfb⟩ : ∃ x : Int, x = (if b = true then (1 : Int) else 0) := ⟨_, rfl⟩
    rw [← hfb]
    go_enter Try.func13, Try.ntmps13
    go_wp2_with (first
      | ((with_reducible refine gate_dst (N := 3) rfl ?_); refine box_event ?hg (N := 3) ?hd (cs := #[.int .i64 3, .int .i64 n, .string t, .int .u64 u, .bool b]) (t := 34) ?hr ?_; (case hd => rfl); (case hg => rfl); (case hr => first | (go_simp; done) | (go_simp; rfl)); intro gb w0g w0 hbox hb0; have HA0 := Aside0.mk ((Adv.refl HW.out).below hn₀ hb0); obtain ⟨x0, x1, x2, x3, x4⟩ := fiveP hbox; clear w0g hbox hb0)
      | (go_at_call 37; (with_reducible refine (flag_calls b HA0.out.st (Nat.le_trans hn₀ HA0.out.size) (by omega)).mono ?_); rintro e w1 ⟨rfl, v1, h1⟩; rw [← hfb] at h1; have HA1 := Aside0.mk (HA0.out.trans h1); clear h1))
    first | go_end0 | ((try simp only [Exit.inBlock, Exit.then]); refine bodyPost_ret (results_none rfl _ _ _) rfl ?_)
    exact ⟨rfl, _, HA1.out⟩
  rw [if_neg k0, if_neg k1, if_neg k2, if_neg k3, List.append_nil]
  have e0 : (k == 0) = false := beq_eq_false_iff_ne.mpr k0
  have e1 : (k == 1) = false := beq_eq_false_iff_ne.mpr k1
  have e2 : (k == 2) = false := beq_eq_false_iff_ne.mpr k2
  have e3 : (k == 3) = false := beq_eq_false_iff_ne.mpr k3
  go_enter Try.func13, Try.ntmps13
  go_wp2_with ((with_reducible refine gate_dst (N := 3) rfl ?_); refine box_event ?hg (N := 3) ?hd (cs := #[.int .i64 k, .int .i64 n, .string t, .int .u64 u, .bool b]) (t := 34) ?hr ?_; (case hd => rfl); (case hg => rfl); (case hr => first | (go_simp; done) | (go_simp; rfl)); intro gb w0g w0 hbox hb0; have HA0 := Aside0.mk ((Adv.refl HW.out).below hn₀ hb0); obtain ⟨x0, x1, x2, x3, x4⟩ := fiveP hbox; clear w0g hbox hb0)
  first | go_end0 | ((try simp only [Exit.inBlock, Exit.then]); refine bodyPost_ret (results_none rfl _ _ _) rfl ?_)
  exact ⟨rfl, _, HA0.out⟩
set_option maxRecDepth 100000 in
set_option maxHeartbeats 4000000 in
theorem rwrite_calls (k n : Int) (t : ByteArray) (u : Int) (b : Bool) (hn0 : -9223372036854775808 ≤ n) (hn1 : n ≤ 9223372036854775807) (hu0 : 0 ≤ u) (hu1 : u < 18446744073709551616) (ht : t.size ≤ 70368744177664)
    {n₀ B : Nat} {w : World} {v : Value} {l : List Int} (h : Wrt n₀ 38 w B v l) (hn₀ : n₀ ≤ w.heap.size) (hl : l.length + 9 + t.size ≤ 140737488355328) :
    Calls Try.prog 14 #[.pointer (some ⟨B, 0, none⟩), .agg #[.int .i64 k, .int .i64 n, .string t, .int .u64 u, .bool b]] w fun e w' => e = .returned (.tuple #[]) ∧ ∃ v', Adv n₀ 38 B w v w' v' (l ++ partB k n t u b) := by
  have HW := Aside0.mk h
  clear h
  unfold partB
  by_cases k0 : k = 0
  · subst k0
    simp only [reduceIte, Int.reduceEq]
    go_enter Try.func14, Try.ntmps14
    go_wp2_with (first
      | ((with_reducible refine gate_dst (N := 3) rfl ?_); refine box_event ?hg (N := 3) ?hd (cs := #[.int .i64 0, .int .i64 n, .string t, .int .u64 u, .bool b]) (t := 34) ?hr ?_; (case hd => rfl); (case hg => rfl); (case hr => first | (go_simp; done) | (go_simp; rfl)); intro gb w0g w0 hbox hb0; have HA0 := Aside0.mk ((Adv.refl HW.out).below hn₀ hb0); obtain ⟨x0, x1, x2, x3, x4⟩ := fiveP hbox; clear w0g hbox hb0)
      | (go_at_call 38; (with_reducible refine (rnum_any n hn0 hn1 HA0.out.st (Nat.le_trans hn₀ HA0.out.size) (by omega)).mono ?_); rintro e w1 ⟨rfl, v1, h1⟩; have HA1 := Aside0.mk (HA0.out.trans h1); clear h1))
    first | go_end0 | ((try simp only [Exit.inBlock, Exit.then]); refine bodyPost_ret (results_none rfl _ _ _) rfl ?_)
    exact ⟨rfl, _, HA1.out⟩
  by_cases k1 : k = 1
  · subst k1
    simp only [reduceIte, Int.reduceEq]
    go_enter Try.func14, Try.ntmps14
    go_wp2_with (first
      | ((with_reducible refine gate_dst (N := 3) rfl ?_); refine box_event ?hg (N := 3) ?hd (cs := #[.int .i64 1, .int .i64 n, .string t, .int .u64 u, .bool b]) (t := 34) ?hr ?_; (case hd => rfl); (case hg => rfl); (case hr => first | (go_simp; done) | (go_simp; rfl)); intro gb w0g w0 hbox hb0; have HA0 := Aside0.mk ((Adv.refl HW.out).below hn₀ hb0); obtain ⟨x0, x1, x2, x3, x4⟩ := fiveP hbox; clear w0g hbox hb0)
      | (go_at_call 39; (with_reducible refine (rtext_calls t ht HA0.out.st (Nat.le_trans hn₀ HA0.out.size) (by omega)).mono ?_); rintro e w1 ⟨rfl, v1, h1⟩; have HA1 := Aside0.mk (HA0.out.trans h1); clear h1))
    first | go_end0 | ((try simp only [Exit.inBlock, Exit.then]); refine bodyPost_ret (results_none rfl _ _ _) rfl ?_)
    exact ⟨rfl, _, HA1.out⟩
  by_cases k2 : k = 2
  · subst k2
    simp only [reduceIte, Int.reduceEq]
    go_enter Try.func14, Try.ntmps14
    go_wp2_with (first
      | ((with_reducible refine gate_dst (N := 3) rfl ?_); refine box_event ?hg (N := 3) ?hd (cs := #[.int .i64 2, .int .i64 n, .string t, .int .u64 u, .bool b]) (t := 34) ?hr ?_; (case hd => rfl); (case hg => rfl); (case hr => first | (go_simp; done) | (go_simp; rfl)); intro gb w0g w0 hbox hb0; have HA0 := Aside0.mk ((Adv.refl HW.out).below hn₀ hb0); obtain ⟨x0, x1, x2, x3, x4⟩ := fiveP hbox; clear w0g hbox hb0)
      | (go_at_call 40; (with_reducible refine (rword_calls u hu0 hu1 HA0.out.st (Nat.le_trans hn₀ HA0.out.size) (by omega)).mono ?_); rintro e w1 ⟨rfl, v1, h1⟩; have HA1 := Aside0.mk (HA0.out.trans h1); clear h1))
    first | go_end0 | ((try simp only [Exit.inBlock, Exit.then]); refine bodyPost_ret (results_none rfl _ _ _) rfl ?_)
    exact ⟨rfl, _, HA1.out⟩
  by_cases k3 : k = 3
  · subst k3
    simp only [reduceIte, Int.reduceEq]
    obtain ⟨fb, hfb⟩ : ∃ x : Int, x = (if b = true then (1 : Int) else 0) := ⟨_, rfl⟩
    rw [← hfb]
    go_enter Try.func14, Try.ntmps14
    go_wp2_with (first
      | ((with_reducible refine gate_dst (N := 3) rfl ?_); refine box_event ?hg (N := 3) ?hd (cs := #[.int .i64 3, .int .i64 n, .string t, .int .u64 u, .bool b]) (t := 34) ?hr ?_; (case hd => rfl); (case hg => rfl); (case hr => first | (go_simp; done) | (go_simp; rfl)); intro gb w0g w0 hbox hb0; have HA0 := Aside0.mk ((Adv.refl HW.out).below hn₀ hb0); obtain ⟨x0, x1, x2, x3, x4⟩ := fiveP hbox; clear w0g hbox hb0)
      | (go_at_call 41; (with_reducible refine (rflag_calls b HA0.out.st (Nat.le_trans hn₀ HA0.out.size) (by omega)).mono ?_); rintro e w1 ⟨rfl, v1, h1⟩; rw [← hfb] at h1; have HA1 := Aside0.mk (HA0.out.trans h1); clear h1))
    first | go_end0 | ((try simp only [Exit.inBlock, Exit.then]); refine bodyPost_ret (results_none rfl _ _ _) rfl ?_)
    exact ⟨rfl, _, HA1.out⟩
  rw [if_neg k0, if_neg k1, if_neg k2, if_neg k3, List.append_nil]
  have e0 : (k == 0) = false := beq_eq_false_iff_ne.mpr k0
  have e1 : (k == 1) = false := beq_eq_false_iff_ne.mpr k1
  have e2 : (k == 2) = false := beq_eq_false_iff_ne.mpr k2
  have e3 : (k == 3) = false := beq_eq_false_iff_ne.mpr k3
  go_enter Try.func14, Try.ntmps14
  go_wp2_with ((with_reducible refine gate_dst (N := 3) rfl ?_); refine box_event ?hg (N := 3) ?hd (cs := #[.int .i64 k, .int .i64 n, .string t, .int .u64 u, .bool b]) (t := 34) ?hr ?_; (case hd => rfl); (case hg => rfl); (case hr => first | (go_simp; done) | (go_simp; rfl)); intro gb w0g w0 hbox hb0; have HA0 := Aside0.mk ((Adv.refl HW.out).below hn₀ hb0); obtain ⟨x0, x1, x2, x3, x4⟩ := fiveP hbox; clear w0g hbox hb0)
  first | go_end0 | ((try simp only [Exit.inBlock, Exit.then]); refine bodyPost_ret (results_none rfl _ _ _) rfl ?_)
  exact ⟨rfl, _, HA0.out⟩
end Go.Proofs.Ytcfiobhebakhlab.Wr
