-- By wip/late.py (a program of this session) out of wip/words.
import Derived.Test.YthalodnfecaccaaProg
import Derived.Test.YthalodnfecaccaaWWords
import Derived.Test.YthalodnfecaccaaWLast
import Derived.Test.YthalodnfecaccaaWMore
import Derived.Test.YthalodnfecaccaaPAllx0
import Derived.Test.YthalodnfecaccaaPAllx1
import Derived.Test.YthalodnfecaccaaSWr
import Derived.Test.YthalodnfecaccaaSWrNums
import Derived.Test.YthalodnfecaccaaSWrRef
import Derived.Test.YthalodnfecaccaaSWrPut
import Derived.Test.YthalodnfecaccaaSWrTwo
import Derived.RangeFuncBox
import Derived.BigQuiet
import Derived.Deep.QuietTactic
import Derived.Lib.Hide
import Derived.Tactics
import Derived.WalkKit
import Derived.OwnWalk
import Derived.Test.YthalodnfecaccaaSNumsP
set_option linter.unusedVariables false
set_option linter.unusedSimpArgs false
namespace Go.Proofs.Ythalodnfecaccaa.Wr
open Go.RowKit Go.Proofs.YthalodnfecaccaaW.PrintWords Go.Proofs.Ythalodnfecaccaa.PAll Go.Proofs.Ythalodnfecaccaa.Pure
/-! Entries, laid down by both sides. -/
theorem chk_cases (x : S25) : (item_Check.f x.f0 x.f1.f0 x.f1.f1 x.f2 x.f3 = some 0 ∧ tidelineref03_Check.f x.f0 x.f1.f0 x.f1.f1 x.f2 x.f3 = some 0 ∧ Small x) ∨ (∃ c, c ≠ 0 ∧ item_Check.f x.f0 x.f1.f0 x.f1.f1 x.f2 x.f3 = some c ∧ tidelineref03_Check.f x.f0 x.f1.f0 x.f1.f1 x.f2 x.f3 = some c) := by
  have v1 : item_CheckVersion.f x.f1.f0 x.f1.f1 = some (if 1 ≤ x.f1.f0 ∧ x.f1.f0 ≤ 1099511627776 ∧ 0 ≤ x.f1.f1 ∧ x.f1.f1 < 8 then 0 else 30) := by
    unfold item_CheckVersion.f
    (repeat' split) <;> first | rfl | omega
  have v2 : tidelineref03_CheckVersion.f x.f1.f0 x.f1.f1 = some (if 1 ≤ x.f1.f0 ∧ x.f1.f0 ≤ 1099511627776 ∧ 0 ≤ x.f1.f1 ∧ x.f1.f1 < 8 then 0 else 30) := by
    unfold tidelineref03_CheckVersion.f
    (repeat' split) <;> first | rfl | omega
  unfold item_Check.f tidelineref03_Check.f
  rw [v1, v2, Option.bind_some]
  by_cases h1 : (x.f0.size : Int) > 16
  · rw [if_pos h1]; exact .inr ⟨20, by decide, rfl, rfl⟩
  · rw [if_neg h1]
    by_cases h2 : 1 ≤ x.f1.f0 ∧ x.f1.f0 ≤ 1099511627776 ∧ 0 ≤ x.f1.f1 ∧ x.f1.f1 < 8
    · rw [if_pos h2, if_pos rfl]
      by_cases h3 : (x.f2.size : Int) > 32
      · rw [if_pos h3]; exact .inr ⟨31, by decide, rfl, rfl⟩
      · rw [if_neg h3]
        have hS : Small x := ⟨by omega, by omega, by omega, by omega, by omega, by omega⟩
        by_cases h4 : x.f3 = true
        · rw [if_pos h4]
          by_cases h5 : x.f2.toList = ([] : List UInt8)
          · rw [if_pos h5]; exact .inl ⟨rfl, rfl, hS⟩
          · rw [if_neg h5]; exact .inr ⟨32, by decide, rfl, rfl⟩
        · rw [if_neg h4]; exact .inl ⟨rfl, rfl, hS⟩
    · rw [if_neg h2, if_neg (by decide)]; exact .inr ⟨30, by decide, rfl, rfl⟩
open Classical in
/-- What an entry lays down. -/
noncomputable def putA (x : S25) : List Int := if item_Check.f x.f0 x.f1.f0 x.f1.f1 x.f2 x.f3 = some 0 then putB x else []
theorem putA_len (x : S25) : (putA x).length ≤ 90 := by
  unfold putA
  rcases chk_cases x with ⟨h1, _, hS⟩ | ⟨c, hc, h1, _⟩
  · rw [if_pos h1]
    obtain ⟨s0, s1, s2, s3, s4, s5⟩ := hS
    have t0 := txtB_len x.f0
    have t2 := txtB_len x.f2
    have t3 := (numB_len 8 x.f1.f0).2
    have t4 := (numB_len 8 x.f1.f1).2
    unfold putB
    split <;> simp only [List.length_append, List.length_singleton, List.length_nil] <;> omega
  · rw [if_neg (by rw [h1]; intro e; exact hc (Option.some.inj e))]; simp
set_option maxRecDepth 100000 in
set_option maxHeartbeats 4000000 in
theorem put_any (x : S25) {n₀ B : Nat} {w : World} {v : Value} {l : List Int} (h : Wrt n₀ 71 w B v l) (hn₀ : n₀ ≤ w.heap.size) (hl : l.length + 200 ≤ 140737488355328) :
    Calls Try.prog 26 #[.pointer (some ⟨B, 0, none⟩), .agg #[.string x.f0, .int .i64 x.f1.f0, .int .i64 x.f1.f1, .string x.f2, .bool x.f3]] w fun e w' => e = .returned (.tuple #[]) ∧ ∃ v', Adv n₀ 71 B w v w' v' (l ++ putA x) := by
  unfold putA
  rcases chk_cases x with ⟨h1, _, hS⟩ | ⟨c, hc, h1, _⟩
  · rw [if_pos h1]; exact put_ok x hS h1 h hn₀ hl
  · rw [if_neg (by rw [h1]; intro e; exact hc (Option.some.inj e)), List.append_nil]
    have HW := Aside0.mk h
    have HK := Aside0.mk h1
    have hc0 : (c == 0) = false := beq_eq_false_iff_ne.mpr hc
    have hc1 : (c != 0) = true := bne_iff_ne.mpr hc
    clear h h1 hc
    go_enter Try.func26, Try.ntmps26
    go_wp2_with (first
      | ((with_reducible refine gate_dst (N := 3) rfl ?_); refine box_event ?hg (N := 3) ?hd (cs := #[.string x.f0, .int .i64 x.f1.f0, .int .i64 x.f1.f1, .string x.f2, .bool x.f3]) (t := 25) ?hr ?_; (case hd => rfl); (case hg => rfl); (case hr => first | (go_simp; done) | (go_simp; rfl)); intro gb w0g w0 hbox hb0; have HA0 := Aside0.mk ((Adv.refl HW.out).below hn₀ hb0); have HK0 := Aside0.mk hbox; obtain ⟨x0, x1, x2, x3, x4⟩ := five (x := x) HK0.out; clear w0g hbox hb0)
      | (go_at_call 12; refine (item_Check.calls x.f0 x.f1.f0 x.f1.f1 x.f2 x.f3 c _ HK.out).mono ?_; rintro e w1 ⟨rfl, hb1⟩; have HA1 := Aside0.mk (HA0.out.below hn₀ hb1); clear hb1))
    first | go_end0 | ((try simp only [Exit.inBlock, Exit.then]); refine bodyPost_ret (results_none rfl _ _ _) rfl ?_)
    exact ⟨rfl, _, HA1.out⟩
set_option maxRecDepth 100000 in
set_option maxHeartbeats 4000000 in
theorem rput_any (x : S25) {n₀ B : Nat} {w : World} {v : Value} {l : List Int} (h : Wrt n₀ 52 w B v l) (hn₀ : n₀ ≤ w.heap.size) (hl : l.length + 200 ≤ 140737488355328) :
    Calls Try.prog 27 #[.pointer (some ⟨B, 0, none⟩), .agg #[.string x.f0, .int .i64 x.f1.f0, .int .i64 x.f1.f1, .string x.f2, .bool x.f3]] w fun e w' => e = .returned (.tuple #[]) ∧ ∃ v', Adv n₀ 52 B w v w' v' (l ++ putA x) := by
  unfold putA
  rcases chk_cases x with ⟨h1, h2, hS⟩ | ⟨c, hc, h1, h2⟩
  · rw [if_pos h1]; exact rput_ok x hS h2 h hn₀ hl
  · rw [if_neg (by rw [h1]; intro e; exact hc (Option.some.inj e)), List.append_nil]
    have HW := Aside0.mk h
    have HK := Aside0.mk h2
    have hc0 : (c == 0) = false := beq_eq_false_iff_ne.mpr hc
    have hc1 : (c != 0) = true := bne_iff_ne.mpr hc
    clear h h1 h2 hc
    go_enter Try.func27, Try.ntmps27
    go_wp2_with (first
      | ((with_reducible refine gate_dst (N := 3) rfl ?_); refine box_event ?hg (N := 3) ?hd (cs := #[.string x.f0, .int .i64 x.f1.f0, .int .i64 x.f1.f1, .string x.f2, .bool x.f3]) (t := 25) ?hr ?_; (case hd => rfl); (case hg => rfl); (case hr => first | (go_simp; done) | (go_simp; rfl)); intro gb w0g w0 hbox hb0; have HA0 := Aside0.mk ((Adv.refl HW.out).below hn₀ hb0); have HK0 := Aside0.mk hbox; obtain ⟨x0, x1, x2, x3, x4⟩ := five (x := x) HK0.out; clear w0g hbox hb0)
      | (go_at_call 13; refine (tidelineref03_Check.calls x.f0 x.f1.f0 x.f1.f1 x.f2 x.f3 c _ HK.out).mono ?_; rintro e w1 ⟨rfl, hb1⟩; have HA1 := Aside0.mk (HA0.out.below hn₀ hb1); clear hb1))
    first | go_end0 | ((try simp only [Exit.inBlock, Exit.then]); refine bodyPost_ret (results_none rfl _ _ _) rfl ?_)
    exact ⟨rfl, _, HA1.out⟩
end Go.Proofs.Ythalodnfecaccaa.Wr
