-- By wip/late.py (a program of this session) out of wip/words.
import Derived.Test.YthalodnfecaccaaProg
import Derived.Test.YthalodnfecaccaaWWords
import Derived.Test.YthalodnfecaccaaWLast
import Derived.Test.YthalodnfecaccaaWMore
import Derived.Test.YthalodnfecaccaaSRd
import Derived.Test.YthalodnfecaccaaSRdNum
import Derived.Test.YthalodnfecaccaaSRdRnum
import Derived.RangeFuncBox
import Derived.BigQuiet
import Derived.Deep.QuietTactic
import Derived.Lib.Hide
import Derived.Tactics
import Derived.WalkKit
import Derived.OwnWalk
import Derived.Test.YthalodnfecaccaaSRdP
set_option linter.unusedVariables false
set_option linter.unusedSimpArgs false
namespace Go.Proofs.Ythalodnfecaccaa.Rd
open Go.RowKit Go.Proofs.YthalodnfecaccaaW.PrintWords Go.Proofs.Ythalodnfecaccaa.Pure Go.Proofs.Ythalodnfecaccaa.Wr
/-! A number is read. -/
theorem rNum_bad {most : Int} {l : List Int} {p : Nat} {e : Int} (h : e ≠ 0) : rNum most l p e = (0, p, e) := if_neg h
theorem rNum_ok {most : Int} {l : List Int} {p : Nat} {q : Int × Nat × Int} (h : numR most l p = q) : rNum most l p 0 = (q.1, p + q.2.1, q.2.2) := by unfold rNum; rw [if_pos rfl, h]
set_option maxRecDepth 100000 in
theorem num_calls (most : Int) (hm0 : -9223372036854775808 ≤ most) (hm1 : most ≤ 9223372036854775807) {n₀ B : Nat} {w : World} {A : Option Addr} {c : Nat} {l : List Int} {p : Nat} {e : Int} (h : Rdr n₀ 77 w B A c l p e) :
    Calls Try.prog 53 #[.pointer (some ⟨B, 0, none⟩), .int .i64 most] w fun x w' => x = .returned (.int .i64 (rNum most l p e).1) ∧ Went n₀ 77 B w w' A c l (rNum most l p e).2.1 (rNum most l p e).2.2 := by
  have hc1 := h.c1
  have hc2 := h.c2
  have hf1 := h.frozen 1
  have hf2 := h.frozen 2
  have HR := Aside0.mk h
  have hll := h.ll
  have hb := numR_bounds most h.pl h.bytes
  clear h
  by_cases he : e = 0
  · subst he
    obtain ⟨⟨n, m, er⟩, hq⟩ : ∃ q, numR most l p = q := ⟨_, rfl⟩
    rw [rNum_ok hq]
    rw [hq] at hb
    obtain ⟨b1, b2, b3, b4, b5, b6, b7⟩ := hb
    simp only at b1 b2 b3 b4 b5 b6 b7
    have hw : wrap64 ((p : Int) + (m : Int)) = ((p + m : Nat) : Int) := by unfold wrap64; omega
    have hN := number_calls most hm0 hm1 HR.out
    simp only [hq] at hN
    by_cases h0 : er = 0
    · subst h0
      rw [numTo_ok hq] at hN
      clear hq b4 b5 b6 b7
      go_enter Try.func53, Try.ntmps53
      go_wp2_with (go_at_call 64; refine hN.mono ?_; rintro x w1 ⟨rfl, rfl⟩)
      go_ret
      exact ⟨rfl, (Went.refl HR.out).then1 (p + m) b3⟩
    · obtain ⟨rfl, rfl⟩ := b5 h0
      rw [numTo_bad h0 hq] at hN
      have d1 : (er == 0) = false := by simp [h0]
      have d2 : (er = 0) = False := eq_false h0
      clear hq b4 b5 b6 b7 h0
      go_enter Try.func53, Try.ntmps53
      go_wp2_with (go_at_call 64; refine hN.mono ?_; rintro x w1 ⟨rfl, rfl⟩)
      go_ret
      exact ⟨rfl, (Went.refl HR.out).then2 er⟩
  · have d1 : (e == 0) = false := by simp [he]
    have d2 : (e = 0) = False := eq_false he
    rw [rNum_bad he]
    clear he hb
    go_enter Try.func53, Try.ntmps53
    go_wp2
    go_ret
    exact ⟨rfl, Went.refl HR.out⟩
set_option maxRecDepth 100000 in
theorem rnum_calls (most : Int) (hm0 : -9223372036854775808 ≤ most) (hm1 : most ≤ 9223372036854775807) {n₀ B : Nat} {w : World} {A : Option Addr} {c : Nat} {l : List Int} {p : Nat} {e : Int} (h : Rdr n₀ 79 w B A c l p e) :
    Calls Try.prog 57 #[.pointer (some ⟨B, 0, none⟩), .int .i64 most] w fun x w' => x = .returned (.int .i64 (rNum most l p e).1) ∧ Went n₀ 79 B w w' A c l (rNum most l p e).2.1 (rNum most l p e).2.2 := by
  have hc1 := h.c1
  have hc2 := h.c2
  have hf1 := h.frozen 1
  have hf2 := h.frozen 2
  have HR := Aside0.mk h
  have hll := h.ll
  have hb := numR_bounds most h.pl h.bytes
  clear h
  by_cases he : e = 0
  · subst he
    obtain ⟨⟨n, m, er⟩, hq⟩ : ∃ q, numR most l p = q := ⟨_, rfl⟩
    rw [rNum_ok hq]
    rw [hq] at hb
    obtain ⟨b1, b2, b3, b4, b5, b6, b7⟩ := hb
    simp only at b1 b2 b3 b4 b5 b6 b7
    have hw : wrap64 ((p : Int) + (m : Int)) = ((p + m : Nat) : Int) := by unfold wrap64; omega
    have hN := rnumber_calls most HR.out
    simp only [hq] at hN
    clear hq b4 b5 b6 b7
    go_enter Try.func57, Try.ntmps57
    go_wp2_with (go_at_call 65; refine hN.mono ?_; rintro x w1 ⟨rfl, hd⟩; obtain ⟨m0, rfl⟩ := hd)
    go_ret
    refine ⟨rfl, ?_⟩
    have h9 := (((Went.refl HR.out).drew m0).then2 er).then1 (p + m) b3
    first
      | exact h9
      | (rw [← hw] at h9; exact h9)
  · have d1 : (e == 0) = false := by simp [he]
    have d2 : (e = 0) = False := eq_false he
    rw [rNum_bad he]
    clear he hb
    go_enter Try.func57, Try.ntmps57
    go_wp2
    go_ret
    exact ⟨rfl, Went.refl HR.out⟩
end Go.Proofs.Ythalodnfecaccaa.Rd
