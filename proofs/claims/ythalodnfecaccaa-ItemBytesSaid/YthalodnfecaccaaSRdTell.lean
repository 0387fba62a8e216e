-- By wip/late.py (a program of this session) out of wip/words.
import Derived.Test.YthalodnfecaccaaProg
import Derived.Test.YthalodnfecaccaaWWords
import Derived.Test.YthalodnfecaccaaWLast
import Derived.Test.YthalodnfecaccaaWMore
import Derived.Test.YthalodnfecaccaaSRd
import Derived.RangeFuncBox
import Derived.BigQuiet
import Derived.Deep.QuietTactic
import Derived.Lib.Hide
import Derived.Tactics
import Derived.WalkKit
import Derived.OwnWalk
import Derived.Test.YthalodnfecaccaaSRdP
set_option linter.unusedVariables false
set_option linter.unusedSimpArgs false
namespace Go.Proofs.Ythalodnfecaccaa.Rd
open Go.RowKit Go.Proofs.YthalodnfecaccaaW.PrintWords Go.Proofs.Ythalodnfecaccaa.Pure Go.Proofs.Ythalodnfecaccaa.Wr
/-! What a reader tells of itself. -/
theorem at_calls {n₀ B : Nat} {w : World} {A : Option Addr} {c : Nat} {l : List Int} {p : Nat} {e : Int} (h : Rdr n₀ 77 w B A c l p e) :
    Calls Try.prog 38 #[.pointer (some ⟨B, 0, none⟩)] w fun x w' => x = .returned (.int .i64 (p : Int)) ∧ w' = w := by
  have hc := h.c1
  clear h
  go_enter Try.func38, Try.ntmps38
  go_wp2
  go_ret
  exact ⟨rfl, rfl⟩
theorem err_calls {n₀ B : Nat} {w : World} {A : Option Addr} {c : Nat} {l : List Int} {p : Nat} {e : Int} (h : Rdr n₀ 77 w B A c l p e) :
    Calls Try.prog 36 #[.pointer (some ⟨B, 0, none⟩)] w fun x w' => x = .returned (.int .i64 e) ∧ w' = w := by
  have hc := h.c2
  clear h
  go_enter Try.func36, Try.ntmps36
  go_wp2
  go_ret
  exact ⟨rfl, rfl⟩
theorem left_calls {n₀ B : Nat} {w : World} {A : Option Addr} {c : Nat} {l : List Int} {p : Nat} {e : Int} (h : Rdr n₀ 77 w B A c l p e) :
    Calls Try.prog 40 #[.pointer (some ⟨B, 0, none⟩)] w fun x w' => x = .returned (.int .i64 ((l.length : Int) - (p : Int))) ∧ Drawn0 w w' := by
  have hc0 := h.c0
  have hc1 := h.c1
  have hw : wrap64 ((l.length : Int) - (p : Int)) = (l.length : Int) - (p : Int) := by have := h.ll; have := h.pl; unfold wrap64; omega
  clear h
  go_enter Try.func40, Try.ntmps40
  go_wp2
  go_quiet (fail)
  go_wp2
  go_ret
  exact ⟨by show Ending.returned (.int .i64 (wrap64 ((l.length : Int) - (p : Int)))) = _; rw [hw], (Drawn0.refl _).step _⟩
theorem fail_calls (y : Int) {n₀ B : Nat} {w : World} {A : Option Addr} {c : Nat} {l : List Int} {p : Nat} {e : Int} (h : Rdr n₀ 77 w B A c l p e) :
    Calls Try.prog 55 #[.pointer (some ⟨B, 0, none⟩), .int .i64 y] w fun x w' => x = .returned (.tuple #[]) ∧ Went n₀ 77 B w w' A c l p (rFail e y) := by
  have hc2 := h.c2
  have hf := h.frozen 2
  have HR := Aside0.mk h
  clear h
  by_cases he : e = 0
  · subst he
    go_enter Try.func55, Try.ntmps55
    go_wp2
    first | go_end0 | ((try simp only [Exit.inBlock, Exit.then]); refine bodyPost_ret (results_none rfl _ _ _) rfl ?_)
    exact ⟨rfl, (Went.refl HR.out).then2 y⟩
  · have d1 : (e == 0) = false := by simp [he]
    have d2 : (e = 0) = False := eq_false he
    have hx : rFail e y = e := if_neg he
    rw [hx]
    clear he
    go_enter Try.func55, Try.ntmps55
    go_wp2
    first | go_end0 | ((try simp only [Exit.inBlock, Exit.then]); refine bodyPost_ret (results_none rfl _ _ _) rfl ?_)
    exact ⟨rfl, Went.refl HR.out⟩
theorem done_calls {n₀ B : Nat} {w : World} {A : Option Addr} {c : Nat} {l : List Int} {p : Nat} {e : Int} (h : Rdr n₀ 77 w B A c l p e) :
    Calls Try.prog 61 #[.pointer (some ⟨B, 0, none⟩)] w fun x w' => x = .returned (.int .i64 (rDone l p e)) ∧ Drawn0 w w' := by
  have hc2 := h.c2
  have HR := Aside0.mk h
  have hpl := h.pl
  clear h
  by_cases he : e = 0
  · subst he
    by_cases hp : p < l.length
    · have d1 : decide (0 < (l.length : Int) - (p : Int)) = true := decide_eq_true (by omega)
      have d2 : decide (p < l.length) = true := decide_eq_true hp
      have hx : rDone l p 0 = 13 := if_pos ⟨rfl, hp⟩
      rw [hx]
      clear hp hx
      go_enter Try.func61, Try.ntmps61
      go_wp2_with (go_at_call 40; refine (left_calls HR.out).mono ?_; rintro x w1 ⟨rfl, hd⟩; obtain ⟨m, rfl⟩ := hd)
      go_ret
      exact ⟨rfl, (Drawn0.refl _).step _⟩
    · have d1 : decide (0 < (l.length : Int) - (p : Int)) = false := decide_eq_false (by omega)
      have d2 : decide (p < l.length) = false := decide_eq_false hp
      have hx : rDone l p 0 = 0 := if_neg (fun h => hp h.2)
      rw [hx]
      clear hp hx
      go_enter Try.func61, Try.ntmps61
      go_wp2_with (go_at_call 40; refine (left_calls HR.out).mono ?_; rintro x w1 ⟨rfl, hd⟩; obtain ⟨m, rfl⟩ := hd)
      go_ret
      exact ⟨rfl, (Drawn0.refl _).step _⟩
  · have d1 : (e == 0) = false := by simp [he]
    have d2 : (e = 0) = False := eq_false he
    have hx : rDone l p e = e := if_neg (fun h => he h.1)
    rw [hx]
    clear he hx
    go_enter Try.func61, Try.ntmps61
    go_wp2_with (go_at_call 40; refine (left_calls HR.out).mono ?_; rintro x w1 ⟨rfl, hd⟩; obtain ⟨m, rfl⟩ := hd)
    go_ret
    exact ⟨rfl, Drawn0.refl _⟩
theorem rat_calls {n₀ B : Nat} {w : World} {A : Option Addr} {c : Nat} {l : List Int} {p : Nat} {e : Int} (h : Rdr n₀ 79 w B A c l p e) :
    Calls Try.prog 39 #[.pointer (some ⟨B, 0, none⟩)] w fun x w' => x = .returned (.int .i64 (p : Int)) ∧ w' = w := by
  have hc := h.c1
  clear h
  go_enter Try.func39, Try.ntmps39
  go_wp2
  go_ret
  exact ⟨rfl, rfl⟩
theorem rerr_calls {n₀ B : Nat} {w : World} {A : Option Addr} {c : Nat} {l : List Int} {p : Nat} {e : Int} (h : Rdr n₀ 79 w B A c l p e) :
    Calls Try.prog 37 #[.pointer (some ⟨B, 0, none⟩)] w fun x w' => x = .returned (.int .i64 e) ∧ w' = w := by
  have hc := h.c2
  clear h
  go_enter Try.func37, Try.ntmps37
  go_wp2
  go_ret
  exact ⟨rfl, rfl⟩
theorem rleft_calls {n₀ B : Nat} {w : World} {A : Option Addr} {c : Nat} {l : List Int} {p : Nat} {e : Int} (h : Rdr n₀ 79 w B A c l p e) :
    Calls Try.prog 41 #[.pointer (some ⟨B, 0, none⟩)] w fun x w' => x = .returned (.int .i64 ((l.length : Int) - (p : Int))) ∧ Drawn0 w w' := by
  have hc0 := h.c0
  have hc1 := h.c1
  have hw : wrap64 ((l.length : Int) - (p : Int)) = (l.length : Int) - (p : Int) := by have := h.ll; have := h.pl; unfold wrap64; omega
  clear h
  go_enter Try.func41, Try.ntmps41
  go_wp2
  go_quiet (fail)
  go_wp2
  go_ret
  exact ⟨by show Ending.returned (.int .i64 (wrap64 ((l.length : Int) - (p : Int)))) = _; rw [hw], (Drawn0.refl _).step _⟩
theorem rfail_calls (y : Int) {n₀ B : Nat} {w : World} {A : Option Addr} {c : Nat} {l : List Int} {p : Nat} {e : Int} (h : Rdr n₀ 79 w B A c l p e) :
    Calls Try.prog 59 #[.pointer (some ⟨B, 0, none⟩), .int .i64 y] w fun x w' => x = .returned (.tuple #[]) ∧ Went n₀ 79 B w w' A c l p (rFail e y) := by
  have hc2 := h.c2
  have hf := h.frozen 2
  have HR := Aside0.mk h
  clear h
  by_cases he : e = 0
  · subst he
    go_enter Try.func59, Try.ntmps59
    go_wp2
    first | go_end0 | ((try simp only [Exit.inBlock, Exit.then]); refine bodyPost_ret (results_none rfl _ _ _) rfl ?_)
    exact ⟨rfl, (Went.refl HR.out).then2 y⟩
  · have d1 : (e == 0) = false := by simp [he]
    have d2 : (e = 0) = False := eq_false he
    have hx : rFail e y = e := if_neg he
    rw [hx]
    clear he
    go_enter Try.func59, Try.ntmps59
    go_wp2
    first | go_end0 | ((try simp only [Exit.inBlock, Exit.then]); refine bodyPost_ret (results_none rfl _ _ _) rfl ?_)
    exact ⟨rfl, Went.refl HR.out⟩
theorem rdone_calls {n₀ B : Nat} {w : World} {A : Option Addr} {c : Nat} {l : List Int} {p : Nat} {e : Int} (h : Rdr n₀ 79 w B A c l p e) :
    Calls Try.prog 62 #[.pointer (some ⟨B, 0, none⟩)] w fun x w' => x = .returned (.int .i64 (rDone l p e)) ∧ Drawn0 w w' := by
  have hc2 := h.c2
  have HR := Aside0.mk h
  have hpl := h.pl
  clear h
  by_cases he : e = 0
  · subst he
    by_cases hp : p < l.length
    · have d1 : decide (0 < (l.length : Int) - (p : Int)) = true := decide_eq_true (by omega)
      have d2 : decide (p < l.length) = true := decide_eq_true hp
      have hx : rDone l p 0 = 13 := if_pos ⟨rfl, hp⟩
      rw [hx]
      clear hp hx
      go_enter Try.func62, Try.ntmps62
      go_wp2_with (go_at_call 41; refine (rleft_calls HR.out).mono ?_; rintro x w1 ⟨rfl, hd⟩; obtain ⟨m, rfl⟩ := hd)
      go_ret
      exact ⟨rfl, (Drawn0.refl _).step _⟩
    · have d1 : decide (0 < (l.length : Int) - (p : Int)) = false := decide_eq_false (by omega)
      have d2 : decide (p < l.length) = false := decide_eq_false hp
      have hx : rDone l p 0 = 0 := if_neg (fun h => hp h.2)
      rw [hx]
      clear hp hx
      go_enter Try.func62, Try.ntmps62
      go_wp2_with (go_at_call 41; refine (rleft_calls HR.out).mono ?_; rintro x w1 ⟨rfl, hd⟩; obtain ⟨m, rfl⟩ := hd)
      go_ret
      exact ⟨rfl, (Drawn0.refl _).step _⟩
  · have d1 : (e == 0) = false := by simp [he]
    have d2 : (e = 0) = False := eq_false he
    have hx : rDone l p e = e := if_neg (fun h => he h.1)
    rw [hx]
    clear he hx
    go_enter Try.func62, Try.ntmps62
    go_wp2_with (go_at_call 41; refine (rleft_calls HR.out).mono ?_; rintro x w1 ⟨rfl, hd⟩; obtain ⟨m, rfl⟩ := hd)
    go_ret
    exact ⟨rfl, Drawn0.refl _⟩
end Go.Proofs.Ythalodnfecaccaa.Rd
