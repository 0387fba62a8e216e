-- By wip/late.py (a program of this session) out of wip/words.
import Derived.Test.YtcfiobhebakhlabProg
import Derived.Test.YtcfiobhebakhlabWWords
import Derived.Test.YtcfiobhebakhlabWLast
import Derived.Test.YtcfiobhebakhlabWMore
import Derived.Test.YtcfiobhebakhlabSRd
import Derived.RangeFuncBox
import Derived.BigQuiet
import Derived.Deep.QuietTactic
import Derived.Lib.Hide
import Derived.Tactics
import Derived.WalkKit
import Derived.OwnWalk
import Derived.Test.YtcfiobhebakhlabSRdP
set_option linter.unusedVariables false
set_option linter.unusedSimpArgs false
namespace Go.Proofs.Ytcfiobhebakhlab.Rd
open Go.RowKit Go.Proofs.YtcfiobhebakhlabW.PrintWords Go.Proofs.Ytcfiobhebakhlab.Pure Go.Proofs.Ytcfiobhebakhlab.Wr
/-! What a reader tells of itself. -/
theorem at_calls {n₀ B : Nat} {w : World} {A : Option Addr} {c : Nat} {l : List Int} {p : Nat} {e : Int} (h : Rdr n₀ 69 w B A c l p e) :
    Calls Try.prog 25 #[.pointer (some ⟨B, 0, none⟩)] w fun x w' => x = .returned (.int .i64 (p : Int)) ∧ w' = w := by
  have hc := h.c1
  clear h
  go_enter Try.func25, Try.ntmps25
  go_wp2
  go_ret
  exact ⟨rfl, rfl⟩
theorem err_calls {n₀ B : Nat} {w : World} {A : Option Addr} {c : Nat} {l : List Int} {p : Nat} {e : Int} (h : Rdr n₀ 69 w B A c l p e) :
    Calls Try.prog 24 #[.pointer (some ⟨B, 0, none⟩)] w fun x w' => x = .returned (.int .i64 e) ∧ w' = w := by
  have hc := h.c2
  clear h
  go_enter Try.func24, Try.ntmps24
  go_wp2
  go_ret
  exact ⟨rfl, rfl⟩
theorem left_calls {n₀ B : Nat} {w : World} {A : Option Addr} {c : Nat} {l : List Int} {p : Nat} {e : Int} (h : Rdr n₀ 69 w B A c l p e) :
    Calls Try.prog 34 #[.pointer (some ⟨B, 0, none⟩)] w fun x w' => x = .returned (.int .i64 ((l.length : Int) - (p : Int))) ∧ Drawn0 w w' := by
  have hc0 := h.c0
  have hc1 := h.c1
  have hw : wrap64 ((l.length : Int) - (p : Int)) = (l.length : Int) - (p : Int) := by have := h.ll; have := h.pl; unfold wrap64; omega
  clear h
  go_enter Try.func34, Try.ntmps34
  go_wp2
  go_quiet (fail)
  go_wp2
  go_ret
  exact ⟨by show Ending.returned (.int .i64 (wrap64 ((l.length : Int) - (p : Int)))) = _; rw [hw], (Drawn0.refl _).step _⟩
theorem fail_calls (y : Int) {n₀ B : Nat} {w : World} {A : Option Addr} {c : Nat} {l : List Int} {p : Nat} {e : Int} (h : Rdr n₀ 69 w B A c l p e) :
    Calls Try.prog 53 #[.pointer (some ⟨B, 0, none⟩), .int .i64 y] w fun x w' => x = .returned (.tuple #[]) ∧ Went n₀ 69 B w w' A c l p (rFail e y) := by
  have hc2 := h.c2
  have hf := h.frozen 2
  have HR := Aside0.mk h
  clear h
  by_cases he : e = 0
  · subst he
    go_enter Try.func53, Try.ntmps53
    go_wp2
    first | go_end0 | ((try simp only [Exit.inBlock, Exit.then]); refine bodyPost_ret (results_none rfl _ _ _) rfl ?_)
    exact ⟨rfl, (Went.refl HR.out).then2 y⟩
  · have d1 : (e == 0) = false := by simp [he]
    have d2 : (e = 0) = False := eq_false he
    have hx : rFail e y = e := if_neg he
    rw [hx]
    clear he
    go_enter Try.func53, Try.ntmps53
    go_wp2
    first | go_end0 | ((try simp only [Exit.inBlock, Exit.then]); refine bodyPost_ret (results_none rfl _ _ _) rfl ?_)
    exact ⟨rfl, Went.refl HR.out⟩
theorem done_calls {n₀ B : Nat} {w : World} {A : Option Addr} {c : Nat} {l : List Int} {p : Nat} {e : Int} (h : Rdr n₀ 69 w B A c l p e) :
    Calls Try.prog 33 #[.pointer (some ⟨B, 0, none⟩)] w fun x w' => x = .returned (.int .i64 (rDone l p e)) ∧ Drawn0 w w' := by
  have hc2 := h.c2
  have HR := Aside0.mk h
  have hpl := h.pl
  clear h
  by_cases he : e = 0
  · subst he
    by_cases hp : p < l.length
    · have d1 : decide (0 < (l.length : Int) - (p : Int)) = true := decide_eq_true (by omega)
      have d2 : decide (p < l.length) = true := decide_eq_true hp
      have hx : rDone l p 0 = 13 := if_pos ⟨rfl, hp⟩
      rw [hx]
      clear hp hx
      go_enter Try.func33, Try.ntmps33
      go_wp2_with (go_at_call 34; refine (left_calls HR.out).mono ?_; rintro x w1 ⟨rfl, hd⟩; obtain ⟨m, rfl⟩ := hd)
      go_ret
      exact ⟨rfl, (Drawn0.refl _).step _⟩
    · have d1 : decide (0 < (l.length : Int) - (p : Int)) = false := decide_eq_false (by omega)
      have d2 : decide (p < l.length) = false := decide_eq_false hp
      have hx : rDone l p 0 = 0 := if_neg (fun h => hp h.2)
      rw [hx]
      clear hp hx
      go_enter Try.func33, Try.ntmps33
      go_wp2_with (go_at_call 34; refine (left_calls HR.out).mono ?_; rintro x w1 ⟨rfl, hd⟩; obtain ⟨m, rfl⟩ := hd)
      go_ret
      exact ⟨rfl, (Drawn0.refl _).step _⟩
  · have d1 : (e == 0) = false := by simp [he]
    have d2 : (e = 0) = False := eq_false he
    have hx : rDone l p e = e := if_neg (fun h => he h.1)
    rw [hx]
    clear he hx
    go_enter Try.func33, Try.ntmps33
    go_wp2_with (go_at_call 34; refine (left_calls HR.out).mono ?_; rintro x w1 ⟨rfl, hd⟩; obtain ⟨m, rfl⟩ := hd)
    go_ret
    exact ⟨rfl, Drawn0.refl _⟩
theorem rat_calls {n₀ B : Nat} {w : World} {A : Option Addr} {c : Nat} {l : List Int} {p : Nat} {e : Int} (h : Rdr n₀ 73 w B A c l p e) :
    Calls Try.prog 46 #[.pointer (some ⟨B, 0, none⟩)] w fun x w' => x = .returned (.int .i64 (p : Int)) ∧ w' = w := by
  have hc := h.c1
  clear h
  go_enter Try.func46, Try.ntmps46
  go_wp2
  go_ret
  exact ⟨rfl, rfl⟩
theorem rerr_calls {n₀ B : Nat} {w : World} {A : Option Addr} {c : Nat} {l : List Int} {p : Nat} {e : Int} (h : Rdr n₀ 73 w B A c l p e) :
    Calls Try.prog 45 #[.pointer (some ⟨B, 0, none⟩)] w fun x w' => x = .returned (.int .i64 e) ∧ w' = w := by
  have hc := h.c2
  clear h
  go_enter Try.func45, Try.ntmps45
  go_wp2
  go_ret
  exact ⟨rfl, rfl⟩
theorem rleft_calls {n₀ B : Nat} {w : World} {A : Option Addr} {c : Nat} {l : List Int} {p : Nat} {e : Int} (h : Rdr n₀ 73 w B A c l p e) :
    Calls Try.prog 47 #[.pointer (some ⟨B, 0, none⟩)] w fun x w' => x = .returned (.int .i64 ((l.length : Int) - (p : Int))) ∧ Drawn0 w w' := by
  have hc0 := h.c0
  have hc1 := h.c1
  have hw : wrap64 ((l.length : Int) - (p : Int)) = (l.length : Int) - (p : Int) := by have := h.ll; have := h.pl; unfold wrap64; omega
  clear h
  go_enter Try.func47, Try.ntmps47
  go_wp2
  go_quiet (fail)
  go_wp2
  go_ret
  exact ⟨by show Ending.returned (.int .i64 (wrap64 ((l.length : Int) - (p : Int)))) = _; rw [hw], (Drawn0.refl _).step _⟩
theorem rfail_calls (y : Int) {n₀ B : Nat} {w : World} {A : Option Addr} {c : Nat} {l : List Int} {p : Nat} {e : Int} (h : Rdr n₀ 73 w B A c l p e) :
    Calls Try.prog 54 #[.pointer (some ⟨B, 0, none⟩), .int .i64 y] w fun x w' => x = .returned (.tuple #[]) ∧ Went n₀ 73 B w w' A c l p (rFail e y) := by
  have hc2 := h.c2
  have hf := h.frozen 2
  have HR := Aside0.mk h
  clear h
  by_cases he : e = 0
  · subst he
    go_enter Try.func54, Try.ntmps54
    go_wp2
    first | go_end0 | ((try simp only [Exit.inBlock, Exit.then]); refine bodyPost_ret (results_none rfl _ _ _) rfl ?_)
    exact ⟨rfl, (Went.refl HR.out).then2 y⟩
  · have d1 : (e == 0) = false := by simp [he]
    have d2 : (e = 0) = False := eq_false he
    have hx : rFail e y = e := if_neg he
    rw [hx]
    clear he
    go_enter Try.func54, Try.ntmps54
    go_wp2
    first | go_end0 | ((try simp only [Exit.inBlock, Exit.then]); refine bodyPost_ret (results_none rfl _ _ _) rfl ?_)
    exact ⟨rfl, Went.refl HR.out⟩
theorem rdone_calls {n₀ B : Nat} {w : World} {A : Option Addr} {c : Nat} {l : List Int} {p : Nat} {e : Int} (h : Rdr n₀ 73 w B A c l p e) :
    Calls Try.prog 48 #[.pointer (some ⟨B, 0, none⟩)] w fun x w' => x = .returned (.int .i64 (rDone l p e)) ∧ Drawn0 w w' := by
  have hc2 := h.c2
  have HR := Aside0.mk h
  have hpl := h.pl
  clear h
  by_cases he : e = 0
  · subst he
    by_cases hp : p < l.length
    · have d1 : decide (0 < (l.length : Int) - (p : Int)) = true := decide_eq_true (by omega)
      have d2 : decide (p < l.length) = true := decide_eq_true hp
      have hx : rDone l p 0 = 13 := if_pos ⟨rfl, hp⟩
      rw [hx]
      clear hp hx
      go_enter Try.func48, Try.ntmps48
      go_wp2_with (go_at_call 47; refine (rleft_calls HR.out).mono ?_; rintro x w1 ⟨rfl, hd⟩; obtain ⟨m, rfl⟩ := hd)
      go_ret
      exact ⟨rfl, (Drawn0.refl _).step _⟩
    · have d1 : decide (0 < (l.length : Int) - (p : Int)) = false := decide_eq_false (by omega)
      have d2 : decide (p < l.length) = false := decide_eq_false hp
      have hx : rDone l p 0 = 0 := if_neg (fun h => hp h.2)
      rw [hx]
      clear hp hx
      go_enter Try.func48, Try.ntmps48
      go_wp2_with (go_at_call 47; refine (rleft_calls HR.out).mono ?_; rintro x w1 ⟨rfl, hd⟩; obtain ⟨m, rfl⟩ := hd)
      go_ret
      exact ⟨rfl, (Drawn0.refl _).step _⟩
  · have d1 : (e == 0) = false := by simp [he]
    have d2 : (e = 0) = False := eq_false he
    have hx : rDone l p e = e := if_neg (fun h => he h.1)
    rw [hx]
    clear he hx
    go_enter Try.func48, Try.ntmps48
    go_wp2_with (go_at_call 47; refine (rleft_calls HR.out).mono ?_; rintro x w1 ⟨rfl, hd⟩; obtain ⟨m, rfl⟩ := hd)
    go_ret
    exact ⟨rfl, Drawn0.refl _⟩
end Go.Proofs.Ytcfiobhebakhlab.Rd
