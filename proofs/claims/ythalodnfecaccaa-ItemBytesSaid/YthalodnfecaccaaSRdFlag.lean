-- By wip/late.py (a program of this session) out of wip/words.
import Derived.Test.YthalodnfecaccaaProg
import Derived.Test.YthalodnfecaccaaWWords
import Derived.Test.YthalodnfecaccaaWLast
import Derived.Test.YthalodnfecaccaaWMore
import Derived.Test.YthalodnfecaccaaSRd
import Derived.Test.YthalodnfecaccaaSRdTell
import Derived.RangeFuncBox
import Derived.BigQuiet
import Derived.Deep.QuietTactic
import Derived.Lib.Hide
import Derived.Tactics
import Derived.WalkKit
import Derived.OwnWalk
import Derived.Test.YthalodnfecaccaaSRdP
set_option linter.unusedVariables false
set_option linter.unusedSimpArgs false
namespace Go.Proofs.Ythalodnfecaccaa.Rd
open Go.RowKit Go.Proofs.YthalodnfecaccaaW.PrintWords Go.Proofs.Ythalodnfecaccaa.Pure Go.Proofs.Ythalodnfecaccaa.Wr
/-! A flag is read. -/
theorem rFlag_bad {l : List Int} {p : Nat} {e : Int} (h : e ≠ 0) : rFlag l p e = (false, p, e) := if_neg h
theorem rFlag_short {l : List Int} {p : Nat} (h : l.length ≤ p) : rFlag l p 0 = (false, p, 10) := by unfold rFlag; rw [if_pos rfl, if_pos h]
theorem rFlag_form {l : List Int} {p : Nat} (h : p < l.length) {b : Int} (hb : l.getD p 0 = b) (h1 : 1 < b) : rFlag l p 0 = (false, p, 11) := by unfold rFlag; rw [if_pos rfl, if_neg (by omega), hb, if_pos h1]
theorem rFlag_ok {l : List Int} {p : Nat} (h : p < l.length) {b : Int} (hb : l.getD p 0 = b) (h1 : ¬ 1 < b) : rFlag l p 0 = (decide (b = 1), p + 1, 0) := by unfold rFlag; rw [if_pos rfl, if_neg (by omega), hb, if_neg h1]
/-- The byte that stands next. -/
theorem Rdr.byte {n₀ B : Nat} {T : TypeId} {w : World} {A : Option Addr} {c : Nat} {l : List Int} {p : Nat} {e : Int} (h : Rdr n₀ T w B A c l p e) {q : Nat} (hq : q < l.length) {ad : Addr} (hA : A = some ad) : w.cell? (ad.add q) = some (.int .u8 (l.getD q 0)) := by
  obtain ⟨ad', e1, x0⟩ := Kd.at_int h.row_C (q : Int) (Int.natCast_nonneg q) (by omega)
  have e2 : ad' = ad := by rw [e1] at hA; injection hA
  subst e2
  simpa [rd] using x0
theorem Rdr.addr {n₀ B : Nat} {T : TypeId} {w : World} {A : Option Addr} {c : Nat} {l : List Int} {p : Nat} {e : Int} (h : Rdr n₀ T w B A c l p e) {q : Nat} (hq : q < l.length) : ∃ ad, A = some ad := by
  obtain ⟨ad', e1, x0⟩ := Kd.at_int h.row_C (q : Int) (Int.natCast_nonneg q) (by omega)
  exact ⟨ad', e1⟩
set_option maxRecDepth 100000 in
theorem flag_calls {n₀ B : Nat} {w : World} {A : Option Addr} {c : Nat} {l : List Int} {p : Nat} {e : Int} (h : Rdr n₀ 77 w B A c l p e) :
    Calls Try.prog 54 #[.pointer (some ⟨B, 0, none⟩)] w fun x w' => x = .returned (.bool (rFlag l p e).1) ∧ Went n₀ 77 B w w' A c l (rFlag l p e).2.1 (rFlag l p e).2.2 := by
  have hc0 := h.c0
  have hc1 := h.c1
  have hc2 := h.c2
  have hf1 := h.frozen 1
  have hf2 := h.frozen 2
  have HR := Aside0.mk h
  have hll := h.ll
  have hpl := h.pl
  clear h
  by_cases he : e = 0
  · subst he
    have hL := left_calls HR.out
    by_cases hp : p < l.length
    · have d1 : ((l.length : Int) - (p : Int) == 0) = false := by simp; omega
      have d2 : ((l.length : Int) - (p : Int) = 0) = False := eq_false (by omega)
      have d3 : decide ((l.length : Int) ≤ (p : Int)) = false := decide_eq_false (by omega)
      have d4 : decide (l.length ≤ p) = false := decide_eq_false (by omega)
      obtain ⟨ad, rfl⟩ := HR.out.addr hp
      have x0 := HR.out.byte hp rfl
      have p0 : (0 ≤ (p : Int)) = True := eq_true (Int.natCast_nonneg p)
      have q0 : ((p : Int) < (l.length : Int)) = True := eq_true (by omega)
      have hw : wrap64 ((p : Int) + 1) = ((p + 1 : Nat) : Int) := by unfold wrap64; omega
      have hw2 : wrap64 (((p + 1 : Nat) : Int) - 1) = (p : Int) := by unfold wrap64; omega
      have hw3 : wrap64 ((p : Int) + 1 - 1) = (p : Int) := by unfold wrap64; omega
      obtain ⟨b, hb⟩ : ∃ b, l.getD p 0 = b := ⟨_, rfl⟩
      by_cases h1 : 1 < b
      · rw [rFlag_form hp hb h1]
        rw [hb] at x0
        have d5 : decide (1 < b) = true := decide_eq_true h1
        clear hb h1 hp
        go_enter Try.func54, Try.ntmps54
        go_wp2_with (go_at_call 40; refine hL.mono ?_; rintro x w1 ⟨rfl, hd⟩; obtain ⟨m0, rfl⟩ := hd)
        go_quiet (fail)
        go_wp2
        go_ret
        exact ⟨rfl, ((Went.refl HR.out).drew _).then2 11⟩
      · rw [rFlag_ok hp hb h1]
        rw [hb] at x0
        have d5 : decide (1 < b) = false := decide_eq_false h1
        have HB := Aside0.mk hb
        have HP := Aside0.mk hp
        clear hb h1 hp
        go_enter Try.func54, Try.ntmps54
        go_wp2_with (go_at_call 40; refine hL.mono ?_; rintro x w1 ⟨rfl, hd⟩; obtain ⟨m0, rfl⟩ := hd)
        go_quiet (fail)
        go_wp2
        refine letter (fun W => Went n₀ 77 B w W (some ad) c l (p + 1) 0) (((Went.refl HR.out).drew _).then1 (p + 1) HP.out) ?_
        intro W hW
        have HW := Aside0.mk hW
        have y0 := hW.st.c0
        have y1 := hW.st.c1
        have yb := hW.st.byte HP.out rfl
        rw [HB.out] at yb
        clear hW
        go_quiet (fail)
        go_wp2
        go_ret
        exact ⟨rfl, HW.out.drew _⟩
    · have d1 : ((l.length : Int) - (p : Int) == 0) = true := by simp; omega
      have d2 : ((l.length : Int) - (p : Int) = 0) = True := eq_true (by omega)
      have d3 : decide ((l.length : Int) ≤ (p : Int)) = true := decide_eq_true (by omega)
      have d4 : decide (l.length ≤ p) = true := decide_eq_true (by omega)
      rw [rFlag_short (by omega)]
      clear hp
      go_enter Try.func54, Try.ntmps54
      go_wp2_with (go_at_call 40; refine hL.mono ?_; rintro x w1 ⟨rfl, hd⟩; obtain ⟨m0, rfl⟩ := hd)
      go_ret
      exact ⟨rfl, ((Went.refl HR.out).drew _).then2 10⟩
  · have d1 : (e == 0) = false := by simp [he]
    have d2 : (e = 0) = False := eq_false he
    rw [rFlag_bad he]
    clear he
    go_enter Try.func54, Try.ntmps54
    go_wp2
    go_ret
    exact ⟨rfl, Went.refl HR.out⟩
set_option maxRecDepth 100000 in
theorem rflag_calls {n₀ B : Nat} {w : World} {A : Option Addr} {c : Nat} {l : List Int} {p : Nat} {e : Int} (h : Rdr n₀ 79 w B A c l p e) :
    Calls Try.prog 58 #[.pointer (some ⟨B, 0, none⟩)] w fun x w' => x = .returned (.bool (rFlag l p e).1) ∧ Went n₀ 79 B w w' A c l (rFlag l p e).2.1 (rFlag l p e).2.2 := by
  have hc0 := h.c0
  have hc1 := h.c1
  have hc2 := h.c2
  have hf1 := h.frozen 1
  have hf2 := h.frozen 2
  have HR := Aside0.mk h
  have hll := h.ll
  have hpl := h.pl
  clear h
  by_cases he : e = 0
  · subst he
    by_cases hp : p < l.length
    · have d1 : ((l.length : Int) - (p : Int) == 0) = false := by simp; omega
      have d2 : ((l.length : Int) - (p : Int) = 0) = False := eq_false (by omega)
      have d3 : decide ((l.length : Int) ≤ (p : Int)) = false := decide_eq_false (by omega)
      have d4 : decide (l.length ≤ p) = false := decide_eq_false (by omega)
      obtain ⟨ad, rfl⟩ := HR.out.addr hp
      have x0 := HR.out.byte hp rfl
      have p0 : (0 ≤ (p : Int)) = True := eq_true (Int.natCast_nonneg p)
      have q0 : ((p : Int) < (l.length : Int)) = True := eq_true (by omega)
      have hw : wrap64 ((p : Int) + 1) = ((p + 1 : Nat) : Int) := by unfold wrap64; omega
      have hw2 : wrap64 (((p + 1 : Nat) : Int) - 1) = (p : Int) := by unfold wrap64; omega
      have hw3 : wrap64 ((p : Int) + 1 - 1) = (p : Int) := by unfold wrap64; omega
      obtain ⟨b, hb⟩ : ∃ b, l.getD p 0 = b := ⟨_, rfl⟩
      by_cases h1 : 1 < b
      · rw [rFlag_form hp hb h1]
        rw [hb] at x0
        have d5 : decide (1 < b) = true := decide_eq_true h1
        clear hb h1 hp
        go_enter Try.func58, Try.ntmps58
        go_wp2
        go_quiet (fail)
        go_wp2
        go_quiet (fail)
        go_wp2
        go_ret
        exact ⟨rfl, ((Went.refl HR.out).drew _).then2 11⟩
      · rw [rFlag_ok hp hb h1]
        rw [hb] at x0
        have d5 : decide (1 < b) = false := decide_eq_false h1
        have HB := Aside0.mk hb
        have HP := Aside0.mk hp
        clear hb h1 hp
        go_enter Try.func58, Try.ntmps58
        go_wp2
        go_quiet (fail)
        go_wp2
        go_quiet (fail)
        go_wp2
        go_ret
        exact ⟨rfl, ((Went.refl HR.out).drew _).then1 (p + 1) HP.out⟩
    · have d1 : ((l.length : Int) - (p : Int) == 0) = true := by simp; omega
      have d2 : ((l.length : Int) - (p : Int) = 0) = True := eq_true (by omega)
      have d3 : decide ((l.length : Int) ≤ (p : Int)) = true := decide_eq_true (by omega)
      have d4 : decide (l.length ≤ p) = true := decide_eq_true (by omega)
      rw [rFlag_short (by omega)]
      clear hp
      go_enter Try.func58, Try.ntmps58
      go_wp2
      go_quiet (fail)
      go_wp2
      go_ret
      exact ⟨rfl, ((Went.refl HR.out).drew _).then2 10⟩
  · have d1 : (e == 0) = false := by simp [he]
    have d2 : (e = 0) = False := eq_false he
    rw [rFlag_bad he]
    clear he
    go_enter Try.func58, Try.ntmps58
    go_wp2
    go_ret
    exact ⟨rfl, Went.refl HR.out⟩
end Go.Proofs.Ythalodnfecaccaa.Rd
