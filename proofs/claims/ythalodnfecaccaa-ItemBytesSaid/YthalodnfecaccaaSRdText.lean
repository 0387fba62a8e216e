-- By wip/late.py (a program of this session) out of wip/words.
import Derived.Test.YthalodnfecaccaaProg
import Derived.Test.YthalodnfecaccaaWWords
import Derived.Test.YthalodnfecaccaaWLast
import Derived.Test.YthalodnfecaccaaWMore
import Derived.Test.YthalodnfecaccaaSRd
import Derived.Test.YthalodnfecaccaaSRdNum
import Derived.Test.YthalodnfecaccaaSRdRnum
import Derived.Test.YthalodnfecaccaaSWrNums
import Derived.Deep.RegionHeld
import Derived.Laws.BitsLemmas
import Derived.RangeFuncBox
import Derived.BigQuiet
import Derived.Deep.QuietTactic
import Derived.Lib.Hide
import Derived.Tactics
import Derived.WalkKit
import Derived.OwnWalk
import Derived.Test.YthalodnfecaccaaSRdP
set_option linter.unusedVariables false
set_option linter.unusedSimpArgs false
namespace Go.Proofs.Ythalodnfecaccaa.Rd
open Go.RowKit Go.Proofs.YthalodnfecaccaaW.PrintWords Go.Proofs.Ythalodnfecaccaa.Pure Go.Proofs.Ythalodnfecaccaa.Wr
/-! A text is read. -/
theorem rText_bad {most : Int} {l : List Int} {p : Nat} {e : Int} (h : e ≠ 0) : rText most l p e = (⟨#[]⟩, p, e) := if_neg h
theorem rText_num {most : Int} {l : List Int} {p : Nat} {n er : Int} {m : Nat} (h : numR most l p = (n, m, er)) (he : er ≠ 0) : rText most l p 0 = (⟨#[]⟩, p, er) := by unfold rText; rw [if_pos rfl, h, if_neg he]
theorem rText_short {most : Int} {l : List Int} {p : Nat} {n : Int} {m : Nat} (h : numR most l p = (n, m, 0)) (hs : (l.length : Int) - ((p + m : Nat) : Int) < n) : rText most l p 0 = (⟨#[]⟩, p, 10) := by unfold rText; rw [if_pos rfl, h, if_pos rfl, if_pos hs]
theorem rText_ok {most : Int} {l : List Int} {p : Nat} {n m : Nat} (h : numR most l p = ((n : Int), m, 0)) (hs : ¬ (l.length : Int) - ((p + m : Nat) : Int) < (n : Int)) : rText most l p 0 = (strOfNums ((l.take (p + m + n)).drop (p + m)), p + m + n, 0) := by unfold rText; rw [if_pos rfl, h, if_pos rfl, if_neg hs]; rfl
/-- What a cut of the reader's bytes is, and its text. -/
theorem Rdr.cut {n₀ B : Nat} {T : TypeId} {w : World} {A : Option Addr} {c : Nat} {l : List Int} {p : Nat} {e : Int} (h : Rdr n₀ T w B A c l p e) {t u : Nat} (h1 : t ≤ u) (h2 : u ≤ l.length) :
    ∃ A', (∀ W : World, (Instr.slice 49 (.slice A l.length c) (some (.int .i64 (t : Int))) (some (.int .i64 (u : Int))) none).run Try.prog W = .ok (.slice A' (u - t) (c - t)) W) ∧ ∀ m : Nat, (convert 49 9 (.slice A' (u - t) (c - t))).run Try.prog (w.drewN m) = .ok (.string (strOfNums ((l.take u).drop t))) (w.drewN m) := by
  obtain ⟨i0, hi, hz0, hz1, hz2⟩ := infoB
  have hcut := cut_mid (P := Try.prog) 49 5 .i64 .i64 Try.underlying49 hi 1 hz1 A l.length c (t : Int) (u : Int) (Int.natCast_nonneg t) (by omega) (by omega) h.cap
  simp only [Int.toNat_natCast] at hcut
  refine ⟨_, hcut, fun m => ?_⟩
  have hC := Kd.C_mid (lo := t) (hi := u) (c := c) (h.below (Drawn0.below ⟨m, rfl⟩)).row_C h1 h2 h.cap
  have hl : ((l.take u).drop t).length = u - t := by rw [List.length_drop, List.length_take]; omega
  have hcv := Kd.C_string (P := Try.prog) (c := c - t) Try.underlying49 Try.underlying5 Try.underlying9 hC
  rw [hl] at hcv
  exact hcv
set_option maxRecDepth 100000 in
theorem text_calls (most : Int) (hm0 : -9223372036854775808 ≤ most) (hm1 : most ≤ 9223372036854775807) {n₀ B : Nat} {w : World} {A : Option Addr} {c : Nat} {l : List Int} {p : Nat} {e : Int} (h : Rdr n₀ 77 w B A c l p e) :
    Calls Try.prog 52 #[.pointer (some ⟨B, 0, none⟩), .int .i64 most] w fun x w' => x = .returned (.string (rText most l p e).1) ∧ Went n₀ 77 B w w' A c l (rText most l p e).2.1 (rText most l p e).2.2 := by
  have hc0 := h.c0
  have hc1 := h.c1
  have hc2 := h.c2
  have hf1 := h.frozen 1
  have hf2 := h.frozen 2
  have HR := Aside0.mk h
  have hll := h.ll
  have hb := numR_bounds most h.pl h.bytes
  clear h
  by_cases he : e = 0
  · subst he
    obtain ⟨⟨n, m, er⟩, hq⟩ : ∃ q, numR most l p = q := ⟨_, rfl⟩
    rw [hq] at hb
    obtain ⟨b1, b2, b3, b4, b5, b6, b7⟩ := hb
    simp only at b1 b2 b3 b4 b5 b6 b7
    have hN := number_calls most hm0 hm1 HR.out
    simp only [hq] at hN
    by_cases h0 : er = 0
    · subst h0
      obtain ⟨n, rfl⟩ : ∃ k : Nat, n = (k : Int) := ⟨n.toNat, by omega⟩
      rw [numTo_ok hq] at hN
      obtain ⟨t, ht⟩ : ∃ t, t = p + m := ⟨_, rfl⟩
      have hwt : wrap64 ((p : Int) + (m : Int)) = (t : Int) := by unfold wrap64; omega
      have hwl : wrap64 ((l.length : Int) - (t : Int)) = (l.length : Int) - (t : Int) := by unfold wrap64; omega
      have hwp : wrap64 ((l.length : Int) - (p : Int)) = (l.length : Int) - (p : Int) := by unfold wrap64; omega
      have hwm : wrap64 ((l.length : Int) - (p : Int) - (m : Int)) = (l.length : Int) - (t : Int) := by unfold wrap64; omega
      by_cases hs : (l.length : Int) - ((p + m : Nat) : Int) < (n : Int)
      · rw [rText_short hq hs]
        rw [← ht] at hs hN
        have d3 : decide ((l.length : Int) - (t : Int) < (n : Int)) = true := decide_eq_true hs
        have HT := Aside0.mk ht
        clear hs ht hq b4 b5 b6 b7
        go_enter Try.func52, Try.ntmps52
        go_wp2_with (go_at_call 64; refine hN.mono ?_; rintro x w1 ⟨rfl, rfl⟩)
        go_ret
        exact ⟨rfl, (Went.refl HR.out).then2 10⟩
      · have hU0 : p + m + n ≤ l.length := by clear hN hwt hwl hwp hwm b4 b5 b6 b7 hq HR; omega
        rw [rText_ok hq hs]
        obtain ⟨u, hu⟩ : ∃ u, u = t + n := ⟨_, rfl⟩
        have hwu : wrap64 ((t : Int) + (n : Int)) = (u : Int) := by clear hN hwt hwl hwp hwm b4 b5 b6 b7 hq HR hs; unfold wrap64; omega
        have HU : Aside0 (u ≤ l.length) := ⟨by rw [hu, ht]; exact hU0⟩
        have HTU : Aside0 (t ≤ u) := ⟨by rw [hu]; exact Nat.le_add_right _ _⟩
        rw [← ht, ← hu]
        rw [← ht] at hs hN
        obtain ⟨S, hS⟩ : ∃ S, S = strOfNums ((l.take u).drop t) := ⟨_, rfl⟩
        rw [← hS]
        have HS := Aside0.mk hS
        clear hS
        have d3 : decide ((l.length : Int) - (t : Int) < (n : Int)) = false := decide_eq_false hs
        have HT := Aside0.mk ht
        have HH := Aside0.mk ((Went.refl HR.out).then1 u HU.out)
        have z0 := HH.out.st.c0
        have z1 := HH.out.st.c1
        obtain ⟨A', hcut, hcv⟩ := HH.out.st.cut HTU.out HU.out
        rw [← HS.out] at hcv
        have hcv0 := hcv 0
        have hcv1 := hcv 1
        have e0 : (w.setCell ⟨B, 1, none⟩ (.int .i64 (u : Int))).drewN 0 = w.setCell ⟨B, 1, none⟩ (.int .i64 (u : Int)) := rfl
        rw [e0] at hcv0
        clear hs ht hu hq b4 b5 b6 b7 e0 hU0
        go_enter Try.func52, Try.ntmps52
        go_wp2_with (first | (go_at_call 64; refine hN.mono ?_; rintro x w1 ⟨rfl, e1⟩; subst e1) | go_quiet (fail))
        go_ret
        exact ⟨rfl, HH.out.drew _⟩
    · obtain ⟨rfl, rfl⟩ := b5 h0
      rw [numTo_bad h0 hq] at hN
      rw [rText_num hq h0]
      have d1 : (er == 0) = false := by simp [h0]
      have d2 : (er = 0) = False := eq_false h0
      clear hq b4 b5 b6 b7 h0
      go_enter Try.func52, Try.ntmps52
      go_wp2_with (go_at_call 64; refine hN.mono ?_; rintro x w1 ⟨rfl, rfl⟩)
      go_ret
      exact ⟨rfl, (Went.refl HR.out).then2 er⟩
  · have d1 : (e == 0) = false := by simp [he]
    have d2 : (e = 0) = False := eq_false he
    rw [rText_bad he]
    clear he hb
    go_enter Try.func52, Try.ntmps52
    go_wp2
    go_ret
    exact ⟨rfl, Went.refl HR.out⟩
set_option maxRecDepth 100000 in
theorem rtext_calls (most : Int) (hm0 : -9223372036854775808 ≤ most) (hm1 : most ≤ 9223372036854775807) {n₀ B : Nat} {w : World} {A : Option Addr} {c : Nat} {l : List Int} {p : Nat} {e : Int} (h : Rdr n₀ 79 w B A c l p e) :
    Calls Try.prog 56 #[.pointer (some ⟨B, 0, none⟩), .int .i64 most] w fun x w' => x = .returned (.string (rText most l p e).1) ∧ Went n₀ 79 B w w' A c l (rText most l p e).2.1 (rText most l p e).2.2 := by
  have hc0 := h.c0
  have hc1 := h.c1
  have hc2 := h.c2
  have hf1 := h.frozen 1
  have hf2 := h.frozen 2
  have HR := Aside0.mk h
  have hll := h.ll
  have hb := numR_bounds most h.pl h.bytes
  clear h
  by_cases he : e = 0
  · subst he
    obtain ⟨⟨n, m, er⟩, hq⟩ : ∃ q, numR most l p = q := ⟨_, rfl⟩
    rw [hq] at hb
    obtain ⟨b1, b2, b3, b4, b5, b6, b7⟩ := hb
    simp only at b1 b2 b3 b4 b5 b6 b7
    have hN := rnumber_calls most HR.out
    simp only [hq] at hN
    by_cases h0 : er = 0
    · subst h0
      obtain ⟨n, rfl⟩ : ∃ k : Nat, n = (k : Int) := ⟨n.toNat, by omega⟩
      skip
      obtain ⟨t, ht⟩ : ∃ t, t = p + m := ⟨_, rfl⟩
      have hwt : wrap64 ((p : Int) + (m : Int)) = (t : Int) := by unfold wrap64; omega
      have hwl : wrap64 ((l.length : Int) - (t : Int)) = (l.length : Int) - (t : Int) := by unfold wrap64; omega
      have hwp : wrap64 ((l.length : Int) - (p : Int)) = (l.length : Int) - (p : Int) := by unfold wrap64; omega
      have hwm : wrap64 ((l.length : Int) - (p : Int) - (m : Int)) = (l.length : Int) - (t : Int) := by unfold wrap64; omega
      have HE : Aside0 (IntKind.i64.wrap (IntKind.i64.wrap ((l.length : Int) - (p : Int)) - (m : Int)) = (l.length : Int) - (t : Int)) := ⟨by clear hN hwt hwl hwp hwm b1 b2 b4 b5 b6 b7 hq HR; rw [IntKind.wrap_i64, IntKind.wrap_i64]; omega⟩
      by_cases hs : (l.length : Int) - ((p + m : Nat) : Int) < (n : Int)
      · rw [rText_short hq hs]
        rw [← ht] at hs
        have e3 : IntKind.i64.wrap (IntKind.i64.wrap ((l.length : Int) - (p : Int)) - (m : Int)) = (l.length : Int) - (t : Int) := HE.out
        have d3 : decide (IntKind.i64.wrap (IntKind.i64.wrap ((l.length : Int) - (p : Int)) - (m : Int)) < (n : Int)) = true := by rw [e3]; exact decide_eq_true hs
        have d4 : (IntKind.i64.wrap (IntKind.i64.wrap ((l.length : Int) - (p : Int)) - (m : Int)) < (n : Int)) = True := by rw [e3]; exact eq_true hs
        clear e3
        have HT := Aside0.mk ht
        clear hs ht hq b1 b2 b3 b4 b5 b6 b7 hll hwl
        go_enter Try.func56, Try.ntmps56
        go_wp2_with (go_at_call 65; refine hN.mono ?_; rintro x w1 ⟨rfl, hd⟩; obtain ⟨m0, rfl⟩ := hd)
        go_region_held (fun W => W.cell? ⟨B, 0, none⟩ = some (.slice A l.length c) ∧ W.cell? ⟨B, 1, none⟩ = some (.int .i64 (p : Int))) (first | exact ⟨hc0, hc1⟩ | go_keep) (fail)
        go_wp2
        go_ret
        exact ⟨rfl, ((Went.refl HR.out).drew _).then2 10⟩
      · have hU0 : p + m + n ≤ l.length := by clear hN hwt hwl hwp hwm b4 b5 b6 b7 hq HR; omega
        rw [rText_ok hq hs]
        obtain ⟨u, hu⟩ : ∃ u, u = t + n := ⟨_, rfl⟩
        have hwu : wrap64 ((t : Int) + (n : Int)) = (u : Int) := by clear hN hwt hwl hwp hwm b4 b5 b6 b7 hq HR hs; unfold wrap64; omega
        have HU : Aside0 (u ≤ l.length) := ⟨by rw [hu, ht]; exact hU0⟩
        have HTU : Aside0 (t ≤ u) := ⟨by rw [hu]; exact Nat.le_add_right _ _⟩
        rw [← ht, ← hu]
        rw [← ht] at hs
        obtain ⟨S, hS⟩ : ∃ S, S = strOfNums ((l.take u).drop t) := ⟨_, rfl⟩
        rw [← hS]
        have HS := Aside0.mk hS
        clear hS
        have e3 : IntKind.i64.wrap (IntKind.i64.wrap ((l.length : Int) - (p : Int)) - (m : Int)) = (l.length : Int) - (t : Int) := HE.out
        have d3 : decide (IntKind.i64.wrap (IntKind.i64.wrap ((l.length : Int) - (p : Int)) - (m : Int)) < (n : Int)) = false := by rw [e3]; exact decide_eq_false hs
        have d4 : (IntKind.i64.wrap (IntKind.i64.wrap ((l.length : Int) - (p : Int)) - (m : Int)) < (n : Int)) = False := by rw [e3]; exact eq_false hs
        clear e3
        have HT := Aside0.mk ht
        clear hs ht hu hq b1 b2 b3 b4 b5 b6 b7 hU0 hll hwl
        go_enter Try.func56, Try.ntmps56
        go_wp2_with (first | (go_at_call 65; refine hN.mono ?_; rintro x w1 ⟨rfl, hd⟩; obtain ⟨m0, rfl⟩ := hd))
        go_region_held (fun W => W.cell? ⟨B, 0, none⟩ = some (.slice A l.length c) ∧ W.cell? ⟨B, 1, none⟩ = some (.int .i64 (p : Int))) (first | exact ⟨hc0, hc1⟩ | go_keep) (fail)
        have HH := Aside0.mk (((Went.refl HR.out).drew (m0 + 1)).then1 u HU.out)
        have z0 := HH.out.st.c0
        have z1 := HH.out.st.c1
        obtain ⟨A', hcut, hcv⟩ := HH.out.st.cut HTU.out HU.out
        rw [← HS.out] at hcv
        have hcv0 := hcv 0
        have hcv1 := hcv 1
        have e0 : ((w.drewN (m0 + 1)).setCell ⟨B, 1, none⟩ (.int .i64 (u : Int))).drewN 0 = (w.drewN (m0 + 1)).setCell ⟨B, 1, none⟩ (.int .i64 (u : Int)) := rfl
        rw [e0] at hcv0
        clear hN e0
        go_wp2_with (go_quiet (fail))
        go_ret
        exact ⟨rfl, HH.out.drew _⟩
    · obtain ⟨rfl, rfl⟩ := b5 h0
      skip
      rw [rText_num hq h0]
      have h3 := numR_err most l p
      rw [hq] at h3
      clear hq
      rcases h3 with h3 | rfl | rfl | rfl
      · exact absurd h3 h0
      · clear b1 b2 b3 b4 b5 b6 b7 h0 hll
        go_enter Try.func56, Try.ntmps56
        go_wp2_with (go_at_call 65; refine hN.mono ?_; rintro x w1 ⟨rfl, hd⟩; obtain ⟨m0, rfl⟩ := hd)
        go_quiet (fail)
        go_wp2
        go_ret
        exact ⟨rfl, ((Went.refl HR.out).drew _).then2 _⟩
      · clear b1 b2 b3 b4 b5 b6 b7 h0 hll
        go_enter Try.func56, Try.ntmps56
        go_wp2_with (go_at_call 65; refine hN.mono ?_; rintro x w1 ⟨rfl, hd⟩; obtain ⟨m0, rfl⟩ := hd)
        go_quiet (fail)
        go_wp2
        go_ret
        exact ⟨rfl, ((Went.refl HR.out).drew _).then2 _⟩
      · clear b1 b2 b3 b4 b5 b6 b7 h0 hll
        go_enter Try.func56, Try.ntmps56
        go_wp2_with (go_at_call 65; refine hN.mono ?_; rintro x w1 ⟨rfl, hd⟩; obtain ⟨m0, rfl⟩ := hd)
        go_quiet (fail)
        go_wp2
        go_ret
        exact ⟨rfl, ((Went.refl HR.out).drew _).then2 _⟩
  · have d1 : (e == 0) = false := by simp [he]
    have d2 : (e = 0) = False := eq_false he
    rw [rText_bad he]
    clear he hb
    go_enter Try.func56, Try.ntmps56
    go_wp2
    go_ret
    exact ⟨rfl, Went.refl HR.out⟩
end Go.Proofs.Ythalodnfecaccaa.Rd
