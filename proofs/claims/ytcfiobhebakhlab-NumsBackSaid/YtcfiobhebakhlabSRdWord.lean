-- By wip/late.py (a program of this session) out of wip/words.
import Derived.Test.YtcfiobhebakhlabProg
import Derived.Test.YtcfiobhebakhlabWWords
import Derived.Test.YtcfiobhebakhlabWLast
import Derived.Test.YtcfiobhebakhlabWMore
import Derived.Test.YtcfiobhebakhlabSRd
import Derived.Test.YtcfiobhebakhlabSRdTell
import Derived.Test.YtcfiobhebakhlabSRdFlag
import Derived.Laws.BitsLemmas
import Derived.RangeFuncBox
import Derived.BigQuiet
import Derived.Deep.QuietTactic
import Derived.Lib.Hide
import Derived.Tactics
import Derived.WalkKit
import Derived.OwnWalk
import Derived.Test.YtcfiobhebakhlabSRdP
set_option linter.unusedVariables false
set_option linter.unusedSimpArgs false
namespace Go.Proofs.Ytcfiobhebakhlab.Rd
open Go.RowKit Go.Proofs.YtcfiobhebakhlabW.PrintWords Go.Proofs.Ytcfiobhebakhlab.Pure Go.Proofs.Ytcfiobhebakhlab.Wr
/-! A word is read. -/
theorem or_byte {u b : Int} (h0 : 0 ≤ u) (h1 : u < 72057594037927936) (hb0 : 0 ≤ b) (hb1 : b < 256) : bits BinOp.or IntKind.u64 (IntKind.u64.wrap (u * 256)) (IntKind.u64.wrap b) = u * 256 + b := by
  have p63 : (2 : Int) ^ 64 = 18446744073709551616 := by decide
  have hw : ∀ n : Int, 0 ≤ n → n < 2 ^ 64 → IntKind.u64.wrap n = n := by
    intro n n0 n1
    rw [p63] at n1
    simp [IntKind.wrap, IntKind.bits, IntKind.signed]
    omega
  rw [hw (u * 256) (by omega) (by rw [p63]; omega), hw b hb0 (by rw [p63]; omega)]
  exact bits_join .u64 64 (by decide) hw 8 _ _ (by omega) (by omega) (by rw [p63]; omega) hb0 (by omega) (by rw [p63]; omega)
theorem rWord_bad {l : List Int} {p : Nat} {e : Int} (h : e ≠ 0) : rWord l p e = (0, p, e) := if_neg h
theorem rWord_short {l : List Int} {p : Nat} (h : l.length < p + 8) : rWord l p 0 = (0, p, 10) := by unfold rWord; rw [if_pos rfl, if_pos h]
theorem rWord_ok {l : List Int} {p : Nat} (h : ¬ l.length < p + 8) : rWord l p 0 = (wordV ((l.drop p).take 8), p + 8, 0) := by unfold rWord; rw [if_pos rfl, if_neg h]
theorem word_round {l : List Int} (hl : ∀ c ∈ l, 0 ≤ c ∧ c < 256) {p i : Nat} (hi : i < 8) (h : p + 8 ≤ l.length) {u b : Int} (hu : u = wordV ((l.drop p).take i)) (hb : l.getD (p + i) 0 = b) : bits BinOp.or IntKind.u64 (IntKind.u64.wrap (u * 256)) (IntKind.u64.wrap b) = wordV ((l.drop p).take (i + 1)) := by
  have h1 := wordV_bounds hl (p := p) i (by omega)
  have h2 := getD_byte hl (p + i)
  have m : ∀ i : Nat, i < 8 → (256 : Int) ^ i ≤ 72057594037927936 := by decide
  have m := m i hi
  rw [wordV_step (by omega), hb, ← hu]
  rw [← hu] at h1
  rw [hb] at h2
  exact or_byte h1.1 (by omega) h2.1 h2.2
set_option maxRecDepth 100000 in
theorem word_calls {n₀ B : Nat} {w : World} {A : Option Addr} {c : Nat} {l : List Int} {p : Nat} {e : Int} (h : Rdr n₀ 69 w B A c l p e) :
    Calls Try.prog 31 #[.pointer (some ⟨B, 0, none⟩)] w fun x w' => x = .returned (.int .u64 (rWord l p e).1) ∧ Went n₀ 69 B w w' A c l (rWord l p e).2.1 (rWord l p e).2.2 := by
  have hc0 := h.c0
  have hc1 := h.c1
  have hc2 := h.c2
  have hf1 := h.frozen 1
  have hf2 := h.frozen 2
  have HR := Aside0.mk h
  have hll := h.ll
  have hpl := h.pl
  clear h
  by_cases he : e = 0
  · subst he
    have hL := left_calls HR.out
    have hw0 : wrap64 ((l.length : Int) - (p : Int)) = (l.length : Int) - (p : Int) := by unfold wrap64; omega
    by_cases hp : l.length < p + 8
    · have d1 : decide ((l.length : Int) - (p : Int) < 8) = true := decide_eq_true (by omega)
      rw [rWord_short hp]
      clear hp
      go_enter Try.func31, Try.ntmps31
      go_wp2_with (go_at_call 34; refine hL.mono ?_; rintro x w1 ⟨rfl, hd⟩; obtain ⟨m0, rfl⟩ := hd)
      go_ret
      exact ⟨rfl, ((Went.refl HR.out).drew _).then2 10⟩
    · have d1 : decide ((l.length : Int) - (p : Int) < 8) = false := decide_eq_false (by omega)
      rw [rWord_ok hp]
      have HP : Aside0 (p + 8 ≤ l.length) := ⟨by omega⟩
      clear hp
      go_enter Try.func31, Try.ntmps31
      go_wp2_with (go_at_call 34; refine hL.mono ?_; rintro x w1 ⟨rfl, hd⟩; obtain ⟨m0, rfl⟩ := hd)
      go_loopw [3, 22] (fun s3 s4 wr => ∃ (i : Nat) (u : Int), s3 = .int .u64 u ∧ s4 = .int .i64 (i : Int) ∧ i ≤ 8 ∧ u = wordV ((l.drop p).take i) ∧ Went n₀ 69 B w wr A c l (p + i) 0) (fun s3 s4 _ => 8 - (intOf s4).toNat)
      case atStart => exact ⟨0, 0, rfl, rfl, by omega, by simp [wordV], (Went.refl HR.out).drew _⟩
      case round =>
        obtain ⟨i, u, rfl, rfl, hi, hu, hW⟩ := hrel
        have HW := Aside0.mk hW
        have HU := Aside0.mk hu
        have hpl8 := HP.out
        clear hu
        by_cases h8 : i < 8
        · have b1 : decide (i < 8) = true := decide_eq_true h8
          have b2 : decide ((i : Int) < 8) = true := decide_eq_true (by omega)
          obtain ⟨q, hq⟩ : ∃ q, q = p + i := ⟨_, rfl⟩
          have HQ := Aside0.mk hq
          have hql : q < l.length := by omega
          obtain ⟨ad, rfl⟩ := HR.out.addr hql
          have yb := hW.st.byte hql rfl
          have y0 := hW.st.c0
          have y1 := hW.st.c1
          have yf := hW.st.frozen 1
          have hwq : wrap64 ((p : Int) + (i : Int)) = (q : Int) := by unfold wrap64; omega
          have hwqI : IntKind.i64.wrap ((p : Int) + (i : Int)) = (q : Int) := by rw [IntKind.wrap_i64]; omega
          have hwq1 : wrap64 ((q : Int) + 1) = ((q + 1 : Nat) : Int) := by unfold wrap64; omega
          have hwi : wrap64 ((i : Int) + 1) = ((i + 1 : Nat) : Int) := by unfold wrap64; omega
          have p0 : (0 ≤ (q : Int)) = True := eq_true (Int.natCast_nonneg q)
          have q0 : ((q : Int) < (l.length : Int)) = True := eq_true (by omega)
          obtain ⟨b, hb⟩ : ∃ b, l.getD q 0 = b := ⟨_, rfl⟩
          rw [hb] at yb
          rw [hq] at hb
          have HB := Aside0.mk hb
          have HI := Aside0.mk h8
          rw [← hq] at y1
          clear hb h8 hW hpl8 hq hc0 hc1 hc2 hf1 hf2
          go_wp2
          go_quiet (fail)
          go_wp2
          refine ⟨⟨i + 1, _, rfl, ?_, ?_, word_round HR.out.bytes HI.out HP.out HU.out HB.out, ?_⟩, ?_⟩
          · first | rfl | rw [hwi]
          · have := HI.out; omega
          · have h9 := (HW.out.drew nq).then1 (q + 1) hql; rw [HQ.out] at h9 ⊢; exact h9
          · have := HI.out; simp only [intOf]; first | omega | (rw [hwi]; omega)
        · have b1 : decide (i < 8) = false := decide_eq_false h8
          have b2 : decide ((i : Int) < 8) = false := decide_eq_false (by omega)
          obtain rfl : i = 8 := by omega
          skip
          clear hW h8 hpl8 hc0 hc1 hc2 hf1 hf2
          go_wp2
          go_ret
          exact ⟨by rw [← HU.out]; rfl, HW.out⟩
  · have d1 : (e == 0) = false := by simp [he]
    have d2 : (e = 0) = False := eq_false he
    rw [rWord_bad he]
    clear he
    go_enter Try.func31, Try.ntmps31
    go_wp2
    go_ret
    exact ⟨rfl, Went.refl HR.out⟩
set_option maxRecDepth 100000 in
theorem rword_calls {n₀ B : Nat} {w : World} {A : Option Addr} {c : Nat} {l : List Int} {p : Nat} {e : Int} (h : Rdr n₀ 73 w B A c l p e) :
    Calls Try.prog 51 #[.pointer (some ⟨B, 0, none⟩)] w fun x w' => x = .returned (.int .u64 (rWord l p e).1) ∧ Went n₀ 73 B w w' A c l (rWord l p e).2.1 (rWord l p e).2.2 := by
  have hc0 := h.c0
  have hc1 := h.c1
  have hc2 := h.c2
  have hf1 := h.frozen 1
  have hf2 := h.frozen 2
  have HR := Aside0.mk h
  have hll := h.ll
  have hpl := h.pl
  clear h
  by_cases he : e = 0
  · subst he
    have hw0 : wrap64 ((l.length : Int) - (p : Int)) = (l.length : Int) - (p : Int) := by unfold wrap64; omega
    by_cases hp : l.length < p + 8
    · have d1 : decide ((l.length : Int) - (p : Int) < 8) = true := decide_eq_true (by omega)
      rw [rWord_short hp]
      clear hp
      go_enter Try.func51, Try.ntmps51
      go_wp2
      go_quiet (fail)
      go_wp2
      go_ret
      exact ⟨rfl, ((Went.refl HR.out).drew _).then2 10⟩
    · have d1 : decide ((l.length : Int) - (p : Int) < 8) = false := decide_eq_false (by omega)
      rw [rWord_ok hp]
      have HP : Aside0 (p + 8 ≤ l.length) := ⟨by omega⟩
      clear hp
      go_enter Try.func51, Try.ntmps51
      go_wp2
      go_quiet (fail)
      go_wp2
      go_loopw [3, 4] (fun s3 s4 wr => ∃ (i : Nat) (u : Int), s3 = .int .u64 u ∧ s4 = .int .i64 (i : Int) ∧ i ≤ 8 ∧ u = wordV ((l.drop p).take i) ∧ Went n₀ 73 B w wr A c l p 0) (fun s3 s4 _ => 8 - (intOf s4).toNat)
      case atStart => exact ⟨0, 0, rfl, rfl, by omega, by simp [wordV], (Went.refl HR.out).drew _⟩
      case round =>
        obtain ⟨i, u, rfl, rfl, hi, hu, hW⟩ := hrel
        have HW := Aside0.mk hW
        have HU := Aside0.mk hu
        have hpl8 := HP.out
        clear hu
        by_cases h8 : i < 8
        · have b1 : decide (i < 8) = true := decide_eq_true h8
          have b2 : decide ((i : Int) < 8) = true := decide_eq_true (by omega)
          obtain ⟨q, hq⟩ : ∃ q, q = p + i := ⟨_, rfl⟩
          have HQ := Aside0.mk hq
          have hql : q < l.length := by omega
          obtain ⟨ad, rfl⟩ := HR.out.addr hql
          have yb := hW.st.byte hql rfl
          have y0 := hW.st.c0
          have y1 := hW.st.c1
          have yf := hW.st.frozen 1
          have hwq : wrap64 ((p : Int) + (i : Int)) = (q : Int) := by unfold wrap64; omega
          have hwqI : IntKind.i64.wrap ((p : Int) + (i : Int)) = (q : Int) := by rw [IntKind.wrap_i64]; omega
          have hwq1 : wrap64 ((q : Int) + 1) = ((q + 1 : Nat) : Int) := by unfold wrap64; omega
          have hwi : wrap64 ((i : Int) + 1) = ((i + 1 : Nat) : Int) := by unfold wrap64; omega
          have p0 : (0 ≤ (q : Int)) = True := eq_true (Int.natCast_nonneg q)
          have q0 : ((q : Int) < (l.length : Int)) = True := eq_true (by omega)
          obtain ⟨b, hb⟩ : ∃ b, l.getD q 0 = b := ⟨_, rfl⟩
          rw [hb] at yb
          rw [hq] at hb
          have HB := Aside0.mk hb
          have HI := Aside0.mk h8
          skip
          clear hb h8 hW hpl8 hq hc0 hc1 hc2 hf1 hf2
          go_wp2
          go_quiet (fail)
          go_wp2
          refine ⟨⟨i + 1, _, rfl, ?_, ?_, word_round HR.out.bytes HI.out HP.out HU.out HB.out, ?_⟩, ?_⟩
          · first | rfl | rw [hwi]
          · have := HI.out; omega
          · exact HW.out.drew _
          · have := HI.out; simp only [intOf]; first | omega | (rw [hwi]; omega)
        · have b1 : decide (i < 8) = false := decide_eq_false h8
          have b2 : decide ((i : Int) < 8) = false := decide_eq_false (by omega)
          obtain rfl : i = 8 := by omega
          have y1 := hW.st.c1
          have yf := hW.st.frozen 1
          have hw8 : wrap64 ((p : Int) + 8) = ((p + 8 : Nat) : Int) := by unfold wrap64; omega
          clear hW h8 hpl8 hc0 hc1 hc2 hf1 hf2
          go_wp2
          go_ret
          exact ⟨by rw [← HU.out]; rfl, HW.out.then1 (p + 8) HP.out⟩
  · have d1 : (e == 0) = false := by simp [he]
    have d2 : (e = 0) = False := eq_false he
    rw [rWord_bad he]
    clear he
    go_enter Try.func51, Try.ntmps51
    go_wp2
    go_ret
    exact ⟨rfl, Went.refl HR.out⟩
end Go.Proofs.Ytcfiobhebakhlab.Rd
