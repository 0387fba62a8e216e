-- By wip/late.py (a program of this session) out of wip/words.
import Derived.Test.YtcfiobhebakhlabProg
import Derived.Test.YtcfiobhebakhlabWWords
import Derived.Test.YtcfiobhebakhlabWLast
import Derived.Test.YtcfiobhebakhlabWMore
import Derived.Test.YtcfiobhebakhlabSWrWrite
import Derived.Test.YtcfiobhebakhlabSRdTwo
import Derived.Test.YtcfiobhebakhlabSRdTell
import Derived.Test.YtcfiobhebakhlabSRdNumC
import Derived.Test.YtcfiobhebakhlabSRdText
import Derived.Test.YtcfiobhebakhlabSRdWord
import Derived.Test.YtcfiobhebakhlabSRdFlag
import Derived.RangeFuncBox
import Derived.BigQuiet
import Derived.Deep.QuietTactic
import Derived.Deep.RegionHeld
import Derived.Lib.Hide
import Derived.Tactics
import Derived.WalkKit
import Derived.OwnWalk
import Derived.Test.YtcfiobhebakhlabSRdP
set_option linter.unusedVariables false
set_option linter.unusedSimpArgs false
namespace Go.Proofs.Ytcfiobhebakhlab.Rd
open Go.RowKit Go.Proofs.YtcfiobhebakhlabW.PrintWords Go.Proofs.Ytcfiobhebakhlab.Pure Go.Proofs.Ytcfiobhebakhlab.Wr
/-! Both readers tell the same; both read the same. -/
/-- A block of another type stays. -/
theorem Went.other {n₀ : Nat} {T : TypeId} {B : Nat} {w W : World} {A : Option Addr} {c : Nat} {l : List Int} {p0 : Nat} {e0 : Int} {p : Nat} {e : Int} (h : Went n₀ T B w W A c l p e) (hst : Rdr n₀ T w B A c l p0 e0) {g : Nat} {t : TypeId} {cs : Array Value} (ht : t ≠ T) (hg : w.heap[g]? = some (.cells cs t (0, 0))) : W.heap[g]? = some (.cells cs t (0, 0)) :=
  (h.kb.2 g (blk_lt hg) (blk_ne hg hst.box ht) (by simp)).trans hg
section
variable {n0 n1 n2 : Nat} {w0 : World} {B1 B2 : Nat} {w : World} {A1 : Option Addr} {c1 : Nat} {A2 : Option Addr} {c2 : Nat} {l : List Int} {p : Nat} {e : Int}
set_option maxRecDepth 100000 in
theorem same_calls (h : TwoR n0 n1 n2 w0 B1 B2 w A1 c1 A2 c2 l p e p e) :
    Calls Try.prog 28 #[.pointer (some ⟨B1, 0, none⟩), .pointer (some ⟨B2, 0, none⟩)] w fun x w' => x = .returned (.bool true) ∧ Drawn0 w w' := by
  have H0 := Aside0.mk h
  clear h
  go_enter Try.func28, Try.ntmps28
  go_wp2_with (first
    | (go_at_call 24; refine (err_calls H0.out.a).mono ?_; rintro x w1 ⟨rfl, e1⟩; subst e1)
    | (go_at_call 45; refine (rerr_calls H0.out.b).mono ?_; rintro x w1 ⟨rfl, e1⟩; subst e1)
    | (go_at_call 25; refine (at_calls H0.out.a).mono ?_; rintro x w1 ⟨rfl, e1⟩; subst e1)
    | (go_at_call 46; refine (rat_calls H0.out.b).mono ?_; rintro x w1 ⟨rfl, e1⟩; subst e1)
    | (go_at_call 34; refine (left_calls H0.out.a).mono ?_; rintro x w1 ⟨rfl, hd1⟩; have D1 := Aside0.mk hd1; have H1 := Aside0.mk (H0.out.drawn hd1); clear hd1)
    | (go_at_call 47; refine (rleft_calls H1.out.b).mono ?_; rintro x w2 ⟨rfl, hd2⟩; have D2 := Aside0.mk hd2; have H2 := Aside0.mk (H1.out.drawn hd2); clear hd2)
    | (go_at_call 33; refine (done_calls H2.out.a).mono ?_; rintro x w3 ⟨rfl, hd3⟩; have D3 := Aside0.mk hd3; have H3 := Aside0.mk (H2.out.drawn hd3); clear hd3)
    | (go_at_call 48; refine (rdone_calls H3.out.b).mono ?_; rintro x w4 ⟨rfl, hd4⟩; have D4 := Aside0.mk hd4; clear hd4))
  go_ret
  exact ⟨rfl, drawn_trans (drawn_trans (drawn_trans D1.out D2.out) D3.out) D4.out⟩
set_option maxRecDepth 100000 in
set_option maxHeartbeats 4000000 in
theorem read_calls (k n : Int) (t : ByteArray) (u : Int) (b : Bool) (hn0 : -9223372036854775808 ≤ n) (hn1 : n ≤ 9223372036854775807) (h : TwoR n0 n1 n2 w0 B1 B2 w A1 c1 A2 c2 l p e p e) :
    Calls Try.prog 29 #[.pointer (some ⟨B1, 0, none⟩), .pointer (some ⟨B2, 0, none⟩), .agg #[.int .i64 k, .int .i64 n, .string t, .int .u64 u, .bool b]] w fun x w' => x = .returned (.bool true) ∧ ∃ p' e', TwoR n0 n1 n2 w0 B1 B2 w' A1 c1 A2 c2 l p' e' p' e' := by
  have HW := Aside0.mk h
  have HN := Aside0.mk (And.intro hn0 hn1)
  clear h hn0 hn1
  by_cases k0 : k = 0
  · subst k0
    go_enter Try.func29, Try.ntmps29
    go_wp2_with ((with_reducible refine gate_dst (N := 5) rfl ?_); refine box_event ?hg (N := 5) ?hd (cs := #[.int .i64 0, .int .i64 n, .string t, .int .u64 u, .bool b]) (t := 34) ?hr ?_; (case hd => rfl); (case hg => rfl); (case hr => first | (go_simp; done) | (go_simp; rfl)); intro gb w0g wx hbox hb0; have H0 := Aside0.mk (HW.out.below hb0); have HX0 := Aside0.mk hbox; obtain ⟨x0, x1, x2, x3, x4⟩ := fiveP hbox; clear w0g hbox hb0)
    obtain ⟨q, hq⟩ : ∃ q, rNum n l p e = q := ⟨_, rfl⟩
    go_region_held (fun W => W.cell? ⟨gb, 1, none⟩ = some (.int .i64 n)) (first | exact y2 | exact y1 | exact x1 | (simp only [World.cell?_drew]; exact x1) | go_keep)
      (first
        | (go_at_call 23; refine (num_calls n HN.out.1 HN.out.2 (H0.out.drawn ⟨⟨1, rfl⟩⟩).a).mono ?_; rintro x w1 ⟨rfl, h1⟩; rw [hq] at h1 ⊢; have H1 := Aside0.mk ((H0.out.drawn ⟨⟨1, rfl⟩⟩).left h1); have HX1 := Aside0.mk (h1.other (H0.out.drawn ⟨⟨1, rfl⟩⟩).a (by decide) HX0.out); have y1 := (fiveP HX1.out).2.1; clear h1)
        | (go_at_call 49; refine (rnum_calls n HN.out.1 HN.out.2 H1.out.b).mono ?_; rintro x w2 ⟨rfl, h2⟩; rw [hq] at h2 ⊢; have H2 := Aside0.mk (H1.out.right h2); have HX2 := Aside0.mk (h2.other H1.out.b (by decide) HX1.out); have y2 := (fiveP HX2.out).2.1; clear h2))
    go_wp2
    go_ret
    exact ⟨by simp, _, _, H2.out⟩
  by_cases k1 : k = 1
  · subst k1
    go_enter Try.func29, Try.ntmps29
    go_wp2_with ((with_reducible refine gate_dst (N := 5) rfl ?_); refine box_event ?hg (N := 5) ?hd (cs := #[.int .i64 1, .int .i64 n, .string t, .int .u64 u, .bool b]) (t := 34) ?hr ?_; (case hd => rfl); (case hg => rfl); (case hr => first | (go_simp; done) | (go_simp; rfl)); intro gb w0g wx hbox hb0; have H0 := Aside0.mk (HW.out.below hb0); have HX0 := Aside0.mk hbox; obtain ⟨x0, x1, x2, x3, x4⟩ := fiveP hbox; clear w0g hbox hb0)
    obtain ⟨q, hq⟩ : ∃ q, rText n l p e = q := ⟨_, rfl⟩
    go_region_held (fun W => W.cell? ⟨gb, 1, none⟩ = some (.int .i64 n)) (first | exact y2 | exact y1 | exact x1 | (simp only [World.cell?_drew]; exact x1) | go_keep)
      (first
        | (go_at_call 30; refine (text_calls n HN.out.1 HN.out.2 (H0.out.drawn ⟨⟨1, rfl⟩⟩).a).mono ?_; rintro x w1 ⟨rfl, h1⟩; rw [hq] at h1 ⊢; have H1 := Aside0.mk ((H0.out.drawn ⟨⟨1, rfl⟩⟩).left h1); have HX1 := Aside0.mk (h1.other (H0.out.drawn ⟨⟨1, rfl⟩⟩).a (by decide) HX0.out); have y1 := (fiveP HX1.out).2.1; clear h1)
        | (go_at_call 50; refine (rtext_calls n HN.out.1 HN.out.2 H1.out.b).mono ?_; rintro x w2 ⟨rfl, h2⟩; rw [hq] at h2 ⊢; have H2 := Aside0.mk (H1.out.right h2); have HX2 := Aside0.mk (h2.other H1.out.b (by decide) HX1.out); have y2 := (fiveP HX2.out).2.1; clear h2))
    go_wp2
    go_ret
    exact ⟨by simp, _, _, H2.out⟩
  by_cases k2 : k = 2
  · subst k2
    obtain ⟨q, hq⟩ : ∃ q, rWord l p e = q := ⟨_, rfl⟩
    go_enter Try.func29, Try.ntmps29
    go_wp2_with (first
      | ((with_reducible refine gate_dst (N := 5) rfl ?_); refine box_event ?hg (N := 5) ?hd (cs := #[.int .i64 2, .int .i64 n, .string t, .int .u64 u, .bool b]) (t := 34) ?hr ?_; (case hd => rfl); (case hg => rfl); (case hr => first | (go_simp; done) | (go_simp; rfl)); intro gb w0g wx hbox hb0; have H0 := Aside0.mk (HW.out.below hb0); have HX0 := Aside0.mk hbox; obtain ⟨x0, x1, x2, x3, x4⟩ := fiveP hbox; clear w0g hbox hb0)
      | (go_at_call 31; refine (word_calls H0.out.a).mono ?_; rintro x w1 ⟨rfl, h1⟩; rw [hq] at h1 ⊢; have H1 := Aside0.mk (H0.out.left h1); clear h1)
      | (go_at_call 51; refine (rword_calls H1.out.b).mono ?_; rintro x w2 ⟨rfl, h2⟩; rw [hq] at h2 ⊢; have H2 := Aside0.mk (H1.out.right h2); clear h2))
    go_ret
    exact ⟨by simp, _, _, H2.out⟩
  by_cases k3 : k = 3
  · subst k3
    obtain ⟨q, hq⟩ : ∃ q, rFlag l p e = q := ⟨_, rfl⟩
    go_enter Try.func29, Try.ntmps29
    go_wp2_with (first
      | ((with_reducible refine gate_dst (N := 5) rfl ?_); refine box_event ?hg (N := 5) ?hd (cs := #[.int .i64 3, .int .i64 n, .string t, .int .u64 u, .bool b]) (t := 34) ?hr ?_; (case hd => rfl); (case hg => rfl); (case hr => first | (go_simp; done) | (go_simp; rfl)); intro gb w0g wx hbox hb0; have H0 := Aside0.mk (HW.out.below hb0); have HX0 := Aside0.mk hbox; obtain ⟨x0, x1, x2, x3, x4⟩ := fiveP hbox; clear w0g hbox hb0)
      | (go_at_call 32; refine (flag_calls H0.out.a).mono ?_; rintro x w1 ⟨rfl, h1⟩; rw [hq] at h1 ⊢; have H1 := Aside0.mk (H0.out.left h1); clear h1)
      | (go_at_call 52; refine (rflag_calls H1.out.b).mono ?_; rintro x w2 ⟨rfl, h2⟩; rw [hq] at h2 ⊢; have H2 := Aside0.mk (H1.out.right h2); clear h2))
    go_ret
    exact ⟨by simp, _, _, H2.out⟩
  by_cases k4 : k = 4
  · subst k4
    obtain ⟨q, hq⟩ : ∃ q, rFail e n = q := ⟨_, rfl⟩
    go_enter Try.func29, Try.ntmps29
    go_wp2_with (first
      | ((with_reducible refine gate_dst (N := 5) rfl ?_); refine box_event ?hg (N := 5) ?hd (cs := #[.int .i64 4, .int .i64 n, .string t, .int .u64 u, .bool b]) (t := 34) ?hr ?_; (case hd => rfl); (case hg => rfl); (case hr => first | (go_simp; done) | (go_simp; rfl)); intro gb w0g wx hbox hb0; have H0 := Aside0.mk (HW.out.below hb0); have HX0 := Aside0.mk hbox; obtain ⟨x0, x1, x2, x3, x4⟩ := fiveP hbox; clear w0g hbox hb0)
      | (go_at_call 53; refine (fail_calls n H0.out.a).mono ?_; rintro x w1 ⟨rfl, h1⟩; rw [hq] at h1; have H1 := Aside0.mk (H0.out.left h1); have HX1 := Aside0.mk (h1.other H0.out.a (by decide) HX0.out); have y1 := (fiveP HX1.out).2.1; clear h1)
      | (go_at_call 54; refine (rfail_calls n H1.out.b).mono ?_; rintro x w2 ⟨rfl, h2⟩; rw [hq] at h2; have H2 := Aside0.mk (H1.out.right h2); clear h2))
    go_ret
    exact ⟨rfl, _, _, H2.out⟩
  have e0 : (k == 0) = false := beq_eq_false_iff_ne.mpr k0
  have e1 : (k == 1) = false := beq_eq_false_iff_ne.mpr k1
  have e2 : (k == 2) = false := beq_eq_false_iff_ne.mpr k2
  have e3 : (k == 3) = false := beq_eq_false_iff_ne.mpr k3
  have e4 : (k == 4) = false := beq_eq_false_iff_ne.mpr k4
  go_enter Try.func29, Try.ntmps29
  go_wp2_with ((with_reducible refine gate_dst (N := 5) rfl ?_); refine box_event ?hg (N := 5) ?hd (cs := #[.int .i64 k, .int .i64 n, .string t, .int .u64 u, .bool b]) (t := 34) ?hr ?_; (case hd => rfl); (case hg => rfl); (case hr => first | (go_simp; done) | (go_simp; rfl)); intro gb w0g wx hbox hb0; have H0 := Aside0.mk (HW.out.below hb0); have HX0 := Aside0.mk hbox; obtain ⟨x0, x1, x2, x3, x4⟩ := fiveP hbox; clear w0g hbox hb0)
  go_ret
  exact ⟨rfl, _, _, H0.out⟩
end
end Go.Proofs.Ytcfiobhebakhlab.Rd
