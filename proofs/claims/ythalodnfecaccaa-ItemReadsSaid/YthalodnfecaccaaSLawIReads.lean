-- By wip/late.py (a program of this session) out of wip/words.
import Derived.Test.YthalodnfecaccaaProg
import Derived.Test.YthalodnfecaccaaWWords
import Derived.Test.YthalodnfecaccaaWLast
import Derived.Test.YthalodnfecaccaaWMore
import Derived.Test.YthalodnfecaccaaSRdTwo
import Derived.Test.YthalodnfecaccaaSRdGet
import Derived.Test.YthalodnfecaccaaSRdTell
import Derived.Test.YthalodnfecaccaaSRdNew
import Derived.RangeFuncBox
import Derived.BigQuiet
import Derived.Deep.QuietTactic
import Derived.Lib.Hide
import Derived.Tactics
import Derived.WalkKit
import Derived.OwnWalk
import Derived.Test.YthalodnfecaccaaSRdP
set_option linter.unusedVariables false
set_option linter.unusedSimpArgs false
namespace Go.Proofs.Ythalodnfecaccaa.PAll
open Go.RowKit Go.Proofs.YthalodnfecaccaaW.PrintWords Go.Proofs.YthalodnfecaccaaW.PrintLast Go.Proofs.YthalodnfecaccaaW.PrintMore Go.Proofs.Ythalodnfecaccaa.Pure Go.Proofs.Ythalodnfecaccaa.Wr Go.Proofs.Ythalodnfecaccaa.Rd
open Classical in
noncomputable def tidelinelaw03_ItemReads.f (l0 : List Int) (a1 : Int) : Option Bool := if 1073741824 < (l0.length : Int) then some true else if ∀ x ∈ l0, 0 ≤ x ∧ x < 256 then some true else none
theorem readsMeasure (n j : Nat) (hj : j < n) (hw : wrap64 ((j : Int) + 1) = ((j + 1 : Nat) : Int)) : n - (intOf (Value.int .i64 (wrap64 ((j : Int) + 1)))).toNat < n - (intOf (Value.int .i64 (j : Int))).toNat := by
  rw [hw]
  simp only [intOf]
  omega
set_option maxRecDepth 100000 in
set_option maxHeartbeats 4000000 in
theorem tidelinelaw03_ItemReads.calls (A0 : Option Addr) (c0 : Nat) (l0 : List Int) (a1 : Int) (r : Bool) (w : World) (hr0 : Kd.C (Kd.int .u8) w A0 l0.length l0) (hc0 : l0.length ≤ c0) (h : tidelinelaw03_ItemReads.f l0 a1 = some r) :
    Calls Try.prog 9 #[.slice A0 l0.length c0, .int .i64 a1] w fun e w' => e = .returned (.bool r) ∧ Below w.heap.size w w' := by
  unfold tidelinelaw03_ItemReads.f at h
  have HR0 := Aside0.mk hr0
  clear hr0
  by_cases hg : 1073741824 < (l0.length : Int)
  · rw [if_pos hg] at h
    obtain rfl : true = r := by simpa using h
    have d1 : decide (1073741824 < (l0.length : Int)) = true := decide_eq_true hg
    have d2 : decide (1073741824 < l0.length) = true := decide_eq_true (by omega)
    clear h hg
    go_enter Try.func9, Try.ntmps9
    go_wp2
    go_ret
    exact ⟨rfl, Below.refl _ _⟩
  rw [if_neg hg] at h
  by_cases hk : ∀ x ∈ l0, 0 ≤ x ∧ x < 256
  case neg => rw [if_neg hk] at h; cases h
  rw [if_pos hk] at h
  obtain rfl : true = r := by simpa using h
  have AK := Aside0.mk hk
  have d1 : decide (1073741824 < (l0.length : Int)) = false := decide_eq_false hg
  have d2 : decide (1073741824 < l0.length) = false := decide_eq_false (by omega)
  have HL : Aside0 (l0.length ≤ 1099511627776) := ⟨by omega⟩
  clear h hk hg
  go_enter Try.func9, Try.ntmps9
  go_wp2_with (first
    | (go_at_call 32; refine (newr_calls HR0.out HL.out AK.out).mono ?_; rintro x w1 ⟨B1, A1, c1, rfl, hr1, hb1⟩; have H1 := Aside0.mk hr1; have HB1 := Aside0.mk hb1; have HC1 := Aside0.mk (Kd.C_below HR0.out hb1); clear hr1 hb1)
    | (go_at_call 33; refine (rnewr_calls HC1.out HL.out AK.out).mono ?_; rintro x w2 ⟨B2, A2, c2, rfl, hr2, hb2⟩; have HT : Aside0 (TwoR w.heap.size w.heap.size w1.heap.size w B1 B2 w2 A1 c1 A2 c2 l0 0 0 0 0) := ⟨⟨H1.out.below hb2, hr2, HB1.out.trans (hb2.mono HB1.out.size), Nat.le_refl _, HB1.out.size⟩⟩; clear hr2 hb2))
  clear H1 HB1 HC1
  go_loopw [7] (fun s7 wr => ∃ (j p : Nat) (e : Int), s7 = .int .i64 (j : Int) ∧ j ≤ l0.length + 1 ∧ TwoR w.heap.size w.heap.size w1.heap.size w B1 B2 wr A1 c1 A2 c2 l0 p e p e) (fun s7 _ => l0.length + 2 - (intOf s7).toNat)
  case atStart => exact ⟨0, 0, 0, rfl, by omega, HT.out⟩
  case round =>
    obtain ⟨j, p, e, rfl, hj, ht⟩ := hrel
    have H0 := Aside0.mk ht
    clear ht HT
    by_cases h1 : (j : Int) < a1
    · have b1 : decide ((j : Int) < a1) = true := decide_eq_true h1
      have b11 : ((j : Int) < a1) = True := eq_true h1
      by_cases h2 : j ≤ l0.length
      · have b2 : decide (j ≤ l0.length) = true := decide_eq_true h2
        have b3 : decide ((j : Int) ≤ (l0.length : Int)) = true := decide_eq_true (by omega)
        have hw64 : wrap64 ((j : Int) + 1) = ((j + 1 : Nat) : Int) := by have := HL.out; unfold wrap64; omega
        obtain ⟨q, hq⟩ : ∃ q, getR l0 p e = q := ⟨_, rfl⟩
        have HQ := Aside0.mk hq
        clear hq
        go_wp2_with (first
          | (go_at_call 34; have hN := get_calls H0.out.a; rw [HQ.out] at hN; simp only [entC] at hN; refine hN.mono ?_; rintro x w3 ⟨rfl, h3⟩; have H3 := Aside0.mk (H0.out.left h3); clear h3 hN)
          | (go_at_call 35; have hN := rget_calls H3.out.b; rw [HQ.out] at hN; simp only [entC] at hN; refine hN.mono ?_; rintro x w4 ⟨rfl, h4⟩; have H4 := Aside0.mk (H3.out.right h4); clear h4 hN)
          | (go_at_call 36; refine (err_calls H4.out.a).mono ?_; rintro x w5 ⟨rfl, e1⟩; subst e1)
          | (go_at_call 37; refine (rerr_calls H4.out.b).mono ?_; rintro x w5 ⟨rfl, e1⟩; subst e1)
          | (go_at_call 38; refine (at_calls H4.out.a).mono ?_; rintro x w5 ⟨rfl, e1⟩; subst e1)
          | (go_at_call 39; refine (rat_calls H4.out.b).mono ?_; rintro x w5 ⟨rfl, e1⟩; subst e1)
          | (go_at_call 40; refine (left_calls H4.out.a).mono ?_; rintro x w6 ⟨rfl, hd1⟩; have H6 := Aside0.mk (H4.out.drawn hd1); clear hd1)
          | (go_at_call 41; refine (rleft_calls H6.out.b).mono ?_; rintro x w7 ⟨rfl, hd2⟩; have H7 := Aside0.mk (H6.out.drawn hd2); clear hd2))
        go_roundw
        case rel => exact ⟨j + 1, _, _, by rw [hw64], by omega, H7.out⟩
        case measure => exact readsMeasure _ _ (by omega) hw64
      · have b2 : decide (j ≤ l0.length) = false := decide_eq_false h2
        have b3 : decide ((j : Int) ≤ (l0.length : Int)) = false := decide_eq_false (by omega)
        go_wp2
        go_ret
        exact ⟨rfl, H0.out.be⟩
    · have b1 : decide ((j : Int) < a1) = false := decide_eq_false h1
      have b11 : ((j : Int) < a1) = False := eq_false h1
      go_wp2
      go_ret
      exact ⟨rfl, H0.out.be⟩
end Go.Proofs.Ythalodnfecaccaa.PAll
