-- By wip/late.py (a program of this session) out of wip/words.
import Derived.Test.YtghlellambnkeaaProg
import Derived.Test.YtghlellambnkeaaWWords
import Derived.Test.YtghlellambnkeaaWLast
import Derived.Test.YtghlellambnkeaaWMore
import Derived.Test.YtghlellambnkeaaPAllx0
import Derived.Test.YtghlellambnkeaaPAllx3
import Derived.Test.YtghlellambnkeaaPAllx4
import Derived.Test.YtghlellambnkeaaSMergeA
import Derived.Test.YtghlellambnkeaaSMerge
import Derived.Test.YtghlellambnkeaaSBeyond
import Derived.Test.YtghlellambnkeaaSCopied
import Derived.BigQuiet
import Derived.Deep.QuietTactic
import Derived.Lib.Hide
set_option linter.unusedVariables false
set_option linter.unusedSimpArgs false
namespace Go.Proofs.Ytghlellambnkeaa.PAll
open Go.RowKit Go.Proofs.YtghlellambnkeaaW.PrintWords Go.Proofs.Ytghlellambnkeaa.MergeW
def tidelinelaw09_MergeChecks.f (k : Nat) (l0 : List S44) : Option Bool := (tidelinelaw09_beyond.f k [l0]).bind fun b => if b = true then some true else if l0.length ≤ 2513169434843 then (merge_Check.f k l0).bind fun e => (tidelineref09_Check.f k l0).bind fun e' => if e = e' then (tidelinelaw09_same.f k l0 l0).bind fun s => if s = true then some true else none else none else none
set_option maxRecDepth 100000 in
set_option maxHeartbeats 4000000 in
theorem tidelinelaw09_MergeChecks.calls (k : Nat) (A0 : Option Addr) (c0 : Nat) (l0 : List S44) (r : Bool) (w : World) (hr0 : Kd.C k44 w A0 l0.length l0) (hc0 : l0.length ≤ c0) (h : tidelinelaw09_MergeChecks.f k l0 = some r) :
    Calls Try.prog 3 #[.slice A0 l0.length c0] w fun e w' => e = .returned (.bool r) ∧ Below w.heap.size w w' := by
  unfold tidelinelaw09_MergeChecks.f at h
  obtain ⟨b, hb, h⟩ := Option.bind_eq_some_iff.1 h
  have Ab := Aside0.mk hb
  clear hb
  have AR := Aside0.mk hr0
  clear hr0
  cases b with
  | true =>
    obtain rfl : true = r := by simpa using h
    clear h
    go_enter Try.func3, Try.ntmps3
    go_wp2_with (go_at_call 12; refine (tidelinelaw09_beyond1.callsL k A0 c0 l0 true _ AR.out hc0 Ab.out).mono ?_; rintro e w1 ⟨rfl, hb1⟩)
    go_ret
    exact ⟨rfl, (below_alloc (Below.refl _ _) _).trans (hb1.mono (by simp))⟩
  | false =>
    rw [if_neg (by decide)] at h
    by_cases hl : l0.length ≤ 2513169434843
    · rw [if_pos hl] at h
      obtain ⟨e1, h1, h⟩ := Option.bind_eq_some_iff.1 h
      obtain ⟨e2, h2, h⟩ := Option.bind_eq_some_iff.1 h
      by_cases he : e1 = e2
      · rw [if_pos he] at h
        obtain rfl := he
        obtain ⟨s, hs, h⟩ := Option.bind_eq_some_iff.1 h
        cases s with
        | false => simp at h
        | true =>
          obtain rfl : true = r := by simpa using h
          clear h
          have A1 := Aside0.mk h1
          have A2 := Aside0.mk h2
          have As := Aside0.mk hs
          clear h1 h2 hs
          go_enter Try.func3, Try.ntmps3
          go_wp2_with (first
            | (go_at_call 12; refine (tidelinelaw09_beyond1.callsL k A0 c0 l0 false _ AR.out hc0 Ab.out).mono ?_; rintro e w1 ⟨rfl, hb1⟩; have HB := Aside0.mk ((below_alloc (Below.refl w.heap.size w) _).trans (hb1.mono (by simp))); clear hb1)
            | (go_at_call 13; refine (copied_calls A0 c0 l0 _ (Kd.C_below AR.out HB.out) hc0 hl).mono ?_; rintro e w2 ⟨g, rfl, hg1, hg2, hR, hb2⟩; have HB2 := Aside0.mk (HB.out.trans (hb2.mono HB.out.size)); have AR2 := Aside0.mk hR; clear hR hb2 HB hg1 hg2)
            | (go_at_call 14; refine (merge_Check.calls k _ _ l0 e1 _ (AR2.out.slice (by omega)) (by omega) A1.out).mono ?_; rintro e w3 ⟨rfl, hb3⟩; have HB3 := Aside0.mk (HB2.out.trans (hb3.mono HB2.out.size)); have AR3 := Aside0.mk (AR2.out.below hb3); clear hb3 HB2 AR2)
            | (go_at_call 15; refine (tidelineref09_Check.calls k _ _ l0 e1 _ (Kd.C_below AR.out HB3.out) (by omega) A2.out).mono ?_; rintro e w4 ⟨rfl, hb4⟩; have HB4 := Aside0.mk (HB3.out.trans (hb4.mono HB3.out.size)); have AR4 := Aside0.mk (AR3.out.below hb4); clear hb4 HB3 AR3)
            | (go_at_call 16; refine (kept_calls k g A0 c0 l0 _ AR4.out (Kd.C_below AR.out HB4.out) hc0 hl As.out).mono ?_; rintro e w5 ⟨rfl, hb5⟩; have HB5 := Aside0.mk (HB4.out.trans (hb5.mono HB4.out.size)); clear hb5 HB4 AR4))
          go_ret
          exact ⟨rfl, HB5.out⟩
      · rw [if_neg he] at h; cases h
    · rw [if_neg hl] at h; cases h
end Go.Proofs.Ytghlellambnkeaa.PAll
