-- By wip/late.py (a program of this session) out of wip/words.
import Derived.Test.YtghlellambnkeaaProg
import Derived.Test.YtghlellambnkeaaWWords
import Derived.Test.YtghlellambnkeaaWLast
import Derived.Test.YtghlellambnkeaaWMore
import Derived.Test.YtghlellambnkeaaPAllx0
import Derived.Test.YtghlellambnkeaaPAllx3
import Derived.Test.YtghlellambnkeaaPAllx4
import Derived.Test.YtghlellambnkeaaPAllx5
import Derived.Test.YtghlellambnkeaaPAllx6
import Derived.Test.YtghlellambnkeaaSMergeA
import Derived.Test.YtghlellambnkeaaSMerge
import Derived.Test.YtghlellambnkeaaSBeyond
import Derived.Test.YtghlellambnkeaaSCopied
import Derived.BigQuiet
import Derived.Deep.QuietTactic
import Derived.Lib.Hide
set_option linter.unusedVariables false
set_option linter.unusedSimpArgs false
namespace Go.Proofs.Ytghlellambnkeaa.PAll
open Go.RowKit Go.Proofs.YtghlellambnkeaaW.PrintWords Go.Proofs.Ytghlellambnkeaa.MergeW
def tidelinelaw09_MergeIn.f (k : Nat) (l0 : List S44) (a1_0 a1_1 : ByteArray) (a1_2 : Bool) : Option Bool := (tidelinelaw09_beyond.f k [l0]).bind fun b => if b = true then some true else (tidelinelaw09_longRange.f a1_0 a1_1 a1_2).bind fun b2 => if b2 = true then some true else if l0.length ≤ 2513169434843 then (merge_In.f k l0 a1_0 a1_1 a1_2).bind fun x => (tidelineref09_In.f k l0 a1_0 a1_1 a1_2).bind fun y => if x.2 = y.2 then (tidelinelaw09_same.f k x.1 y.1).bind fun s1 => if s1 = true then (tidelinelaw09_spoil.f k x.1).bind fun _ => (tidelinelaw09_same.f k l0 l0).bind fun s => if s = true then some true else none else none else none else none
/-- The box of the range, in a later world. -/
theorem box3 {W w1 : World} {b : Nat} {u0 u1 u2 : Value} (h : W.heap[b]? = some (.cells #[u0, u1, u2] 30 (0, 0))) (hb : Below W.heap.size W w1) : w1.heap[b]? = some (.cells #[u0, u1, u2] 30 (0, 0)) ∧ w1.cell? ⟨b, 0, none⟩ = some u0 ∧ w1.cell? ⟨b, 1, none⟩ = some u1 ∧ w1.cell? ⟨b, 2, none⟩ = some u2 := by
  have g := blk_below h hb
  exact ⟨g, (blk_cell g 0).trans rfl, (blk_cell g 1).trans rfl, (blk_cell g 2).trans rfl⟩
set_option maxRecDepth 100000 in
set_option maxHeartbeats 4000000 in
theorem tidelinelaw09_MergeIn.calls (k : Nat) (A0 : Option Addr) (c0 : Nat) (l0 : List S44) (a1_0 a1_1 : ByteArray) (a1_2 : Bool) (r : Bool) (w : World) (hr0 : Kd.C k44 w A0 l0.length l0) (hc0 : l0.length ≤ c0) (h : tidelinelaw09_MergeIn.f k l0 a1_0 a1_1 a1_2 = some r) :
    Calls Try.prog 4 #[.slice A0 l0.length c0, .agg #[.string a1_0, .string a1_1, .bool a1_2]] w fun e w' => e = .returned (.bool r) ∧ Below w.heap.size w w' := by
  unfold tidelinelaw09_MergeIn.f at h
  obtain ⟨b, hb, h⟩ := Option.bind_eq_some_iff.1 h
  have Ab := Aside0.mk hb
  clear hb
  have AR := Aside0.mk hr0
  clear hr0
  cases b with
  | true =>
    obtain rfl : true = r := by simpa using h
    clear h
    go_enter Try.func4, Try.ntmps4
    go_wp2_with (first | ((with_reducible refine gate_dst (N := 3) rfl ?_); refine box_event ?hg (N := 3) ?hd (cs := #[.string a1_0, .string a1_1, .bool a1_2]) (t := 30) ?hr ?_; (case hd => rfl); (case hg => rfl); (case hr => first | (go_simp; done) | (go_simp; rfl)); intro gb hgb w0 hbox hb0; have HB0 := Aside0.mk hb0; have HK0 := Aside0.mk hbox; clear hgb hbox hb0) | (go_at_call 12; refine (tidelinelaw09_beyond1.callsL k A0 c0 l0 true _ (Kd.C_below AR.out HB0.out) hc0 Ab.out).mono ?_; rintro e w1 ⟨rfl, hb1⟩))
    go_ret
    exact ⟨rfl, (below_alloc HB0.out _).trans (hb1.mono (by have := HB0.out.size; simp; omega))⟩
  | false =>
    rw [if_neg (by decide)] at h
    obtain ⟨b2, hb2, h⟩ := Option.bind_eq_some_iff.1 h
    have Ab2 := Aside0.mk hb2
    clear hb2
    cases b2 with
    | true =>
      obtain rfl : true = r := by simpa using h
      clear h
      go_enter Try.func4, Try.ntmps4
      go_wp2_with (first
        | ((with_reducible refine gate_dst (N := 3) rfl ?_); refine box_event ?hg (N := 3) ?hd (cs := #[.string a1_0, .string a1_1, .bool a1_2]) (t := 30) ?hr ?_; (case hd => rfl); (case hg => rfl); (case hr => first | (go_simp; done) | (go_simp; rfl)); intro gb hgb w0 hbox hb0; have HB0 := Aside0.mk hb0; have HK0 := Aside0.mk hbox; clear hgb hbox hb0)
        | (go_at_call 12; refine (tidelinelaw09_beyond1.callsL k A0 c0 l0 false _ (Kd.C_below AR.out HB0.out) hc0 Ab.out).mono ?_; rintro e w1 ⟨rfl, hb1⟩; have HB1 := Aside0.mk ((below_alloc HB0.out _).trans (hb1.mono (by have := HB0.out.size; simp; omega))); obtain ⟨hk1, x0, x1, x2⟩ := box3 (blk_alloc HK0.out _) hb1; clear hb1)
        | (go_at_call 17; (with_reducible refine (tidelinelaw09_longRange.calls a1_0 a1_1 a1_2 true _ Ab2.out).mono ?_); rintro e w2 ⟨rfl, hb2⟩; have HB2 := Aside0.mk (HB1.out.trans (hb2.mono HB1.out.size))))
      go_ret
      exact ⟨rfl, HB2.out⟩
    | false =>
      rw [if_neg (by decide)] at h
      by_cases hl : l0.length ≤ 2513169434843
      · rw [if_pos hl] at h
        obtain ⟨x, h1, h⟩ := Option.bind_eq_some_iff.1 h
        obtain ⟨y, h2, h⟩ := Option.bind_eq_some_iff.1 h
        obtain ⟨xl, xe⟩ := x
        obtain ⟨yl, ye⟩ := y
        by_cases he : xe = ye
        · rw [if_pos he] at h
          obtain rfl := he
          obtain ⟨s1, hs1, h⟩ := Option.bind_eq_some_iff.1 h
          cases s1 with
          | false => simp at h
          | true =>
          rw [if_pos rfl] at h
          obtain ⟨u, hsp, h⟩ := Option.bind_eq_some_iff.1 h
          obtain ⟨s, hs, h⟩ := Option.bind_eq_some_iff.1 h
          cases s with
          | false => simp at h
          | true =>
            obtain rfl : true = r := by simpa using h
            clear h
            have A1 := Aside0.mk h1
            have A2 := Aside0.mk h2
            have As := Aside0.mk hs
            have As1 := Aside0.mk hs1
            have Asp := Aside0.mk hsp
            clear h1 h2 hs hs1 hsp
            go_enter Try.func4, Try.ntmps4
            go_wp2_with (first
              | ((with_reducible refine gate_dst (N := 3) rfl ?_); refine box_event ?hg (N := 3) ?hd (cs := #[.string a1_0, .string a1_1, .bool a1_2]) (t := 30) ?hr ?_; (case hd => rfl); (case hg => rfl); (case hr => first | (go_simp; done) | (go_simp; rfl)); intro gb hgb w0 hbox hb0; have HB0 := Aside0.mk hb0; have HK0 := Aside0.mk hbox; clear hgb hbox hb0)
              | (go_at_call 12; refine (tidelinelaw09_beyond1.callsL k A0 c0 l0 false _ (Kd.C_below AR.out HB0.out) hc0 Ab.out).mono ?_; rintro e w1 ⟨rfl, hb1⟩; have HB1 := Aside0.mk ((below_alloc HB0.out _).trans (hb1.mono (by have := HB0.out.size; simp; omega))); obtain ⟨hk1, x0, x1, x2⟩ := box3 (blk_alloc HK0.out _) hb1; have HK1 := Aside0.mk hk1; clear hb1 hk1)
              | (go_at_call 17; (with_reducible refine (tidelinelaw09_longRange.calls a1_0 a1_1 a1_2 false _ Ab2.out).mono ?_); rintro e w2 ⟨rfl, hb2⟩; have HB2 := Aside0.mk (HB1.out.trans (hb2.mono HB1.out.size)); clear x0 x1 x2; obtain ⟨hk2, x0, x1, x2⟩ := box3 HK1.out hb2; have HK2 := Aside0.mk hk2; clear hb2 hk2)
              | (go_at_call 13; (with_reducible refine (copied_calls A0 c0 l0 _ (Kd.C_below AR.out HB2.out) hc0 hl).mono ?_); rintro e w3 ⟨g, rfl, hg1, hg2, hR, hb3⟩; have HB3 := Aside0.mk (HB2.out.trans (hb3.mono HB2.out.size)); clear x0 x1 x2; obtain ⟨hk3, x0, x1, x2⟩ := box3 HK2.out hb3; have HK3 := Aside0.mk hk3; have AR3 := Aside0.mk hR; have HG3 := Aside0.mk hg2; clear hR hb3 hk3 hg1 hg2)
              | (go_at_call 18; (with_reducible refine (merge_In.calls k _ _ l0 a1_0 a1_1 a1_2 xl xe _ (AR3.out.slice (by omega)) (by omega) A1.out).mono ?_); rintro e w4 ⟨v4, rfl, hr4, hb4⟩; have HB4 := Aside0.mk (HB3.out.trans (hb4.mono HB3.out.size)); clear x0 x1 x2; obtain ⟨hk4, x0, x1, x2⟩ := box3 HK3.out hb4; have HK4 := Aside0.mk hk4; have AR4 := Aside0.mk (AR3.out.below hb4); have HR4 := Aside0.mk hr4; have HB34 := Aside0.mk hb4; clear hb4 hk4 hr4; obtain ⟨Ax, cx, ex⟩ := Kd.R_slice HR4.out; subst ex)
              | (go_at_call 19; (with_reducible refine (tidelineref09_In.calls k A0 c0 l0 a1_0 a1_1 a1_2 yl xe _ (Kd.C_below AR.out HB4.out) hc0 A2.out).mono ?_); rintro e w5 ⟨v5, rfl, hr5, hb5⟩; have HB5 := Aside0.mk (HB4.out.trans (hb5.mono HB4.out.size)); have AR5 := Aside0.mk (AR4.out.below hb5); have HR5 := Aside0.mk (Kd.R_below HR4.out hb5); have HQ5 := Aside0.mk hr5; have HB35 := Aside0.mk (HB34.out.trans (hb5.mono HB34.out.size)); clear hb5 hr5; obtain ⟨Ay, cy, ey⟩ := Kd.R_slice HQ5.out; subst ey)
              | (go_at_call 20; (with_reducible refine (tidelinelaw09_same.calls k _ _ xl _ _ yl true _ (Kd.R_reads' HR5.out).2.2 (Kd.R_reads' HR5.out).2.1 (Kd.R_reads' HQ5.out).2.2 (Kd.R_reads' HQ5.out).2.1 As1.out).mono ?_); rintro e w6 ⟨rfl, hd6⟩; have hb6 := hd6.below; have HB6 := Aside0.mk (HB5.out.trans (hb6.mono HB5.out.size)); have AR6 := Aside0.mk (AR5.out.below hb6); have HR6 := Aside0.mk (Kd.R_below HR5.out hb6); have HB36 := Aside0.mk (HB35.out.trans (hb6.mono HB35.out.size)); clear hb6 hd6)
              | (go_at_call 21; (with_reducible refine (tidelinelaw09_spoil.calls k _ _ xl w3 _ HB36.out HR6.out Asp.out).mono ?_); rintro e w7 ⟨rfl, hb7, hk7⟩; have HB7 := Aside0.mk (HB3.out.trans (hb7.mono HB3.out.size)); have AR7 := Aside0.mk (AR3.out.below hb7); clear hb7 hk7)
              | (go_at_call 16; (with_reducible refine (kept_calls k g A0 c0 l0 _ AR7.out (Kd.C_below AR.out HB7.out) hc0 hl As.out).mono ?_); rintro e w8 ⟨rfl, hb8⟩; have HB8 := Aside0.mk (HB7.out.trans (hb8.mono HB7.out.size))))
            go_ret
            exact ⟨rfl, HB8.out⟩
        · rw [if_neg he] at h; cases h
      · rw [if_neg hl] at h; cases h
end Go.Proofs.Ytghlellambnkeaa.PAll
