-- By wip/late.py (a program of this session) out of wip/words.
import Derived.Test.YtghlellambnkeaaProg
import Derived.Test.YtghlellambnkeaaWWords
import Derived.Test.YtghlellambnkeaaWLast
import Derived.Test.YtghlellambnkeaaSMore0
import Derived.Test.YtghlellambnkeaaPAllx0
import Derived.Test.YtghlellambnkeaaPAllx3
import Derived.Test.YtghlellambnkeaaPAllx4
import Derived.Test.YtghlellambnkeaaPAllx8
import Derived.Test.YtghlellambnkeaaPAllx9
import Derived.Test.YtghlellambnkeaaPAllx10
import Derived.Test.YtghlellambnkeaaPAllx11
import Derived.Test.YtghlellambnkeaaSMergeA
import Derived.Test.YtghlellambnkeaaSMerge
import Derived.Test.YtghlellambnkeaaSMergeM
import Derived.Test.YtghlellambnkeaaSMergeDf
import Derived.Test.YtghlellambnkeaaSMergeLa
import Derived.Test.YtghlellambnkeaaSMergeAb
import Derived.Test.YtghlellambnkeaaSBeyond
import Derived.Test.YtghlellambnkeaaSCopied
import Derived.BigQuiet
import Derived.Deep.QuietTactic
import Derived.Lib.Hide
set_option linter.unusedVariables false
set_option linter.unusedSimpArgs false
namespace Go.Proofs.Ytghlellambnkeaa.PAll
open Go.RowKit Go.Proofs.YtghlellambnkeaaW.PrintWords Go.Proofs.Ytghlellambnkeaa.MergeW
def tidelinelaw09_MergeTells.f (k : Nat) (a b : List S44) : Option Bool := (tidelinelaw09_beyond.f k [a, b]).bind fun t => if t = true then some true else if a.length ≤ 2513169434843 ∧ b.length ≤ 2513169434843 then
  (merge_Max.f k a b).bind fun m => (tidelineref09_Max.f k a b).bind fun n => (tidelinelaw09_same.f k m.1 n.1).bind fun s1 => if m.2 = n.2 ∧ s1 = true then
  (merge_Differ.f k a b).bind fun d => (tidelineref09_Differ.f k a b).bind fun q => (tidelinelaw09_sameTexts.f k d.1 q.1).bind fun s2 => if d.2 = q.2 ∧ s2 = true then
  (merge_Lacks.f k a b).bind fun l => (tidelineref09_Lacks.f k a b).bind fun o => (tidelinelaw09_same.f k l.1 o.1).bind fun s3 => if l.2 = o.2 ∧ s3 = true then
  (merge_Above.f k a b).bind fun p => (tidelineref09_Above.f k a b).bind fun u => if p.1 = u.1 ∧ p.2 = u.2 then
  (tidelinelaw09_spoil.f k m.1).bind fun _ => (tidelinelaw09_spoil.f k l.1).bind fun _ => (tidelinelaw09_same.f k a a).bind fun s4 => (tidelinelaw09_same.f k b b).bind fun s5 => if s4 = true ∧ s5 = true then some true else none
  else none else none else none else none else none
theorem bind_get {α β : Type} {o : Option α} {g : α → Option β} {r : β} (h : o.bind g = some r) : ∃ x, o = some x ∧ g x = some r := Option.bind_eq_some_iff.1 h
theorem if_get {α : Type} {c : Prop} {i : Decidable c} {x : Option α} {r : α} (h : @ite _ c i x none = some r) : c ∧ x = some r := by
  cases i with
  | isTrue hc => exact ⟨hc, h⟩
  | isFalse hc => cases h
set_option maxRecDepth 100000 in
set_option maxHeartbeats 8000000 in
theorem tidelinelaw09_MergeTells.calls (k : Nat) (A0 : Option Addr) (c0 : Nat) (a : List S44) (A1 : Option Addr) (c1 : Nat) (b : List S44) (r : Bool) (w : World) (hr0 : Kd.C k44 w A0 a.length a) (hc0 : a.length ≤ c0) (hr1 : Kd.C k44 w A1 b.length b) (hc1 : b.length ≤ c1) (h : tidelinelaw09_MergeTells.f k a b = some r) :
    Calls Try.prog 11 #[.slice A0 a.length c0, .slice A1 b.length c1] w fun e w' => e = .returned (.bool r) ∧ Below w.heap.size w w' := by
  unfold tidelinelaw09_MergeTells.f at h
  have g_ := bind_get h; clear h; obtain ⟨t, hb, h⟩ := g_
  have Ab := Aside0.mk hb
  clear hb
  have RA := Aside0.mk hr0
  have RB := Aside0.mk hr1
  clear hr0 hr1
  cases t with
  | true =>
    obtain rfl : true = r := by simpa using h
    clear h
    go_enter Try.func11, Try.ntmps11
    go_wp2_with (go_at_call 12; refine (tidelinelaw09_beyond2.callsL k A0 c0 a A1 c1 b true _ RA.out hc0 RB.out hc1 Ab.out).mono ?_; rintro e w1 ⟨rfl, hb1⟩)
    go_ret
    exact ⟨rfl, (below_alloc (Below.refl _ _) _).trans (hb1.mono (by simp))⟩
  | false =>
    rw [if_neg (by decide)] at h
    have g_ := if_get h; clear h; obtain ⟨⟨la, lb⟩, h⟩ := g_
    have g_ := bind_get h; clear h; obtain ⟨⟨m, e1⟩, hm, h⟩ := g_
    have g_ := bind_get h; clear h; obtain ⟨⟨n, f1⟩, hn, h⟩ := g_
    have g_ := bind_get h; clear h; obtain ⟨s1, hs1, h⟩ := g_
    have g_ := if_get h; clear h; obtain ⟨⟨q1, q2⟩, h⟩ := g_
    dsimp only at q1; subst q1; subst q2
    have g_ := bind_get h; clear h; obtain ⟨⟨d, e2⟩, hd, h⟩ := g_
    have g_ := bind_get h; clear h; obtain ⟨⟨q, f2⟩, hq, h⟩ := g_
    have g_ := bind_get h; clear h; obtain ⟨s2, hs2, h⟩ := g_
    have g_ := if_get h; clear h; obtain ⟨⟨q1, q2⟩, h⟩ := g_
    dsimp only at q1; subst q1; subst q2
    have g_ := bind_get h; clear h; obtain ⟨⟨l, e3⟩, hl, h⟩ := g_
    have g_ := bind_get h; clear h; obtain ⟨⟨o, f3⟩, ho, h⟩ := g_
    have g_ := bind_get h; clear h; obtain ⟨s3, hs3, h⟩ := g_
    have g_ := if_get h; clear h; obtain ⟨⟨q1, q2⟩, h⟩ := g_
    dsimp only at q1; subst q1; subst q2
    have g_ := bind_get h; clear h; obtain ⟨⟨p, e4⟩, hp, h⟩ := g_
    have g_ := bind_get h; clear h; obtain ⟨⟨u, f4⟩, hu, h⟩ := g_
    have g_ := if_get h; clear h; obtain ⟨⟨q1, q2⟩, h⟩ := g_
    dsimp only at q1 q2; subst q1; subst q2
    have g_ := bind_get h; clear h; obtain ⟨_, hp1, h⟩ := g_
    have g_ := bind_get h; clear h; obtain ⟨_, hp2, h⟩ := g_
    have g_ := bind_get h; clear h; obtain ⟨s4, hs4, h⟩ := g_
    have g_ := bind_get h; clear h; obtain ⟨s5, hs5, h⟩ := g_
    have g_ := if_get h; clear h; obtain ⟨⟨q1, q2⟩, h⟩ := g_
    subst q1; subst q2
    obtain rfl : true = r := by simpa using h
    clear h
    have Am := Aside0.mk hm
    have An := Aside0.mk hn
    have A1s := Aside0.mk hs1
    have Ad := Aside0.mk hd
    have Aq := Aside0.mk hq
    have A2s := Aside0.mk hs2
    have Al := Aside0.mk hl
    have Ao := Aside0.mk ho
    have A3s := Aside0.mk hs3
    have Ap := Aside0.mk hp
    have Au := Aside0.mk hu
    have A1p := Aside0.mk hp1
    have A2p := Aside0.mk hp2
    have A4s := Aside0.mk hs4
    have A5s := Aside0.mk hs5
    clear hm hn hs1 hd hq hs2 hl ho hs3 hp hu hp1 hp2 hs4 hs5
    go_enter Try.func11, Try.ntmps11
    go_wp2_with (first
      | (go_at_call 12; refine (tidelinelaw09_beyond2.callsL k A0 c0 a A1 c1 b false _ RA.out hc0 RB.out hc1 Ab.out).mono ?_; rintro e w1 ⟨rfl, hb1⟩; have HB1 := Aside0.mk ((below_alloc (Below.refl w.heap.size w) _).trans (hb1.mono (by simp))); clear hb1)
      | (go_at_call 13; (with_reducible refine (copied_calls A0 c0 a _ (Kd.C_below RA.out HB1.out) hc0 la).mono ?_); rintro e w2 ⟨g, rfl, hg1, hg2, hR, hb2⟩; have HB2 := Aside0.mk (HB1.out.trans (hb2.mono HB1.out.size)); have RX2 := Aside0.mk hR; clear hR hb2 hg1 hg2 HB1)
      | (go_at_call 13; (with_reducible refine (copied_calls A1 c1 b _ (Kd.C_below RB.out HB2.out) hc1 lb).mono ?_); rintro e w3 ⟨g', rfl, hg1, hg2, hR, hb3⟩; have HB3 := Aside0.mk (HB2.out.trans (hb3.mono HB2.out.size)); have RY3 := Aside0.mk hR; have RX3 := Aside0.mk (RX2.out.below hb3); clear hR hb3 hg1 hg2 HB2 RX2)
      | (go_at_call 25; refine (merge_Max.calls k _ _ a _ _ b m e1 _ (RX3.out.slice (by omega)) (by omega) (RY3.out.slice (by omega)) (by omega) Am.out).mono ?_; rintro e w4 ⟨v4, rfl, hr4, hb4⟩; have HC4 := Aside0.mk hb4; have HM4 := Aside0.mk (Kd.R_mono (Kd.R_bound hr4) (ok' := fun j => j < w4.heap.size) (fun j hj => hj.2.2.1)); clear hb4 hr4; obtain ⟨Ax, cx, ex⟩ := Kd.R_slice HM4.out; subst ex)
      | (go_at_call 29; refine (tidelineref09_Max.calls k A0 c0 a A1 c1 b n e1 _ (Kd.C_below RA.out (HB3.out.trans (HC4.out.mono HB3.out.size))) hc0 (Kd.C_below RB.out (HB3.out.trans (HC4.out.mono HB3.out.size))) hc1 An.out).mono ?_; rintro e w5 ⟨v5, rfl, hr5, hb5⟩; have HC5 := Aside0.mk (HC4.out.trans (hb5.mono HC4.out.size)); have HM5 := Aside0.mk (Kd.R_below HM4.out hb5); have HN5 := Aside0.mk hr5; have HS5 := Aside0.mk hb5.size; clear hb5 hr5 HC4 HM4; obtain ⟨Ay, cy, ey⟩ := Kd.R_slice HN5.out; subst ey)
      | (go_at_call 20; (with_reducible refine (tidelinelaw09_same.calls k _ _ m _ _ n true _ (Kd.R_reads' HM5.out).2.2 (Kd.R_reads' HM5.out).2.1 (Kd.R_reads' HN5.out).2.2 (Kd.R_reads' HN5.out).2.1 A1s.out).mono ?_); rintro e w6 ⟨rfl, hd6⟩; have HC6 := Aside0.mk (HC5.out.trans (hd6.below.mono HC5.out.size)); have HM6 := Aside0.mk (Kd.R_below HM5.out hd6.below); have HS6 := Aside0.mk (Nat.le_trans HS5.out hd6.below.size); clear hd6 HC5 HM5 HN5)
      | (go_at_call 27; refine (merge_Differ.calls k _ _ a _ _ b d e2 _ ((RX3.out.below HC6.out).slice (by omega)) (by omega) ((RY3.out.below HC6.out).slice (by omega)) (by omega) Ad.out).mono ?_; rintro e w7 ⟨v7, rfl, hr7, hb7⟩; have HC7 := Aside0.mk (HC6.out.trans (hb7.mono HC6.out.size)); have HM7 := Aside0.mk (Kd.R_below HM6.out hb7); have HD7 := Aside0.mk hr7; have HS7 := Aside0.mk (Nat.le_trans HS6.out hb7.size); clear hb7 hr7 HC6 HM6; obtain ⟨Ad', cd', ed'⟩ := Kd.R_slice HD7.out; subst ed')
      | (go_at_call 30; refine (tidelineref09_Differ.calls k A0 c0 a A1 c1 b q e2 _ (Kd.C_below RA.out (HB3.out.trans (HC7.out.mono HB3.out.size))) hc0 (Kd.C_below RB.out (HB3.out.trans (HC7.out.mono HB3.out.size))) hc1 Aq.out).mono ?_; rintro e w8 ⟨v8, rfl, hr8, hb8⟩; have HC8 := Aside0.mk (HC7.out.trans (hb8.mono HC7.out.size)); have HM8 := Aside0.mk (Kd.R_below HM7.out hb8); have HD8 := Aside0.mk (Kd.R_below HD7.out hb8); have HQ8 := Aside0.mk hr8; have HS8 := Aside0.mk (Nat.le_trans HS7.out hb8.size); clear hb8 hr8 HC7 HM7 HD7; obtain ⟨Aq', cq', eq'⟩ := Kd.R_slice HQ8.out; subst eq')
      | (go_at_call 31; refine (tidelinelaw09_sameTexts.calls k _ _ d _ _ q true _ (Kd.R_reads' HD8.out).2.2 (Kd.R_reads' HD8.out).2.1 (Kd.R_reads' HQ8.out).2.2 (Kd.R_reads' HQ8.out).2.1 A2s.out).mono ?_; rintro e w9 ⟨rfl, hd9⟩; have HC9 := Aside0.mk (HC8.out.trans (hd9.below.mono HC8.out.size)); have HM9 := Aside0.mk (Kd.R_below HM8.out hd9.below); have HS9 := Aside0.mk (Nat.le_trans HS8.out hd9.below.size); clear hd9 HC8 HM8 HD8 HQ8)
      | (go_at_call 28; refine (merge_Lacks.calls k _ _ a _ _ b l e3 _ ((RX3.out.below HC9.out).slice (by omega)) (by omega) ((RY3.out.below HC9.out).slice (by omega)) (by omega) Al.out).mono ?_; rintro e wA ⟨vA, rfl, hrA, hbA⟩; have HL := Aside0.mk HM9.out; have HCA := Aside0.mk (HC9.out.trans (hbA.mono HC9.out.size)); have HMA := Aside0.mk (Kd.R_below HM9.out hbA); have HLA := Aside0.mk (Kd.R_mono (Kd.R_bound hrA) (ok' := fun j => w9.heap.size ≤ j) (fun j hj => hj.2.1)); have HZ := Aside0.mk HC9.out.size; clear hbA hrA HC9 HM9; obtain ⟨Al', cl', el'⟩ := Kd.R_slice HLA.out; subst el')
      | (go_at_call 32; refine (tidelineref09_Lacks.calls k A0 c0 a A1 c1 b o e3 _ (Kd.C_below RA.out (HB3.out.trans (HCA.out.mono HB3.out.size))) hc0 (Kd.C_below RB.out (HB3.out.trans (HCA.out.mono HB3.out.size))) hc1 Ao.out).mono ?_; rintro e wB ⟨vB, rfl, hrB, hbB⟩; have HCB := Aside0.mk (HCA.out.trans (hbB.mono HCA.out.size)); have HMB := Aside0.mk (Kd.R_below HMA.out hbB); have HLB := Aside0.mk (Kd.R_below HLA.out hbB); have HOB := Aside0.mk hrB; clear hbB hrB HCA HMA HLA; obtain ⟨Ao', co', eo'⟩ := Kd.R_slice HOB.out; subst eo')
      | (go_at_call 20; (with_reducible refine (tidelinelaw09_same.calls k _ _ l _ _ o true _ (Kd.R_reads' HLB.out).2.2 (Kd.R_reads' HLB.out).2.1 (Kd.R_reads' HOB.out).2.2 (Kd.R_reads' HOB.out).2.1 A3s.out).mono ?_); rintro e wC ⟨rfl, hdC⟩; have HCC := Aside0.mk (HCB.out.trans (hdC.below.mono HCB.out.size)); have HMC := Aside0.mk (Kd.R_below HMB.out hdC.below); have HLC := Aside0.mk (Kd.R_below HLB.out hdC.below); clear hdC HCB HMB HLB HOB)
      | (go_at_call 26; refine (merge_Above.calls k _ _ a _ _ b p e4 _ ((RX3.out.below HCC.out).slice (by omega)) (by omega) ((RY3.out.below HCC.out).slice (by omega)) (by omega) Ap.out).mono ?_; rintro e wD ⟨rfl, hbD⟩; have HCD := Aside0.mk (HCC.out.trans (hbD.mono HCC.out.size)); have HMD := Aside0.mk (Kd.R_below HMC.out hbD); have HLD := Aside0.mk (Kd.R_below HLC.out hbD); clear hbD HCC HMC HLC)
      | (go_at_call 33; refine (tidelineref09_Above.calls k A0 c0 a A1 c1 b p e4 _ (Kd.C_below RA.out (HB3.out.trans (HCD.out.mono HB3.out.size))) hc0 (Kd.C_below RB.out (HB3.out.trans (HCD.out.mono HB3.out.size))) hc1 Au.out).mono ?_; rintro e wE ⟨rfl, hbE⟩; have HCE := Aside0.mk (HCD.out.trans (hbE.mono HCD.out.size)); have HME := Aside0.mk (Kd.R_below HMD.out hbE); have HLE := Aside0.mk (Kd.R_below HLD.out hbE); clear hbE HCD HMD HLD)
      | (go_at_call 21; (with_reducible refine (tidelinelaw09_spoil.calls k _ _ m w3 _ HCE.out HME.out A1p.out).mono ?_); rintro e wF ⟨rfl, hbF, hkF⟩; have HCF := Aside0.mk hbF; have HLF := Aside0.mk (Kd.R_step HLE.out (fun j (hj : w9.heap.size ≤ j) hlt => hkF.2 j hlt (fun (hz : j < w4.heap.size) => by have := HS9.out; omega))); clear hbF hkF HCE HME HLE)
      | (go_at_call 21; (with_reducible refine (tidelinelaw09_spoil.calls k _ _ l w3 _ HCF.out (Kd.R_lower HLF.out HZ.out) A2p.out).mono ?_); rintro e wG ⟨rfl, hbG, hkG⟩; have HCG := Aside0.mk hbG; clear hbG hkG HCF HLF)
      | (go_at_call 16; (with_reducible refine (kept_calls k g A0 c0 a _ (RX3.out.below HCG.out) (Kd.C_below RA.out (HB3.out.trans (HCG.out.mono HB3.out.size))) hc0 la A4s.out).mono ?_); rintro e wH ⟨rfl, hbH⟩; have HCH := Aside0.mk (HCG.out.trans (hbH.mono HCG.out.size)); clear hbH HCG)
      | (go_at_call 16; (with_reducible refine (kept_calls k g' A1 c1 b _ (RY3.out.below HCH.out) (Kd.C_below RB.out (HB3.out.trans (HCH.out.mono HB3.out.size))) hc1 lb A5s.out).mono ?_); rintro e wI ⟨rfl, hbI⟩; have HCI := Aside0.mk (HCH.out.trans (hbI.mono HCH.out.size)); clear hbI HCH))
    go_ret
    exact ⟨rfl, HB3.out.trans (HCI.out.mono HB3.out.size)⟩
end Go.Proofs.Ytghlellambnkeaa.PAll
