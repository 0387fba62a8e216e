-- By wip/late.py (a program of this session) out of wip/words.
import Derived.Test.YtgdhgamolenfgaaProg
import Derived.Test.YtgdhgamolenfgaaWWords
import Derived.Test.YtgdhgamolenfgaaWLast
import Derived.Test.YtgdhgamolenfgaaWMore
import Derived.Test.YtgdhgamolenfgaaPAllx0
import Derived.Test.YtgdhgamolenfgaaPAllx2
import Derived.Test.YtgdhgamolenfgaaPAllx5
import Derived.Test.YtgdhgamolenfgaaPAllx6
import Derived.Test.YtgdhgamolenfgaaSSpRows
import Derived.RangeFuncBox
import Derived.Maps.AppendAt
import Derived.Deep.AppendSrc
import Derived.Deep.Upon
import Derived.BigQuiet
import Derived.Deep.QuietTactic
import Derived.Deep.RegionHeld
import Derived.Deep.RegionHeld3
import Derived.Deep.RegionHeldLaw
import Derived.Deep.RegionLaw
import Derived.Lib.Hide
import Derived.Tactics
import Derived.WalkKit
import Derived.OwnWalk
import Derived.Test.YtgdhgamolenfgaaSGlob
set_option linter.unusedVariables false
set_option linter.unusedSimpArgs false
namespace Go.Proofs.Ytgdhgamolenfgaa.PAll
open Go.RowKit Go.Proofs.YtgdhgamolenfgaaW.PrintWords Go.Proofs.YtgdhgamolenfgaaW.PrintLast Go.Proofs.YtgdhgamolenfgaaW.PrintMore Go.Proofs.Ytgdhgamolenfgaa.Wr
open Classical in
noncomputable def tidelinelaw02_SpanSplits.f (k : Nat) (a0_0 : ByteArray) (a0_1 : ByteArray) (a0_2 : Bool) (l1 : List ByteArray) : Option Bool := (tidelinelaw02_shown.f k).bind fun s => if s = true then (span_Split.f k a0_0 a0_1 a0_2 l1).bind fun p => if tidelineref02_Split.f k a0_0 a0_1 a0_2 l1 = some p ∧ tidelinelaw02_ranges.f k p.1 p.1 = some true ∧ l1.length ≤ 1099511627776 ∧ p.1.length ≤ 1099511627776 then some true else none else none
theorem threeR {W : World} {g : Nat} {x : S23} (h : W.heap[g]? = some (.cells #[.string x.f0, .string x.f1, .bool x.f2] 23 (0, 0))) : W.cell? ⟨g, 0, none⟩ = some (.string x.f0) ∧ W.cell? ⟨g, 1, none⟩ = some (.string x.f1) ∧ W.cell? ⟨g, 2, none⟩ = some (.bool x.f2) :=
  ⟨(blk_cell h 0).trans rfl, (blk_cell h 1).trans rfl, (blk_cell h 2).trans rfl⟩
theorem sv_R {W : World} {base : Nat} {A : Option Addr} {c : Nat} {l : List ByteArray} {n : Nat} (hn : l.length = n) (h : W.ownsRow base 9 1 (.slice A n c) n (sv l)) : Kd.R Kd.string 9 W base (fun _ => True) (.slice A n c) l := by
  subst hn
  exact Kd.R_of_own (enc := Value.string) (h1 := fun _ => rfl) h (fun _ _ => trivial)
theorem take_two (l : List ByteArray) (s t : ByteArray) : (l ++ [s, t]).take l.length = l := List.take_left
theorem two_len (l : List ByteArray) (s t : ByteArray) : (l ++ [s, t]).length = l.length + 2 := by simp
/-- What own holds in the loop. -/
def ownL (l1 : List ByteArray) (i : Nat) : List ByteArray := List.replicate i (⟨#[116, 117, 114, 110, 101, 100]⟩ : ByteArray) ++ (l1.drop i ++ [(⟨#[115, 112, 97, 114, 101]⟩ : ByteArray), (⟨#[114, 111, 111, 109]⟩ : ByteArray)])
theorem ownL_zero (l1 : List ByteArray) : ownL l1 0 = l1 ++ [(⟨#[115, 112, 97, 114, 101]⟩ : ByteArray), (⟨#[114, 111, 111, 109]⟩ : ByteArray)] := rfl
theorem ownL_len (l1 : List ByteArray) {i : Nat} (h : i ≤ l1.length) : (ownL l1 i).length = l1.length + 2 := by simp [ownL]; omega
theorem ownL_get (l1 : List ByteArray) {i : Nat} (h : i < l1.length) : rdOf ByteArray.empty (ownL l1 i) (i : Int) = rdOf ByteArray.empty l1 (i : Int) := by
  simp only [rdOf, Int.toNat_natCast, List.getD_eq_getElem?_getD, ownL]
  rw [List.getElem?_append_right (by simp), List.length_replicate, Nat.sub_self, List.getElem?_append_left (by simp; omega), List.getElem?_drop, Nat.add_zero]
theorem ownL_set (l1 : List ByteArray) {i : Nat} (h : i < l1.length) : (ownL l1 i).set i (⟨#[116, 117, 114, 110, 101, 100]⟩ : ByteArray) = ownL l1 (i + 1) := by
  unfold ownL
  rw [List.set_append_right _ _ (by simp), List.length_replicate, Nat.sub_self, List.drop_eq_getElem_cons h, List.cons_append, List.set_cons_zero, List.replicate_succ', List.append_assoc]
  rfl
theorem ownL_end (l1 : List ByteArray) : rdOf ByteArray.empty (ownL l1 l1.length) (l1.length : Int) = (⟨#[115, 112, 97, 114, 101]⟩ : ByteArray) ∧ rdOf ByteArray.empty (ownL l1 l1.length) ((l1.length + 1 : Nat) : Int) = (⟨#[114, 111, 111, 109]⟩ : ByteArray) := by
  simp only [rdOf, Int.toNat_natCast, List.getD_eq_getElem?_getD, ownL, List.drop_length, List.nil_append]
  rw [List.getElem?_append_right (by simp), List.getElem?_append_right (by simp)]
  simp
set_option maxRecDepth 100000 in
set_option maxHeartbeats 8000000 in
theorem splits_walk (k : Nat) (x : S23) (A1 : Option Addr) (c1 : Nat) (l1 : List ByteArray) (L : List S23) (er : Int) (w : World) (hr1 : Kd.C Kd.string w A1 l1.length l1) (hc1 : l1.length ≤ c1) (hG : Glob.GlobOK w) (hs : tidelinelaw02_shown.f k = some true) (h1 : span_Split.f k x.f0 x.f1 x.f2 l1 = some (L, er)) (h2 : tidelineref02_Split.f k x.f0 x.f1 x.f2 l1 = some (L, er)) (h3 : tidelinelaw02_ranges.f k L L = some true) (h4 : l1.length ≤ 1099511627776) (h5 : L.length ≤ 1099511627776) :
    Calls Try.prog 4 #[.agg #[.string x.f0, .string x.f1, .bool x.f2], .slice A1 l1.length c1] w fun e w' => e = .returned (.bool true) ∧ Below w.heap.size w w' := by
  have HC := Aside0.mk hr1
  have HG := Aside0.mk hG
  have KS := Aside0.mk hs
  have K1 := Aside0.mk h1
  have K2 := Aside0.mk h2
  have K3 := Aside0.mk h3
  have K4 := Aside0.mk (And.intro h4 h5)
  clear hr1 hG hs h1 h2 h3 h4 h5
  obtain ⟨i0, hi, hz0, hz1, hz2⟩ := infoS
  have HI := Aside0.mk hi
  clear hz0 hz1 hz2 hi
  go_enter Try.func4, Try.ntmps4
  go_wp2_with (first
    | ((with_reducible refine gate_dst (N := 2) rfl ?_); refine box_event ?hg (N := 2) ?hd (cs := #[.string x.f0, .string x.f1, .bool x.f2]) (t := 23) ?hr ?_; (case hd => rfl); (case hg => rfl); (case hr => first | (go_simp; done) | (go_simp; rfl)); intro gb egb w0 hbox hb0; have HX0 := Aside0.mk hbox; have HB0 := Aside0.mk hb0; have HC0 := Aside0.mk (Kd.C_below HC.out hb0); clear hbox hb0 egb)
    | (go_at_call 11; refine (tidelinelaw02_shown.calls k true _ (Glob.GlobOK.below HG.out HB0.out) KS.out).mono ?_; rintro e ws ⟨rfl, hbs⟩; have HBs := Aside0.mk hbs; obtain ⟨Aa, ca, wa, hra, ha, hba⟩ := copy_run (c := c1) (Kd.C_below HC0.out hbs) (by have := K4.out.1; omega); have HBa := Aside0.mk (hbs.trans (hba.mono hbs.size)); obtain ⟨go, co, w3, hr3, ho3, hb3⟩ := more_run (⟨#[115, 112, 97, 114, 101]⟩ : ByteArray) (⟨#[114, 111, 111, 109]⟩ : ByteArray) ha hba.size (by have := K4.out.1; omega); have HO3 := Aside0.mk ho3; have HB3 := Aside0.mk (hbs.trans ((hba.trans hb3).mono hbs.size)); have HS3 := Aside0.mk hbs.size; clear hbs ha hba ho3 hb3)
    | ((with_reducible refine gate_dst (N := 25) rfl ?_); refine Lib.wpList_append_run _ rfl _ _ 29 29 rfl _ _ rfl rfl _ _ (hra _) ?_)
    | ((with_reducible refine gate_dst (N := 27) rfl ?_); refine Lib.wpList_append_run _ rfl _ _ 29 29 rfl _ _ rfl rfl _ _ (hr3 _) ?_))
  have HCO : Aside0 (Kd.C Kd.string w3 (some ⟨go, 0, none⟩) l1.length l1) := ⟨by
    have hR := sv_R (two_len l1 (⟨#[115, 112, 97, 114, 101]⟩ : ByteArray) (⟨#[114, 111, 111, 109]⟩ : ByteArray)) HO3.out
    have hC := (Kd.R_reads' hR).2.2
    rw [two_len] at hC
    have hT := Kd.C_take (m := l1.length) (by rw [two_len]; exact hC) (by rw [two_len]; omega)
    rw [take_two] at hT
    exact hT⟩
  have HCc : Aside0 (l1.length + 2 ≤ co) := ⟨(Kd.R_reads' (sv_R (two_len l1 (⟨#[115, 112, 97, 114, 101]⟩ : ByteArray) (⟨#[114, 111, 111, 109]⟩ : ByteArray)) HO3.out)).2.1⟩
  have hcut := cut_to (P := Try.prog) 29 9 .i64 Try.underlying29 HI.out (some ⟨go, 0, none⟩) (l1.length + 2) co (l1.length : Int) (Int.natCast_nonneg _) (by omega) HCc.out
  simp only [Int.toNat_natCast] at hcut
  obtain ⟨x0, x1, x2⟩ := threeR (blk_below HX0.out HB3.out)
  have HBd := Aside0.mk (HB3.out.trans ((Drawn0.below (w := w3) (w' := w3.drew) ⟨⟨1, rfl⟩⟩).mono HB3.out.size))
  have HCd := Aside0.mk (Kd.C_below HCO.out (Drawn0.below (w := w3) (w' := w3.drew) ⟨⟨1, rfl⟩⟩))
  have HOd := Aside0.mk (pw_own_below HO3.out (Drawn0.below (w := w3) (w' := w3.drew) ⟨⟨1, rfl⟩⟩))
  obtain ⟨xd0, xd1, xd2⟩ := threeR (blk_below HX0.out HBd.out)
  go_region_held3 (fun W => W.cell? ⟨gb, 0, none⟩ = some (.string x.f0) ∧ W.cell? ⟨gb, 1, none⟩ = some (.string x.f1) ∧ W.cell? ⟨gb, 2, none⟩ = some (.bool x.f2)) (first | exact threeR (blk_below HX0.out HB4.out) | exact ⟨xd0, xd1, xd2⟩)
    (first
      | (go_at_call 18; refine (span_Split.calls k x.f0 x.f1 x.f2 (some ⟨go, 0, none⟩) co l1 L er _ HCd.out (by have := HCc.out; omega) K1.out).mono ?_; rintro e w4 ⟨v4, rfl, hr4, hb4⟩; have HR4 := Aside0.mk (rv_of_R hr4); have HLt4v := Aside0.mk (own_ltv (rv_of_R hr4)); have HB4 := Aside0.mk (HBd.out.trans (hb4.mono HBd.out.size)); have HO4 := Aside0.mk (pw_own_below HOd.out hb4); have HS4 := Aside0.mk hb4.size; obtain ⟨A4, c4, rfl⟩ := Kd.R_slice hr4; have HLt4 := Aside0.mk HLt4v.out; have HL4 := Aside0.mk (Kd.R_reads' hr4); clear hr4 hb4))
  clear x0 x1 x2 xd0 xd1 xd2
  obtain ⟨x0, x1, x2⟩ := threeR (blk_below HX0.out HB4.out)
  go_wp2_with (first
    | (go_at_call 19; refine (tidelineref02_Split.calls k x.f0 x.f1 x.f2 A1 c1 l1 L er _ (Kd.C_below HC0.out HB4.out) hc1 K2.out).mono ?_; rintro e w5 ⟨v5, rfl, hr5, hb5⟩; have HR5 := Aside0.mk (rv_of_R hr5); have HLt5v := Aside0.mk (own_ltv (rv_of_R hr5)); have HB5 := Aside0.mk (HB4.out.trans (hb5.mono HB4.out.size)); have HO5 := Aside0.mk (pw_own_below HO4.out hb5); have HP5 := Aside0.mk (pw_own_below HR4.out hb5); have HLC5 := Aside0.mk (Kd.C_below HL4.out.2.2 hb5); have HS5 := Aside0.mk hb5.size; obtain ⟨A5, c5, rfl⟩ := Kd.R_slice hr5; have HLt5 := Aside0.mk HLt5v.out; have HW5 := Aside0.mk (Kd.R_reads' hr5); clear hr5 hb5 x0 x1 x2)
    | (go_at_call 20; refine (tidelinelaw02_ranges.calls k A4 c4 L A5 c5 L true _ HLC5.out HL4.out.2.1 HW5.out.2.2 HW5.out.2.1 K3.out).mono ?_; rintro e w6 ⟨rfl, hd6⟩; have HB6 := Aside0.mk (HB5.out.trans (hd6.below.mono HB5.out.size)); have HO6 := Aside0.mk (pw_own_below HO5.out hd6.below); have HP6 := Aside0.mk (pw_own_below HP5.out hd6.below); have HQ6 := Aside0.mk (pw_own_below HR5.out hd6.below); have HS6 := Aside0.mk hd6.below.size; clear hd6))
  go_loopw [54] (fun s54 wr => ∃ (i : Nat), s54 = .int .i64 (i : Int) ∧ i ≤ l1.length ∧ wr.ownsRow ws.heap.size 9 1 (.slice (some ⟨go, 0, none⟩) (l1.length + 2) co) (l1.length + 2) (sv (ownL l1 i)) ∧ Below w0.heap.size w0 wr ∧ (∀ k, k < w6.heap.size → k ≠ go → wr.heap[k]? = w6.heap[k]?) ∧ w6.heap.size ≤ wr.heap.size) (fun s54 _ => l1.length - (intOf s54).toNat)
  case atStart => exact ⟨0, rfl, by omega, HO6.out, HB6.out, fun _ _ _ => rfl, Nat.le_refl _⟩
  case round =>
    obtain ⟨i, rfl, hi, ho, hbw, hkw, hsw⟩ := hrel
    have HO := Aside0.mk ho
    have HBw := Aside0.mk hbw
    have HKw := Aside0.mk hkw
    have HSw := Aside0.mk hsw
    clear ho hbw hkw hsw
    have HG1 := Aside0.mk (own_at_g HO.out)
    by_cases h1 : i < l1.length
    · have b1 : decide (i < l1.length) = true := decide_eq_true h1
      have b2 : decide ((i : Int) < (l1.length : Int)) = true := decide_eq_true (by omega)
      obtain ⟨y0, y1⟩ := sv_at (ownL_len l1 hi) HO.out i (by omega)
      rw [ownL_get l1 h1] at y0
      obtain ⟨ad, rfl, z0⟩ := Kd.at_string (Kd.C_below HC0.out HBw.out) (i : Int) (Int.natCast_nonneg i) (by omega)
      simp only [Int.toNat_natCast] at z0
      obtain ⟨b, hb⟩ : ∃ b, rdOf ByteArray.empty l1 (i : Int) = b := ⟨_, rfl⟩
      rw [hb] at y0 z0
      have p0 : (0 ≤ (i : Int)) = True := eq_true (Int.natCast_nonneg i)
      have q0 : ((i : Int) < (l1.length : Int)) = True := eq_true (by omega)
      have q1 : ((i : Int) < ((l1.length + 2 : Nat) : Int)) = True := eq_true (by omega)
      have q2 : ((i : Int) < (l1.length : Int) + 2) = True := eq_true (by omega)
      have hw64 : wrap64 ((i : Int) + 1) = ((i + 1 : Nat) : Int) := by have := K4.out.1; unfold wrap64; omega
      have H1 := Aside0.mk h1
      clear hb h1
      go_wp2_with (first | (go_quiet (fail)))
      refine ⟨⟨i + 1, by rw [hw64], by have := H1.out; omega, ?_, ?_, ?_, ?_⟩, ?_⟩
      · rw [← ownL_set l1 H1.out]
        exact sv_put (ownL_len l1 hi) (pw_own_drewN HO.out nq) i _
      · exact (HBw.out.trans ((Drawn0.below (w := wr) (w' := wr.drewN nq) ⟨⟨nq, rfl⟩⟩).mono HBw.out.size)).setCell (p := ⟨go, i, none⟩) (Nat.le_trans HS3.out HG1.out.1) _
      · exact fun k hk hne => (Below.heap_setCell _ ⟨go, i, none⟩ _ k hne).trans (HKw.out k hk hne)
      · have := HSw.out
        simpa using this
      · have := H1.out
        rw [hw64]
        simp only [intOf]
        omega
    · have b1 : decide (i < l1.length) = false := decide_eq_false h1
      have b2 : decide ((i : Int) < (l1.length : Int)) = false := decide_eq_false (by omega)
      obtain rfl : i = l1.length := by omega
      obtain ⟨y0, y1⟩ := sv_at (ownL_len l1 (Nat.le_refl _)) HO.out l1.length (by omega)
      obtain ⟨u0, u1⟩ := sv_at (ownL_len l1 (Nat.le_refl _)) HO.out (l1.length + 1) (by omega)
      obtain ⟨e1, e2⟩ := ownL_end l1
      rw [e1] at y0
      rw [e2] at u0
      have hwn : wrap64 ((l1.length : Int) + 1) = ((l1.length + 1 : Nat) : Int) := by have := K4.out.1; unfold wrap64; omega
      have q1 : ((l1.length : Int) < ((l1.length + 2 : Nat) : Int)) = True := eq_true (by omega)
      have q2 : ((l1.length : Int) < (l1.length : Int) + 2) = True := eq_true (by omega)
      have q3 : (((l1.length + 1 : Nat) : Int) < (l1.length : Int) + 2) = True := eq_true (by omega)
      have q4 : ((l1.length : Int) + 1 < (l1.length : Int) + 2) = True := eq_true (by omega)
      have p0 : (0 ≤ (l1.length : Int)) = True := eq_true (Int.natCast_nonneg _)
      have p1 : (0 ≤ (l1.length : Int) + 1) = True := eq_true (by omega)
      have HGo := Aside0.mk (own_at_g HO3.out).2
      have HPr := Aside0.mk (own_keepg HP6.out (g := go) HGo.out HKw.out)
      have HQr := Aside0.mk (own_keepg HQ6.out (g := go) (Nat.lt_of_lt_of_le HGo.out HS4.out) HKw.out)
      have HPC := Aside0.mk (Kd.R_reads' (rv_R rfl HPr.out)).2.2
      have HQC := Aside0.mk (Kd.R_reads' (rv_R rfl HQr.out)).2.2
      clear e1 e2 HO HO6 HO5 HO4 HOd HP6 HQ6 HP5 HR4 HR5 hcut
      go_wp2_with (first
        | (go_at_call 20; refine (tidelinelaw02_ranges.calls k A4 c4 L A5 c5 L true _ HPC.out HL4.out.2.1 HQC.out HW5.out.2.1 K3.out).mono ?_; rintro e w8 ⟨rfl, hd8⟩; have HB8 := Aside0.mk (HBw.out.trans (hd8.below.mono HBw.out.size)); have HP8 := Aside0.mk (pw_own_below HPr.out hd8.below); have HQ8 := Aside0.mk (pw_own_below HQr.out hd8.below); have HS8 := Aside0.mk (Nat.le_trans HSw.out hd8.below.size); clear hd8 y0 y1 u0 u1))
      have HBe := Aside0.mk (HB8.out.trans ((Drawn0.below (w := w8) (w' := w8.drew) ⟨⟨1, rfl⟩⟩).mono HB8.out.size))
      have HPe := Aside0.mk (pw_own_below HP8.out (Drawn0.below (w := w8) (w' := w8.drew) ⟨⟨1, rfl⟩⟩))
      have HQe := Aside0.mk (pw_own_below HQ8.out (Drawn0.below (w := w8) (w' := w8.drew) ⟨⟨1, rfl⟩⟩))
      obtain ⟨A9, c9, w9, hr9, h9, hb9⟩ := copy_run (w := w8.drew) (c := c1) (Kd.C_below HC0.out HBe.out) (by have := K4.out.1; omega)
      have HB9 := Aside0.mk (HBe.out.trans (hb9.mono HBe.out.size))
      have HP9 := Aside0.mk (pw_own_below HPe.out hb9)
      have HQ9 := Aside0.mk (pw_own_below HQe.out hb9)
      have HN9 := Aside0.mk (Kd.R_reads' (sv_R rfl h9)).2
      have HSe := Aside0.mk hb9.size
      clear hb9 h9
      obtain ⟨xd0, xd1, xd2⟩ := threeR (blk_below HX0.out HBe.out)
      go_region_held_law (fun W => W.cell? ⟨gb, 0, none⟩ = some (.string x.f0) ∧ W.cell? ⟨gb, 1, none⟩ = some (.string x.f1) ∧ W.cell? ⟨gb, 2, none⟩ = some (.bool x.f2)) (first | exact threeR (blk_below HX0.out HB10.out) | exact ⟨xd0, xd1, xd2⟩ | exact threeR (blk_below HX0.out HB9.out))
        (first
          | (refine step_run rfl _ _ rfl (by first | rfl | (simp [Act.eval, Act.put]; done) | (simp [Act.eval, Act.put]; rfl)) (by first | rfl | (simp [Act.eval, Act.put]; done) | (simp [Act.eval, Act.put]; rfl)) hr9 ?_)
          | (go_at_call 18; refine (span_Split.calls k x.f0 x.f1 x.f2 A9 c9 l1 L er _ HN9.out.2 HN9.out.1 K1.out).mono ?_; rintro e w10 ⟨v10, rfl, hr10, hb10⟩; have HR10 := Aside0.mk (rv_of_R hr10); have HB10 := Aside0.mk (HB9.out.trans (hb10.mono HB9.out.size)); have HP10 := Aside0.mk (pw_own_below HP9.out hb10); have HQ10 := Aside0.mk (pw_own_below HQ9.out hb10); have HS10 := Aside0.mk hb10.size; obtain ⟨A10, c10, rfl⟩ := Kd.R_slice hr10; have HL10 := Aside0.mk (Kd.R_reads' hr10); clear hr10 hb10))
      have HQC10 := Aside0.mk (Kd.R_reads' (rv_R rfl HQ10.out)).2.2
      go_wp2_with (first
        | (go_at_call 20; refine (tidelinelaw02_ranges.calls k A10 c10 L A5 c5 L true _ HL10.out.2.2 HL10.out.2.1 HQC10.out HW5.out.2.1 K3.out).mono ?_; rintro e w11 ⟨rfl, hd11⟩; have HS11 := Aside0.mk hd11.below.size; have HB11 := Aside0.mk (HB10.out.trans (hd11.below.mono HB10.out.size)); have HP11 := Aside0.mk (pw_own_below HP10.out hd11.below); have HQ11 := Aside0.mk (pw_own_below HQ10.out hd11.below); have HR11 := Aside0.mk (pw_own_below HR10.out hd11.below); clear hd11))
      have HLl : Aside0 (∀ k, (Value.slice A4 L.length c4).ownBlock = some k → k < w4.heap.size) := ⟨HLt4.out⟩
      have HLw : Aside0 (∀ k, (Value.slice A5 L.length c5).ownBlock = some k → k < w5.heap.size) := ⟨HLt5.out⟩
      have HLk : Aside0 (∀ k, (Value.slice A10 L.length c10).ownBlock = some k → w9.heap.size ≤ k) := ⟨own_basev HR11.out⟩
      have H49 : Aside0 (w4.heap.size ≤ w9.heap.size ∧ w5.heap.size ≤ w9.heap.size) := ⟨by
        have a1 := HS5.out; have a2 := HS6.out; have a3 := HS8.out; have a4 := HSe.out
        simp at a4
        exact ⟨by omega, by omega⟩⟩
      go_loopw [109] (fun s109 wrB => ∃ (i : Nat), s109 = .int .i64 (i : Int) ∧ i ≤ L.length ∧ wrB.ownsRow w3.drew.heap.size 23 3 (.slice A4 L.length c4) L.length (rv (repL ⟨⟨#[108]⟩, ⟨#[]⟩, false⟩ L i)) ∧ Below w0.heap.size w0 wrB ∧ (∀ k, k < w11.heap.size → some k ≠ (Value.slice A4 L.length c4).ownBlock → wrB.heap[k]? = w11.heap[k]?) ∧ w11.heap.size ≤ wrB.heap.size) (fun s109 _ => L.length - (intOf s109).toNat)
      case atStart => exact ⟨0, rfl, by omega, HP11.out, HB11.out, fun _ _ _ => rfl, Nat.le_refl _⟩
      case round =>
        rename World => wrB
        obtain ⟨i, rfl, hi, ho, hbw, hkw, hsw⟩ := hrel
        have HO109 := Aside0.mk ho
        have HBw109 := Aside0.mk hbw
        have HKw109 := Aside0.mk hkw
        have HSw109 := Aside0.mk hsw
        clear ho hbw hkw hsw
        by_cases h1 : i < L.length
        · have b1 : decide (i < L.length) = true := decide_eq_true h1
          have b2 : decide ((i : Int) < (L.length : Int)) = true := decide_eq_true (by omega)
          obtain ⟨g4, rfl⟩ : ∃ g, A4 = some ⟨g, 0, none⟩ := by
            rcases HO109.out.2 with ⟨e1, e2⟩ | ⟨g, cap, cur, e1, _⟩
            · omega
            · cases e1; exact ⟨g, rfl⟩
          obtain ⟨u, hu, y0, y1, y2, z0, z1, z2⟩ := rv_at3 HO109.out i (by rw [repL_len _ _ hi]; exact h1)
          have p0 : (0 ≤ (i : Int)) = True := eq_true (Int.natCast_nonneg i)
          have q0 : ((i : Int) < (L.length : Int)) = True := eq_true (by omega)
          have hw64 : wrap64 ((i : Int) + 1) = ((i + 1 : Nat) : Int) := by have := K4.out.2; unfold wrap64; omega
          have H1 := Aside0.mk h1
          have HN := Aside0.mk (rv_round (x := ⟨⟨#[108]⟩, ⟨#[]⟩, false⟩) HO109.out h1 HBw109.out (by have := HB3.out.size; simpa using this) HKw109.out HSw109.out)
          clear h1 hu
          go_wp2
          refine ⟨⟨i + 1, by rw [hw64], by have := H1.out; omega, HN.out.1, HN.out.2.1, HN.out.2.2.1, HN.out.2.2.2⟩, ?_⟩
          have := H1.out
          rw [hw64]
          simp only [intOf]
          omega
        · have b1 : decide (i < L.length) = false := decide_eq_false h1
          have b2 : decide ((i : Int) < (L.length : Int)) = false := decide_eq_false (by omega)
          obtain rfl : i = L.length := by omega
          have HQb := Aside0.mk (own_keepv HQ11.out (u := .slice A4 L.length c4) HLl.out HKw109.out)
          have HKb := Aside0.mk (own_keepv HR11.out (u := .slice A4 L.length c4) (fun k hk => Nat.lt_of_lt_of_le (HLl.out k hk) H49.out.1) HKw109.out)
          go_wp2
          go_loopw [119] (fun s119 wrC => ∃ (i : Nat), s119 = .int .i64 (i : Int) ∧ i ≤ L.length ∧ wrC.ownsRow w9.heap.size 23 3 (.slice A10 L.length c10) L.length (rv (repL ⟨⟨#[107]⟩, ⟨#[]⟩, false⟩ L i)) ∧ Below w0.heap.size w0 wrC ∧ (∀ k, k < wrB.heap.size → some k ≠ (Value.slice A10 L.length c10).ownBlock → wrC.heap[k]? = wrB.heap[k]?) ∧ wrB.heap.size ≤ wrC.heap.size) (fun s119 _ => L.length - (intOf s119).toNat)
          case atStart => exact ⟨0, rfl, by omega, HKb.out, HBw109.out, fun _ _ _ => rfl, Nat.le_refl _⟩
          case round =>
            rename World => wrC
            obtain ⟨i, rfl, hi, ho, hbw, hkw, hsw⟩ := hrel
            have HO119 := Aside0.mk ho
            have HBw119 := Aside0.mk hbw
            have HKw119 := Aside0.mk hkw
            have HSw119 := Aside0.mk hsw
            clear ho hbw hkw hsw
            by_cases h1 : i < L.length
            · have b1 : decide (i < L.length) = true := decide_eq_true h1
              have b2 : decide ((i : Int) < (L.length : Int)) = true := decide_eq_true (by omega)
              obtain ⟨g4, rfl⟩ : ∃ g, A10 = some ⟨g, 0, none⟩ := by
                rcases HO119.out.2 with ⟨e1, e2⟩ | ⟨g, cap, cur, e1, _⟩
                · omega
                · cases e1; exact ⟨g, rfl⟩
              obtain ⟨u, hu, y0, y1, y2, z0, z1, z2⟩ := rv_at3 HO119.out i (by rw [repL_len _ _ hi]; exact h1)
              have p0 : (0 ≤ (i : Int)) = True := eq_true (Int.natCast_nonneg i)
              have q0 : ((i : Int) < (L.length : Int)) = True := eq_true (by omega)
              have hw64 : wrap64 ((i : Int) + 1) = ((i + 1 : Nat) : Int) := by have := K4.out.2; unfold wrap64; omega
              have H1 := Aside0.mk h1
              have HN := Aside0.mk (rv_round (x := ⟨⟨#[107]⟩, ⟨#[]⟩, false⟩) HO119.out h1 HBw119.out (Nat.le_trans HB8.out.size (by have := HSe.out; simpa using this)) HKw119.out HSw119.out)
              clear h1 hu
              go_wp2
              refine ⟨⟨i + 1, by rw [hw64], by have := H1.out; omega, HN.out.1, HN.out.2.1, HN.out.2.2.1, HN.out.2.2.2⟩, ?_⟩
              have := H1.out
              rw [hw64]
              simp only [intOf]
              omega
            · have b1 : decide (i < L.length) = false := decide_eq_false h1
              have b2 : decide ((i : Int) < (L.length : Int)) = false := decide_eq_false (by omega)
              obtain rfl : i = L.length := by omega
              have HQc := Aside0.mk (own_keepw HQb.out (u := .slice A10 L.length c10) HLw.out (fun k hk => Nat.le_trans H49.out.2 (HLk.out k hk)) HKw119.out)
              have HSall : Aside0 (w9.heap.size ≤ wrC.heap.size ∧ w9.heap.size ≤ wrC.heap.size) := ⟨by have a1 := HSw109.out; have a2 := HSw119.out; have a3 := HS10.out; have a4 := HS11.out; omega⟩
              have HLc := Aside0.mk (own_keepw HO109.out (u := .slice A10 L.length c10) HLl.out (fun k hk => Nat.le_trans H49.out.1 (HLk.out k hk)) HKw119.out)
              obtain ⟨gm, cm, w13, hr13, h13, hk13, hb13, hs13, hl13⟩ := moreR_run (w := wrC) ⟨⟨#[108]⟩, ⟨#[]⟩, false⟩ (repL_len _ L (Nat.le_refl _)) HLc.out (Nat.le_trans (Nat.le_trans HS4.out H49.out.1) HSall.out.1) K4.out.2
              rw [repL_end] at h13
              have HK13 := Aside0.mk (own_keepv HO119.out (u := .slice A4 L.length c4) (fun k hk => Nat.lt_of_lt_of_le (HLl.out k hk) H49.out.1) hk13)
              have HQ13 := Aside0.mk (own_keepv HQc.out (u := .slice A4 L.length c4) HLl.out hk13)
              obtain ⟨gk, ck, w14, hr14, h14, hk14, hb14, hs14, hl14⟩ := moreR_run (w := w13) ⟨⟨#[107]⟩, ⟨#[]⟩, false⟩ (repL_len _ L (Nat.le_refl _)) HK13.out (Nat.le_trans HSall.out.2 hs13) K4.out.2
              rw [repL_end] at h14
              have hkc := own_ltv HO119.out
              have HM14 := own_keepm h13 (u := .slice A10 L.length c10) (by
                intro hg
                rcases hl13 with h9 | h9
                · have h8 := HLl.out gm h9
                  have h7 := HLk.out gm hg.symm
                  have := H49.out.1
                  omega
                · have := hkc gm hg.symm
                  omega) hk14
              have HQ14 := Aside0.mk (own_keepw HQ13.out (u := .slice A10 L.length c10) HLw.out (fun k hk => Nat.le_trans H49.out.2 (HLk.out k hk)) hk14)
              obtain ⟨m, hm⟩ : ∃ m, m = L.length + 2 := ⟨_, rfl⟩
              rw [← hm] at hr13 h13 hr14 h14 HM14
              have HM := Aside0.mk hm
              have HD14 := Aside0.mk HM14
              have HE14 := Aside0.mk h14
              have HB14 := Aside0.mk ((HBw119.out.trans (hb13.mono (by have := HB3.out.size; simpa using this))).trans (hb14.mono (Nat.le_trans HB8.out.size (by have := HSe.out; simpa using this))))
              clear h13 h14 hk13 hk14 hb13 hb14 hs13 hs14 hl13 hl14 hkc HM14 hm
              go_wp2_with (first
                | ((with_reducible refine gate_dst (N := 131) rfl ?_); refine Lib.wpList_append_run _ rfl _ _ 30 30 rfl _ _ rfl rfl _ _ (hr13 _) ?_)
                | ((with_reducible refine gate_dst (N := 136) rfl ?_); refine Lib.wpList_append_run _ rfl _ _ 30 30 rfl _ _ rfl rfl _ _ (hr14 _) ?_))
              go_loopw [139] (fun s139 wrD => ∃ (i : Nat), s139 = .int .i64 (i : Int) ∧ i ≤ m ∧ Below w14.heap.size w14 wrD) (fun s139 _ => m - (intOf s139).toNat)
              case atStart => exact ⟨0, rfl, by omega, Below.refl _ _⟩
              case round =>
                rename World => wrD
                obtain ⟨i, rfl, hi, hbw⟩ := hrel
                have HBw139 := Aside0.mk hbw
                clear hbw
                by_cases h1 : i < m
                · have b1 : decide (i < m) = true := decide_eq_true h1
                  have b2 : decide ((i : Int) < (m : Int)) = true := decide_eq_true (by omega)
                  obtain ⟨u, hu, y0, y1, y2, _, _, _⟩ := rv_at3 (pw_own_below HD14.out HBw139.out) i (by rw [List.length_replicate]; exact h1)
                  obtain rfl : u = ⟨⟨#[108]⟩, ⟨#[]⟩, false⟩ := by
                    rw [List.getElem?_replicate, if_pos h1] at hu
                    exact (Option.some.inj hu).symm
                  have p0 : (0 ≤ (i : Int)) = True := eq_true (Int.natCast_nonneg i)
                  have q0 : ((i : Int) < (m : Int)) = True := eq_true (by omega)
                  have hw64 : wrap64 ((i : Int) + 1) = ((i + 1 : Nat) : Int) := by have := HM.out; have := K4.out.2; unfold wrap64; omega
                  have H1 := Aside0.mk h1
                  clear h1 hu
                  go_wp2
                  refine ⟨⟨i + 1, by rw [hw64], by have := H1.out; omega, below_alloc HBw139.out _⟩, ?_⟩
                  have := H1.out
                  rw [hw64]
                  simp only [intOf]
                  omega
                · have b1 : decide (i < m) = false := decide_eq_false h1
                  have b2 : decide ((i : Int) < (m : Int)) = false := decide_eq_false (by omega)
                  clear h1
                  have HEd := Aside0.mk (pw_own_below HE14.out HBw139.out)
                  have HQd := Aside0.mk (pw_own_below HQ14.out HBw139.out)
                  have HBD := Aside0.mk (HB14.out.trans (HBw139.out.mono HB14.out.size))
                  go_wp2
                  go_loopw [154] (fun s154 wrE => ∃ (i : Nat), s154 = .int .i64 (i : Int) ∧ i ≤ m ∧ Below wrD.heap.size wrD wrE) (fun s154 _ => m - (intOf s154).toNat)
                  case atStart => exact ⟨0, rfl, by omega, Below.refl _ _⟩
                  case round =>
                    rename World => wrE
                    obtain ⟨i, rfl, hi, hbw⟩ := hrel
                    have HBw154 := Aside0.mk hbw
                    clear hbw
                    by_cases h1 : i < m
                    · have b1 : decide (i < m) = true := decide_eq_true h1
                      have b2 : decide ((i : Int) < (m : Int)) = true := decide_eq_true (by omega)
                      obtain ⟨u, hu, y0, y1, y2, _, _, _⟩ := rv_at3 (pw_own_below HEd.out HBw154.out) i (by rw [List.length_replicate]; exact h1)
                      obtain rfl : u = ⟨⟨#[107]⟩, ⟨#[]⟩, false⟩ := by
                        rw [List.getElem?_replicate, if_pos h1] at hu
                        exact (Option.some.inj hu).symm
                      have p0 : (0 ≤ (i : Int)) = True := eq_true (Int.natCast_nonneg i)
                      have q0 : ((i : Int) < (m : Int)) = True := eq_true (by omega)
                      have hw64 : wrap64 ((i : Int) + 1) = ((i + 1 : Nat) : Int) := by have := HM.out; have := K4.out.2; unfold wrap64; omega
                      have H1 := Aside0.mk h1
                      clear h1 hu
                      go_wp2
                      refine ⟨⟨i + 1, by rw [hw64], by have := H1.out; omega, below_alloc HBw154.out _⟩, ?_⟩
                      have := H1.out
                      rw [hw64]
                      simp only [intOf]
                      omega
                    · have b1 : decide (i < m) = false := decide_eq_false h1
                      have b2 : decide ((i : Int) < (m : Int)) = false := decide_eq_false (by omega)
                      clear h1
                      have HQE := Aside0.mk (pw_own_below HQd.out HBw154.out)
                      have HBE := Aside0.mk (HBD.out.trans (HBw154.out.mono HBD.out.size))
                      obtain ⟨x0, x1, x2⟩ := threeR (blk_below HX0.out HBE.out)
                      go_wp2_with (first
                        | (go_at_call 18; refine (span_Split.calls k x.f0 x.f1 x.f2 A1 c1 l1 L er _ (Kd.C_below HC0.out HBE.out) hc1 K1.out).mono ?_; rintro e w15 ⟨v15, rfl, hr15, hb15⟩; have HB15 := Aside0.mk (HBE.out.trans (hb15.mono HBE.out.size)); have HQ15 := Aside0.mk (Kd.R_reads' (rv_R rfl (pw_own_below HQE.out hb15))).2.2; obtain ⟨A15, c15, rfl⟩ := Kd.R_slice hr15; have HL15 := Aside0.mk (Kd.R_reads' hr15); clear hr15 hb15 x0 x1 x2)
                        | (go_at_call 20; refine (tidelinelaw02_ranges.calls k A15 c15 L A5 c5 L true _ HL15.out.2.2 HL15.out.2.1 HQ15.out HW5.out.2.1 K3.out).mono ?_; rintro e w16 ⟨rfl, hd16⟩; have HB16 := Aside0.mk (HB15.out.trans (hd16.below.mono HB15.out.size)); clear hd16))
                      go_ret
                      exact ⟨rfl, HB0.out.trans (HB16.out.mono HB0.out.size)⟩
theorem tidelinelaw02_SpanSplits.calls (k : Nat) (a0_0 : ByteArray) (a0_1 : ByteArray) (a0_2 : Bool) (A1 : Option Addr) (c1 : Nat) (l1 : List ByteArray) (r : Bool) (w : World) (hr1 : Kd.C Kd.string w A1 l1.length l1) (hc1 : l1.length ≤ c1) (hG : Glob.GlobOK w) (h : tidelinelaw02_SpanSplits.f k a0_0 a0_1 a0_2 l1 = some r) :
    Calls Try.prog 4 #[.agg #[.string a0_0, .string a0_1, .bool a0_2], .slice A1 l1.length c1] w fun e w' => e = .returned (.bool r) ∧ Below w.heap.size w w' := by
  unfold tidelinelaw02_SpanSplits.f at h
  obtain ⟨s, hs, h⟩ := Option.bind_eq_some_iff.1 h
  cases s with
  | false => rw [if_neg (by decide)] at h; cases h
  | true =>
    rw [if_pos rfl] at h
    obtain ⟨⟨L, er⟩, h1, h⟩ := Option.bind_eq_some_iff.1 h
    by_cases hk : tidelineref02_Split.f k a0_0 a0_1 a0_2 l1 = some (L, er) ∧ tidelinelaw02_ranges.f k L L = some true ∧ l1.length ≤ 1099511627776 ∧ L.length ≤ 1099511627776
    · rw [if_pos hk] at h
      obtain rfl : true = r := by simpa using h
      exact splits_walk k ⟨a0_0, a0_1, a0_2⟩ A1 c1 l1 L er w hr1 hc1 hG hs h1 hk.1 hk.2.1 hk.2.2.1 hk.2.2.2
    · rw [if_neg hk] at h; cases h
end Go.Proofs.Ytgdhgamolenfgaa.PAll
