-- By wip/pr.py (a program of this session, over the kit's print): lines written by program. Not trusted: Lean checks them.
import Derived.Test.YtghlellambnkeaaPAllx0
import Derived.Test.YtghlellambnkeaaPAllx3
namespace Go.Proofs.Ytghlellambnkeaa.PAll
open Go.RowKit Go.Proofs.YtghlellambnkeaaW.PrintWords Go.Proofs.YtghlellambnkeaaW.PrintLast Go.Proofs.YtghlellambnkeaaW.PrintMore
attribute [local go_sem] max2_int min2_int max_two min_two max_three min_three max_four min_four   -- for this text's walks alone
set_option linter.unusedVariables false
set_option linter.unusedSimpArgs false

/-! ### tidelineref09_Pairs: function 22 -/
mutual
def tidelineref09_Pairs.l0 : Nat → List (S44) → List (S44) → List (S46) → Int → Int → Option ((List (S46)))
  | 0, _, _, _, _, _ => none
  | k + 1, x0, x1, x5, x6, x7 => if x6 < (x0.length : Int) then (tidelineref09_Pairs.j1 k x0 x1 x5 x6 x7 true) else (tidelineref09_Pairs.j1 k x0 x1 x5 x6 x7 (decide (x7 < (x1.length : Int))))
def tidelineref09_Pairs.j1 : Nat → List (S44) → List (S44) → List (S46) → Int → Int → Bool → Option ((List (S46)))
  | 0, _, _, _, _, _, _ => none
  | k + 1, x0, x1, x5, x6, x7, x23 => if x23 = true then (if x7 = (x1.length : Int) then (tidelineref09_Pairs.j2 k x0 x1 x5 x6 x7 true) else (if x6 < (x0.length : Int) then (if 0 ≤ x6 then (if 0 ≤ x7 then (if x7 < (x1.length : Int) then (tidelineref09_Pairs.j2 k x0 x1 x5 x6 x7 (Op.bytesLess (((rd_T44 x0 x6).f0).toList) (((rd_T44 x1 x7).f0).toList))) else (none)) else (none)) else (none)) else (tidelineref09_Pairs.j2 k x0 x1 x5 x6 x7 false))) else (some x5)
def tidelineref09_Pairs.j2 : Nat → List (S44) → List (S44) → List (S46) → Int → Int → Bool → Option ((List (S46)))
  | 0, _, _, _, _, _, _ => none
  | k + 1, x0, x1, x5, x6, x7, x40 => if x40 = true then (if 0 ≤ x6 then (if x6 < (x0.length : Int) then (if x5.length < 1256584717458 then (tidelineref09_Pairs.l0 k x0 x1 (x5 ++ [(⟨(⟨(rd_T44 x0 x6).f0, (⟨(rd_T44 x0 x6).f1.f0, (rd_T44 x0 x6).f1.f1⟩ : S42), (rd_T44 x0 x6).f2, (rd_T44 x0 x6).f3⟩ : S44), (⟨(⟨#[]⟩ : ByteArray), (⟨0, 0⟩ : S42), (⟨#[]⟩ : ByteArray), false⟩ : S44)⟩ : S46)]) (wrap64 (x6 + 1)) x7) else (none)) else (none)) else (none)) else (if x6 = (x0.length : Int) then (if 0 ≤ x7 then (if x7 < (x1.length : Int) then (if x5.length < 1256584717458 then (tidelineref09_Pairs.l0 k x0 x1 (x5 ++ [(⟨(⟨(⟨#[]⟩ : ByteArray), (⟨0, 0⟩ : S42), (⟨#[]⟩ : ByteArray), false⟩ : S44), (⟨(rd_T44 x1 x7).f0, (⟨(rd_T44 x1 x7).f1.f0, (rd_T44 x1 x7).f1.f1⟩ : S42), (rd_T44 x1 x7).f2, (rd_T44 x1 x7).f3⟩ : S44)⟩ : S46)]) x6 (wrap64 (x7 + 1))) else (none)) else (none)) else (none)) else (if 0 ≤ x7 then (if x7 < (x1.length : Int) then (if 0 ≤ x6 then (if x6 < (x0.length : Int) then (if (Op.bytesLess (((rd_T44 x1 x7).f0).toList) (((rd_T44 x0 x6).f0).toList)) = true then (if x5.length < 1256584717458 then (tidelineref09_Pairs.l0 k x0 x1 (x5 ++ [(⟨(⟨(⟨#[]⟩ : ByteArray), (⟨0, 0⟩ : S42), (⟨#[]⟩ : ByteArray), false⟩ : S44), (⟨(rd_T44 x1 x7).f0, (⟨(rd_T44 x1 x7).f1.f0, (rd_T44 x1 x7).f1.f1⟩ : S42), (rd_T44 x1 x7).f2, (rd_T44 x1 x7).f3⟩ : S44)⟩ : S46)]) x6 (wrap64 (x7 + 1))) else (none)) else (if x5.length < 1256584717458 then (tidelineref09_Pairs.l0 k x0 x1 (x5 ++ [(⟨(⟨(rd_T44 x0 x6).f0, (⟨(rd_T44 x0 x6).f1.f0, (rd_T44 x0 x6).f1.f1⟩ : S42), (rd_T44 x0 x6).f2, (rd_T44 x0 x6).f3⟩ : S44), (⟨(rd_T44 x1 x7).f0, (⟨(rd_T44 x1 x7).f1.f0, (rd_T44 x1 x7).f1.f1⟩ : S42), (rd_T44 x1 x7).f2, (rd_T44 x1 x7).f3⟩ : S44)⟩ : S46)]) (wrap64 (x6 + 1)) (wrap64 (x7 + 1))) else (none))) else (none)) else (none)) else (none)) else (none)))
end
def tidelineref09_Pairs.f (k : Nat) (l0 : List (S44)) (l1 : List (S44)) : Option ((List (S46))) := (some (([] : List (S46)) : List (S46))).bind fun y117 => ((tidelineref09_check.f k l0 l1).bind fun t120 => (if t120 = 0 then (tidelineref09_Pairs.l0 k l0 l1 y117 0 0) else (some y117)))
theorem tidelineref09_Pairs.mono_l : ∀ k, (∀ y0 y1 y2 y3 y4, LeO (tidelineref09_Pairs.l0 k y0 y1 y2 y3 y4) (tidelineref09_Pairs.l0 (k + 1) y0 y1 y2 y3 y4)) ∧ (∀ y0 y1 y2 y3 y4 y5, LeO (tidelineref09_Pairs.j1 k y0 y1 y2 y3 y4 y5) (tidelineref09_Pairs.j1 (k + 1) y0 y1 y2 y3 y4 y5)) ∧ (∀ y0 y1 y2 y3 y4 y5, LeO (tidelineref09_Pairs.j2 k y0 y1 y2 y3 y4 y5) (tidelineref09_Pairs.j2 (k + 1) y0 y1 y2 y3 y4 y5))
  | 0 => ⟨fun _ _ _ _ _ r h => by simp [tidelineref09_Pairs.l0] at h, fun _ _ _ _ _ _ r h => by simp [tidelineref09_Pairs.j1] at h, fun _ _ _ _ _ _ r h => by simp [tidelineref09_Pairs.j2] at h⟩
  | k + 1 => by
    obtain ⟨ih0, ih1, ih2⟩ := tidelineref09_Pairs.mono_l k
    refine ⟨?_, ?_, ?_⟩
    · intro y0 y1 y2 y3 y4
      unfold tidelineref09_Pairs.l0
      repeat' first
      | (with_reducible exact ih0 _ _ _ _ _)
      | (with_reducible exact ih1 _ _ _ _ _ _)
      | (with_reducible exact ih2 _ _ _ _ _ _)
      | (with_reducible exact tidelineref09_check.mono _ _ _)
      | (with_reducible exact LeO.refl _)
      | (with_reducible exact LeO.none _)
      | (with_reducible refine LeO.ite ?_ ?_)
      | (with_reducible refine LeO.bind ?_ (fun _ => ?_))
      | exact ih0 _ _ _ _ _
      | exact ih1 _ _ _ _ _ _
      | exact ih2 _ _ _ _ _ _
      | exact tidelineref09_check.mono _ _ _
      | exact LeO.none _
      | refine LeO.ite ?_ ?_
      | refine LeO.bind ?_ (fun _ => ?_)
    · intro y0 y1 y2 y3 y4 y5
      unfold tidelineref09_Pairs.j1
      repeat' first
      | (with_reducible exact ih0 _ _ _ _ _)
      | (with_reducible exact ih1 _ _ _ _ _ _)
      | (with_reducible exact ih2 _ _ _ _ _ _)
      | (with_reducible exact tidelineref09_check.mono _ _ _)
      | (with_reducible exact LeO.refl _)
      | (with_reducible exact LeO.none _)
      | (with_reducible refine LeO.ite ?_ ?_)
      | (with_reducible refine LeO.bind ?_ (fun _ => ?_))
      | exact ih0 _ _ _ _ _
      | exact ih1 _ _ _ _ _ _
      | exact ih2 _ _ _ _ _ _
      | exact tidelineref09_check.mono _ _ _
      | exact LeO.none _
      | refine LeO.ite ?_ ?_
      | refine LeO.bind ?_ (fun _ => ?_)
    · intro y0 y1 y2 y3 y4 y5
      unfold tidelineref09_Pairs.j2
      repeat' first
      | (with_reducible exact ih0 _ _ _ _ _)
      | (with_reducible exact ih1 _ _ _ _ _ _)
      | (with_reducible exact ih2 _ _ _ _ _ _)
      | (with_reducible exact tidelineref09_check.mono _ _ _)
      | (with_reducible exact LeO.refl _)
      | (with_reducible exact LeO.none _)
      | (with_reducible refine LeO.ite ?_ ?_)
      | (with_reducible refine LeO.bind ?_ (fun _ => ?_))
      | exact ih0 _ _ _ _ _
      | exact ih1 _ _ _ _ _ _
      | exact ih2 _ _ _ _ _ _
      | exact tidelineref09_check.mono _ _ _
      | exact LeO.none _
      | refine LeO.ite ?_ ?_
      | refine LeO.bind ?_ (fun _ => ?_)
theorem tidelineref09_Pairs.mono : ∀ a0 a1 k, LeO (tidelineref09_Pairs.f k a0 a1) (tidelineref09_Pairs.f (k + 1) a0 a1) := by
  intro a0 a1 k
  obtain ⟨ih0, ih1, ih2⟩ := tidelineref09_Pairs.mono_l k
  unfold tidelineref09_Pairs.f
  repeat' first
      | (with_reducible exact ih0 _ _ _ _ _)
      | (with_reducible exact ih1 _ _ _ _ _ _)
      | (with_reducible exact ih2 _ _ _ _ _ _)
      | (with_reducible exact tidelineref09_check.mono _ _ _)
      | (with_reducible exact LeO.refl _)
      | (with_reducible exact LeO.none _)
      | (with_reducible refine LeO.ite ?_ ?_)
      | (with_reducible refine LeO.bind ?_ (fun _ => ?_))
      | exact ih0 _ _ _ _ _
      | exact ih1 _ _ _ _ _ _
      | exact ih2 _ _ _ _ _ _
      | exact tidelineref09_check.mono _ _ _
      | exact LeO.none _
      | refine LeO.ite ?_ ?_
      | refine LeO.bind ?_ (fun _ => ?_)
def tidelineref09_Pairs.T7 : Bool × List (List Nat × List Nat) := (true, [([], []), ([], []), ([], []), ([1, 2], [1, 2]), ([3], [3]), ([], []), ([], []), ([5, 6], [5, 6]), ([7], [7]), ([4, 8], [4, 8]), ([9], [9]), ([0, 10], [0, 10]), ([11, 11, 0, 1, 2, 3, 4, 5, 6, 7, 8, 9, 10, 11], [0, 11])])
def tidelineref09_Pairs.B7 : List Nat := [0, 0, 0, 6, 14, 0, 0, 96, 224, 510, 1022, 2047, 4095]
theorem tidelineref09_Pairs.tab7 : rtab .any (opsOf Try.f22 7) = tidelineref09_Pairs.T7 := by kernel_rfl
theorem tidelineref09_Pairs.bits7 : waitsOk tidelineref09_Pairs.T7.2 tidelineref09_Pairs.B7 = true := by kernel_rfl
def tidelineref09_Pairs.T10 : Bool × List (List Nat × List Nat) := (true, [([], []), ([], []), ([1], [1]), ([0, 2], [0, 2]), ([3], [3]), ([4], [4]), ([4], [4]), ([6, 4], [4, 6]), ([5, 7, 4], [4, 5, 7]), ([8, 4, 4], [4, 8]), ([9], [9]), ([9], [9]), ([10, 11, 9], [9, 10, 11]), ([12, 9], [9, 12]), ([13, 9], [9, 13]), ([9], [9]), ([9], [9]), ([15, 16, 9], [9, 15, 16]), ([17, 9], [9, 17]), ([18, 9], [9, 18]), ([14, 19, 9], [9, 14, 19]), ([9, 20, 4], [4, 9, 20]), ([4, 21], [4, 21]), ([22, 9], [22])])
def tidelineref09_Pairs.B10 : List Nat := [0, 0, 2, 7, 15, 31, 31, 95, 255, 511, 1023, 1023, 4095, 8191, 16383, 1023, 1023, 99327, 230399, 492543, 1048575, 2097151, 4194303, 8388607]
theorem tidelineref09_Pairs.tab10 : rtab .any (opsOf Try.f22 10) = tidelineref09_Pairs.T10 := by kernel_rfl
theorem tidelineref09_Pairs.bits10 : waitsOk tidelineref09_Pairs.T10.2 tidelineref09_Pairs.B10 = true := by kernel_rfl
def tidelineref09_Pairs.T13 : Bool × List (List Nat × List Nat) := (true, [([], []), ([], []), ([1], [1]), ([0, 2], [0, 2]), ([3], [3]), ([4], [4]), ([4], [4]), ([5, 6, 4], [4, 5, 6]), ([7, 4], [4, 7]), ([8, 4], [4, 8]), ([4], [4]), ([4], [4]), ([10, 11, 4], [4, 10, 11]), ([12, 4], [4, 12]), ([13, 4], [4, 13]), ([9, 14, 4], [4, 9, 14]), ([4, 15], [4, 15]), ([16, 4], [16])])
def tidelineref09_Pairs.B13 : List Nat := [0, 0, 2, 7, 15, 31, 31, 127, 255, 511, 31, 31, 3103, 7199, 15391, 32767, 65535, 131071]
theorem tidelineref09_Pairs.tab13 : rtab .any (opsOf Try.f22 13) = tidelineref09_Pairs.T13 := by kernel_rfl
theorem tidelineref09_Pairs.bits13 : waitsOk tidelineref09_Pairs.T13.2 tidelineref09_Pairs.B13 = true := by kernel_rfl
set_option maxHeartbeats 8000000 in
set_option maxRecDepth 100000 in
theorem tidelineref09_Pairs.calls (k : Nat) (A0 : Option Addr) (c0 : Nat) (l0 : List (S44)) (A1 : Option Addr) (c1 : Nat) (l1 : List (S44)) (r : List (S46)) (w : World) (hr0 : Kd.C k44 w A0 l0.length l0) (hc0 : l0.length ≤ c0) (hr1 : Kd.C k44 w A1 l1.length l1) (hc1 : l1.length ≤ c1) (h : tidelineref09_Pairs.f k l0 l1 = some r) :
    Calls Try.prog 22 #[.slice A0 l0.length c0, .slice A1 l1.length c1] w fun e w' => ∃ v0_ : Value, e = .returned (v0_) ∧ Kd.R k46 46 w' w.heap.size (fun _ => True) v0_ r ∧ Below w.heap.size w w' := by
 have hu44:=Try.underlying44
 have hu46:=Try.underlying46
 have HR0:=Aside0.mk hr0
 have HC0:=Aside0.mk hc0
 clear hr0 hc0
 have HR1:=Aside0.mk hr1
 have HC1:=Aside0.mk hc1
 clear hr1 hc1
 have HB:=Aside0.mk (Below.refl w.heap.size w)
 have H : ((some (([] : List (S46)) : List (S46))).bind fun y117 => ((tidelineref09_check.f k l0 l1).bind fun t120 => (if t120 = 0 then (tidelineref09_Pairs.l0 k l0 l1 y117 0 0) else (some y117)))) = some r:=h
 clear h
 obtain ⟨y117,hy117⟩ : ∃ y_ : List (S46),y_ = (([] : List (S46))):=⟨_,rfl⟩
 replace H : ((tidelineref09_check.f k l0 l1).bind fun t120 => (if t120 = 0 then (tidelineref09_Pairs.l0 k l0 l1 y117 0 0) else (some y117))) = some r:=by first|(rw [hy117];with_reducible exact H)|(have H2_:=(Option.bind_some _ _).symm.trans H;rw [hy117];with_reducible exact H2_)|(have H2_:=(Option.bind_some _ _).symm.trans H;with_reducible exact H2_)|with_reducible exact H|(rw [hy117];exact H)|exact H
 have Ny117:=Aside0.mk hy117
 clear hy117
 replace H:=Option.bind_eq_some_iff.mp H
 obtain ⟨t120,A30,H⟩:=H
 replace H : (if t120 = 0 then (tidelineref09_Pairs.l0 k l0 l1 y117 0 0) else (some y117)) = some r:=H
 have A3:=Aside0.mk A30
 clear A30
 by_cases c4 : t120 = 0
 ·rw [if_pos c4] at H
  have c4b0 : (t120 == 0) = true:=beq_iff_eq.mpr c4
  have c4b1 : (t120 != 0) = false:=bne_eq_false_iff_eq.mpr c4
  clear c4
  have H':=Aside0.mk H
  clear H
  go_enter Try.func22,Try.ntmps22
  go_wp2_with (first|((with_reducible refine gate_dst (N:=8) rfl ?_);(try (refine gate_guard (by rfl) ?_;dsimp only));refine Kd.R_lit k46 _ 46 ?hg (N:=8) ?hd (xs:=([] : List (S46))) (inner:=[]) (ok:=fun _ => True) (okp:=fun _ => True) ?hr ?hp (fun _ hk => hk) trivial (Below.refl _ _) (Nat.le_refl _) (by simp) ?_;(case hd => rfl);(case hg => rfl);(case hr => first|(go_simp;done)|(go_simp;rfl));(case hp => exact (Reps.none _ _));intro v118 w5 ho6 hb hg_ hnew_;clear hg_ hnew_;(first|rw [← Ny117.out] at ho6|(simp only [Int.reduceToNat] at ho6;rw [← Ny117.out] at ho6));have n0_:=Aside0.mk (Kd.R_lower ho6 (below_size (by repeat (first|(with_reducible first|exact HB.out|apply xA|apply xN|apply xD)|exact HB.out))));have n1_:=Aside0.mk (below_step (by repeat (first|(with_reducible first|exact HB.out|apply xA|apply xN|apply xD)|exact HB.out)) hb);clear HB;have HO119:=n0_;have HB:=n1_;clear n0_ n1_;clear hb ho6)|((with_reducible refine gate_callee (f:=40) rfl ?_);refine goesL_ (some 11) rfl rfl Try.func40 (by kernel_rfl) rfl #[.slice A0 l0.length c0,.slice A1 l1.length c1] rfl (by (try simp only [List.map_toArray,List.map_cons,List.map_nil]);first|done|rfl|(simp only [List.length_drop,List.length_take];rfl)) ?_;(with_reducible refine (tidelineref09_check.calls k _ _ l0 _ _ l1 t120 _ ?side1 ?side2 ?side3 ?side4 A3.out).mono ?_);(case side1 => repeat (first|exact (Kd.C_below HR0.out HB.out)|(with_reducible refine Kd.C_alloc ?_ _)|(with_reducible refine Kd.C_drewN ?_ _)|(with_reducible refine Kd.C_drew ?_)));(case side2 => exact HC0.out);(case side3 => repeat (first|exact (Kd.C_below HR1.out HB.out)|(with_reducible refine Kd.C_alloc ?_ _)|(with_reducible refine Kd.C_drewN ?_ _)|(with_reducible refine Kd.C_drew ?_)));(case side4 => exact HC1.out);rintro e w7 ⟨rfl,hb⟩;refine ⟨_,rfl,?_⟩;replace HO119:=Aside0.mk (Kd.R_below (by (with_reducible repeat (first|apply Kd.R_alloc|apply Kd.R_drewN|apply Kd.R_drew));exact HO119.out) hb);replace HB:=Aside0.mk (below_step (by repeat (first|(with_reducible first|exact HB.out|apply xA|apply xN|apply xD)|exact HB.out)) hb);(try clear hb);(try clear hb2);(try clear hk);(try clear hi)))
  go_loopg [5,6,7] k (fun kq v5 v6 v7 w' => ∃ (x5_1 : List (S46)) (x6_1 : Int) (x7_1 : Int),v6 = .int .i64 x6_1 ∧ v7 = .int .i64 x7_1 ∧ Aside0 (tidelineref09_Pairs.l0 kq l0 l1 x5_1 x6_1 x7_1 = some r) ∧ Aside0 (kq ≤ k) ∧ Aside0 (Kd.R k46 46 w' w.heap.size (fun _ => True) v5 x5_1) ∧ Aside0 (Below w.heap.size w w'))
  case atStart => exact ⟨(y117),(0),(0),(by first|rfl|(simp;done)|(simp [*];done)|(simp [*,Go.Proofs.Ytghlellambnkeaa.Str.bne_nil];done)),(by first|rfl|(simp;done)|(simp [*];done)|(simp [*,Go.Proofs.Ytghlellambnkeaa.Str.bne_nil];done)),H',⟨Nat.le_refl _⟩,⟨by (with_reducible repeat (first|apply Kd.R_alloc|apply Kd.R_drewN|apply Kd.R_drew));exact HO119.out⟩,⟨by repeat (first|(with_reducible first|exact HB.out|apply xA|apply xN|apply xD)|exact HB.out)⟩⟩
  case round =>
   clear H'
   try clear c1
   try clear c2
   try clear p2
   try clear c4
   try clear c4b0
   try clear c4b1
   obtain ⟨x5_1,x6_1,x7_1,rfl,rfl,HA,HK1,HO_5,HB⟩:=hrel
   cases gk with
  |zero => exact absurd HA.out (by simp [tidelineref09_Pairs.l0])
  |succ k1 =>
    have H:=HA.out
    clear HA
    simp only [tidelineref09_Pairs.l0] at H
    have HC8:=Aside0.mk H
    clear H
    go_upto_region 6 with (fail)
    go_cut [23] (fun v23 wc => ∃ (kq : Nat) (x23_7 : Bool),v23 = .bool x23_7 ∧ Aside0 (tidelineref09_Pairs.j1 kq l0 l1 x5_1 x6_1 x7_1 x23_7 = some r) ∧ Aside0 (kq ≤ k1) ∧ Aside0 (Kd.R k46 46 wc w.heap.size (fun _ => True) u5 x5_1) ∧ Aside0 (Below w.heap.size w wc))
    case first =>
     have H:=HC8.out
     clear HC8
     by_cases c9 : x6_1 < (l0.length : Int)
     ·rw [if_pos c9] at H
      have c9b0 : decide (x6_1 < (l0.length : Int)) = true:=decide_eq_true c9
      clear c9
      (first|rw [c9b0]|(simp only [i64_w,i32_w];rw [c9b0])|skip)
      have H':=Aside0.mk H
      clear H
      go_wp2
      go_meet
      case rel => exact ⟨_,(true),(by first|rfl|(simp;done)|(simp [*];done)|(simp [*,Go.Proofs.Ytghlellambnkeaa.Str.bne_nil];done)),H',⟨by have:=HK1.out;first|omega|exact Nat.le_refl _⟩,⟨by (with_reducible repeat (first|apply Kd.R_alloc|apply Kd.R_drewN|apply Kd.R_drew));exact HO_5.out⟩,⟨by repeat (first|(with_reducible first|exact HB.out|apply xA|apply xN|apply xD)|exact HB.out)⟩⟩
     ·rw [if_neg c9] at H
      have c9b0 : decide (x6_1 < (l0.length : Int)) = false:=decide_eq_false c9
      clear c9
      (first|rw [c9b0]|(simp only [i64_w,i32_w];rw [c9b0])|skip)
      have H':=Aside0.mk H
      clear H
      go_wp2
      go_meet
      case rel => exact ⟨_,(decide (x7_1 < (l1.length : Int))),(by first|rfl|(simp;done)|(simp [*];done)|(simp [*,Go.Proofs.Ytghlellambnkeaa.Str.bne_nil];done)),H',⟨by have:=HK1.out;first|omega|exact Nat.le_refl _⟩,⟨by (with_reducible repeat (first|apply Kd.R_alloc|apply Kd.R_drewN|apply Kd.R_drew));exact HO_5.out⟩,⟨by repeat (first|(with_reducible first|exact HB.out|apply xA|apply xN|apply xD)|exact HB.out)⟩⟩
    case rest =>
     clear HC8
     try clear c1
     try clear c2
     try clear p2
     try clear c4
     try clear c4b0
     try clear c4b1
     try clear c9
     try clear c9b0
     try clear p2
     obtain ⟨kq,x23_7,rfl,HA,HJ7,HO_5,HB⟩:=hcut
     cases kq with
    |zero => exact absurd HA.out (by simp [tidelineref09_Pairs.j1])
    |succ kj7 =>
      have H:=HA.out
      clear HA
      simp only [tidelineref09_Pairs.j1] at H
      by_cases c10 : x23_7 = true
      ·subst c10
       have H1 : (if x7_1 = (l1.length : Int) then (tidelineref09_Pairs.j2 kj7 l0 l1 x5_1 x6_1 x7_1 true) else (if x6_1 < (l0.length : Int) then (if 0 ≤ x6_1 then (if 0 ≤ x7_1 then (if x7_1 < (l1.length : Int) then (tidelineref09_Pairs.j2 kj7 l0 l1 x5_1 x6_1 x7_1 (Op.bytesLess (((rd_T44 l0 x6_1).f0).toList) (((rd_T44 l1 x7_1).f0).toList))) else (none)) else (none)) else (none)) else (tidelineref09_Pairs.j2 kj7 l0 l1 x5_1 x6_1 x7_1 false))) = some r:=by rw [if_pos rfl] at H;exact H
       clear H
       have H:=H1
       clear H1
       have HC11:=Aside0.mk H
       clear H
       go_upto_region 10 with (fail)
       go_cut [40] (fun v40 wc => ∃ (kq : Nat) (x40_10 : Bool),v40 = .bool x40_10 ∧ Aside0 (tidelineref09_Pairs.j2 kq l0 l1 x5_1 x6_1 x7_1 x40_10 = some r) ∧ Aside0 (kq ≤ kj7) ∧ Aside0 (Kd.R k46 46 wc w.heap.size (fun _ => True) u5 x5_1) ∧ Aside0 (Below w.heap.size w wc))
       case first =>
        have H:=HC11.out
        clear HC11
        by_cases c12 : x7_1 = (l1.length : Int)
        ·rw [if_pos c12] at H
         have c12b0 : (x7_1 == (l1.length : Int)) = true:=beq_iff_eq.mpr c12
         have c12b1 : (x7_1 != (l1.length : Int)) = false:=bne_eq_false_iff_eq.mpr c12
         clear c12
         (first|rw [c12b0]|(simp only [i64_w,i32_w];rw [c12b0])|skip)
         have H':=Aside0.mk H
         clear H
         try go_wp2
         replace HO_5:=Aside0.mk (Kd.R_drew HO_5.out)
         replace HB:=Aside0.mk (below_drew1 HB.out)
         refine start_ (n:=24) (S:=fun w' => True) (ds:=[]) #[false,false,false,false,false,false,false,false,false,false,false,false,false,false,false,false,false,false,false,false,false,false,false,false] (by kernel_rfl) rfl rfl trivial (fun hHeld => ?_);refine with_tabW tidelineref09_Pairs.tab10 tidelineref09_Pairs.bits10 (fun HT_ HW_ => ?_)
         generalize wc.drew = w13 at HO_5 HB hHeld ⊢
         refine pure_ (i:=0) (N:=some 41) (v:=?_) (a':=?_) #[true,false,false,false,false,false,false,false,false,false,false,false,false,false,false,false,false,false,false,false,false,false,false,false] rfl rfl (any_of HT_.out (by kernel_rfl)) (fun _ _ _ h => h) (Or.inl ⟨by rfl,?_⟩) ?_ ?_
         rotate_left
         ·intro w'
          go_simp
          with_reducible rfl
         rotate_left
         ·simp only [Act.put,List.setIfInBounds_toArray,List.set_cons_zero,List.set_cons_succ,i64_w,i32_w]
          rfl
         refine pure_ (i:=1) (N:=some 42) (v:=?_) (a':=?_) #[true,true,false,false,false,false,false,false,false,false,false,false,false,false,false,false,false,false,false,false,false,false,false,false] rfl rfl (any_of HT_.out (by kernel_rfl)) (fun _ _ _ h => h) (Or.inl ⟨by rfl,?_⟩) ?_ ?_
         rotate_left
         ·intro w'
          go_simp
          with_reducible rfl
         rotate_left
         ·simp only [Act.put,List.setIfInBounds_toArray,List.set_cons_zero,List.set_cons_succ,i64_w,i32_w]
          rfl
         refine pure_ (i:=2) (N:=some 43) (v:=?_) (a':=?_) #[true,true,true,false,false,false,false,false,false,false,false,false,false,false,false,false,false,false,false,false,false,false,false,false] rfl rfl (any_of HT_.out (by kernel_rfl)) (fun _ _ _ h => h) (Or.inl ⟨by rfl,?_⟩) ?_ ?_
         rotate_left
         ·intro w'
          go_simp
          with_reducible rfl
         rotate_left
         ·simp only [Act.put,List.setIfInBounds_toArray,List.set_cons_zero,List.set_cons_succ,i64_w,i32_w]
          rfl
         refine pure_ (i:=3) (N:=some 44) (v:=?_) (a':=?_) #[true,true,true,true,false,false,false,false,false,false,false,false,false,false,false,false,false,false,false,false,false,false,false,false] rfl rfl (any_of HT_.out (by kernel_rfl)) (fun _ _ _ h => h) (Or.inl ⟨by rfl,?_⟩) ?_ ?_
         rotate_left
         ·intro w'
          go_simp
          with_reducible rfl
         rotate_left
         ·simp only [Act.put,List.setIfInBounds_toArray,List.set_cons_zero,List.set_cons_succ,i64_w,i32_w]
          rfl
         refine pure_ (i:=4) (N:=some 45) (v:=?_) (a':=?_) #[true,true,true,true,true,false,false,false,false,false,false,false,false,false,false,false,false,false,false,false,false,false,false,false] rfl rfl (any_of HT_.out (by kernel_rfl)) (fun _ _ _ h => h) (Or.inl ⟨by rfl,?_⟩) ?_ ?_
         rotate_left
         ·intro w'
          go_simp
          with_reducible rfl
         rotate_left
         ·simp only [Act.put,List.setIfInBounds_toArray,List.set_cons_zero,List.set_cons_succ,i64_w,i32_w]
          rfl
         refine pure_ (i:=5) (N:=some 46) (v:=undef) (a':=?_) #[true,true,true,true,true,true,false,false,false,false,false,false,false,false,false,false,false,false,false,false,false,false,false,false] rfl rfl (any_of HT_.out (by kernel_rfl)) (fun _ _ _ h => h) (Or.inr ⟨by rfl,rfl⟩) ?_ ?_
         rotate_left
         ·simp only [Act.put,List.setIfInBounds_toArray,List.set_cons_zero,List.set_cons_succ,i64_w,i32_w]
          rfl
         refine pure_ (i:=6) (N:=some 47) (v:=undef) (a':=?_) #[true,true,true,true,true,true,true,false,false,false,false,false,false,false,false,false,false,false,false,false,false,false,false,false] rfl rfl (any_of HT_.out (by kernel_rfl)) (fun _ _ _ h => h) (Or.inr ⟨by rfl,rfl⟩) ?_ ?_
         rotate_left
         ·simp only [Act.put,List.setIfInBounds_toArray,List.set_cons_zero,List.set_cons_succ,i64_w,i32_w]
          rfl
         refine pure_ (i:=7) (N:=some 48) (v:=undef) (a':=?_) #[true,true,true,true,true,true,true,true,false,false,false,false,false,false,false,false,false,false,false,false,false,false,false,false] rfl rfl (any_of HT_.out (by kernel_rfl)) (fun _ _ _ h => h) (Or.inr ⟨by rfl,rfl⟩) ?_ ?_
         rotate_left
         ·simp only [Act.put,List.setIfInBounds_toArray,List.set_cons_zero,List.set_cons_succ,i64_w,i32_w]
          rfl
         refine pure_ (i:=8) (N:=some 49) (v:=undef) (a':=?_) #[true,true,true,true,true,true,true,true,true,false,false,false,false,false,false,false,false,false,false,false,false,false,false,false] rfl rfl (any_of HT_.out (by kernel_rfl)) (fun _ _ _ h => h) (Or.inr ⟨by rfl,rfl⟩) ?_ ?_
         rotate_left
         ·simp only [Act.put,List.setIfInBounds_toArray,List.set_cons_zero,List.set_cons_succ,i64_w,i32_w]
          rfl
         refine pure_ (i:=9) (N:=some 50) (v:=undef) (a':=?_) #[true,true,true,true,true,true,true,true,true,true,false,false,false,false,false,false,false,false,false,false,false,false,false,false] rfl rfl (any_of HT_.out (by kernel_rfl)) (fun _ _ _ h => h) (Or.inr ⟨by rfl,rfl⟩) ?_ ?_
         rotate_left
         ·simp only [Act.put,List.setIfInBounds_toArray,List.set_cons_zero,List.set_cons_succ,i64_w,i32_w]
          rfl
         refine pure_ (i:=10) (N:=some 51) (v:=undef) (a':=?_) #[true,true,true,true,true,true,true,true,true,true,true,false,false,false,false,false,false,false,false,false,false,false,false,false] rfl rfl (any_of HT_.out (by kernel_rfl)) (fun _ _ _ h => h) (Or.inr ⟨by rfl,rfl⟩) ?_ ?_
         rotate_left
         ·simp only [Act.put,List.setIfInBounds_toArray,List.set_cons_zero,List.set_cons_succ,i64_w,i32_w]
          rfl
         refine pure_ (i:=11) (N:=some 52) (v:=undef) (a':=?_) #[true,true,true,true,true,true,true,true,true,true,true,true,false,false,false,false,false,false,false,false,false,false,false,false] rfl rfl (any_of HT_.out (by kernel_rfl)) (fun _ _ _ h => h) (Or.inr ⟨by rfl,rfl⟩) ?_ ?_
         rotate_left
         ·simp only [Act.put,List.setIfInBounds_toArray,List.set_cons_zero,List.set_cons_succ,i64_w,i32_w]
          rfl
         refine pure_ (i:=12) (N:=some 53) (v:=undef) (a':=?_) #[true,true,true,true,true,true,true,true,true,true,true,true,true,false,false,false,false,false,false,false,false,false,false,false] rfl rfl (any_of HT_.out (by kernel_rfl)) (fun _ _ _ h => h) (Or.inr ⟨by rfl,rfl⟩) ?_ ?_
         rotate_left
         ·simp only [Act.put,List.setIfInBounds_toArray,List.set_cons_zero,List.set_cons_succ,i64_w,i32_w]
          rfl
         refine pure_ (i:=13) (N:=some 54) (v:=undef) (a':=?_) #[true,true,true,true,true,true,true,true,true,true,true,true,true,true,false,false,false,false,false,false,false,false,false,false] rfl rfl (any_of HT_.out (by kernel_rfl)) (fun _ _ _ h => h) (Or.inr ⟨by rfl,rfl⟩) ?_ ?_
         rotate_left
         ·simp only [Act.put,List.setIfInBounds_toArray,List.set_cons_zero,List.set_cons_succ,i64_w,i32_w]
          rfl
         refine pure_ (i:=14) (N:=some 55) (v:=undef) (a':=?_) #[true,true,true,true,true,true,true,true,true,true,true,true,true,true,true,false,false,false,false,false,false,false,false,false] rfl rfl (any_of HT_.out (by kernel_rfl)) (fun _ _ _ h => h) (Or.inr ⟨by rfl,rfl⟩) ?_ ?_
         rotate_left
         ·simp only [Act.put,List.setIfInBounds_toArray,List.set_cons_zero,List.set_cons_succ,i64_w,i32_w]
          rfl
         refine pure_ (i:=15) (N:=some 56) (v:=undef) (a':=?_) #[true,true,true,true,true,true,true,true,true,true,true,true,true,true,true,true,false,false,false,false,false,false,false,false] rfl rfl (any_of HT_.out (by kernel_rfl)) (fun _ _ _ h => h) (Or.inr ⟨by rfl,rfl⟩) ?_ ?_
         rotate_left
         ·simp only [Act.put,List.setIfInBounds_toArray,List.set_cons_zero,List.set_cons_succ,i64_w,i32_w]
          rfl
         refine pure_ (i:=16) (N:=some 57) (v:=undef) (a':=?_) #[true,true,true,true,true,true,true,true,true,true,true,true,true,true,true,true,true,false,false,false,false,false,false,false] rfl rfl (any_of HT_.out (by kernel_rfl)) (fun _ _ _ h => h) (Or.inr ⟨by rfl,rfl⟩) ?_ ?_
         rotate_left
         ·simp only [Act.put,List.setIfInBounds_toArray,List.set_cons_zero,List.set_cons_succ,i64_w,i32_w]
          rfl
         refine pure_ (i:=17) (N:=some 58) (v:=undef) (a':=?_) #[true,true,true,true,true,true,true,true,true,true,true,true,true,true,true,true,true,true,false,false,false,false,false,false] rfl rfl (any_of HT_.out (by kernel_rfl)) (fun _ _ _ h => h) (Or.inr ⟨by rfl,rfl⟩) ?_ ?_
         rotate_left
         ·simp only [Act.put,List.setIfInBounds_toArray,List.set_cons_zero,List.set_cons_succ,i64_w,i32_w]
          rfl
         refine pure_ (i:=18) (N:=some 59) (v:=undef) (a':=?_) #[true,true,true,true,true,true,true,true,true,true,true,true,true,true,true,true,true,true,true,false,false,false,false,false] rfl rfl (any_of HT_.out (by kernel_rfl)) (fun _ _ _ h => h) (Or.inr ⟨by rfl,rfl⟩) ?_ ?_
         rotate_left
         ·simp only [Act.put,List.setIfInBounds_toArray,List.set_cons_zero,List.set_cons_succ,i64_w,i32_w]
          rfl
         refine pure_ (i:=19) (N:=some 60) (v:=undef) (a':=?_) #[true,true,true,true,true,true,true,true,true,true,true,true,true,true,true,true,true,true,true,true,false,false,false,false] rfl rfl (any_of HT_.out (by kernel_rfl)) (fun _ _ _ h => h) (Or.inr ⟨by rfl,rfl⟩) ?_ ?_
         rotate_left
         ·simp only [Act.put,List.setIfInBounds_toArray,List.set_cons_zero,List.set_cons_succ,i64_w,i32_w]
          rfl
         refine pure_ (i:=20) (N:=some 61) (v:=undef) (a':=?_) #[true,true,true,true,true,true,true,true,true,true,true,true,true,true,true,true,true,true,true,true,true,false,false,false] rfl rfl (any_of HT_.out (by kernel_rfl)) (fun _ _ _ h => h) (Or.inr ⟨by rfl,rfl⟩) ?_ ?_
         rotate_left
         ·simp only [Act.put,List.setIfInBounds_toArray,List.set_cons_zero,List.set_cons_succ,i64_w,i32_w]
          rfl
         refine pure_ (i:=21) (N:=some 62) (v:=undef) (a':=?_) #[true,true,true,true,true,true,true,true,true,true,true,true,true,true,true,true,true,true,true,true,true,true,false,false] rfl rfl (any_of HT_.out (by kernel_rfl)) (fun _ _ _ h => h) (Or.inr ⟨by rfl,rfl⟩) ?_ ?_
         rotate_left
         ·simp only [Act.put,List.setIfInBounds_toArray,List.set_cons_zero,List.set_cons_succ,i64_w,i32_w]
          rfl
         refine pure_ (i:=22) (N:=some 63) (v:=?_) (a':=?_) #[true,true,true,true,true,true,true,true,true,true,true,true,true,true,true,true,true,true,true,true,true,true,true,false] rfl rfl (any_of HT_.out (by kernel_rfl)) (fun _ _ _ h => h) (Or.inl ⟨by rfl,?_⟩) ?_ ?_
         rotate_left
         ·intro w'
          go_simp
          with_reducible rfl
         rotate_left
         ·simp only [Act.put,List.setIfInBounds_toArray,List.set_cons_zero,List.set_cons_succ,i64_w,i32_w]
          rfl
         refine pure_ (i:=23) (N:=some 40) (v:=?_) (a':=?_) #[true,true,true,true,true,true,true,true,true,true,true,true,true,true,true,true,true,true,true,true,true,true,true,true] rfl rfl (any_of HT_.out (by kernel_rfl)) (fun _ _ _ h => h) (Or.inl ⟨by rfl,?_⟩) ?_ ?_
         rotate_left
         ·intro w'
          go_simp
          with_reducible rfl
         rotate_left
         ·simp only [Act.put,List.setIfInBounds_toArray,List.set_cons_zero,List.set_cons_succ,i64_w,i32_w]
          rfl
         refine done_ (done_of HT_.out (by kernel_rfl)) ?_
         try go_wp2
         go_meet
         case rel => exact ⟨_,(true),(by first|rfl|(simp;done)|(simp [*];done)|(simp [*,Go.Proofs.Ytghlellambnkeaa.Str.bne_nil];done)),H',⟨by have:=HK1.out;have:=HJ7.out;first|omega|exact Nat.le_refl _⟩,⟨by (with_reducible repeat (first|apply Kd.R_alloc|apply Kd.R_drewN|apply Kd.R_drew));exact HO_5.out⟩,⟨by repeat (first|(with_reducible first|exact HB.out|apply xA|apply xN|apply xD)|exact HB.out)⟩⟩
        ·rw [if_neg c12] at H
         have c12b0 : (x7_1 == (l1.length : Int)) = false:=beq_eq_false_iff_ne.mpr c12
         have c12b1 : (x7_1 != (l1.length : Int)) = true:=bne_iff_ne.mpr c12
         (first|rw [c12b0]|(simp only [i64_w,i32_w];rw [c12b0])|skip)
         by_cases c14 : x6_1 < (l0.length : Int)
         ·rw [if_pos c14] at H
          have c14b0 : decide (x6_1 < (l0.length : Int)) = true:=decide_eq_true c14
          clear c14
          by_cases c15 : 0 ≤ x6_1
          ·rw [if_pos c15] at H
           have c15b0 : decide (0 ≤ x6_1) = true:=decide_eq_true c15
           clear c15
           by_cases c16 : 0 ≤ x7_1
           ·rw [if_pos c16] at H
            have c16b0 : decide (0 ≤ x7_1) = true:=decide_eq_true c16
            clear c16
            by_cases c17 : x7_1 < (l1.length : Int)
            ·rw [if_pos c17] at H
             have c17b0 : decide (x7_1 < (l1.length : Int)) = true:=decide_eq_true c17
             clear c17
             have H':=Aside0.mk H
             clear H
             try go_wp2
             replace HO_5:=Aside0.mk (Kd.R_drew HO_5.out)
             replace HB:=Aside0.mk (below_drew1 HB.out)
             have p121 : 0 ≤ (x6_1 : Int):=of_decide_eq_true (by first|(with_reducible assumption)|assumption)
             have q121 : x6_1 < (l0.length : Int):=of_decide_eq_true (by first|(with_reducible assumption)|assumption)
             obtain ⟨ad121,e121,hx121_0,hx121_1,hx121_2,hx121_3,hx121_4⟩:=at_T44 HR0.out x6_1 p121 q121
             have hw121_4:=hx121_4
             have hw121_3:=hx121_3
             have hw121_2:=hx121_2
             have hw121_1:=hx121_1
             have hw121_0:=hx121_0
             cases e121
             replace hx121_0:=(HB.out.cell (World.block_lt_of_cell? w _ hx121_0)).trans hx121_0
             replace hx121_1:=(HB.out.cell (World.block_lt_of_cell? w _ hx121_1)).trans hx121_1
             replace hx121_2:=(HB.out.cell (World.block_lt_of_cell? w _ hx121_2)).trans hx121_2
             replace hx121_3:=(HB.out.cell (World.block_lt_of_cell? w _ hx121_3)).trans hx121_3
             replace hx121_4:=(HB.out.cell (World.block_lt_of_cell? w _ hx121_4)).trans hx121_4
             replace p121:=eq_true p121
             replace q121:=eq_true q121
             have p122 : 0 ≤ (x7_1 : Int):=of_decide_eq_true (by first|(with_reducible assumption)|assumption)
             have q122 : x7_1 < (l1.length : Int):=of_decide_eq_true (by first|(with_reducible assumption)|assumption)
             obtain ⟨ad122,e122,hx122_0,hx122_1,hx122_2,hx122_3,hx122_4⟩:=at_T44 HR1.out x7_1 p122 q122
             have hw122_4:=hx122_4
             have hw122_3:=hx122_3
             have hw122_2:=hx122_2
             have hw122_1:=hx122_1
             have hw122_0:=hx122_0
             cases e122
             replace hx122_0:=(HB.out.cell (World.block_lt_of_cell? w _ hx122_0)).trans hx122_0
             replace hx122_1:=(HB.out.cell (World.block_lt_of_cell? w _ hx122_1)).trans hx122_1
             replace hx122_2:=(HB.out.cell (World.block_lt_of_cell? w _ hx122_2)).trans hx122_2
             replace hx122_3:=(HB.out.cell (World.block_lt_of_cell? w _ hx122_3)).trans hx122_3
             replace hx122_4:=(HB.out.cell (World.block_lt_of_cell? w _ hx122_4)).trans hx122_4
             replace p122:=eq_true p122
             replace q122:=eq_true q122
             refine start_ (n:=24) (S:=fun w' => w'.cell? (ad121.add ((x6_1).toNat * 5)) = some (.string ((rd_T44 l0 x6_1).f0)) ∧ w'.cell? ⟨(ad121.add ((x6_1).toNat * 5)).block,(ad121.add ((x6_1).toNat * 5)).off + 1,none⟩ = some (.int .i64 ((rd_T44 l0 x6_1).f1.f0)) ∧ w'.cell? ⟨(ad121.add ((x6_1).toNat * 5)).block,(ad121.add ((x6_1).toNat * 5)).off + 2,none⟩ = some (.int .i64 ((rd_T44 l0 x6_1).f1.f1)) ∧ w'.cell? ⟨(ad121.add ((x6_1).toNat * 5)).block,(ad121.add ((x6_1).toNat * 5)).off + 3,none⟩ = some (.string ((rd_T44 l0 x6_1).f2)) ∧ w'.cell? ⟨(ad121.add ((x6_1).toNat * 5)).block,(ad121.add ((x6_1).toNat * 5)).off + 4,none⟩ = some (.bool ((rd_T44 l0 x6_1).f3)) ∧ w'.cell? (ad122.add ((x7_1).toNat * 5)) = some (.string ((rd_T44 l1 x7_1).f0)) ∧ w'.cell? ⟨(ad122.add ((x7_1).toNat * 5)).block,(ad122.add ((x7_1).toNat * 5)).off + 1,none⟩ = some (.int .i64 ((rd_T44 l1 x7_1).f1.f0)) ∧ w'.cell? ⟨(ad122.add ((x7_1).toNat * 5)).block,(ad122.add ((x7_1).toNat * 5)).off + 2,none⟩ = some (.int .i64 ((rd_T44 l1 x7_1).f1.f1)) ∧ w'.cell? ⟨(ad122.add ((x7_1).toNat * 5)).block,(ad122.add ((x7_1).toNat * 5)).off + 3,none⟩ = some (.string ((rd_T44 l1 x7_1).f2)) ∧ w'.cell? ⟨(ad122.add ((x7_1).toNat * 5)).block,(ad122.add ((x7_1).toNat * 5)).off + 4,none⟩ = some (.bool ((rd_T44 l1 x7_1).f3))) (ds:=[]) #[false,false,false,false,false,false,false,false,false,false,false,false,false,false,false,false,false,false,false,false,false,false,false,false] (by kernel_rfl) rfl rfl ⟨((HB.out.cell (World.block_lt_of_cell? w _ hw121_0)).trans hw121_0),((HB.out.cell (World.block_lt_of_cell? w _ hw121_1)).trans hw121_1),((HB.out.cell (World.block_lt_of_cell? w _ hw121_2)).trans hw121_2),((HB.out.cell (World.block_lt_of_cell? w _ hw121_3)).trans hw121_3),((HB.out.cell (World.block_lt_of_cell? w _ hw121_4)).trans hw121_4),((HB.out.cell (World.block_lt_of_cell? w _ hw122_0)).trans hw122_0),((HB.out.cell (World.block_lt_of_cell? w _ hw122_1)).trans hw122_1),((HB.out.cell (World.block_lt_of_cell? w _ hw122_2)).trans hw122_2),((HB.out.cell (World.block_lt_of_cell? w _ hw122_3)).trans hw122_3),((HB.out.cell (World.block_lt_of_cell? w _ hw122_4)).trans hw122_4)⟩ (fun hHeld => ?_);refine with_tabW tidelineref09_Pairs.tab10 tidelineref09_Pairs.bits10 (fun HT_ HW_ => ?_)
             generalize wc.drew = w18 at HO_5 HB hx121_0 hx121_1 hx121_2 hx121_3 hx121_4 hx122_0 hx122_1 hx122_2 hx122_3 hx122_4 hHeld ⊢
             refine pure_ (i:=0) (N:=some 41) (v:=?_) (a':=?_) #[true,false,false,false,false,false,false,false,false,false,false,false,false,false,false,false,false,false,false,false,false,false,false,false] rfl rfl (any_of HT_.out (by kernel_rfl)) (fun _ _ _ h => h) (Or.inl ⟨by rfl,?_⟩) ?_ ?_
             rotate_left
             ·intro w'
              go_simp
              with_reducible rfl
             rotate_left
             ·simp only [Act.put,List.setIfInBounds_toArray,List.set_cons_zero,List.set_cons_succ,i64_w,i32_w]
              rfl
             refine pure_ (i:=1) (N:=some 42) (v:=?_) (a':=?_) #[true,true,false,false,false,false,false,false,false,false,false,false,false,false,false,false,false,false,false,false,false,false,false,false] rfl rfl (any_of HT_.out (by kernel_rfl)) (fun _ _ _ h => h) (Or.inl ⟨by rfl,?_⟩) ?_ ?_
             rotate_left
             ·intro w'
              go_simp
              with_reducible rfl
             rotate_left
             ·simp only [Act.put,List.setIfInBounds_toArray,List.set_cons_zero,List.set_cons_succ,i64_w,i32_w]
              rfl
             refine pure_ (i:=2) (N:=some 43) (v:=?_) (a':=?_) #[true,true,true,false,false,false,false,false,false,false,false,false,false,false,false,false,false,false,false,false,false,false,false,false] rfl rfl (any_of HT_.out (by kernel_rfl)) (fun _ _ _ h => h) (Or.inl ⟨by rfl,?_⟩) ?_ ?_
             rotate_left
             ·intro w'
              go_simp
              with_reducible rfl
             rotate_left
             ·simp only [Act.put,List.setIfInBounds_toArray,List.set_cons_zero,List.set_cons_succ,i64_w,i32_w]
              rfl
             refine pure_ (i:=3) (N:=some 44) (v:=?_) (a':=?_) #[true,true,true,true,false,false,false,false,false,false,false,false,false,false,false,false,false,false,false,false,false,false,false,false] rfl rfl (any_of HT_.out (by kernel_rfl)) (fun _ _ _ h => h) (Or.inl ⟨by rfl,?_⟩) ?_ ?_
             rotate_left
             ·intro w'
              go_simp
              with_reducible rfl
             rotate_left
             ·simp only [Act.put,List.setIfInBounds_toArray,List.set_cons_zero,List.set_cons_succ,i64_w,i32_w]
              rfl
             refine pure_ (i:=4) (N:=some 45) (v:=?_) (a':=?_) #[true,true,true,true,true,false,false,false,false,false,false,false,false,false,false,false,false,false,false,false,false,false,false,false] rfl rfl (any_of HT_.out (by kernel_rfl)) (fun _ _ _ h => h) (Or.inl ⟨by rfl,?_⟩) ?_ ?_
             rotate_left
             ·intro w'
              go_simp
              with_reducible rfl
             rotate_left
             ·simp only [Act.put,List.setIfInBounds_toArray,List.set_cons_zero,List.set_cons_succ,i64_w,i32_w]
              rfl
             refine pure_ (i:=5) (N:=some 46) (v:=?_) (a':=?_) #[true,true,true,true,true,true,false,false,false,false,false,false,false,false,false,false,false,false,false,false,false,false,false,false] rfl rfl (any_of HT_.out (by kernel_rfl)) (fun _ _ _ h => h) (Or.inl ⟨by rfl,?_⟩) ?_ ?_
             rotate_left
             ·intro w'
              go_simp
              with_reducible rfl
             rotate_left
             ·simp only [Act.put,List.setIfInBounds_toArray,List.set_cons_zero,List.set_cons_succ,i64_w,i32_w]
              rfl
             refine pure_ (i:=6) (N:=some 47) (v:=?_) (a':=?_) #[true,true,true,true,true,true,true,false,false,false,false,false,false,false,false,false,false,false,false,false,false,false,false,false] rfl rfl (any_of HT_.out (by kernel_rfl)) (fun _ _ _ h => h) (Or.inl ⟨by rfl,?_⟩) ?_ ?_
             rotate_left
             ·intro w'
              go_simp
              with_reducible rfl
             rotate_left
             ·simp only [Act.put,List.setIfInBounds_toArray,List.set_cons_zero,List.set_cons_succ,i64_w,i32_w]
              rfl
             refine pure_ (i:=7) (N:=some 48) (v:=?_) (a':=?_) #[true,true,true,true,true,true,true,true,false,false,false,false,false,false,false,false,false,false,false,false,false,false,false,false] rfl rfl (any_of HT_.out (by kernel_rfl)) (fun _ _ _ h => h) (Or.inl ⟨by rfl,?_⟩) ?_ ?_
             rotate_left
             ·intro w'
              go_simp
              with_reducible rfl
             rotate_left
             ·simp only [Act.put,List.setIfInBounds_toArray,List.set_cons_zero,List.set_cons_succ,i64_w,i32_w]
              rfl
             refine pure_ (i:=8) (N:=some 49) (v:=?_) (a':=?_) #[true,true,true,true,true,true,true,true,true,false,false,false,false,false,false,false,false,false,false,false,false,false,false,false] rfl rfl (any_of HT_.out (by kernel_rfl)) (fun _ _ _ h => h) (Or.inl ⟨by rfl,?_⟩) ?_ ?_
             rotate_left
             ·intro w'
              go_simp
              with_reducible rfl
             rotate_left
             ·simp only [Act.put,List.setIfInBounds_toArray,List.set_cons_zero,List.set_cons_succ,i64_w,i32_w]
              rfl
             refine pure_ (i:=9) (N:=some 50) (v:=?_) (a':=?_) #[true,true,true,true,true,true,true,true,true,true,false,false,false,false,false,false,false,false,false,false,false,false,false,false] rfl rfl (any_of HT_.out (by kernel_rfl)) (fun _ _ _ h => h) (Or.inl ⟨by rfl,?_⟩) ?_ ?_
             rotate_left
             ·intro w'
              go_simp
              with_reducible rfl
             rotate_left
             ·simp only [Act.put,List.setIfInBounds_toArray,List.set_cons_zero,List.set_cons_succ,i64_w,i32_w]
              rfl
             refine pure_ (i:=10) (N:=some 51) (v:=?_) (a':=?_) #[true,true,true,true,true,true,true,true,true,true,true,false,false,false,false,false,false,false,false,false,false,false,false,false] rfl rfl (any_of HT_.out (by kernel_rfl)) (fun _ _ _ h => h) (Or.inl ⟨by rfl,?_⟩) ?_ ?_
             rotate_left
             ·intro w'
              go_simp
              with_reducible rfl
             rotate_left
             ·simp only [Act.put,List.setIfInBounds_toArray,List.set_cons_zero,List.set_cons_succ,i64_w,i32_w]
              rfl
             refine pure_ (i:=11) (N:=some 52) (v:=?_) (a':=?_) #[true,true,true,true,true,true,true,true,true,true,true,true,false,false,false,false,false,false,false,false,false,false,false,false] rfl rfl (any_of HT_.out (by kernel_rfl)) (fun _ _ _ h => h) (Or.inl ⟨by rfl,?_⟩) ?_ ?_
             rotate_left
             ·intro w'
              go_simp
              with_reducible rfl
             rotate_left
             ·simp only [Act.put,List.setIfInBounds_toArray,List.set_cons_zero,List.set_cons_succ,i64_w,i32_w]
              rfl
             refine pure_ (i:=12) (N:=some 53) (v:=?_) (a':=?_) #[true,true,true,true,true,true,true,true,true,true,true,true,true,false,false,false,false,false,false,false,false,false,false,false] rfl rfl (any_of HT_.out (by kernel_rfl)) (fun _ _ _ h => h) (Or.inl ⟨by rfl,?_⟩) ?_ ?_
             rotate_left
             ·intro w'
              go_simp
              with_reducible rfl
             rotate_left
             ·simp only [Act.put,List.setIfInBounds_toArray,List.set_cons_zero,List.set_cons_succ,i64_w,i32_w]
              rfl
             refine pure_ (i:=13) (N:=some 54) (v:=?_) (a':=?_) #[true,true,true,true,true,true,true,true,true,true,true,true,true,true,false,false,false,false,false,false,false,false,false,false] rfl rfl (any_of HT_.out (by kernel_rfl)) (fun _ _ _ h => h) (Or.inl ⟨by rfl,?_⟩) ?_ ?_
             rotate_left
             ·intro w'
              go_simp
              with_reducible rfl
             rotate_left
             ·simp only [Act.put,List.setIfInBounds_toArray,List.set_cons_zero,List.set_cons_succ,i64_w,i32_w]
              rfl
             refine pure_ (i:=15) (N:=some 56) (v:=?_) (a':=?_) #[true,true,true,true,true,true,true,true,true,true,true,true,true,true,false,true,false,false,false,false,false,false,false,false] rfl rfl (any_of HT_.out (by kernel_rfl)) (fun _ _ _ h => h) (Or.inl ⟨by rfl,?_⟩) ?_ ?_
             rotate_left
             ·intro w'
              go_simp
              with_reducible rfl
             rotate_left
             ·simp only [Act.put,List.setIfInBounds_toArray,List.set_cons_zero,List.set_cons_succ,i64_w,i32_w]
              rfl
             refine pure_ (i:=16) (N:=some 57) (v:=?_) (a':=?_) #[true,true,true,true,true,true,true,true,true,true,true,true,true,true,false,true,true,false,false,false,false,false,false,false] rfl rfl (any_of HT_.out (by kernel_rfl)) (fun _ _ _ h => h) (Or.inl ⟨by rfl,?_⟩) ?_ ?_
             rotate_left
             ·intro w'
              go_simp
              with_reducible rfl
             rotate_left
             ·simp only [Act.put,List.setIfInBounds_toArray,List.set_cons_zero,List.set_cons_succ,i64_w,i32_w]
              rfl
             refine pure_ (i:=17) (N:=some 58) (v:=?_) (a':=?_) #[true,true,true,true,true,true,true,true,true,true,true,true,true,true,false,true,true,true,false,false,false,false,false,false] rfl rfl (any_of HT_.out (by kernel_rfl)) (fun _ _ _ h => h) (Or.inl ⟨by rfl,?_⟩) ?_ ?_
             rotate_left
             ·intro w'
              go_simp
              with_reducible rfl
             rotate_left
             ·simp only [Act.put,List.setIfInBounds_toArray,List.set_cons_zero,List.set_cons_succ,i64_w,i32_w]
              rfl
             refine pure_ (i:=18) (N:=some 59) (v:=?_) (a':=?_) #[true,true,true,true,true,true,true,true,true,true,true,true,true,true,false,true,true,true,true,false,false,false,false,false] rfl rfl (any_of HT_.out (by kernel_rfl)) (fun _ _ _ h => h) (Or.inl ⟨by rfl,?_⟩) ?_ ?_
             rotate_left
             ·intro w'
              go_simp
              with_reducible rfl
             rotate_left
             ·simp only [Act.put,List.setIfInBounds_toArray,List.set_cons_zero,List.set_cons_succ,i64_w,i32_w]
              rfl
             refine take_ (i:=14) (N:=some 55) (v:=?_) (a':=?_) #[true,true,true,true,true,true,true,true,true,true,true,true,true,true,true,true,true,true,true,false,false,false,false,false] rfl rfl (take_ofW HT_.out HW_.out (by kernel_rfl)) (fun _ _ _ h => h) (Or.inl ⟨by rfl,?_⟩) hHeld ?_ ?_
             rotate_left
             ·rintro w' ⟨s0,s1,s2,s3,s4,s5,s6,s7,s8,s9⟩
              go_simp
              with_reducible rfl
             rotate_left
             ·simp only [Act.put,List.setIfInBounds_toArray,List.set_cons_zero,List.set_cons_succ,i64_w,i32_w]
              rfl
             refine take_ (i:=19) (N:=some 60) (v:=?_) (a':=?_) #[true,true,true,true,true,true,true,true,true,true,true,true,true,true,true,true,true,true,true,true,false,false,false,false] rfl rfl (take_ofW HT_.out HW_.out (by kernel_rfl)) (fun _ _ _ h => h) (Or.inl ⟨by rfl,?_⟩) hHeld ?_ ?_
             rotate_left
             ·rintro w' ⟨s0,s1,s2,s3,s4,s5,s6,s7,s8,s9⟩
              go_simp
              with_reducible rfl
             rotate_left
             ·simp only [Act.put,List.setIfInBounds_toArray,List.set_cons_zero,List.set_cons_succ,i64_w,i32_w]
              rfl
             refine pure_ (i:=20) (N:=some 61) (v:=?_) (a':=?_) #[true,true,true,true,true,true,true,true,true,true,true,true,true,true,true,true,true,true,true,true,true,false,false,false] rfl rfl (any_of HT_.out (by kernel_rfl)) (fun _ _ _ h => h) (Or.inl ⟨by rfl,?_⟩) ?_ ?_
             rotate_left
             ·intro w'
              go_simp
              with_reducible rfl
             rotate_left
             ·simp only [Act.put,List.setIfInBounds_toArray,List.set_cons_zero,List.set_cons_succ,i64_w,i32_w]
              rfl
             refine pure_ (i:=21) (N:=some 62) (v:=?_) (a':=?_) #[true,true,true,true,true,true,true,true,true,true,true,true,true,true,true,true,true,true,true,true,true,true,false,false] rfl rfl (any_of HT_.out (by kernel_rfl)) (fun _ _ _ h => h) (Or.inl ⟨by rfl,?_⟩) ?_ ?_
             rotate_left
             ·intro w'
              go_simp
              with_reducible rfl
             rotate_left
             ·simp only [Act.put,List.setIfInBounds_toArray,List.set_cons_zero,List.set_cons_succ,i64_w,i32_w]
              rfl
             refine pure_ (i:=22) (N:=some 63) (v:=?_) (a':=?_) #[true,true,true,true,true,true,true,true,true,true,true,true,true,true,true,true,true,true,true,true,true,true,true,false] rfl rfl (any_of HT_.out (by kernel_rfl)) (fun _ _ _ h => h) (Or.inl ⟨by rfl,?_⟩) ?_ ?_
             rotate_left
             ·intro w'
              go_simp
              with_reducible rfl
             rotate_left
             ·simp only [Act.put,List.setIfInBounds_toArray,List.set_cons_zero,List.set_cons_succ,i64_w,i32_w]
              rfl
             refine pure_ (i:=23) (N:=some 40) (v:=?_) (a':=?_) #[true,true,true,true,true,true,true,true,true,true,true,true,true,true,true,true,true,true,true,true,true,true,true,true] rfl rfl (any_of HT_.out (by kernel_rfl)) (fun _ _ _ h => h) (Or.inl ⟨by rfl,?_⟩) ?_ ?_
             rotate_left
             ·intro w'
              go_simp
              with_reducible rfl
             rotate_left
             ·simp only [Act.put,List.setIfInBounds_toArray,List.set_cons_zero,List.set_cons_succ,i64_w,i32_w]
              rfl
             refine done_ (done_of HT_.out (by kernel_rfl)) ?_
             try go_wp2
             go_meet
             case rel => exact ⟨_,((Op.bytesLess (((rd_T44 l0 x6_1).f0).toList) (((rd_T44 l1 x7_1).f0).toList))),(by first|rfl|(simp;done)|(simp [*];done)|(simp [*,Go.Proofs.Ytghlellambnkeaa.Str.bne_nil];done)),H',⟨by have:=HK1.out;have:=HJ7.out;first|omega|exact Nat.le_refl _⟩,⟨by (with_reducible repeat (first|apply Kd.R_alloc|apply Kd.R_drewN|apply Kd.R_drew));exact HO_5.out⟩,⟨by repeat (first|(with_reducible first|exact HB.out|apply xA|apply xN|apply xD)|exact HB.out)⟩⟩
            ·rw [if_neg c17] at H
             exact absurd H (by simp)
           ·rw [if_neg c16] at H
            exact absurd H (by simp)
          ·rw [if_neg c15] at H
           exact absurd H (by simp)
         ·rw [if_neg c14] at H
          have c14b0 : decide (x6_1 < (l0.length : Int)) = false:=decide_eq_false c14
          clear c14
          have H':=Aside0.mk H
          clear H
          try go_wp2
          replace HO_5:=Aside0.mk (Kd.R_drew HO_5.out)
          replace HB:=Aside0.mk (below_drew1 HB.out)
          refine start_ (n:=24) (S:=fun w' => True) (ds:=[]) #[false,false,false,false,false,false,false,false,false,false,false,false,false,false,false,false,false,false,false,false,false,false,false,false] (by kernel_rfl) rfl rfl trivial (fun hHeld => ?_);refine with_tabW tidelineref09_Pairs.tab10 tidelineref09_Pairs.bits10 (fun HT_ HW_ => ?_)
          generalize wc.drew = w19 at HO_5 HB hHeld ⊢
          refine pure_ (i:=0) (N:=some 41) (v:=?_) (a':=?_) #[true,false,false,false,false,false,false,false,false,false,false,false,false,false,false,false,false,false,false,false,false,false,false,false] rfl rfl (any_of HT_.out (by kernel_rfl)) (fun _ _ _ h => h) (Or.inl ⟨by rfl,?_⟩) ?_ ?_
          rotate_left
          ·intro w'
           go_simp
           with_reducible rfl
          rotate_left
          ·simp only [Act.put,List.setIfInBounds_toArray,List.set_cons_zero,List.set_cons_succ,i64_w,i32_w]
           rfl
          refine pure_ (i:=1) (N:=some 42) (v:=?_) (a':=?_) #[true,true,false,false,false,false,false,false,false,false,false,false,false,false,false,false,false,false,false,false,false,false,false,false] rfl rfl (any_of HT_.out (by kernel_rfl)) (fun _ _ _ h => h) (Or.inl ⟨by rfl,?_⟩) ?_ ?_
          rotate_left
          ·intro w'
           go_simp
           with_reducible rfl
          rotate_left
          ·simp only [Act.put,List.setIfInBounds_toArray,List.set_cons_zero,List.set_cons_succ,i64_w,i32_w]
           rfl
          refine pure_ (i:=2) (N:=some 43) (v:=?_) (a':=?_) #[true,true,true,false,false,false,false,false,false,false,false,false,false,false,false,false,false,false,false,false,false,false,false,false] rfl rfl (any_of HT_.out (by kernel_rfl)) (fun _ _ _ h => h) (Or.inl ⟨by rfl,?_⟩) ?_ ?_
          rotate_left
          ·intro w'
           go_simp
           with_reducible rfl
          rotate_left
          ·simp only [Act.put,List.setIfInBounds_toArray,List.set_cons_zero,List.set_cons_succ,i64_w,i32_w]
           rfl
          refine pure_ (i:=3) (N:=some 44) (v:=?_) (a':=?_) #[true,true,true,true,false,false,false,false,false,false,false,false,false,false,false,false,false,false,false,false,false,false,false,false] rfl rfl (any_of HT_.out (by kernel_rfl)) (fun _ _ _ h => h) (Or.inl ⟨by rfl,?_⟩) ?_ ?_
          rotate_left
          ·intro w'
           go_simp
           with_reducible rfl
          rotate_left
          ·simp only [Act.put,List.setIfInBounds_toArray,List.set_cons_zero,List.set_cons_succ,i64_w,i32_w]
           rfl
          refine pure_ (i:=4) (N:=some 45) (v:=?_) (a':=?_) #[true,true,true,true,true,false,false,false,false,false,false,false,false,false,false,false,false,false,false,false,false,false,false,false] rfl rfl (any_of HT_.out (by kernel_rfl)) (fun _ _ _ h => h) (Or.inl ⟨by rfl,?_⟩) ?_ ?_
          rotate_left
          ·intro w'
           go_simp
           with_reducible rfl
          rotate_left
          ·simp only [Act.put,List.setIfInBounds_toArray,List.set_cons_zero,List.set_cons_succ,i64_w,i32_w]
           rfl
          refine pure_ (i:=5) (N:=some 46) (v:=?_) (a':=?_) #[true,true,true,true,true,true,false,false,false,false,false,false,false,false,false,false,false,false,false,false,false,false,false,false] rfl rfl (any_of HT_.out (by kernel_rfl)) (fun _ _ _ h => h) (Or.inl ⟨by rfl,?_⟩) ?_ ?_
          rotate_left
          ·intro w'
           go_simp
           with_reducible rfl
          rotate_left
          ·simp only [Act.put,List.setIfInBounds_toArray,List.set_cons_zero,List.set_cons_succ,i64_w,i32_w]
           rfl
          refine pure_ (i:=6) (N:=some 47) (v:=?_) (a':=?_) #[true,true,true,true,true,true,true,false,false,false,false,false,false,false,false,false,false,false,false,false,false,false,false,false] rfl rfl (any_of HT_.out (by kernel_rfl)) (fun _ _ _ h => h) (Or.inl ⟨by rfl,?_⟩) ?_ ?_
          rotate_left
          ·intro w'
           go_simp
           with_reducible rfl
          rotate_left
          ·simp only [Act.put,List.setIfInBounds_toArray,List.set_cons_zero,List.set_cons_succ,i64_w,i32_w]
           rfl
          refine pure_ (i:=7) (N:=some 48) (v:=?_) (a':=?_) #[true,true,true,true,true,true,true,true,false,false,false,false,false,false,false,false,false,false,false,false,false,false,false,false] rfl rfl (any_of HT_.out (by kernel_rfl)) (fun _ _ _ h => h) (Or.inl ⟨by rfl,?_⟩) ?_ ?_
          rotate_left
          ·intro w'
           go_simp
           with_reducible rfl
          rotate_left
          ·simp only [Act.put,List.setIfInBounds_toArray,List.set_cons_zero,List.set_cons_succ,i64_w,i32_w]
           rfl
          refine pure_ (i:=8) (N:=some 49) (v:=?_) (a':=?_) #[true,true,true,true,true,true,true,true,true,false,false,false,false,false,false,false,false,false,false,false,false,false,false,false] rfl rfl (any_of HT_.out (by kernel_rfl)) (fun _ _ _ h => h) (Or.inl ⟨by rfl,?_⟩) ?_ ?_
          rotate_left
          ·intro w'
           go_simp
           with_reducible rfl
          rotate_left
          ·simp only [Act.put,List.setIfInBounds_toArray,List.set_cons_zero,List.set_cons_succ,i64_w,i32_w]
           rfl
          refine pure_ (i:=9) (N:=some 50) (v:=?_) (a':=?_) #[true,true,true,true,true,true,true,true,true,true,false,false,false,false,false,false,false,false,false,false,false,false,false,false] rfl rfl (any_of HT_.out (by kernel_rfl)) (fun _ _ _ h => h) (Or.inl ⟨by rfl,?_⟩) ?_ ?_
          rotate_left
          ·intro w'
           go_simp
           with_reducible rfl
          rotate_left
          ·simp only [Act.put,List.setIfInBounds_toArray,List.set_cons_zero,List.set_cons_succ,i64_w,i32_w]
           rfl
          refine pure_ (i:=10) (N:=some 51) (v:=undef) (a':=?_) #[true,true,true,true,true,true,true,true,true,true,true,false,false,false,false,false,false,false,false,false,false,false,false,false] rfl rfl (any_of HT_.out (by kernel_rfl)) (fun _ _ _ h => h) (Or.inr ⟨by rfl,rfl⟩) ?_ ?_
          rotate_left
          ·simp only [Act.put,List.setIfInBounds_toArray,List.set_cons_zero,List.set_cons_succ,i64_w,i32_w]
           rfl
          refine pure_ (i:=11) (N:=some 52) (v:=undef) (a':=?_) #[true,true,true,true,true,true,true,true,true,true,true,true,false,false,false,false,false,false,false,false,false,false,false,false] rfl rfl (any_of HT_.out (by kernel_rfl)) (fun _ _ _ h => h) (Or.inr ⟨by rfl,rfl⟩) ?_ ?_
          rotate_left
          ·simp only [Act.put,List.setIfInBounds_toArray,List.set_cons_zero,List.set_cons_succ,i64_w,i32_w]
           rfl
          refine pure_ (i:=12) (N:=some 53) (v:=undef) (a':=?_) #[true,true,true,true,true,true,true,true,true,true,true,true,true,false,false,false,false,false,false,false,false,false,false,false] rfl rfl (any_of HT_.out (by kernel_rfl)) (fun _ _ _ h => h) (Or.inr ⟨by rfl,rfl⟩) ?_ ?_
          rotate_left
          ·simp only [Act.put,List.setIfInBounds_toArray,List.set_cons_zero,List.set_cons_succ,i64_w,i32_w]
           rfl
          refine pure_ (i:=13) (N:=some 54) (v:=undef) (a':=?_) #[true,true,true,true,true,true,true,true,true,true,true,true,true,true,false,false,false,false,false,false,false,false,false,false] rfl rfl (any_of HT_.out (by kernel_rfl)) (fun _ _ _ h => h) (Or.inr ⟨by rfl,rfl⟩) ?_ ?_
          rotate_left
          ·simp only [Act.put,List.setIfInBounds_toArray,List.set_cons_zero,List.set_cons_succ,i64_w,i32_w]
           rfl
          refine pure_ (i:=14) (N:=some 55) (v:=undef) (a':=?_) #[true,true,true,true,true,true,true,true,true,true,true,true,true,true,true,false,false,false,false,false,false,false,false,false] rfl rfl (any_of HT_.out (by kernel_rfl)) (fun _ _ _ h => h) (Or.inr ⟨by rfl,rfl⟩) ?_ ?_
          rotate_left
          ·simp only [Act.put,List.setIfInBounds_toArray,List.set_cons_zero,List.set_cons_succ,i64_w,i32_w]
           rfl
          refine pure_ (i:=15) (N:=some 56) (v:=undef) (a':=?_) #[true,true,true,true,true,true,true,true,true,true,true,true,true,true,true,true,false,false,false,false,false,false,false,false] rfl rfl (any_of HT_.out (by kernel_rfl)) (fun _ _ _ h => h) (Or.inr ⟨by rfl,rfl⟩) ?_ ?_
          rotate_left
          ·simp only [Act.put,List.setIfInBounds_toArray,List.set_cons_zero,List.set_cons_succ,i64_w,i32_w]
           rfl
          refine pure_ (i:=16) (N:=some 57) (v:=undef) (a':=?_) #[true,true,true,true,true,true,true,true,true,true,true,true,true,true,true,true,true,false,false,false,false,false,false,false] rfl rfl (any_of HT_.out (by kernel_rfl)) (fun _ _ _ h => h) (Or.inr ⟨by rfl,rfl⟩) ?_ ?_
          rotate_left
          ·simp only [Act.put,List.setIfInBounds_toArray,List.set_cons_zero,List.set_cons_succ,i64_w,i32_w]
           rfl
          refine pure_ (i:=17) (N:=some 58) (v:=undef) (a':=?_) #[true,true,true,true,true,true,true,true,true,true,true,true,true,true,true,true,true,true,false,false,false,false,false,false] rfl rfl (any_of HT_.out (by kernel_rfl)) (fun _ _ _ h => h) (Or.inr ⟨by rfl,rfl⟩) ?_ ?_
          rotate_left
          ·simp only [Act.put,List.setIfInBounds_toArray,List.set_cons_zero,List.set_cons_succ,i64_w,i32_w]
           rfl
          refine pure_ (i:=18) (N:=some 59) (v:=undef) (a':=?_) #[true,true,true,true,true,true,true,true,true,true,true,true,true,true,true,true,true,true,true,false,false,false,false,false] rfl rfl (any_of HT_.out (by kernel_rfl)) (fun _ _ _ h => h) (Or.inr ⟨by rfl,rfl⟩) ?_ ?_
          rotate_left
          ·simp only [Act.put,List.setIfInBounds_toArray,List.set_cons_zero,List.set_cons_succ,i64_w,i32_w]
           rfl
          refine pure_ (i:=19) (N:=some 60) (v:=undef) (a':=?_) #[true,true,true,true,true,true,true,true,true,true,true,true,true,true,true,true,true,true,true,true,false,false,false,false] rfl rfl (any_of HT_.out (by kernel_rfl)) (fun _ _ _ h => h) (Or.inr ⟨by rfl,rfl⟩) ?_ ?_
          rotate_left
          ·simp only [Act.put,List.setIfInBounds_toArray,List.set_cons_zero,List.set_cons_succ,i64_w,i32_w]
           rfl
          refine pure_ (i:=20) (N:=some 61) (v:=undef) (a':=?_) #[true,true,true,true,true,true,true,true,true,true,true,true,true,true,true,true,true,true,true,true,true,false,false,false] rfl rfl (any_of HT_.out (by kernel_rfl)) (fun _ _ _ h => h) (Or.inr ⟨by rfl,rfl⟩) ?_ ?_
          rotate_left
          ·simp only [Act.put,List.setIfInBounds_toArray,List.set_cons_zero,List.set_cons_succ,i64_w,i32_w]
           rfl
          refine pure_ (i:=21) (N:=some 62) (v:=?_) (a':=?_) #[true,true,true,true,true,true,true,true,true,true,true,true,true,true,true,true,true,true,true,true,true,true,false,false] rfl rfl (any_of HT_.out (by kernel_rfl)) (fun _ _ _ h => h) (Or.inl ⟨by rfl,?_⟩) ?_ ?_
          rotate_left
          ·intro w'
           go_simp
           with_reducible rfl
          rotate_left
          ·simp only [Act.put,List.setIfInBounds_toArray,List.set_cons_zero,List.set_cons_succ,i64_w,i32_w]
           rfl
          refine pure_ (i:=22) (N:=some 63) (v:=?_) (a':=?_) #[true,true,true,true,true,true,true,true,true,true,true,true,true,true,true,true,true,true,true,true,true,true,true,false] rfl rfl (any_of HT_.out (by kernel_rfl)) (fun _ _ _ h => h) (Or.inl ⟨by rfl,?_⟩) ?_ ?_
          rotate_left
          ·intro w'
           go_simp
           with_reducible rfl
          rotate_left
          ·simp only [Act.put,List.setIfInBounds_toArray,List.set_cons_zero,List.set_cons_succ,i64_w,i32_w]
           rfl
          refine pure_ (i:=23) (N:=some 40) (v:=?_) (a':=?_) #[true,true,true,true,true,true,true,true,true,true,true,true,true,true,true,true,true,true,true,true,true,true,true,true] rfl rfl (any_of HT_.out (by kernel_rfl)) (fun _ _ _ h => h) (Or.inl ⟨by rfl,?_⟩) ?_ ?_
          rotate_left
          ·intro w'
           go_simp
           with_reducible rfl
          rotate_left
          ·simp only [Act.put,List.setIfInBounds_toArray,List.set_cons_zero,List.set_cons_succ,i64_w,i32_w]
           rfl
          refine done_ (done_of HT_.out (by kernel_rfl)) ?_
          try go_wp2
          go_meet
          case rel => exact ⟨_,(false),(by first|rfl|(simp;done)|(simp [*];done)|(simp [*,Go.Proofs.Ytghlellambnkeaa.Str.bne_nil];done)),H',⟨by have:=HK1.out;have:=HJ7.out;first|omega|exact Nat.le_refl _⟩,⟨by (with_reducible repeat (first|apply Kd.R_alloc|apply Kd.R_drewN|apply Kd.R_drew));exact HO_5.out⟩,⟨by repeat (first|(with_reducible first|exact HB.out|apply xA|apply xN|apply xD)|exact HB.out)⟩⟩
       case rest =>
        clear HC11
        try clear c1
        try clear p1
        try clear q1
        try clear hx1
        try clear p2
        try clear c10
        try clear c12
        try clear c12b0
        try clear c12b1
        try clear p12
        try clear q12
        try clear hx12
        try clear c14
        try clear c14b0
        try clear c15
        try clear c15b0
        try clear c16
        try clear c16b0
        try clear c17
        try clear c17b0
        try clear hx121_0
        try clear hx121_1
        try clear hx121_2
        try clear hx121_3
        try clear hx121_4
        try clear hx122_0
        try clear hx122_1
        try clear hx122_2
        try clear hx122_3
        try clear hx122_4
        try clear p121
        try clear p122
        try clear q121
        try clear q122
        obtain ⟨kq,x40_10,rfl,HA,HJ10,HO_5,HB⟩:=hcut
        cases kq with
       |zero => exact absurd HA.out (by simp [tidelineref09_Pairs.j2])
       |succ kj10 =>
         have H:=HA.out
         clear HA
         simp only [tidelineref09_Pairs.j2] at H
         by_cases c20 : x40_10 = true
         ·subst c20
          have H1 : (if 0 ≤ x6_1 then (if x6_1 < (l0.length : Int) then (if x5_1.length < 1256584717458 then (tidelineref09_Pairs.l0 kj10 l0 l1 (x5_1 ++ [(⟨(⟨(rd_T44 l0 x6_1).f0,(⟨(rd_T44 l0 x6_1).f1.f0,(rd_T44 l0 x6_1).f1.f1⟩ : S42),(rd_T44 l0 x6_1).f2,(rd_T44 l0 x6_1).f3⟩ : S44),(⟨(⟨#[]⟩ : ByteArray),(⟨0,0⟩ : S42),(⟨#[]⟩ : ByteArray),false⟩ : S44)⟩ : S46)]) (wrap64 (x6_1 + 1)) x7_1) else (none)) else (none)) else (none)) = some r:=by rw [if_pos rfl] at H;exact H
          clear H
          have H:=H1
          clear H1
          by_cases c21 : 0 ≤ x6_1
          ·rw [if_pos c21] at H
           have c21b0 : decide (0 ≤ x6_1) = true:=decide_eq_true c21
           clear c21
           by_cases c22 : x6_1 < (l0.length : Int)
           ·rw [if_pos c22] at H
            have c22b0 : decide (x6_1 < (l0.length : Int)) = true:=decide_eq_true c22
            clear c22
            by_cases c23 : x5_1.length < 1256584717458
            ·rw [if_pos c23] at H
             have LMc23:=Aside0.mk c23
             clear c23
             obtain ⟨y124,hy124⟩ : ∃ y_ : List (S46),y_ = (x5_1 ++ [(⟨(⟨(rd_T44 l0 x6_1).f0,(⟨(rd_T44 l0 x6_1).f1.f0,(rd_T44 l0 x6_1).f1.f1⟩ : S42),(rd_T44 l0 x6_1).f2,(rd_T44 l0 x6_1).f3⟩ : S44),(⟨(⟨#[]⟩ : ByteArray),(⟨0,0⟩ : S42),(⟨#[]⟩ : ByteArray),false⟩ : S44)⟩ : S46)]):=⟨_,rfl⟩
             replace H : (tidelineref09_Pairs.l0 kj10 l0 l1 y124 (wrap64 (x6_1 + 1)) x7_1) = some r:=by first|(rw [hy124];with_reducible exact H)|(have H2_:=(Option.bind_some _ _).symm.trans H;rw [hy124];with_reducible exact H2_)|(have H2_:=(Option.bind_some _ _).symm.trans H;with_reducible exact H2_)|with_reducible exact H|(rw [hy124];exact H)|exact H
             have Ny124:=Aside0.mk hy124
             clear hy124
             have H':=Aside0.mk H
             clear H
             have p123 : 0 ≤ (x6_1 : Int):=of_decide_eq_true (by first|(with_reducible assumption)|assumption)
             have q123 : x6_1 < (l0.length : Int):=of_decide_eq_true (by first|(with_reducible assumption)|assumption)
             obtain ⟨ad123,e123,hx123_0,hx123_1,hx123_2,hx123_3,hx123_4⟩:=at_T44 HR0.out x6_1 p123 q123
             cases e123
             replace hx123_0:=(HB.out.cell (World.block_lt_of_cell? w _ hx123_0)).trans hx123_0
             replace hx123_1:=(HB.out.cell (World.block_lt_of_cell? w _ hx123_1)).trans hx123_1
             replace hx123_2:=(HB.out.cell (World.block_lt_of_cell? w _ hx123_2)).trans hx123_2
             replace hx123_3:=(HB.out.cell (World.block_lt_of_cell? w _ hx123_3)).trans hx123_3
             replace hx123_4:=(HB.out.cell (World.block_lt_of_cell? w _ hx123_4)).trans hx123_4
             replace p123:=eq_true p123
             replace q123:=eq_true q123
             go_wp2_with (first|((with_reducible refine gate_builtin (b:=.append) (xs:=#[.tmp 64,.tmp 70]) rfl ?_);(try (refine gate_guard (by rfl) ?_;dsimp only));at_builtin;refine Kd.R_append k46 (w0:=w) w.heap.size rfl (.tmp 64) (.tmp 70) 36 46 (.agg #[(.string ⟨#[]⟩),(.int .i64 0),(.int .i64 0),(.string ⟨#[]⟩),(.bool false),(.string ⟨#[]⟩),(.int .i64 0),(.int .i64 0),(.string ⟨#[]⟩),(.bool false)]) 112 rfl Try.underlying36 info46 rfl (by decide) (by omega) u5 x5_1 (⟨(⟨(rd_T44 l0 x6_1).f0,(⟨(rd_T44 l0 x6_1).f1.f0,(rd_T44 l0 x6_1).f1.f1⟩ : S42),(rd_T44 l0 x6_1).f2,(rd_T44 l0 x6_1).f3⟩ : S44),(⟨(⟨#[]⟩ : ByteArray),(⟨0,0⟩ : S42),(⟨#[]⟩ : ByteArray),false⟩ : S44)⟩ : S46) [.string ((rd_T44 l0 x6_1).f0),.int .i64 ((rd_T44 l0 x6_1).f1.f0),.int .i64 ((rd_T44 l0 x6_1).f1.f1),.string ((rd_T44 l0 x6_1).f2),.bool ((rd_T44 l0 x6_1).f3),.string (⟨#[]⟩ : ByteArray),.int .i64 0,.int .i64 0,.string (⟨#[]⟩ : ByteArray),.bool false] (fun _ => True) (fun _ => False) rfl rfl ?aP (fun _ hk => hk.elim) ?aF ?aO ?aB ?aS ?aL ?_;(case aP => exact k46_mkM _ _ _ (⟨(⟨(rd_T44 l0 x6_1).f0,(⟨(rd_T44 l0 x6_1).f1.f0,(rd_T44 l0 x6_1).f1.f1⟩ : S42),(rd_T44 l0 x6_1).f2,(rd_T44 l0 x6_1).f3⟩ : S44),(⟨(⟨#[]⟩ : ByteArray),(⟨0,0⟩ : S42),(⟨#[]⟩ : ByteArray),false⟩ : S44)⟩ : S46));(case aB => exact (by repeat (first|(with_reducible first|exact HB.out|apply xA|apply xN|apply xD)|exact HB.out)));(case aF => exact (fun _ _ => trivial));(case aO => exact (by (with_reducible repeat (first|apply Kd.R_alloc|apply Kd.R_drewN|apply Kd.R_drew));exact HO_5.out));(case aS => exact (below_size (by repeat (first|(with_reducible first|exact HB.out|apply xA|apply xN|apply xD)|exact HB.out))));(case aL => have:=LMc23.out;omega);intro v125 w24 ho hb hg hat;rw [← Ny124.out] at ho;have n0_:=Aside0.mk (hb);have n1_:=Aside0.mk (ho);clear HB;clear HO_5;have HB:=n0_;have HO126:=n1_;clear n0_ n1_;clear ho hb hg hat))
             go_roundg kj10
             case measure => have:=HK1.out;have:=HJ7.out;have:=HJ10.out;omega
             case rel => exact ⟨(y124),(wrap64 (x6_1 + 1)),(x7_1),(by first|rfl|(simp;done)|(simp [*];done)|(simp [*,Go.Proofs.Ytghlellambnkeaa.Str.bne_nil];done)),(by first|rfl|(simp;done)|(simp [*];done)|(simp [*,Go.Proofs.Ytghlellambnkeaa.Str.bne_nil];done)),H',⟨by have:=HK1.out;have:=HJ7.out;have:=HJ10.out;omega⟩,⟨by (with_reducible repeat (first|apply Kd.R_alloc|apply Kd.R_drewN|apply Kd.R_drew));exact HO126.out⟩,⟨by repeat (first|(with_reducible first|exact HB.out|apply xA|apply xN|apply xD)|exact HB.out)⟩⟩
            ·rw [if_neg c23] at H
             exact absurd H (by simp)
           ·rw [if_neg c22] at H
            exact absurd H (by simp)
          ·rw [if_neg c21] at H
           exact absurd H (by simp)
         ·replace c20:=Bool.eq_false_iff.mpr c20
          subst c20
          have H1 : (if x6_1 = (l0.length : Int) then (if 0 ≤ x7_1 then (if x7_1 < (l1.length : Int) then (if x5_1.length < 1256584717458 then (tidelineref09_Pairs.l0 kj10 l0 l1 (x5_1 ++ [(⟨(⟨(⟨#[]⟩ : ByteArray),(⟨0,0⟩ : S42),(⟨#[]⟩ : ByteArray),false⟩ : S44),(⟨(rd_T44 l1 x7_1).f0,(⟨(rd_T44 l1 x7_1).f1.f0,(rd_T44 l1 x7_1).f1.f1⟩ : S42),(rd_T44 l1 x7_1).f2,(rd_T44 l1 x7_1).f3⟩ : S44)⟩ : S46)]) x6_1 (wrap64 (x7_1 + 1))) else (none)) else (none)) else (none)) else (if 0 ≤ x7_1 then (if x7_1 < (l1.length : Int) then (if 0 ≤ x6_1 then (if x6_1 < (l0.length : Int) then (if (Op.bytesLess (((rd_T44 l1 x7_1).f0).toList) (((rd_T44 l0 x6_1).f0).toList)) = true then (if x5_1.length < 1256584717458 then (tidelineref09_Pairs.l0 kj10 l0 l1 (x5_1 ++ [(⟨(⟨(⟨#[]⟩ : ByteArray),(⟨0,0⟩ : S42),(⟨#[]⟩ : ByteArray),false⟩ : S44),(⟨(rd_T44 l1 x7_1).f0,(⟨(rd_T44 l1 x7_1).f1.f0,(rd_T44 l1 x7_1).f1.f1⟩ : S42),(rd_T44 l1 x7_1).f2,(rd_T44 l1 x7_1).f3⟩ : S44)⟩ : S46)]) x6_1 (wrap64 (x7_1 + 1))) else (none)) else (if x5_1.length < 1256584717458 then (tidelineref09_Pairs.l0 kj10 l0 l1 (x5_1 ++ [(⟨(⟨(rd_T44 l0 x6_1).f0,(⟨(rd_T44 l0 x6_1).f1.f0,(rd_T44 l0 x6_1).f1.f1⟩ : S42),(rd_T44 l0 x6_1).f2,(rd_T44 l0 x6_1).f3⟩ : S44),(⟨(rd_T44 l1 x7_1).f0,(⟨(rd_T44 l1 x7_1).f1.f0,(rd_T44 l1 x7_1).f1.f1⟩ : S42),(rd_T44 l1 x7_1).f2,(rd_T44 l1 x7_1).f3⟩ : S44)⟩ : S46)]) (wrap64 (x6_1 + 1)) (wrap64 (x7_1 + 1))) else (none))) else (none)) else (none)) else (none)) else (none))) = some r:=by rw [if_neg (show ¬ (false = true) by decide)] at H;exact H
          clear H
          have H:=H1
          clear H1
          by_cases c25 : x6_1 = (l0.length : Int)
          ·rw [if_pos c25] at H
           have c25b0 : (x6_1 == (l0.length : Int)) = true:=beq_iff_eq.mpr c25
           have c25b1 : (x6_1 != (l0.length : Int)) = false:=bne_eq_false_iff_eq.mpr c25
           clear c25
           by_cases c26 : 0 ≤ x7_1
           ·rw [if_pos c26] at H
            have c26b0 : decide (0 ≤ x7_1) = true:=decide_eq_true c26
            clear c26
            by_cases c27 : x7_1 < (l1.length : Int)
            ·rw [if_pos c27] at H
             have c27b0 : decide (x7_1 < (l1.length : Int)) = true:=decide_eq_true c27
             clear c27
             by_cases c28 : x5_1.length < 1256584717458
             ·rw [if_pos c28] at H
              have LMc28:=Aside0.mk c28
              clear c28
              obtain ⟨y128,hy128⟩ : ∃ y_ : List (S46),y_ = (x5_1 ++ [(⟨(⟨(⟨#[]⟩ : ByteArray),(⟨0,0⟩ : S42),(⟨#[]⟩ : ByteArray),false⟩ : S44),(⟨(rd_T44 l1 x7_1).f0,(⟨(rd_T44 l1 x7_1).f1.f0,(rd_T44 l1 x7_1).f1.f1⟩ : S42),(rd_T44 l1 x7_1).f2,(rd_T44 l1 x7_1).f3⟩ : S44)⟩ : S46)]):=⟨_,rfl⟩
              replace H : (tidelineref09_Pairs.l0 kj10 l0 l1 y128 x6_1 (wrap64 (x7_1 + 1))) = some r:=by first|(rw [hy128];with_reducible exact H)|(have H2_:=(Option.bind_some _ _).symm.trans H;rw [hy128];with_reducible exact H2_)|(have H2_:=(Option.bind_some _ _).symm.trans H;with_reducible exact H2_)|with_reducible exact H|(rw [hy128];exact H)|exact H
              have Ny128:=Aside0.mk hy128
              clear hy128
              have H':=Aside0.mk H
              clear H
              try go_wp2
              replace HO_5:=Aside0.mk (Kd.R_drew HO_5.out)
              replace HB:=Aside0.mk (below_drew1 HB.out)
              refine start_ (n:=18) (S:=fun w' => True) (ds:=[]) #[false,false,false,false,false,false,false,false,false,false,false,false,false,false,false,false,false,false] (by kernel_rfl) rfl rfl trivial (fun hHeld => ?_);refine with_tabW tidelineref09_Pairs.tab13 tidelineref09_Pairs.bits13 (fun HT_ HW_ => ?_)
              generalize wc.drew = w29 at HO_5 HB hHeld ⊢
              refine pure_ (i:=0) (N:=some 75) (v:=?_) (a':=?_) #[true,false,false,false,false,false,false,false,false,false,false,false,false,false,false,false,false,false] rfl rfl (any_of HT_.out (by kernel_rfl)) (fun _ _ _ h => h) (Or.inl ⟨by rfl,?_⟩) ?_ ?_
              rotate_left
              ·intro w'
               go_simp
               with_reducible rfl
              rotate_left
              ·simp only [Act.put,List.setIfInBounds_toArray,List.set_cons_zero,List.set_cons_succ,i64_w,i32_w]
               rfl
              refine pure_ (i:=1) (N:=some 76) (v:=?_) (a':=?_) #[true,true,false,false,false,false,false,false,false,false,false,false,false,false,false,false,false,false] rfl rfl (any_of HT_.out (by kernel_rfl)) (fun _ _ _ h => h) (Or.inl ⟨by rfl,?_⟩) ?_ ?_
              rotate_left
              ·intro w'
               go_simp
               with_reducible rfl
              rotate_left
              ·simp only [Act.put,List.setIfInBounds_toArray,List.set_cons_zero,List.set_cons_succ,i64_w,i32_w]
               rfl
              refine pure_ (i:=2) (N:=some 77) (v:=?_) (a':=?_) #[true,true,true,false,false,false,false,false,false,false,false,false,false,false,false,false,false,false] rfl rfl (any_of HT_.out (by kernel_rfl)) (fun _ _ _ h => h) (Or.inl ⟨by rfl,?_⟩) ?_ ?_
              rotate_left
              ·intro w'
               go_simp
               with_reducible rfl
              rotate_left
              ·simp only [Act.put,List.setIfInBounds_toArray,List.set_cons_zero,List.set_cons_succ,i64_w,i32_w]
               rfl
              refine pure_ (i:=3) (N:=some 78) (v:=?_) (a':=?_) #[true,true,true,true,false,false,false,false,false,false,false,false,false,false,false,false,false,false] rfl rfl (any_of HT_.out (by kernel_rfl)) (fun _ _ _ h => h) (Or.inl ⟨by rfl,?_⟩) ?_ ?_
              rotate_left
              ·intro w'
               go_simp
               with_reducible rfl
              rotate_left
              ·simp only [Act.put,List.setIfInBounds_toArray,List.set_cons_zero,List.set_cons_succ,i64_w,i32_w]
               rfl
              refine pure_ (i:=4) (N:=some 79) (v:=?_) (a':=?_) #[true,true,true,true,true,false,false,false,false,false,false,false,false,false,false,false,false,false] rfl rfl (any_of HT_.out (by kernel_rfl)) (fun _ _ _ h => h) (Or.inl ⟨by rfl,?_⟩) ?_ ?_
              rotate_left
              ·intro w'
               go_simp
               with_reducible rfl
              rotate_left
              ·simp only [Act.put,List.setIfInBounds_toArray,List.set_cons_zero,List.set_cons_succ,i64_w,i32_w]
               rfl
              refine pure_ (i:=5) (N:=some 80) (v:=undef) (a':=?_) #[true,true,true,true,true,true,false,false,false,false,false,false,false,false,false,false,false,false] rfl rfl (any_of HT_.out (by kernel_rfl)) (fun _ _ _ h => h) (Or.inr ⟨by rfl,rfl⟩) ?_ ?_
              rotate_left
              ·simp only [Act.put,List.setIfInBounds_toArray,List.set_cons_zero,List.set_cons_succ,i64_w,i32_w]
               rfl
              refine pure_ (i:=6) (N:=some 81) (v:=undef) (a':=?_) #[true,true,true,true,true,true,true,false,false,false,false,false,false,false,false,false,false,false] rfl rfl (any_of HT_.out (by kernel_rfl)) (fun _ _ _ h => h) (Or.inr ⟨by rfl,rfl⟩) ?_ ?_
              rotate_left
              ·simp only [Act.put,List.setIfInBounds_toArray,List.set_cons_zero,List.set_cons_succ,i64_w,i32_w]
               rfl
              refine pure_ (i:=7) (N:=some 82) (v:=undef) (a':=?_) #[true,true,true,true,true,true,true,true,false,false,false,false,false,false,false,false,false,false] rfl rfl (any_of HT_.out (by kernel_rfl)) (fun _ _ _ h => h) (Or.inr ⟨by rfl,rfl⟩) ?_ ?_
              rotate_left
              ·simp only [Act.put,List.setIfInBounds_toArray,List.set_cons_zero,List.set_cons_succ,i64_w,i32_w]
               rfl
              refine pure_ (i:=8) (N:=some 83) (v:=undef) (a':=?_) #[true,true,true,true,true,true,true,true,true,false,false,false,false,false,false,false,false,false] rfl rfl (any_of HT_.out (by kernel_rfl)) (fun _ _ _ h => h) (Or.inr ⟨by rfl,rfl⟩) ?_ ?_
              rotate_left
              ·simp only [Act.put,List.setIfInBounds_toArray,List.set_cons_zero,List.set_cons_succ,i64_w,i32_w]
               rfl
              refine pure_ (i:=9) (N:=some 84) (v:=undef) (a':=?_) #[true,true,true,true,true,true,true,true,true,true,false,false,false,false,false,false,false,false] rfl rfl (any_of HT_.out (by kernel_rfl)) (fun _ _ _ h => h) (Or.inr ⟨by rfl,rfl⟩) ?_ ?_
              rotate_left
              ·simp only [Act.put,List.setIfInBounds_toArray,List.set_cons_zero,List.set_cons_succ,i64_w,i32_w]
               rfl
              refine pure_ (i:=10) (N:=some 85) (v:=undef) (a':=?_) #[true,true,true,true,true,true,true,true,true,true,true,false,false,false,false,false,false,false] rfl rfl (any_of HT_.out (by kernel_rfl)) (fun _ _ _ h => h) (Or.inr ⟨by rfl,rfl⟩) ?_ ?_
              rotate_left
              ·simp only [Act.put,List.setIfInBounds_toArray,List.set_cons_zero,List.set_cons_succ,i64_w,i32_w]
               rfl
              refine pure_ (i:=11) (N:=some 86) (v:=undef) (a':=?_) #[true,true,true,true,true,true,true,true,true,true,true,true,false,false,false,false,false,false] rfl rfl (any_of HT_.out (by kernel_rfl)) (fun _ _ _ h => h) (Or.inr ⟨by rfl,rfl⟩) ?_ ?_
              rotate_left
              ·simp only [Act.put,List.setIfInBounds_toArray,List.set_cons_zero,List.set_cons_succ,i64_w,i32_w]
               rfl
              refine pure_ (i:=12) (N:=some 87) (v:=undef) (a':=?_) #[true,true,true,true,true,true,true,true,true,true,true,true,true,false,false,false,false,false] rfl rfl (any_of HT_.out (by kernel_rfl)) (fun _ _ _ h => h) (Or.inr ⟨by rfl,rfl⟩) ?_ ?_
              rotate_left
              ·simp only [Act.put,List.setIfInBounds_toArray,List.set_cons_zero,List.set_cons_succ,i64_w,i32_w]
               rfl
              refine pure_ (i:=13) (N:=some 88) (v:=undef) (a':=?_) #[true,true,true,true,true,true,true,true,true,true,true,true,true,true,false,false,false,false] rfl rfl (any_of HT_.out (by kernel_rfl)) (fun _ _ _ h => h) (Or.inr ⟨by rfl,rfl⟩) ?_ ?_
              rotate_left
              ·simp only [Act.put,List.setIfInBounds_toArray,List.set_cons_zero,List.set_cons_succ,i64_w,i32_w]
               rfl
              refine pure_ (i:=14) (N:=some 89) (v:=undef) (a':=?_) #[true,true,true,true,true,true,true,true,true,true,true,true,true,true,true,false,false,false] rfl rfl (any_of HT_.out (by kernel_rfl)) (fun _ _ _ h => h) (Or.inr ⟨by rfl,rfl⟩) ?_ ?_
              rotate_left
              ·simp only [Act.put,List.setIfInBounds_toArray,List.set_cons_zero,List.set_cons_succ,i64_w,i32_w]
               rfl
              refine pure_ (i:=15) (N:=some 90) (v:=undef) (a':=?_) #[true,true,true,true,true,true,true,true,true,true,true,true,true,true,true,true,false,false] rfl rfl (any_of HT_.out (by kernel_rfl)) (fun _ _ _ h => h) (Or.inr ⟨by rfl,rfl⟩) ?_ ?_
              rotate_left
              ·simp only [Act.put,List.setIfInBounds_toArray,List.set_cons_zero,List.set_cons_succ,i64_w,i32_w]
               rfl
              refine pure_ (i:=16) (N:=some 91) (v:=?_) (a':=?_) #[true,true,true,true,true,true,true,true,true,true,true,true,true,true,true,true,true,false] rfl rfl (any_of HT_.out (by kernel_rfl)) (fun _ _ _ h => h) (Or.inl ⟨by rfl,?_⟩) ?_ ?_
              rotate_left
              ·intro w'
               go_simp
               with_reducible rfl
              rotate_left
              ·simp only [Act.put,List.setIfInBounds_toArray,List.set_cons_zero,List.set_cons_succ,i64_w,i32_w]
               rfl
              refine pure_ (i:=17) (N:=some 74) (v:=?_) (a':=?_) #[true,true,true,true,true,true,true,true,true,true,true,true,true,true,true,true,true,true] rfl rfl (any_of HT_.out (by kernel_rfl)) (fun _ _ _ h => h) (Or.inl ⟨by rfl,?_⟩) ?_ ?_
              rotate_left
              ·intro w'
               go_simp
               with_reducible rfl
              rotate_left
              ·simp only [Act.put,List.setIfInBounds_toArray,List.set_cons_zero,List.set_cons_succ,i64_w,i32_w]
               rfl
              refine done_ (done_of HT_.out (by kernel_rfl)) ?_
              have p127 : 0 ≤ (x7_1 : Int):=of_decide_eq_true (by first|(with_reducible assumption)|assumption)
              have q127 : x7_1 < (l1.length : Int):=of_decide_eq_true (by first|(with_reducible assumption)|assumption)
              obtain ⟨ad127,e127,hx127_0,hx127_1,hx127_2,hx127_3,hx127_4⟩:=at_T44 HR1.out x7_1 p127 q127
              cases e127
              replace hx127_0:=(HB.out.cell (World.block_lt_of_cell? w _ hx127_0)).trans hx127_0
              replace hx127_1:=(HB.out.cell (World.block_lt_of_cell? w _ hx127_1)).trans hx127_1
              replace hx127_2:=(HB.out.cell (World.block_lt_of_cell? w _ hx127_2)).trans hx127_2
              replace hx127_3:=(HB.out.cell (World.block_lt_of_cell? w _ hx127_3)).trans hx127_3
              replace hx127_4:=(HB.out.cell (World.block_lt_of_cell? w _ hx127_4)).trans hx127_4
              replace p127:=eq_true p127
              replace q127:=eq_true q127
              try go_wp2_with (first|((with_reducible refine gate_builtin (b:=.append) (xs:=#[.tmp 92,.tmp 98]) rfl ?_);(try (refine gate_guard (by rfl) ?_;dsimp only));at_builtin;refine Kd.R_append k46 (w0:=w) w.heap.size rfl (.tmp 92) (.tmp 98) 36 46 (.agg #[(.string ⟨#[]⟩),(.int .i64 0),(.int .i64 0),(.string ⟨#[]⟩),(.bool false),(.string ⟨#[]⟩),(.int .i64 0),(.int .i64 0),(.string ⟨#[]⟩),(.bool false)]) 112 rfl Try.underlying36 info46 rfl (by decide) (by omega) u5 x5_1 (⟨(⟨(⟨#[]⟩ : ByteArray),(⟨0,0⟩ : S42),(⟨#[]⟩ : ByteArray),false⟩ : S44),(⟨(rd_T44 l1 x7_1).f0,(⟨(rd_T44 l1 x7_1).f1.f0,(rd_T44 l1 x7_1).f1.f1⟩ : S42),(rd_T44 l1 x7_1).f2,(rd_T44 l1 x7_1).f3⟩ : S44)⟩ : S46) [.string (⟨#[]⟩ : ByteArray),.int .i64 0,.int .i64 0,.string (⟨#[]⟩ : ByteArray),.bool false,.string ((rd_T44 l1 x7_1).f0),.int .i64 ((rd_T44 l1 x7_1).f1.f0),.int .i64 ((rd_T44 l1 x7_1).f1.f1),.string ((rd_T44 l1 x7_1).f2),.bool ((rd_T44 l1 x7_1).f3)] (fun _ => True) (fun _ => False) rfl rfl ?aP (fun _ hk => hk.elim) ?aF ?aO ?aB ?aS ?aL ?_;(case aP => exact k46_mkM _ _ _ (⟨(⟨(⟨#[]⟩ : ByteArray),(⟨0,0⟩ : S42),(⟨#[]⟩ : ByteArray),false⟩ : S44),(⟨(rd_T44 l1 x7_1).f0,(⟨(rd_T44 l1 x7_1).f1.f0,(rd_T44 l1 x7_1).f1.f1⟩ : S42),(rd_T44 l1 x7_1).f2,(rd_T44 l1 x7_1).f3⟩ : S44)⟩ : S46));(case aB => exact (by repeat (first|(with_reducible first|exact HB.out|apply xA|apply xN|apply xD)|exact HB.out)));(case aF => exact (fun _ _ => trivial));(case aO => exact (by (with_reducible repeat (first|apply Kd.R_alloc|apply Kd.R_drewN|apply Kd.R_drew));exact HO_5.out));(case aS => exact (below_size (by repeat (first|(with_reducible first|exact HB.out|apply xA|apply xN|apply xD)|exact HB.out))));(case aL => have:=LMc28.out;omega);intro v129 w30 ho hb hg hat;rw [← Ny128.out] at ho;have n0_:=Aside0.mk (hb);have n1_:=Aside0.mk (ho);clear HB;clear HO_5;have HB:=n0_;have HO130:=n1_;clear n0_ n1_;clear ho hb hg hat))
              go_roundg kj10
              case measure => have:=HK1.out;have:=HJ7.out;have:=HJ10.out;omega
              case rel => exact ⟨(y128),(x6_1),(wrap64 (x7_1 + 1)),(by first|rfl|(simp;done)|(simp [*];done)|(simp [*,Go.Proofs.Ytghlellambnkeaa.Str.bne_nil];done)),(by first|rfl|(simp;done)|(simp [*];done)|(simp [*,Go.Proofs.Ytghlellambnkeaa.Str.bne_nil];done)),H',⟨by have:=HK1.out;have:=HJ7.out;have:=HJ10.out;omega⟩,⟨by (with_reducible repeat (first|apply Kd.R_alloc|apply Kd.R_drewN|apply Kd.R_drew));exact HO130.out⟩,⟨by repeat (first|(with_reducible first|exact HB.out|apply xA|apply xN|apply xD)|exact HB.out)⟩⟩
             ·rw [if_neg c28] at H
              exact absurd H (by simp)
            ·rw [if_neg c27] at H
             exact absurd H (by simp)
           ·rw [if_neg c26] at H
            exact absurd H (by simp)
          ·rw [if_neg c25] at H
           have c25b0 : (x6_1 == (l0.length : Int)) = false:=beq_eq_false_iff_ne.mpr c25
           have c25b1 : (x6_1 != (l0.length : Int)) = true:=bne_iff_ne.mpr c25
           by_cases c31 : 0 ≤ x7_1
           ·rw [if_pos c31] at H
            have c31b0 : decide (0 ≤ x7_1) = true:=decide_eq_true c31
            clear c31
            by_cases c32 : x7_1 < (l1.length : Int)
            ·rw [if_pos c32] at H
             have c32b0 : decide (x7_1 < (l1.length : Int)) = true:=decide_eq_true c32
             clear c32
             by_cases c33 : 0 ≤ x6_1
             ·rw [if_pos c33] at H
              have c33b0 : decide (0 ≤ x6_1) = true:=decide_eq_true c33
              clear c33
              by_cases c34 : x6_1 < (l0.length : Int)
              ·rw [if_pos c34] at H
               have c34b0 : decide (x6_1 < (l0.length : Int)) = true:=decide_eq_true c34
               clear c34
               by_cases c35 : (Op.bytesLess (((rd_T44 l1 x7_1).f0).toList) (((rd_T44 l0 x6_1).f0).toList)) = true
               ·rw [if_pos c35] at H
                have c35b0 : (Op.bytesLess (((rd_T44 l1 x7_1).f0).toList) (((rd_T44 l0 x6_1).f0).toList)) = true:=c35
                clear c35
                by_cases c36 : x5_1.length < 1256584717458
                ·rw [if_pos c36] at H
                 have LMc36:=Aside0.mk c36
                 clear c36
                 obtain ⟨y134,hy134⟩ : ∃ y_ : List (S46),y_ = (x5_1 ++ [(⟨(⟨(⟨#[]⟩ : ByteArray),(⟨0,0⟩ : S42),(⟨#[]⟩ : ByteArray),false⟩ : S44),(⟨(rd_T44 l1 x7_1).f0,(⟨(rd_T44 l1 x7_1).f1.f0,(rd_T44 l1 x7_1).f1.f1⟩ : S42),(rd_T44 l1 x7_1).f2,(rd_T44 l1 x7_1).f3⟩ : S44)⟩ : S46)]):=⟨_,rfl⟩
                 replace H : (tidelineref09_Pairs.l0 kj10 l0 l1 y134 x6_1 (wrap64 (x7_1 + 1))) = some r:=by first|(rw [hy134];with_reducible exact H)|(have H2_:=(Option.bind_some _ _).symm.trans H;rw [hy134];with_reducible exact H2_)|(have H2_:=(Option.bind_some _ _).symm.trans H;with_reducible exact H2_)|with_reducible exact H|(rw [hy134];exact H)|exact H
                 have Ny134:=Aside0.mk hy134
                 clear hy134
                 have H':=Aside0.mk H
                 clear H
                 try go_wp2
                 replace HO_5:=Aside0.mk (Kd.R_drew HO_5.out)
                 replace HB:=Aside0.mk (below_drew1 HB.out)
                 have p131 : 0 ≤ (x7_1 : Int):=of_decide_eq_true (by first|(with_reducible assumption)|assumption)
                 have q131 : x7_1 < (l1.length : Int):=of_decide_eq_true (by first|(with_reducible assumption)|assumption)
                 obtain ⟨ad131,e131,hx131_0,hx131_1,hx131_2,hx131_3,hx131_4⟩:=at_T44 HR1.out x7_1 p131 q131
                 have hw131_4:=hx131_4
                 have hw131_3:=hx131_3
                 have hw131_2:=hx131_2
                 have hw131_1:=hx131_1
                 have hw131_0:=hx131_0
                 cases e131
                 replace hx131_0:=(HB.out.cell (World.block_lt_of_cell? w _ hx131_0)).trans hx131_0
                 replace hx131_1:=(HB.out.cell (World.block_lt_of_cell? w _ hx131_1)).trans hx131_1
                 replace hx131_2:=(HB.out.cell (World.block_lt_of_cell? w _ hx131_2)).trans hx131_2
                 replace hx131_3:=(HB.out.cell (World.block_lt_of_cell? w _ hx131_3)).trans hx131_3
                 replace hx131_4:=(HB.out.cell (World.block_lt_of_cell? w _ hx131_4)).trans hx131_4
                 replace p131:=eq_true p131
                 replace q131:=eq_true q131
                 have p132 : 0 ≤ (x6_1 : Int):=of_decide_eq_true (by first|(with_reducible assumption)|assumption)
                 have q132 : x6_1 < (l0.length : Int):=of_decide_eq_true (by first|(with_reducible assumption)|assumption)
                 obtain ⟨ad132,e132,hx132_0,hx132_1,hx132_2,hx132_3,hx132_4⟩:=at_T44 HR0.out x6_1 p132 q132
                 have hw132_4:=hx132_4
                 have hw132_3:=hx132_3
                 have hw132_2:=hx132_2
                 have hw132_1:=hx132_1
                 have hw132_0:=hx132_0
                 cases e132
                 replace hx132_0:=(HB.out.cell (World.block_lt_of_cell? w _ hx132_0)).trans hx132_0
                 replace hx132_1:=(HB.out.cell (World.block_lt_of_cell? w _ hx132_1)).trans hx132_1
                 replace hx132_2:=(HB.out.cell (World.block_lt_of_cell? w _ hx132_2)).trans hx132_2
                 replace hx132_3:=(HB.out.cell (World.block_lt_of_cell? w _ hx132_3)).trans hx132_3
                 replace hx132_4:=(HB.out.cell (World.block_lt_of_cell? w _ hx132_4)).trans hx132_4
                 replace p132:=eq_true p132
                 replace q132:=eq_true q132
                 refine start_ (n:=18) (S:=fun w' => w'.cell? (ad131.add ((x7_1).toNat * 5)) = some (.string ((rd_T44 l1 x7_1).f0)) ∧ w'.cell? ⟨(ad131.add ((x7_1).toNat * 5)).block,(ad131.add ((x7_1).toNat * 5)).off + 1,none⟩ = some (.int .i64 ((rd_T44 l1 x7_1).f1.f0)) ∧ w'.cell? ⟨(ad131.add ((x7_1).toNat * 5)).block,(ad131.add ((x7_1).toNat * 5)).off + 2,none⟩ = some (.int .i64 ((rd_T44 l1 x7_1).f1.f1)) ∧ w'.cell? ⟨(ad131.add ((x7_1).toNat * 5)).block,(ad131.add ((x7_1).toNat * 5)).off + 3,none⟩ = some (.string ((rd_T44 l1 x7_1).f2)) ∧ w'.cell? ⟨(ad131.add ((x7_1).toNat * 5)).block,(ad131.add ((x7_1).toNat * 5)).off + 4,none⟩ = some (.bool ((rd_T44 l1 x7_1).f3)) ∧ w'.cell? (ad132.add ((x6_1).toNat * 5)) = some (.string ((rd_T44 l0 x6_1).f0)) ∧ w'.cell? ⟨(ad132.add ((x6_1).toNat * 5)).block,(ad132.add ((x6_1).toNat * 5)).off + 1,none⟩ = some (.int .i64 ((rd_T44 l0 x6_1).f1.f0)) ∧ w'.cell? ⟨(ad132.add ((x6_1).toNat * 5)).block,(ad132.add ((x6_1).toNat * 5)).off + 2,none⟩ = some (.int .i64 ((rd_T44 l0 x6_1).f1.f1)) ∧ w'.cell? ⟨(ad132.add ((x6_1).toNat * 5)).block,(ad132.add ((x6_1).toNat * 5)).off + 3,none⟩ = some (.string ((rd_T44 l0 x6_1).f2)) ∧ w'.cell? ⟨(ad132.add ((x6_1).toNat * 5)).block,(ad132.add ((x6_1).toNat * 5)).off + 4,none⟩ = some (.bool ((rd_T44 l0 x6_1).f3))) (ds:=[]) #[false,false,false,false,false,false,false,false,false,false,false,false,false,false,false,false,false,false] (by kernel_rfl) rfl rfl ⟨((HB.out.cell (World.block_lt_of_cell? w _ hw131_0)).trans hw131_0),((HB.out.cell (World.block_lt_of_cell? w _ hw131_1)).trans hw131_1),((HB.out.cell (World.block_lt_of_cell? w _ hw131_2)).trans hw131_2),((HB.out.cell (World.block_lt_of_cell? w _ hw131_3)).trans hw131_3),((HB.out.cell (World.block_lt_of_cell? w _ hw131_4)).trans hw131_4),((HB.out.cell (World.block_lt_of_cell? w _ hw132_0)).trans hw132_0),((HB.out.cell (World.block_lt_of_cell? w _ hw132_1)).trans hw132_1),((HB.out.cell (World.block_lt_of_cell? w _ hw132_2)).trans hw132_2),((HB.out.cell (World.block_lt_of_cell? w _ hw132_3)).trans hw132_3),((HB.out.cell (World.block_lt_of_cell? w _ hw132_4)).trans hw132_4)⟩ (fun hHeld => ?_);refine with_tabW tidelineref09_Pairs.tab13 tidelineref09_Pairs.bits13 (fun HT_ HW_ => ?_)
                 generalize wc.drew = w37 at HO_5 HB hx131_0 hx131_1 hx131_2 hx131_3 hx131_4 hx132_0 hx132_1 hx132_2 hx132_3 hx132_4 hHeld ⊢
                 refine pure_ (i:=0) (N:=some 75) (v:=?_) (a':=?_) #[true,false,false,false,false,false,false,false,false,false,false,false,false,false,false,false,false,false] rfl rfl (any_of HT_.out (by kernel_rfl)) (fun _ _ _ h => h) (Or.inl ⟨by rfl,?_⟩) ?_ ?_
                 rotate_left
                 ·intro w'
                  go_simp
                  with_reducible rfl
                 rotate_left
                 ·simp only [Act.put,List.setIfInBounds_toArray,List.set_cons_zero,List.set_cons_succ,i64_w,i32_w]
                  rfl
                 refine pure_ (i:=1) (N:=some 76) (v:=?_) (a':=?_) #[true,true,false,false,false,false,false,false,false,false,false,false,false,false,false,false,false,false] rfl rfl (any_of HT_.out (by kernel_rfl)) (fun _ _ _ h => h) (Or.inl ⟨by rfl,?_⟩) ?_ ?_
                 rotate_left
                 ·intro w'
                  go_simp
                  with_reducible rfl
                 rotate_left
                 ·simp only [Act.put,List.setIfInBounds_toArray,List.set_cons_zero,List.set_cons_succ,i64_w,i32_w]
                  rfl
                 refine pure_ (i:=2) (N:=some 77) (v:=?_) (a':=?_) #[true,true,true,false,false,false,false,false,false,false,false,false,false,false,false,false,false,false] rfl rfl (any_of HT_.out (by kernel_rfl)) (fun _ _ _ h => h) (Or.inl ⟨by rfl,?_⟩) ?_ ?_
                 rotate_left
                 ·intro w'
                  go_simp
                  with_reducible rfl
                 rotate_left
                 ·simp only [Act.put,List.setIfInBounds_toArray,List.set_cons_zero,List.set_cons_succ,i64_w,i32_w]
                  rfl
                 refine pure_ (i:=3) (N:=some 78) (v:=?_) (a':=?_) #[true,true,true,true,false,false,false,false,false,false,false,false,false,false,false,false,false,false] rfl rfl (any_of HT_.out (by kernel_rfl)) (fun _ _ _ h => h) (Or.inl ⟨by rfl,?_⟩) ?_ ?_
                 rotate_left
                 ·intro w'
                  go_simp
                  with_reducible rfl
                 rotate_left
                 ·simp only [Act.put,List.setIfInBounds_toArray,List.set_cons_zero,List.set_cons_succ,i64_w,i32_w]
                  rfl
                 refine pure_ (i:=4) (N:=some 79) (v:=?_) (a':=?_) #[true,true,true,true,true,false,false,false,false,false,false,false,false,false,false,false,false,false] rfl rfl (any_of HT_.out (by kernel_rfl)) (fun _ _ _ h => h) (Or.inl ⟨by rfl,?_⟩) ?_ ?_
                 rotate_left
                 ·intro w'
                  go_simp
                  with_reducible rfl
                 rotate_left
                 ·simp only [Act.put,List.setIfInBounds_toArray,List.set_cons_zero,List.set_cons_succ,i64_w,i32_w]
                  rfl
                 refine pure_ (i:=5) (N:=some 80) (v:=?_) (a':=?_) #[true,true,true,true,true,true,false,false,false,false,false,false,false,false,false,false,false,false] rfl rfl (any_of HT_.out (by kernel_rfl)) (fun _ _ _ h => h) (Or.inl ⟨by rfl,?_⟩) ?_ ?_
                 rotate_left
                 ·intro w'
                  go_simp
                  with_reducible rfl
                 rotate_left
                 ·simp only [Act.put,List.setIfInBounds_toArray,List.set_cons_zero,List.set_cons_succ,i64_w,i32_w]
                  rfl
                 refine pure_ (i:=6) (N:=some 81) (v:=?_) (a':=?_) #[true,true,true,true,true,true,true,false,false,false,false,false,false,false,false,false,false,false] rfl rfl (any_of HT_.out (by kernel_rfl)) (fun _ _ _ h => h) (Or.inl ⟨by rfl,?_⟩) ?_ ?_
                 rotate_left
                 ·intro w'
                  go_simp
                  with_reducible rfl
                 rotate_left
                 ·simp only [Act.put,List.setIfInBounds_toArray,List.set_cons_zero,List.set_cons_succ,i64_w,i32_w]
                  rfl
                 refine pure_ (i:=7) (N:=some 82) (v:=?_) (a':=?_) #[true,true,true,true,true,true,true,true,false,false,false,false,false,false,false,false,false,false] rfl rfl (any_of HT_.out (by kernel_rfl)) (fun _ _ _ h => h) (Or.inl ⟨by rfl,?_⟩) ?_ ?_
                 rotate_left
                 ·intro w'
                  go_simp
                  with_reducible rfl
                 rotate_left
                 ·simp only [Act.put,List.setIfInBounds_toArray,List.set_cons_zero,List.set_cons_succ,i64_w,i32_w]
                  rfl
                 refine pure_ (i:=8) (N:=some 83) (v:=?_) (a':=?_) #[true,true,true,true,true,true,true,true,true,false,false,false,false,false,false,false,false,false] rfl rfl (any_of HT_.out (by kernel_rfl)) (fun _ _ _ h => h) (Or.inl ⟨by rfl,?_⟩) ?_ ?_
                 rotate_left
                 ·intro w'
                  go_simp
                  with_reducible rfl
                 rotate_left
                 ·simp only [Act.put,List.setIfInBounds_toArray,List.set_cons_zero,List.set_cons_succ,i64_w,i32_w]
                  rfl
                 refine pure_ (i:=10) (N:=some 85) (v:=?_) (a':=?_) #[true,true,true,true,true,true,true,true,true,false,true,false,false,false,false,false,false,false] rfl rfl (any_of HT_.out (by kernel_rfl)) (fun _ _ _ h => h) (Or.inl ⟨by rfl,?_⟩) ?_ ?_
                 rotate_left
                 ·intro w'
                  go_simp
                  with_reducible rfl
                 rotate_left
                 ·simp only [Act.put,List.setIfInBounds_toArray,List.set_cons_zero,List.set_cons_succ,i64_w,i32_w]
                  rfl
                 refine pure_ (i:=11) (N:=some 86) (v:=?_) (a':=?_) #[true,true,true,true,true,true,true,true,true,false,true,true,false,false,false,false,false,false] rfl rfl (any_of HT_.out (by kernel_rfl)) (fun _ _ _ h => h) (Or.inl ⟨by rfl,?_⟩) ?_ ?_
                 rotate_left
                 ·intro w'
                  go_simp
                  with_reducible rfl
                 rotate_left
                 ·simp only [Act.put,List.setIfInBounds_toArray,List.set_cons_zero,List.set_cons_succ,i64_w,i32_w]
                  rfl
                 refine pure_ (i:=12) (N:=some 87) (v:=?_) (a':=?_) #[true,true,true,true,true,true,true,true,true,false,true,true,true,false,false,false,false,false] rfl rfl (any_of HT_.out (by kernel_rfl)) (fun _ _ _ h => h) (Or.inl ⟨by rfl,?_⟩) ?_ ?_
                 rotate_left
                 ·intro w'
                  go_simp
                  with_reducible rfl
                 rotate_left
                 ·simp only [Act.put,List.setIfInBounds_toArray,List.set_cons_zero,List.set_cons_succ,i64_w,i32_w]
                  rfl
                 refine pure_ (i:=13) (N:=some 88) (v:=?_) (a':=?_) #[true,true,true,true,true,true,true,true,true,false,true,true,true,true,false,false,false,false] rfl rfl (any_of HT_.out (by kernel_rfl)) (fun _ _ _ h => h) (Or.inl ⟨by rfl,?_⟩) ?_ ?_
                 rotate_left
                 ·intro w'
                  go_simp
                  with_reducible rfl
                 rotate_left
                 ·simp only [Act.put,List.setIfInBounds_toArray,List.set_cons_zero,List.set_cons_succ,i64_w,i32_w]
                  rfl
                 refine take_ (i:=9) (N:=some 84) (v:=?_) (a':=?_) #[true,true,true,true,true,true,true,true,true,true,true,true,true,true,false,false,false,false] rfl rfl (take_ofW HT_.out HW_.out (by kernel_rfl)) (fun _ _ _ h => h) (Or.inl ⟨by rfl,?_⟩) hHeld ?_ ?_
                 rotate_left
                 ·rintro w' ⟨s0,s1,s2,s3,s4,s5,s6,s7,s8,s9⟩
                  go_simp
                  with_reducible rfl
                 rotate_left
                 ·simp only [Act.put,List.setIfInBounds_toArray,List.set_cons_zero,List.set_cons_succ,i64_w,i32_w]
                  rfl
                 refine take_ (i:=14) (N:=some 89) (v:=?_) (a':=?_) #[true,true,true,true,true,true,true,true,true,true,true,true,true,true,true,false,false,false] rfl rfl (take_ofW HT_.out HW_.out (by kernel_rfl)) (fun _ _ _ h => h) (Or.inl ⟨by rfl,?_⟩) hHeld ?_ ?_
                 rotate_left
                 ·rintro w' ⟨s0,s1,s2,s3,s4,s5,s6,s7,s8,s9⟩
                  go_simp
                  with_reducible rfl
                 rotate_left
                 ·simp only [Act.put,List.setIfInBounds_toArray,List.set_cons_zero,List.set_cons_succ,i64_w,i32_w]
                  rfl
                 refine pure_ (i:=15) (N:=some 90) (v:=?_) (a':=?_) #[true,true,true,true,true,true,true,true,true,true,true,true,true,true,true,true,false,false] rfl rfl (any_of HT_.out (by kernel_rfl)) (fun _ _ _ h => h) (Or.inl ⟨by rfl,?_⟩) ?_ ?_
                 rotate_left
                 ·intro w'
                  go_simp
                  with_reducible rfl
                 rotate_left
                 ·simp only [Act.put,List.setIfInBounds_toArray,List.set_cons_zero,List.set_cons_succ,i64_w,i32_w]
                  rfl
                 refine pure_ (i:=16) (N:=some 91) (v:=?_) (a':=?_) #[true,true,true,true,true,true,true,true,true,true,true,true,true,true,true,true,true,false] rfl rfl (any_of HT_.out (by kernel_rfl)) (fun _ _ _ h => h) (Or.inl ⟨by rfl,?_⟩) ?_ ?_
                 rotate_left
                 ·intro w'
                  go_simp
                  with_reducible rfl
                 rotate_left
                 ·simp only [Act.put,List.setIfInBounds_toArray,List.set_cons_zero,List.set_cons_succ,i64_w,i32_w]
                  rfl
                 refine pure_ (i:=17) (N:=some 74) (v:=?_) (a':=?_) #[true,true,true,true,true,true,true,true,true,true,true,true,true,true,true,true,true,true] rfl rfl (any_of HT_.out (by kernel_rfl)) (fun _ _ _ h => h) (Or.inl ⟨by rfl,?_⟩) ?_ ?_
                 rotate_left
                 ·intro w'
                  go_simp
                  with_reducible rfl
                 rotate_left
                 ·simp only [Act.put,List.setIfInBounds_toArray,List.set_cons_zero,List.set_cons_succ,i64_w,i32_w]
                  rfl
                 refine done_ (done_of HT_.out (by kernel_rfl)) ?_
                 have p133 : 0 ≤ (x7_1 : Int):=of_decide_eq_true (by first|(with_reducible assumption)|assumption)
                 have q133 : x7_1 < (l1.length : Int):=of_decide_eq_true (by first|(with_reducible assumption)|assumption)
                 obtain ⟨ad133,e133,hx133_0,hx133_1,hx133_2,hx133_3,hx133_4⟩:=at_T44 HR1.out x7_1 p133 q133
                 obtain rfl : ad131 = ad133:=(by injection e133)
                 replace hx133_0:=(HB.out.cell (World.block_lt_of_cell? w _ hx133_0)).trans hx133_0
                 replace hx133_1:=(HB.out.cell (World.block_lt_of_cell? w _ hx133_1)).trans hx133_1
                 replace hx133_2:=(HB.out.cell (World.block_lt_of_cell? w _ hx133_2)).trans hx133_2
                 replace hx133_3:=(HB.out.cell (World.block_lt_of_cell? w _ hx133_3)).trans hx133_3
                 replace hx133_4:=(HB.out.cell (World.block_lt_of_cell? w _ hx133_4)).trans hx133_4
                 replace p133:=eq_true p133
                 replace q133:=eq_true q133
                 try go_wp2_with (first|((with_reducible refine gate_builtin (b:=.append) (xs:=#[.tmp 92,.tmp 98]) rfl ?_);(try (refine gate_guard (by rfl) ?_;dsimp only));at_builtin;refine Kd.R_append k46 (w0:=w) w.heap.size rfl (.tmp 92) (.tmp 98) 36 46 (.agg #[(.string ⟨#[]⟩),(.int .i64 0),(.int .i64 0),(.string ⟨#[]⟩),(.bool false),(.string ⟨#[]⟩),(.int .i64 0),(.int .i64 0),(.string ⟨#[]⟩),(.bool false)]) 112 rfl Try.underlying36 info46 rfl (by decide) (by omega) u5 x5_1 (⟨(⟨(⟨#[]⟩ : ByteArray),(⟨0,0⟩ : S42),(⟨#[]⟩ : ByteArray),false⟩ : S44),(⟨(rd_T44 l1 x7_1).f0,(⟨(rd_T44 l1 x7_1).f1.f0,(rd_T44 l1 x7_1).f1.f1⟩ : S42),(rd_T44 l1 x7_1).f2,(rd_T44 l1 x7_1).f3⟩ : S44)⟩ : S46) [.string (⟨#[]⟩ : ByteArray),.int .i64 0,.int .i64 0,.string (⟨#[]⟩ : ByteArray),.bool false,.string ((rd_T44 l1 x7_1).f0),.int .i64 ((rd_T44 l1 x7_1).f1.f0),.int .i64 ((rd_T44 l1 x7_1).f1.f1),.string ((rd_T44 l1 x7_1).f2),.bool ((rd_T44 l1 x7_1).f3)] (fun _ => True) (fun _ => False) rfl rfl ?aP (fun _ hk => hk.elim) ?aF ?aO ?aB ?aS ?aL ?_;(case aP => exact k46_mkM _ _ _ (⟨(⟨(⟨#[]⟩ : ByteArray),(⟨0,0⟩ : S42),(⟨#[]⟩ : ByteArray),false⟩ : S44),(⟨(rd_T44 l1 x7_1).f0,(⟨(rd_T44 l1 x7_1).f1.f0,(rd_T44 l1 x7_1).f1.f1⟩ : S42),(rd_T44 l1 x7_1).f2,(rd_T44 l1 x7_1).f3⟩ : S44)⟩ : S46));(case aB => exact (by repeat (first|(with_reducible first|exact HB.out|apply xA|apply xN|apply xD)|exact HB.out)));(case aF => exact (fun _ _ => trivial));(case aO => exact (by (with_reducible repeat (first|apply Kd.R_alloc|apply Kd.R_drewN|apply Kd.R_drew));exact HO_5.out));(case aS => exact (below_size (by repeat (first|(with_reducible first|exact HB.out|apply xA|apply xN|apply xD)|exact HB.out))));(case aL => have:=LMc36.out;omega);intro v135 w38 ho hb hg hat;rw [← Ny134.out] at ho;have n0_:=Aside0.mk (hb);have n1_:=Aside0.mk (ho);clear HB;clear HO_5;have HB:=n0_;have HO136:=n1_;clear n0_ n1_;clear ho hb hg hat))
                 go_roundg kj10
                 case measure => have:=HK1.out;have:=HJ7.out;have:=HJ10.out;omega
                 case rel => exact ⟨(y134),(x6_1),(wrap64 (x7_1 + 1)),(by first|rfl|(simp;done)|(simp [*];done)|(simp [*,Go.Proofs.Ytghlellambnkeaa.Str.bne_nil];done)),(by first|rfl|(simp;done)|(simp [*];done)|(simp [*,Go.Proofs.Ytghlellambnkeaa.Str.bne_nil];done)),H',⟨by have:=HK1.out;have:=HJ7.out;have:=HJ10.out;omega⟩,⟨by (with_reducible repeat (first|apply Kd.R_alloc|apply Kd.R_drewN|apply Kd.R_drew));exact HO136.out⟩,⟨by repeat (first|(with_reducible first|exact HB.out|apply xA|apply xN|apply xD)|exact HB.out)⟩⟩
                ·rw [if_neg c36] at H
                 exact absurd H (by simp)
               ·rw [if_neg c35] at H
                have c35b0 : (Op.bytesLess (((rd_T44 l1 x7_1).f0).toList) (((rd_T44 l0 x6_1).f0).toList)) = false:=by simpa using c35
                clear c35
                by_cases c39 : x5_1.length < 1256584717458
                ·rw [if_pos c39] at H
                 have LMc39:=Aside0.mk c39
                 clear c39
                 obtain ⟨y139,hy139⟩ : ∃ y_ : List (S46),y_ = (x5_1 ++ [(⟨(⟨(rd_T44 l0 x6_1).f0,(⟨(rd_T44 l0 x6_1).f1.f0,(rd_T44 l0 x6_1).f1.f1⟩ : S42),(rd_T44 l0 x6_1).f2,(rd_T44 l0 x6_1).f3⟩ : S44),(⟨(rd_T44 l1 x7_1).f0,(⟨(rd_T44 l1 x7_1).f1.f0,(rd_T44 l1 x7_1).f1.f1⟩ : S42),(rd_T44 l1 x7_1).f2,(rd_T44 l1 x7_1).f3⟩ : S44)⟩ : S46)]):=⟨_,rfl⟩
                 replace H : (tidelineref09_Pairs.l0 kj10 l0 l1 y139 (wrap64 (x6_1 + 1)) (wrap64 (x7_1 + 1))) = some r:=by first|(rw [hy139];with_reducible exact H)|(have H2_:=(Option.bind_some _ _).symm.trans H;rw [hy139];with_reducible exact H2_)|(have H2_:=(Option.bind_some _ _).symm.trans H;with_reducible exact H2_)|with_reducible exact H|(rw [hy139];exact H)|exact H
                 have Ny139:=Aside0.mk hy139
                 clear hy139
                 have H':=Aside0.mk H
                 clear H
                 try go_wp2
                 replace HO_5:=Aside0.mk (Kd.R_drew HO_5.out)
                 replace HB:=Aside0.mk (below_drew1 HB.out)
                 have p131 : 0 ≤ (x7_1 : Int):=of_decide_eq_true (by first|(with_reducible assumption)|assumption)
                 have q131 : x7_1 < (l1.length : Int):=of_decide_eq_true (by first|(with_reducible assumption)|assumption)
                 obtain ⟨ad131,e131,hx131_0,hx131_1,hx131_2,hx131_3,hx131_4⟩:=at_T44 HR1.out x7_1 p131 q131
                 have hw131_4:=hx131_4
                 have hw131_3:=hx131_3
                 have hw131_2:=hx131_2
                 have hw131_1:=hx131_1
                 have hw131_0:=hx131_0
                 cases e131
                 replace hx131_0:=(HB.out.cell (World.block_lt_of_cell? w _ hx131_0)).trans hx131_0
                 replace hx131_1:=(HB.out.cell (World.block_lt_of_cell? w _ hx131_1)).trans hx131_1
                 replace hx131_2:=(HB.out.cell (World.block_lt_of_cell? w _ hx131_2)).trans hx131_2
                 replace hx131_3:=(HB.out.cell (World.block_lt_of_cell? w _ hx131_3)).trans hx131_3
                 replace hx131_4:=(HB.out.cell (World.block_lt_of_cell? w _ hx131_4)).trans hx131_4
                 replace p131:=eq_true p131
                 replace q131:=eq_true q131
                 have p132 : 0 ≤ (x6_1 : Int):=of_decide_eq_true (by first|(with_reducible assumption)|assumption)
                 have q132 : x6_1 < (l0.length : Int):=of_decide_eq_true (by first|(with_reducible assumption)|assumption)
                 obtain ⟨ad132,e132,hx132_0,hx132_1,hx132_2,hx132_3,hx132_4⟩:=at_T44 HR0.out x6_1 p132 q132
                 have hw132_4:=hx132_4
                 have hw132_3:=hx132_3
                 have hw132_2:=hx132_2
                 have hw132_1:=hx132_1
                 have hw132_0:=hx132_0
                 cases e132
                 replace hx132_0:=(HB.out.cell (World.block_lt_of_cell? w _ hx132_0)).trans hx132_0
                 replace hx132_1:=(HB.out.cell (World.block_lt_of_cell? w _ hx132_1)).trans hx132_1
                 replace hx132_2:=(HB.out.cell (World.block_lt_of_cell? w _ hx132_2)).trans hx132_2
                 replace hx132_3:=(HB.out.cell (World.block_lt_of_cell? w _ hx132_3)).trans hx132_3
                 replace hx132_4:=(HB.out.cell (World.block_lt_of_cell? w _ hx132_4)).trans hx132_4
                 replace p132:=eq_true p132
                 replace q132:=eq_true q132
                 refine start_ (n:=18) (S:=fun w' => w'.cell? (ad131.add ((x7_1).toNat * 5)) = some (.string ((rd_T44 l1 x7_1).f0)) ∧ w'.cell? ⟨(ad131.add ((x7_1).toNat * 5)).block,(ad131.add ((x7_1).toNat * 5)).off + 1,none⟩ = some (.int .i64 ((rd_T44 l1 x7_1).f1.f0)) ∧ w'.cell? ⟨(ad131.add ((x7_1).toNat * 5)).block,(ad131.add ((x7_1).toNat * 5)).off + 2,none⟩ = some (.int .i64 ((rd_T44 l1 x7_1).f1.f1)) ∧ w'.cell? ⟨(ad131.add ((x7_1).toNat * 5)).block,(ad131.add ((x7_1).toNat * 5)).off + 3,none⟩ = some (.string ((rd_T44 l1 x7_1).f2)) ∧ w'.cell? ⟨(ad131.add ((x7_1).toNat * 5)).block,(ad131.add ((x7_1).toNat * 5)).off + 4,none⟩ = some (.bool ((rd_T44 l1 x7_1).f3)) ∧ w'.cell? (ad132.add ((x6_1).toNat * 5)) = some (.string ((rd_T44 l0 x6_1).f0)) ∧ w'.cell? ⟨(ad132.add ((x6_1).toNat * 5)).block,(ad132.add ((x6_1).toNat * 5)).off + 1,none⟩ = some (.int .i64 ((rd_T44 l0 x6_1).f1.f0)) ∧ w'.cell? ⟨(ad132.add ((x6_1).toNat * 5)).block,(ad132.add ((x6_1).toNat * 5)).off + 2,none⟩ = some (.int .i64 ((rd_T44 l0 x6_1).f1.f1)) ∧ w'.cell? ⟨(ad132.add ((x6_1).toNat * 5)).block,(ad132.add ((x6_1).toNat * 5)).off + 3,none⟩ = some (.string ((rd_T44 l0 x6_1).f2)) ∧ w'.cell? ⟨(ad132.add ((x6_1).toNat * 5)).block,(ad132.add ((x6_1).toNat * 5)).off + 4,none⟩ = some (.bool ((rd_T44 l0 x6_1).f3))) (ds:=[]) #[false,false,false,false,false,false,false,false,false,false,false,false,false,false,false,false,false,false] (by kernel_rfl) rfl rfl ⟨((HB.out.cell (World.block_lt_of_cell? w _ hw131_0)).trans hw131_0),((HB.out.cell (World.block_lt_of_cell? w _ hw131_1)).trans hw131_1),((HB.out.cell (World.block_lt_of_cell? w _ hw131_2)).trans hw131_2),((HB.out.cell (World.block_lt_of_cell? w _ hw131_3)).trans hw131_3),((HB.out.cell (World.block_lt_of_cell? w _ hw131_4)).trans hw131_4),((HB.out.cell (World.block_lt_of_cell? w _ hw132_0)).trans hw132_0),((HB.out.cell (World.block_lt_of_cell? w _ hw132_1)).trans hw132_1),((HB.out.cell (World.block_lt_of_cell? w _ hw132_2)).trans hw132_2),((HB.out.cell (World.block_lt_of_cell? w _ hw132_3)).trans hw132_3),((HB.out.cell (World.block_lt_of_cell? w _ hw132_4)).trans hw132_4)⟩ (fun hHeld => ?_);refine with_tabW tidelineref09_Pairs.tab13 tidelineref09_Pairs.bits13 (fun HT_ HW_ => ?_)
                 generalize wc.drew = w40 at HO_5 HB hx131_0 hx131_1 hx131_2 hx131_3 hx131_4 hx132_0 hx132_1 hx132_2 hx132_3 hx132_4 hHeld ⊢
                 refine pure_ (i:=0) (N:=some 75) (v:=?_) (a':=?_) #[true,false,false,false,false,false,false,false,false,false,false,false,false,false,false,false,false,false] rfl rfl (any_of HT_.out (by kernel_rfl)) (fun _ _ _ h => h) (Or.inl ⟨by rfl,?_⟩) ?_ ?_
                 rotate_left
                 ·intro w'
                  go_simp
                  with_reducible rfl
                 rotate_left
                 ·simp only [Act.put,List.setIfInBounds_toArray,List.set_cons_zero,List.set_cons_succ,i64_w,i32_w]
                  rfl
                 refine pure_ (i:=1) (N:=some 76) (v:=?_) (a':=?_) #[true,true,false,false,false,false,false,false,false,false,false,false,false,false,false,false,false,false] rfl rfl (any_of HT_.out (by kernel_rfl)) (fun _ _ _ h => h) (Or.inl ⟨by rfl,?_⟩) ?_ ?_
                 rotate_left
                 ·intro w'
                  go_simp
                  with_reducible rfl
                 rotate_left
                 ·simp only [Act.put,List.setIfInBounds_toArray,List.set_cons_zero,List.set_cons_succ,i64_w,i32_w]
                  rfl
                 refine pure_ (i:=2) (N:=some 77) (v:=?_) (a':=?_) #[true,true,true,false,false,false,false,false,false,false,false,false,false,false,false,false,false,false] rfl rfl (any_of HT_.out (by kernel_rfl)) (fun _ _ _ h => h) (Or.inl ⟨by rfl,?_⟩) ?_ ?_
                 rotate_left
                 ·intro w'
                  go_simp
                  with_reducible rfl
                 rotate_left
                 ·simp only [Act.put,List.setIfInBounds_toArray,List.set_cons_zero,List.set_cons_succ,i64_w,i32_w]
                  rfl
                 refine pure_ (i:=3) (N:=some 78) (v:=?_) (a':=?_) #[true,true,true,true,false,false,false,false,false,false,false,false,false,false,false,false,false,false] rfl rfl (any_of HT_.out (by kernel_rfl)) (fun _ _ _ h => h) (Or.inl ⟨by rfl,?_⟩) ?_ ?_
                 rotate_left
                 ·intro w'
                  go_simp
                  with_reducible rfl
                 rotate_left
                 ·simp only [Act.put,List.setIfInBounds_toArray,List.set_cons_zero,List.set_cons_succ,i64_w,i32_w]
                  rfl
                 refine pure_ (i:=4) (N:=some 79) (v:=?_) (a':=?_) #[true,true,true,true,true,false,false,false,false,false,false,false,false,false,false,false,false,false] rfl rfl (any_of HT_.out (by kernel_rfl)) (fun _ _ _ h => h) (Or.inl ⟨by rfl,?_⟩) ?_ ?_
                 rotate_left
                 ·intro w'
                  go_simp
                  with_reducible rfl
                 rotate_left
                 ·simp only [Act.put,List.setIfInBounds_toArray,List.set_cons_zero,List.set_cons_succ,i64_w,i32_w]
                  rfl
                 refine pure_ (i:=5) (N:=some 80) (v:=?_) (a':=?_) #[true,true,true,true,true,true,false,false,false,false,false,false,false,false,false,false,false,false] rfl rfl (any_of HT_.out (by kernel_rfl)) (fun _ _ _ h => h) (Or.inl ⟨by rfl,?_⟩) ?_ ?_
                 rotate_left
                 ·intro w'
                  go_simp
                  with_reducible rfl
                 rotate_left
                 ·simp only [Act.put,List.setIfInBounds_toArray,List.set_cons_zero,List.set_cons_succ,i64_w,i32_w]
                  rfl
                 refine pure_ (i:=6) (N:=some 81) (v:=?_) (a':=?_) #[true,true,true,true,true,true,true,false,false,false,false,false,false,false,false,false,false,false] rfl rfl (any_of HT_.out (by kernel_rfl)) (fun _ _ _ h => h) (Or.inl ⟨by rfl,?_⟩) ?_ ?_
                 rotate_left
                 ·intro w'
                  go_simp
                  with_reducible rfl
                 rotate_left
                 ·simp only [Act.put,List.setIfInBounds_toArray,List.set_cons_zero,List.set_cons_succ,i64_w,i32_w]
                  rfl
                 refine pure_ (i:=7) (N:=some 82) (v:=?_) (a':=?_) #[true,true,true,true,true,true,true,true,false,false,false,false,false,false,false,false,false,false] rfl rfl (any_of HT_.out (by kernel_rfl)) (fun _ _ _ h => h) (Or.inl ⟨by rfl,?_⟩) ?_ ?_
                 rotate_left
                 ·intro w'
                  go_simp
                  with_reducible rfl
                 rotate_left
                 ·simp only [Act.put,List.setIfInBounds_toArray,List.set_cons_zero,List.set_cons_succ,i64_w,i32_w]
                  rfl
                 refine pure_ (i:=8) (N:=some 83) (v:=?_) (a':=?_) #[true,true,true,true,true,true,true,true,true,false,false,false,false,false,false,false,false,false] rfl rfl (any_of HT_.out (by kernel_rfl)) (fun _ _ _ h => h) (Or.inl ⟨by rfl,?_⟩) ?_ ?_
                 rotate_left
                 ·intro w'
                  go_simp
                  with_reducible rfl
                 rotate_left
                 ·simp only [Act.put,List.setIfInBounds_toArray,List.set_cons_zero,List.set_cons_succ,i64_w,i32_w]
                  rfl
                 refine pure_ (i:=10) (N:=some 85) (v:=?_) (a':=?_) #[true,true,true,true,true,true,true,true,true,false,true,false,false,false,false,false,false,false] rfl rfl (any_of HT_.out (by kernel_rfl)) (fun _ _ _ h => h) (Or.inl ⟨by rfl,?_⟩) ?_ ?_
                 rotate_left
                 ·intro w'
                  go_simp
                  with_reducible rfl
                 rotate_left
                 ·simp only [Act.put,List.setIfInBounds_toArray,List.set_cons_zero,List.set_cons_succ,i64_w,i32_w]
                  rfl
                 refine pure_ (i:=11) (N:=some 86) (v:=?_) (a':=?_) #[true,true,true,true,true,true,true,true,true,false,true,true,false,false,false,false,false,false] rfl rfl (any_of HT_.out (by kernel_rfl)) (fun _ _ _ h => h) (Or.inl ⟨by rfl,?_⟩) ?_ ?_
                 rotate_left
                 ·intro w'
                  go_simp
                  with_reducible rfl
                 rotate_left
                 ·simp only [Act.put,List.setIfInBounds_toArray,List.set_cons_zero,List.set_cons_succ,i64_w,i32_w]
                  rfl
                 refine pure_ (i:=12) (N:=some 87) (v:=?_) (a':=?_) #[true,true,true,true,true,true,true,true,true,false,true,true,true,false,false,false,false,false] rfl rfl (any_of HT_.out (by kernel_rfl)) (fun _ _ _ h => h) (Or.inl ⟨by rfl,?_⟩) ?_ ?_
                 rotate_left
                 ·intro w'
                  go_simp
                  with_reducible rfl
                 rotate_left
                 ·simp only [Act.put,List.setIfInBounds_toArray,List.set_cons_zero,List.set_cons_succ,i64_w,i32_w]
                  rfl
                 refine pure_ (i:=13) (N:=some 88) (v:=?_) (a':=?_) #[true,true,true,true,true,true,true,true,true,false,true,true,true,true,false,false,false,false] rfl rfl (any_of HT_.out (by kernel_rfl)) (fun _ _ _ h => h) (Or.inl ⟨by rfl,?_⟩) ?_ ?_
                 rotate_left
                 ·intro w'
                  go_simp
                  with_reducible rfl
                 rotate_left
                 ·simp only [Act.put,List.setIfInBounds_toArray,List.set_cons_zero,List.set_cons_succ,i64_w,i32_w]
                  rfl
                 refine take_ (i:=9) (N:=some 84) (v:=?_) (a':=?_) #[true,true,true,true,true,true,true,true,true,true,true,true,true,true,false,false,false,false] rfl rfl (take_ofW HT_.out HW_.out (by kernel_rfl)) (fun _ _ _ h => h) (Or.inl ⟨by rfl,?_⟩) hHeld ?_ ?_
                 rotate_left
                 ·rintro w' ⟨s0,s1,s2,s3,s4,s5,s6,s7,s8,s9⟩
                  go_simp
                  with_reducible rfl
                 rotate_left
                 ·simp only [Act.put,List.setIfInBounds_toArray,List.set_cons_zero,List.set_cons_succ,i64_w,i32_w]
                  rfl
                 refine take_ (i:=14) (N:=some 89) (v:=?_) (a':=?_) #[true,true,true,true,true,true,true,true,true,true,true,true,true,true,true,false,false,false] rfl rfl (take_ofW HT_.out HW_.out (by kernel_rfl)) (fun _ _ _ h => h) (Or.inl ⟨by rfl,?_⟩) hHeld ?_ ?_
                 rotate_left
                 ·rintro w' ⟨s0,s1,s2,s3,s4,s5,s6,s7,s8,s9⟩
                  go_simp
                  with_reducible rfl
                 rotate_left
                 ·simp only [Act.put,List.setIfInBounds_toArray,List.set_cons_zero,List.set_cons_succ,i64_w,i32_w]
                  rfl
                 refine pure_ (i:=15) (N:=some 90) (v:=?_) (a':=?_) #[true,true,true,true,true,true,true,true,true,true,true,true,true,true,true,true,false,false] rfl rfl (any_of HT_.out (by kernel_rfl)) (fun _ _ _ h => h) (Or.inl ⟨by rfl,?_⟩) ?_ ?_
                 rotate_left
                 ·intro w'
                  go_simp
                  with_reducible rfl
                 rotate_left
                 ·simp only [Act.put,List.setIfInBounds_toArray,List.set_cons_zero,List.set_cons_succ,i64_w,i32_w]
                  rfl
                 refine pure_ (i:=16) (N:=some 91) (v:=?_) (a':=?_) #[true,true,true,true,true,true,true,true,true,true,true,true,true,true,true,true,true,false] rfl rfl (any_of HT_.out (by kernel_rfl)) (fun _ _ _ h => h) (Or.inl ⟨by rfl,?_⟩) ?_ ?_
                 rotate_left
                 ·intro w'
                  go_simp
                  with_reducible rfl
                 rotate_left
                 ·simp only [Act.put,List.setIfInBounds_toArray,List.set_cons_zero,List.set_cons_succ,i64_w,i32_w]
                  rfl
                 refine pure_ (i:=17) (N:=some 74) (v:=?_) (a':=?_) #[true,true,true,true,true,true,true,true,true,true,true,true,true,true,true,true,true,true] rfl rfl (any_of HT_.out (by kernel_rfl)) (fun _ _ _ h => h) (Or.inl ⟨by rfl,?_⟩) ?_ ?_
                 rotate_left
                 ·intro w'
                  go_simp
                  with_reducible rfl
                 rotate_left
                 ·simp only [Act.put,List.setIfInBounds_toArray,List.set_cons_zero,List.set_cons_succ,i64_w,i32_w]
                  rfl
                 refine done_ (done_of HT_.out (by kernel_rfl)) ?_
                 try go_wp2
                 replace HO_5:=Aside0.mk (Kd.R_drew HO_5.out)
                 replace HB:=Aside0.mk (below_drew1 HB.out)
                 have p137 : 0 ≤ (x6_1 : Int):=of_decide_eq_true (by first|(with_reducible assumption)|assumption)
                 have q137 : x6_1 < (l0.length : Int):=of_decide_eq_true (by first|(with_reducible assumption)|assumption)
                 obtain ⟨ad137,e137,hx137_0,hx137_1,hx137_2,hx137_3,hx137_4⟩:=at_T44 HR0.out x6_1 p137 q137
                 have hw137_4:=hx137_4
                 have hw137_3:=hx137_3
                 have hw137_2:=hx137_2
                 have hw137_1:=hx137_1
                 have hw137_0:=hx137_0
                 obtain rfl : ad132 = ad137:=(by injection e137)
                 replace hx137_0:=(HB.out.cell (World.block_lt_of_cell? w _ hx137_0)).trans hx137_0
                 replace hx137_1:=(HB.out.cell (World.block_lt_of_cell? w _ hx137_1)).trans hx137_1
                 replace hx137_2:=(HB.out.cell (World.block_lt_of_cell? w _ hx137_2)).trans hx137_2
                 replace hx137_3:=(HB.out.cell (World.block_lt_of_cell? w _ hx137_3)).trans hx137_3
                 replace hx137_4:=(HB.out.cell (World.block_lt_of_cell? w _ hx137_4)).trans hx137_4
                 replace p137:=eq_true p137
                 replace q137:=eq_true q137
                 have p138 : 0 ≤ (x7_1 : Int):=of_decide_eq_true (by first|(with_reducible assumption)|assumption)
                 have q138 : x7_1 < (l1.length : Int):=of_decide_eq_true (by first|(with_reducible assumption)|assumption)
                 obtain ⟨ad138,e138,hx138_0,hx138_1,hx138_2,hx138_3,hx138_4⟩:=at_T44 HR1.out x7_1 p138 q138
                 have hw138_4:=hx138_4
                 have hw138_3:=hx138_3
                 have hw138_2:=hx138_2
                 have hw138_1:=hx138_1
                 have hw138_0:=hx138_0
                 obtain rfl : ad131 = ad138:=(by injection e138)
                 replace hx138_0:=(HB.out.cell (World.block_lt_of_cell? w _ hx138_0)).trans hx138_0
                 replace hx138_1:=(HB.out.cell (World.block_lt_of_cell? w _ hx138_1)).trans hx138_1
                 replace hx138_2:=(HB.out.cell (World.block_lt_of_cell? w _ hx138_2)).trans hx138_2
                 replace hx138_3:=(HB.out.cell (World.block_lt_of_cell? w _ hx138_3)).trans hx138_3
                 replace hx138_4:=(HB.out.cell (World.block_lt_of_cell? w _ hx138_4)).trans hx138_4
                 replace p138:=eq_true p138
                 replace q138:=eq_true q138
                 refine start_ (n:=13) (S:=fun w' => w'.cell? (ad132.add ((x6_1).toNat * 5)) = some (.string ((rd_T44 l0 x6_1).f0)) ∧ w'.cell? ⟨(ad132.add ((x6_1).toNat * 5)).block,(ad132.add ((x6_1).toNat * 5)).off + 1,none⟩ = some (.int .i64 ((rd_T44 l0 x6_1).f1.f0)) ∧ w'.cell? ⟨(ad132.add ((x6_1).toNat * 5)).block,(ad132.add ((x6_1).toNat * 5)).off + 2,none⟩ = some (.int .i64 ((rd_T44 l0 x6_1).f1.f1)) ∧ w'.cell? ⟨(ad132.add ((x6_1).toNat * 5)).block,(ad132.add ((x6_1).toNat * 5)).off + 3,none⟩ = some (.string ((rd_T44 l0 x6_1).f2)) ∧ w'.cell? ⟨(ad132.add ((x6_1).toNat * 5)).block,(ad132.add ((x6_1).toNat * 5)).off + 4,none⟩ = some (.bool ((rd_T44 l0 x6_1).f3)) ∧ w'.cell? (ad131.add ((x7_1).toNat * 5)) = some (.string ((rd_T44 l1 x7_1).f0)) ∧ w'.cell? ⟨(ad131.add ((x7_1).toNat * 5)).block,(ad131.add ((x7_1).toNat * 5)).off + 1,none⟩ = some (.int .i64 ((rd_T44 l1 x7_1).f1.f0)) ∧ w'.cell? ⟨(ad131.add ((x7_1).toNat * 5)).block,(ad131.add ((x7_1).toNat * 5)).off + 2,none⟩ = some (.int .i64 ((rd_T44 l1 x7_1).f1.f1)) ∧ w'.cell? ⟨(ad131.add ((x7_1).toNat * 5)).block,(ad131.add ((x7_1).toNat * 5)).off + 3,none⟩ = some (.string ((rd_T44 l1 x7_1).f2)) ∧ w'.cell? ⟨(ad131.add ((x7_1).toNat * 5)).block,(ad131.add ((x7_1).toNat * 5)).off + 4,none⟩ = some (.bool ((rd_T44 l1 x7_1).f3))) (ds:=[]) #[false,false,false,false,false,false,false,false,false,false,false,false,false] (by kernel_rfl) rfl rfl ⟨((HB.out.cell (World.block_lt_of_cell? w _ hw137_0)).trans hw137_0),((HB.out.cell (World.block_lt_of_cell? w _ hw137_1)).trans hw137_1),((HB.out.cell (World.block_lt_of_cell? w _ hw137_2)).trans hw137_2),((HB.out.cell (World.block_lt_of_cell? w _ hw137_3)).trans hw137_3),((HB.out.cell (World.block_lt_of_cell? w _ hw137_4)).trans hw137_4),((HB.out.cell (World.block_lt_of_cell? w _ hw138_0)).trans hw138_0),((HB.out.cell (World.block_lt_of_cell? w _ hw138_1)).trans hw138_1),((HB.out.cell (World.block_lt_of_cell? w _ hw138_2)).trans hw138_2),((HB.out.cell (World.block_lt_of_cell? w _ hw138_3)).trans hw138_3),((HB.out.cell (World.block_lt_of_cell? w _ hw138_4)).trans hw138_4)⟩ (fun hHeld => ?_);refine with_tabW tidelineref09_Pairs.tab7 tidelineref09_Pairs.bits7 (fun HT_ HW_ => ?_)
                 generalize w40.drew = w41 at HO_5 HB hx137_0 hx137_1 hx137_2 hx137_3 hx137_4 hx138_0 hx138_1 hx138_2 hx138_3 hx138_4 hHeld ⊢
                 refine pure_ (i:=0) (N:=some 24) (v:=?_) (a':=?_) #[true,false,false,false,false,false,false,false,false,false,false,false,false] rfl rfl (any_of HT_.out (by kernel_rfl)) (fun _ _ _ h => h) (Or.inl ⟨by rfl,?_⟩) ?_ ?_
                 rotate_left
                 ·intro w'
                  go_simp
                  with_reducible rfl
                 rotate_left
                 ·simp only [Act.put,List.setIfInBounds_toArray,List.set_cons_zero,List.set_cons_succ,i64_w,i32_w]
                  rfl
                 refine pure_ (i:=1) (N:=some 25) (v:=?_) (a':=?_) #[true,true,false,false,false,false,false,false,false,false,false,false,false] rfl rfl (any_of HT_.out (by kernel_rfl)) (fun _ _ _ h => h) (Or.inl ⟨by rfl,?_⟩) ?_ ?_
                 rotate_left
                 ·intro w'
                  go_simp
                  with_reducible rfl
                 rotate_left
                 ·simp only [Act.put,List.setIfInBounds_toArray,List.set_cons_zero,List.set_cons_succ,i64_w,i32_w]
                  rfl
                 refine pure_ (i:=2) (N:=some 26) (v:=?_) (a':=?_) #[true,true,true,false,false,false,false,false,false,false,false,false,false] rfl rfl (any_of HT_.out (by kernel_rfl)) (fun _ _ _ h => h) (Or.inl ⟨by rfl,?_⟩) ?_ ?_
                 rotate_left
                 ·intro w'
                  go_simp
                  with_reducible rfl
                 rotate_left
                 ·simp only [Act.put,List.setIfInBounds_toArray,List.set_cons_zero,List.set_cons_succ,i64_w,i32_w]
                  rfl
                 refine pure_ (i:=3) (N:=some 27) (v:=?_) (a':=?_) #[true,true,true,true,false,false,false,false,false,false,false,false,false] rfl rfl (any_of HT_.out (by kernel_rfl)) (fun _ _ _ h => h) (Or.inl ⟨by rfl,?_⟩) ?_ ?_
                 rotate_left
                 ·intro w'
                  go_simp
                  with_reducible rfl
                 rotate_left
                 ·simp only [Act.put,List.setIfInBounds_toArray,List.set_cons_zero,List.set_cons_succ,i64_w,i32_w]
                  rfl
                 refine pure_ (i:=5) (N:=some 29) (v:=?_) (a':=?_) #[true,true,true,true,false,true,false,false,false,false,false,false,false] rfl rfl (any_of HT_.out (by kernel_rfl)) (fun _ _ _ h => h) (Or.inl ⟨by rfl,?_⟩) ?_ ?_
                 rotate_left
                 ·intro w'
                  go_simp
                  with_reducible rfl
                 rotate_left
                 ·simp only [Act.put,List.setIfInBounds_toArray,List.set_cons_zero,List.set_cons_succ,i64_w,i32_w]
                  rfl
                 refine pure_ (i:=6) (N:=some 30) (v:=?_) (a':=?_) #[true,true,true,true,false,true,true,false,false,false,false,false,false] rfl rfl (any_of HT_.out (by kernel_rfl)) (fun _ _ _ h => h) (Or.inl ⟨by rfl,?_⟩) ?_ ?_
                 rotate_left
                 ·intro w'
                  go_simp
                  with_reducible rfl
                 rotate_left
                 ·simp only [Act.put,List.setIfInBounds_toArray,List.set_cons_zero,List.set_cons_succ,i64_w,i32_w]
                  rfl
                 refine pure_ (i:=7) (N:=some 31) (v:=?_) (a':=?_) #[true,true,true,true,false,true,true,true,false,false,false,false,false] rfl rfl (any_of HT_.out (by kernel_rfl)) (fun _ _ _ h => h) (Or.inl ⟨by rfl,?_⟩) ?_ ?_
                 rotate_left
                 ·intro w'
                  go_simp
                  with_reducible rfl
                 rotate_left
                 ·simp only [Act.put,List.setIfInBounds_toArray,List.set_cons_zero,List.set_cons_succ,i64_w,i32_w]
                  rfl
                 refine take_ (i:=4) (N:=some 28) (v:=?_) (a':=?_) #[true,true,true,true,true,true,true,true,false,false,false,false,false] rfl rfl (take_ofW HT_.out HW_.out (by kernel_rfl)) (fun _ _ _ h => h) (Or.inl ⟨by rfl,?_⟩) hHeld ?_ ?_
                 rotate_left
                 ·rintro w' ⟨s0,s1,s2,s3,s4,s5,s6,s7,s8,s9⟩
                  go_simp
                  with_reducible rfl
                 rotate_left
                 ·simp only [Act.put,List.setIfInBounds_toArray,List.set_cons_zero,List.set_cons_succ,i64_w,i32_w]
                  rfl
                 refine take_ (i:=8) (N:=some 32) (v:=?_) (a':=?_) #[true,true,true,true,true,true,true,true,true,false,false,false,false] rfl rfl (take_ofW HT_.out HW_.out (by kernel_rfl)) (fun _ _ _ h => h) (Or.inl ⟨by rfl,?_⟩) hHeld ?_ ?_
                 rotate_left
                 ·rintro w' ⟨s0,s1,s2,s3,s4,s5,s6,s7,s8,s9⟩
                  go_simp
                  with_reducible rfl
                 rotate_left
                 ·simp only [Act.put,List.setIfInBounds_toArray,List.set_cons_zero,List.set_cons_succ,i64_w,i32_w]
                  rfl
                 refine pure_ (i:=9) (N:=some 33) (v:=?_) (a':=?_) #[true,true,true,true,true,true,true,true,true,true,false,false,false] rfl rfl (any_of HT_.out (by kernel_rfl)) (fun _ _ _ h => h) (Or.inl ⟨by rfl,?_⟩) ?_ ?_
                 rotate_left
                 ·intro w'
                  go_simp
                  with_reducible rfl
                 rotate_left
                 ·simp only [Act.put,List.setIfInBounds_toArray,List.set_cons_zero,List.set_cons_succ,i64_w,i32_w]
                  rfl
                 refine one_ (i:=10) (N:=some 34) #[true,true,true,true,true,true,true,true,true,true,true,false,false] rfl rfl (one_of HT_.out (by kernel_rfl)) (by decide) (fun K hK => ?_)
                 refine value_ (w1:=?_) (v:=?_) (by rfl) rfl ?_ ?_
                 rotate_left 2
                 ·go_simp
                  constructor
                  ·rfl
                  ·rfl
                 refine hK.out _ _ ⟨(World.cell?_alloc_lt _ _ _ (World.block_lt_of_cell? _ _ (((HB.out.cell (World.block_lt_of_cell? w _ hw137_0)).trans hw137_0)))).trans (((HB.out.cell (World.block_lt_of_cell? w _ hw137_0)).trans hw137_0)),(World.cell?_alloc_lt _ _ _ (World.block_lt_of_cell? _ _ (((HB.out.cell (World.block_lt_of_cell? w _ hw137_1)).trans hw137_1)))).trans (((HB.out.cell (World.block_lt_of_cell? w _ hw137_1)).trans hw137_1)),(World.cell?_alloc_lt _ _ _ (World.block_lt_of_cell? _ _ (((HB.out.cell (World.block_lt_of_cell? w _ hw137_2)).trans hw137_2)))).trans (((HB.out.cell (World.block_lt_of_cell? w _ hw137_2)).trans hw137_2)),(World.cell?_alloc_lt _ _ _ (World.block_lt_of_cell? _ _ (((HB.out.cell (World.block_lt_of_cell? w _ hw137_3)).trans hw137_3)))).trans (((HB.out.cell (World.block_lt_of_cell? w _ hw137_3)).trans hw137_3)),(World.cell?_alloc_lt _ _ _ (World.block_lt_of_cell? _ _ (((HB.out.cell (World.block_lt_of_cell? w _ hw137_4)).trans hw137_4)))).trans (((HB.out.cell (World.block_lt_of_cell? w _ hw137_4)).trans hw137_4)),(World.cell?_alloc_lt _ _ _ (World.block_lt_of_cell? _ _ (((HB.out.cell (World.block_lt_of_cell? w _ hw138_0)).trans hw138_0)))).trans (((HB.out.cell (World.block_lt_of_cell? w _ hw138_0)).trans hw138_0)),(World.cell?_alloc_lt _ _ _ (World.block_lt_of_cell? _ _ (((HB.out.cell (World.block_lt_of_cell? w _ hw138_1)).trans hw138_1)))).trans (((HB.out.cell (World.block_lt_of_cell? w _ hw138_1)).trans hw138_1)),(World.cell?_alloc_lt _ _ _ (World.block_lt_of_cell? _ _ (((HB.out.cell (World.block_lt_of_cell? w _ hw138_2)).trans hw138_2)))).trans (((HB.out.cell (World.block_lt_of_cell? w _ hw138_2)).trans hw138_2)),(World.cell?_alloc_lt _ _ _ (World.block_lt_of_cell? _ _ (((HB.out.cell (World.block_lt_of_cell? w _ hw138_3)).trans hw138_3)))).trans (((HB.out.cell (World.block_lt_of_cell? w _ hw138_3)).trans hw138_3)),(World.cell?_alloc_lt _ _ _ (World.block_lt_of_cell? _ _ (((HB.out.cell (World.block_lt_of_cell? w _ hw138_4)).trans hw138_4)))).trans (((HB.out.cell (World.block_lt_of_cell? w _ hw138_4)).trans hw138_4))⟩ (fun hHeld => ?_)
                 clear hK K
                 refine norm_ (a':=?_) ?_ ?_
                 rotate_left
                 ·show Act.put _ (some 34) _ = _
                  simp only [Act.put,List.setIfInBounds_toArray,List.set_cons_zero,List.set_cons_succ,i64_w,i32_w]
                  rfl
                 refine one_ (i:=11) (N:=some 35) #[true,true,true,true,true,true,true,true,true,true,true,true,false] rfl rfl (one_of HT_.out (by kernel_rfl)) (by decide) (fun K hK => ?_)
                 refine Kd.R_append_step k46 (w0:=w) w.heap.size (by rfl) (.tmp 24) (.tmp 34) 36 46 (.agg #[(.string ⟨#[]⟩),(.int .i64 0),(.int .i64 0),(.string ⟨#[]⟩),(.bool false),(.string ⟨#[]⟩),(.int .i64 0),(.int .i64 0),(.string ⟨#[]⟩),(.bool false)]) 112 rfl Try.underlying36 info46 rfl (by decide) (by omega) u5 x5_1 (⟨(⟨(rd_T44 l0 x6_1).f0,(⟨(rd_T44 l0 x6_1).f1.f0,(rd_T44 l0 x6_1).f1.f1⟩ : S42),(rd_T44 l0 x6_1).f2,(rd_T44 l0 x6_1).f3⟩ : S44),(⟨(rd_T44 l1 x7_1).f0,(⟨(rd_T44 l1 x7_1).f1.f0,(rd_T44 l1 x7_1).f1.f1⟩ : S42),(rd_T44 l1 x7_1).f2,(rd_T44 l1 x7_1).f3⟩ : S44)⟩ : S46) [.string ((rd_T44 l0 x6_1).f0),.int .i64 ((rd_T44 l0 x6_1).f1.f0),.int .i64 ((rd_T44 l0 x6_1).f1.f1),.string ((rd_T44 l0 x6_1).f2),.bool ((rd_T44 l0 x6_1).f3),.string ((rd_T44 l1 x7_1).f0),.int .i64 ((rd_T44 l1 x7_1).f1.f0),.int .i64 ((rd_T44 l1 x7_1).f1.f1),.string ((rd_T44 l1 x7_1).f2),.bool ((rd_T44 l1 x7_1).f3)] (fun _ => True) (fun _ => False) rfl rfl ?aP (fun _ hk => hk.elim) ?aF ?aO ?aB ?aS ?aL ?_
                 (case aP => exact k46_mkM _ _ _ (⟨(⟨(rd_T44 l0 x6_1).f0,(⟨(rd_T44 l0 x6_1).f1.f0,(rd_T44 l0 x6_1).f1.f1⟩ : S42),(rd_T44 l0 x6_1).f2,(rd_T44 l0 x6_1).f3⟩ : S44),(⟨(rd_T44 l1 x7_1).f0,(⟨(rd_T44 l1 x7_1).f1.f0,(rd_T44 l1 x7_1).f1.f1⟩ : S42),(rd_T44 l1 x7_1).f2,(rd_T44 l1 x7_1).f3⟩ : S44)⟩ : S46))
                 (case aB => exact (by repeat (first|(with_reducible first|exact HB.out|apply xA|apply xN|apply xD)|exact HB.out)))
                 (case aF => exact (fun _ _ => trivial))
                 (case aO => exact (by (with_reducible repeat (first|apply Kd.R_alloc|apply Kd.R_drewN|apply Kd.R_drew));exact HO_5.out))
                 (case aS => exact (below_size (by repeat (first|(with_reducible first|exact HB.out|apply xA|apply xN|apply xD)|exact HB.out))))
                 (case aL => have:=LMc39.out;omega)
                 intro v140 w42 ho hb hg hat
                 rw [← Ny139.out] at ho
                 have n0_:=Aside0.mk (hb)
                 have n1_:=Aside0.mk (ho)
                 clear HB HO_5
                 have HB:=n0_
                 have HO141:=n1_
                 clear n0_ n1_
                 clear ho hb hg hat
                 refine hK.out _ _ ⟨((HB.out.cell (World.block_lt_of_cell? w _ hw137_0)).trans hw137_0),((HB.out.cell (World.block_lt_of_cell? w _ hw137_1)).trans hw137_1),((HB.out.cell (World.block_lt_of_cell? w _ hw137_2)).trans hw137_2),((HB.out.cell (World.block_lt_of_cell? w _ hw137_3)).trans hw137_3),((HB.out.cell (World.block_lt_of_cell? w _ hw137_4)).trans hw137_4),((HB.out.cell (World.block_lt_of_cell? w _ hw138_0)).trans hw138_0),((HB.out.cell (World.block_lt_of_cell? w _ hw138_1)).trans hw138_1),((HB.out.cell (World.block_lt_of_cell? w _ hw138_2)).trans hw138_2),((HB.out.cell (World.block_lt_of_cell? w _ hw138_3)).trans hw138_3),((HB.out.cell (World.block_lt_of_cell? w _ hw138_4)).trans hw138_4)⟩ (fun hHeld => ?_)
                 clear hK K
                 refine norm_ (a':=?_) ?_ ?_
                 rotate_left
                 ·show Act.put _ (some 35) _ = _
                  simp only [Act.put,List.setIfInBounds_toArray,List.set_cons_zero,List.set_cons_succ,i64_w,i32_w]
                  rfl
                 refine pure_ (i:=12) (N:=some 5) (v:=?_) (a':=?_) #[true,true,true,true,true,true,true,true,true,true,true,true,true] rfl rfl (any_of HT_.out (by kernel_rfl)) (fun _ _ _ h => h) (Or.inl ⟨by rfl,?_⟩) ?_ ?_
                 rotate_left
                 ·intro w'
                  go_simp
                  with_reducible rfl
                 rotate_left
                 ·simp only [Act.put,List.setIfInBounds_toArray,List.set_cons_zero,List.set_cons_succ,i64_w,i32_w]
                  rfl
                 refine done_ (done_of HT_.out (by kernel_rfl)) ?_
                 try go_wp2
                 go_roundg kj10
                 case measure => have:=HK1.out;have:=HJ7.out;have:=HJ10.out;omega
                 case rel => exact ⟨(y139),(wrap64 (x6_1 + 1)),(wrap64 (x7_1 + 1)),(by first|rfl|(simp;done)|(simp [*];done)|(simp [*,Go.Proofs.Ytghlellambnkeaa.Str.bne_nil];done)),(by first|rfl|(simp;done)|(simp [*];done)|(simp [*,Go.Proofs.Ytghlellambnkeaa.Str.bne_nil];done)),H',⟨by have:=HK1.out;have:=HJ7.out;have:=HJ10.out;omega⟩,⟨by (with_reducible repeat (first|apply Kd.R_alloc|apply Kd.R_drewN|apply Kd.R_drew));exact HO141.out⟩,⟨by repeat (first|(with_reducible first|exact HB.out|apply xA|apply xN|apply xD)|exact HB.out)⟩⟩
                ·rw [if_neg c39] at H
                 exact absurd H (by simp)
              ·rw [if_neg c34] at H
               exact absurd H (by simp)
             ·rw [if_neg c33] at H
              exact absurd H (by simp)
            ·rw [if_neg c32] at H
             exact absurd H (by simp)
           ·rw [if_neg c31] at H
            exact absurd H (by simp)
      ·replace c10:=Bool.eq_false_iff.mpr c10
       subst c10
       have H1 : (some x5_1) = some r:=by rw [if_neg (show ¬ (false = true) by decide)] at H;exact H
       clear H
       have H:=H1
       clear H1
       obtain rfl:=Option.some.inj H
       go_wp2
       go_ret
       exact ⟨_,by first|rfl|(simp [errW_none,errW_some] <;> rfl)|(simp [*,errW_none,errW_some] <;> rfl),by (with_reducible repeat (first|apply Kd.R_alloc|apply Kd.R_drewN|apply Kd.R_drew));exact HO_5.out,by repeat (first|(with_reducible first|exact HB.out|apply xA|apply xN|apply xD)|exact HB.out)⟩
 ·rw [if_neg c4] at H
  have c4b0 : (t120 == 0) = false:=beq_eq_false_iff_ne.mpr c4
  have c4b1 : (t120 != 0) = true:=bne_iff_ne.mpr c4
  obtain rfl:=Option.some.inj H
  go_enter Try.func22,Try.ntmps22
  go_wp2_with (first|((with_reducible refine gate_dst (N:=8) rfl ?_);(try (refine gate_guard (by rfl) ?_;dsimp only));refine Kd.R_lit k46 _ 46 ?hg (N:=8) ?hd (xs:=([] : List (S46))) (inner:=[]) (ok:=fun _ => True) (okp:=fun _ => True) ?hr ?hp (fun _ hk => hk) trivial (Below.refl _ _) (Nat.le_refl _) (by simp) ?_;(case hd => rfl);(case hg => rfl);(case hr => first|(go_simp;done)|(go_simp;rfl));(case hp => exact (Reps.none _ _));intro v118 w43 ho44 hb hg_ hnew_;clear hg_ hnew_;(first|rw [← Ny117.out] at ho44|(simp only [Int.reduceToNat] at ho44;rw [← Ny117.out] at ho44));have n0_:=Aside0.mk (Kd.R_lower ho44 (below_size (by repeat (first|(with_reducible first|exact HB.out|apply xA|apply xN|apply xD)|exact HB.out))));have n1_:=Aside0.mk (below_step (by repeat (first|(with_reducible first|exact HB.out|apply xA|apply xN|apply xD)|exact HB.out)) hb);clear HB;have HO119:=n0_;have HB:=n1_;clear n0_ n1_;clear hb ho44)|((with_reducible refine gate_callee (f:=40) rfl ?_);refine goesL_ (some 11) rfl rfl Try.func40 (by kernel_rfl) rfl #[.slice A0 l0.length c0,.slice A1 l1.length c1] rfl (by (try simp only [List.map_toArray,List.map_cons,List.map_nil]);first|done|rfl|(simp only [List.length_drop,List.length_take];rfl)) ?_;(with_reducible refine (tidelineref09_check.calls k _ _ l0 _ _ l1 t120 _ ?side1 ?side2 ?side3 ?side4 A3.out).mono ?_);(case side1 => repeat (first|exact (Kd.C_below HR0.out HB.out)|(with_reducible refine Kd.C_alloc ?_ _)|(with_reducible refine Kd.C_drewN ?_ _)|(with_reducible refine Kd.C_drew ?_)));(case side2 => exact HC0.out);(case side3 => repeat (first|exact (Kd.C_below HR1.out HB.out)|(with_reducible refine Kd.C_alloc ?_ _)|(with_reducible refine Kd.C_drewN ?_ _)|(with_reducible refine Kd.C_drew ?_)));(case side4 => exact HC1.out);rintro e w45 ⟨rfl,hb⟩;refine ⟨_,rfl,?_⟩;replace HO119:=Aside0.mk (Kd.R_below (by (with_reducible repeat (first|apply Kd.R_alloc|apply Kd.R_drewN|apply Kd.R_drew));exact HO119.out) hb);replace HB:=Aside0.mk (below_step (by repeat (first|(with_reducible first|exact HB.out|apply xA|apply xN|apply xD)|exact HB.out)) hb);(try clear hb);(try clear hb2);(try clear hk);(try clear hi)))
  go_ret
  exact ⟨_,by first|rfl|(simp [errW_none,errW_some] <;> rfl)|(simp [*,errW_none,errW_some] <;> rfl),by (with_reducible repeat (first|apply Kd.R_alloc|apply Kd.R_drewN|apply Kd.R_drew));exact HO119.out,by repeat (first|(with_reducible first|exact HB.out|apply xA|apply xN|apply xD)|exact HB.out)⟩

end Go.Proofs.Ytghlellambnkeaa.PAll
