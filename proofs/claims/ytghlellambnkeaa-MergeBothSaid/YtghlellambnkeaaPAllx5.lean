-- By wip/pr.py (a program of this session, over the kit's print): lines written by program. Not trusted: Lean checks them.
import Derived.Test.YtghlellambnkeaaPAllx0
import Derived.Test.YtghlellambnkeaaPAllx4
namespace Go.Proofs.Ytghlellambnkeaa.PAll
open Go.RowKit Go.Proofs.YtghlellambnkeaaW.PrintWords Go.Proofs.YtghlellambnkeaaW.PrintLast Go.Proofs.YtghlellambnkeaaW.PrintMore
attribute [local go_sem] max2_int min2_int max_two min_two max_three min_three max_four min_four   -- for this text's walks alone
set_option linter.unusedVariables false
set_option linter.unusedSimpArgs false

/-! ### tidelineref09_Pairs: function 22 -/
mutual
def tidelineref09_Pairs.l0 : Nat → List (S44) → List (S44) → List (S46) → Int → Int → Option ((List (S46)))
  | 0, _, _, _, _, _ => none
  | k + 1, x0, x1, x5, x6, x7 => if x6 < (x0.length : Int) then (tidelineref09_Pairs.j1 k x0 x1 x5 x6 x7 true) else (tidelineref09_Pairs.j1 k x0 x1 x5 x6 x7 (decide (x7 < (x1.length : Int))))
def tidelineref09_Pairs.j1 : Nat → List (S44) → List (S44) → List (S46) → Int → Int → Bool → Option ((List (S46)))
  | 0, _, _, _, _, _, _ => none
  | k + 1, x0, x1, x5, x6, x7, x23 => if x23 = true then (if x7 = (x1.length : Int) then (tidelineref09_Pairs.j2 k x0 x1 x5 x6 x7 true) else (if x6 < (x0.length : Int) then (if 0 ≤ x6 then (if 0 ≤ x7 then (if x7 < (x1.length : Int) then (tidelineref09_Pairs.j2 k x0 x1 x5 x6 x7 (Op.bytesLess (((rd_T44 x0 x6).f0).toList) (((rd_T44 x1 x7).f0).toList))) else (none)) else (none)) else (none)) else (tidelineref09_Pairs.j2 k x0 x1 x5 x6 x7 false))) else (some x5)
def tidelineref09_Pairs.j2 : Nat → List (S44) → List (S44) → List (S46) → Int → Int → Bool → Option ((List (S46)))
  | 0, _, _, _, _, _, _ => none
  | k + 1, x0, x1, x5, x6, x7, x40 => if x40 = true then (if 0 ≤ x6 then (if x6 < (x0.length : Int) then (if x5.length < 1256584717458 then (tidelineref09_Pairs.l0 k x0 x1 (x5 ++ [(⟨(⟨(rd_T44 x0 x6).f0, (⟨(rd_T44 x0 x6).f1.f0, (rd_T44 x0 x6).f1.f1⟩ : S42), (rd_T44 x0 x6).f2, (rd_T44 x0 x6).f3⟩ : S44), (⟨(⟨#[]⟩ : ByteArray), (⟨0, 0⟩ : S42), (⟨#[]⟩ : ByteArray), false⟩ : S44)⟩ : S46)]) (wrap64 (x6 + 1)) x7) else (none)) else (none)) else (none)) else (if x6 = (x0.length : Int) then (if 0 ≤ x7 then (if x7 < (x1.length : Int) then (if x5.length < 1256584717458 then (tidelineref09_Pairs.l0 k x0 x1 (x5 ++ [(⟨(⟨(⟨#[]⟩ : ByteArray), (⟨0, 0⟩ : S42), (⟨#[]⟩ : ByteArray), false⟩ : S44), (⟨(rd_T44 x1 x7).f0, (⟨(rd_T44 x1 x7).f1.f0, (rd_T44 x1 x7).f1.f1⟩ : S42), (rd_T44 x1 x7).f2, (rd_T44 x1 x7).f3⟩ : S44)⟩ : S46)]) x6 (wrap64 (x7 + 1))) else (none)) else (none)) else (none)) else (if 0 ≤ x7 then (if x7 < (x1.length : Int) then (if 0 ≤ x6 then (if x6 < (x0.length : Int) then (if (Op.bytesLess (((rd_T44 x1 x7).f0).toList) (((rd_T44 x0 x6).f0).toList)) = true then (if x5.length < 1256584717458 then (tidelineref09_Pairs.l0 k x0 x1 (x5 ++ [(⟨(⟨(⟨#[]⟩ : ByteArray), (⟨0, 0⟩ : S42), (⟨#[]⟩ : ByteArray), false⟩ : S44), (⟨(rd_T44 x1 x7).f0, (⟨(rd_T44 x1 x7).f1.f0, (rd_T44 x1 x7).f1.f1⟩ : S42), (rd_T44 x1 x7).f2, (rd_T44 x1 x7).f3⟩ : S44)⟩ : S46)]) x6 (wrap64 (x7 + 1))) else (none)) else (if x5.length < 1256584717458 then (tidelineref09_Pairs.l0 k x0 x1 (x5 ++ [(⟨(⟨(rd_T44 x0 x6).f0, (⟨(rd_T44 x0 x6).f1.f0, (rd_T44 x0 x6).f1.f1⟩ : S42), (rd_T44 x0 x6).f2, (rd_T44 x0 x6).f3⟩ : S44), (⟨(rd_T44 x1 x7).f0, (⟨(rd_T44 x1 x7).f1.f0, (rd_T44 x1 x7).f1.f1⟩ : S42), (rd_T44 x1 x7).f2, (rd_T44 x1 x7).f3⟩ : S44)⟩ : S46)]) (wrap64 (x6 + 1)) (wrap64 (x7 + 1))) else (none))) else (none)) else (none)) else (none)) else (none)))
end
def tidelineref09_Pairs.f (k : Nat) (l0 : List (S44)) (l1 : List (S44)) : Option ((List (S46))) := (some (([] : List (S46)) : List (S46))).bind fun y131 => ((tidelineref09_check.f k l0 l1).bind fun t134 => (if t134 = 0 then (tidelineref09_Pairs.l0 k l0 l1 y131 0 0) else (some y131)))
theorem tidelineref09_Pairs.mono_l : ∀ k, (∀ y0 y1 y2 y3 y4, LeO (tidelineref09_Pairs.l0 k y0 y1 y2 y3 y4) (tidelineref09_Pairs.l0 (k + 1) y0 y1 y2 y3 y4)) ∧ (∀ y0 y1 y2 y3 y4 y5, LeO (tidelineref09_Pairs.j1 k y0 y1 y2 y3 y4 y5) (tidelineref09_Pairs.j1 (k + 1) y0 y1 y2 y3 y4 y5)) ∧ (∀ y0 y1 y2 y3 y4 y5, LeO (tidelineref09_Pairs.j2 k y0 y1 y2 y3 y4 y5) (tidelineref09_Pairs.j2 (k + 1) y0 y1 y2 y3 y4 y5))
  | 0 => ⟨fun _ _ _ _ _ r h => by simp [tidelineref09_Pairs.l0] at h, fun _ _ _ _ _ _ r h => by simp [tidelineref09_Pairs.j1] at h, fun _ _ _ _ _ _ r h => by simp [tidelineref09_Pairs.j2] at h⟩
  | k + 1 => by
    obtain ⟨ih0, ih1, ih2⟩ := tidelineref09_Pairs.mono_l k
    refine ⟨?_, ?_, ?_⟩
    · intro y0 y1 y2 y3 y4
      unfold tidelineref09_Pairs.l0
      repeat' first
      | (with_reducible exact ih0 _ _ _ _ _)
      | (with_reducible exact ih1 _ _ _ _ _ _)
      | (with_reducible exact ih2 _ _ _ _ _ _)
      | (with_reducible exact tidelineref09_check.mono _ _ _)
      | (with_reducible exact LeO.refl _)
      | (with_reducible exact LeO.none _)
      | (with_reducible refine LeO.ite ?_ ?_)
      | (with_reducible refine LeO.bind ?_ (fun _ => ?_))
      | exact ih0 _ _ _ _ _
      | exact ih1 _ _ _ _ _ _
      | exact ih2 _ _ _ _ _ _
      | exact tidelineref09_check.mono _ _ _
      | exact LeO.none _
      | refine LeO.ite ?_ ?_
      | refine LeO.bind ?_ (fun _ => ?_)
    · intro y0 y1 y2 y3 y4 y5
      unfold tidelineref09_Pairs.j1
      repeat' first
      | (with_reducible exact ih0 _ _ _ _ _)
      | (with_reducible exact ih1 _ _ _ _ _ _)
      | (with_reducible exact ih2 _ _ _ _ _ _)
      | (with_reducible exact tidelineref09_check.mono _ _ _)
      | (with_reducible exact LeO.refl _)
      | (with_reducible exact LeO.none _)
      | (with_reducible refine LeO.ite ?_ ?_)
      | (with_reducible refine LeO.bind ?_ (fun _ => ?_))
      | exact ih0 _ _ _ _ _
      | exact ih1 _ _ _ _ _ _
      | exact ih2 _ _ _ _ _ _
      | exact tidelineref09_check.mono _ _ _
      | exact LeO.none _
      | refine LeO.ite ?_ ?_
      | refine LeO.bind ?_ (fun _ => ?_)
    · intro y0 y1 y2 y3 y4 y5
      unfold tidelineref09_Pairs.j2
      repeat' first
      | (with_reducible exact ih0 _ _ _ _ _)
      | (with_reducible exact ih1 _ _ _ _ _ _)
      | (with_reducible exact ih2 _ _ _ _ _ _)
      | (with_reducible exact tidelineref09_check.mono _ _ _)
      | (with_reducible exact LeO.refl _)
      | (with_reducible exact LeO.none _)
      | (with_reducible refine LeO.ite ?_ ?_)
      | (with_reducible refine LeO.bind ?_ (fun _ => ?_))
      | exact ih0 _ _ _ _ _
      | exact ih1 _ _ _ _ _ _
      | exact ih2 _ _ _ _ _ _
      | exact tidelineref09_check.mono _ _ _
      | exact LeO.none _
      | refine LeO.ite ?_ ?_
      | refine LeO.bind ?_ (fun _ => ?_)
theorem tidelineref09_Pairs.mono : ∀ a0 a1 k, LeO (tidelineref09_Pairs.f k a0 a1) (tidelineref09_Pairs.f (k + 1) a0 a1) := by
  intro a0 a1 k
  obtain ⟨ih0, ih1, ih2⟩ := tidelineref09_Pairs.mono_l k
  unfold tidelineref09_Pairs.f
  repeat' first
      | (with_reducible exact ih0 _ _ _ _ _)
      | (with_reducible exact ih1 _ _ _ _ _ _)
      | (with_reducible exact ih2 _ _ _ _ _ _)
      | (with_reducible exact tidelineref09_check.mono _ _ _)
      | (with_reducible exact LeO.refl _)
      | (with_reducible exact LeO.none _)
      | (with_reducible refine LeO.ite ?_ ?_)
      | (with_reducible refine LeO.bind ?_ (fun _ => ?_))
      | exact ih0 _ _ _ _ _
      | exact ih1 _ _ _ _ _ _
      | exact ih2 _ _ _ _ _ _
      | exact tidelineref09_check.mono _ _ _
      | exact LeO.none _
      | refine LeO.ite ?_ ?_
      | refine LeO.bind ?_ (fun _ => ?_)
def tidelineref09_Pairs.T7 : Bool × List (List Nat × List Nat) := (true, [([], []), ([], []), ([], []), ([1, 2], [1, 2]), ([3], [3]), ([], []), ([], []), ([5, 6], [5, 6]), ([7], [7]), ([4, 8], [4, 8]), ([9], [9]), ([0, 10], [0, 10]), ([11, 11, 0, 1, 2, 3, 4, 5, 6, 7, 8, 9, 10, 11], [0, 11])])
def tidelineref09_Pairs.B7 : List Nat := [0, 0, 0, 6, 14, 0, 0, 96, 224, 510, 1022, 2047, 4095]
theorem tidelineref09_Pairs.tab7 : rtab .any (opsOf Try.f22 7) = tidelineref09_Pairs.T7 := by kernel_rfl
theorem tidelineref09_Pairs.bits7 : waitsOk tidelineref09_Pairs.T7.2 tidelineref09_Pairs.B7 = true := by kernel_rfl
def tidelineref09_Pairs.T10 : Bool × List (List Nat × List Nat) := (true, [([], []), ([], []), ([1], [1]), ([0, 2], [0, 2]), ([3], [3]), ([4], [4]), ([4], [4]), ([6, 4], [4, 6]), ([5, 7, 4], [4, 5, 7]), ([8, 4, 4], [4, 8]), ([9], [9]), ([9], [9]), ([10, 11, 9], [9, 10, 11]), ([12, 9], [9, 12]), ([13, 9], [9, 13]), ([9], [9]), ([9], [9]), ([15, 16, 9], [9, 15, 16]), ([17, 9], [9, 17]), ([18, 9], [9, 18]), ([14, 19, 9], [9, 14, 19]), ([9, 20, 4], [4, 9, 20]), ([4, 21], [4, 21]), ([22, 9], [22])])
def tidelineref09_Pairs.B10 : List Nat := [0, 0, 2, 7, 15, 31, 31, 95, 255, 511, 1023, 1023, 4095, 8191, 16383, 1023, 1023, 99327, 230399, 492543, 1048575, 2097151, 4194303, 8388607]
theorem tidelineref09_Pairs.tab10 : rtab .any (opsOf Try.f22 10) = tidelineref09_Pairs.T10 := by kernel_rfl
theorem tidelineref09_Pairs.bits10 : waitsOk tidelineref09_Pairs.T10.2 tidelineref09_Pairs.B10 = true := by kernel_rfl
def tidelineref09_Pairs.T13 : Bool × List (List Nat × List Nat) := (true, [([], []), ([], []), ([1], [1]), ([0, 2], [0, 2]), ([3], [3]), ([4], [4]), ([4], [4]), ([5, 6, 4], [4, 5, 6]), ([7, 4], [4, 7]), ([8, 4], [4, 8]), ([4], [4]), ([4], [4]), ([10, 11, 4], [4, 10, 11]), ([12, 4], [4, 12]), ([13, 4], [4, 13]), ([9, 14, 4], [4, 9, 14]), ([4, 15], [4, 15]), ([16, 4], [16])])
def tidelineref09_Pairs.B13 : List Nat := [0, 0, 2, 7, 15, 31, 31, 127, 255, 511, 31, 31, 3103, 7199, 15391, 32767, 65535, 131071]
theorem tidelineref09_Pairs.tab13 : rtab .any (opsOf Try.f22 13) = tidelineref09_Pairs.T13 := by kernel_rfl
theorem tidelineref09_Pairs.bits13 : waitsOk tidelineref09_Pairs.T13.2 tidelineref09_Pairs.B13 = true := by kernel_rfl
set_option maxHeartbeats 8000000 in
set_option maxRecDepth 100000 in
theorem tidelineref09_Pairs.calls (k : Nat) (A0 : Option Addr) (c0 : Nat) (l0 : List (S44)) (A1 : Option Addr) (c1 : Nat) (l1 : List (S44)) (r : List (S46)) (w : World) (hr0 : Kd.C k44 w A0 l0.length l0) (hc0 : l0.length ≤ c0) (hr1 : Kd.C k44 w A1 l1.length l1) (hc1 : l1.length ≤ c1) (h : tidelineref09_Pairs.f k l0 l1 = some r) :
    Calls Try.prog 22 #[.slice A0 l0.length c0, .slice A1 l1.length c1] w fun e w' => ∃ v0_ : Value, e = .returned (v0_) ∧ Kd.R k46 46 w' w.heap.size (fun _ => True) v0_ r ∧ Below w.heap.size w w' := by
 have hu44:=Try.underlying44
 have hu46:=Try.underlying46
 have HR0:=Aside0.mk hr0
 have HC0:=Aside0.mk hc0
 clear hr0 hc0
 have HR1:=Aside0.mk hr1
 have HC1:=Aside0.mk hc1
 clear hr1 hc1
 have HB:=Aside0.mk (Below.refl w.heap.size w)
 have H : ((some (([] : List (S46)) : List (S46))).bind fun y131 => ((tidelineref09_check.f k l0 l1).bind fun t134 => (if t134 = 0 then (tidelineref09_Pairs.l0 k l0 l1 y131 0 0) else (some y131)))) = some r:=h
 clear h
 obtain ⟨y131,hy131⟩ : ∃ y_ : List (S46),y_ = (([] : List (S46))):=⟨_,rfl⟩
 replace H : ((tidelineref09_check.f k l0 l1).bind fun t134 => (if t134 = 0 then (tidelineref09_Pairs.l0 k l0 l1 y131 0 0) else (some y131))) = some r:=by first|(rw [hy131];with_reducible exact H)|(have H2_:=(Option.bind_some _ _).symm.trans H;rw [hy131];with_reducible exact H2_)|(have H2_:=(Option.bind_some _ _).symm.trans H;with_reducible exact H2_)|with_reducible exact H|(rw [hy131];exact H)|exact H
 have Ny131:=Aside0.mk hy131
 clear hy131
 replace H:=Option.bind_eq_some_iff.mp H
 obtain ⟨t134,A30,H⟩:=H
 replace H : (if t134 = 0 then (tidelineref09_Pairs.l0 k l0 l1 y131 0 0) else (some y131)) = some r:=H
 have A3:=Aside0.mk A30
 clear A30
 by_cases c4 : t134 = 0
 ·rw [if_pos c4] at H
  have c4b0 : (t134 == 0) = true:=beq_iff_eq.mpr c4
  have c4b1 : (t134 != 0) = false:=bne_eq_false_iff_eq.mpr c4
  clear c4
  have H':=Aside0.mk H
  clear H
  go_enter Try.func22,Try.ntmps22
  go_wp2_with (first|((with_reducible refine gate_dst (N:=8) rfl ?_);(try (refine gate_guard (by rfl) ?_;dsimp only));refine Kd.R_lit k46 _ 46 ?hg (N:=8) ?hd (xs:=([] : List (S46))) (inner:=[]) (ok:=fun _ => True) (okp:=fun _ => True) ?hr ?hp (fun _ hk => hk) trivial (Below.refl _ _) (Nat.le_refl _) (by simp) ?_;(case hd => rfl);(case hg => rfl);(case hr => first|(go_simp;done)|(go_simp;rfl));(case hp => exact (Reps.none _ _));intro v132 w5 ho6 hb hg_ hnew_;clear hg_ hnew_;(first|rw [← Ny131.out] at ho6|(simp only [Int.reduceToNat] at ho6;rw [← Ny131.out] at ho6));have n0_:=Aside0.mk (Kd.R_lower ho6 (below_size (by repeat (first|(with_reducible first|exact HB.out|apply xA|apply xN|apply xD)|exact HB.out))));have n1_:=Aside0.mk (below_step (by repeat (first|(with_reducible first|exact HB.out|apply xA|apply xN|apply xD)|exact HB.out)) hb);clear HB;have HO133:=n0_;have HB:=n1_;clear n0_ n1_;clear hb ho6)|((with_reducible refine gate_callee (f:=40) rfl ?_);refine goesL_ (some 11) rfl rfl Try.func40 (by kernel_rfl) rfl #[.slice A0 l0.length c0,.slice A1 l1.length c1] rfl (by (try simp only [List.map_toArray,List.map_cons,List.map_nil]);first|done|rfl|(simp only [List.length_drop,List.length_take];rfl)) ?_;(with_reducible refine (tidelineref09_check.calls k _ _ l0 _ _ l1 t134 _ ?side1 ?side2 ?side3 ?side4 A3.out).mono ?_);(case side1 => repeat (first|exact (Kd.C_below HR0.out HB.out)|(with_reducible refine Kd.C_alloc ?_ _)|(with_reducible refine Kd.C_drewN ?_ _)|(with_reducible refine Kd.C_drew ?_)));(case side2 => exact HC0.out);(case side3 => repeat (first|exact (Kd.C_below HR1.out HB.out)|(with_reducible refine Kd.C_alloc ?_ _)|(with_reducible refine Kd.C_drewN ?_ _)|(with_reducible refine Kd.C_drew ?_)));(case side4 => exact HC1.out);rintro e w7 ⟨rfl,hb⟩;refine ⟨_,rfl,?_⟩;replace HO133:=Aside0.mk (Kd.R_below (by (with_reducible repeat (first|apply Kd.R_alloc|apply Kd.R_drewN|apply Kd.R_drew));exact HO133.out) hb);replace HB:=Aside0.mk (below_step (by repeat (first|(with_reducible first|exact HB.out|apply xA|apply xN|apply xD)|exact HB.out)) hb);(try clear hb);(try clear hb2);(try clear hk);(try clear hi)))
  go_loopg [5,6,7] k (fun kq v5 v6 v7 w' => ∃ (x5_1 : List (S46)) (x6_1 : Int) (x7_1 : Int),v6 = .int .i64 x6_1 ∧ v7 = .int .i64 x7_1 ∧ Aside0 (tidelineref09_Pairs.l0 kq l0 l1 x5_1 x6_1 x7_1 = some r) ∧ Aside0 (kq ≤ k) ∧ Aside0 (Kd.R k46 46 w' w.heap.size (fun _ => True) v5 x5_1) ∧ Aside0 (Below w.heap.size w w'))
  case atStart => exact ⟨(y131),(0),(0),(by first|rfl|(simp;done)|(simp [*];done)|(simp [*,Go.Proofs.Ytghlellambnkeaa.Str.bne_nil];done)),(by first|rfl|(simp;done)|(simp [*];done)|(simp [*,Go.Proofs.Ytghlellambnkeaa.Str.bne_nil];done)),H',⟨Nat.le_refl _⟩,⟨by (with_reducible repeat (first|apply Kd.R_alloc|apply Kd.R_drewN|apply Kd.R_drew));exact HO133.out⟩,⟨by repeat (first|(with_reducible first|exact HB.out|apply xA|apply xN|apply xD)|exact HB.out)⟩⟩
  case round =>
   clear H'
   try clear c1
   try clear c2
   try clear p2
   try clear c4
   try clear c4b0
   try clear c4b1
   obtain ⟨x5_1,x6_1,x7_1,rfl,rfl,HA,HK1,HO_5,HB⟩:=hrel
   cases gk with
  |zero => exact absurd HA.out (by simp [tidelineref09_Pairs.l0])
  |succ k1 =>
    have H:=HA.out
    clear HA
    simp only [tidelineref09_Pairs.l0] at H
    have HC8:=Aside0.mk H
    clear H
    go_upto_region 6 with (fail)
    go_cut [23] (fun v23 wc => ∃ (kq : Nat) (x23_7 : Bool),v23 = .bool x23_7 ∧ Aside0 (tidelineref09_Pairs.j1 kq l0 l1 x5_1 x6_1 x7_1 x23_7 = some r) ∧ Aside0 (kq ≤ k1) ∧ Aside0 (Kd.R k46 46 wc w.heap.size (fun _ => True) u5 x5_1) ∧ Aside0 (Below w.heap.size w wc))
    case first =>
     have H:=HC8.out
     clear HC8
     by_cases c9 : x6_1 < (l0.length : Int)
     ·rw [if_pos c9] at H
      have c9b0 : decide (x6_1 < (l0.length : Int)) = true:=decide_eq_true c9
      clear c9
      (first|rw [c9b0]|(simp only [i64_w,i32_w];rw [c9b0])|skip)
      have H':=Aside0.mk H
      clear H
      go_wp2
      go_meet
      case rel => exact ⟨_,(true),(by first|rfl|(simp;done)|(simp [*];done)|(simp [*,Go.Proofs.Ytghlellambnkeaa.Str.bne_nil];done)),H',⟨by have:=HK1.out;first|omega|exact Nat.le_refl _⟩,⟨by (with_reducible repeat (first|apply Kd.R_alloc|apply Kd.R_drewN|apply Kd.R_drew));exact HO_5.out⟩,⟨by repeat (first|(with_reducible first|exact HB.out|apply xA|apply xN|apply xD)|exact HB.out)⟩⟩
     ·rw [if_neg c9] at H
      have c9b0 : decide (x6_1 < (l0.length : Int)) = false:=decide_eq_false c9
      clear c9
      (first|rw [c9b0]|(simp only [i64_w,i32_w];rw [c9b0])|skip)
      have H':=Aside0.mk H
      clear H
      go_wp2
      go_meet
      case rel => exact ⟨_,(decide (x7_1 < (l1.length : Int))),(by first|rfl|(simp;done)|(simp [*];done)|(simp [*,Go.Proofs.Ytghlellambnkeaa.Str.bne_nil];done)),H',⟨by have:=HK1.out;first|omega|exact Nat.le_refl _⟩,⟨by (with_reducible repeat (first|apply Kd.R_alloc|apply Kd.R_drewN|apply Kd.R_drew));exact HO_5.out⟩,⟨by repeat (first|(with_reducible first|exact HB.out|apply xA|apply xN|apply xD)|exact HB.out)⟩⟩
    case rest =>
     clear HC8
     try clear c1
     try clear c2
     try clear p2
     try clear c4
     try clear c4b0
     try clear c4b1
     try clear c9
     try clear c9b0
     try clear p2
     obtain ⟨kq,x23_7,rfl,HA,HJ7,HO_5,HB⟩:=hcut
     cases kq with
    |zero => exact absurd HA.out (by simp [tidelineref09_Pairs.j1])
    |succ kj7 =>
      have H:=HA.out
      clear HA
      simp only [tidelineref09_Pairs.j1] at H
      by_cases c10 : x23_7 = true
      ·subst c10
       have H1 : (if x7_1 = (l1.length : Int) then (tidelineref09_Pairs.j2 kj7 l0 l1 x5_1 x6_1 x7_1 true) else (if x6_1 < (l0.length : Int) then (if 0 ≤ x6_1 then (if 0 ≤ x7_1 then (if x7_1 < (l1.length : Int) then (tidelineref09_Pairs.j2 kj7 l0 l1 x5_1 x6_1 x7_1 (Op.bytesLess (((rd_T44 l0 x6_1).f0).toList) (((rd_T44 l1 x7_1).f0).toList))) else (none)) else (none)) else (none)) else (tidelineref09_Pairs.j2 kj7 l0 l1 x5_1 x6_1 x7_1 false))) = some r:=by rw [if_pos rfl] at H;exact H
       clear H
       have H:=H1
       clear H1
       have HC11:=Aside0.mk H
       clear H
       go_upto_region 10 with (fail)
       go_cut [40] (fun v40 wc => ∃ (kq : Nat) (x40_10 : Bool),v40 = .bool x40_10 ∧ Aside0 (tidelineref09_Pairs.j2 kq l0 l1 x5_1 x6_1 x7_1 x40_10 = some r) ∧ Aside0 (kq ≤ kj7) ∧ Aside0 (Kd.R k46 46 wc w.heap.size (fun _ => True) u5 x5_1) ∧ Aside0 (Below w.heap.size w wc))
       case first =>
        have H:=HC11.out
        clear HC11
        by_cases c12 : x7_1 = (l1.length : Int)
        ·rw [if_pos c12] at H
         have c12b0 : (x7_1 == (l1.length : Int)) = true:=beq_iff_eq.mpr c12
         have c12b1 : (x7_1 != (l1.length : Int)) = false:=bne_eq_false_iff_eq.mpr c12
         clear c12
         (first|rw [c12b0]|(simp only [i64_w,i32_w];rw [c12b0])|skip)
         have H':=Aside0.mk H
         clear H
         try go_wp2
         replace HO_5:=Aside0.mk (Kd.R_drew HO_5.out)
         replace HB:=Aside0.mk (below_drew1 HB.out)
         refine start_ (n:=24) (S:=fun w' => True) (ds:=[]) #[false,false,false,false,false,false,false,false,false,false,false,false,false,false,false,false,false,false,false,false,false,false,false,false] (by kernel_rfl) rfl rfl trivial (fun hHeld => ?_);refine with_tabW tidelineref09_Pairs.tab10 tidelineref09_Pairs.bits10 (fun HT_ HW_ => ?_)
         generalize wc.drew = w13 at HO_5 HB hHeld ⊢
         refine pure_ (i:=0) (N:=some 41) (v:=?_) (a':=?_) #[true,false,false,false,false,false,false,false,false,false,false,false,false,false,false,false,false,false,false,false,false,false,false,false] rfl rfl (any_of HT_.out (by kernel_rfl)) (fun _ _ _ h => h) (Or.inl ⟨by rfl,?_⟩) ?_ ?_
         rotate_left
         ·intro w'
          go_simp
          with_reducible rfl
         rotate_left
         ·simp only [Act.put,List.setIfInBounds_toArray,List.set_cons_zero,List.set_cons_succ,i64_w,i32_w]
          rfl
         refine pure_ (i:=1) (N:=some 42) (v:=?_) (a':=?_) #[true,true,false,false,false,false,false,false,false,false,false,false,false,false,false,false,false,false,false,false,false,false,false,false] rfl rfl (any_of HT_.out (by kernel_rfl)) (fun _ _ _ h => h) (Or.inl ⟨by rfl,?_⟩) ?_ ?_
         rotate_left
         ·intro w'
          go_simp
          with_reducible rfl
         rotate_left
         ·simp only [Act.put,List.setIfInBounds_toArray,List.set_cons_zero,List.set_cons_succ,i64_w,i32_w]
          rfl
         refine pure_ (i:=2) (N:=some 43) (v:=?_) (a':=?_) #[true,true,true,false,false,false,false,false,false,false,false,false,false,false,false,false,false,false,false,false,false,false,false,false] rfl rfl (any_of HT_.out (by kernel_rfl)) (fun _ _ _ h => h) (Or.inl ⟨by rfl,?_⟩) ?_ ?_
         rotate_left
         ·intro w'
          go_simp
          with_reducible rfl
         rotate_left
         ·simp only [Act.put,List.setIfInBounds_toArray,List.set_cons_zero,List.set_cons_succ,i64_w,i32_w]
          rfl
         refine pure_ (i:=3) (N:=some 44) (v:=?_) (a':=?_) #[true,true,true,true,false,false,false,false,false,false,false,false,false,false,false,false,false,false,false,false,false,false,false,false] rfl rfl (any_of HT_.out (by kernel_rfl)) (fun _ _ _ h => h) (Or.inl ⟨by rfl,?_⟩) ?_ ?_
         rotate_left
         ·intro w'
          go_simp
          with_reducible rfl
         rotate_left
         ·simp only [Act.put,List.setIfInBounds_toArray,List.set_cons_zero,List.set_cons_succ,i64_w,i32_w]
          rfl
         refine pure_ (i:=4) (N:=some 45) (v:=?_) (a':=?_) #[true,true,true,true,true,false,false,false,false,false,false,false,false,false,false,false,false,false,false,false,false,false,false,false] rfl rfl (any_of HT_.out (by kernel_rfl)) (fun _ _ _ h => h) (Or.inl ⟨by rfl,?_⟩) ?_ ?_
         rotate_left
         ·intro w'
          go_simp
          with_reducible rfl
         rotate_left
         ·simp only [Act.put,List.setIfInBounds_toArray,List.set_cons_zero,List.set_cons_succ,i64_w,i32_w]
          rfl
         refine pure_ (i:=5) (N:=some 46) (v:=undef) (a':=?_) #[true,true,true,true,true,true,false,false,false,false,false,false,false,false,false,false,false,false,false,false,false,false,false,false] rfl rfl (any_of HT_.out (by kernel_rfl)) (fun _ _ _ h => h) (Or.inr ⟨by rfl,rfl⟩) ?_ ?_
         rotate_left
         ·simp only [Act.put,List.setIfInBounds_toArray,List.set_cons_zero,List.set_cons_succ,i64_w,i32_w]
          rfl
         refine pure_ (i:=6) (N:=some 47) (v:=undef) (a':=?_) #[true,true,true,true,true,true,true,false,false,false,false,false,false,false,false,false,false,false,false,false,false,false,false,false] rfl rfl (any_of HT_.out (by kernel_rfl)) (fun _ _ _ h => h) (Or.inr ⟨by rfl,rfl⟩) ?_ ?_
         rotate_left
         ·simp only [Act.put,List.setIfInBounds_toArray,List.set_cons_zero,List.set_cons_succ,i64_w,i32_w]
          rfl
         refine pure_ (i:=7) (N:=some 48) (v:=undef) (a':=?_) #[true,true,true,true,true,true,true,true,false,false,false,false,false,false,false,false,false,false,false,false,false,false,false,false] rfl rfl (any_of HT_.out (by kernel_rfl)) (fun _ _ _ h => h) (Or.inr ⟨by rfl,rfl⟩) ?_ ?_
         rotate_left
         ·simp only [Act.put,List.setIfInBounds_toArray,List.set_cons_zero,List.set_cons_succ,i64_w,i32_w]
          rfl
         refine pure_ (i:=8) (N:=some 49) (v:=undef) (a':=?_) #[true,true,true,true,true,true,true,true,true,false,false,false,false,false,false,false,false,false,false,false,false,false,false,false] rfl rfl (any_of HT_.out (by kernel_rfl)) (fun _ _ _ h => h) (Or.inr ⟨by rfl,rfl⟩) ?_ ?_
         rotate_left
         ·simp only [Act.put,List.setIfInBounds_toArray,List.set_cons_zero,List.set_cons_succ,i64_w,i32_w]
          rfl
         refine pure_ (i:=9) (N:=some 50) (v:=undef) (a':=?_) #[true,true,true,true,true,true,true,true,true,true,false,false,false,false,false,false,false,false,false,false,false,false,false,false] rfl rfl (any_of HT_.out (by kernel_rfl)) (fun _ _ _ h => h) (Or.inr ⟨by rfl,rfl⟩) ?_ ?_
         rotate_left
         ·simp only [Act.put,List.setIfInBounds_toArray,List.set_cons_zero,List.set_cons_succ,i64_w,i32_w]
          rfl
         refine pure_ (i:=10) (N:=some 51) (v:=undef) (a':=?_) #[true,true,true,true,true,true,true,true,true,true,true,false,false,false,false,false,false,false,false,false,false,false,false,false] rfl rfl (any_of HT_.out (by kernel_rfl)) (fun _ _ _ h => h) (Or.inr ⟨by rfl,rfl⟩) ?_ ?_
         rotate_left
         ·simp only [Act.put,List.setIfInBounds_toArray,List.set_cons_zero,List.set_cons_succ,i64_w,i32_w]
          rfl
         refine pure_ (i:=11) (N:=some 52) (v:=undef) (a':=?_) #[true,true,true,true,true,true,true,true,true,true,true,true,false,false,false,false,false,false,false,false,false,false,false,false] rfl rfl (any_of HT_.out (by kernel_rfl)) (fun _ _ _ h => h) (Or.inr ⟨by rfl,rfl⟩) ?_ ?_
         rotate_left
         ·simp only [Act.put,List.setIfInBounds_toArray,List.set_cons_zero,List.set_cons_succ,i64_w,i32_w]
          rfl
         refine pure_ (i:=12) (N:=some 53) (v:=undef) (a':=?_) #[true,true,true,true,true,true,true,true,true,true,true,true,true,false,false,false,false,false,false,false,false,false,false,false] rfl rfl (any_of HT_.out (by kernel_rfl)) (fun _ _ _ h => h) (Or.inr ⟨by rfl,rfl⟩) ?_ ?_
         rotate_left
         ·simp only [Act.put,List.setIfInBounds_toArray,List.set_cons_zero,List.set_cons_succ,i64_w,i32_w]
          rfl
         refine pure_ (i:=13) (N:=some 54) (v:=undef) (a':=?_) #[true,true,true,true,true,true,true,true,true,true,true,true,true,true,false,false,false,false,false,false,false,false,false,false] rfl rfl (any_of HT_.out (by kernel_rfl)) (fun _ _ _ h => h) (Or.inr ⟨by rfl,rfl⟩) ?_ ?_
         rotate_left
         ·simp only [Act.put,List.setIfInBounds_toArray,List.set_cons_zero,List.set_cons_succ,i64_w,i32_w]
          rfl
         refine pure_ (i:=14) (N:=some 55) (v:=undef) (a':=?_) #[true,true,true,true,true,true,true,true,true,true,true,true,true,true,true,false,false,false,false,false,false,false,false,false] rfl rfl (any_of HT_.out (by kernel_rfl)) (fun _ _ _ h => h) (Or.inr ⟨by rfl,rfl⟩) ?_ ?_
         rotate_left
         ·simp only [Act.put,List.setIfInBounds_toArray,List.set_cons_zero,List.set_cons_succ,i64_w,i32_w]
          rfl
         refine pure_ (i:=15) (N:=some 56) (v:=undef) (a':=?_) #[true,true,true,true,true,true,true,true,true,true,true,true,true,true,true,true,false,false,false,false,false,false,false,false] rfl rfl (any_of HT_.out (by kernel_rfl)) (fun _ _ _ h => h) (Or.inr ⟨by rfl,rfl⟩) ?_ ?_
         rotate_left
         ·simp only [Act.put,List.setIfInBounds_toArray,List.set_cons_zero,List.set_cons_succ,i64_w,i32_w]
          rfl
         refine pure_ (i:=16) (N:=some 57) (v:=undef) (a':=?_) #[true,true,true,true,true,true,true,true,true,true,true,true,true,true,true,true,true,false,false,false,false,false,false,false] rfl rfl (any_of HT_.out (by kernel_rfl)) (fun _ _ _ h => h) (Or.inr ⟨by rfl,rfl⟩) ?_ ?_
         rotate_left
         ·simp only [Act.put,List.setIfInBounds_toArray,List.set_cons_zero,List.set_cons_succ,i64_w,i32_w]
          rfl
         refine pure_ (i:=17) (N:=some 58) (v:=undef) (a':=?_) #[true,true,true,true,true,true,true,true,true,true,true,true,true,true,true,true,true,true,false,false,false,false,false,false] rfl rfl (any_of HT_.out (by kernel_rfl)) (fun _ _ _ h => h) (Or.inr ⟨by rfl,rfl⟩) ?_ ?_
         rotate_left
         ·simp only [Act.put,List.setIfInBounds_toArray,List.set_cons_zero,List.set_cons_succ,i64_w,i32_w]
          rfl
         refine pure_ (i:=18) (N:=some 59) (v:=undef) (a':=?_) #[true,true,true,true,true,true,true,true,true,true,true,true,true,true,true,true,true,true,true,false,false,false,false,false] rfl rfl (any_of HT_.out (by kernel_rfl)) (fun _ _ _ h => h) (Or.inr ⟨by rfl,rfl⟩) ?_ ?_
         rotate_left
         ·simp only [Act.put,List.setIfInBounds_toArray,List.set_cons_zero,List.set_cons_succ,i64_w,i32_w]
          rfl
         refine pure_ (i:=19) (N:=some 60) (v:=undef) (a':=?_) #[true,true,true,true,true,true,true,true,true,true,true,true,true,true,true,true,true,true,true,true,false,false,false,false] rfl rfl (any_of HT_.out (by kernel_rfl)) (fun _ _ _ h => h) (Or.inr ⟨by rfl,rfl⟩) ?_ ?_
         rotate_left
         ·simp only [Act.put,List.setIfInBounds_toArray,List.set_cons_zero,List.set_cons_succ,i64_w,i32_w]
          rfl
         refine pure_ (i:=20) (N:=some 61) (v:=undef) (a':=?_) #[true,true,true,true,true,true,true,true,true,true,true,true,true,true,true,true,true,true,true,true,true,false,false,false] rfl rfl (any_of HT_.out (by kernel_rfl)) (fun _ _ _ h => h) (Or.inr ⟨by rfl,rfl⟩) ?_ ?_
         rotate_left
         ·simp only [Act.put,List.setIfInBounds_toArray,List.set_cons_zero,List.set_cons_succ,i64_w,i32_w]
          rfl
         refine pure_ (i:=21) (N:=some 62) (v:=undef) (a':=?_) #[true,true,true,true,true,true,true,true,true,true,true,true,true,true,true,true,true,true,true,true,true,true,false,false] rfl rfl (any_of HT_.out (by kernel_rfl)) (fun _ _ _ h => h) (Or.inr ⟨by rfl,rfl⟩) ?_ ?_
         rotate_left
         ·simp only [Act.put,List.setIfInBounds_toArray,List.set_cons_zero,List.set_cons_succ,i64_w,i32_w]
          rfl
         refine pure_ (i:=22) (N:=some 63) (v:=?_) (a':=?_) #[true,true,true,true,true,true,true,true,true,true,true,true,true,true,true,true,true,true,true,true,true,true,true,false] rfl rfl (any_of HT_.out (by kernel_rfl)) (fun _ _ _ h => h) (Or.inl ⟨by rfl,?_⟩) ?_ ?_
         rotate_left
         ·intro w'
          go_simp
          with_reducible rfl
         rotate_left
         ·simp only [Act.put,List.setIfInBounds_toArray,List.set_cons_zero,List.set_cons_succ,i64_w,i32_w]
          rfl
         refine pure_ (i:=23) (N:=some 40) (v:=?_) (a':=?_) #[true,true,true,true,true,true,true,true,true,true,true,true,true,true,true,true,true,true,true,true,true,true,true,true] rfl rfl (any_of HT_.out (by kernel_rfl)) (fun _ _ _ h => h) (Or.inl ⟨by rfl,?_⟩) ?_ ?_
         rotate_left
         ·intro w'
          go_simp
          with_reducible rfl
         rotate_left
         ·simp only [Act.put,List.setIfInBounds_toArray,List.set_cons_zero,List.set_cons_succ,i64_w,i32_w]
          rfl
         refine done_ (done_of HT_.out (by kernel_rfl)) ?_
         try go_wp2
         go_meet
         case rel => exact ⟨_,(true),(by first|rfl|(simp;done)|(simp [*];done)|(simp [*,Go.Proofs.Ytghlellambnkeaa.Str.bne_nil];done)),H',⟨by have:=HK1.out;have:=HJ7.out;first|omega|exact Nat.le_refl _⟩,⟨by (with_reducible repeat (first|apply Kd.R_alloc|apply Kd.R_drewN|apply Kd.R_drew));exact HO_5.out⟩,⟨by repeat (first|(with_reducible first|exact HB.out|apply xA|apply xN|apply xD)|exact HB.out)⟩⟩
        ·rw [if_neg c12] at H
         have c12b0 : (x7_1 == (l1.length : Int)) = false:=beq_eq_false_iff_ne.mpr c12
         have c12b1 : (x7_1 != (l1.length : Int)) = true:=bne_iff_ne.mpr c12
         (first|rw [c12b0]|(simp only [i64_w,i32_w];rw [c12b0])|skip)
         by_cases c14 : x6_1 < (l0.length : Int)
         ·rw [if_pos c14] at H
          have c14b0 : decide (x6_1 < (l0.length : Int)) = true:=decide_eq_true c14
          clear c14
          by_cases c15 : 0 ≤ x6_1
          ·rw [if_pos c15] at H
           have c15b0 : decide (0 ≤ x6_1) = true:=decide_eq_true c15
           clear c15
           by_cases c16 : 0 ≤ x7_1
           ·rw [if_pos c16] at H
            have c16b0 : decide (0 ≤ x7_1) = true:=decide_eq_true c16
            clear c16
            by_cases c17 : x7_1 < (l1.length : Int)
            ·rw [if_pos c17] at H
             have c17b0 : decide (x7_1 < (l1.length : Int)) = true:=decide_eq_true c17
             clear c17
             have H':=Aside0.mk H
             clear H
             try go_wp2
             replace HO_5:=Aside0.mk (Kd.R_drew HO_5.out)
             replace HB:=Aside0.mk (below_drew1 HB.out)
             have p135 : 0 ≤ (x6_1 : Int):=of_decide_eq_true (by first|(with_reducible assumption)|assumption)
             have q135 : x6_1 < (l0.length : Int):=of_decide_eq_true (by first|(with_reducible assumption)|assumption)
             obtain ⟨ad135,e135,hx135_0,hx135_1,hx135_2,hx135_3,hx135_4⟩:=at_T44 HR0.out x6_1 p135 q135
             have hw135_4:=hx135_4
             have hw135_3:=hx135_3
             have hw135_2:=hx135_2
             have hw135_1:=hx135_1
             have hw135_0:=hx135_0
             cases e135
             replace hx135_0:=(HB.out.cell (World.block_lt_of_cell? w _ hx135_0)).trans hx135_0
             replace hx135_1:=(HB.out.cell (World.block_lt_of_cell? w _ hx135_1)).trans hx135_1
             replace hx135_2:=(HB.out.cell (World.block_lt_of_cell? w _ hx135_2)).trans hx135_2
             replace hx135_3:=(HB.out.cell (World.block_lt_of_cell? w _ hx135_3)).trans hx135_3
             replace hx135_4:=(HB.out.cell (World.block_lt_of_cell? w _ hx135_4)).trans hx135_4
             replace p135:=eq_true p135
             replace q135:=eq_true q135
             have p136 : 0 ≤ (x7_1 : Int):=of_decide_eq_true (by first|(with_reducible assumption)|assumption)
             have q136 : x7_1 < (l1.length : Int):=of_decide_eq_true (by first|(with_reducible assumption)|assumption)
             obtain ⟨ad136,e136,hx136_0,hx136_1,hx136_2,hx136_3,hx136_4⟩:=at_T44 HR1.out x7_1 p136 q136
             have hw136_4:=hx136_4
             have hw136_3:=hx136_3
             have hw136_2:=hx136_2
             have hw136_1:=hx136_1
             have hw136_0:=hx136_0
             cases e136
             replace hx136_0:=(HB.out.cell (World.block_lt_of_cell? w _ hx136_0)).trans hx136_0
             replace hx136_1:=(HB.out.cell (World.block_lt_of_cell? w _ hx136_1)).trans hx136_1
             replace hx136_2:=(HB.out.cell (World.block_lt_of_cell? w _ hx136_2)).trans hx136_2
             replace hx136_3:=(HB.out.cell (World.block_lt_of_cell? w _ hx136_3)).trans hx136_3
             replace hx136_4:=(HB.out.cell (World.block_lt_of_cell? w _ hx136_4)).trans hx136_4
             replace p136:=eq_true p136
             replace q136:=eq_true q136
             refine start_ (n:=24) (S:=fun w' => w'.cell? (ad135.add ((x6_1).toNat * 5)) = some (.string ((rd_T44 l0 x6_1).f0)) ∧ w'.cell? ⟨(ad135.add ((x6_1).toNat * 5)).block,(ad135.add ((x6_1).toNat * 5)).off + 1,none⟩ = some (.int .i64 ((rd_T44 l0 x6_1).f1.f0)) ∧ w'.cell? ⟨(ad135.add ((x6_1).toNat * 5)).block,(ad135.add ((x6_1).toNat * 5)).off + 2,none⟩ = some (.int .i64 ((rd_T44 l0 x6_1).f1.f1)) ∧ w'.cell? ⟨(ad135.add ((x6_1).toNat * 5)).block,(ad135.add ((x6_1).toNat * 5)).off + 3,none⟩ = some (.string ((rd_T44 l0 x6_1).f2)) ∧ w'.cell? ⟨(ad135.add ((x6_1).toNat * 5)).block,(ad135.add ((x6_1).toNat * 5)).off + 4,none⟩ = some (.bool ((rd_T44 l0 x6_1).f3)) ∧ w'.cell? (ad136.add ((x7_1).toNat * 5)) = some (.string ((rd_T44 l1 x7_1).f0)) ∧ w'.cell? ⟨(ad136.add ((x7_1).toNat * 5)).block,(ad136.add ((x7_1).toNat * 5)).off + 1,none⟩ = some (.int .i64 ((rd_T44 l1 x7_1).f1.f0)) ∧ w'.cell? ⟨(ad136.add ((x7_1).toNat * 5)).block,(ad136.add ((x7_1).toNat * 5)).off + 2,none⟩ = some (.int .i64 ((rd_T44 l1 x7_1).f1.f1)) ∧ w'.cell? ⟨(ad136.add ((x7_1).toNat * 5)).block,(ad136.add ((x7_1).toNat * 5)).off + 3,none⟩ = some (.string ((rd_T44 l1 x7_1).f2)) ∧ w'.cell? ⟨(ad136.add ((x7_1).toNat * 5)).block,(ad136.add ((x7_1).toNat * 5)).off + 4,none⟩ = some (.bool ((rd_T44 l1 x7_1).f3))) (ds:=[]) #[false,false,false,false,false,false,false,false,false,false,false,false,false,false,false,false,false,false,false,false,false,false,false,false] (by kernel_rfl) rfl rfl ⟨((HB.out.cell (World.block_lt_of_cell? w _ hw135_0)).trans hw135_0),((HB.out.cell (World.block_lt_of_cell? w _ hw135_1)).trans hw135_1),((HB.out.cell (World.block_lt_of_cell? w _ hw135_2)).trans hw135_2),((HB.out.cell (World.block_lt_of_cell? w _ hw135_3)).trans hw135_3),((HB.out.cell (World.block_lt_of_cell? w _ hw135_4)).trans hw135_4),((HB.out.cell (World.block_lt_of_cell? w _ hw136_0)).trans hw136_0),((HB.out.cell (World.block_lt_of_cell? w _ hw136_1)).trans hw136_1),((HB.out.cell (World.block_lt_of_cell? w _ hw136_2)).trans hw136_2),((HB.out.cell (World.block_lt_of_cell? w _ hw136_3)).trans hw136_3),((HB.out.cell (World.block_lt_of_cell? w _ hw136_4)).trans hw136_4)⟩ (fun hHeld => ?_);refine with_tabW tidelineref09_Pairs.tab10 tidelineref09_Pairs.bits10 (fun HT_ HW_ => ?_)
             generalize wc.drew = w18 at HO_5 HB hx135_0 hx135_1 hx135_2 hx135_3 hx135_4 hx136_0 hx136_1 hx136_2 hx136_3 hx136_4 hHeld ⊢
             refine pure_ (i:=0) (N:=some 41) (v:=?_) (a':=?_) #[true,false,false,false,false,false,false,false,false,false,false,false,false,false,false,false,false,false,false,false,false,false,false,false] rfl rfl (any_of HT_.out (by kernel_rfl)) (fun _ _ _ h => h) (Or.inl ⟨by rfl,?_⟩) ?_ ?_
             rotate_left
             ·intro w'
              go_simp
              with_reducible rfl
             rotate_left
             ·simp only [Act.put,List.setIfInBounds_toArray,List.set_cons_zero,List.set_cons_succ,i64_w,i32_w]
              rfl
             refine pure_ (i:=1) (N:=some 42) (v:=?_) (a':=?_) #[true,true,false,false,false,false,false,false,false,false,false,false,false,false,false,false,false,false,false,false,false,false,false,false] rfl rfl (any_of HT_.out (by kernel_rfl)) (fun _ _ _ h => h) (Or.inl ⟨by rfl,?_⟩) ?_ ?_
             rotate_left
             ·intro w'
              go_simp
              with_reducible rfl
             rotate_left
             ·simp only [Act.put,List.setIfInBounds_toArray,List.set_cons_zero,List.set_cons_succ,i64_w,i32_w]
              rfl
             refine pure_ (i:=2) (N:=some 43) (v:=?_) (a':=?_) #[true,true,true,false,false,false,false,false,false,false,false,false,false,false,false,false,false,false,false,false,false,false,false,false] rfl rfl (any_of HT_.out (by kernel_rfl)) (fun _ _ _ h => h) (Or.inl ⟨by rfl,?_⟩) ?_ ?_
             rotate_left
             ·intro w'
              go_simp
              with_reducible rfl
             rotate_left
             ·simp only [Act.put,List.setIfInBounds_toArray,List.set_cons_zero,List.set_cons_succ,i64_w,i32_w]
              rfl
             refine pure_ (i:=3) (N:=some 44) (v:=?_) (a':=?_) #[true,true,true,true,false,false,false,false,false,false,false,false,false,false,false,false,false,false,false,false,false,false,false,false] rfl rfl (any_of HT_.out (by kernel_rfl)) (fun _ _ _ h => h) (Or.inl ⟨by rfl,?_⟩) ?_ ?_
             rotate_left
             ·intro w'
              go_simp
              with_reducible rfl
             rotate_left
             ·simp only [Act.put,List.setIfInBounds_toArray,List.set_cons_zero,List.set_cons_succ,i64_w,i32_w]
              rfl
             refine pure_ (i:=4) (N:=some 45) (v:=?_) (a':=?_) #[true,true,true,true,true,false,false,false,false,false,false,false,false,false,false,false,false,false,false,false,false,false,false,false] rfl rfl (any_of HT_.out (by kernel_rfl)) (fun _ _ _ h => h) (Or.inl ⟨by rfl,?_⟩) ?_ ?_
             rotate_left
             ·intro w'
              go_simp
              with_reducible rfl
             rotate_left
             ·simp only [Act.put,List.setIfInBounds_toArray,List.set_cons_zero,List.set_cons_succ,i64_w,i32_w]
              rfl
             refine pure_ (i:=5) (N:=some 46) (v:=?_) (a':=?_) #[true,true,true,true,true,true,false,false,false,false,false,false,false,false,false,false,false,false,false,false,false,false,false,false] rfl rfl (any_of HT_.out (by kernel_rfl)) (fun _ _ _ h => h) (Or.inl ⟨by rfl,?_⟩) ?_ ?_
             rotate_left
             ·intro w'
              go_simp
              with_reducible rfl
             rotate_left
             ·simp only [Act.put,List.setIfInBounds_toArray,List.set_cons_zero,List.set_cons_succ,i64_w,i32_w]
              rfl
             refine pure_ (i:=6) (N:=some 47) (v:=?_) (a':=?_) #[true,true,true,true,true,true,true,false,false,false,false,false,false,false,false,false,false,false,false,false,false,false,false,false] rfl rfl (any_of HT_.out (by kernel_rfl)) (fun _ _ _ h => h) (Or.inl ⟨by rfl,?_⟩) ?_ ?_
             rotate_left
             ·intro w'
              go_simp
              with_reducible rfl
             rotate_left
             ·simp only [Act.put,List.setIfInBounds_toArray,List.set_cons_zero,List.set_cons_succ,i64_w,i32_w]
              rfl
             refine pure_ (i:=7) (N:=some 48) (v:=?_) (a':=?_) #[true,true,true,true,true,true,true,true,false,false,false,false,false,false,false,false,false,false,false,false,false,false,false,false] rfl rfl (any_of HT_.out (by kernel_rfl)) (fun _ _ _ h => h) (Or.inl ⟨by rfl,?_⟩) ?_ ?_
             rotate_left
             ·intro w'
              go_simp
              with_reducible rfl
             rotate_left
             ·simp only [Act.put,List.setIfInBounds_toArray,List.set_cons_zero,List.set_cons_succ,i64_w,i32_w]
              rfl
             refine pure_ (i:=8) (N:=some 49) (v:=?_) (a':=?_) #[true,true,true,true,true,true,true,true,true,false,false,false,false,false,false,false,false,false,false,false,false,false,false,false] rfl rfl (any_of HT_.out (by kernel_rfl)) (fun _ _ _ h => h) (Or.inl ⟨by rfl,?_⟩) ?_ ?_
             rotate_left
             ·intro w'
              go_simp
              with_reducible rfl
             rotate_left
             ·simp only [Act.put,List.setIfInBounds_toArray,List.set_cons_zero,List.set_cons_succ,i64_w,i32_w]
              rfl
             refine pure_ (i:=9) (N:=some 50) (v:=?_) (a':=?_) #[true,true,true,true,true,true,true,true,true,true,false,false,false,false,false,false,false,false,false,false,false,false,false,false] rfl rfl (any_of HT_.out (by kernel_rfl)) (fun _ _ _ h => h) (Or.inl ⟨by rfl,?_⟩) ?_ ?_
             rotate_left
             ·intro w'
              go_simp
              with_reducible rfl
             rotate_left
             ·simp only [Act.put,List.setIfInBounds_toArray,List.set_cons_zero,List.set_cons_succ,i64_w,i32_w]
              rfl
             refine pure_ (i:=10) (N:=some 51) (v:=?_) (a':=?_) #[true,true,true,true,true,true,true,true,true,true,true,false,false,false,false,false,false,false,false,false,false,false,false,false] rfl rfl (any_of HT_.out (by kernel_rfl)) (fun _ _ _ h => h) (Or.inl ⟨by rfl,?_⟩) ?_ ?_
             rotate_left
             ·intro w'
              go_simp
              with_reducible rfl
             rotate_left
             ·simp only [Act.put,List.setIfInBounds_toArray,List.set_cons_zero,List.set_cons_succ,i64_w,i32_w]
              rfl
             refine pure_ (i:=11) (N:=some 52) (v:=?_) (a':=?_) #[true,true,true,true,true,true,true,true,true,true,true,true,false,false,false,false,false,false,false,false,false,false,false,false] rfl rfl (any_of HT_.out (by kernel_rfl)) (fun _ _ _ h => h) (Or.inl ⟨by rfl,?_⟩) ?_ ?_
             rotate_left
             ·intro w'
              go_simp
              with_reducible rfl
             rotate_left
             ·simp only [Act.put,List.setIfInBounds_toArray,List.set_cons_zero,List.set_cons_succ,i64_w,i32_w]
              rfl
             refine pure_ (i:=12) (N:=some 53) (v:=?_) (a':=?_) #[true,true,true,true,true,true,true,true,true,true,true,true,true,false,false,false,false,false,false,false,false,false,false,false] rfl rfl (any_of HT_.out (by kernel_rfl)) (fun _ _ _ h => h) (Or.inl ⟨by rfl,?_⟩) ?_ ?_
             rotate_left
             ·intro w'
              go_simp
              with_reducible rfl
             rotate_left
             ·simp only [Act.put,List.setIfInBounds_toArray,List.set_cons_zero,List.set_cons_succ,i64_w,i32_w]
              rfl
             refine pure_ (i:=13) (N:=some 54) (v:=?_) (a':=?_) #[true,true,true,true,true,true,true,true,true,true,true,true,true,true,false,false,false,false,false,false,false,false,false,false] rfl rfl (any_of HT_.out (by kernel_rfl)) (fun _ _ _ h => h) (Or.inl ⟨by rfl,?_⟩) ?_ ?_
             rotate_left
             ·intro w'
              go_simp
              with_reducible rfl
             rotate_left
             ·simp only [Act.put,List.setIfInBounds_toArray,List.set_cons_zero,List.set_cons_succ,i64_w,i32_w]
              rfl
             refine pure_ (i:=15) (N:=some 56) (v:=?_) (a':=?_) #[true,true,true,true,true,true,true,true,true,true,true,true,true,true,false,true,false,false,false,false,false,false,false,false] rfl rfl (any_of HT_.out (by kernel_rfl)) (fun _ _ _ h => h) (Or.inl ⟨by rfl,?_⟩) ?_ ?_
             rotate_left
             ·intro w'
              go_simp
              with_reducible rfl
             rotate_left
             ·simp only [Act.put,List.setIfInBounds_toArray,List.set_cons_zero,List.set_cons_succ,i64_w,i32_w]
              rfl
             refine pure_ (i:=16) (N:=some 57) (v:=?_) (a':=?_) #[true,true,true,true,true,true,true,true,true,true,true,true,true,true,false,true,true,false,false,false,false,false,false,false] rfl rfl (any_of HT_.out (by kernel_rfl)) (fun _ _ _ h => h) (Or.inl ⟨by rfl,?_⟩) ?_ ?_
             rotate_left
             ·intro w'
              go_simp
              with_reducible rfl
             rotate_left
             ·simp only [Act.put,List.setIfInBounds_toArray,List.set_cons_zero,List.set_cons_succ,i64_w,i32_w]
              rfl
             refine pure_ (i:=17) (N:=some 58) (v:=?_) (a':=?_) #[true,true,true,true,true,true,true,true,true,true,true,true,true,true,false,true,true,true,false,false,false,false,false,false] rfl rfl (any_of HT_.out (by kernel_rfl)) (fun _ _ _ h => h) (Or.inl ⟨by rfl,?_⟩) ?_ ?_
             rotate_left
             ·intro w'
              go_simp
              with_reducible rfl
             rotate_left
             ·simp only [Act.put,List.setIfInBounds_toArray,List.set_cons_zero,List.set_cons_succ,i64_w,i32_w]
              rfl
             refine pure_ (i:=18) (N:=some 59) (v:=?_) (a':=?_) #[true,true,true,true,true,true,true,true,true,true,true,true,true,true,false,true,true,true,true,false,false,false,false,false] rfl rfl (any_of HT_.out (by kernel_rfl)) (fun _ _ _ h => h) (Or.inl ⟨by rfl,?_⟩) ?_ ?_
             rotate_left
             ·intro w'
              go_simp
              with_reducible rfl
             rotate_left
             ·simp only [Act.put,List.setIfInBounds_toArray,List.set_cons_zero,List.set_cons_succ,i64_w,i32_w]
              rfl
             refine take_ (i:=14) (N:=some 55) (v:=?_) (a':=?_) #[true,true,true,true,true,true,true,true,true,true,true,true,true,true,true,true,true,true,true,false,false,false,false,false] rfl rfl (take_ofW HT_.out HW_.out (by kernel_rfl)) (fun _ _ _ h => h) (Or.inl ⟨by rfl,?_⟩) hHeld ?_ ?_
             rotate_left
             ·rintro w' ⟨s0,s1,s2,s3,s4,s5,s6,s7,s8,s9⟩
              go_simp
              with_reducible rfl
             rotate_left
             ·simp only [Act.put,List.setIfInBounds_toArray,List.set_cons_zero,List.set_cons_succ,i64_w,i32_w]
              rfl
             refine take_ (i:=19) (N:=some 60) (v:=?_) (a':=?_) #[true,true,true,true,true,true,true,true,true,true,true,true,true,true,true,true,true,true,true,true,false,false,false,false] rfl rfl (take_ofW HT_.out HW_.out (by kernel_rfl)) (fun _ _ _ h => h) (Or.inl ⟨by rfl,?_⟩) hHeld ?_ ?_
             rotate_left
             ·rintro w' ⟨s0,s1,s2,s3,s4,s5,s6,s7,s8,s9⟩
              go_simp
              with_reducible rfl
             rotate_left
             ·simp only [Act.put,List.setIfInBounds_toArray,List.set_cons_zero,List.set_cons_succ,i64_w,i32_w]
              rfl
             refine pure_ (i:=20) (N:=some 61) (v:=?_) (a':=?_) #[true,true,true,true,true,true,true,true,true,true,true,true,true,true,true,true,true,true,true,true,true,false,false,false] rfl rfl (any_of HT_.out (by kernel_rfl)) (fun _ _ _ h => h) (Or.inl ⟨by rfl,?_⟩) ?_ ?_
             rotate_left
             ·intro w'
              go_simp
              with_reducible rfl
             rotate_left
             ·simp only [Act.put,List.setIfInBounds_toArray,List.set_cons_zero,List.set_cons_succ,i64_w,i32_w]
              rfl
             refine pure_ (i:=21) (N:=some 62) (v:=?_) (a':=?_) #[true,true,true,true,true,true,true,true,true,true,true,true,true,true,true,true,true,true,true,true,true,true,false,false] rfl rfl (any_of HT_.out (by kernel_rfl)) (fun _ _ _ h => h) (Or.inl ⟨by rfl,?_⟩) ?_ ?_
             rotate_left
             ·intro w'
              go_simp
              with_reducible rfl
             rotate_left
             ·simp only [Act.put,List.setIfInBounds_toArray,List.set_cons_zero,List.set_cons_succ,i64_w,i32_w]
              rfl
             refine pure_ (i:=22) (N:=some 63) (v:=?_) (a':=?_) #[true,true,true,true,true,true,true,true,true,true,true,true,true,true,true,true,true,true,true,true,true,true,true,false] rfl rfl (any_of HT_.out (by kernel_rfl)) (fun _ _ _ h => h) (Or.inl ⟨by rfl,?_⟩) ?_ ?_
             rotate_left
             ·intro w'
              go_simp
              with_reducible rfl
             rotate_left
             ·simp only [Act.put,List.setIfInBounds_toArray,List.set_cons_zero,List.set_cons_succ,i64_w,i32_w]
              rfl
             refine pure_ (i:=23) (N:=some 40) (v:=?_) (a':=?_) #[true,true,true,true,true,true,true,true,true,true,true,true,true,true,true,true,true,true,true,true,true,true,true,true] rfl rfl (any_of HT_.out (by kernel_rfl)) (fun _ _ _ h => h) (Or.inl ⟨by rfl,?_⟩) ?_ ?_
             rotate_left
             ·intro w'
              go_simp
              with_reducible rfl
             rotate_left
             ·simp only [Act.put,List.setIfInBounds_toArray,List.set_cons_zero,List.set_cons_succ,i64_w,i32_w]
              rfl
             refine done_ (done_of HT_.out (by kernel_rfl)) ?_
             try go_wp2
             go_meet
             case rel => exact ⟨_,((Op.bytesLess (((rd_T44 l0 x6_1).f0).toList) (((rd_T44 l1 x7_1).f0).toList))),(by first|rfl|(simp;done)|(simp [*];done)|(simp [*,Go.Proofs.Ytghlellambnkeaa.Str.bne_nil];done)),H',⟨by have:=HK1.out;have:=HJ7.out;first|omega|exact Nat.le_refl _⟩,⟨by (with_reducible repeat (first|apply Kd.R_alloc|apply Kd.R_drewN|apply Kd.R_drew));exact HO_5.out⟩,⟨by repeat (first|(with_reducible first|exact HB.out|apply xA|apply xN|apply xD)|exact HB.out)⟩⟩
            ·rw [if_neg c17] at H
             exact absurd H (by simp)
           ·rw [if_neg c16] at H
            exact absurd H (by simp)
          ·rw [if_neg c15] at H
           exact absurd H (by simp)
         ·rw [if_neg c14] at H
          have c14b0 : decide (x6_1 < (l0.length : Int)) = false:=decide_eq_false c14
          clear c14
          have H':=Aside0.mk H
          clear H
          try go_wp2
          replace HO_5:=Aside0.mk (Kd.R_drew HO_5.out)
          replace HB:=Aside0.mk (below_drew1 HB.out)
          refine start_ (n:=24) (S:=fun w' => True) (ds:=[]) #[false,false,false,false,false,false,false,false,false,false,false,false,false,false,false,false,false,false,false,false,false,false,false,false] (by kernel_rfl) rfl rfl trivial (fun hHeld => ?_);refine with_tabW tidelineref09_Pairs.tab10 tidelineref09_Pairs.bits10 (fun HT_ HW_ => ?_)
          generalize wc.drew = w19 at HO_5 HB hHeld ⊢
          refine pure_ (i:=0) (N:=some 41) (v:=?_) (a':=?_) #[true,false,false,false,false,false,false,false,false,false,false,false,false,false,false,false,false,false,false,false,false,false,false,false] rfl rfl (any_of HT_.out (by kernel_rfl)) (fun _ _ _ h => h) (Or.inl ⟨by rfl,?_⟩) ?_ ?_
          rotate_left
          ·intro w'
           go_simp
           with_reducible rfl
          rotate_left
          ·simp only [Act.put,List.setIfInBounds_toArray,List.set_cons_zero,List.set_cons_succ,i64_w,i32_w]
           rfl
          refine pure_ (i:=1) (N:=some 42) (v:=?_) (a':=?_) #[true,true,false,false,false,false,false,false,false,false,false,false,false,false,false,false,false,false,false,false,false,false,false,false] rfl rfl (any_of HT_.out (by kernel_rfl)) (fun _ _ _ h => h) (Or.inl ⟨by rfl,?_⟩) ?_ ?_
          rotate_left
          ·intro w'
           go_simp
           with_reducible rfl
          rotate_left
          ·simp only [Act.put,List.setIfInBounds_toArray,List.set_cons_zero,List.set_cons_succ,i64_w,i32_w]
           rfl
          refine pure_ (i:=2) (N:=some 43) (v:=?_) (a':=?_) #[true,true,true,false,false,false,false,false,false,false,false,false,false,false,false,false,false,false,false,false,false,false,false,false] rfl rfl (any_of HT_.out (by kernel_rfl)) (fun _ _ _ h => h) (Or.inl ⟨by rfl,?_⟩) ?_ ?_
          rotate_left
          ·intro w'
           go_simp
           with_reducible rfl
          rotate_left
          ·simp only [Act.put,List.setIfInBounds_toArray,List.set_cons_zero,List.set_cons_succ,i64_w,i32_w]
           rfl
          refine pure_ (i:=3) (N:=some 44) (v:=?_) (a':=?_) #[true,true,true,true,false,false,false,false,false,false,false,false,false,false,false,false,false,false,false,false,false,false,false,false] rfl rfl (any_of HT_.out (by kernel_rfl)) (fun _ _ _ h => h) (Or.inl ⟨by rfl,?_⟩) ?_ ?_
          rotate_left
          ·intro w'
           go_simp
           with_reducible rfl
          rotate_left
          ·simp only [Act.put,List.setIfInBounds_toArray,List.set_cons_zero,List.set_cons_succ,i64_w,i32_w]
           rfl
          refine pure_ (i:=4) (N:=some 45) (v:=?_) (a':=?_) #[true,true,true,true,true,false,false,false,false,false,false,false,false,false,false,false,false,false,false,false,false,false,false,false] rfl rfl (any_of HT_.out (by kernel_rfl)) (fun _ _ _ h => h) (Or.inl ⟨by rfl,?_⟩) ?_ ?_
          rotate_left
          ·intro w'
           go_simp
           with_reducible rfl
          rotate_left
          ·simp only [Act.put,List.setIfInBounds_toArray,List.set_cons_zero,List.set_cons_succ,i64_w,i32_w]
           rfl
          refine pure_ (i:=5) (N:=some 46) (v:=?_) (a':=?_) #[true,true,true,true,true,true,false,false,false,false,false,false,false,false,false,false,false,false,false,false,false,false,false,false] rfl rfl (any_of HT_.out (by kernel_rfl)) (fun _ _ _ h => h) (Or.inl ⟨by rfl,?_⟩) ?_ ?_
          rotate_left
          ·intro w'
           go_simp
           with_reducible rfl
          rotate_left
          ·simp only [Act.put,List.setIfInBounds_toArray,List.set_cons_zero,List.set_cons_succ,i64_w,i32_w]
           rfl
          refine pure_ (i:=6) (N:=some 47) (v:=?_) (a':=?_) #[true,true,true,true,true,true,true,false,false,false,false,false,false,false,false,false,false,false,false,false,false,false,false,false] rfl rfl (any_of HT_.out (by kernel_rfl)) (fun _ _ _ h => h) (Or.inl ⟨by rfl,?_⟩) ?_ ?_
          rotate_left
          ·intro w'
           go_simp
           with_reducible rfl
          rotate_left
          ·simp only [Act.put,List.setIfInBounds_toArray,List.set_cons_zero,List.set_cons_succ,i64_w,i32_w]
           rfl
          refine pure_ (i:=7) (N:=some 48) (v:=?_) (a':=?_) #[true,true,true,true,true,true,true,true,false,false,false,false,false,false,false,false,false,false,false,false,false,false,false,false] rfl rfl (any_of HT_.out (by kernel_rfl)) (fun _ _ _ h => h) (Or.inl ⟨by rfl,?_⟩) ?_ ?_
          rotate_left
          ·intro w'
           go_simp
           with_reducible rfl
          rotate_left
          ·simp only [Act.put,List.setIfInBounds_toArray,List.set_cons_zero,List.set_cons_succ,i64_w,i32_w]
           rfl
          refine pure_ (i:=8) (N:=some 49) (v:=?_) (a':=?_) #[true,true,true,true,true,true,true,true,true,false,false,false,false,false,false,false,false,false,false,false,false,false,false,false] rfl rfl (any_of HT_.out (by kernel_rfl)) (fun _ _ _ h => h) (Or.inl ⟨by rfl,?_⟩) ?_ ?_
          rotate_left
          ·intro w'
           go_simp
           with_reducible rfl
          rotate_left
          ·simp only [Act.put,List.setIfInBounds_toArray,List.set_cons_zero,List.set_cons_succ,i64_w,i32_w]
           rfl
          refine pure_ (i:=9) (N:=some 50) (v:=?_) (a':=?_) #[true,true,true,true,true,true,true,true,true,true,false,false,false,false,false,false,false,false,false,false,false,false,false,false] rfl rfl (any_of HT_.out (by kernel_rfl)) (fun _ _ _ h => h) (Or.inl ⟨by rfl,?_⟩) ?_ ?_
          rotate_left
          ·intro w'
           go_simp
           with_reducible rfl
          rotate_left
          ·simp only [Act.put,List.setIfInBounds_toArray,List.set_cons_zero,List.set_cons_succ,i64_w,i32_w]
           rfl
          refine pure_ (i:=10) (N:=some 51) (v:=undef) (a':=?_) #[true,true,true,true,true,true,true,true,true,true,true,false,false,false,false,false,false,false,false,false,false,false,false,false] rfl rfl (any_of HT_.out (by kernel_rfl)) (fun _ _ _ h => h) (Or.inr ⟨by rfl,rfl⟩) ?_ ?_
          rotate_left
          ·simp only [Act.put,List.setIfInBounds_toArray,List.set_cons_zero,List.set_cons_succ,i64_w,i32_w]
           rfl
          refine pure_ (i:=11) (N:=some 52) (v:=undef) (a':=?_) #[true,true,true,true,true,true,true,true,true,true,true,true,false,false,false,false,false,false,false,false,false,false,false,false] rfl rfl (any_of HT_.out (by kernel_rfl)) (fun _ _ _ h => h) (Or.inr ⟨by rfl,rfl⟩) ?_ ?_
          rotate_left
          ·simp only [Act.put,List.setIfInBounds_toArray,List.set_cons_zero,List.set_cons_succ,i64_w,i32_w]
           rfl
          refine pure_ (i:=12) (N:=some 53) (v:=undef) (a':=?_) #[true,true,true,true,true,true,true,true,true,true,true,true,true,false,false,false,false,false,false,false,false,false,false,false] rfl rfl (any_of HT_.out (by kernel_rfl)) (fun _ _ _ h => h) (Or.inr ⟨by rfl,rfl⟩) ?_ ?_
          rotate_left
          ·simp only [Act.put,List.setIfInBounds_toArray,List.set_cons_zero,List.set_cons_succ,i64_w,i32_w]
           rfl
          refine pure_ (i:=13) (N:=some 54) (v:=undef) (a':=?_) #[true,true,true,true,true,true,true,true,true,true,true,true,true,true,false,false,false,false,false,false,false,false,false,false] rfl rfl (any_of HT_.out (by kernel_rfl)) (fun _ _ _ h => h) (Or.inr ⟨by rfl,rfl⟩) ?_ ?_
          rotate_left
          ·simp only [Act.put,List.setIfInBounds_toArray,List.set_cons_zero,List.set_cons_succ,i64_w,i32_w]
           rfl
          refine pure_ (i:=14) (N:=some 55) (v:=undef) (a':=?_) #[true,true,true,true,true,true,true,true,true,true,true,true,true,true,true,false,false,false,false,false,false,false,false,false] rfl rfl (any_of HT_.out (by kernel_rfl)) (fun _ _ _ h => h) (Or.inr ⟨by rfl,rfl⟩) ?_ ?_
          rotate_left
          ·simp only [Act.put,List.setIfInBounds_toArray,List.set_cons_zero,List.set_cons_succ,i64_w,i32_w]
           rfl
          refine pure_ (i:=15) (N:=some 56) (v:=undef) (a':=?_) #[true,true,true,true,true,true,true,true,true,true,true,true,true,true,true,true,false,false,false,false,false,false,false,false] rfl rfl (any_of HT_.out (by kernel_rfl)) (fun _ _ _ h => h) (Or.inr ⟨by rfl,rfl⟩) ?_ ?_
          rotate_left
          ·simp only [Act.put,List.setIfInBounds_toArray,List.set_cons_zero,List.set_cons_succ,i64_w,i32_w]
           rfl
          refine pure_ (i:=16) (N:=some 57) (v:=undef) (a':=?_) #[true,true,true,true,true,true,true,true,true,true,true,true,true,true,true,true,true,false,false,false,false,false,false,false] rfl rfl (any_of HT_.out (by kernel_rfl)) (fun _ _ _ h => h) (Or.inr ⟨by rfl,rfl⟩) ?_ ?_
          rotate_left
          ·simp only [Act.put,List.setIfInBounds_toArray,List.set_cons_zero,List.set_cons_succ,i64_w,i32_w]
           rfl
          refine pure_ (i:=17) (N:=some 58) (v:=undef) (a':=?_) #[true,true,true,true,true,true,true,true,true,true,true,true,true,true,true,true,true,true,false,false,false,false,false,false] rfl rfl (any_of HT_.out (by kernel_rfl)) (fun _ _ _ h => h) (Or.inr ⟨by rfl,rfl⟩) ?_ ?_
          rotate_left
          ·simp only [Act.put,List.setIfInBounds_toArray,List.set_cons_zero,List.set_cons_succ,i64_w,i32_w]
           rfl
          refine pure_ (i:=18) (N:=some 59) (v:=undef) (a':=?_) #[true,true,true,true,true,true,true,true,true,true,true,true,true,true,true,true,true,true,true,false,false,false,false,false] rfl rfl (any_of HT_.out (by kernel_rfl)) (fun _ _ _ h => h) (Or.inr ⟨by rfl,rfl⟩) ?_ ?_
          rotate_left
          ·simp only [Act.put,List.setIfInBounds_toArray,List.set_cons_zero,List.set_cons_succ,i64_w,i32_w]
           rfl
          refine pure_ (i:=19) (N:=some 60) (v:=undef) (a':=?_) #[true,true,true,true,true,true,true,true,true,true,true,true,true,true,true,true,true,true,true,true,false,false,false,false] rfl rfl (any_of HT_.out (by kernel_rfl)) (fun _ _ _ h => h) (Or.inr ⟨by rfl,rfl⟩) ?_ ?_
          rotate_left
          ·simp only [Act.put,List.setIfInBounds_toArray,List.set_cons_zero,List.set_cons_succ,i64_w,i32_w]
           rfl
          refine pure_ (i:=20) (N:=some 61) (v:=undef) (a':=?_) #[true,true,true,true,true,true,true,true,true,true,true,true,true,true,true,true,true,true,true,true,true,false,false,false] rfl rfl (any_of HT_.out (by kernel_rfl)) (fun _ _ _ h => h) (Or.inr ⟨by rfl,rfl⟩) ?_ ?_
          rotate_left
          ·simp only [Act.put,List.setIfInBounds_toArray,List.set_cons_zero,List.set_cons_succ,i64_w,i32_w]
           rfl
          refine pure_ (i:=21) (N:=some 62) (v:=?_) (a':=?_) #[true,true,true,true,true,true,true,true,true,true,true,true,true,true,true,true,true,true,true,true,true,true,false,false] rfl rfl (any_of HT_.out (by kernel_rfl)) (fun _ _ _ h => h) (Or.inl ⟨by rfl,?_⟩) ?_ ?_
          rotate_left
          ·intro w'
           go_simp
           with_reducible rfl
          rotate_left
          ·simp only [Act.put,List.setIfInBounds_toArray,List.set_cons_zero,List.set_cons_succ,i64_w,i32_w]
           rfl
          refine pure_ (i:=22) (N:=some 63) (v:=?_) (a':=?_) #[true,true,true,true,true,true,true,true,true,true,true,true,true,true,true,true,true,true,true,true,true,true,true,false] rfl rfl (any_of HT_.out (by kernel_rfl)) (fun _ _ _ h => h) (Or.inl ⟨by rfl,?_⟩) ?_ ?_
          rotate_left
          ·intro w'
           go_simp
           with_reducible rfl
          rotate_left
          ·simp only [Act.put,List.setIfInBounds_toArray,List.set_cons_zero,List.set_cons_succ,i64_w,i32_w]
           rfl
          refine pure_ (i:=23) (N:=some 40) (v:=?_) (a':=?_) #[true,true,true,true,true,true,true,true,true,true,true,true,true,true,true,true,true,true,true,true,true,true,true,true] rfl rfl (any_of HT_.out (by kernel_rfl)) (fun _ _ _ h => h) (Or.inl ⟨by rfl,?_⟩) ?_ ?_
          rotate_left
          ·intro w'
           go_simp
           with_reducible rfl
          rotate_left
          ·simp only [Act.put,List.setIfInBounds_toArray,List.set_cons_zero,List.set_cons_succ,i64_w,i32_w]
           rfl
          refine done_ (done_of HT_.out (by kernel_rfl)) ?_
          try go_wp2
          go_meet
          case rel => exact ⟨_,(false),(by first|rfl|(simp;done)|(simp [*];done)|(simp [*,Go.Proofs.Ytghlellambnkeaa.Str.bne_nil];done)),H',⟨by have:=HK1.out;have:=HJ7.out;first|omega|exact Nat.le_refl _⟩,⟨by (with_reducible repeat (first|apply Kd.R_alloc|apply Kd.R_drewN|apply Kd.R_drew));exact HO_5.out⟩,⟨by repeat (first|(with_reducible first|exact HB.out|apply xA|apply xN|apply xD)|exact HB.out)⟩⟩
       case rest =>
        clear HC11
        try clear c1
        try clear p1
        try clear q1
        try clear hx1
        try clear p2
        try clear c10
        try clear c12
        try clear c12b0
        try clear c12b1
        try clear p13
        try clear q13
        try clear hx13
        try clear c14
        try clear c14b0
        try clear c15
        try clear c15b0
        try clear c16
        try clear c16b0
        try clear c17
        try clear c17b0
        try clear hx135_0
        try clear hx135_1
        try clear hx135_2
        try clear hx135_3
        try clear hx135_4
        try clear hx136_0
        try clear hx136_1
        try clear hx136_2
        try clear hx136_3
        try clear hx136_4
        try clear p135
        try clear p136
        try clear q135
        try clear q136
        obtain ⟨kq,x40_10,rfl,HA,HJ10,HO_5,HB⟩:=hcut
        cases kq with
       |zero => exact absurd HA.out (by simp [tidelineref09_Pairs.j2])
       |succ kj10 =>
         have H:=HA.out
         clear HA
         simp only [tidelineref09_Pairs.j2] at H
         by_cases c20 : x40_10 = true
         ·subst c20
          have H1 : (if 0 ≤ x6_1 then (if x6_1 < (l0.length : Int) then (if x5_1.length < 1256584717458 then (tidelineref09_Pairs.l0 kj10 l0 l1 (x5_1 ++ [(⟨(⟨(rd_T44 l0 x6_1).f0,(⟨(rd_T44 l0 x6_1).f1.f0,(rd_T44 l0 x6_1).f1.f1⟩ : S42),(rd_T44 l0 x6_1).f2,(rd_T44 l0 x6_1).f3⟩ : S44),(⟨(⟨#[]⟩ : ByteArray),(⟨0,0⟩ : S42),(⟨#[]⟩ : ByteArray),false⟩ : S44)⟩ : S46)]) (wrap64 (x6_1 + 1)) x7_1) else (none)) else (none)) else (none)) = some r:=by rw [if_pos rfl] at H;exact H
          clear H
          have H:=H1
          clear H1
          by_cases c21 : 0 ≤ x6_1
          ·rw [if_pos c21] at H
           have c21b0 : decide (0 ≤ x6_1) = true:=decide_eq_true c21
           clear c21
           by_cases c22 : x6_1 < (l0.length : Int)
           ·rw [if_pos c22] at H
            have c22b0 : decide (x6_1 < (l0.length : Int)) = true:=decide_eq_true c22
            clear c22
            by_cases c23 : x5_1.length < 1256584717458
            ·rw [if_pos c23] at H
             have LMc23:=Aside0.mk c23
             clear c23
             obtain ⟨y138,hy138⟩ : ∃ y_ : List (S46),y_ = (x5_1 ++ [(⟨(⟨(rd_T44 l0 x6_1).f0,(⟨(rd_T44 l0 x6_1).f1.f0,(rd_T44 l0 x6_1).f1.f1⟩ : S42),(rd_T44 l0 x6_1).f2,(rd_T44 l0 x6_1).f3⟩ : S44),(⟨(⟨#[]⟩ : ByteArray),(⟨0,0⟩ : S42),(⟨#[]⟩ : ByteArray),false⟩ : S44)⟩ : S46)]):=⟨_,rfl⟩
             replace H : (tidelineref09_Pairs.l0 kj10 l0 l1 y138 (wrap64 (x6_1 + 1)) x7_1) = some r:=by first|(rw [hy138];with_reducible exact H)|(have H2_:=(Option.bind_some _ _).symm.trans H;rw [hy138];with_reducible exact H2_)|(have H2_:=(Option.bind_some _ _).symm.trans H;with_reducible exact H2_)|with_reducible exact H|(rw [hy138];exact H)|exact H
             have Ny138:=Aside0.mk hy138
             clear hy138
             have H':=Aside0.mk H
             clear H
             have p137 : 0 ≤ (x6_1 : Int):=of_decide_eq_true (by first|(with_reducible assumption)|assumption)
             have q137 : x6_1 < (l0.length : Int):=of_decide_eq_true (by first|(with_reducible assumption)|assumption)
             obtain ⟨ad137,e137,hx137_0,hx137_1,hx137_2,hx137_3,hx137_4⟩:=at_T44 HR0.out x6_1 p137 q137
             cases e137
             replace hx137_0:=(HB.out.cell (World.block_lt_of_cell? w _ hx137_0)).trans hx137_0
             replace hx137_1:=(HB.out.cell (World.block_lt_of_cell? w _ hx137_1)).trans hx137_1
             replace hx137_2:=(HB.out.cell (World.block_lt_of_cell? w _ hx137_2)).trans hx137_2
             replace hx137_3:=(HB.out.cell (World.block_lt_of_cell? w _ hx137_3)).trans hx137_3
             replace hx137_4:=(HB.out.cell (World.block_lt_of_cell? w _ hx137_4)).trans hx137_4
             replace p137:=eq_true p137
             replace q137:=eq_true q137
             go_wp2_with (first|((with_reducible refine gate_builtin (b:=.append) (xs:=#[.tmp 64,.tmp 70]) rfl ?_);(try (refine gate_guard (by rfl) ?_;dsimp only));at_builtin;refine Kd.R_append k46 (w0:=w) w.heap.size rfl (.tmp 64) (.tmp 70) 36 46 (.agg #[(.string ⟨#[]⟩),(.int .i64 0),(.int .i64 0),(.string ⟨#[]⟩),(.bool false),(.string ⟨#[]⟩),(.int .i64 0),(.int .i64 0),(.string ⟨#[]⟩),(.bool false)]) 112 rfl Try.underlying36 info46 rfl (by decide) (by omega) u5 x5_1 (⟨(⟨(rd_T44 l0 x6_1).f0,(⟨(rd_T44 l0 x6_1).f1.f0,(rd_T44 l0 x6_1).f1.f1⟩ : S42),(rd_T44 l0 x6_1).f2,(rd_T44 l0 x6_1).f3⟩ : S44),(⟨(⟨#[]⟩ : ByteArray),(⟨0,0⟩ : S42),(⟨#[]⟩ : ByteArray),false⟩ : S44)⟩ : S46) [.string ((rd_T44 l0 x6_1).f0),.int .i64 ((rd_T44 l0 x6_1).f1.f0),.int .i64 ((rd_T44 l0 x6_1).f1.f1),.string ((rd_T44 l0 x6_1).f2),.bool ((rd_T44 l0 x6_1).f3),.string (⟨#[]⟩ : ByteArray),.int .i64 0,.int .i64 0,.string (⟨#[]⟩ : ByteArray),.bool false] (fun _ => True) (fun _ => False) rfl rfl ?aP (fun _ hk => hk.elim) ?aF ?aO ?aB ?aS ?aL ?_;(case aP => exact k46_mkM _ _ _ (⟨(⟨(rd_T44 l0 x6_1).f0,(⟨(rd_T44 l0 x6_1).f1.f0,(rd_T44 l0 x6_1).f1.f1⟩ : S42),(rd_T44 l0 x6_1).f2,(rd_T44 l0 x6_1).f3⟩ : S44),(⟨(⟨#[]⟩ : ByteArray),(⟨0,0⟩ : S42),(⟨#[]⟩ : ByteArray),false⟩ : S44)⟩ : S46));(case aB => exact (by repeat (first|(with_reducible first|exact HB.out|apply xA|apply xN|apply xD)|exact HB.out)));(case aF => exact (fun _ _ => trivial));(case aO => exact (by (with_reducible repeat (first|apply Kd.R_alloc|apply Kd.R_drewN|apply Kd.R_drew));exact HO_5.out));(case aS => exact (below_size (by repeat (first|(with_reducible first|exact HB.out|apply xA|apply xN|apply xD)|exact HB.out))));(case aL => have:=LMc23.out;omega);intro v139 w24 ho hb hg hat;rw [← Ny138.out] at ho;have n0_:=Aside0.mk (hb);have n1_:=Aside0.mk (ho);clear HB;clear HO_5;have HB:=n0_;have HO140:=n1_;clear n0_ n1_;clear ho hb hg hat))
             go_roundg kj10
             case measure => have:=HK1.out;have:=HJ7.out;have:=HJ10.out;omega
             case rel => exact ⟨(y138),(wrap64 (x6_1 + 1)),(x7_1),(by first|rfl|(simp;done)|(simp [*];done)|(simp [*,Go.Proofs.Ytghlellambnkeaa.Str.bne_nil];done)),(by first|rfl|(simp;done)|(simp [*];done)|(simp [*,Go.Proofs.Ytghlellambnkeaa.Str.bne_nil];done)),H',⟨by have:=HK1.out;have:=HJ7.out;have:=HJ10.out;omega⟩,⟨by (with_reducible repeat (first|apply Kd.R_alloc|apply Kd.R_drewN|apply Kd.R_drew));exact HO140.out⟩,⟨by repeat (first|(with_reducible first|exact HB.out|apply xA|apply xN|apply xD)|exact HB.out)⟩⟩
            ·rw [if_neg c23] at H
             exact absurd H (by simp)
           ·rw [if_neg c22] at H
            exact absurd H (by simp)
          ·rw [if_neg c21] at H
           exact absurd H (by simp)
         ·replace c20:=Bool.eq_false_iff.mpr c20
          subst c20
          have H1 : (if x6_1 = (l0.length : Int) then (if 0 ≤ x7_1 then (if x7_1 < (l1.length : Int) then (if x5_1.length < 1256584717458 then (tidelineref09_Pairs.l0 kj10 l0 l1 (x5_1 ++ [(⟨(⟨(⟨#[]⟩ : ByteArray),(⟨0,0⟩ : S42),(⟨#[]⟩ : ByteArray),false⟩ : S44),(⟨(rd_T44 l1 x7_1).f0,(⟨(rd_T44 l1 x7_1).f1.f0,(rd_T44 l1 x7_1).f1.f1⟩ : S42),(rd_T44 l1 x7_1).f2,(rd_T44 l1 x7_1).f3⟩ : S44)⟩ : S46)]) x6_1 (wrap64 (x7_1 + 1))) else (none)) else (none)) else (none)) else (if 0 ≤ x7_1 then (if x7_1 < (l1.length : Int) then (if 0 ≤ x6_1 then (if x6_1 < (l0.length : Int) then (if (Op.bytesLess (((rd_T44 l1 x7_1).f0).toList) (((rd_T44 l0 x6_1).f0).toList)) = true then (if x5_1.length < 1256584717458 then (tidelineref09_Pairs.l0 kj10 l0 l1 (x5_1 ++ [(⟨(⟨(⟨#[]⟩ : ByteArray),(⟨0,0⟩ : S42),(⟨#[]⟩ : ByteArray),false⟩ : S44),(⟨(rd_T44 l1 x7_1).f0,(⟨(rd_T44 l1 x7_1).f1.f0,(rd_T44 l1 x7_1).f1.f1⟩ : S42),(rd_T44 l1 x7_1).f2,(rd_T44 l1 x7_1).f3⟩ : S44)⟩ : S46)]) x6_1 (wrap64 (x7_1 + 1))) else (none)) else (if x5_1.length < 1256584717458 then (tidelineref09_Pairs.l0 kj10 l0 l1 (x5_1 ++ [(⟨(⟨(rd_T44 l0 x6_1).f0,(⟨(rd_T44 l0 x6_1).f1.f0,(rd_T44 l0 x6_1).f1.f1⟩ : S42),(rd_T44 l0 x6_1).f2,(rd_T44 l0 x6_1).f3⟩ : S44),(⟨(rd_T44 l1 x7_1).f0,(⟨(rd_T44 l1 x7_1).f1.f0,(rd_T44 l1 x7_1).f1.f1⟩ : S42),(rd_T44 l1 x7_1).f2,(rd_T44 l1 x7_1).f3⟩ : S44)⟩ : S46)]) (wrap64 (x6_1 + 1)) (wrap64 (x7_1 + 1))) else (none))) else (none)) else (none)) else (none)) else (none))) = some r:=by rw [if_neg (show ¬ (false = true) by decide)] at H;exact H
          clear H
          have H:=H1
          clear H1
          by_cases c25 : x6_1 = (l0.length : Int)
          ·rw [if_pos c25] at H
           have c25b0 : (x6_1 == (l0.length : Int)) = true:=beq_iff_eq.mpr c25
           have c25b1 : (x6_1 != (l0.length : Int)) = false:=bne_eq_false_iff_eq.mpr c25
           clear c25
           by_cases c26 : 0 ≤ x7_1
           ·rw [if_pos c26] at H
            have c26b0 : decide (0 ≤ x7_1) = true:=decide_eq_true c26
            clear c26
            by_cases c27 : x7_1 < (l1.length : Int)
            ·rw [if_pos c27] at H
             have c27b0 : decide (x7_1 < (l1.length : Int)) = true:=decide_eq_true c27
             clear c27
             by_cases c28 : x5_1.length < 1256584717458
             ·rw [if_pos c28] at H
              have LMc28:=Aside0.mk c28
              clear c28
              obtain ⟨y142,hy142⟩ : ∃ y_ : List (S46),y_ = (x5_1 ++ [(⟨(⟨(⟨#[]⟩ : ByteArray),(⟨0,0⟩ : S42),(⟨#[]⟩ : ByteArray),false⟩ : S44),(⟨(rd_T44 l1 x7_1).f0,(⟨(rd_T44 l1 x7_1).f1.f0,(rd_T44 l1 x7_1).f1.f1⟩ : S42),(rd_T44 l1 x7_1).f2,(rd_T44 l1 x7_1).f3⟩ : S44)⟩ : S46)]):=⟨_,rfl⟩
              replace H : (tidelineref09_Pairs.l0 kj10 l0 l1 y142 x6_1 (wrap64 (x7_1 + 1))) = some r:=by first|(rw [hy142];with_reducible exact H)|(have H2_:=(Option.bind_some _ _).symm.trans H;rw [hy142];with_reducible exact H2_)|(have H2_:=(Option.bind_some _ _).symm.trans H;with_reducible exact H2_)|with_reducible exact H|(rw [hy142];exact H)|exact H
              have Ny142:=Aside0.mk hy142
              clear hy142
              have H':=Aside0.mk H
              clear H
              try go_wp2
              replace HO_5:=Aside0.mk (Kd.R_drew HO_5.out)
              replace HB:=Aside0.mk (below_drew1 HB.out)
              refine start_ (n:=18) (S:=fun w' => True) (ds:=[]) #[false,false,false,false,false,false,false,false,false,false,false,false,false,false,false,false,false,false] (by kernel_rfl) rfl rfl trivial (fun hHeld => ?_);refine with_tabW tidelineref09_Pairs.tab13 tidelineref09_Pairs.bits13 (fun HT_ HW_ => ?_)
              generalize wc.drew = w29 at HO_5 HB hHeld ⊢
              refine pure_ (i:=0) (N:=some 75) (v:=?_) (a':=?_) #[true,false,false,false,false,false,false,false,false,false,false,false,false,false,false,false,false,false] rfl rfl (any_of HT_.out (by kernel_rfl)) (fun _ _ _ h => h) (Or.inl ⟨by rfl,?_⟩) ?_ ?_
              rotate_left
              ·intro w'
               go_simp
               with_reducible rfl
              rotate_left
              ·simp only [Act.put,List.setIfInBounds_toArray,List.set_cons_zero,List.set_cons_succ,i64_w,i32_w]
               rfl
              refine pure_ (i:=1) (N:=some 76) (v:=?_) (a':=?_) #[true,true,false,false,false,false,false,false,false,false,false,false,false,false,false,false,false,false] rfl rfl (any_of HT_.out (by kernel_rfl)) (fun _ _ _ h => h) (Or.inl ⟨by rfl,?_⟩) ?_ ?_
              rotate_left
              ·intro w'
               go_simp
               with_reducible rfl
              rotate_left
              ·simp only [Act.put,List.setIfInBounds_toArray,List.set_cons_zero,List.set_cons_succ,i64_w,i32_w]
               rfl
              refine pure_ (i:=2) (N:=some 77) (v:=?_) (a':=?_) #[true,true,true,false,false,false,false,false,false,false,false,false,false,false,false,false,false,false] rfl rfl (any_of HT_.out (by kernel_rfl)) (fun _ _ _ h => h) (Or.inl ⟨by rfl,?_⟩) ?_ ?_
              rotate_left
              ·intro w'
               go_simp
               with_reducible rfl
              rotate_left
              ·simp only [Act.put,List.setIfInBounds_toArray,List.set_cons_zero,List.set_cons_succ,i64_w,i32_w]
               rfl
              refine pure_ (i:=3) (N:=some 78) (v:=?_) (a':=?_) #[true,true,true,true,false,false,false,false,false,false,false,false,false,false,false,false,false,false] rfl rfl (any_of HT_.out (by kernel_rfl)) (fun _ _ _ h => h) (Or.inl ⟨by rfl,?_⟩) ?_ ?_
              rotate_left
              ·intro w'
               go_simp
               with_reducible rfl
              rotate_left
              ·simp only [Act.put,List.setIfInBounds_toArray,List.set_cons_zero,List.set_cons_succ,i64_w,i32_w]
               rfl
              refine pure_ (i:=4) (N:=some 79) (v:=?_) (a':=?_) #[true,true,true,true,true,false,false,false,false,false,false,false,false,false,false,false,false,false] rfl rfl (any_of HT_.out (by kernel_rfl)) (fun _ _ _ h => h) (Or.inl ⟨by rfl,?_⟩) ?_ ?_
              rotate_left
              ·intro w'
               go_simp
               with_reducible rfl
              rotate_left
              ·simp only [Act.put,List.setIfInBounds_toArray,List.set_cons_zero,List.set_cons_succ,i64_w,i32_w]
               rfl
              refine pure_ (i:=5) (N:=some 80) (v:=undef) (a':=?_) #[true,true,true,true,true,true,false,false,false,false,false,false,false,false,false,false,false,false] rfl rfl (any_of HT_.out (by kernel_rfl)) (fun _ _ _ h => h) (Or.inr ⟨by rfl,rfl⟩) ?_ ?_
              rotate_left
              ·simp only [Act.put,List.setIfInBounds_toArray,List.set_cons_zero,List.set_cons_succ,i64_w,i32_w]
               rfl
              refine pure_ (i:=6) (N:=some 81) (v:=undef) (a':=?_) #[true,true,true,true,true,true,true,false,false,false,false,false,false,false,false,false,false,false] rfl rfl (any_of HT_.out (by kernel_rfl)) (fun _ _ _ h => h) (Or.inr ⟨by rfl,rfl⟩) ?_ ?_
              rotate_left
              ·simp only [Act.put,List.setIfInBounds_toArray,List.set_cons_zero,List.set_cons_succ,i64_w,i32_w]
               rfl
              refine pure_ (i:=7) (N:=some 82) (v:=undef) (a':=?_) #[true,true,true,true,true,true,true,true,false,false,false,false,false,false,false,false,false,false] rfl rfl (any_of HT_.out (by kernel_rfl)) (fun _ _ _ h => h) (Or.inr ⟨by rfl,rfl⟩) ?_ ?_
              rotate_left
              ·simp only [Act.put,List.setIfInBounds_toArray,List.set_cons_zero,List.set_cons_succ,i64_w,i32_w]
               rfl
              refine pure_ (i:=8) (N:=some 83) (v:=undef) (a':=?_) #[true,true,true,true,true,true,true,true,true,false,false,false,false,false,false,false,false,false] rfl rfl (any_of HT_.out (by kernel_rfl)) (fun _ _ _ h => h) (Or.inr ⟨by rfl,rfl⟩) ?_ ?_
              rotate_left
              ·simp only [Act.put,List.setIfInBounds_toArray,List.set_cons_zero,List.set_cons_succ,i64_w,i32_w]
               rfl
              refine pure_ (i:=9) (N:=some 84) (v:=undef) (a':=?_) #[true,true,true,true,true,true,true,true,true,true,false,false,false,false,false,false,false,false] rfl rfl (any_of HT_.out (by kernel_rfl)) (fun _ _ _ h => h) (Or.inr ⟨by rfl,rfl⟩) ?_ ?_
              rotate_left
              ·simp only [Act.put,List.setIfInBounds_toArray,List.set_cons_zero,List.set_cons_succ,i64_w,i32_w]
               rfl
              refine pure_ (i:=10) (N:=some 85) (v:=undef) (a':=?_) #[true,true,true,true,true,true,true,true,true,true,true,false,false,false,false,false,false,false] rfl rfl (any_of HT_.out (by kernel_rfl)) (fun _ _ _ h => h) (Or.inr ⟨by rfl,rfl⟩) ?_ ?_
              rotate_left
              ·simp only [Act.put,List.setIfInBounds_toArray,List.set_cons_zero,List.set_cons_succ,i64_w,i32_w]
               rfl
              refine pure_ (i:=11) (N:=some 86) (v:=undef) (a':=?_) #[true,true,true,true,true,true,true,true,true,true,true,true,false,false,false,false,false,false] rfl rfl (any_of HT_.out (by kernel_rfl)) (fun _ _ _ h => h) (Or.inr ⟨by rfl,rfl⟩) ?_ ?_
              rotate_left
              ·simp only [Act.put,List.setIfInBounds_toArray,List.set_cons_zero,List.set_cons_succ,i64_w,i32_w]
               rfl
              refine pure_ (i:=12) (N:=some 87) (v:=undef) (a':=?_) #[true,true,true,true,true,true,true,true,true,true,true,true,true,false,false,false,false,false] rfl rfl (any_of HT_.out (by kernel_rfl)) (fun _ _ _ h => h) (Or.inr ⟨by rfl,rfl⟩) ?_ ?_
              rotate_left
              ·simp only [Act.put,List.setIfInBounds_toArray,List.set_cons_zero,List.set_cons_succ,i64_w,i32_w]
               rfl
              refine pure_ (i:=13) (N:=some 88) (v:=undef) (a':=?_) #[true,true,true,true,true,true,true,true,true,true,true,true,true,true,false,false,false,false] rfl rfl (any_of HT_.out (by kernel_rfl)) (fun _ _ _ h => h) (Or.inr ⟨by rfl,rfl⟩) ?_ ?_
              rotate_left
              ·simp only [Act.put,List.setIfInBounds_toArray,List.set_cons_zero,List.set_cons_succ,i64_w,i32_w]
               rfl
              refine pure_ (i:=14) (N:=some 89) (v:=undef) (a':=?_) #[true,true,true,true,true,true,true,true,true,true,true,true,true,true,true,false,false,false] rfl rfl (any_of HT_.out (by kernel_rfl)) (fun _ _ _ h => h) (Or.inr ⟨by rfl,rfl⟩) ?_ ?_
              rotate_left
              ·simp only [Act.put,List.setIfInBounds_toArray,List.set_cons_zero,List.set_cons_succ,i64_w,i32_w]
               rfl
              refine pure_ (i:=15) (N:=some 90) (v:=undef) (a':=?_) #[true,true,true,true,true,true,true,true,true,true,true,true,true,true,true,true,false,false] rfl rfl (any_of HT_.out (by kernel_rfl)) (fun _ _ _ h => h) (Or.inr ⟨by rfl,rfl⟩) ?_ ?_
              rotate_left
              ·simp only [Act.put,List.setIfInBounds_toArray,List.set_cons_zero,List.set_cons_succ,i64_w,i32_w]
               rfl
              refine pure_ (i:=16) (N:=some 91) (v:=?_) (a':=?_) #[true,true,true,true,true,true,true,true,true,true,true,true,true,true,true,true,true,false] rfl rfl (any_of HT_.out (by kernel_rfl)) (fun _ _ _ h => h) (Or.inl ⟨by rfl,?_⟩) ?_ ?_
              rotate_left
              ·intro w'
               go_simp
               with_reducible rfl
              rotate_left
              ·simp only [Act.put,List.setIfInBounds_toArray,List.set_cons_zero,List.set_cons_succ,i64_w,i32_w]
               rfl
              refine pure_ (i:=17) (N:=some 74) (v:=?_) (a':=?_) #[true,true,true,true,true,true,true,true,true,true,true,true,true,true,true,true,true,true] rfl rfl (any_of HT_.out (by kernel_rfl)) (fun _ _ _ h => h) (Or.inl ⟨by rfl,?_⟩) ?_ ?_
              rotate_left
              ·intro w'
               go_simp
               with_reducible rfl
              rotate_left
              ·simp only [Act.put,List.setIfInBounds_toArray,List.set_cons_zero,List.set_cons_succ,i64_w,i32_w]
               rfl
              refine done_ (done_of HT_.out (by kernel_rfl)) ?_
              have p141 : 0 ≤ (x7_1 : Int):=of_decide_eq_true (by first|(with_reducible assumption)|assumption)
              have q141 : x7_1 < (l1.length : Int):=of_decide_eq_true (by first|(with_reducible assumption)|assumption)
              obtain ⟨ad141,e141,hx141_0,hx141_1,hx141_2,hx141_3,hx141_4⟩:=at_T44 HR1.out x7_1 p141 q141
              cases e141
              replace hx141_0:=(HB.out.cell (World.block_lt_of_cell? w _ hx141_0)).trans hx141_0
              replace hx141_1:=(HB.out.cell (World.block_lt_of_cell? w _ hx141_1)).trans hx141_1
              replace hx141_2:=(HB.out.cell (World.block_lt_of_cell? w _ hx141_2)).trans hx141_2
              replace hx141_3:=(HB.out.cell (World.block_lt_of_cell? w _ hx141_3)).trans hx141_3
              replace hx141_4:=(HB.out.cell (World.block_lt_of_cell? w _ hx141_4)).trans hx141_4
              replace p141:=eq_true p141
              replace q141:=eq_true q141
              try go_wp2_with (first|((with_reducible refine gate_builtin (b:=.append) (xs:=#[.tmp 92,.tmp 98]) rfl ?_);(try (refine gate_guard (by rfl) ?_;dsimp only));at_builtin;refine Kd.R_append k46 (w0:=w) w.heap.size rfl (.tmp 92) (.tmp 98) 36 46 (.agg #[(.string ⟨#[]⟩),(.int .i64 0),(.int .i64 0),(.string ⟨#[]⟩),(.bool false),(.string ⟨#[]⟩),(.int .i64 0),(.int .i64 0),(.string ⟨#[]⟩),(.bool false)]) 112 rfl Try.underlying36 info46 rfl (by decide) (by omega) u5 x5_1 (⟨(⟨(⟨#[]⟩ : ByteArray),(⟨0,0⟩ : S42),(⟨#[]⟩ : ByteArray),false⟩ : S44),(⟨(rd_T44 l1 x7_1).f0,(⟨(rd_T44 l1 x7_1).f1.f0,(rd_T44 l1 x7_1).f1.f1⟩ : S42),(rd_T44 l1 x7_1).f2,(rd_T44 l1 x7_1).f3⟩ : S44)⟩ : S46) [.string (⟨#[]⟩ : ByteArray),.int .i64 0,.int .i64 0,.string (⟨#[]⟩ : ByteArray),.bool false,.string ((rd_T44 l1 x7_1).f0),.int .i64 ((rd_T44 l1 x7_1).f1.f0),.int .i64 ((rd_T44 l1 x7_1).f1.f1),.string ((rd_T44 l1 x7_1).f2),.bool ((rd_T44 l1 x7_1).f3)] (fun _ => True) (fun _ => False) rfl rfl ?aP (fun _ hk => hk.elim) ?aF ?aO ?aB ?aS ?aL ?_;(case aP => exact k46_mkM _ _ _ (⟨(⟨(⟨#[]⟩ : ByteArray),(⟨0,0⟩ : S42),(⟨#[]⟩ : ByteArray),false⟩ : S44),(⟨(rd_T44 l1 x7_1).f0,(⟨(rd_T44 l1 x7_1).f1.f0,(rd_T44 l1 x7_1).f1.f1⟩ : S42),(rd_T44 l1 x7_1).f2,(rd_T44 l1 x7_1).f3⟩ : S44)⟩ : S46));(case aB => exact (by repeat (first|(with_reducible first|exact HB.out|apply xA|apply xN|apply xD)|exact HB.out)));(case aF => exact (fun _ _ => trivial));(case aO => exact (by (with_reducible repeat (first|apply Kd.R_alloc|apply Kd.R_drewN|apply Kd.R_drew));exact HO_5.out));(case aS => exact (below_size (by repeat (first|(with_reducible first|exact HB.out|apply xA|apply xN|apply xD)|exact HB.out))));(case aL => have:=LMc28.out;omega);intro v143 w30 ho hb hg hat;rw [← Ny142.out] at ho;have n0_:=Aside0.mk (hb);have n1_:=Aside0.mk (ho);clear HB;clear HO_5;have HB:=n0_;have HO144:=n1_;clear n0_ n1_;clear ho hb hg hat))
              go_roundg kj10
              case measure => have:=HK1.out;have:=HJ7.out;have:=HJ10.out;omega
              case rel => exact ⟨(y142),(x6_1),(wrap64 (x7_1 + 1)),(by first|rfl|(simp;done)|(simp [*];done)|(simp [*,Go.Proofs.Ytghlellambnkeaa.Str.bne_nil];done)),(by first|rfl|(simp;done)|(simp [*];done)|(simp [*,Go.Proofs.Ytghlellambnkeaa.Str.bne_nil];done)),H',⟨by have:=HK1.out;have:=HJ7.out;have:=HJ10.out;omega⟩,⟨by (with_reducible repeat (first|apply Kd.R_alloc|apply Kd.R_drewN|apply Kd.R_drew));exact HO144.out⟩,⟨by repeat (first|(with_reducible first|exact HB.out|apply xA|apply xN|apply xD)|exact HB.out)⟩⟩
             ·rw [if_neg c28] at H
              exact absurd H (by simp)
            ·rw [if_neg c27] at H
             exact absurd H (by simp)
           ·rw [if_neg c26] at H
            exact absurd H (by simp)
          ·rw [if_neg c25] at H
           have c25b0 : (x6_1 == (l0.length : Int)) = false:=beq_eq_false_iff_ne.mpr c25
           have c25b1 : (x6_1 != (l0.length : Int)) = true:=bne_iff_ne.mpr c25
           by_cases c31 : 0 ≤ x7_1
           ·rw [if_pos c31] at H
            have c31b0 : decide (0 ≤ x7_1) = true:=decide_eq_true c31
            clear c31
            by_cases c32 : x7_1 < (l1.length : Int)
            ·rw [if_pos c32] at H
             have c32b0 : decide (x7_1 < (l1.length : Int)) = true:=decide_eq_true c32
             clear c32
             by_cases c33 : 0 ≤ x6_1
             ·rw [if_pos c33] at H
              have c33b0 : decide (0 ≤ x6_1) = true:=decide_eq_true c33
              clear c33
              by_cases c34 : x6_1 < (l0.length : Int)
              ·rw [if_pos c34] at H
               have c34b0 : decide (x6_1 < (l0.length : Int)) = true:=decide_eq_true c34
               clear c34
               by_cases c35 : (Op.bytesLess (((rd_T44 l1 x7_1).f0).toList) (((rd_T44 l0 x6_1).f0).toList)) = true
               ·rw [if_pos c35] at H
                have c35b0 : (Op.bytesLess (((rd_T44 l1 x7_1).f0).toList) (((rd_T44 l0 x6_1).f0).toList)) = true:=c35
                clear c35
                by_cases c36 : x5_1.length < 1256584717458
                ·rw [if_pos c36] at H
                 have LMc36:=Aside0.mk c36
                 clear c36
                 obtain ⟨y148,hy148⟩ : ∃ y_ : List (S46),y_ = (x5_1 ++ [(⟨(⟨(⟨#[]⟩ : ByteArray),(⟨0,0⟩ : S42),(⟨#[]⟩ : ByteArray),false⟩ : S44),(⟨(rd_T44 l1 x7_1).f0,(⟨(rd_T44 l1 x7_1).f1.f0,(rd_T44 l1 x7_1).f1.f1⟩ : S42),(rd_T44 l1 x7_1).f2,(rd_T44 l1 x7_1).f3⟩ : S44)⟩ : S46)]):=⟨_,rfl⟩
                 replace H : (tidelineref09_Pairs.l0 kj10 l0 l1 y148 x6_1 (wrap64 (x7_1 + 1))) = some r:=by first|(rw [hy148];with_reducible exact H)|(have H2_:=(Option.bind_some _ _).symm.trans H;rw [hy148];with_reducible exact H2_)|(have H2_:=(Option.bind_some _ _).symm.trans H;with_reducible exact H2_)|with_reducible exact H|(rw [hy148];exact H)|exact H
                 have Ny148:=Aside0.mk hy148
                 clear hy148
                 have H':=Aside0.mk H
                 clear H
                 try go_wp2
                 replace HO_5:=Aside0.mk (Kd.R_drew HO_5.out)
                 replace HB:=Aside0.mk (below_drew1 HB.out)
                 have p145 : 0 ≤ (x7_1 : Int):=of_decide_eq_true (by first|(with_reducible assumption)|assumption)
                 have q145 : x7_1 < (l1.length : Int):=of_decide_eq_true (by first|(with_reducible assumption)|assumption)
                 obtain ⟨ad145,e145,hx145_0,hx145_1,hx145_2,hx145_3,hx145_4⟩:=at_T44 HR1.out x7_1 p145 q145
                 have hw145_4:=hx145_4
                 have hw145_3:=hx145_3
                 have hw145_2:=hx145_2
                 have hw145_1:=hx145_1
                 have hw145_0:=hx145_0
                 cases e145
                 replace hx145_0:=(HB.out.cell (World.block_lt_of_cell? w _ hx145_0)).trans hx145_0
                 replace hx145_1:=(HB.out.cell (World.block_lt_of_cell? w _ hx145_1)).trans hx145_1
                 replace hx145_2:=(HB.out.cell (World.block_lt_of_cell? w _ hx145_2)).trans hx145_2
                 replace hx145_3:=(HB.out.cell (World.block_lt_of_cell? w _ hx145_3)).trans hx145_3
                 replace hx145_4:=(HB.out.cell (World.block_lt_of_cell? w _ hx145_4)).trans hx145_4
                 replace p145:=eq_true p145
                 replace q145:=eq_true q145
                 have p146 : 0 ≤ (x6_1 : Int):=of_decide_eq_true (by first|(with_reducible assumption)|assumption)
                 have q146 : x6_1 < (l0.length : Int):=of_decide_eq_true (by first|(with_reducible assumption)|assumption)
                 obtain ⟨ad146,e146,hx146_0,hx146_1,hx146_2,hx146_3,hx146_4⟩:=at_T44 HR0.out x6_1 p146 q146
                 have hw146_4:=hx146_4
                 have hw146_3:=hx146_3
                 have hw146_2:=hx146_2
                 have hw146_1:=hx146_1
                 have hw146_0:=hx146_0
                 cases e146
                 replace hx146_0:=(HB.out.cell (World.block_lt_of_cell? w _ hx146_0)).trans hx146_0
                 replace hx146_1:=(HB.out.cell (World.block_lt_of_cell? w _ hx146_1)).trans hx146_1
                 replace hx146_2:=(HB.out.cell (World.block_lt_of_cell? w _ hx146_2)).trans hx146_2
                 replace hx146_3:=(HB.out.cell (World.block_lt_of_cell? w _ hx146_3)).trans hx146_3
                 replace hx146_4:=(HB.out.cell (World.block_lt_of_cell? w _ hx146_4)).trans hx146_4
                 replace p146:=eq_true p146
                 replace q146:=eq_true q146
                 refine start_ (n:=18) (S:=fun w' => w'.cell? (ad145.add ((x7_1).toNat * 5)) = some (.string ((rd_T44 l1 x7_1).f0)) ∧ w'.cell? ⟨(ad145.add ((x7_1).toNat * 5)).block,(ad145.add ((x7_1).toNat * 5)).off + 1,none⟩ = some (.int .i64 ((rd_T44 l1 x7_1).f1.f0)) ∧ w'.cell? ⟨(ad145.add ((x7_1).toNat * 5)).block,(ad145.add ((x7_1).toNat * 5)).off + 2,none⟩ = some (.int .i64 ((rd_T44 l1 x7_1).f1.f1)) ∧ w'.cell? ⟨(ad145.add ((x7_1).toNat * 5)).block,(ad145.add ((x7_1).toNat * 5)).off + 3,none⟩ = some (.string ((rd_T44 l1 x7_1).f2)) ∧ w'.cell? ⟨(ad145.add ((x7_1).toNat * 5)).block,(ad145.add ((x7_1).toNat * 5)).off + 4,none⟩ = some (.bool ((rd_T44 l1 x7_1).f3)) ∧ w'.cell? (ad146.add ((x6_1).toNat * 5)) = some (.string ((rd_T44 l0 x6_1).f0)) ∧ w'.cell? ⟨(ad146.add ((x6_1).toNat * 5)).block,(ad146.add ((x6_1).toNat * 5)).off + 1,none⟩ = some (.int .i64 ((rd_T44 l0 x6_1).f1.f0)) ∧ w'.cell? ⟨(ad146.add ((x6_1).toNat * 5)).block,(ad146.add ((x6_1).toNat * 5)).off + 2,none⟩ = some (.int .i64 ((rd_T44 l0 x6_1).f1.f1)) ∧ w'.cell? ⟨(ad146.add ((x6_1).toNat * 5)).block,(ad146.add ((x6_1).toNat * 5)).off + 3,none⟩ = some (.string ((rd_T44 l0 x6_1).f2)) ∧ w'.cell? ⟨(ad146.add ((x6_1).toNat * 5)).block,(ad146.add ((x6_1).toNat * 5)).off + 4,none⟩ = some (.bool ((rd_T44 l0 x6_1).f3))) (ds:=[]) #[false,false,false,false,false,false,false,false,false,false,false,false,false,false,false,false,false,false] (by kernel_rfl) rfl rfl ⟨((HB.out.cell (World.block_lt_of_cell? w _ hw145_0)).trans hw145_0),((HB.out.cell (World.block_lt_of_cell? w _ hw145_1)).trans hw145_1),((HB.out.cell (World.block_lt_of_cell? w _ hw145_2)).trans hw145_2),((HB.out.cell (World.block_lt_of_cell? w _ hw145_3)).trans hw145_3),((HB.out.cell (World.block_lt_of_cell? w _ hw145_4)).trans hw145_4),((HB.out.cell (World.block_lt_of_cell? w _ hw146_0)).trans hw146_0),((HB.out.cell (World.block_lt_of_cell? w _ hw146_1)).trans hw146_1),((HB.out.cell (World.block_lt_of_cell? w _ hw146_2)).trans hw146_2),((HB.out.cell (World.block_lt_of_cell? w _ hw146_3)).trans hw146_3),((HB.out.cell (World.block_lt_of_cell? w _ hw146_4)).trans hw146_4)⟩ (fun hHeld => ?_);refine with_tabW tidelineref09_Pairs.tab13 tidelineref09_Pairs.bits13 (fun HT_ HW_ => ?_)
                 generalize wc.drew = w37 at HO_5 HB hx145_0 hx145_1 hx145_2 hx145_3 hx145_4 hx146_0 hx146_1 hx146_2 hx146_3 hx146_4 hHeld ⊢
                 refine pure_ (i:=0) (N:=some 75) (v:=?_) (a':=?_) #[true,false,false,false,false,false,false,false,false,false,false,false,false,false,false,false,false,false] rfl rfl (any_of HT_.out (by kernel_rfl)) (fun _ _ _ h => h) (Or.inl ⟨by rfl,?_⟩) ?_ ?_
                 rotate_left
                 ·intro w'
                  go_simp
                  with_reducible rfl
                 rotate_left
                 ·simp only [Act.put,List.setIfInBounds_toArray,List.set_cons_zero,List.set_cons_succ,i64_w,i32_w]
                  rfl
                 refine pure_ (i:=1) (N:=some 76) (v:=?_) (a':=?_) #[true,true,false,false,false,false,false,false,false,false,false,false,false,false,false,false,false,false] rfl rfl (any_of HT_.out (by kernel_rfl)) (fun _ _ _ h => h) (Or.inl ⟨by rfl,?_⟩) ?_ ?_
                 rotate_left
                 ·intro w'
                  go_simp
                  with_reducible rfl
                 rotate_left
                 ·simp only [Act.put,List.setIfInBounds_toArray,List.set_cons_zero,List.set_cons_succ,i64_w,i32_w]
                  rfl
                 refine pure_ (i:=2) (N:=some 77) (v:=?_) (a':=?_) #[true,true,true,false,false,false,false,false,false,false,false,false,false,false,false,false,false,false] rfl rfl (any_of HT_.out (by kernel_rfl)) (fun _ _ _ h => h) (Or.inl ⟨by rfl,?_⟩) ?_ ?_
                 rotate_left
                 ·intro w'
                  go_simp
                  with_reducible rfl
                 rotate_left
                 ·simp only [Act.put,List.setIfInBounds_toArray,List.set_cons_zero,List.set_cons_succ,i64_w,i32_w]
                  rfl
                 refine pure_ (i:=3) (N:=some 78) (v:=?_) (a':=?_) #[true,true,true,true,false,false,false,false,false,false,false,false,false,false,false,false,false,false] rfl rfl (any_of HT_.out (by kernel_rfl)) (fun _ _ _ h => h) (Or.inl ⟨by rfl,?_⟩) ?_ ?_
                 rotate_left
                 ·intro w'
                  go_simp
                  with_reducible rfl
                 rotate_left
                 ·simp only [Act.put,List.setIfInBounds_toArray,List.set_cons_zero,List.set_cons_succ,i64_w,i32_w]
                  rfl
                 refine pure_ (i:=4) (N:=some 79) (v:=?_) (a':=?_) #[true,true,true,true,true,false,false,false,false,false,false,false,false,false,false,false,false,false] rfl rfl (any_of HT_.out (by kernel_rfl)) (fun _ _ _ h => h) (Or.inl ⟨by rfl,?_⟩) ?_ ?_
                 rotate_left
                 ·intro w'
                  go_simp
                  with_reducible rfl
                 rotate_left
                 ·simp only [Act.put,List.setIfInBounds_toArray,List.set_cons_zero,List.set_cons_succ,i64_w,i32_w]
                  rfl
                 refine pure_ (i:=5) (N:=some 80) (v:=?_) (a':=?_) #[true,true,true,true,true,true,false,false,false,false,false,false,false,false,false,false,false,false] rfl rfl (any_of HT_.out (by kernel_rfl)) (fun _ _ _ h => h) (Or.inl ⟨by rfl,?_⟩) ?_ ?_
                 rotate_left
                 ·intro w'
                  go_simp
                  with_reducible rfl
                 rotate_left
                 ·simp only [Act.put,List.setIfInBounds_toArray,List.set_cons_zero,List.set_cons_succ,i64_w,i32_w]
                  rfl
                 refine pure_ (i:=6) (N:=some 81) (v:=?_) (a':=?_) #[true,true,true,true,true,true,true,false,false,false,false,false,false,false,false,false,false,false] rfl rfl (any_of HT_.out (by kernel_rfl)) (fun _ _ _ h => h) (Or.inl ⟨by rfl,?_⟩) ?_ ?_
                 rotate_left
                 ·intro w'
                  go_simp
                  with_reducible rfl
                 rotate_left
                 ·simp only [Act.put,List.setIfInBounds_toArray,List.set_cons_zero,List.set_cons_succ,i64_w,i32_w]
                  rfl
                 refine pure_ (i:=7) (N:=some 82) (v:=?_) (a':=?_) #[true,true,true,true,true,true,true,true,false,false,false,false,false,false,false,false,false,false] rfl rfl (any_of HT_.out (by kernel_rfl)) (fun _ _ _ h => h) (Or.inl ⟨by rfl,?_⟩) ?_ ?_
                 rotate_left
                 ·intro w'
                  go_simp
                  with_reducible rfl
                 rotate_left
                 ·simp only [Act.put,List.setIfInBounds_toArray,List.set_cons_zero,List.set_cons_succ,i64_w,i32_w]
                  rfl
                 refine pure_ (i:=8) (N:=some 83) (v:=?_) (a':=?_) #[true,true,true,true,true,true,true,true,true,false,false,false,false,false,false,false,false,false] rfl rfl (any_of HT_.out (by kernel_rfl)) (fun _ _ _ h => h) (Or.inl ⟨by rfl,?_⟩) ?_ ?_
                 rotate_left
                 ·intro w'
                  go_simp
                  with_reducible rfl
                 rotate_left
                 ·simp only [Act.put,List.setIfInBounds_toArray,List.set_cons_zero,List.set_cons_succ,i64_w,i32_w]
                  rfl
                 refine pure_ (i:=10) (N:=some 85) (v:=?_) (a':=?_) #[true,true,true,true,true,true,true,true,true,false,true,false,false,false,false,false,false,false] rfl rfl (any_of HT_.out (by kernel_rfl)) (fun _ _ _ h => h) (Or.inl ⟨by rfl,?_⟩) ?_ ?_
                 rotate_left
                 ·intro w'
                  go_simp
                  with_reducible rfl
                 rotate_left
                 ·simp only [Act.put,List.setIfInBounds_toArray,List.set_cons_zero,List.set_cons_succ,i64_w,i32_w]
                  rfl
                 refine pure_ (i:=11) (N:=some 86) (v:=?_) (a':=?_) #[true,true,true,true,true,true,true,true,true,false,true,true,false,false,false,false,false,false] rfl rfl (any_of HT_.out (by kernel_rfl)) (fun _ _ _ h => h) (Or.inl ⟨by rfl,?_⟩) ?_ ?_
                 rotate_left
                 ·intro w'
                  go_simp
                  with_reducible rfl
                 rotate_left
                 ·simp only [Act.put,List.setIfInBounds_toArray,List.set_cons_zero,List.set_cons_succ,i64_w,i32_w]
                  rfl
                 refine pure_ (i:=12) (N:=some 87) (v:=?_) (a':=?_) #[true,true,true,true,true,true,true,true,true,false,true,true,true,false,false,false,false,false] rfl rfl (any_of HT_.out (by kernel_rfl)) (fun _ _ _ h => h) (Or.inl ⟨by rfl,?_⟩) ?_ ?_
                 rotate_left
                 ·intro w'
                  go_simp
                  with_reducible rfl
                 rotate_left
                 ·simp only [Act.put,List.setIfInBounds_toArray,List.set_cons_zero,List.set_cons_succ,i64_w,i32_w]
                  rfl
                 refine pure_ (i:=13) (N:=some 88) (v:=?_) (a':=?_) #[true,true,true,true,true,true,true,true,true,false,true,true,true,true,false,false,false,false] rfl rfl (any_of HT_.out (by kernel_rfl)) (fun _ _ _ h => h) (Or.inl ⟨by rfl,?_⟩) ?_ ?_
                 rotate_left
                 ·intro w'
                  go_simp
                  with_reducible rfl
                 rotate_left
                 ·simp only [Act.put,List.setIfInBounds_toArray,List.set_cons_zero,List.set_cons_succ,i64_w,i32_w]
                  rfl
                 refine take_ (i:=9) (N:=some 84) (v:=?_) (a':=?_) #[true,true,true,true,true,true,true,true,true,true,true,true,true,true,false,false,false,false] rfl rfl (take_ofW HT_.out HW_.out (by kernel_rfl)) (fun _ _ _ h => h) (Or.inl ⟨by rfl,?_⟩) hHeld ?_ ?_
                 rotate_left
                 ·rintro w' ⟨s0,s1,s2,s3,s4,s5,s6,s7,s8,s9⟩
                  go_simp
                  with_reducible rfl
                 rotate_left
                 ·simp only [Act.put,List.setIfInBounds_toArray,List.set_cons_zero,List.set_cons_succ,i64_w,i32_w]
                  rfl
                 refine take_ (i:=14) (N:=some 89) (v:=?_) (a':=?_) #[true,true,true,true,true,true,true,true,true,true,true,true,true,true,true,false,false,false] rfl rfl (take_ofW HT_.out HW_.out (by kernel_rfl)) (fun _ _ _ h => h) (Or.inl ⟨by rfl,?_⟩) hHeld ?_ ?_
                 rotate_left
                 ·rintro w' ⟨s0,s1,s2,s3,s4,s5,s6,s7,s8,s9⟩
                  go_simp
                  with_reducible rfl
                 rotate_left
                 ·simp only [Act.put,List.setIfInBounds_toArray,List.set_cons_zero,List.set_cons_succ,i64_w,i32_w]
                  rfl
                 refine pure_ (i:=15) (N:=some 90) (v:=?_) (a':=?_) #[true,true,true,true,true,true,true,true,true,true,true,true,true,true,true,true,false,false] rfl rfl (any_of HT_.out (by kernel_rfl)) (fun _ _ _ h => h) (Or.inl ⟨by rfl,?_⟩) ?_ ?_
                 rotate_left
                 ·intro w'
                  go_simp
                  with_reducible rfl
                 rotate_left
                 ·simp only [Act.put,List.setIfInBounds_toArray,List.set_cons_zero,List.set_cons_succ,i64_w,i32_w]
                  rfl
                 refine pure_ (i:=16) (N:=some 91) (v:=?_) (a':=?_) #[true,true,true,true,true,true,true,true,true,true,true,true,true,true,true,true,true,false] rfl rfl (any_of HT_.out (by kernel_rfl)) (fun _ _ _ h => h) (Or.inl ⟨by rfl,?_⟩) ?_ ?_
                 rotate_left
                 ·intro w'
                  go_simp
                  with_reducible rfl
                 rotate_left
                 ·simp only [Act.put,List.setIfInBounds_toArray,List.set_cons_zero,List.set_cons_succ,i64_w,i32_w]
                  rfl
                 refine pure_ (i:=17) (N:=some 74) (v:=?_) (a':=?_) #[true,true,true,true,true,true,true,true,true,true,true,true,true,true,true,true,true,true] rfl rfl (any_of HT_.out (by kernel_rfl)) (fun _ _ _ h => h) (Or.inl ⟨by rfl,?_⟩) ?_ ?_
                 rotate_left
                 ·intro w'
                  go_simp
                  with_reducible rfl
                 rotate_left
                 ·simp only [Act.put,List.setIfInBounds_toArray,List.set_cons_zero,List.set_cons_succ,i64_w,i32_w]
                  rfl
                 refine done_ (done_of HT_.out (by kernel_rfl)) ?_
                 have p147 : 0 ≤ (x7_1 : Int):=of_decide_eq_true (by first|(with_reducible assumption)|assumption)
                 have q147 : x7_1 < (l1.length : Int):=of_decide_eq_true (by first|(with_reducible assumption)|assumption)
                 obtain ⟨ad147,e147,hx147_0,hx147_1,hx147_2,hx147_3,hx147_4⟩:=at_T44 HR1.out x7_1 p147 q147
                 obtain rfl : ad145 = ad147:=(by injection e147)
                 replace hx147_0:=(HB.out.cell (World.block_lt_of_cell? w _ hx147_0)).trans hx147_0
                 replace hx147_1:=(HB.out.cell (World.block_lt_of_cell? w _ hx147_1)).trans hx147_1
                 replace hx147_2:=(HB.out.cell (World.block_lt_of_cell? w _ hx147_2)).trans hx147_2
                 replace hx147_3:=(HB.out.cell (World.block_lt_of_cell? w _ hx147_3)).trans hx147_3
                 replace hx147_4:=(HB.out.cell (World.block_lt_of_cell? w _ hx147_4)).trans hx147_4
                 replace p147:=eq_true p147
                 replace q147:=eq_true q147
                 try go_wp2_with (first|((with_reducible refine gate_builtin (b:=.append) (xs:=#[.tmp 92,.tmp 98]) rfl ?_);(try (refine gate_guard (by rfl) ?_;dsimp only));at_builtin;refine Kd.R_append k46 (w0:=w) w.heap.size rfl (.tmp 92) (.tmp 98) 36 46 (.agg #[(.string ⟨#[]⟩),(.int .i64 0),(.int .i64 0),(.string ⟨#[]⟩),(.bool false),(.string ⟨#[]⟩),(.int .i64 0),(.int .i64 0),(.string ⟨#[]⟩),(.bool false)]) 112 rfl Try.underlying36 info46 rfl (by decide) (by omega) u5 x5_1 (⟨(⟨(⟨#[]⟩ : ByteArray),(⟨0,0⟩ : S42),(⟨#[]⟩ : ByteArray),false⟩ : S44),(⟨(rd_T44 l1 x7_1).f0,(⟨(rd_T44 l1 x7_1).f1.f0,(rd_T44 l1 x7_1).f1.f1⟩ : S42),(rd_T44 l1 x7_1).f2,(rd_T44 l1 x7_1).f3⟩ : S44)⟩ : S46) [.string (⟨#[]⟩ : ByteArray),.int .i64 0,.int .i64 0,.string (⟨#[]⟩ : ByteArray),.bool false,.string ((rd_T44 l1 x7_1).f0),.int .i64 ((rd_T44 l1 x7_1).f1.f0),.int .i64 ((rd_T44 l1 x7_1).f1.f1),.string ((rd_T44 l1 x7_1).f2),.bool ((rd_T44 l1 x7_1).f3)] (fun _ => True) (fun _ => False) rfl rfl ?aP (fun _ hk => hk.elim) ?aF ?aO ?aB ?aS ?aL ?_;(case aP => exact k46_mkM _ _ _ (⟨(⟨(⟨#[]⟩ : ByteArray),(⟨0,0⟩ : S42),(⟨#[]⟩ : ByteArray),false⟩ : S44),(⟨(rd_T44 l1 x7_1).f0,(⟨(rd_T44 l1 x7_1).f1.f0,(rd_T44 l1 x7_1).f1.f1⟩ : S42),(rd_T44 l1 x7_1).f2,(rd_T44 l1 x7_1).f3⟩ : S44)⟩ : S46));(case aB => exact (by repeat (first|(with_reducible first|exact HB.out|apply xA|apply xN|apply xD)|exact HB.out)));(case aF => exact (fun _ _ => trivial));(case aO => exact (by (with_reducible repeat (first|apply Kd.R_alloc|apply Kd.R_drewN|apply Kd.R_drew));exact HO_5.out));(case aS => exact (below_size (by repeat (first|(with_reducible first|exact HB.out|apply xA|apply xN|apply xD)|exact HB.out))));(case aL => have:=LMc36.out;omega);intro v149 w38 ho hb hg hat;rw [← Ny148.out] at ho;have n0_:=Aside0.mk (hb);have n1_:=Aside0.mk (ho);clear HB;clear HO_5;have HB:=n0_;have HO150:=n1_;clear n0_ n1_;clear ho hb hg hat))
                 go_roundg kj10
                 case measure => have:=HK1.out;have:=HJ7.out;have:=HJ10.out;omega
                 case rel => exact ⟨(y148),(x6_1),(wrap64 (x7_1 + 1)),(by first|rfl|(simp;done)|(simp [*];done)|(simp [*,Go.Proofs.Ytghlellambnkeaa.Str.bne_nil];done)),(by first|rfl|(simp;done)|(simp [*];done)|(simp [*,Go.Proofs.Ytghlellambnkeaa.Str.bne_nil];done)),H',⟨by have:=HK1.out;have:=HJ7.out;have:=HJ10.out;omega⟩,⟨by (with_reducible repeat (first|apply Kd.R_alloc|apply Kd.R_drewN|apply Kd.R_drew));exact HO150.out⟩,⟨by repeat (first|(with_reducible first|exact HB.out|apply xA|apply xN|apply xD)|exact HB.out)⟩⟩
                ·rw [if_neg c36] at H
                 exact absurd H (by simp)
               ·rw [if_neg c35] at H
                have c35b0 : (Op.bytesLess (((rd_T44 l1 x7_1).f0).toList) (((rd_T44 l0 x6_1).f0).toList)) = false:=by simpa using c35
                clear c35
                by_cases c39 : x5_1.length < 1256584717458
                ·rw [if_pos c39] at H
                 have LMc39:=Aside0.mk c39
                 clear c39
                 obtain ⟨y153,hy153⟩ : ∃ y_ : List (S46),y_ = (x5_1 ++ [(⟨(⟨(rd_T44 l0 x6_1).f0,(⟨(rd_T44 l0 x6_1).f1.f0,(rd_T44 l0 x6_1).f1.f1⟩ : S42),(rd_T44 l0 x6_1).f2,(rd_T44 l0 x6_1).f3⟩ : S44),(⟨(rd_T44 l1 x7_1).f0,(⟨(rd_T44 l1 x7_1).f1.f0,(rd_T44 l1 x7_1).f1.f1⟩ : S42),(rd_T44 l1 x7_1).f2,(rd_T44 l1 x7_1).f3⟩ : S44)⟩ : S46)]):=⟨_,rfl⟩
                 replace H : (tidelineref09_Pairs.l0 kj10 l0 l1 y153 (wrap64 (x6_1 + 1)) (wrap64 (x7_1 + 1))) = some r:=by first|(rw [hy153];with_reducible exact H)|(have H2_:=(Option.bind_some _ _).symm.trans H;rw [hy153];with_reducible exact H2_)|(have H2_:=(Option.bind_some _ _).symm.trans H;with_reducible exact H2_)|with_reducible exact H|(rw [hy153];exact H)|exact H
                 have Ny153:=Aside0.mk hy153
                 clear hy153
                 have H':=Aside0.mk H
                 clear H
                 try go_wp2
                 replace HO_5:=Aside0.mk (Kd.R_drew HO_5.out)
                 replace HB:=Aside0.mk (below_drew1 HB.out)
                 have p145 : 0 ≤ (x7_1 : Int):=of_decide_eq_true (by first|(with_reducible assumption)|assumption)
                 have q145 : x7_1 < (l1.length : Int):=of_decide_eq_true (by first|(with_reducible assumption)|assumption)
                 obtain ⟨ad145,e145,hx145_0,hx145_1,hx145_2,hx145_3,hx145_4⟩:=at_T44 HR1.out x7_1 p145 q145
                 have hw145_4:=hx145_4
                 have hw145_3:=hx145_3
                 have hw145_2:=hx145_2
                 have hw145_1:=hx145_1
                 have hw145_0:=hx145_0
                 cases e145
                 replace hx145_0:=(HB.out.cell (World.block_lt_of_cell? w _ hx145_0)).trans hx145_0
                 replace hx145_1:=(HB.out.cell (World.block_lt_of_cell? w _ hx145_1)).trans hx145_1
                 replace hx145_2:=(HB.out.cell (World.block_lt_of_cell? w _ hx145_2)).trans hx145_2
                 replace hx145_3:=(HB.out.cell (World.block_lt_of_cell? w _ hx145_3)).trans hx145_3
                 replace hx145_4:=(HB.out.cell (World.block_lt_of_cell? w _ hx145_4)).trans hx145_4
                 replace p145:=eq_true p145
                 replace q145:=eq_true q145
                 have p146 : 0 ≤ (x6_1 : Int):=of_decide_eq_true (by first|(with_reducible assumption)|assumption)
                 have q146 : x6_1 < (l0.length : Int):=of_decide_eq_true (by first|(with_reducible assumption)|assumption)
                 obtain ⟨ad146,e146,hx146_0,hx146_1,hx146_2,hx146_3,hx146_4⟩:=at_T44 HR0.out x6_1 p146 q146
                 have hw146_4:=hx146_4
                 have hw146_3:=hx146_3
                 have hw146_2:=hx146_2
                 have hw146_1:=hx146_1
                 have hw146_0:=hx146_0
                 cases e146
                 replace hx146_0:=(HB.out.cell (World.block_lt_of_cell? w _ hx146_0)).trans hx146_0
                 replace hx146_1:=(HB.out.cell (World.block_lt_of_cell? w _ hx146_1)).trans hx146_1
                 replace hx146_2:=(HB.out.cell (World.block_lt_of_cell? w _ hx146_2)).trans hx146_2
                 replace hx146_3:=(HB.out.cell (World.block_lt_of_cell? w _ hx146_3)).trans hx146_3
                 replace hx146_4:=(HB.out.cell (World.block_lt_of_cell? w _ hx146_4)).trans hx146_4
                 replace p146:=eq_true p146
                 replace q146:=eq_true q146
                 refine start_ (n:=18) (S:=fun w' => w'.cell? (ad145.add ((x7_1).toNat * 5)) = some (.string ((rd_T44 l1 x7_1).f0)) ∧ w'.cell? ⟨(ad145.add ((x7_1).toNat * 5)).block,(ad145.add ((x7_1).toNat * 5)).off + 1,none⟩ = some (.int .i64 ((rd_T44 l1 x7_1).f1.f0)) ∧ w'.cell? ⟨(ad145.add ((x7_1).toNat * 5)).block,(ad145.add ((x7_1).toNat * 5)).off + 2,none⟩ = some (.int .i64 ((rd_T44 l1 x7_1).f1.f1)) ∧ w'.cell? ⟨(ad145.add ((x7_1).toNat * 5)).block,(ad145.add ((x7_1).toNat * 5)).off + 3,none⟩ = some (.string ((rd_T44 l1 x7_1).f2)) ∧ w'.cell? ⟨(ad145.add ((x7_1).toNat * 5)).block,(ad145.add ((x7_1).toNat * 5)).off + 4,none⟩ = some (.bool ((rd_T44 l1 x7_1).f3)) ∧ w'.cell? (ad146.add ((x6_1).toNat * 5)) = some (.string ((rd_T44 l0 x6_1).f0)) ∧ w'.cell? ⟨(ad146.add ((x6_1).toNat * 5)).block,(ad146.add ((x6_1).toNat * 5)).off + 1,none⟩ = some (.int .i64 ((rd_T44 l0 x6_1).f1.f0)) ∧ w'.cell? ⟨(ad146.add ((x6_1).toNat * 5)).block,(ad146.add ((x6_1).toNat * 5)).off + 2,none⟩ = some (.int .i64 ((rd_T44 l0 x6_1).f1.f1)) ∧ w'.cell? ⟨(ad146.add ((x6_1).toNat * 5)).block,(ad146.add ((x6_1).toNat * 5)).off + 3,none⟩ = some (.string ((rd_T44 l0 x6_1).f2)) ∧ w'.cell? ⟨(ad146.add ((x6_1).toNat * 5)).block,(ad146.add ((x6_1).toNat * 5)).off + 4,none⟩ = some (.bool ((rd_T44 l0 x6_1).f3))) (ds:=[]) #[false,false,false,false,false,false,false,false,false,false,false,false,false,false,false,false,false,false] (by kernel_rfl) rfl rfl ⟨((HB.out.cell (World.block_lt_of_cell? w _ hw145_0)).trans hw145_0),((HB.out.cell (World.block_lt_of_cell? w _ hw145_1)).trans hw145_1),((HB.out.cell (World.block_lt_of_cell? w _ hw145_2)).trans hw145_2),((HB.out.cell (World.block_lt_of_cell? w _ hw145_3)).trans hw145_3),((HB.out.cell (World.block_lt_of_cell? w _ hw145_4)).trans hw145_4),((HB.out.cell (World.block_lt_of_cell? w _ hw146_0)).trans hw146_0),((HB.out.cell (World.block_lt_of_cell? w _ hw146_1)).trans hw146_1),((HB.out.cell (World.block_lt_of_cell? w _ hw146_2)).trans hw146_2),((HB.out.cell (World.block_lt_of_cell? w _ hw146_3)).trans hw146_3),((HB.out.cell (World.block_lt_of_cell? w _ hw146_4)).trans hw146_4)⟩ (fun hHeld => ?_);refine with_tabW tidelineref09_Pairs.tab13 tidelineref09_Pairs.bits13 (fun HT_ HW_ => ?_)
                 generalize wc.drew = w40 at HO_5 HB hx145_0 hx145_1 hx145_2 hx145_3 hx145_4 hx146_0 hx146_1 hx146_2 hx146_3 hx146_4 hHeld ⊢
                 refine pure_ (i:=0) (N:=some 75) (v:=?_) (a':=?_) #[true,false,false,false,false,false,false,false,false,false,false,false,false,false,false,false,false,false] rfl rfl (any_of HT_.out (by kernel_rfl)) (fun _ _ _ h => h) (Or.inl ⟨by rfl,?_⟩) ?_ ?_
                 rotate_left
                 ·intro w'
                  go_simp
                  with_reducible rfl
                 rotate_left
                 ·simp only [Act.put,List.setIfInBounds_toArray,List.set_cons_zero,List.set_cons_succ,i64_w,i32_w]
                  rfl
                 refine pure_ (i:=1) (N:=some 76) (v:=?_) (a':=?_) #[true,true,false,false,false,false,false,false,false,false,false,false,false,false,false,false,false,false] rfl rfl (any_of HT_.out (by kernel_rfl)) (fun _ _ _ h => h) (Or.inl ⟨by rfl,?_⟩) ?_ ?_
                 rotate_left
                 ·intro w'
                  go_simp
                  with_reducible rfl
                 rotate_left
                 ·simp only [Act.put,List.setIfInBounds_toArray,List.set_cons_zero,List.set_cons_succ,i64_w,i32_w]
                  rfl
                 refine pure_ (i:=2) (N:=some 77) (v:=?_) (a':=?_) #[true,true,true,false,false,false,false,false,false,false,false,false,false,false,false,false,false,false] rfl rfl (any_of HT_.out (by kernel_rfl)) (fun _ _ _ h => h) (Or.inl ⟨by rfl,?_⟩) ?_ ?_
                 rotate_left
                 ·intro w'
                  go_simp
                  with_reducible rfl
                 rotate_left
                 ·simp only [Act.put,List.setIfInBounds_toArray,List.set_cons_zero,List.set_cons_succ,i64_w,i32_w]
                  rfl
                 refine pure_ (i:=3) (N:=some 78) (v:=?_) (a':=?_) #[true,true,true,true,false,false,false,false,false,false,false,false,false,false,false,false,false,false] rfl rfl (any_of HT_.out (by kernel_rfl)) (fun _ _ _ h => h) (Or.inl ⟨by rfl,?_⟩) ?_ ?_
                 rotate_left
                 ·intro w'
                  go_simp
                  with_reducible rfl
                 rotate_left
                 ·simp only [Act.put,List.setIfInBounds_toArray,List.set_cons_zero,List.set_cons_succ,i64_w,i32_w]
                  rfl
                 refine pure_ (i:=4) (N:=some 79) (v:=?_) (a':=?_) #[true,true,true,true,true,false,false,false,false,false,false,false,false,false,false,false,false,false] rfl rfl (any_of HT_.out (by kernel_rfl)) (fun _ _ _ h => h) (Or.inl ⟨by rfl,?_⟩) ?_ ?_
                 rotate_left
                 ·intro w'
                  go_simp
                  with_reducible rfl
                 rotate_left
                 ·simp only [Act.put,List.setIfInBounds_toArray,List.set_cons_zero,List.set_cons_succ,i64_w,i32_w]
                  rfl
                 refine pure_ (i:=5) (N:=some 80) (v:=?_) (a':=?_) #[true,true,true,true,true,true,false,false,false,false,false,false,false,false,false,false,false,false] rfl rfl (any_of HT_.out (by kernel_rfl)) (fun _ _ _ h => h) (Or.inl ⟨by rfl,?_⟩) ?_ ?_
                 rotate_left
                 ·intro w'
                  go_simp
                  with_reducible rfl
                 rotate_left
                 ·simp only [Act.put,List.setIfInBounds_toArray,List.set_cons_zero,List.set_cons_succ,i64_w,i32_w]
                  rfl
                 refine pure_ (i:=6) (N:=some 81) (v:=?_) (a':=?_) #[true,true,true,true,true,true,true,false,false,false,false,false,false,false,false,false,false,false] rfl rfl (any_of HT_.out (by kernel_rfl)) (fun _ _ _ h => h) (Or.inl ⟨by rfl,?_⟩) ?_ ?_
                 rotate_left
                 ·intro w'
                  go_simp
                  with_reducible rfl
                 rotate_left
                 ·simp only [Act.put,List.setIfInBounds_toArray,List.set_cons_zero,List.set_cons_succ,i64_w,i32_w]
                  rfl
                 refine pure_ (i:=7) (N:=some 82) (v:=?_) (a':=?_) #[true,true,true,true,true,true,true,true,false,false,false,false,false,false,false,false,false,false] rfl rfl (any_of HT_.out (by kernel_rfl)) (fun _ _ _ h => h) (Or.inl ⟨by rfl,?_⟩) ?_ ?_
                 rotate_left
                 ·intro w'
                  go_simp
                  with_reducible rfl
                 rotate_left
                 ·simp only [Act.put,List.setIfInBounds_toArray,List.set_cons_zero,List.set_cons_succ,i64_w,i32_w]
                  rfl
                 refine pure_ (i:=8) (N:=some 83) (v:=?_) (a':=?_) #[true,true,true,true,true,true,true,true,true,false,false,false,false,false,false,false,false,false] rfl rfl (any_of HT_.out (by kernel_rfl)) (fun _ _ _ h => h) (Or.inl ⟨by rfl,?_⟩) ?_ ?_
                 rotate_left
                 ·intro w'
                  go_simp
                  with_reducible rfl
                 rotate_left
                 ·simp only [Act.put,List.setIfInBounds_toArray,List.set_cons_zero,List.set_cons_succ,i64_w,i32_w]
                  rfl
                 refine pure_ (i:=10) (N:=some 85) (v:=?_) (a':=?_) #[true,true,true,true,true,true,true,true,true,false,true,false,false,false,false,false,false,false] rfl rfl (any_of HT_.out (by kernel_rfl)) (fun _ _ _ h => h) (Or.inl ⟨by rfl,?_⟩) ?_ ?_
                 rotate_left
                 ·intro w'
                  go_simp
                  with_reducible rfl
                 rotate_left
                 ·simp only [Act.put,List.setIfInBounds_toArray,List.set_cons_zero,List.set_cons_succ,i64_w,i32_w]
                  rfl
                 refine pure_ (i:=11) (N:=some 86) (v:=?_) (a':=?_) #[true,true,true,true,true,true,true,true,true,false,true,true,false,false,false,false,false,false] rfl rfl (any_of HT_.out (by kernel_rfl)) (fun _ _ _ h => h) (Or.inl ⟨by rfl,?_⟩) ?_ ?_
                 rotate_left
                 ·intro w'
                  go_simp
                  with_reducible rfl
                 rotate_left
                 ·simp only [Act.put,List.setIfInBounds_toArray,List.set_cons_zero,List.set_cons_succ,i64_w,i32_w]
                  rfl
                 refine pure_ (i:=12) (N:=some 87) (v:=?_) (a':=?_) #[true,true,true,true,true,true,true,true,true,false,true,true,true,false,false,false,false,false] rfl rfl (any_of HT_.out (by kernel_rfl)) (fun _ _ _ h => h) (Or.inl ⟨by rfl,?_⟩) ?_ ?_
                 rotate_left
                 ·intro w'
                  go_simp
                  with_reducible rfl
                 rotate_left
                 ·simp only [Act.put,List.setIfInBounds_toArray,List.set_cons_zero,List.set_cons_succ,i64_w,i32_w]
                  rfl
                 refine pure_ (i:=13) (N:=some 88) (v:=?_) (a':=?_) #[true,true,true,true,true,true,true,true,true,false,true,true,true,true,false,false,false,false] rfl rfl (any_of HT_.out (by kernel_rfl)) (fun _ _ _ h => h) (Or.inl ⟨by rfl,?_⟩) ?_ ?_
                 rotate_left
                 ·intro w'
                  go_simp
                  with_reducible rfl
                 rotate_left
                 ·simp only [Act.put,List.setIfInBounds_toArray,List.set_cons_zero,List.set_cons_succ,i64_w,i32_w]
                  rfl
                 refine take_ (i:=9) (N:=some 84) (v:=?_) (a':=?_) #[true,true,true,true,true,true,true,true,true,true,true,true,true,true,false,false,false,false] rfl rfl (take_ofW HT_.out HW_.out (by kernel_rfl)) (fun _ _ _ h => h) (Or.inl ⟨by rfl,?_⟩) hHeld ?_ ?_
                 rotate_left
                 ·rintro w' ⟨s0,s1,s2,s3,s4,s5,s6,s7,s8,s9⟩
                  go_simp
                  with_reducible rfl
                 rotate_left
                 ·simp only [Act.put,List.setIfInBounds_toArray,List.set_cons_zero,List.set_cons_succ,i64_w,i32_w]
                  rfl
                 refine take_ (i:=14) (N:=some 89) (v:=?_) (a':=?_) #[true,true,true,true,true,true,true,true,true,true,true,true,true,true,true,false,false,false] rfl rfl (take_ofW HT_.out HW_.out (by kernel_rfl)) (fun _ _ _ h => h) (Or.inl ⟨by rfl,?_⟩) hHeld ?_ ?_
                 rotate_left
                 ·rintro w' ⟨s0,s1,s2,s3,s4,s5,s6,s7,s8,s9⟩
                  go_simp
                  with_reducible rfl
                 rotate_left
                 ·simp only [Act.put,List.setIfInBounds_toArray,List.set_cons_zero,List.set_cons_succ,i64_w,i32_w]
                  rfl
                 refine pure_ (i:=15) (N:=some 90) (v:=?_) (a':=?_) #[true,true,true,true,true,true,true,true,true,true,true,true,true,true,true,true,false,false] rfl rfl (any_of HT_.out (by kernel_rfl)) (fun _ _ _ h => h) (Or.inl ⟨by rfl,?_⟩) ?_ ?_
                 rotate_left
                 ·intro w'
                  go_simp
                  with_reducible rfl
                 rotate_left
                 ·simp only [Act.put,List.setIfInBounds_toArray,List.set_cons_zero,List.set_cons_succ,i64_w,i32_w]
                  rfl
                 refine pure_ (i:=16) (N:=some 91) (v:=?_) (a':=?_) #[true,true,true,true,true,true,true,true,true,true,true,true,true,true,true,true,true,false] rfl rfl (any_of HT_.out (by kernel_rfl)) (fun _ _ _ h => h) (Or.inl ⟨by rfl,?_⟩) ?_ ?_
                 rotate_left
                 ·intro w'
                  go_simp
                  with_reducible rfl
                 rotate_left
                 ·simp only [Act.put,List.setIfInBounds_toArray,List.set_cons_zero,List.set_cons_succ,i64_w,i32_w]
                  rfl
                 refine pure_ (i:=17) (N:=some 74) (v:=?_) (a':=?_) #[true,true,true,true,true,true,true,true,true,true,true,true,true,true,true,true,true,true] rfl rfl (any_of HT_.out (by kernel_rfl)) (fun _ _ _ h => h) (Or.inl ⟨by rfl,?_⟩) ?_ ?_
                 rotate_left
                 ·intro w'
                  go_simp
                  with_reducible rfl
                 rotate_left
                 ·simp only [Act.put,List.setIfInBounds_toArray,List.set_cons_zero,List.set_cons_succ,i64_w,i32_w]
                  rfl
                 refine done_ (done_of HT_.out (by kernel_rfl)) ?_
                 try go_wp2
                 replace HO_5:=Aside0.mk (Kd.R_drew HO_5.out)
                 replace HB:=Aside0.mk (below_drew1 HB.out)
                 have p151 : 0 ≤ (x6_1 : Int):=of_decide_eq_true (by first|(with_reducible assumption)|assumption)
                 have q151 : x6_1 < (l0.length : Int):=of_decide_eq_true (by first|(with_reducible assumption)|assumption)
                 obtain ⟨ad151,e151,hx151_0,hx151_1,hx151_2,hx151_3,hx151_4⟩:=at_T44 HR0.out x6_1 p151 q151
                 have hw151_4:=hx151_4
                 have hw151_3:=hx151_3
                 have hw151_2:=hx151_2
                 have hw151_1:=hx151_1
                 have hw151_0:=hx151_0
                 obtain rfl : ad146 = ad151:=(by injection e151)
                 replace hx151_0:=(HB.out.cell (World.block_lt_of_cell? w _ hx151_0)).trans hx151_0
                 replace hx151_1:=(HB.out.cell (World.block_lt_of_cell? w _ hx151_1)).trans hx151_1
                 replace hx151_2:=(HB.out.cell (World.block_lt_of_cell? w _ hx151_2)).trans hx151_2
                 replace hx151_3:=(HB.out.cell (World.block_lt_of_cell? w _ hx151_3)).trans hx151_3
                 replace hx151_4:=(HB.out.cell (World.block_lt_of_cell? w _ hx151_4)).trans hx151_4
                 replace p151:=eq_true p151
                 replace q151:=eq_true q151
                 have p152 : 0 ≤ (x7_1 : Int):=of_decide_eq_true (by first|(with_reducible assumption)|assumption)
                 have q152 : x7_1 < (l1.length : Int):=of_decide_eq_true (by first|(with_reducible assumption)|assumption)
                 obtain ⟨ad152,e152,hx152_0,hx152_1,hx152_2,hx152_3,hx152_4⟩:=at_T44 HR1.out x7_1 p152 q152
                 have hw152_4:=hx152_4
                 have hw152_3:=hx152_3
                 have hw152_2:=hx152_2
                 have hw152_1:=hx152_1
                 have hw152_0:=hx152_0
                 obtain rfl : ad145 = ad152:=(by injection e152)
                 replace hx152_0:=(HB.out.cell (World.block_lt_of_cell? w _ hx152_0)).trans hx152_0
                 replace hx152_1:=(HB.out.cell (World.block_lt_of_cell? w _ hx152_1)).trans hx152_1
                 replace hx152_2:=(HB.out.cell (World.block_lt_of_cell? w _ hx152_2)).trans hx152_2
                 replace hx152_3:=(HB.out.cell (World.block_lt_of_cell? w _ hx152_3)).trans hx152_3
                 replace hx152_4:=(HB.out.cell (World.block_lt_of_cell? w _ hx152_4)).trans hx152_4
                 replace p152:=eq_true p152
                 replace q152:=eq_true q152
                 refine start_ (n:=13) (S:=fun w' => w'.cell? (ad146.add ((x6_1).toNat * 5)) = some (.string ((rd_T44 l0 x6_1).f0)) ∧ w'.cell? ⟨(ad146.add ((x6_1).toNat * 5)).block,(ad146.add ((x6_1).toNat * 5)).off + 1,none⟩ = some (.int .i64 ((rd_T44 l0 x6_1).f1.f0)) ∧ w'.cell? ⟨(ad146.add ((x6_1).toNat * 5)).block,(ad146.add ((x6_1).toNat * 5)).off + 2,none⟩ = some (.int .i64 ((rd_T44 l0 x6_1).f1.f1)) ∧ w'.cell? ⟨(ad146.add ((x6_1).toNat * 5)).block,(ad146.add ((x6_1).toNat * 5)).off + 3,none⟩ = some (.string ((rd_T44 l0 x6_1).f2)) ∧ w'.cell? ⟨(ad146.add ((x6_1).toNat * 5)).block,(ad146.add ((x6_1).toNat * 5)).off + 4,none⟩ = some (.bool ((rd_T44 l0 x6_1).f3)) ∧ w'.cell? (ad145.add ((x7_1).toNat * 5)) = some (.string ((rd_T44 l1 x7_1).f0)) ∧ w'.cell? ⟨(ad145.add ((x7_1).toNat * 5)).block,(ad145.add ((x7_1).toNat * 5)).off + 1,none⟩ = some (.int .i64 ((rd_T44 l1 x7_1).f1.f0)) ∧ w'.cell? ⟨(ad145.add ((x7_1).toNat * 5)).block,(ad145.add ((x7_1).toNat * 5)).off + 2,none⟩ = some (.int .i64 ((rd_T44 l1 x7_1).f1.f1)) ∧ w'.cell? ⟨(ad145.add ((x7_1).toNat * 5)).block,(ad145.add ((x7_1).toNat * 5)).off + 3,none⟩ = some (.string ((rd_T44 l1 x7_1).f2)) ∧ w'.cell? ⟨(ad145.add ((x7_1).toNat * 5)).block,(ad145.add ((x7_1).toNat * 5)).off + 4,none⟩ = some (.bool ((rd_T44 l1 x7_1).f3))) (ds:=[]) #[false,false,false,false,false,false,false,false,false,false,false,false,false] (by kernel_rfl) rfl rfl ⟨((HB.out.cell (World.block_lt_of_cell? w _ hw151_0)).trans hw151_0),((HB.out.cell (World.block_lt_of_cell? w _ hw151_1)).trans hw151_1),((HB.out.cell (World.block_lt_of_cell? w _ hw151_2)).trans hw151_2),((HB.out.cell (World.block_lt_of_cell? w _ hw151_3)).trans hw151_3),((HB.out.cell (World.block_lt_of_cell? w _ hw151_4)).trans hw151_4),((HB.out.cell (World.block_lt_of_cell? w _ hw152_0)).trans hw152_0),((HB.out.cell (World.block_lt_of_cell? w _ hw152_1)).trans hw152_1),((HB.out.cell (World.block_lt_of_cell? w _ hw152_2)).trans hw152_2),((HB.out.cell (World.block_lt_of_cell? w _ hw152_3)).trans hw152_3),((HB.out.cell (World.block_lt_of_cell? w _ hw152_4)).trans hw152_4)⟩ (fun hHeld => ?_);refine with_tabW tidelineref09_Pairs.tab7 tidelineref09_Pairs.bits7 (fun HT_ HW_ => ?_)
                 generalize w40.drew = w41 at HO_5 HB hx151_0 hx151_1 hx151_2 hx151_3 hx151_4 hx152_0 hx152_1 hx152_2 hx152_3 hx152_4 hHeld ⊢
                 refine pure_ (i:=0) (N:=some 24) (v:=?_) (a':=?_) #[true,false,false,false,false,false,false,false,false,false,false,false,false] rfl rfl (any_of HT_.out (by kernel_rfl)) (fun _ _ _ h => h) (Or.inl ⟨by rfl,?_⟩) ?_ ?_
                 rotate_left
                 ·intro w'
                  go_simp
                  with_reducible rfl
                 rotate_left
                 ·simp only [Act.put,List.setIfInBounds_toArray,List.set_cons_zero,List.set_cons_succ,i64_w,i32_w]
                  rfl
                 refine pure_ (i:=1) (N:=some 25) (v:=?_) (a':=?_) #[true,true,false,false,false,false,false,false,false,false,false,false,false] rfl rfl (any_of HT_.out (by kernel_rfl)) (fun _ _ _ h => h) (Or.inl ⟨by rfl,?_⟩) ?_ ?_
                 rotate_left
                 ·intro w'
                  go_simp
                  with_reducible rfl
                 rotate_left
                 ·simp only [Act.put,List.setIfInBounds_toArray,List.set_cons_zero,List.set_cons_succ,i64_w,i32_w]
                  rfl
                 refine pure_ (i:=2) (N:=some 26) (v:=?_) (a':=?_) #[true,true,true,false,false,false,false,false,false,false,false,false,false] rfl rfl (any_of HT_.out (by kernel_rfl)) (fun _ _ _ h => h) (Or.inl ⟨by rfl,?_⟩) ?_ ?_
                 rotate_left
                 ·intro w'
                  go_simp
                  with_reducible rfl
                 rotate_left
                 ·simp only [Act.put,List.setIfInBounds_toArray,List.set_cons_zero,List.set_cons_succ,i64_w,i32_w]
                  rfl
                 refine pure_ (i:=3) (N:=some 27) (v:=?_) (a':=?_) #[true,true,true,true,false,false,false,false,false,false,false,false,false] rfl rfl (any_of HT_.out (by kernel_rfl)) (fun _ _ _ h => h) (Or.inl ⟨by rfl,?_⟩) ?_ ?_
                 rotate_left
                 ·intro w'
                  go_simp
                  with_reducible rfl
                 rotate_left
                 ·simp only [Act.put,List.setIfInBounds_toArray,List.set_cons_zero,List.set_cons_succ,i64_w,i32_w]
                  rfl
                 refine pure_ (i:=5) (N:=some 29) (v:=?_) (a':=?_) #[true,true,true,true,false,true,false,false,false,false,false,false,false] rfl rfl (any_of HT_.out (by kernel_rfl)) (fun _ _ _ h => h) (Or.inl ⟨by rfl,?_⟩) ?_ ?_
                 rotate_left
                 ·intro w'
                  go_simp
                  with_reducible rfl
                 rotate_left
                 ·simp only [Act.put,List.setIfInBounds_toArray,List.set_cons_zero,List.set_cons_succ,i64_w,i32_w]
                  rfl
                 refine pure_ (i:=6) (N:=some 30) (v:=?_) (a':=?_) #[true,true,true,true,false,true,true,false,false,false,false,false,false] rfl rfl (any_of HT_.out (by kernel_rfl)) (fun _ _ _ h => h) (Or.inl ⟨by rfl,?_⟩) ?_ ?_
                 rotate_left
                 ·intro w'
                  go_simp
                  with_reducible rfl
                 rotate_left
                 ·simp only [Act.put,List.setIfInBounds_toArray,List.set_cons_zero,List.set_cons_succ,i64_w,i32_w]
                  rfl
                 refine pure_ (i:=7) (N:=some 31) (v:=?_) (a':=?_) #[true,true,true,true,false,true,true,true,false,false,false,false,false] rfl rfl (any_of HT_.out (by kernel_rfl)) (fun _ _ _ h => h) (Or.inl ⟨by rfl,?_⟩) ?_ ?_
                 rotate_left
                 ·intro w'
                  go_simp
                  with_reducible rfl
                 rotate_left
                 ·simp only [Act.put,List.setIfInBounds_toArray,List.set_cons_zero,List.set_cons_succ,i64_w,i32_w]
                  rfl
                 refine take_ (i:=4) (N:=some 28) (v:=?_) (a':=?_) #[true,true,true,true,true,true,true,true,false,false,false,false,false] rfl rfl (take_ofW HT_.out HW_.out (by kernel_rfl)) (fun _ _ _ h => h) (Or.inl ⟨by rfl,?_⟩) hHeld ?_ ?_
                 rotate_left
                 ·rintro w' ⟨s0,s1,s2,s3,s4,s5,s6,s7,s8,s9⟩
                  go_simp
                  with_reducible rfl
                 rotate_left
                 ·simp only [Act.put,List.setIfInBounds_toArray,List.set_cons_zero,List.set_cons_succ,i64_w,i32_w]
                  rfl
                 refine take_ (i:=8) (N:=some 32) (v:=?_) (a':=?_) #[true,true,true,true,true,true,true,true,true,false,false,false,false] rfl rfl (take_ofW HT_.out HW_.out (by kernel_rfl)) (fun _ _ _ h => h) (Or.inl ⟨by rfl,?_⟩) hHeld ?_ ?_
                 rotate_left
                 ·rintro w' ⟨s0,s1,s2,s3,s4,s5,s6,s7,s8,s9⟩
                  go_simp
                  with_reducible rfl
                 rotate_left
                 ·simp only [Act.put,List.setIfInBounds_toArray,List.set_cons_zero,List.set_cons_succ,i64_w,i32_w]
                  rfl
                 refine pure_ (i:=9) (N:=some 33) (v:=?_) (a':=?_) #[true,true,true,true,true,true,true,true,true,true,false,false,false] rfl rfl (any_of HT_.out (by kernel_rfl)) (fun _ _ _ h => h) (Or.inl ⟨by rfl,?_⟩) ?_ ?_
                 rotate_left
                 ·intro w'
                  go_simp
                  with_reducible rfl
                 rotate_left
                 ·simp only [Act.put,List.setIfInBounds_toArray,List.set_cons_zero,List.set_cons_succ,i64_w,i32_w]
                  rfl
                 refine one_ (i:=10) (N:=some 34) #[true,true,true,true,true,true,true,true,true,true,true,false,false] rfl rfl (one_of HT_.out (by kernel_rfl)) (by decide) (fun K hK => ?_)
                 refine value_ (w1:=?_) (v:=?_) (by rfl) rfl ?_ ?_
                 rotate_left 2
                 ·go_simp
                  constructor
                  ·rfl
                  ·rfl
                 refine hK.out _ _ ⟨(World.cell?_alloc_lt _ _ _ (World.block_lt_of_cell? _ _ (((HB.out.cell (World.block_lt_of_cell? w _ hw151_0)).trans hw151_0)))).trans (((HB.out.cell (World.block_lt_of_cell? w _ hw151_0)).trans hw151_0)),(World.cell?_alloc_lt _ _ _ (World.block_lt_of_cell? _ _ (((HB.out.cell (World.block_lt_of_cell? w _ hw151_1)).trans hw151_1)))).trans (((HB.out.cell (World.block_lt_of_cell? w _ hw151_1)).trans hw151_1)),(World.cell?_alloc_lt _ _ _ (World.block_lt_of_cell? _ _ (((HB.out.cell (World.block_lt_of_cell? w _ hw151_2)).trans hw151_2)))).trans (((HB.out.cell (World.block_lt_of_cell? w _ hw151_2)).trans hw151_2)),(World.cell?_alloc_lt _ _ _ (World.block_lt_of_cell? _ _ (((HB.out.cell (World.block_lt_of_cell? w _ hw151_3)).trans hw151_3)))).trans (((HB.out.cell (World.block_lt_of_cell? w _ hw151_3)).trans hw151_3)),(World.cell?_alloc_lt _ _ _ (World.block_lt_of_cell? _ _ (((HB.out.cell (World.block_lt_of_cell? w _ hw151_4)).trans hw151_4)))).trans (((HB.out.cell (World.block_lt_of_cell? w _ hw151_4)).trans hw151_4)),(World.cell?_alloc_lt _ _ _ (World.block_lt_of_cell? _ _ (((HB.out.cell (World.block_lt_of_cell? w _ hw152_0)).trans hw152_0)))).trans (((HB.out.cell (World.block_lt_of_cell? w _ hw152_0)).trans hw152_0)),(World.cell?_alloc_lt _ _ _ (World.block_lt_of_cell? _ _ (((HB.out.cell (World.block_lt_of_cell? w _ hw152_1)).trans hw152_1)))).trans (((HB.out.cell (World.block_lt_of_cell? w _ hw152_1)).trans hw152_1)),(World.cell?_alloc_lt _ _ _ (World.block_lt_of_cell? _ _ (((HB.out.cell (World.block_lt_of_cell? w _ hw152_2)).trans hw152_2)))).trans (((HB.out.cell (World.block_lt_of_cell? w _ hw152_2)).trans hw152_2)),(World.cell?_alloc_lt _ _ _ (World.block_lt_of_cell? _ _ (((HB.out.cell (World.block_lt_of_cell? w _ hw152_3)).trans hw152_3)))).trans (((HB.out.cell (World.block_lt_of_cell? w _ hw152_3)).trans hw152_3)),(World.cell?_alloc_lt _ _ _ (World.block_lt_of_cell? _ _ (((HB.out.cell (World.block_lt_of_cell? w _ hw152_4)).trans hw152_4)))).trans (((HB.out.cell (World.block_lt_of_cell? w _ hw152_4)).trans hw152_4))⟩ (fun hHeld => ?_)
                 clear hK K
                 refine norm_ (a':=?_) ?_ ?_
                 rotate_left
                 ·show Act.put _ (some 34) _ = _
                  simp only [Act.put,List.setIfInBounds_toArray,List.set_cons_zero,List.set_cons_succ,i64_w,i32_w]
                  rfl
                 refine one_ (i:=11) (N:=some 35) #[true,true,true,true,true,true,true,true,true,true,true,true,false] rfl rfl (one_of HT_.out (by kernel_rfl)) (by decide) (fun K hK => ?_)
                 refine Kd.R_append_step k46 (w0:=w) w.heap.size (by rfl) (.tmp 24) (.tmp 34) 36 46 (.agg #[(.string ⟨#[]⟩),(.int .i64 0),(.int .i64 0),(.string ⟨#[]⟩),(.bool false),(.string ⟨#[]⟩),(.int .i64 0),(.int .i64 0),(.string ⟨#[]⟩),(.bool false)]) 112 rfl Try.underlying36 info46 rfl (by decide) (by omega) u5 x5_1 (⟨(⟨(rd_T44 l0 x6_1).f0,(⟨(rd_T44 l0 x6_1).f1.f0,(rd_T44 l0 x6_1).f1.f1⟩ : S42),(rd_T44 l0 x6_1).f2,(rd_T44 l0 x6_1).f3⟩ : S44),(⟨(rd_T44 l1 x7_1).f0,(⟨(rd_T44 l1 x7_1).f1.f0,(rd_T44 l1 x7_1).f1.f1⟩ : S42),(rd_T44 l1 x7_1).f2,(rd_T44 l1 x7_1).f3⟩ : S44)⟩ : S46) [.string ((rd_T44 l0 x6_1).f0),.int .i64 ((rd_T44 l0 x6_1).f1.f0),.int .i64 ((rd_T44 l0 x6_1).f1.f1),.string ((rd_T44 l0 x6_1).f2),.bool ((rd_T44 l0 x6_1).f3),.string ((rd_T44 l1 x7_1).f0),.int .i64 ((rd_T44 l1 x7_1).f1.f0),.int .i64 ((rd_T44 l1 x7_1).f1.f1),.string ((rd_T44 l1 x7_1).f2),.bool ((rd_T44 l1 x7_1).f3)] (fun _ => True) (fun _ => False) rfl rfl ?aP (fun _ hk => hk.elim) ?aF ?aO ?aB ?aS ?aL ?_
                 (case aP => exact k46_mkM _ _ _ (⟨(⟨(rd_T44 l0 x6_1).f0,(⟨(rd_T44 l0 x6_1).f1.f0,(rd_T44 l0 x6_1).f1.f1⟩ : S42),(rd_T44 l0 x6_1).f2,(rd_T44 l0 x6_1).f3⟩ : S44),(⟨(rd_T44 l1 x7_1).f0,(⟨(rd_T44 l1 x7_1).f1.f0,(rd_T44 l1 x7_1).f1.f1⟩ : S42),(rd_T44 l1 x7_1).f2,(rd_T44 l1 x7_1).f3⟩ : S44)⟩ : S46))
                 (case aB => exact (by repeat (first|(with_reducible first|exact HB.out|apply xA|apply xN|apply xD)|exact HB.out)))
                 (case aF => exact (fun _ _ => trivial))
                 (case aO => exact (by (with_reducible repeat (first|apply Kd.R_alloc|apply Kd.R_drewN|apply Kd.R_drew));exact HO_5.out))
                 (case aS => exact (below_size (by repeat (first|(with_reducible first|exact HB.out|apply xA|apply xN|apply xD)|exact HB.out))))
                 (case aL => have:=LMc39.out;omega)
                 intro v154 w42 ho hb hg hat
                 rw [← Ny153.out] at ho
                 have n0_:=Aside0.mk (hb)
                 have n1_:=Aside0.mk (ho)
                 clear HB HO_5
                 have HB:=n0_
                 have HO155:=n1_
                 clear n0_ n1_
                 clear ho hb hg hat
                 refine hK.out _ _ ⟨((HB.out.cell (World.block_lt_of_cell? w _ hw151_0)).trans hw151_0),((HB.out.cell (World.block_lt_of_cell? w _ hw151_1)).trans hw151_1),((HB.out.cell (World.block_lt_of_cell? w _ hw151_2)).trans hw151_2),((HB.out.cell (World.block_lt_of_cell? w _ hw151_3)).trans hw151_3),((HB.out.cell (World.block_lt_of_cell? w _ hw151_4)).trans hw151_4),((HB.out.cell (World.block_lt_of_cell? w _ hw152_0)).trans hw152_0),((HB.out.cell (World.block_lt_of_cell? w _ hw152_1)).trans hw152_1),((HB.out.cell (World.block_lt_of_cell? w _ hw152_2)).trans hw152_2),((HB.out.cell (World.block_lt_of_cell? w _ hw152_3)).trans hw152_3),((HB.out.cell (World.block_lt_of_cell? w _ hw152_4)).trans hw152_4)⟩ (fun hHeld => ?_)
                 clear hK K
                 refine norm_ (a':=?_) ?_ ?_
                 rotate_left
                 ·show Act.put _ (some 35) _ = _
                  simp only [Act.put,List.setIfInBounds_toArray,List.set_cons_zero,List.set_cons_succ,i64_w,i32_w]
                  rfl
                 refine pure_ (i:=12) (N:=some 5) (v:=?_) (a':=?_) #[true,true,true,true,true,true,true,true,true,true,true,true,true] rfl rfl (any_of HT_.out (by kernel_rfl)) (fun _ _ _ h => h) (Or.inl ⟨by rfl,?_⟩) ?_ ?_
                 rotate_left
                 ·intro w'
                  go_simp
                  with_reducible rfl
                 rotate_left
                 ·simp only [Act.put,List.setIfInBounds_toArray,List.set_cons_zero,List.set_cons_succ,i64_w,i32_w]
                  rfl
                 refine done_ (done_of HT_.out (by kernel_rfl)) ?_
                 try go_wp2
                 go_roundg kj10
                 case measure => have:=HK1.out;have:=HJ7.out;have:=HJ10.out;omega
                 case rel => exact ⟨(y153),(wrap64 (x6_1 + 1)),(wrap64 (x7_1 + 1)),(by first|rfl|(simp;done)|(simp [*];done)|(simp [*,Go.Proofs.Ytghlellambnkeaa.Str.bne_nil];done)),(by first|rfl|(simp;done)|(simp [*];done)|(simp [*,Go.Proofs.Ytghlellambnkeaa.Str.bne_nil];done)),H',⟨by have:=HK1.out;have:=HJ7.out;have:=HJ10.out;omega⟩,⟨by (with_reducible repeat (first|apply Kd.R_alloc|apply Kd.R_drewN|apply Kd.R_drew));exact HO155.out⟩,⟨by repeat (first|(with_reducible first|exact HB.out|apply xA|apply xN|apply xD)|exact HB.out)⟩⟩
                ·rw [if_neg c39] at H
                 exact absurd H (by simp)
              ·rw [if_neg c34] at H
               exact absurd H (by simp)
             ·rw [if_neg c33] at H
              exact absurd H (by simp)
            ·rw [if_neg c32] at H
             exact absurd H (by simp)
           ·rw [if_neg c31] at H
            exact absurd H (by simp)
      ·replace c10:=Bool.eq_false_iff.mpr c10
       subst c10
       have H1 : (some x5_1) = some r:=by rw [if_neg (show ¬ (false = true) by decide)] at H;exact H
       clear H
       have H:=H1
       clear H1
       obtain rfl:=Option.some.inj H
       go_wp2
       go_ret
       exact ⟨_,by first|rfl|(simp [errW_none,errW_some] <;> rfl)|(simp [*,errW_none,errW_some] <;> rfl),by (with_reducible repeat (first|apply Kd.R_alloc|apply Kd.R_drewN|apply Kd.R_drew));exact HO_5.out,by repeat (first|(with_reducible first|exact HB.out|apply xA|apply xN|apply xD)|exact HB.out)⟩
 ·rw [if_neg c4] at H
  have c4b0 : (t134 == 0) = false:=beq_eq_false_iff_ne.mpr c4
  have c4b1 : (t134 != 0) = true:=bne_iff_ne.mpr c4
  obtain rfl:=Option.some.inj H
  go_enter Try.func22,Try.ntmps22
  go_wp2_with (first|((with_reducible refine gate_dst (N:=8) rfl ?_);(try (refine gate_guard (by rfl) ?_;dsimp only));refine Kd.R_lit k46 _ 46 ?hg (N:=8) ?hd (xs:=([] : List (S46))) (inner:=[]) (ok:=fun _ => True) (okp:=fun _ => True) ?hr ?hp (fun _ hk => hk) trivial (Below.refl _ _) (Nat.le_refl _) (by simp) ?_;(case hd => rfl);(case hg => rfl);(case hr => first|(go_simp;done)|(go_simp;rfl));(case hp => exact (Reps.none _ _));intro v132 w43 ho44 hb hg_ hnew_;clear hg_ hnew_;(first|rw [← Ny131.out] at ho44|(simp only [Int.reduceToNat] at ho44;rw [← Ny131.out] at ho44));have n0_:=Aside0.mk (Kd.R_lower ho44 (below_size (by repeat (first|(with_reducible first|exact HB.out|apply xA|apply xN|apply xD)|exact HB.out))));have n1_:=Aside0.mk (below_step (by repeat (first|(with_reducible first|exact HB.out|apply xA|apply xN|apply xD)|exact HB.out)) hb);clear HB;have HO133:=n0_;have HB:=n1_;clear n0_ n1_;clear hb ho44)|((with_reducible refine gate_callee (f:=40) rfl ?_);refine goesL_ (some 11) rfl rfl Try.func40 (by kernel_rfl) rfl #[.slice A0 l0.length c0,.slice A1 l1.length c1] rfl (by (try simp only [List.map_toArray,List.map_cons,List.map_nil]);first|done|rfl|(simp only [List.length_drop,List.length_take];rfl)) ?_;(with_reducible refine (tidelineref09_check.calls k _ _ l0 _ _ l1 t134 _ ?side1 ?side2 ?side3 ?side4 A3.out).mono ?_);(case side1 => repeat (first|exact (Kd.C_below HR0.out HB.out)|(with_reducible refine Kd.C_alloc ?_ _)|(with_reducible refine Kd.C_drewN ?_ _)|(with_reducible refine Kd.C_drew ?_)));(case side2 => exact HC0.out);(case side3 => repeat (first|exact (Kd.C_below HR1.out HB.out)|(with_reducible refine Kd.C_alloc ?_ _)|(with_reducible refine Kd.C_drewN ?_ _)|(with_reducible refine Kd.C_drew ?_)));(case side4 => exact HC1.out);rintro e w45 ⟨rfl,hb⟩;refine ⟨_,rfl,?_⟩;replace HO133:=Aside0.mk (Kd.R_below (by (with_reducible repeat (first|apply Kd.R_alloc|apply Kd.R_drewN|apply Kd.R_drew));exact HO133.out) hb);replace HB:=Aside0.mk (below_step (by repeat (first|(with_reducible first|exact HB.out|apply xA|apply xN|apply xD)|exact HB.out)) hb);(try clear hb);(try clear hb2);(try clear hk);(try clear hi)))
  go_ret
  exact ⟨_,by first|rfl|(simp [errW_none,errW_some] <;> rfl)|(simp [*,errW_none,errW_some] <;> rfl),by (with_reducible repeat (first|apply Kd.R_alloc|apply Kd.R_drewN|apply Kd.R_drew));exact HO133.out,by repeat (first|(with_reducible first|exact HB.out|apply xA|apply xN|apply xD)|exact HB.out)⟩

end Go.Proofs.Ytghlellambnkeaa.PAll
