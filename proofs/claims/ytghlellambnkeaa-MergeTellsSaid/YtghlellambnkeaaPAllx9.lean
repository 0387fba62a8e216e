-- By wip/pr.py (a program of this session, over the kit's print): lines written by program. Not trusted: Lean checks them.
import Derived.Test.YtghlellambnkeaaPAllx0
import Derived.Test.YtghlellambnkeaaPAllx1
import Derived.Test.YtghlellambnkeaaPAllx6
import Derived.Test.YtghlellambnkeaaPAllx7
import Derived.Test.YtghlellambnkeaaPAllx8
namespace Go.Proofs.Ytghlellambnkeaa.PAll
open Go.RowKit Go.Proofs.YtghlellambnkeaaW.PrintWords Go.Proofs.YtghlellambnkeaaW.PrintLast Go.Proofs.YtghlellambnkeaaW.PrintMore
attribute [local go_sem] max2_int min2_int max_two min_two max_three min_three max_four min_four   -- for this text's walks alone
set_option linter.unusedVariables false
set_option linter.unusedSimpArgs false

attribute [local go_sem high] eqA42
/-! ### tidelineref09_Differ: function 30 -/
def tidelineref09_Differ.l0 : Nat → List (S46) → List ByteArray → Int → Option (List ByteArray × Int)
  | 0, _, _, _ => none
  | k + 1, x7, x8, x9 => if x9 < (x7.length : Int) then (if 0 ≤ x9 then (if (!(((rd_T46 x7 x9).f0.f1.f0) == ((rd_T46 x7 x9).f1.f1.f0)) || (!(((rd_T46 x7 x9).f0.f1.f1) == ((rd_T46 x7 x9).f1.f1.f1)))) = true then (if ((rd_T46 x7 x9).f0.f0).size + ((rd_T46 x7 x9).f1.f0).size ≤ 9223372036854775807 then (if x8.length < 8796093022208 then ((some (x8 ++ [((rd_T46 x7 x9).f0.f0) ++ ((rd_T46 x7 x9).f1.f0)] : List ByteArray)).bind fun y228 => ((tidelineref09_none.f ((rd_T46 x7 x9).f0.f0) ((rd_T46 x7 x9).f0.f1.f0) ((rd_T46 x7 x9).f0.f1.f1) ((rd_T46 x7 x9).f0.f2) ((rd_T46 x7 x9).f0.f3)).bind fun t232 => (if t232 = true then (tidelineref09_Differ.l0 k x7 y228 (wrap64 (x9 + 1))) else ((tidelineref09_none.f ((rd_T46 x7 x9).f1.f0) ((rd_T46 x7 x9).f1.f1.f0) ((rd_T46 x7 x9).f1.f1.f1) ((rd_T46 x7 x9).f1.f2) ((rd_T46 x7 x9).f1.f3)).bind fun t234 => (if t234 = true then (tidelineref09_Differ.l0 k x7 y228 (wrap64 (x9 + 1))) else (if 0 ≤ (wrap64 ((y228.length : Int) - 1)) then (if (wrap64 ((y228.length : Int) - 1)) < (y228.length : Int) then (tidelineref09_Differ.l0 k x7 (y228.set ((wrap64 ((y228.length : Int) - 1)) : Int).toNat ((rd_T46 x7 x9).f0.f0)) (wrap64 (x9 + 1))) else (none)) else (none))))))) else (none)) else (none)) else (tidelineref09_Differ.l0 k x7 x8 (wrap64 (x9 + 1)))) else (none)) else (some (x8, 0))
def tidelineref09_Differ.f (k : Nat) (l0 : List (S44)) (l1 : List (S44)) : Option (List ByteArray × Int) := (tidelineref09_check.f k l0 l1).bind fun t217 => (if t217 = 0 then ((tidelineref09_Pairs.f k l0 l1).bind fun t218 => (tidelineref09_Differ.l0 k t218 (([] : List ByteArray)) 0)) else (some (([] : List ByteArray), t217)))
theorem tidelineref09_Differ.mono_l : ∀ k, (∀ y0 y1 y2, LeO (tidelineref09_Differ.l0 k y0 y1 y2) (tidelineref09_Differ.l0 (k + 1) y0 y1 y2))
  | 0 => fun _ _ _ r h => by simp [tidelineref09_Differ.l0] at h
  | k + 1 => by
    have ih0 := tidelineref09_Differ.mono_l k
    · intro y0 y1 y2
      unfold tidelineref09_Differ.l0
      repeat' first
      | (with_reducible exact ih0 _ _ _)
      | (with_reducible exact tidelineref09_Pairs.mono _ _ _)
      | (with_reducible exact tidelineref09_check.mono _ _ _)
      | (with_reducible exact LeO.refl _)
      | (with_reducible exact LeO.none _)
      | (with_reducible refine LeO.ite ?_ ?_)
      | (with_reducible refine LeO.bind ?_ (fun _ => ?_))
      | exact ih0 _ _ _
      | exact tidelineref09_Pairs.mono _ _ _
      | exact tidelineref09_check.mono _ _ _
      | exact LeO.none _
      | refine LeO.ite ?_ ?_
      | refine LeO.bind ?_ (fun _ => ?_)
theorem tidelineref09_Differ.mono : ∀ a0 a1 k, LeO (tidelineref09_Differ.f k a0 a1) (tidelineref09_Differ.f (k + 1) a0 a1) := by
  intro a0 a1 k
  have ih0 := tidelineref09_Differ.mono_l k
  unfold tidelineref09_Differ.f
  repeat' first
      | (with_reducible exact ih0 _ _ _)
      | (with_reducible exact tidelineref09_Pairs.mono _ _ _)
      | (with_reducible exact tidelineref09_check.mono _ _ _)
      | (with_reducible exact LeO.refl _)
      | (with_reducible exact LeO.none _)
      | (with_reducible refine LeO.ite ?_ ?_)
      | (with_reducible refine LeO.bind ?_ (fun _ => ?_))
      | exact ih0 _ _ _
      | exact tidelineref09_Pairs.mono _ _ _
      | exact tidelineref09_check.mono _ _ _
      | exact LeO.none _
      | refine LeO.ite ?_ ?_
      | refine LeO.bind ?_ (fun _ => ?_)
def tidelineref09_Differ.T9 : Bool × List (List Nat × List Nat) := (true, [([], []), ([], []), ([0, 1], [0, 1]), ([2], [2]), ([3], [3]), ([4], [4]), ([], []), ([], []), ([6, 7], [6, 7]), ([8], [8]), ([9], [9]), ([10], [10]), ([5, 11], [5, 11])])
def tidelineref09_Differ.B9 : List Nat := [0, 0, 3, 7, 15, 31, 0, 0, 192, 448, 960, 1984, 4095]
theorem tidelineref09_Differ.tab9 : rtab .any (opsOf Try.f30 9) = tidelineref09_Differ.T9 := by kernel_rfl
theorem tidelineref09_Differ.bits9 : waitsOk tidelineref09_Differ.T9.2 tidelineref09_Differ.B9 = true := by kernel_rfl
def tidelineref09_Differ.T10 : Bool × List (List Nat × List Nat) := (true, [([], []), ([], []), ([], []), ([1, 2], [1, 2]), ([3], [3]), ([4], [4]), ([5], [5]), ([], []), ([], []), ([7, 8], [7, 8]), ([9], [9]), ([10], [10]), ([11], [11]), ([6, 12], [6, 12]), ([13], [13]), ([0, 14], [0, 14]), ([15, 15, 0, 1, 2, 3, 4, 5, 6, 7, 8, 9, 10, 11, 12, 13, 14, 15], [0, 15])])
def tidelineref09_Differ.B10 : List Nat := [0, 0, 0, 6, 14, 30, 62, 0, 0, 384, 896, 1920, 3968, 8190, 16382, 32767, 65535]
theorem tidelineref09_Differ.tab10 : rtab .any (opsOf Try.f30 10) = tidelineref09_Differ.T10 := by kernel_rfl
theorem tidelineref09_Differ.bits10 : waitsOk tidelineref09_Differ.T10.2 tidelineref09_Differ.B10 = true := by kernel_rfl
set_option maxHeartbeats 8000000 in
set_option maxRecDepth 100000 in
theorem tidelineref09_Differ.calls (k : Nat) (A0 : Option Addr) (c0 : Nat) (l0 : List (S44)) (A1 : Option Addr) (c1 : Nat) (l1 : List (S44)) (r1 : List ByteArray) (r2 : Int) (w : World) (hr0 : Kd.C k44 w A0 l0.length l0) (hc0 : l0.length ≤ c0) (hr1 : Kd.C k44 w A1 l1.length l1) (hc1 : l1.length ≤ c1) (h : tidelineref09_Differ.f k l0 l1 = some (r1, r2)) :
    Calls Try.prog 30 #[.slice A0 l0.length c0, .slice A1 l1.length c1] w fun e w' => ∃ v0_ : Value, e = .returned (.tuple #[v0_, .int .i64 r2]) ∧ Kd.R Kd.string 9 w' w.heap.size (fun _ => True) v0_ r1 ∧ Below w.heap.size w w' := by
 have hu42:=Try.underlying42
 have hu44:=Try.underlying44
 have HR0:=Aside0.mk hr0
 have HC0:=Aside0.mk hc0
 clear hr0 hc0
 have HR1:=Aside0.mk hr1
 have HC1:=Aside0.mk hc1
 clear hr1 hc1
 have HB:=Aside0.mk (Below.refl w.heap.size w)
 have H : ((tidelineref09_check.f k l0 l1).bind fun t217 => (if t217 = 0 then ((tidelineref09_Pairs.f k l0 l1).bind fun t218 => (tidelineref09_Differ.l0 k t218 (([] : List ByteArray)) 0)) else (some (([] : List ByteArray),t217)))) = some (r1,r2):=h
 clear h
 replace H:=Option.bind_eq_some_iff.mp H
 obtain ⟨t217,A30,H⟩:=H
 replace H : (if t217 = 0 then ((tidelineref09_Pairs.f k l0 l1).bind fun t218 => (tidelineref09_Differ.l0 k t218 (([] : List ByteArray)) 0)) else (some (([] : List ByteArray),t217))) = some (r1,r2):=H
 have A3:=Aside0.mk A30
 clear A30
 by_cases c4 : t217 = 0
 ·rw [if_pos c4] at H
  have c4b0 : (t217 == 0) = true:=beq_iff_eq.mpr c4
  have c4b1 : (t217 != 0) = false:=bne_eq_false_iff_eq.mpr c4
  clear c4
  replace H:=Option.bind_eq_some_iff.mp H
  obtain ⟨t218,A50,H⟩:=H
  replace H : (tidelineref09_Differ.l0 k t218 (([] : List ByteArray)) 0) = some (r1,r2):=H
  have A5:=Aside0.mk A50
  clear A50
  obtain ⟨y221,hy221⟩ : ∃ y_ : List ByteArray,y_ = (([] : List ByteArray)):=⟨_,rfl⟩
  replace H : (tidelineref09_Differ.l0 k t218 y221 0) = some (r1,r2):=by first|(rw [hy221];with_reducible exact H)|(have H2_:=(Option.bind_some _ _).symm.trans H;rw [hy221];with_reducible exact H2_)|(have H2_:=(Option.bind_some _ _).symm.trans H;with_reducible exact H2_)|with_reducible exact H|(rw [hy221];exact H)|exact H
  have Ny221:=Aside0.mk hy221
  clear hy221
  have H':=Aside0.mk H
  clear H
  go_enter Try.func30,Try.ntmps30
  go_wp2_with (first|((with_reducible refine gate_callee (f:=40) rfl ?_);refine goesL_ (some 12) rfl rfl Try.func40 (by kernel_rfl) rfl #[.slice A0 l0.length c0,.slice A1 l1.length c1] rfl (by (try simp only [List.map_toArray,List.map_cons,List.map_nil]);first|done|rfl|(simp only [List.length_drop,List.length_take];rfl)) ?_;(with_reducible refine (tidelineref09_check.calls k _ _ l0 _ _ l1 t217 _ ?side1 ?side2 ?side3 ?side4 A3.out).mono ?_);(case side1 => repeat (first|exact HR0.out|(with_reducible refine Kd.C_alloc ?_ _)|(with_reducible refine Kd.C_drewN ?_ _)|(with_reducible refine Kd.C_drew ?_)));(case side2 => exact HC0.out);(case side3 => repeat (first|exact HR1.out|(with_reducible refine Kd.C_alloc ?_ _)|(with_reducible refine Kd.C_drewN ?_ _)|(with_reducible refine Kd.C_drew ?_)));(case side4 => exact HC1.out);rintro e w6 ⟨rfl,hb⟩;refine ⟨_,rfl,?_⟩;replace HB:=Aside0.mk (below_step (by repeat (first|(with_reducible first|exact HB.out|apply xA|apply xN|apply xD)|exact HB.out)) hb);(try clear hb);(try clear hb2);(try clear hk);(try clear hi))|((with_reducible refine gate_callee (f:=22) rfl ?_);refine goesL_ (some 18) rfl rfl Try.func22 (by kernel_rfl) rfl #[.slice A0 l0.length c0,.slice A1 l1.length c1] rfl (by (try simp only [List.map_toArray,List.map_cons,List.map_nil]);first|done|rfl|(simp only [List.length_drop,List.length_take];rfl)) ?_;(with_reducible refine (tidelineref09_Pairs.calls k _ _ l0 _ _ l1 t218 _ ?side1 ?side2 ?side3 ?side4 A5.out).mono ?_);(case side1 => repeat (first|exact (Kd.C_below HR0.out HB.out)|(with_reducible refine Kd.C_alloc ?_ _)|(with_reducible refine Kd.C_drewN ?_ _)|(with_reducible refine Kd.C_drew ?_)));(case side2 => exact HC0.out);(case side3 => repeat (first|exact (Kd.C_below HR1.out HB.out)|(with_reducible refine Kd.C_alloc ?_ _)|(with_reducible refine Kd.C_drewN ?_ _)|(with_reducible refine Kd.C_drew ?_)));(case side4 => exact HC1.out);rintro e w7 ⟨v219,rfl,ho0,hb⟩;refine ⟨_,rfl,?_⟩;have n0_:=Aside0.mk (Kd.R_lower ho0 (below_size (by repeat (first|(with_reducible first|exact HB.out|apply xA|apply xN|apply xD)|exact HB.out))));have n1_:=Aside0.mk (below_step (by repeat (first|(with_reducible first|exact HB.out|apply xA|apply xN|apply xD)|exact HB.out)) hb);clear HB;have HO220:=n0_;have HB:=n1_;clear n0_ n1_;(try clear hb);(try clear hb2);(try clear hk);(try clear hi);(try clear ho0))|((with_reducible refine gate_dst (N:=19) rfl ?_);refine Kd.R_lit Kd.string _ 9 ?hg (N:=19) ?hd (xs:=([] : List ByteArray)) (inner:=[]) (ok:=fun _ => True) (okp:=fun _ => True) ?hr ?hp (fun _ hk => hk) trivial (Below.refl _ _) (Nat.le_refl _) (by simp) ?_;(case hd => rfl);(case hg => rfl);(case hr => first|(go_simp;done)|(go_simp;rfl));(case hp => exact (Reps.none _ _));intro v222 w8 ho9 hb hg_ hnew_;clear hg_ hnew_;(first|rw [← Ny221.out] at ho9|(simp only [Int.reduceToNat] at ho9;rw [← Ny221.out] at ho9));have n0_:=Aside0.mk (Kd.R_below (by (with_reducible repeat (first|apply Kd.R_alloc|apply Kd.R_drewN|apply Kd.R_drew));exact HO220.out) hb);have n1_:=Aside0.mk (Kd.R_lower ho9 (below_size (by repeat (first|(with_reducible first|exact HB.out|apply xA|apply xN|apply xD)|exact HB.out))));have n2_:=Aside0.mk (below_step (by repeat (first|(with_reducible first|exact HB.out|apply xA|apply xN|apply xD)|exact HB.out)) hb);clear HO220;clear HB;have HO220:=n0_;have HO223:=n1_;have HB:=n2_;clear n0_ n1_ n2_;clear hb ho9))
  go_loopg [8,9] k (fun kq v8 v9 w' => ∃ (x8_1 : List ByteArray) (x9_1 : Int),v9 = .int .i64 x9_1 ∧ Aside0 (tidelineref09_Differ.l0 kq t218 x8_1 x9_1 = some (r1,r2)) ∧ Aside0 (kq ≤ k) ∧ Aside0 (Kd.R k46 46 w' w.heap.size (fun _ => True) v219 t218) ∧ Aside0 (Kd.R Kd.string 9 w' w.heap.size (fun _ => True) v8 x8_1) ∧ Aside0 (Below w.heap.size w w'))
  case atStart => exact ⟨(y221),(0),(by first|rfl|(simp;done)|(simp [*];done)|(simp [*,Go.Proofs.Ytghlellambnkeaa.Str.bne_nil];done)),H',⟨Nat.le_refl _⟩,⟨by (with_reducible repeat (first|apply Kd.R_alloc|apply Kd.R_drewN|apply Kd.R_drew));exact HO220.out⟩,⟨by (with_reducible repeat (first|apply Kd.R_alloc|apply Kd.R_drewN|apply Kd.R_drew));exact HO223.out⟩,⟨by repeat (first|(with_reducible first|exact HB.out|apply xA|apply xN|apply xD)|exact HB.out)⟩⟩
  case round =>
   clear H'
   try clear c1
   try clear c2
   try clear p2
   try clear c3
   try clear c4
   try clear c4b0
   try clear c4b1
   obtain ⟨x8_1,x9_1,rfl,HA,HK1,HO_7,HO_8,HB⟩:=hrel
   cases gk with
  |zero => exact absurd HA.out (by simp [tidelineref09_Differ.l0])
  |succ k1 =>
    have H:=HA.out
    clear HA
    simp only [tidelineref09_Differ.l0] at H
    by_cases c10 : x9_1 < (t218.length : Int)
    ·rw [if_pos c10] at H
     have c10b0 : decide (x9_1 < (t218.length : Int)) = true:=decide_eq_true c10
     clear c10
     by_cases c11 : 0 ≤ x9_1
     ·rw [if_pos c11] at H
      have c11b0 : decide (0 ≤ x9_1) = true:=decide_eq_true c11
      clear c11
      by_cases c12 : (!(((rd_T46 t218 x9_1).f0.f1.f0) == ((rd_T46 t218 x9_1).f1.f1.f0)) || (!(((rd_T46 t218 x9_1).f0.f1.f1) == ((rd_T46 t218 x9_1).f1.f1.f1)))) = true
      ·rw [if_pos c12] at H
       have c12b0 : (!(((rd_T46 t218 x9_1).f0.f1.f0) == ((rd_T46 t218 x9_1).f1.f1.f0)) || (!(((rd_T46 t218 x9_1).f0.f1.f1) == ((rd_T46 t218 x9_1).f1.f1.f1)))) = true:=c12
       clear c12
       by_cases c13 : ((rd_T46 t218 x9_1).f0.f0).size + ((rd_T46 t218 x9_1).f1.f0).size ≤ 9223372036854775807
       ·rw [if_pos c13] at H
        have c13b0:=eq_true c13
        have c13b1 : decide (((rd_T46 t218 x9_1).f0.f0).size + ((rd_T46 t218 x9_1).f1.f0).size ≤ 9223372036854775807) = true:=decide_eq_true c13
        try have c13b2 : (9223372036854775807 < ((rd_T46 t218 x9_1).f0.f0).size + ((rd_T46 t218 x9_1).f1.f0).size) = False:=eq_false (Nat.not_lt.2 c13)
        by_cases c14 : x8_1.length < 8796093022208
        ·rw [if_pos c14] at H
         have LMc14:=Aside0.mk c14
         clear c14
         obtain ⟨y228,hy228⟩ : ∃ y_ : List ByteArray,y_ = (x8_1 ++ [((rd_T46 t218 x9_1).f0.f0) ++ ((rd_T46 t218 x9_1).f1.f0)]):=⟨_,rfl⟩
         replace H : ((tidelineref09_none.f ((rd_T46 t218 x9_1).f0.f0) ((rd_T46 t218 x9_1).f0.f1.f0) ((rd_T46 t218 x9_1).f0.f1.f1) ((rd_T46 t218 x9_1).f0.f2) ((rd_T46 t218 x9_1).f0.f3)).bind fun t232 => (if t232 = true then (tidelineref09_Differ.l0 k1 t218 y228 (wrap64 (x9_1 + 1))) else ((tidelineref09_none.f ((rd_T46 t218 x9_1).f1.f0) ((rd_T46 t218 x9_1).f1.f1.f0) ((rd_T46 t218 x9_1).f1.f1.f1) ((rd_T46 t218 x9_1).f1.f2) ((rd_T46 t218 x9_1).f1.f3)).bind fun t234 => (if t234 = true then (tidelineref09_Differ.l0 k1 t218 y228 (wrap64 (x9_1 + 1))) else (if 0 ≤ (wrap64 ((y228.length : Int) - 1)) then (if (wrap64 ((y228.length : Int) - 1)) < (y228.length : Int) then (tidelineref09_Differ.l0 k1 t218 (y228.set ((wrap64 ((y228.length : Int) - 1)) : Int).toNat ((rd_T46 t218 x9_1).f0.f0)) (wrap64 (x9_1 + 1))) else (none)) else (none)))))) = some (r1,r2):=by first|(rw [hy228];with_reducible exact H)|(have H2_:=(Option.bind_some _ _).symm.trans H;rw [hy228];with_reducible exact H2_)|(have H2_:=(Option.bind_some _ _).symm.trans H;with_reducible exact H2_)|with_reducible exact H|(rw [hy228];exact H)|exact H
         have Ny228:=Aside0.mk hy228
         clear hy228
         replace H:=Option.bind_eq_some_iff.mp H
         obtain ⟨t232,A150,H⟩:=H
         replace H : (if t232 = true then (tidelineref09_Differ.l0 k1 t218 y228 (wrap64 (x9_1 + 1))) else ((tidelineref09_none.f ((rd_T46 t218 x9_1).f1.f0) ((rd_T46 t218 x9_1).f1.f1.f0) ((rd_T46 t218 x9_1).f1.f1.f1) ((rd_T46 t218 x9_1).f1.f2) ((rd_T46 t218 x9_1).f1.f3)).bind fun t234 => (if t234 = true then (tidelineref09_Differ.l0 k1 t218 y228 (wrap64 (x9_1 + 1))) else (if 0 ≤ (wrap64 ((y228.length : Int) - 1)) then (if (wrap64 ((y228.length : Int) - 1)) < (y228.length : Int) then (tidelineref09_Differ.l0 k1 t218 (y228.set ((wrap64 ((y228.length : Int) - 1)) : Int).toNat ((rd_T46 t218 x9_1).f0.f0)) (wrap64 (x9_1 + 1))) else (none)) else (none))))) = some (r1,r2):=H
         have A15:=Aside0.mk A150
         clear A150
         by_cases c16 : t232 = true
         ·subst c16
          have H1 : (tidelineref09_Differ.l0 k1 t218 y228 (wrap64 (x9_1 + 1))) = some (r1,r2):=by rw [if_pos rfl] at H;exact H
          clear H
          have H:=H1
          clear H1
          have H':=Aside0.mk H
          clear H
          obtain ⟨Ao17,co17,eo17⟩:=Kd.R_slice HO_7.out
          subst eo17
          try go_wp2
          replace HO_7:=Aside0.mk (Kd.R_drew HO_7.out)
          replace HO_8:=Aside0.mk (Kd.R_drew HO_8.out)
          replace HB:=Aside0.mk (below_drew1 HB.out)
          have p224 : 0 ≤ (x9_1 : Int):=of_decide_eq_true (by first|(with_reducible assumption)|assumption)
          have q224 : x9_1 < (t218.length : Int):=of_decide_eq_true (by first|(with_reducible assumption)|assumption)
          obtain ⟨ad224,e224,hx224_0,hx224_1,hx224_2,hx224_3,hx224_4,hx224_5,hx224_6,hx224_7,hx224_8,hx224_9⟩:=at_T46 (Kd.R_reads' HO_7.out).2.2 x9_1 p224 q224
          cases e224
          replace p224:=eq_true p224
          replace q224:=eq_true q224
          have p225 : 0 ≤ (x9_1 : Int):=of_decide_eq_true (by first|(with_reducible assumption)|assumption)
          have q225 : x9_1 < (t218.length : Int):=of_decide_eq_true (by first|(with_reducible assumption)|assumption)
          obtain ⟨ad225,e225,hx225_0,hx225_1,hx225_2,hx225_3,hx225_4,hx225_5,hx225_6,hx225_7,hx225_8,hx225_9⟩:=at_T46 (Kd.R_reads' HO_7.out).2.2 x9_1 p225 q225
          obtain rfl : ad224 = ad225:=(by injection e225)
          replace p225:=eq_true p225
          replace q225:=eq_true q225
          refine start_ (n:=13) (S:=fun w' => w'.cell? (ad224.add ((x9_1).toNat * 10)) = some (.string ((rd_T46 t218 x9_1).f0.f0)) ∧ w'.cell? ⟨(ad224.add ((x9_1).toNat * 10)).block,(ad224.add ((x9_1).toNat * 10)).off + 1,none⟩ = some (.int .i64 ((rd_T46 t218 x9_1).f0.f1.f0)) ∧ w'.cell? ⟨(ad224.add ((x9_1).toNat * 10)).block,(ad224.add ((x9_1).toNat * 10)).off + 2,none⟩ = some (.int .i64 ((rd_T46 t218 x9_1).f0.f1.f1)) ∧ w'.cell? ⟨(ad224.add ((x9_1).toNat * 10)).block,(ad224.add ((x9_1).toNat * 10)).off + 3,none⟩ = some (.string ((rd_T46 t218 x9_1).f0.f2)) ∧ w'.cell? ⟨(ad224.add ((x9_1).toNat * 10)).block,(ad224.add ((x9_1).toNat * 10)).off + 4,none⟩ = some (.bool ((rd_T46 t218 x9_1).f0.f3)) ∧ w'.cell? ⟨(ad224.add ((x9_1).toNat * 10)).block,(ad224.add ((x9_1).toNat * 10)).off + 5,none⟩ = some (.string ((rd_T46 t218 x9_1).f1.f0)) ∧ w'.cell? ⟨(ad224.add ((x9_1).toNat * 10)).block,(ad224.add ((x9_1).toNat * 10)).off + 6,none⟩ = some (.int .i64 ((rd_T46 t218 x9_1).f1.f1.f0)) ∧ w'.cell? ⟨(ad224.add ((x9_1).toNat * 10)).block,(ad224.add ((x9_1).toNat * 10)).off + 7,none⟩ = some (.int .i64 ((rd_T46 t218 x9_1).f1.f1.f1)) ∧ w'.cell? ⟨(ad224.add ((x9_1).toNat * 10)).block,(ad224.add ((x9_1).toNat * 10)).off + 8,none⟩ = some (.string ((rd_T46 t218 x9_1).f1.f2)) ∧ w'.cell? ⟨(ad224.add ((x9_1).toNat * 10)).block,(ad224.add ((x9_1).toNat * 10)).off + 9,none⟩ = some (.bool ((rd_T46 t218 x9_1).f1.f3)) ∧ w'.cell? (ad224.add ((x9_1).toNat * 10)) = some (.string ((rd_T46 t218 x9_1).f0.f0)) ∧ w'.cell? ⟨(ad224.add ((x9_1).toNat * 10)).block,(ad224.add ((x9_1).toNat * 10)).off + 1,none⟩ = some (.int .i64 ((rd_T46 t218 x9_1).f0.f1.f0)) ∧ w'.cell? ⟨(ad224.add ((x9_1).toNat * 10)).block,(ad224.add ((x9_1).toNat * 10)).off + 2,none⟩ = some (.int .i64 ((rd_T46 t218 x9_1).f0.f1.f1)) ∧ w'.cell? ⟨(ad224.add ((x9_1).toNat * 10)).block,(ad224.add ((x9_1).toNat * 10)).off + 3,none⟩ = some (.string ((rd_T46 t218 x9_1).f0.f2)) ∧ w'.cell? ⟨(ad224.add ((x9_1).toNat * 10)).block,(ad224.add ((x9_1).toNat * 10)).off + 4,none⟩ = some (.bool ((rd_T46 t218 x9_1).f0.f3)) ∧ w'.cell? ⟨(ad224.add ((x9_1).toNat * 10)).block,(ad224.add ((x9_1).toNat * 10)).off + 5,none⟩ = some (.string ((rd_T46 t218 x9_1).f1.f0)) ∧ w'.cell? ⟨(ad224.add ((x9_1).toNat * 10)).block,(ad224.add ((x9_1).toNat * 10)).off + 6,none⟩ = some (.int .i64 ((rd_T46 t218 x9_1).f1.f1.f0)) ∧ w'.cell? ⟨(ad224.add ((x9_1).toNat * 10)).block,(ad224.add ((x9_1).toNat * 10)).off + 7,none⟩ = some (.int .i64 ((rd_T46 t218 x9_1).f1.f1.f1)) ∧ w'.cell? ⟨(ad224.add ((x9_1).toNat * 10)).block,(ad224.add ((x9_1).toNat * 10)).off + 8,none⟩ = some (.string ((rd_T46 t218 x9_1).f1.f2)) ∧ w'.cell? ⟨(ad224.add ((x9_1).toNat * 10)).block,(ad224.add ((x9_1).toNat * 10)).off + 9,none⟩ = some (.bool ((rd_T46 t218 x9_1).f1.f3))) (ds:=[]) #[false,false,false,false,false,false,false,false,false,false,false,false,false] (by kernel_rfl) rfl rfl ⟨hx224_0,hx224_1,hx224_2,hx224_3,hx224_4,hx224_5,hx224_6,hx224_7,hx224_8,hx224_9,hx225_0,hx225_1,hx225_2,hx225_3,hx225_4,hx225_5,hx225_6,hx225_7,hx225_8,hx225_9⟩ (fun hHeld => ?_);refine with_tabW tidelineref09_Differ.tab9 tidelineref09_Differ.bits9 (fun HT_ HW_ => ?_)
          generalize wr.drew = w18 at HO_7 HO_8 HB hx224_0 hx224_1 hx224_2 hx224_3 hx224_4 hx224_5 hx224_6 hx224_7 hx224_8 hx224_9 hx225_0 hx225_1 hx225_2 hx225_3 hx225_4 hx225_5 hx225_6 hx225_7 hx225_8 hx225_9 hHeld ⊢
          refine pure_ (i:=0) (N:=some 26) (v:=?_) (a':=?_) #[true,false,false,false,false,false,false,false,false,false,false,false,false] rfl rfl (any_of HT_.out (by kernel_rfl)) (fun _ _ _ h => h) (Or.inl ⟨by rfl,?_⟩) ?_ ?_
          rotate_left
          ·intro w'
           go_simp
           with_reducible rfl
          rotate_left
          ·simp only [Act.put,List.setIfInBounds_toArray,List.set_cons_zero,List.set_cons_succ,i64_w,i32_w]
           rfl
          refine pure_ (i:=1) (N:=some 27) (v:=?_) (a':=?_) #[true,true,false,false,false,false,false,false,false,false,false,false,false] rfl rfl (any_of HT_.out (by kernel_rfl)) (fun _ _ _ h => h) (Or.inl ⟨by rfl,?_⟩) ?_ ?_
          rotate_left
          ·intro w'
           go_simp
           with_reducible rfl
          rotate_left
          ·simp only [Act.put,List.setIfInBounds_toArray,List.set_cons_zero,List.set_cons_succ,i64_w,i32_w]
           rfl
          refine pure_ (i:=2) (N:=some 28) (v:=?_) (a':=?_) #[true,true,true,false,false,false,false,false,false,false,false,false,false] rfl rfl (any_of HT_.out (by kernel_rfl)) (fun _ _ _ h => h) (Or.inl ⟨by rfl,?_⟩) ?_ ?_
          rotate_left
          ·intro w'
           go_simp
           with_reducible rfl
          rotate_left
          ·simp only [Act.put,List.setIfInBounds_toArray,List.set_cons_zero,List.set_cons_succ,i64_w,i32_w]
           rfl
          refine pure_ (i:=3) (N:=some 29) (v:=?_) (a':=?_) #[true,true,true,true,false,false,false,false,false,false,false,false,false] rfl rfl (any_of HT_.out (by kernel_rfl)) (fun _ _ _ h => h) (Or.inl ⟨by rfl,?_⟩) ?_ ?_
          rotate_left
          ·intro w'
           go_simp
           with_reducible rfl
          rotate_left
          ·simp only [Act.put,List.setIfInBounds_toArray,List.set_cons_zero,List.set_cons_succ,i64_w,i32_w]
           rfl
          refine pure_ (i:=4) (N:=some 30) (v:=?_) (a':=?_) #[true,true,true,true,true,false,false,false,false,false,false,false,false] rfl rfl (any_of HT_.out (by kernel_rfl)) (fun _ _ _ h => h) (Or.inl ⟨by rfl,?_⟩) ?_ ?_
          rotate_left
          ·intro w'
           go_simp
           with_reducible rfl
          rotate_left
          ·simp only [Act.put,List.setIfInBounds_toArray,List.set_cons_zero,List.set_cons_succ,i64_w,i32_w]
           rfl
          refine pure_ (i:=6) (N:=some 32) (v:=?_) (a':=?_) #[true,true,true,true,true,false,true,false,false,false,false,false,false] rfl rfl (any_of HT_.out (by kernel_rfl)) (fun _ _ _ h => h) (Or.inl ⟨by rfl,?_⟩) ?_ ?_
          rotate_left
          ·intro w'
           go_simp
           with_reducible rfl
          rotate_left
          ·simp only [Act.put,List.setIfInBounds_toArray,List.set_cons_zero,List.set_cons_succ,i64_w,i32_w]
           rfl
          refine pure_ (i:=7) (N:=some 33) (v:=?_) (a':=?_) #[true,true,true,true,true,false,true,true,false,false,false,false,false] rfl rfl (any_of HT_.out (by kernel_rfl)) (fun _ _ _ h => h) (Or.inl ⟨by rfl,?_⟩) ?_ ?_
          rotate_left
          ·intro w'
           go_simp
           with_reducible rfl
          rotate_left
          ·simp only [Act.put,List.setIfInBounds_toArray,List.set_cons_zero,List.set_cons_succ,i64_w,i32_w]
           rfl
          refine pure_ (i:=8) (N:=some 34) (v:=?_) (a':=?_) #[true,true,true,true,true,false,true,true,true,false,false,false,false] rfl rfl (any_of HT_.out (by kernel_rfl)) (fun _ _ _ h => h) (Or.inl ⟨by rfl,?_⟩) ?_ ?_
          rotate_left
          ·intro w'
           go_simp
           with_reducible rfl
          rotate_left
          ·simp only [Act.put,List.setIfInBounds_toArray,List.set_cons_zero,List.set_cons_succ,i64_w,i32_w]
           rfl
          refine pure_ (i:=9) (N:=some 35) (v:=?_) (a':=?_) #[true,true,true,true,true,false,true,true,true,true,false,false,false] rfl rfl (any_of HT_.out (by kernel_rfl)) (fun _ _ _ h => h) (Or.inl ⟨by rfl,?_⟩) ?_ ?_
          rotate_left
          ·intro w'
           go_simp
           with_reducible rfl
          rotate_left
          ·simp only [Act.put,List.setIfInBounds_toArray,List.set_cons_zero,List.set_cons_succ,i64_w,i32_w]
           rfl
          refine pure_ (i:=10) (N:=some 36) (v:=?_) (a':=?_) #[true,true,true,true,true,false,true,true,true,true,true,false,false] rfl rfl (any_of HT_.out (by kernel_rfl)) (fun _ _ _ h => h) (Or.inl ⟨by rfl,?_⟩) ?_ ?_
          rotate_left
          ·intro w'
           go_simp
           with_reducible rfl
          rotate_left
          ·simp only [Act.put,List.setIfInBounds_toArray,List.set_cons_zero,List.set_cons_succ,i64_w,i32_w]
           rfl
          refine take_ (i:=5) (N:=some 31) (v:=?_) (a':=?_) #[true,true,true,true,true,true,true,true,true,true,true,false,false] rfl rfl (take_ofW HT_.out HW_.out (by kernel_rfl)) (fun _ _ _ h => h) (Or.inl ⟨by rfl,?_⟩) hHeld ?_ ?_
          rotate_left
          ·rintro w' ⟨s0,s1,s2,s3,s4,s5,s6,s7,s8,s9,s10,s11,s12,s13,s14,s15,s16,s17,s18,s19⟩
           go_simp
           with_reducible rfl
          rotate_left
          ·simp only [Act.put,List.setIfInBounds_toArray,List.set_cons_zero,List.set_cons_succ,i64_w,i32_w]
           rfl
          refine take_ (i:=11) (N:=some 37) (v:=?_) (a':=?_) #[true,true,true,true,true,true,true,true,true,true,true,true,false] rfl rfl (take_ofW HT_.out HW_.out (by kernel_rfl)) (fun _ _ _ h => h) (Or.inl ⟨by rfl,?_⟩) hHeld ?_ ?_
          rotate_left
          ·rintro w' ⟨s0,s1,s2,s3,s4,s5,s6,s7,s8,s9,s10,s11,s12,s13,s14,s15,s16,s17,s18,s19⟩
           go_simp
           with_reducible rfl
          rotate_left
          ·simp only [Act.put,List.setIfInBounds_toArray,List.set_cons_zero,List.set_cons_succ,i64_w,i32_w]
           rfl
          refine pure_ (i:=12) (N:=some 38) (v:=?_) (a':=?_) #[true,true,true,true,true,true,true,true,true,true,true,true,true] rfl rfl (any_of HT_.out (by kernel_rfl)) (fun _ _ _ h => h) (Or.inl ⟨by rfl,?_⟩) ?_ ?_
          rotate_left
          ·intro w'
           go_simp
           with_reducible rfl
          rotate_left
          ·simp only [Act.put,List.setIfInBounds_toArray,List.set_cons_zero,List.set_cons_succ,i64_w,i32_w]
           rfl
          refine done_ (done_of HT_.out (by kernel_rfl)) ?_
          try go_wp2
          replace HO_7:=Aside0.mk (Kd.R_drew HO_7.out)
          replace HO_8:=Aside0.mk (Kd.R_drew HO_8.out)
          replace HB:=Aside0.mk (below_drew1 HB.out)
          have p226 : 0 ≤ (x9_1 : Int):=of_decide_eq_true (by first|(with_reducible assumption)|assumption)
          have q226 : x9_1 < (t218.length : Int):=of_decide_eq_true (by first|(with_reducible assumption)|assumption)
          obtain ⟨ad226,e226,hx226_0,hx226_1,hx226_2,hx226_3,hx226_4,hx226_5,hx226_6,hx226_7,hx226_8,hx226_9⟩:=at_T46 (Kd.R_reads' HO_7.out).2.2 x9_1 p226 q226
          obtain rfl : ad224 = ad226:=(by injection e226)
          replace p226:=eq_true p226
          replace q226:=eq_true q226
          have p227 : 0 ≤ (x9_1 : Int):=of_decide_eq_true (by first|(with_reducible assumption)|assumption)
          have q227 : x9_1 < (t218.length : Int):=of_decide_eq_true (by first|(with_reducible assumption)|assumption)
          obtain ⟨ad227,e227,hx227_0,hx227_1,hx227_2,hx227_3,hx227_4,hx227_5,hx227_6,hx227_7,hx227_8,hx227_9⟩:=at_T46 (Kd.R_reads' HO_7.out).2.2 x9_1 p227 q227
          obtain rfl : ad224 = ad227:=(by injection e227)
          replace p227:=eq_true p227
          replace q227:=eq_true q227
          refine start_ (n:=17) (S:=fun w' => w'.cell? (ad224.add ((x9_1).toNat * 10)) = some (.string ((rd_T46 t218 x9_1).f0.f0)) ∧ w'.cell? ⟨(ad224.add ((x9_1).toNat * 10)).block,(ad224.add ((x9_1).toNat * 10)).off + 1,none⟩ = some (.int .i64 ((rd_T46 t218 x9_1).f0.f1.f0)) ∧ w'.cell? ⟨(ad224.add ((x9_1).toNat * 10)).block,(ad224.add ((x9_1).toNat * 10)).off + 2,none⟩ = some (.int .i64 ((rd_T46 t218 x9_1).f0.f1.f1)) ∧ w'.cell? ⟨(ad224.add ((x9_1).toNat * 10)).block,(ad224.add ((x9_1).toNat * 10)).off + 3,none⟩ = some (.string ((rd_T46 t218 x9_1).f0.f2)) ∧ w'.cell? ⟨(ad224.add ((x9_1).toNat * 10)).block,(ad224.add ((x9_1).toNat * 10)).off + 4,none⟩ = some (.bool ((rd_T46 t218 x9_1).f0.f3)) ∧ w'.cell? ⟨(ad224.add ((x9_1).toNat * 10)).block,(ad224.add ((x9_1).toNat * 10)).off + 5,none⟩ = some (.string ((rd_T46 t218 x9_1).f1.f0)) ∧ w'.cell? ⟨(ad224.add ((x9_1).toNat * 10)).block,(ad224.add ((x9_1).toNat * 10)).off + 6,none⟩ = some (.int .i64 ((rd_T46 t218 x9_1).f1.f1.f0)) ∧ w'.cell? ⟨(ad224.add ((x9_1).toNat * 10)).block,(ad224.add ((x9_1).toNat * 10)).off + 7,none⟩ = some (.int .i64 ((rd_T46 t218 x9_1).f1.f1.f1)) ∧ w'.cell? ⟨(ad224.add ((x9_1).toNat * 10)).block,(ad224.add ((x9_1).toNat * 10)).off + 8,none⟩ = some (.string ((rd_T46 t218 x9_1).f1.f2)) ∧ w'.cell? ⟨(ad224.add ((x9_1).toNat * 10)).block,(ad224.add ((x9_1).toNat * 10)).off + 9,none⟩ = some (.bool ((rd_T46 t218 x9_1).f1.f3)) ∧ w'.cell? (ad224.add ((x9_1).toNat * 10)) = some (.string ((rd_T46 t218 x9_1).f0.f0)) ∧ w'.cell? ⟨(ad224.add ((x9_1).toNat * 10)).block,(ad224.add ((x9_1).toNat * 10)).off + 1,none⟩ = some (.int .i64 ((rd_T46 t218 x9_1).f0.f1.f0)) ∧ w'.cell? ⟨(ad224.add ((x9_1).toNat * 10)).block,(ad224.add ((x9_1).toNat * 10)).off + 2,none⟩ = some (.int .i64 ((rd_T46 t218 x9_1).f0.f1.f1)) ∧ w'.cell? ⟨(ad224.add ((x9_1).toNat * 10)).block,(ad224.add ((x9_1).toNat * 10)).off + 3,none⟩ = some (.string ((rd_T46 t218 x9_1).f0.f2)) ∧ w'.cell? ⟨(ad224.add ((x9_1).toNat * 10)).block,(ad224.add ((x9_1).toNat * 10)).off + 4,none⟩ = some (.bool ((rd_T46 t218 x9_1).f0.f3)) ∧ w'.cell? ⟨(ad224.add ((x9_1).toNat * 10)).block,(ad224.add ((x9_1).toNat * 10)).off + 5,none⟩ = some (.string ((rd_T46 t218 x9_1).f1.f0)) ∧ w'.cell? ⟨(ad224.add ((x9_1).toNat * 10)).block,(ad224.add ((x9_1).toNat * 10)).off + 6,none⟩ = some (.int .i64 ((rd_T46 t218 x9_1).f1.f1.f0)) ∧ w'.cell? ⟨(ad224.add ((x9_1).toNat * 10)).block,(ad224.add ((x9_1).toNat * 10)).off + 7,none⟩ = some (.int .i64 ((rd_T46 t218 x9_1).f1.f1.f1)) ∧ w'.cell? ⟨(ad224.add ((x9_1).toNat * 10)).block,(ad224.add ((x9_1).toNat * 10)).off + 8,none⟩ = some (.string ((rd_T46 t218 x9_1).f1.f2)) ∧ w'.cell? ⟨(ad224.add ((x9_1).toNat * 10)).block,(ad224.add ((x9_1).toNat * 10)).off + 9,none⟩ = some (.bool ((rd_T46 t218 x9_1).f1.f3))) (ds:=[14,15]) #[false,false,false,false,false,false,false,false,false,false,false,false,false,false,false,false,false] (by kernel_rfl) rfl rfl ⟨hx226_0,hx226_1,hx226_2,hx226_3,hx226_4,hx226_5,hx226_6,hx226_7,hx226_8,hx226_9,hx227_0,hx227_1,hx227_2,hx227_3,hx227_4,hx227_5,hx227_6,hx227_7,hx227_8,hx227_9⟩ (fun hHeld => ?_);refine with_tabW tidelineref09_Differ.tab10 tidelineref09_Differ.bits10 (fun HT_ HW_ => ?_)
          generalize w18.drew = w19 at HO_7 HO_8 HB hx226_0 hx226_1 hx226_2 hx226_3 hx226_4 hx226_5 hx226_6 hx226_7 hx226_8 hx226_9 hx227_0 hx227_1 hx227_2 hx227_3 hx227_4 hx227_5 hx227_6 hx227_7 hx227_8 hx227_9 hHeld ⊢
          refine pure_ (i:=0) (N:=some 39) (v:=?_) (a':=?_) #[true,false,false,false,false,false,false,false,false,false,false,false,false,false,false,false,false] rfl rfl (any_of HT_.out (by kernel_rfl)) (fun _ _ _ h => h) (Or.inl ⟨by rfl,?_⟩) ?_ ?_
          rotate_left
          ·intro w'
           go_simp
           with_reducible rfl
          rotate_left
          ·simp only [Act.put,List.setIfInBounds_toArray,List.set_cons_zero,List.set_cons_succ,i64_w,i32_w]
           rfl
          refine pure_ (i:=1) (N:=some 40) (v:=?_) (a':=?_) #[true,true,false,false,false,false,false,false,false,false,false,false,false,false,false,false,false] rfl rfl (any_of HT_.out (by kernel_rfl)) (fun _ _ _ h => h) (Or.inl ⟨by rfl,?_⟩) ?_ ?_
          rotate_left
          ·intro w'
           go_simp
           with_reducible rfl
          rotate_left
          ·simp only [Act.put,List.setIfInBounds_toArray,List.set_cons_zero,List.set_cons_succ,i64_w,i32_w]
           rfl
          refine pure_ (i:=2) (N:=some 41) (v:=?_) (a':=?_) #[true,true,true,false,false,false,false,false,false,false,false,false,false,false,false,false,false] rfl rfl (any_of HT_.out (by kernel_rfl)) (fun _ _ _ h => h) (Or.inl ⟨by rfl,?_⟩) ?_ ?_
          rotate_left
          ·intro w'
           go_simp
           with_reducible rfl
          rotate_left
          ·simp only [Act.put,List.setIfInBounds_toArray,List.set_cons_zero,List.set_cons_succ,i64_w,i32_w]
           rfl
          refine pure_ (i:=3) (N:=some 42) (v:=?_) (a':=?_) #[true,true,true,true,false,false,false,false,false,false,false,false,false,false,false,false,false] rfl rfl (any_of HT_.out (by kernel_rfl)) (fun _ _ _ h => h) (Or.inl ⟨by rfl,?_⟩) ?_ ?_
          rotate_left
          ·intro w'
           go_simp
           with_reducible rfl
          rotate_left
          ·simp only [Act.put,List.setIfInBounds_toArray,List.set_cons_zero,List.set_cons_succ,i64_w,i32_w]
           rfl
          refine pure_ (i:=4) (N:=some 43) (v:=?_) (a':=?_) #[true,true,true,true,true,false,false,false,false,false,false,false,false,false,false,false,false] rfl rfl (any_of HT_.out (by kernel_rfl)) (fun _ _ _ h => h) (Or.inl ⟨by rfl,?_⟩) ?_ ?_
          rotate_left
          ·intro w'
           go_simp
           with_reducible rfl
          rotate_left
          ·simp only [Act.put,List.setIfInBounds_toArray,List.set_cons_zero,List.set_cons_succ,i64_w,i32_w]
           rfl
          refine pure_ (i:=5) (N:=some 44) (v:=?_) (a':=?_) #[true,true,true,true,true,true,false,false,false,false,false,false,false,false,false,false,false] rfl rfl (any_of HT_.out (by kernel_rfl)) (fun _ _ _ h => h) (Or.inl ⟨by rfl,?_⟩) ?_ ?_
          rotate_left
          ·intro w'
           go_simp
           with_reducible rfl
          rotate_left
          ·simp only [Act.put,List.setIfInBounds_toArray,List.set_cons_zero,List.set_cons_succ,i64_w,i32_w]
           rfl
          refine pure_ (i:=7) (N:=some 46) (v:=?_) (a':=?_) #[true,true,true,true,true,true,false,true,false,false,false,false,false,false,false,false,false] rfl rfl (any_of HT_.out (by kernel_rfl)) (fun _ _ _ h => h) (Or.inl ⟨by rfl,?_⟩) ?_ ?_
          rotate_left
          ·intro w'
           go_simp
           with_reducible rfl
          rotate_left
          ·simp only [Act.put,List.setIfInBounds_toArray,List.set_cons_zero,List.set_cons_succ,i64_w,i32_w]
           rfl
          refine pure_ (i:=8) (N:=some 47) (v:=?_) (a':=?_) #[true,true,true,true,true,true,false,true,true,false,false,false,false,false,false,false,false] rfl rfl (any_of HT_.out (by kernel_rfl)) (fun _ _ _ h => h) (Or.inl ⟨by rfl,?_⟩) ?_ ?_
          rotate_left
          ·intro w'
           go_simp
           with_reducible rfl
          rotate_left
          ·simp only [Act.put,List.setIfInBounds_toArray,List.set_cons_zero,List.set_cons_succ,i64_w,i32_w]
           rfl
          refine pure_ (i:=9) (N:=some 48) (v:=?_) (a':=?_) #[true,true,true,true,true,true,false,true,true,true,false,false,false,false,false,false,false] rfl rfl (any_of HT_.out (by kernel_rfl)) (fun _ _ _ h => h) (Or.inl ⟨by rfl,?_⟩) ?_ ?_
          rotate_left
          ·intro w'
           go_simp
           with_reducible rfl
          rotate_left
          ·simp only [Act.put,List.setIfInBounds_toArray,List.set_cons_zero,List.set_cons_succ,i64_w,i32_w]
           rfl
          refine pure_ (i:=10) (N:=some 49) (v:=?_) (a':=?_) #[true,true,true,true,true,true,false,true,true,true,true,false,false,false,false,false,false] rfl rfl (any_of HT_.out (by kernel_rfl)) (fun _ _ _ h => h) (Or.inl ⟨by rfl,?_⟩) ?_ ?_
          rotate_left
          ·intro w'
           go_simp
           with_reducible rfl
          rotate_left
          ·simp only [Act.put,List.setIfInBounds_toArray,List.set_cons_zero,List.set_cons_succ,i64_w,i32_w]
           rfl
          refine pure_ (i:=11) (N:=some 50) (v:=?_) (a':=?_) #[true,true,true,true,true,true,false,true,true,true,true,true,false,false,false,false,false] rfl rfl (any_of HT_.out (by kernel_rfl)) (fun _ _ _ h => h) (Or.inl ⟨by rfl,?_⟩) ?_ ?_
          rotate_left
          ·intro w'
           go_simp
           with_reducible rfl
          rotate_left
          ·simp only [Act.put,List.setIfInBounds_toArray,List.set_cons_zero,List.set_cons_succ,i64_w,i32_w]
           rfl
          refine take_ (i:=6) (N:=some 45) (v:=?_) (a':=?_) #[true,true,true,true,true,true,true,true,true,true,true,true,false,false,false,false,false] rfl rfl (take_ofW HT_.out HW_.out (by kernel_rfl)) (fun _ _ _ h => h) (Or.inl ⟨by rfl,?_⟩) hHeld ?_ ?_
          rotate_left
          ·rintro w' ⟨s0,s1,s2,s3,s4,s5,s6,s7,s8,s9,s10,s11,s12,s13,s14,s15,s16,s17,s18,s19⟩
           go_simp
           with_reducible rfl
          rotate_left
          ·simp only [Act.put,List.setIfInBounds_toArray,List.set_cons_zero,List.set_cons_succ,i64_w,i32_w]
           rfl
          refine take_ (i:=12) (N:=some 51) (v:=?_) (a':=?_) #[true,true,true,true,true,true,true,true,true,true,true,true,true,false,false,false,false] rfl rfl (take_ofW HT_.out HW_.out (by kernel_rfl)) (fun _ _ _ h => h) (Or.inl ⟨by rfl,?_⟩) hHeld ?_ ?_
          rotate_left
          ·rintro w' ⟨s0,s1,s2,s3,s4,s5,s6,s7,s8,s9,s10,s11,s12,s13,s14,s15,s16,s17,s18,s19⟩
           go_simp
           with_reducible rfl
          rotate_left
          ·simp only [Act.put,List.setIfInBounds_toArray,List.set_cons_zero,List.set_cons_succ,i64_w,i32_w]
           rfl
          refine pure_ (i:=13) (N:=some 52) (v:=?_) (a':=?_) #[true,true,true,true,true,true,true,true,true,true,true,true,true,true,false,false,false] rfl rfl (any_of HT_.out (by kernel_rfl)) (fun _ _ _ h => h) (Or.inl ⟨by rfl,?_⟩) ?_ ?_
          rotate_left
          ·intro w'
           go_simp
           with_reducible rfl
          rotate_left
          ·simp only [Act.put,List.setIfInBounds_toArray,List.set_cons_zero,List.set_cons_succ,i64_w,i32_w]
           rfl
          refine last_ (i:=14) (N:=some 53) #[true,true,true,true,true,true,true,true,true,true,true,true,true,true,true,false,false] rfl rfl (one_of HT_.out (by kernel_rfl)) (by decide) (fun K hK => ?_)
          refine value_ (w1:=?_) (v:=?_) (by rfl) rfl ?_ ?_
          rotate_left 2
          ·go_simp
           constructor
           ·rfl
           ·rfl
          refine hK.out _ _ ?_
          clear hK K
          refine norm_ (a':=?_) ?_ ?_
          rotate_left
          ·show Act.put _ (some 53) _ = _
           simp only [Act.put,List.setIfInBounds_toArray,List.set_cons_zero,List.set_cons_succ,i64_w,i32_w]
           rfl
          refine last_ (i:=15) (N:=some 54) #[true,true,true,true,true,true,true,true,true,true,true,true,true,true,true,true,false] rfl rfl (one_of HT_.out (by kernel_rfl)) (by decide) (fun K hK => ?_)
          refine Kd.R_append_step Kd.string (w0:=w) w.heap.size (by rfl) (.tmp 39) (.tmp 53) 53 9 (.string ⟨#[]⟩) 16 rfl Try.underlying53 info9 rfl (by decide) (by omega) u8 x8_1 (((rd_T46 t218 x9_1).f0.f0) ++ ((rd_T46 t218 x9_1).f1.f0)) [.string (((rd_T46 t218 x9_1).f0.f0) ++ ((rd_T46 t218 x9_1).f1.f0))] (fun _ => True) (fun _ => False) rfl rfl ?aP (fun _ hk => hk.elim) ?aF ?aO ?aB ?aS ?aL ?_
          (case aP => exact rfl)
          (case aB => exact (by repeat (first|(with_reducible first|exact HB.out|apply xA|apply xN|apply xD)|exact HB.out)))
          (case aF => exact (fun _ _ => trivial))
          (case aO => exact (by (with_reducible repeat (first|apply Kd.R_alloc|apply Kd.R_drewN|apply Kd.R_drew));exact HO_8.out))
          (case aS => exact (below_size (by repeat (first|(with_reducible first|exact HB.out|apply xA|apply xN|apply xD)|exact HB.out))))
          (case aL => have:=LMc14.out;omega)
          intro v229 w20 ho hb hg hat
          rw [← Ny228.out] at ho
          have n0_:=Aside0.mk (Kd.R_over' (by (with_reducible repeat (first|apply Kd.R_alloc|apply Kd.R_drewN|apply Kd.R_drew));exact HO_7.out) (Kd.R_typed (by (with_reducible repeat (first|apply Kd.R_alloc|apply Kd.R_drewN|apply Kd.R_drew));exact HO_8.out)) (by decide) hg)
          have n1_:=Aside0.mk (hb)
          have n2_:=Aside0.mk (ho)
          clear HO_7 HB HO_8
          have HO_7:=n0_
          have HB:=n1_
          have HO230:=n2_
          clear n0_ n1_ n2_
          clear ho hb hg hat
          refine hK.out _ _ ?_
          clear hK K
          refine norm_ (a':=?_) ?_ ?_
          rotate_left
          ·show Act.put _ (some 54) _ = _
           simp only [Act.put,List.setIfInBounds_toArray,List.set_cons_zero,List.set_cons_succ,i64_w,i32_w]
           rfl
          refine pure_ (i:=16) (N:=some 8) (v:=?_) (a':=?_) #[true,true,true,true,true,true,true,true,true,true,true,true,true,true,true,true,true] rfl rfl (any_of HT_.out (by kernel_rfl)) (fun _ _ _ h => h) (Or.inl ⟨by rfl,?_⟩) ?_ ?_
          rotate_left
          ·intro w'
           go_simp
           with_reducible rfl
          rotate_left
          ·simp only [Act.put,List.setIfInBounds_toArray,List.set_cons_zero,List.set_cons_succ,i64_w,i32_w]
           rfl
          refine done_ (done_of HT_.out (by kernel_rfl)) ?_
          have p231 : 0 ≤ (x9_1 : Int):=of_decide_eq_true (by first|(with_reducible assumption)|assumption)
          have q231 : x9_1 < (t218.length : Int):=of_decide_eq_true (by first|(with_reducible assumption)|assumption)
          obtain ⟨ad231,e231,hx231_0,hx231_1,hx231_2,hx231_3,hx231_4,hx231_5,hx231_6,hx231_7,hx231_8,hx231_9⟩:=at_T46 (Kd.R_reads' HO_7.out).2.2 x9_1 p231 q231
          obtain rfl : ad224 = ad231:=(by injection e231)
          replace p231:=eq_true p231
          replace q231:=eq_true q231
          try go_wp2_with (first|((with_reducible refine gate_callee (f:=47) rfl ?_);refine goesL_ (some 60) rfl rfl Try.func47 (by kernel_rfl) rfl #[.agg #[.string ((rd_T46 t218 x9_1).f0.f0),.int .i64 ((rd_T46 t218 x9_1).f0.f1.f0),.int .i64 ((rd_T46 t218 x9_1).f0.f1.f1),.string ((rd_T46 t218 x9_1).f0.f2),.bool ((rd_T46 t218 x9_1).f0.f3)]] rfl (by (try simp only [List.map_toArray,List.map_cons,List.map_nil]);first|done|rfl|(simp only [List.length_drop,List.length_take];rfl)) ?_;(with_reducible refine (tidelineref09_none.calls ((rd_T46 t218 x9_1).f0.f0) ((rd_T46 t218 x9_1).f0.f1.f0) ((rd_T46 t218 x9_1).f0.f1.f1) ((rd_T46 t218 x9_1).f0.f2) ((rd_T46 t218 x9_1).f0.f3) true _ A15.out).mono ?_);rintro e w21 ⟨rfl,hb⟩;refine ⟨_,rfl,?_⟩;replace HO_7:=Aside0.mk (Kd.R_below (by (with_reducible repeat (first|apply Kd.R_alloc|apply Kd.R_drewN|apply Kd.R_drew));exact HO_7.out) hb);replace HO230:=Aside0.mk (Kd.R_below (by (with_reducible repeat (first|apply Kd.R_alloc|apply Kd.R_drewN|apply Kd.R_drew));exact HO230.out) hb);replace HB:=Aside0.mk (below_step (by repeat (first|(with_reducible first|exact HB.out|apply xA|apply xN|apply xD)|exact HB.out)) hb);(try clear hb);(try clear hb2);(try clear hk);(try clear hi)))
          go_roundg k1
          case measure => have:=HK1.out;omega
          case rel => exact ⟨(y228),(wrap64 (x9_1 + 1)),(by first|rfl|(simp;done)|(simp [*];done)|(simp [*,Go.Proofs.Ytghlellambnkeaa.Str.bne_nil];done)),H',⟨by have:=HK1.out;omega⟩,⟨by (with_reducible repeat (first|apply Kd.R_alloc|apply Kd.R_drewN|apply Kd.R_drew));exact HO_7.out⟩,⟨by (with_reducible repeat (first|apply Kd.R_alloc|apply Kd.R_drewN|apply Kd.R_drew));exact HO230.out⟩,⟨by repeat (first|(with_reducible first|exact HB.out|apply xA|apply xN|apply xD)|exact HB.out)⟩⟩
         ·replace c16:=Bool.eq_false_iff.mpr c16
          subst c16
          have H1 : ((tidelineref09_none.f ((rd_T46 t218 x9_1).f1.f0) ((rd_T46 t218 x9_1).f1.f1.f0) ((rd_T46 t218 x9_1).f1.f1.f1) ((rd_T46 t218 x9_1).f1.f2) ((rd_T46 t218 x9_1).f1.f3)).bind fun t234 => (if t234 = true then (tidelineref09_Differ.l0 k1 t218 y228 (wrap64 (x9_1 + 1))) else (if 0 ≤ (wrap64 ((y228.length : Int) - 1)) then (if (wrap64 ((y228.length : Int) - 1)) < (y228.length : Int) then (tidelineref09_Differ.l0 k1 t218 (y228.set ((wrap64 ((y228.length : Int) - 1)) : Int).toNat ((rd_T46 t218 x9_1).f0.f0)) (wrap64 (x9_1 + 1))) else (none)) else (none)))) = some (r1,r2):=by rw [if_neg (show ¬ (false = true) by decide)] at H;exact H
          clear H
          have H:=H1
          clear H1
          replace H:=Option.bind_eq_some_iff.mp H
          obtain ⟨t234,A220,H⟩:=H
          replace H : (if t234 = true then (tidelineref09_Differ.l0 k1 t218 y228 (wrap64 (x9_1 + 1))) else (if 0 ≤ (wrap64 ((y228.length : Int) - 1)) then (if (wrap64 ((y228.length : Int) - 1)) < (y228.length : Int) then (tidelineref09_Differ.l0 k1 t218 (y228.set ((wrap64 ((y228.length : Int) - 1)) : Int).toNat ((rd_T46 t218 x9_1).f0.f0)) (wrap64 (x9_1 + 1))) else (none)) else (none))) = some (r1,r2):=H
          have A22:=Aside0.mk A220
          clear A220
          by_cases c23 : t234 = true
          ·subst c23
           have H1 : (tidelineref09_Differ.l0 k1 t218 y228 (wrap64 (x9_1 + 1))) = some (r1,r2):=by rw [if_pos rfl] at H;exact H
           clear H
           have H:=H1
           clear H1
           have H':=Aside0.mk H
           clear H
           obtain ⟨Ao24,co24,eo24⟩:=Kd.R_slice HO_7.out
           subst eo24
           try go_wp2
           replace HO_7:=Aside0.mk (Kd.R_drew HO_7.out)
           replace HO_8:=Aside0.mk (Kd.R_drew HO_8.out)
           replace HB:=Aside0.mk (below_drew1 HB.out)
           have p224 : 0 ≤ (x9_1 : Int):=of_decide_eq_true (by first|(with_reducible assumption)|assumption)
           have q224 : x9_1 < (t218.length : Int):=of_decide_eq_true (by first|(with_reducible assumption)|assumption)
           obtain ⟨ad224,e224,hx224_0,hx224_1,hx224_2,hx224_3,hx224_4,hx224_5,hx224_6,hx224_7,hx224_8,hx224_9⟩:=at_T46 (Kd.R_reads' HO_7.out).2.2 x9_1 p224 q224
           cases e224
           replace p224:=eq_true p224
           replace q224:=eq_true q224
           have p225 : 0 ≤ (x9_1 : Int):=of_decide_eq_true (by first|(with_reducible assumption)|assumption)
           have q225 : x9_1 < (t218.length : Int):=of_decide_eq_true (by first|(with_reducible assumption)|assumption)
           obtain ⟨ad225,e225,hx225_0,hx225_1,hx225_2,hx225_3,hx225_4,hx225_5,hx225_6,hx225_7,hx225_8,hx225_9⟩:=at_T46 (Kd.R_reads' HO_7.out).2.2 x9_1 p225 q225
           obtain rfl : ad224 = ad225:=(by injection e225)
           replace p225:=eq_true p225
           replace q225:=eq_true q225
           refine start_ (n:=13) (S:=fun w' => w'.cell? (ad224.add ((x9_1).toNat * 10)) = some (.string ((rd_T46 t218 x9_1).f0.f0)) ∧ w'.cell? ⟨(ad224.add ((x9_1).toNat * 10)).block,(ad224.add ((x9_1).toNat * 10)).off + 1,none⟩ = some (.int .i64 ((rd_T46 t218 x9_1).f0.f1.f0)) ∧ w'.cell? ⟨(ad224.add ((x9_1).toNat * 10)).block,(ad224.add ((x9_1).toNat * 10)).off + 2,none⟩ = some (.int .i64 ((rd_T46 t218 x9_1).f0.f1.f1)) ∧ w'.cell? ⟨(ad224.add ((x9_1).toNat * 10)).block,(ad224.add ((x9_1).toNat * 10)).off + 3,none⟩ = some (.string ((rd_T46 t218 x9_1).f0.f2)) ∧ w'.cell? ⟨(ad224.add ((x9_1).toNat * 10)).block,(ad224.add ((x9_1).toNat * 10)).off + 4,none⟩ = some (.bool ((rd_T46 t218 x9_1).f0.f3)) ∧ w'.cell? ⟨(ad224.add ((x9_1).toNat * 10)).block,(ad224.add ((x9_1).toNat * 10)).off + 5,none⟩ = some (.string ((rd_T46 t218 x9_1).f1.f0)) ∧ w'.cell? ⟨(ad224.add ((x9_1).toNat * 10)).block,(ad224.add ((x9_1).toNat * 10)).off + 6,none⟩ = some (.int .i64 ((rd_T46 t218 x9_1).f1.f1.f0)) ∧ w'.cell? ⟨(ad224.add ((x9_1).toNat * 10)).block,(ad224.add ((x9_1).toNat * 10)).off + 7,none⟩ = some (.int .i64 ((rd_T46 t218 x9_1).f1.f1.f1)) ∧ w'.cell? ⟨(ad224.add ((x9_1).toNat * 10)).block,(ad224.add ((x9_1).toNat * 10)).off + 8,none⟩ = some (.string ((rd_T46 t218 x9_1).f1.f2)) ∧ w'.cell? ⟨(ad224.add ((x9_1).toNat * 10)).block,(ad224.add ((x9_1).toNat * 10)).off + 9,none⟩ = some (.bool ((rd_T46 t218 x9_1).f1.f3)) ∧ w'.cell? (ad224.add ((x9_1).toNat * 10)) = some (.string ((rd_T46 t218 x9_1).f0.f0)) ∧ w'.cell? ⟨(ad224.add ((x9_1).toNat * 10)).block,(ad224.add ((x9_1).toNat * 10)).off + 1,none⟩ = some (.int .i64 ((rd_T46 t218 x9_1).f0.f1.f0)) ∧ w'.cell? ⟨(ad224.add ((x9_1).toNat * 10)).block,(ad224.add ((x9_1).toNat * 10)).off + 2,none⟩ = some (.int .i64 ((rd_T46 t218 x9_1).f0.f1.f1)) ∧ w'.cell? ⟨(ad224.add ((x9_1).toNat * 10)).block,(ad224.add ((x9_1).toNat * 10)).off + 3,none⟩ = some (.string ((rd_T46 t218 x9_1).f0.f2)) ∧ w'.cell? ⟨(ad224.add ((x9_1).toNat * 10)).block,(ad224.add ((x9_1).toNat * 10)).off + 4,none⟩ = some (.bool ((rd_T46 t218 x9_1).f0.f3)) ∧ w'.cell? ⟨(ad224.add ((x9_1).toNat * 10)).block,(ad224.add ((x9_1).toNat * 10)).off + 5,none⟩ = some (.string ((rd_T46 t218 x9_1).f1.f0)) ∧ w'.cell? ⟨(ad224.add ((x9_1).toNat * 10)).block,(ad224.add ((x9_1).toNat * 10)).off + 6,none⟩ = some (.int .i64 ((rd_T46 t218 x9_1).f1.f1.f0)) ∧ w'.cell? ⟨(ad224.add ((x9_1).toNat * 10)).block,(ad224.add ((x9_1).toNat * 10)).off + 7,none⟩ = some (.int .i64 ((rd_T46 t218 x9_1).f1.f1.f1)) ∧ w'.cell? ⟨(ad224.add ((x9_1).toNat * 10)).block,(ad224.add ((x9_1).toNat * 10)).off + 8,none⟩ = some (.string ((rd_T46 t218 x9_1).f1.f2)) ∧ w'.cell? ⟨(ad224.add ((x9_1).toNat * 10)).block,(ad224.add ((x9_1).toNat * 10)).off + 9,none⟩ = some (.bool ((rd_T46 t218 x9_1).f1.f3))) (ds:=[]) #[false,false,false,false,false,false,false,false,false,false,false,false,false] (by kernel_rfl) rfl rfl ⟨hx224_0,hx224_1,hx224_2,hx224_3,hx224_4,hx224_5,hx224_6,hx224_7,hx224_8,hx224_9,hx225_0,hx225_1,hx225_2,hx225_3,hx225_4,hx225_5,hx225_6,hx225_7,hx225_8,hx225_9⟩ (fun hHeld => ?_);refine with_tabW tidelineref09_Differ.tab9 tidelineref09_Differ.bits9 (fun HT_ HW_ => ?_)
           generalize wr.drew = w25 at HO_7 HO_8 HB hx224_0 hx224_1 hx224_2 hx224_3 hx224_4 hx224_5 hx224_6 hx224_7 hx224_8 hx224_9 hx225_0 hx225_1 hx225_2 hx225_3 hx225_4 hx225_5 hx225_6 hx225_7 hx225_8 hx225_9 hHeld ⊢
           refine pure_ (i:=0) (N:=some 26) (v:=?_) (a':=?_) #[true,false,false,false,false,false,false,false,false,false,false,false,false] rfl rfl (any_of HT_.out (by kernel_rfl)) (fun _ _ _ h => h) (Or.inl ⟨by rfl,?_⟩) ?_ ?_
           rotate_left
           ·intro w'
            go_simp
            with_reducible rfl
           rotate_left
           ·simp only [Act.put,List.setIfInBounds_toArray,List.set_cons_zero,List.set_cons_succ,i64_w,i32_w]
            rfl
           refine pure_ (i:=1) (N:=some 27) (v:=?_) (a':=?_) #[true,true,false,false,false,false,false,false,false,false,false,false,false] rfl rfl (any_of HT_.out (by kernel_rfl)) (fun _ _ _ h => h) (Or.inl ⟨by rfl,?_⟩) ?_ ?_
           rotate_left
           ·intro w'
            go_simp
            with_reducible rfl
           rotate_left
           ·simp only [Act.put,List.setIfInBounds_toArray,List.set_cons_zero,List.set_cons_succ,i64_w,i32_w]
            rfl
           refine pure_ (i:=2) (N:=some 28) (v:=?_) (a':=?_) #[true,true,true,false,false,false,false,false,false,false,false,false,false] rfl rfl (any_of HT_.out (by kernel_rfl)) (fun _ _ _ h => h) (Or.inl ⟨by rfl,?_⟩) ?_ ?_
           rotate_left
           ·intro w'
            go_simp
            with_reducible rfl
           rotate_left
           ·simp only [Act.put,List.setIfInBounds_toArray,List.set_cons_zero,List.set_cons_succ,i64_w,i32_w]
            rfl
           refine pure_ (i:=3) (N:=some 29) (v:=?_) (a':=?_) #[true,true,true,true,false,false,false,false,false,false,false,false,false] rfl rfl (any_of HT_.out (by kernel_rfl)) (fun _ _ _ h => h) (Or.inl ⟨by rfl,?_⟩) ?_ ?_
           rotate_left
           ·intro w'
            go_simp
            with_reducible rfl
           rotate_left
           ·simp only [Act.put,List.setIfInBounds_toArray,List.set_cons_zero,List.set_cons_succ,i64_w,i32_w]
            rfl
           refine pure_ (i:=4) (N:=some 30) (v:=?_) (a':=?_) #[true,true,true,true,true,false,false,false,false,false,false,false,false] rfl rfl (any_of HT_.out (by kernel_rfl)) (fun _ _ _ h => h) (Or.inl ⟨by rfl,?_⟩) ?_ ?_
           rotate_left
           ·intro w'
            go_simp
            with_reducible rfl
           rotate_left
           ·simp only [Act.put,List.setIfInBounds_toArray,List.set_cons_zero,List.set_cons_succ,i64_w,i32_w]
            rfl
           refine pure_ (i:=6) (N:=some 32) (v:=?_) (a':=?_) #[true,true,true,true,true,false,true,false,false,false,false,false,false] rfl rfl (any_of HT_.out (by kernel_rfl)) (fun _ _ _ h => h) (Or.inl ⟨by rfl,?_⟩) ?_ ?_
           rotate_left
           ·intro w'
            go_simp
            with_reducible rfl
           rotate_left
           ·simp only [Act.put,List.setIfInBounds_toArray,List.set_cons_zero,List.set_cons_succ,i64_w,i32_w]
            rfl
           refine pure_ (i:=7) (N:=some 33) (v:=?_) (a':=?_) #[true,true,true,true,true,false,true,true,false,false,false,false,false] rfl rfl (any_of HT_.out (by kernel_rfl)) (fun _ _ _ h => h) (Or.inl ⟨by rfl,?_⟩) ?_ ?_
           rotate_left
           ·intro w'
            go_simp
            with_reducible rfl
           rotate_left
           ·simp only [Act.put,List.setIfInBounds_toArray,List.set_cons_zero,List.set_cons_succ,i64_w,i32_w]
            rfl
           refine pure_ (i:=8) (N:=some 34) (v:=?_) (a':=?_) #[true,true,true,true,true,false,true,true,true,false,false,false,false] rfl rfl (any_of HT_.out (by kernel_rfl)) (fun _ _ _ h => h) (Or.inl ⟨by rfl,?_⟩) ?_ ?_
           rotate_left
           ·intro w'
            go_simp
            with_reducible rfl
           rotate_left
           ·simp only [Act.put,List.setIfInBounds_toArray,List.set_cons_zero,List.set_cons_succ,i64_w,i32_w]
            rfl
           refine pure_ (i:=9) (N:=some 35) (v:=?_) (a':=?_) #[true,true,true,true,true,false,true,true,true,true,false,false,false] rfl rfl (any_of HT_.out (by kernel_rfl)) (fun _ _ _ h => h) (Or.inl ⟨by rfl,?_⟩) ?_ ?_
           rotate_left
           ·intro w'
            go_simp
            with_reducible rfl
           rotate_left
           ·simp only [Act.put,List.setIfInBounds_toArray,List.set_cons_zero,List.set_cons_succ,i64_w,i32_w]
            rfl
           refine pure_ (i:=10) (N:=some 36) (v:=?_) (a':=?_) #[true,true,true,true,true,false,true,true,true,true,true,false,false] rfl rfl (any_of HT_.out (by kernel_rfl)) (fun _ _ _ h => h) (Or.inl ⟨by rfl,?_⟩) ?_ ?_
           rotate_left
           ·intro w'
            go_simp
            with_reducible rfl
           rotate_left
           ·simp only [Act.put,List.setIfInBounds_toArray,List.set_cons_zero,List.set_cons_succ,i64_w,i32_w]
            rfl
           refine take_ (i:=5) (N:=some 31) (v:=?_) (a':=?_) #[true,true,true,true,true,true,true,true,true,true,true,false,false] rfl rfl (take_ofW HT_.out HW_.out (by kernel_rfl)) (fun _ _ _ h => h) (Or.inl ⟨by rfl,?_⟩) hHeld ?_ ?_
           rotate_left
           ·rintro w' ⟨s0,s1,s2,s3,s4,s5,s6,s7,s8,s9,s10,s11,s12,s13,s14,s15,s16,s17,s18,s19⟩
            go_simp
            with_reducible rfl
           rotate_left
           ·simp only [Act.put,List.setIfInBounds_toArray,List.set_cons_zero,List.set_cons_succ,i64_w,i32_w]
            rfl
           refine take_ (i:=11) (N:=some 37) (v:=?_) (a':=?_) #[true,true,true,true,true,true,true,true,true,true,true,true,false] rfl rfl (take_ofW HT_.out HW_.out (by kernel_rfl)) (fun _ _ _ h => h) (Or.inl ⟨by rfl,?_⟩) hHeld ?_ ?_
           rotate_left
           ·rintro w' ⟨s0,s1,s2,s3,s4,s5,s6,s7,s8,s9,s10,s11,s12,s13,s14,s15,s16,s17,s18,s19⟩
            go_simp
            with_reducible rfl
           rotate_left
           ·simp only [Act.put,List.setIfInBounds_toArray,List.set_cons_zero,List.set_cons_succ,i64_w,i32_w]
            rfl
           refine pure_ (i:=12) (N:=some 38) (v:=?_) (a':=?_) #[true,true,true,true,true,true,true,true,true,true,true,true,true] rfl rfl (any_of HT_.out (by kernel_rfl)) (fun _ _ _ h => h) (Or.inl ⟨by rfl,?_⟩) ?_ ?_
           rotate_left
           ·intro w'
            go_simp
            with_reducible rfl
           rotate_left
           ·simp only [Act.put,List.setIfInBounds_toArray,List.set_cons_zero,List.set_cons_succ,i64_w,i32_w]
            rfl
           refine done_ (done_of HT_.out (by kernel_rfl)) ?_
           try go_wp2
           replace HO_7:=Aside0.mk (Kd.R_drew HO_7.out)
           replace HO_8:=Aside0.mk (Kd.R_drew HO_8.out)
           replace HB:=Aside0.mk (below_drew1 HB.out)
           have p226 : 0 ≤ (x9_1 : Int):=of_decide_eq_true (by first|(with_reducible assumption)|assumption)
           have q226 : x9_1 < (t218.length : Int):=of_decide_eq_true (by first|(with_reducible assumption)|assumption)
           obtain ⟨ad226,e226,hx226_0,hx226_1,hx226_2,hx226_3,hx226_4,hx226_5,hx226_6,hx226_7,hx226_8,hx226_9⟩:=at_T46 (Kd.R_reads' HO_7.out).2.2 x9_1 p226 q226
           obtain rfl : ad224 = ad226:=(by injection e226)
           replace p226:=eq_true p226
           replace q226:=eq_true q226
           have p227 : 0 ≤ (x9_1 : Int):=of_decide_eq_true (by first|(with_reducible assumption)|assumption)
           have q227 : x9_1 < (t218.length : Int):=of_decide_eq_true (by first|(with_reducible assumption)|assumption)
           obtain ⟨ad227,e227,hx227_0,hx227_1,hx227_2,hx227_3,hx227_4,hx227_5,hx227_6,hx227_7,hx227_8,hx227_9⟩:=at_T46 (Kd.R_reads' HO_7.out).2.2 x9_1 p227 q227
           obtain rfl : ad224 = ad227:=(by injection e227)
           replace p227:=eq_true p227
           replace q227:=eq_true q227
           refine start_ (n:=17) (S:=fun w' => w'.cell? (ad224.add ((x9_1).toNat * 10)) = some (.string ((rd_T46 t218 x9_1).f0.f0)) ∧ w'.cell? ⟨(ad224.add ((x9_1).toNat * 10)).block,(ad224.add ((x9_1).toNat * 10)).off + 1,none⟩ = some (.int .i64 ((rd_T46 t218 x9_1).f0.f1.f0)) ∧ w'.cell? ⟨(ad224.add ((x9_1).toNat * 10)).block,(ad224.add ((x9_1).toNat * 10)).off + 2,none⟩ = some (.int .i64 ((rd_T46 t218 x9_1).f0.f1.f1)) ∧ w'.cell? ⟨(ad224.add ((x9_1).toNat * 10)).block,(ad224.add ((x9_1).toNat * 10)).off + 3,none⟩ = some (.string ((rd_T46 t218 x9_1).f0.f2)) ∧ w'.cell? ⟨(ad224.add ((x9_1).toNat * 10)).block,(ad224.add ((x9_1).toNat * 10)).off + 4,none⟩ = some (.bool ((rd_T46 t218 x9_1).f0.f3)) ∧ w'.cell? ⟨(ad224.add ((x9_1).toNat * 10)).block,(ad224.add ((x9_1).toNat * 10)).off + 5,none⟩ = some (.string ((rd_T46 t218 x9_1).f1.f0)) ∧ w'.cell? ⟨(ad224.add ((x9_1).toNat * 10)).block,(ad224.add ((x9_1).toNat * 10)).off + 6,none⟩ = some (.int .i64 ((rd_T46 t218 x9_1).f1.f1.f0)) ∧ w'.cell? ⟨(ad224.add ((x9_1).toNat * 10)).block,(ad224.add ((x9_1).toNat * 10)).off + 7,none⟩ = some (.int .i64 ((rd_T46 t218 x9_1).f1.f1.f1)) ∧ w'.cell? ⟨(ad224.add ((x9_1).toNat * 10)).block,(ad224.add ((x9_1).toNat * 10)).off + 8,none⟩ = some (.string ((rd_T46 t218 x9_1).f1.f2)) ∧ w'.cell? ⟨(ad224.add ((x9_1).toNat * 10)).block,(ad224.add ((x9_1).toNat * 10)).off + 9,none⟩ = some (.bool ((rd_T46 t218 x9_1).f1.f3)) ∧ w'.cell? (ad224.add ((x9_1).toNat * 10)) = some (.string ((rd_T46 t218 x9_1).f0.f0)) ∧ w'.cell? ⟨(ad224.add ((x9_1).toNat * 10)).block,(ad224.add ((x9_1).toNat * 10)).off + 1,none⟩ = some (.int .i64 ((rd_T46 t218 x9_1).f0.f1.f0)) ∧ w'.cell? ⟨(ad224.add ((x9_1).toNat * 10)).block,(ad224.add ((x9_1).toNat * 10)).off + 2,none⟩ = some (.int .i64 ((rd_T46 t218 x9_1).f0.f1.f1)) ∧ w'.cell? ⟨(ad224.add ((x9_1).toNat * 10)).block,(ad224.add ((x9_1).toNat * 10)).off + 3,none⟩ = some (.string ((rd_T46 t218 x9_1).f0.f2)) ∧ w'.cell? ⟨(ad224.add ((x9_1).toNat * 10)).block,(ad224.add ((x9_1).toNat * 10)).off + 4,none⟩ = some (.bool ((rd_T46 t218 x9_1).f0.f3)) ∧ w'.cell? ⟨(ad224.add ((x9_1).toNat * 10)).block,(ad224.add ((x9_1).toNat * 10)).off + 5,none⟩ = some (.string ((rd_T46 t218 x9_1).f1.f0)) ∧ w'.cell? ⟨(ad224.add ((x9_1).toNat * 10)).block,(ad224.add ((x9_1).toNat * 10)).off + 6,none⟩ = some (.int .i64 ((rd_T46 t218 x9_1).f1.f1.f0)) ∧ w'.cell? ⟨(ad224.add ((x9_1).toNat * 10)).block,(ad224.add ((x9_1).toNat * 10)).off + 7,none⟩ = some (.int .i64 ((rd_T46 t218 x9_1).f1.f1.f1)) ∧ w'.cell? ⟨(ad224.add ((x9_1).toNat * 10)).block,(ad224.add ((x9_1).toNat * 10)).off + 8,none⟩ = some (.string ((rd_T46 t218 x9_1).f1.f2)) ∧ w'.cell? ⟨(ad224.add ((x9_1).toNat * 10)).block,(ad224.add ((x9_1).toNat * 10)).off + 9,none⟩ = some (.bool ((rd_T46 t218 x9_1).f1.f3))) (ds:=[14,15]) #[false,false,false,false,false,false,false,false,false,false,false,false,false,false,false,false,false] (by kernel_rfl) rfl rfl ⟨hx226_0,hx226_1,hx226_2,hx226_3,hx226_4,hx226_5,hx226_6,hx226_7,hx226_8,hx226_9,hx227_0,hx227_1,hx227_2,hx227_3,hx227_4,hx227_5,hx227_6,hx227_7,hx227_8,hx227_9⟩ (fun hHeld => ?_);refine with_tabW tidelineref09_Differ.tab10 tidelineref09_Differ.bits10 (fun HT_ HW_ => ?_)
           generalize w25.drew = w26 at HO_7 HO_8 HB hx226_0 hx226_1 hx226_2 hx226_3 hx226_4 hx226_5 hx226_6 hx226_7 hx226_8 hx226_9 hx227_0 hx227_1 hx227_2 hx227_3 hx227_4 hx227_5 hx227_6 hx227_7 hx227_8 hx227_9 hHeld ⊢
           refine pure_ (i:=0) (N:=some 39) (v:=?_) (a':=?_) #[true,false,false,false,false,false,false,false,false,false,false,false,false,false,false,false,false] rfl rfl (any_of HT_.out (by kernel_rfl)) (fun _ _ _ h => h) (Or.inl ⟨by rfl,?_⟩) ?_ ?_
           rotate_left
           ·intro w'
            go_simp
            with_reducible rfl
           rotate_left
           ·simp only [Act.put,List.setIfInBounds_toArray,List.set_cons_zero,List.set_cons_succ,i64_w,i32_w]
            rfl
           refine pure_ (i:=1) (N:=some 40) (v:=?_) (a':=?_) #[true,true,false,false,false,false,false,false,false,false,false,false,false,false,false,false,false] rfl rfl (any_of HT_.out (by kernel_rfl)) (fun _ _ _ h => h) (Or.inl ⟨by rfl,?_⟩) ?_ ?_
           rotate_left
           ·intro w'
            go_simp
            with_reducible rfl
           rotate_left
           ·simp only [Act.put,List.setIfInBounds_toArray,List.set_cons_zero,List.set_cons_succ,i64_w,i32_w]
            rfl
           refine pure_ (i:=2) (N:=some 41) (v:=?_) (a':=?_) #[true,true,true,false,false,false,false,false,false,false,false,false,false,false,false,false,false] rfl rfl (any_of HT_.out (by kernel_rfl)) (fun _ _ _ h => h) (Or.inl ⟨by rfl,?_⟩) ?_ ?_
           rotate_left
           ·intro w'
            go_simp
            with_reducible rfl
           rotate_left
           ·simp only [Act.put,List.setIfInBounds_toArray,List.set_cons_zero,List.set_cons_succ,i64_w,i32_w]
            rfl
           refine pure_ (i:=3) (N:=some 42) (v:=?_) (a':=?_) #[true,true,true,true,false,false,false,false,false,false,false,false,false,false,false,false,false] rfl rfl (any_of HT_.out (by kernel_rfl)) (fun _ _ _ h => h) (Or.inl ⟨by rfl,?_⟩) ?_ ?_
           rotate_left
           ·intro w'
            go_simp
            with_reducible rfl
           rotate_left
           ·simp only [Act.put,List.setIfInBounds_toArray,List.set_cons_zero,List.set_cons_succ,i64_w,i32_w]
            rfl
           refine pure_ (i:=4) (N:=some 43) (v:=?_) (a':=?_) #[true,true,true,true,true,false,false,false,false,false,false,false,false,false,false,false,false] rfl rfl (any_of HT_.out (by kernel_rfl)) (fun _ _ _ h => h) (Or.inl ⟨by rfl,?_⟩) ?_ ?_
           rotate_left
           ·intro w'
            go_simp
            with_reducible rfl
           rotate_left
           ·simp only [Act.put,List.setIfInBounds_toArray,List.set_cons_zero,List.set_cons_succ,i64_w,i32_w]
            rfl
           refine pure_ (i:=5) (N:=some 44) (v:=?_) (a':=?_) #[true,true,true,true,true,true,false,false,false,false,false,false,false,false,false,false,false] rfl rfl (any_of HT_.out (by kernel_rfl)) (fun _ _ _ h => h) (Or.inl ⟨by rfl,?_⟩) ?_ ?_
           rotate_left
           ·intro w'
            go_simp
            with_reducible rfl
           rotate_left
           ·simp only [Act.put,List.setIfInBounds_toArray,List.set_cons_zero,List.set_cons_succ,i64_w,i32_w]
            rfl
           refine pure_ (i:=7) (N:=some 46) (v:=?_) (a':=?_) #[true,true,true,true,true,true,false,true,false,false,false,false,false,false,false,false,false] rfl rfl (any_of HT_.out (by kernel_rfl)) (fun _ _ _ h => h) (Or.inl ⟨by rfl,?_⟩) ?_ ?_
           rotate_left
           ·intro w'
            go_simp
            with_reducible rfl
           rotate_left
           ·simp only [Act.put,List.setIfInBounds_toArray,List.set_cons_zero,List.set_cons_succ,i64_w,i32_w]
            rfl
           refine pure_ (i:=8) (N:=some 47) (v:=?_) (a':=?_) #[true,true,true,true,true,true,false,true,true,false,false,false,false,false,false,false,false] rfl rfl (any_of HT_.out (by kernel_rfl)) (fun _ _ _ h => h) (Or.inl ⟨by rfl,?_⟩) ?_ ?_
           rotate_left
           ·intro w'
            go_simp
            with_reducible rfl
           rotate_left
           ·simp only [Act.put,List.setIfInBounds_toArray,List.set_cons_zero,List.set_cons_succ,i64_w,i32_w]
            rfl
           refine pure_ (i:=9) (N:=some 48) (v:=?_) (a':=?_) #[true,true,true,true,true,true,false,true,true,true,false,false,false,false,false,false,false] rfl rfl (any_of HT_.out (by kernel_rfl)) (fun _ _ _ h => h) (Or.inl ⟨by rfl,?_⟩) ?_ ?_
           rotate_left
           ·intro w'
            go_simp
            with_reducible rfl
           rotate_left
           ·simp only [Act.put,List.setIfInBounds_toArray,List.set_cons_zero,List.set_cons_succ,i64_w,i32_w]
            rfl
           refine pure_ (i:=10) (N:=some 49) (v:=?_) (a':=?_) #[true,true,true,true,true,true,false,true,true,true,true,false,false,false,false,false,false] rfl rfl (any_of HT_.out (by kernel_rfl)) (fun _ _ _ h => h) (Or.inl ⟨by rfl,?_⟩) ?_ ?_
           rotate_left
           ·intro w'
            go_simp
            with_reducible rfl
           rotate_left
           ·simp only [Act.put,List.setIfInBounds_toArray,List.set_cons_zero,List.set_cons_succ,i64_w,i32_w]
            rfl
           refine pure_ (i:=11) (N:=some 50) (v:=?_) (a':=?_) #[true,true,true,true,true,true,false,true,true,true,true,true,false,false,false,false,false] rfl rfl (any_of HT_.out (by kernel_rfl)) (fun _ _ _ h => h) (Or.inl ⟨by rfl,?_⟩) ?_ ?_
           rotate_left
           ·intro w'
            go_simp
            with_reducible rfl
           rotate_left
           ·simp only [Act.put,List.setIfInBounds_toArray,List.set_cons_zero,List.set_cons_succ,i64_w,i32_w]
            rfl
           refine take_ (i:=6) (N:=some 45) (v:=?_) (a':=?_) #[true,true,true,true,true,true,true,true,true,true,true,true,false,false,false,false,false] rfl rfl (take_ofW HT_.out HW_.out (by kernel_rfl)) (fun _ _ _ h => h) (Or.inl ⟨by rfl,?_⟩) hHeld ?_ ?_
           rotate_left
           ·rintro w' ⟨s0,s1,s2,s3,s4,s5,s6,s7,s8,s9,s10,s11,s12,s13,s14,s15,s16,s17,s18,s19⟩
            go_simp
            with_reducible rfl
           rotate_left
           ·simp only [Act.put,List.setIfInBounds_toArray,List.set_cons_zero,List.set_cons_succ,i64_w,i32_w]
            rfl
           refine take_ (i:=12) (N:=some 51) (v:=?_) (a':=?_) #[true,true,true,true,true,true,true,true,true,true,true,true,true,false,false,false,false] rfl rfl (take_ofW HT_.out HW_.out (by kernel_rfl)) (fun _ _ _ h => h) (Or.inl ⟨by rfl,?_⟩) hHeld ?_ ?_
           rotate_left
           ·rintro w' ⟨s0,s1,s2,s3,s4,s5,s6,s7,s8,s9,s10,s11,s12,s13,s14,s15,s16,s17,s18,s19⟩
            go_simp
            with_reducible rfl
           rotate_left
           ·simp only [Act.put,List.setIfInBounds_toArray,List.set_cons_zero,List.set_cons_succ,i64_w,i32_w]
            rfl
           refine pure_ (i:=13) (N:=some 52) (v:=?_) (a':=?_) #[true,true,true,true,true,true,true,true,true,true,true,true,true,true,false,false,false] rfl rfl (any_of HT_.out (by kernel_rfl)) (fun _ _ _ h => h) (Or.inl ⟨by rfl,?_⟩) ?_ ?_
           rotate_left
           ·intro w'
            go_simp
            with_reducible rfl
           rotate_left
           ·simp only [Act.put,List.setIfInBounds_toArray,List.set_cons_zero,List.set_cons_succ,i64_w,i32_w]
            rfl
           refine last_ (i:=14) (N:=some 53) #[true,true,true,true,true,true,true,true,true,true,true,true,true,true,true,false,false] rfl rfl (one_of HT_.out (by kernel_rfl)) (by decide) (fun K hK => ?_)
           refine value_ (w1:=?_) (v:=?_) (by rfl) rfl ?_ ?_
           rotate_left 2
           ·go_simp
            constructor
            ·rfl
            ·rfl
           refine hK.out _ _ ?_
           clear hK K
           refine norm_ (a':=?_) ?_ ?_
           rotate_left
           ·show Act.put _ (some 53) _ = _
            simp only [Act.put,List.setIfInBounds_toArray,List.set_cons_zero,List.set_cons_succ,i64_w,i32_w]
            rfl
           refine last_ (i:=15) (N:=some 54) #[true,true,true,true,true,true,true,true,true,true,true,true,true,true,true,true,false] rfl rfl (one_of HT_.out (by kernel_rfl)) (by decide) (fun K hK => ?_)
           refine Kd.R_append_step Kd.string (w0:=w) w.heap.size (by rfl) (.tmp 39) (.tmp 53) 53 9 (.string ⟨#[]⟩) 16 rfl Try.underlying53 info9 rfl (by decide) (by omega) u8 x8_1 (((rd_T46 t218 x9_1).f0.f0) ++ ((rd_T46 t218 x9_1).f1.f0)) [.string (((rd_T46 t218 x9_1).f0.f0) ++ ((rd_T46 t218 x9_1).f1.f0))] (fun _ => True) (fun _ => False) rfl rfl ?aP (fun _ hk => hk.elim) ?aF ?aO ?aB ?aS ?aL ?_
           (case aP => exact rfl)
           (case aB => exact (by repeat (first|(with_reducible first|exact HB.out|apply xA|apply xN|apply xD)|exact HB.out)))
           (case aF => exact (fun _ _ => trivial))
           (case aO => exact (by (with_reducible repeat (first|apply Kd.R_alloc|apply Kd.R_drewN|apply Kd.R_drew));exact HO_8.out))
           (case aS => exact (below_size (by repeat (first|(with_reducible first|exact HB.out|apply xA|apply xN|apply xD)|exact HB.out))))
           (case aL => have:=LMc14.out;omega)
           intro v229 w27 ho hb hg hat
           rw [← Ny228.out] at ho
           have n0_:=Aside0.mk (Kd.R_over' (by (with_reducible repeat (first|apply Kd.R_alloc|apply Kd.R_drewN|apply Kd.R_drew));exact HO_7.out) (Kd.R_typed (by (with_reducible repeat (first|apply Kd.R_alloc|apply Kd.R_drewN|apply Kd.R_drew));exact HO_8.out)) (by decide) hg)
           have n1_:=Aside0.mk (hb)
           have n2_:=Aside0.mk (ho)
           clear HO_7 HB HO_8
           have HO_7:=n0_
           have HB:=n1_
           have HO230:=n2_
           clear n0_ n1_ n2_
           clear ho hb hg hat
           refine hK.out _ _ ?_
           clear hK K
           refine norm_ (a':=?_) ?_ ?_
           rotate_left
           ·show Act.put _ (some 54) _ = _
            simp only [Act.put,List.setIfInBounds_toArray,List.set_cons_zero,List.set_cons_succ,i64_w,i32_w]
            rfl
           refine pure_ (i:=16) (N:=some 8) (v:=?_) (a':=?_) #[true,true,true,true,true,true,true,true,true,true,true,true,true,true,true,true,true] rfl rfl (any_of HT_.out (by kernel_rfl)) (fun _ _ _ h => h) (Or.inl ⟨by rfl,?_⟩) ?_ ?_
           rotate_left
           ·intro w'
            go_simp
            with_reducible rfl
           rotate_left
           ·simp only [Act.put,List.setIfInBounds_toArray,List.set_cons_zero,List.set_cons_succ,i64_w,i32_w]
            rfl
           refine done_ (done_of HT_.out (by kernel_rfl)) ?_
           have p231 : 0 ≤ (x9_1 : Int):=of_decide_eq_true (by first|(with_reducible assumption)|assumption)
           have q231 : x9_1 < (t218.length : Int):=of_decide_eq_true (by first|(with_reducible assumption)|assumption)
           obtain ⟨ad231,e231,hx231_0,hx231_1,hx231_2,hx231_3,hx231_4,hx231_5,hx231_6,hx231_7,hx231_8,hx231_9⟩:=at_T46 (Kd.R_reads' HO_7.out).2.2 x9_1 p231 q231
           obtain rfl : ad224 = ad231:=(by injection e231)
           replace p231:=eq_true p231
           replace q231:=eq_true q231
           try go_wp2_with (first|((with_reducible refine gate_callee (f:=47) rfl ?_);refine goesL_ (some 60) rfl rfl Try.func47 (by kernel_rfl) rfl #[.agg #[.string ((rd_T46 t218 x9_1).f0.f0),.int .i64 ((rd_T46 t218 x9_1).f0.f1.f0),.int .i64 ((rd_T46 t218 x9_1).f0.f1.f1),.string ((rd_T46 t218 x9_1).f0.f2),.bool ((rd_T46 t218 x9_1).f0.f3)]] rfl (by (try simp only [List.map_toArray,List.map_cons,List.map_nil]);first|done|rfl|(simp only [List.length_drop,List.length_take];rfl)) ?_;(with_reducible refine (tidelineref09_none.calls ((rd_T46 t218 x9_1).f0.f0) ((rd_T46 t218 x9_1).f0.f1.f0) ((rd_T46 t218 x9_1).f0.f1.f1) ((rd_T46 t218 x9_1).f0.f2) ((rd_T46 t218 x9_1).f0.f3) false _ A15.out).mono ?_);rintro e w28 ⟨rfl,hb⟩;refine ⟨_,rfl,?_⟩;replace HO_7:=Aside0.mk (Kd.R_below (by (with_reducible repeat (first|apply Kd.R_alloc|apply Kd.R_drewN|apply Kd.R_drew));exact HO_7.out) hb);replace HO230:=Aside0.mk (Kd.R_below (by (with_reducible repeat (first|apply Kd.R_alloc|apply Kd.R_drewN|apply Kd.R_drew));exact HO230.out) hb);replace HB:=Aside0.mk (below_step (by repeat (first|(with_reducible first|exact HB.out|apply xA|apply xN|apply xD)|exact HB.out)) hb);(try clear hb);(try clear hb2);(try clear hk);(try clear hi);have p233 : 0 ≤ (x9_1 : Int):=of_decide_eq_true (by first|(with_reducible assumption)|assumption);have q233 : x9_1 < (t218.length : Int):=of_decide_eq_true (by first|(with_reducible assumption)|assumption);obtain ⟨ad233,e233,hx233_0,hx233_1,hx233_2,hx233_3,hx233_4,hx233_5,hx233_6,hx233_7,hx233_8,hx233_9⟩:=at_T46 (Kd.R_reads' HO_7.out).2.2 x9_1 p233 q233;obtain rfl : ad224 = ad233:=(by injection e233);replace p233:=eq_true p233;replace q233:=eq_true q233)|(go_at_call 47;(with_reducible refine (tidelineref09_none.calls ((rd_T46 t218 x9_1).f1.f0) ((rd_T46 t218 x9_1).f1.f1.f0) ((rd_T46 t218 x9_1).f1.f1.f1) ((rd_T46 t218 x9_1).f1.f2) ((rd_T46 t218 x9_1).f1.f3) true _ A22.out).mono ?_);rintro e w29 ⟨rfl,hb⟩;replace HO_7:=Aside0.mk (Kd.R_below (by (with_reducible repeat (first|apply Kd.R_alloc|apply Kd.R_drewN|apply Kd.R_drew));exact HO_7.out) hb);replace HO230:=Aside0.mk (Kd.R_below (by (with_reducible repeat (first|apply Kd.R_alloc|apply Kd.R_drewN|apply Kd.R_drew));exact HO230.out) hb);replace HB:=Aside0.mk (below_step (by repeat (first|(with_reducible first|exact HB.out|apply xA|apply xN|apply xD)|exact HB.out)) hb);(try clear hb);(try clear hb2);(try clear hk);(try clear hi)))
           go_roundg k1
           case measure => have:=HK1.out;omega
           case rel => exact ⟨(y228),(wrap64 (x9_1 + 1)),(by first|rfl|(simp;done)|(simp [*];done)|(simp [*,Go.Proofs.Ytghlellambnkeaa.Str.bne_nil];done)),H',⟨by have:=HK1.out;omega⟩,⟨by (with_reducible repeat (first|apply Kd.R_alloc|apply Kd.R_drewN|apply Kd.R_drew));exact HO_7.out⟩,⟨by (with_reducible repeat (first|apply Kd.R_alloc|apply Kd.R_drewN|apply Kd.R_drew));exact HO230.out⟩,⟨by repeat (first|(with_reducible first|exact HB.out|apply xA|apply xN|apply xD)|exact HB.out)⟩⟩
          ·replace c23:=Bool.eq_false_iff.mpr c23
           subst c23
           have H1 : (if 0 ≤ (wrap64 ((y228.length : Int) - 1)) then (if (wrap64 ((y228.length : Int) - 1)) < (y228.length : Int) then (tidelineref09_Differ.l0 k1 t218 (y228.set ((wrap64 ((y228.length : Int) - 1)) : Int).toNat ((rd_T46 t218 x9_1).f0.f0)) (wrap64 (x9_1 + 1))) else (none)) else (none)) = some (r1,r2):=by rw [if_neg (show ¬ (false = true) by decide)] at H;exact H
           clear H
           have H:=H1
           clear H1
           obtain ⟨ji30,hji30⟩ : ∃ j_ : Int,(wrap64 ((y228.length : Int) - 1)) = j_:=⟨_,rfl⟩
           replace H : (if 0 ≤ (ji30) then (if (ji30) < (y228.length : Int) then (tidelineref09_Differ.l0 k1 t218 (y228.set ((ji30) : Int).toNat ((rd_T46 t218 x9_1).f0.f0)) (wrap64 (x9_1 + 1))) else (none)) else (none)) = some (r1,r2):=by first|(rw [hji30] at H;exact H)|(simp only [hji30] at H ⊢;exact H)
           (try rw [hji30] at A15)
           (try rw [hji30] at A22)
           have hji30w : (IntKind.i64.wrap ((y228.length : Int) - 1)) = ji30:=(i64_w _).trans hji30
           by_cases c31 : 0 ≤ (ji30)
           ·rw [if_pos c31] at H
            have c31b0 : decide (0 ≤ (ji30)) = true:=decide_eq_true c31
            clear c31
            by_cases c32 : (ji30) < (y228.length : Int)
            ·rw [if_pos c32] at H
             have c32b0 : decide ((ji30) < (y228.length : Int)) = true:=decide_eq_true c32
             clear c32
             obtain ⟨y236,hy236⟩ : ∃ y_ : List ByteArray,y_ = (y228.set ((ji30) : Int).toNat ((rd_T46 t218 x9_1).f0.f0)):=⟨_,rfl⟩
             replace H : (tidelineref09_Differ.l0 k1 t218 y236 (wrap64 (x9_1 + 1))) = some (r1,r2):=by first|(rw [hy236];with_reducible exact H)|(have H2_:=(Option.bind_some _ _).symm.trans H;rw [hy236];with_reducible exact H2_)|(have H2_:=(Option.bind_some _ _).symm.trans H;with_reducible exact H2_)|with_reducible exact H|(rw [hy236];exact H)|exact H
             have Ny236:=Aside0.mk hy236
             clear hy236
             have H':=Aside0.mk H
             clear H
             obtain ⟨Ao34,co34,eo34⟩:=Kd.R_slice HO_7.out
             subst eo34
             try go_wp2
             replace HO_7:=Aside0.mk (Kd.R_drew HO_7.out)
             replace HO_8:=Aside0.mk (Kd.R_drew HO_8.out)
             replace HB:=Aside0.mk (below_drew1 HB.out)
             have p224 : 0 ≤ (x9_1 : Int):=of_decide_eq_true (by first|(with_reducible assumption)|assumption)
             have q224 : x9_1 < (t218.length : Int):=of_decide_eq_true (by first|(with_reducible assumption)|assumption)
             obtain ⟨ad224,e224,hx224_0,hx224_1,hx224_2,hx224_3,hx224_4,hx224_5,hx224_6,hx224_7,hx224_8,hx224_9⟩:=at_T46 (Kd.R_reads' HO_7.out).2.2 x9_1 p224 q224
             cases e224
             replace p224:=eq_true p224
             replace q224:=eq_true q224
             have p225 : 0 ≤ (x9_1 : Int):=of_decide_eq_true (by first|(with_reducible assumption)|assumption)
             have q225 : x9_1 < (t218.length : Int):=of_decide_eq_true (by first|(with_reducible assumption)|assumption)
             obtain ⟨ad225,e225,hx225_0,hx225_1,hx225_2,hx225_3,hx225_4,hx225_5,hx225_6,hx225_7,hx225_8,hx225_9⟩:=at_T46 (Kd.R_reads' HO_7.out).2.2 x9_1 p225 q225
             obtain rfl : ad224 = ad225:=(by injection e225)
             replace p225:=eq_true p225
             replace q225:=eq_true q225
             refine start_ (n:=13) (S:=fun w' => w'.cell? (ad224.add ((x9_1).toNat * 10)) = some (.string ((rd_T46 t218 x9_1).f0.f0)) ∧ w'.cell? ⟨(ad224.add ((x9_1).toNat * 10)).block,(ad224.add ((x9_1).toNat * 10)).off + 1,none⟩ = some (.int .i64 ((rd_T46 t218 x9_1).f0.f1.f0)) ∧ w'.cell? ⟨(ad224.add ((x9_1).toNat * 10)).block,(ad224.add ((x9_1).toNat * 10)).off + 2,none⟩ = some (.int .i64 ((rd_T46 t218 x9_1).f0.f1.f1)) ∧ w'.cell? ⟨(ad224.add ((x9_1).toNat * 10)).block,(ad224.add ((x9_1).toNat * 10)).off + 3,none⟩ = some (.string ((rd_T46 t218 x9_1).f0.f2)) ∧ w'.cell? ⟨(ad224.add ((x9_1).toNat * 10)).block,(ad224.add ((x9_1).toNat * 10)).off + 4,none⟩ = some (.bool ((rd_T46 t218 x9_1).f0.f3)) ∧ w'.cell? ⟨(ad224.add ((x9_1).toNat * 10)).block,(ad224.add ((x9_1).toNat * 10)).off + 5,none⟩ = some (.string ((rd_T46 t218 x9_1).f1.f0)) ∧ w'.cell? ⟨(ad224.add ((x9_1).toNat * 10)).block,(ad224.add ((x9_1).toNat * 10)).off + 6,none⟩ = some (.int .i64 ((rd_T46 t218 x9_1).f1.f1.f0)) ∧ w'.cell? ⟨(ad224.add ((x9_1).toNat * 10)).block,(ad224.add ((x9_1).toNat * 10)).off + 7,none⟩ = some (.int .i64 ((rd_T46 t218 x9_1).f1.f1.f1)) ∧ w'.cell? ⟨(ad224.add ((x9_1).toNat * 10)).block,(ad224.add ((x9_1).toNat * 10)).off + 8,none⟩ = some (.string ((rd_T46 t218 x9_1).f1.f2)) ∧ w'.cell? ⟨(ad224.add ((x9_1).toNat * 10)).block,(ad224.add ((x9_1).toNat * 10)).off + 9,none⟩ = some (.bool ((rd_T46 t218 x9_1).f1.f3)) ∧ w'.cell? (ad224.add ((x9_1).toNat * 10)) = some (.string ((rd_T46 t218 x9_1).f0.f0)) ∧ w'.cell? ⟨(ad224.add ((x9_1).toNat * 10)).block,(ad224.add ((x9_1).toNat * 10)).off + 1,none⟩ = some (.int .i64 ((rd_T46 t218 x9_1).f0.f1.f0)) ∧ w'.cell? ⟨(ad224.add ((x9_1).toNat * 10)).block,(ad224.add ((x9_1).toNat * 10)).off + 2,none⟩ = some (.int .i64 ((rd_T46 t218 x9_1).f0.f1.f1)) ∧ w'.cell? ⟨(ad224.add ((x9_1).toNat * 10)).block,(ad224.add ((x9_1).toNat * 10)).off + 3,none⟩ = some (.string ((rd_T46 t218 x9_1).f0.f2)) ∧ w'.cell? ⟨(ad224.add ((x9_1).toNat * 10)).block,(ad224.add ((x9_1).toNat * 10)).off + 4,none⟩ = some (.bool ((rd_T46 t218 x9_1).f0.f3)) ∧ w'.cell? ⟨(ad224.add ((x9_1).toNat * 10)).block,(ad224.add ((x9_1).toNat * 10)).off + 5,none⟩ = some (.string ((rd_T46 t218 x9_1).f1.f0)) ∧ w'.cell? ⟨(ad224.add ((x9_1).toNat * 10)).block,(ad224.add ((x9_1).toNat * 10)).off + 6,none⟩ = some (.int .i64 ((rd_T46 t218 x9_1).f1.f1.f0)) ∧ w'.cell? ⟨(ad224.add ((x9_1).toNat * 10)).block,(ad224.add ((x9_1).toNat * 10)).off + 7,none⟩ = some (.int .i64 ((rd_T46 t218 x9_1).f1.f1.f1)) ∧ w'.cell? ⟨(ad224.add ((x9_1).toNat * 10)).block,(ad224.add ((x9_1).toNat * 10)).off + 8,none⟩ = some (.string ((rd_T46 t218 x9_1).f1.f2)) ∧ w'.cell? ⟨(ad224.add ((x9_1).toNat * 10)).block,(ad224.add ((x9_1).toNat * 10)).off + 9,none⟩ = some (.bool ((rd_T46 t218 x9_1).f1.f3))) (ds:=[]) #[false,false,false,false,false,false,false,false,false,false,false,false,false] (by kernel_rfl) rfl rfl ⟨hx224_0,hx224_1,hx224_2,hx224_3,hx224_4,hx224_5,hx224_6,hx224_7,hx224_8,hx224_9,hx225_0,hx225_1,hx225_2,hx225_3,hx225_4,hx225_5,hx225_6,hx225_7,hx225_8,hx225_9⟩ (fun hHeld => ?_);refine with_tabW tidelineref09_Differ.tab9 tidelineref09_Differ.bits9 (fun HT_ HW_ => ?_)
             generalize wr.drew = w35 at HO_7 HO_8 HB hx224_0 hx224_1 hx224_2 hx224_3 hx224_4 hx224_5 hx224_6 hx224_7 hx224_8 hx224_9 hx225_0 hx225_1 hx225_2 hx225_3 hx225_4 hx225_5 hx225_6 hx225_7 hx225_8 hx225_9 hHeld ⊢
             refine pure_ (i:=0) (N:=some 26) (v:=?_) (a':=?_) #[true,false,false,false,false,false,false,false,false,false,false,false,false] rfl rfl (any_of HT_.out (by kernel_rfl)) (fun _ _ _ h => h) (Or.inl ⟨by rfl,?_⟩) ?_ ?_
             rotate_left
             ·intro w'
              go_simp
              with_reducible rfl
             rotate_left
             ·simp only [Act.put,List.setIfInBounds_toArray,List.set_cons_zero,List.set_cons_succ,i64_w,i32_w]
              rfl
             refine pure_ (i:=1) (N:=some 27) (v:=?_) (a':=?_) #[true,true,false,false,false,false,false,false,false,false,false,false,false] rfl rfl (any_of HT_.out (by kernel_rfl)) (fun _ _ _ h => h) (Or.inl ⟨by rfl,?_⟩) ?_ ?_
             rotate_left
             ·intro w'
              go_simp
              with_reducible rfl
             rotate_left
             ·simp only [Act.put,List.setIfInBounds_toArray,List.set_cons_zero,List.set_cons_succ,i64_w,i32_w]
              rfl
             refine pure_ (i:=2) (N:=some 28) (v:=?_) (a':=?_) #[true,true,true,false,false,false,false,false,false,false,false,false,false] rfl rfl (any_of HT_.out (by kernel_rfl)) (fun _ _ _ h => h) (Or.inl ⟨by rfl,?_⟩) ?_ ?_
             rotate_left
             ·intro w'
              go_simp
              with_reducible rfl
             rotate_left
             ·simp only [Act.put,List.setIfInBounds_toArray,List.set_cons_zero,List.set_cons_succ,i64_w,i32_w]
              rfl
             refine pure_ (i:=3) (N:=some 29) (v:=?_) (a':=?_) #[true,true,true,true,false,false,false,false,false,false,false,false,false] rfl rfl (any_of HT_.out (by kernel_rfl)) (fun _ _ _ h => h) (Or.inl ⟨by rfl,?_⟩) ?_ ?_
             rotate_left
             ·intro w'
              go_simp
              with_reducible rfl
             rotate_left
             ·simp only [Act.put,List.setIfInBounds_toArray,List.set_cons_zero,List.set_cons_succ,i64_w,i32_w]
              rfl
             refine pure_ (i:=4) (N:=some 30) (v:=?_) (a':=?_) #[true,true,true,true,true,false,false,false,false,false,false,false,false] rfl rfl (any_of HT_.out (by kernel_rfl)) (fun _ _ _ h => h) (Or.inl ⟨by rfl,?_⟩) ?_ ?_
             rotate_left
             ·intro w'
              go_simp
              with_reducible rfl
             rotate_left
             ·simp only [Act.put,List.setIfInBounds_toArray,List.set_cons_zero,List.set_cons_succ,i64_w,i32_w]
              rfl
             refine pure_ (i:=6) (N:=some 32) (v:=?_) (a':=?_) #[true,true,true,true,true,false,true,false,false,false,false,false,false] rfl rfl (any_of HT_.out (by kernel_rfl)) (fun _ _ _ h => h) (Or.inl ⟨by rfl,?_⟩) ?_ ?_
             rotate_left
             ·intro w'
              go_simp
              with_reducible rfl
             rotate_left
             ·simp only [Act.put,List.setIfInBounds_toArray,List.set_cons_zero,List.set_cons_succ,i64_w,i32_w]
              rfl
             refine pure_ (i:=7) (N:=some 33) (v:=?_) (a':=?_) #[true,true,true,true,true,false,true,true,false,false,false,false,false] rfl rfl (any_of HT_.out (by kernel_rfl)) (fun _ _ _ h => h) (Or.inl ⟨by rfl,?_⟩) ?_ ?_
             rotate_left
             ·intro w'
              go_simp
              with_reducible rfl
             rotate_left
             ·simp only [Act.put,List.setIfInBounds_toArray,List.set_cons_zero,List.set_cons_succ,i64_w,i32_w]
              rfl
             refine pure_ (i:=8) (N:=some 34) (v:=?_) (a':=?_) #[true,true,true,true,true,false,true,true,true,false,false,false,false] rfl rfl (any_of HT_.out (by kernel_rfl)) (fun _ _ _ h => h) (Or.inl ⟨by rfl,?_⟩) ?_ ?_
             rotate_left
             ·intro w'
              go_simp
              with_reducible rfl
             rotate_left
             ·simp only [Act.put,List.setIfInBounds_toArray,List.set_cons_zero,List.set_cons_succ,i64_w,i32_w]
              rfl
             refine pure_ (i:=9) (N:=some 35) (v:=?_) (a':=?_) #[true,true,true,true,true,false,true,true,true,true,false,false,false] rfl rfl (any_of HT_.out (by kernel_rfl)) (fun _ _ _ h => h) (Or.inl ⟨by rfl,?_⟩) ?_ ?_
             rotate_left
             ·intro w'
              go_simp
              with_reducible rfl
             rotate_left
             ·simp only [Act.put,List.setIfInBounds_toArray,List.set_cons_zero,List.set_cons_succ,i64_w,i32_w]
              rfl
             refine pure_ (i:=10) (N:=some 36) (v:=?_) (a':=?_) #[true,true,true,true,true,false,true,true,true,true,true,false,false] rfl rfl (any_of HT_.out (by kernel_rfl)) (fun _ _ _ h => h) (Or.inl ⟨by rfl,?_⟩) ?_ ?_
             rotate_left
             ·intro w'
              go_simp
              with_reducible rfl
             rotate_left
             ·simp only [Act.put,List.setIfInBounds_toArray,List.set_cons_zero,List.set_cons_succ,i64_w,i32_w]
              rfl
             refine take_ (i:=5) (N:=some 31) (v:=?_) (a':=?_) #[true,true,true,true,true,true,true,true,true,true,true,false,false] rfl rfl (take_ofW HT_.out HW_.out (by kernel_rfl)) (fun _ _ _ h => h) (Or.inl ⟨by rfl,?_⟩) hHeld ?_ ?_
             rotate_left
             ·rintro w' ⟨s0,s1,s2,s3,s4,s5,s6,s7,s8,s9,s10,s11,s12,s13,s14,s15,s16,s17,s18,s19⟩
              go_simp
              with_reducible rfl
             rotate_left
             ·simp only [Act.put,List.setIfInBounds_toArray,List.set_cons_zero,List.set_cons_succ,i64_w,i32_w]
              rfl
             refine take_ (i:=11) (N:=some 37) (v:=?_) (a':=?_) #[true,true,true,true,true,true,true,true,true,true,true,true,false] rfl rfl (take_ofW HT_.out HW_.out (by kernel_rfl)) (fun _ _ _ h => h) (Or.inl ⟨by rfl,?_⟩) hHeld ?_ ?_
             rotate_left
             ·rintro w' ⟨s0,s1,s2,s3,s4,s5,s6,s7,s8,s9,s10,s11,s12,s13,s14,s15,s16,s17,s18,s19⟩
              go_simp
              with_reducible rfl
             rotate_left
             ·simp only [Act.put,List.setIfInBounds_toArray,List.set_cons_zero,List.set_cons_succ,i64_w,i32_w]
              rfl
             refine pure_ (i:=12) (N:=some 38) (v:=?_) (a':=?_) #[true,true,true,true,true,true,true,true,true,true,true,true,true] rfl rfl (any_of HT_.out (by kernel_rfl)) (fun _ _ _ h => h) (Or.inl ⟨by rfl,?_⟩) ?_ ?_
             rotate_left
             ·intro w'
              go_simp
              with_reducible rfl
             rotate_left
             ·simp only [Act.put,List.setIfInBounds_toArray,List.set_cons_zero,List.set_cons_succ,i64_w,i32_w]
              rfl
             refine done_ (done_of HT_.out (by kernel_rfl)) ?_
             try go_wp2
             replace HO_7:=Aside0.mk (Kd.R_drew HO_7.out)
             replace HO_8:=Aside0.mk (Kd.R_drew HO_8.out)
             replace HB:=Aside0.mk (below_drew1 HB.out)
             have p226 : 0 ≤ (x9_1 : Int):=of_decide_eq_true (by first|(with_reducible assumption)|assumption)
             have q226 : x9_1 < (t218.length : Int):=of_decide_eq_true (by first|(with_reducible assumption)|assumption)
             obtain ⟨ad226,e226,hx226_0,hx226_1,hx226_2,hx226_3,hx226_4,hx226_5,hx226_6,hx226_7,hx226_8,hx226_9⟩:=at_T46 (Kd.R_reads' HO_7.out).2.2 x9_1 p226 q226
             obtain rfl : ad224 = ad226:=(by injection e226)
             replace p226:=eq_true p226
             replace q226:=eq_true q226
             have p227 : 0 ≤ (x9_1 : Int):=of_decide_eq_true (by first|(with_reducible assumption)|assumption)
             have q227 : x9_1 < (t218.length : Int):=of_decide_eq_true (by first|(with_reducible assumption)|assumption)
             obtain ⟨ad227,e227,hx227_0,hx227_1,hx227_2,hx227_3,hx227_4,hx227_5,hx227_6,hx227_7,hx227_8,hx227_9⟩:=at_T46 (Kd.R_reads' HO_7.out).2.2 x9_1 p227 q227
             obtain rfl : ad224 = ad227:=(by injection e227)
             replace p227:=eq_true p227
             replace q227:=eq_true q227
             refine start_ (n:=17) (S:=fun w' => w'.cell? (ad224.add ((x9_1).toNat * 10)) = some (.string ((rd_T46 t218 x9_1).f0.f0)) ∧ w'.cell? ⟨(ad224.add ((x9_1).toNat * 10)).block,(ad224.add ((x9_1).toNat * 10)).off + 1,none⟩ = some (.int .i64 ((rd_T46 t218 x9_1).f0.f1.f0)) ∧ w'.cell? ⟨(ad224.add ((x9_1).toNat * 10)).block,(ad224.add ((x9_1).toNat * 10)).off + 2,none⟩ = some (.int .i64 ((rd_T46 t218 x9_1).f0.f1.f1)) ∧ w'.cell? ⟨(ad224.add ((x9_1).toNat * 10)).block,(ad224.add ((x9_1).toNat * 10)).off + 3,none⟩ = some (.string ((rd_T46 t218 x9_1).f0.f2)) ∧ w'.cell? ⟨(ad224.add ((x9_1).toNat * 10)).block,(ad224.add ((x9_1).toNat * 10)).off + 4,none⟩ = some (.bool ((rd_T46 t218 x9_1).f0.f3)) ∧ w'.cell? ⟨(ad224.add ((x9_1).toNat * 10)).block,(ad224.add ((x9_1).toNat * 10)).off + 5,none⟩ = some (.string ((rd_T46 t218 x9_1).f1.f0)) ∧ w'.cell? ⟨(ad224.add ((x9_1).toNat * 10)).block,(ad224.add ((x9_1).toNat * 10)).off + 6,none⟩ = some (.int .i64 ((rd_T46 t218 x9_1).f1.f1.f0)) ∧ w'.cell? ⟨(ad224.add ((x9_1).toNat * 10)).block,(ad224.add ((x9_1).toNat * 10)).off + 7,none⟩ = some (.int .i64 ((rd_T46 t218 x9_1).f1.f1.f1)) ∧ w'.cell? ⟨(ad224.add ((x9_1).toNat * 10)).block,(ad224.add ((x9_1).toNat * 10)).off + 8,none⟩ = some (.string ((rd_T46 t218 x9_1).f1.f2)) ∧ w'.cell? ⟨(ad224.add ((x9_1).toNat * 10)).block,(ad224.add ((x9_1).toNat * 10)).off + 9,none⟩ = some (.bool ((rd_T46 t218 x9_1).f1.f3)) ∧ w'.cell? (ad224.add ((x9_1).toNat * 10)) = some (.string ((rd_T46 t218 x9_1).f0.f0)) ∧ w'.cell? ⟨(ad224.add ((x9_1).toNat * 10)).block,(ad224.add ((x9_1).toNat * 10)).off + 1,none⟩ = some (.int .i64 ((rd_T46 t218 x9_1).f0.f1.f0)) ∧ w'.cell? ⟨(ad224.add ((x9_1).toNat * 10)).block,(ad224.add ((x9_1).toNat * 10)).off + 2,none⟩ = some (.int .i64 ((rd_T46 t218 x9_1).f0.f1.f1)) ∧ w'.cell? ⟨(ad224.add ((x9_1).toNat * 10)).block,(ad224.add ((x9_1).toNat * 10)).off + 3,none⟩ = some (.string ((rd_T46 t218 x9_1).f0.f2)) ∧ w'.cell? ⟨(ad224.add ((x9_1).toNat * 10)).block,(ad224.add ((x9_1).toNat * 10)).off + 4,none⟩ = some (.bool ((rd_T46 t218 x9_1).f0.f3)) ∧ w'.cell? ⟨(ad224.add ((x9_1).toNat * 10)).block,(ad224.add ((x9_1).toNat * 10)).off + 5,none⟩ = some (.string ((rd_T46 t218 x9_1).f1.f0)) ∧ w'.cell? ⟨(ad224.add ((x9_1).toNat * 10)).block,(ad224.add ((x9_1).toNat * 10)).off + 6,none⟩ = some (.int .i64 ((rd_T46 t218 x9_1).f1.f1.f0)) ∧ w'.cell? ⟨(ad224.add ((x9_1).toNat * 10)).block,(ad224.add ((x9_1).toNat * 10)).off + 7,none⟩ = some (.int .i64 ((rd_T46 t218 x9_1).f1.f1.f1)) ∧ w'.cell? ⟨(ad224.add ((x9_1).toNat * 10)).block,(ad224.add ((x9_1).toNat * 10)).off + 8,none⟩ = some (.string ((rd_T46 t218 x9_1).f1.f2)) ∧ w'.cell? ⟨(ad224.add ((x9_1).toNat * 10)).block,(ad224.add ((x9_1).toNat * 10)).off + 9,none⟩ = some (.bool ((rd_T46 t218 x9_1).f1.f3))) (ds:=[14,15]) #[false,false,false,false,false,false,false,false,false,false,false,false,false,false,false,false,false] (by kernel_rfl) rfl rfl ⟨hx226_0,hx226_1,hx226_2,hx226_3,hx226_4,hx226_5,hx226_6,hx226_7,hx226_8,hx226_9,hx227_0,hx227_1,hx227_2,hx227_3,hx227_4,hx227_5,hx227_6,hx227_7,hx227_8,hx227_9⟩ (fun hHeld => ?_);refine with_tabW tidelineref09_Differ.tab10 tidelineref09_Differ.bits10 (fun HT_ HW_ => ?_)
             generalize w35.drew = w36 at HO_7 HO_8 HB hx226_0 hx226_1 hx226_2 hx226_3 hx226_4 hx226_5 hx226_6 hx226_7 hx226_8 hx226_9 hx227_0 hx227_1 hx227_2 hx227_3 hx227_4 hx227_5 hx227_6 hx227_7 hx227_8 hx227_9 hHeld ⊢
             refine pure_ (i:=0) (N:=some 39) (v:=?_) (a':=?_) #[true,false,false,false,false,false,false,false,false,false,false,false,false,false,false,false,false] rfl rfl (any_of HT_.out (by kernel_rfl)) (fun _ _ _ h => h) (Or.inl ⟨by rfl,?_⟩) ?_ ?_
             rotate_left
             ·intro w'
              go_simp
              with_reducible rfl
             rotate_left
             ·simp only [Act.put,List.setIfInBounds_toArray,List.set_cons_zero,List.set_cons_succ,i64_w,i32_w]
              rfl
             refine pure_ (i:=1) (N:=some 40) (v:=?_) (a':=?_) #[true,true,false,false,false,false,false,false,false,false,false,false,false,false,false,false,false] rfl rfl (any_of HT_.out (by kernel_rfl)) (fun _ _ _ h => h) (Or.inl ⟨by rfl,?_⟩) ?_ ?_
             rotate_left
             ·intro w'
              go_simp
              with_reducible rfl
             rotate_left
             ·simp only [Act.put,List.setIfInBounds_toArray,List.set_cons_zero,List.set_cons_succ,i64_w,i32_w]
              rfl
             refine pure_ (i:=2) (N:=some 41) (v:=?_) (a':=?_) #[true,true,true,false,false,false,false,false,false,false,false,false,false,false,false,false,false] rfl rfl (any_of HT_.out (by kernel_rfl)) (fun _ _ _ h => h) (Or.inl ⟨by rfl,?_⟩) ?_ ?_
             rotate_left
             ·intro w'
              go_simp
              with_reducible rfl
             rotate_left
             ·simp only [Act.put,List.setIfInBounds_toArray,List.set_cons_zero,List.set_cons_succ,i64_w,i32_w]
              rfl
             refine pure_ (i:=3) (N:=some 42) (v:=?_) (a':=?_) #[true,true,true,true,false,false,false,false,false,false,false,false,false,false,false,false,false] rfl rfl (any_of HT_.out (by kernel_rfl)) (fun _ _ _ h => h) (Or.inl ⟨by rfl,?_⟩) ?_ ?_
             rotate_left
             ·intro w'
              go_simp
              with_reducible rfl
             rotate_left
             ·simp only [Act.put,List.setIfInBounds_toArray,List.set_cons_zero,List.set_cons_succ,i64_w,i32_w]
              rfl
             refine pure_ (i:=4) (N:=some 43) (v:=?_) (a':=?_) #[true,true,true,true,true,false,false,false,false,false,false,false,false,false,false,false,false] rfl rfl (any_of HT_.out (by kernel_rfl)) (fun _ _ _ h => h) (Or.inl ⟨by rfl,?_⟩) ?_ ?_
             rotate_left
             ·intro w'
              go_simp
              with_reducible rfl
             rotate_left
             ·simp only [Act.put,List.setIfInBounds_toArray,List.set_cons_zero,List.set_cons_succ,i64_w,i32_w]
              rfl
             refine pure_ (i:=5) (N:=some 44) (v:=?_) (a':=?_) #[true,true,true,true,true,true,false,false,false,false,false,false,false,false,false,false,false] rfl rfl (any_of HT_.out (by kernel_rfl)) (fun _ _ _ h => h) (Or.inl ⟨by rfl,?_⟩) ?_ ?_
             rotate_left
             ·intro w'
              go_simp
              with_reducible rfl
             rotate_left
             ·simp only [Act.put,List.setIfInBounds_toArray,List.set_cons_zero,List.set_cons_succ,i64_w,i32_w]
              rfl
             refine pure_ (i:=7) (N:=some 46) (v:=?_) (a':=?_) #[true,true,true,true,true,true,false,true,false,false,false,false,false,false,false,false,false] rfl rfl (any_of HT_.out (by kernel_rfl)) (fun _ _ _ h => h) (Or.inl ⟨by rfl,?_⟩) ?_ ?_
             rotate_left
             ·intro w'
              go_simp
              with_reducible rfl
             rotate_left
             ·simp only [Act.put,List.setIfInBounds_toArray,List.set_cons_zero,List.set_cons_succ,i64_w,i32_w]
              rfl
             refine pure_ (i:=8) (N:=some 47) (v:=?_) (a':=?_) #[true,true,true,true,true,true,false,true,true,false,false,false,false,false,false,false,false] rfl rfl (any_of HT_.out (by kernel_rfl)) (fun _ _ _ h => h) (Or.inl ⟨by rfl,?_⟩) ?_ ?_
             rotate_left
             ·intro w'
              go_simp
              with_reducible rfl
             rotate_left
             ·simp only [Act.put,List.setIfInBounds_toArray,List.set_cons_zero,List.set_cons_succ,i64_w,i32_w]
              rfl
             refine pure_ (i:=9) (N:=some 48) (v:=?_) (a':=?_) #[true,true,true,true,true,true,false,true,true,true,false,false,false,false,false,false,false] rfl rfl (any_of HT_.out (by kernel_rfl)) (fun _ _ _ h => h) (Or.inl ⟨by rfl,?_⟩) ?_ ?_
             rotate_left
             ·intro w'
              go_simp
              with_reducible rfl
             rotate_left
             ·simp only [Act.put,List.setIfInBounds_toArray,List.set_cons_zero,List.set_cons_succ,i64_w,i32_w]
              rfl
             refine pure_ (i:=10) (N:=some 49) (v:=?_) (a':=?_) #[true,true,true,true,true,true,false,true,true,true,true,false,false,false,false,false,false] rfl rfl (any_of HT_.out (by kernel_rfl)) (fun _ _ _ h => h) (Or.inl ⟨by rfl,?_⟩) ?_ ?_
             rotate_left
             ·intro w'
              go_simp
              with_reducible rfl
             rotate_left
             ·simp only [Act.put,List.setIfInBounds_toArray,List.set_cons_zero,List.set_cons_succ,i64_w,i32_w]
              rfl
             refine pure_ (i:=11) (N:=some 50) (v:=?_) (a':=?_) #[true,true,true,true,true,true,false,true,true,true,true,true,false,false,false,false,false] rfl rfl (any_of HT_.out (by kernel_rfl)) (fun _ _ _ h => h) (Or.inl ⟨by rfl,?_⟩) ?_ ?_
             rotate_left
             ·intro w'
              go_simp
              with_reducible rfl
             rotate_left
             ·simp only [Act.put,List.setIfInBounds_toArray,List.set_cons_zero,List.set_cons_succ,i64_w,i32_w]
              rfl
             refine take_ (i:=6) (N:=some 45) (v:=?_) (a':=?_) #[true,true,true,true,true,true,true,true,true,true,true,true,false,false,false,false,false] rfl rfl (take_ofW HT_.out HW_.out (by kernel_rfl)) (fun _ _ _ h => h) (Or.inl ⟨by rfl,?_⟩) hHeld ?_ ?_
             rotate_left
             ·rintro w' ⟨s0,s1,s2,s3,s4,s5,s6,s7,s8,s9,s10,s11,s12,s13,s14,s15,s16,s17,s18,s19⟩
              go_simp
              with_reducible rfl
             rotate_left
             ·simp only [Act.put,List.setIfInBounds_toArray,List.set_cons_zero,List.set_cons_succ,i64_w,i32_w]
              rfl
             refine take_ (i:=12) (N:=some 51) (v:=?_) (a':=?_) #[true,true,true,true,true,true,true,true,true,true,true,true,true,false,false,false,false] rfl rfl (take_ofW HT_.out HW_.out (by kernel_rfl)) (fun _ _ _ h => h) (Or.inl ⟨by rfl,?_⟩) hHeld ?_ ?_
             rotate_left
             ·rintro w' ⟨s0,s1,s2,s3,s4,s5,s6,s7,s8,s9,s10,s11,s12,s13,s14,s15,s16,s17,s18,s19⟩
              go_simp
              with_reducible rfl
             rotate_left
             ·simp only [Act.put,List.setIfInBounds_toArray,List.set_cons_zero,List.set_cons_succ,i64_w,i32_w]
              rfl
             refine pure_ (i:=13) (N:=some 52) (v:=?_) (a':=?_) #[true,true,true,true,true,true,true,true,true,true,true,true,true,true,false,false,false] rfl rfl (any_of HT_.out (by kernel_rfl)) (fun _ _ _ h => h) (Or.inl ⟨by rfl,?_⟩) ?_ ?_
             rotate_left
             ·intro w'
              go_simp
              with_reducible rfl
             rotate_left
             ·simp only [Act.put,List.setIfInBounds_toArray,List.set_cons_zero,List.set_cons_succ,i64_w,i32_w]
              rfl
             refine last_ (i:=14) (N:=some 53) #[true,true,true,true,true,true,true,true,true,true,true,true,true,true,true,false,false] rfl rfl (one_of HT_.out (by kernel_rfl)) (by decide) (fun K hK => ?_)
             refine value_ (w1:=?_) (v:=?_) (by rfl) rfl ?_ ?_
             rotate_left 2
             ·go_simp
              constructor
              ·rfl
              ·rfl
             refine hK.out _ _ ?_
             clear hK K
             refine norm_ (a':=?_) ?_ ?_
             rotate_left
             ·show Act.put _ (some 53) _ = _
              simp only [Act.put,List.setIfInBounds_toArray,List.set_cons_zero,List.set_cons_succ,i64_w,i32_w]
              rfl
             refine last_ (i:=15) (N:=some 54) #[true,true,true,true,true,true,true,true,true,true,true,true,true,true,true,true,false] rfl rfl (one_of HT_.out (by kernel_rfl)) (by decide) (fun K hK => ?_)
             refine Kd.R_append_step Kd.string (w0:=w) w.heap.size (by rfl) (.tmp 39) (.tmp 53) 53 9 (.string ⟨#[]⟩) 16 rfl Try.underlying53 info9 rfl (by decide) (by omega) u8 x8_1 (((rd_T46 t218 x9_1).f0.f0) ++ ((rd_T46 t218 x9_1).f1.f0)) [.string (((rd_T46 t218 x9_1).f0.f0) ++ ((rd_T46 t218 x9_1).f1.f0))] (fun _ => True) (fun _ => False) rfl rfl ?aP (fun _ hk => hk.elim) ?aF ?aO ?aB ?aS ?aL ?_
             (case aP => exact rfl)
             (case aB => exact (by repeat (first|(with_reducible first|exact HB.out|apply xA|apply xN|apply xD)|exact HB.out)))
             (case aF => exact (fun _ _ => trivial))
             (case aO => exact (by (with_reducible repeat (first|apply Kd.R_alloc|apply Kd.R_drewN|apply Kd.R_drew));exact HO_8.out))
             (case aS => exact (below_size (by repeat (first|(with_reducible first|exact HB.out|apply xA|apply xN|apply xD)|exact HB.out))))
             (case aL => have:=LMc14.out;omega)
             intro v229 w37 ho hb hg hat
             rw [← Ny228.out] at ho
             have n0_:=Aside0.mk (Kd.R_over' (by (with_reducible repeat (first|apply Kd.R_alloc|apply Kd.R_drewN|apply Kd.R_drew));exact HO_7.out) (Kd.R_typed (by (with_reducible repeat (first|apply Kd.R_alloc|apply Kd.R_drewN|apply Kd.R_drew));exact HO_8.out)) (by decide) hg)
             have n1_:=Aside0.mk (hb)
             have n2_:=Aside0.mk (ho)
             clear HO_7 HB HO_8
             have HO_7:=n0_
             have HB:=n1_
             have HO230:=n2_
             clear n0_ n1_ n2_
             clear ho hb hg hat
             refine hK.out _ _ ?_
             clear hK K
             refine norm_ (a':=?_) ?_ ?_
             rotate_left
             ·show Act.put _ (some 54) _ = _
              simp only [Act.put,List.setIfInBounds_toArray,List.set_cons_zero,List.set_cons_succ,i64_w,i32_w]
              rfl
             refine pure_ (i:=16) (N:=some 8) (v:=?_) (a':=?_) #[true,true,true,true,true,true,true,true,true,true,true,true,true,true,true,true,true] rfl rfl (any_of HT_.out (by kernel_rfl)) (fun _ _ _ h => h) (Or.inl ⟨by rfl,?_⟩) ?_ ?_
             rotate_left
             ·intro w'
              go_simp
              with_reducible rfl
             rotate_left
             ·simp only [Act.put,List.setIfInBounds_toArray,List.set_cons_zero,List.set_cons_succ,i64_w,i32_w]
              rfl
             refine done_ (done_of HT_.out (by kernel_rfl)) ?_
             have p231 : 0 ≤ (x9_1 : Int):=of_decide_eq_true (by first|(with_reducible assumption)|assumption)
             have q231 : x9_1 < (t218.length : Int):=of_decide_eq_true (by first|(with_reducible assumption)|assumption)
             obtain ⟨ad231,e231,hx231_0,hx231_1,hx231_2,hx231_3,hx231_4,hx231_5,hx231_6,hx231_7,hx231_8,hx231_9⟩:=at_T46 (Kd.R_reads' HO_7.out).2.2 x9_1 p231 q231
             obtain rfl : ad224 = ad231:=(by injection e231)
             replace p231:=eq_true p231
             replace q231:=eq_true q231
             try go_wp2_with (first|((with_reducible refine gate_callee (f:=47) rfl ?_);refine goesL_ (some 60) rfl rfl Try.func47 (by kernel_rfl) rfl #[.agg #[.string ((rd_T46 t218 x9_1).f0.f0),.int .i64 ((rd_T46 t218 x9_1).f0.f1.f0),.int .i64 ((rd_T46 t218 x9_1).f0.f1.f1),.string ((rd_T46 t218 x9_1).f0.f2),.bool ((rd_T46 t218 x9_1).f0.f3)]] rfl (by (try simp only [List.map_toArray,List.map_cons,List.map_nil]);first|done|rfl|(simp only [List.length_drop,List.length_take];rfl)) ?_;(with_reducible refine (tidelineref09_none.calls ((rd_T46 t218 x9_1).f0.f0) ((rd_T46 t218 x9_1).f0.f1.f0) ((rd_T46 t218 x9_1).f0.f1.f1) ((rd_T46 t218 x9_1).f0.f2) ((rd_T46 t218 x9_1).f0.f3) false _ A15.out).mono ?_);rintro e w38 ⟨rfl,hb⟩;refine ⟨_,rfl,?_⟩;replace HO_7:=Aside0.mk (Kd.R_below (by (with_reducible repeat (first|apply Kd.R_alloc|apply Kd.R_drewN|apply Kd.R_drew));exact HO_7.out) hb);replace HO230:=Aside0.mk (Kd.R_below (by (with_reducible repeat (first|apply Kd.R_alloc|apply Kd.R_drewN|apply Kd.R_drew));exact HO230.out) hb);replace HB:=Aside0.mk (below_step (by repeat (first|(with_reducible first|exact HB.out|apply xA|apply xN|apply xD)|exact HB.out)) hb);(try clear hb);(try clear hb2);(try clear hk);(try clear hi);have p233 : 0 ≤ (x9_1 : Int):=of_decide_eq_true (by first|(with_reducible assumption)|assumption);have q233 : x9_1 < (t218.length : Int):=of_decide_eq_true (by first|(with_reducible assumption)|assumption);obtain ⟨ad233,e233,hx233_0,hx233_1,hx233_2,hx233_3,hx233_4,hx233_5,hx233_6,hx233_7,hx233_8,hx233_9⟩:=at_T46 (Kd.R_reads' HO_7.out).2.2 x9_1 p233 q233;obtain rfl : ad224 = ad233:=(by injection e233);replace p233:=eq_true p233;replace q233:=eq_true q233)|(go_at_call 47;(with_reducible refine (tidelineref09_none.calls ((rd_T46 t218 x9_1).f1.f0) ((rd_T46 t218 x9_1).f1.f1.f0) ((rd_T46 t218 x9_1).f1.f1.f1) ((rd_T46 t218 x9_1).f1.f2) ((rd_T46 t218 x9_1).f1.f3) false _ A22.out).mono ?_);rintro e w39 ⟨rfl,hb⟩;replace HO_7:=Aside0.mk (Kd.R_below (by (with_reducible repeat (first|apply Kd.R_alloc|apply Kd.R_drewN|apply Kd.R_drew));exact HO_7.out) hb);replace HO230:=Aside0.mk (Kd.R_below (by (with_reducible repeat (first|apply Kd.R_alloc|apply Kd.R_drewN|apply Kd.R_drew));exact HO230.out) hb);replace HB:=Aside0.mk (below_step (by repeat (first|(with_reducible first|exact HB.out|apply xA|apply xN|apply xD)|exact HB.out)) hb);(try clear hb);(try clear hb2);(try clear hk);(try clear hi);obtain ⟨Ao40,co40,eo40⟩:=Kd.R_slice HO230.out;subst eo40;have p235 : 0 ≤ (x9_1 : Int):=of_decide_eq_true (by first|(with_reducible assumption)|assumption);have q235 : x9_1 < (t218.length : Int):=of_decide_eq_true (by first|(with_reducible assumption)|assumption);obtain ⟨ad235,e235,hx235_0,hx235_1,hx235_2,hx235_3,hx235_4,hx235_5,hx235_6,hx235_7,hx235_8,hx235_9⟩:=at_T46 (Kd.R_reads' HO_7.out).2.2 x9_1 p235 q235;obtain rfl : ad224 = ad235:=(by injection e235);replace p235:=eq_true p235;replace q235:=eq_true q235;have p33 : 0 ≤ ((ji30) : Int):=of_decide_eq_true (by first|(with_reducible assumption)|assumption);have q33 : ((ji30) : Int) < ((y228.length : Int) : Int):=of_decide_eq_true (by first|(with_reducible assumption)|assumption);obtain ⟨go33,co33,eo33,gb33,gl33,cl33,HG33⟩:=Kd.R_form HO230.out (by omega);(first|cases eo33|(injection eo33 with ea_ en_ ec_;(first|subst ea_|(injection ea_ with ea_;subst ea_));subst ec_;clear en_));have GB33:=Aside0.mk gb33;have GG33:=Aside0.mk HG33;clear gb33 gl33 HG33;obtain ⟨hx33_0,hf33_0⟩:=Kd.R_celln (⟨#[]⟩ : ByteArray) HO230.out ((ji30) : Int) p33 q33;replace p33:=eq_true p33;replace q33:=eq_true q33;obtain ⟨hy41_,hz41_⟩:=Kd.R_celln (⟨#[]⟩ : ByteArray) HO230.out ((ji30) : Int) (of_decide_eq_true (by first|(with_reducible assumption)|assumption)) (of_decide_eq_true (by first|(with_reducible assumption)|assumption));have HP41:=Kd.R_putg HO230.out ((ji30) : Int) ((rd_T46 t218 x9_1).f0.f0))|((with_reducible refine gate_store (t:=9) (p:=81) rfl ?_);refine store_event (t:=9) (p:=81) (v:=?vo_w42) (w1:=(w39.setCell ⟨go33,((ji30) : Int).toNat,none⟩ (.string ((rd_T46 t218 x9_1).f0.f0)))) ?hg ?ho ?hn ?hr ?_;(case ho => rfl);(case hg => rfl);(case hn => rfl);(case hr => first|(go_simp;done)|(go_simp;rfl));intro w42 hw;have hg : w39.grownBy w42 (some go33):=(by rw [hw];exact HP41.2);have hp_ : Kd.R Kd.string 9 w42 w.heap.size (fun _ => True) (.slice (some ⟨go33,0,none⟩) y228.length co40) y236:=(by rw [hw,Ny236.out];exact HP41.1);clear HP41;replace HO_7:=Aside0.mk (Kd.R_over' (v:=(.slice (some ⟨go33,0,none⟩) y228.length co40)) (by (with_reducible repeat (first|apply Kd.R_alloc|apply Kd.R_drewN|apply Kd.R_drew));exact HO_7.out) (Kd.R_typed HO230.out) (by decide) hg);replace HO230:=Aside0.mk (hp_);replace HB:=Aside0.mk ((by rw [hw];exact below_set (HB.out) GB33.out : Below w.heap.size w w42));clear hg hw hp_))
             go_roundg k1
             case measure => have:=HK1.out;omega
             case rel => exact ⟨(y236),(wrap64 (x9_1 + 1)),(by first|rfl|(simp;done)|(simp [*];done)|(simp [*,Go.Proofs.Ytghlellambnkeaa.Str.bne_nil];done)),H',⟨by have:=HK1.out;omega⟩,⟨by (with_reducible repeat (first|apply Kd.R_alloc|apply Kd.R_drewN|apply Kd.R_drew));exact HO_7.out⟩,⟨by (with_reducible repeat (first|apply Kd.R_alloc|apply Kd.R_drewN|apply Kd.R_drew));exact HO230.out⟩,⟨by repeat (first|(with_reducible first|exact HB.out|apply xA|apply xN|apply xD)|exact HB.out)⟩⟩
            ·rw [if_neg c32] at H
             exact absurd H (by simp)
           ·rw [if_neg c31] at H
            exact absurd H (by simp)
        ·rw [if_neg c14] at H
         exact absurd H (by simp)
       ·rw [if_neg c13] at H
        exact absurd H (by simp)
      ·rw [if_neg c12] at H
       have c12b0 : (!(((rd_T46 t218 x9_1).f0.f1.f0) == ((rd_T46 t218 x9_1).f1.f1.f0)) || (!(((rd_T46 t218 x9_1).f0.f1.f1) == ((rd_T46 t218 x9_1).f1.f1.f1)))) = false:=by simpa using c12
       clear c12
       have H':=Aside0.mk H
       clear H
       obtain ⟨Ao43,co43,eo43⟩:=Kd.R_slice HO_7.out
       subst eo43
       try go_wp2
       replace HO_7:=Aside0.mk (Kd.R_drew HO_7.out)
       replace HO_8:=Aside0.mk (Kd.R_drew HO_8.out)
       replace HB:=Aside0.mk (below_drew1 HB.out)
       have p224 : 0 ≤ (x9_1 : Int):=of_decide_eq_true (by first|(with_reducible assumption)|assumption)
       have q224 : x9_1 < (t218.length : Int):=of_decide_eq_true (by first|(with_reducible assumption)|assumption)
       obtain ⟨ad224,e224,hx224_0,hx224_1,hx224_2,hx224_3,hx224_4,hx224_5,hx224_6,hx224_7,hx224_8,hx224_9⟩:=at_T46 (Kd.R_reads' HO_7.out).2.2 x9_1 p224 q224
       cases e224
       replace p224:=eq_true p224
       replace q224:=eq_true q224
       have p225 : 0 ≤ (x9_1 : Int):=of_decide_eq_true (by first|(with_reducible assumption)|assumption)
       have q225 : x9_1 < (t218.length : Int):=of_decide_eq_true (by first|(with_reducible assumption)|assumption)
       obtain ⟨ad225,e225,hx225_0,hx225_1,hx225_2,hx225_3,hx225_4,hx225_5,hx225_6,hx225_7,hx225_8,hx225_9⟩:=at_T46 (Kd.R_reads' HO_7.out).2.2 x9_1 p225 q225
       obtain rfl : ad224 = ad225:=(by injection e225)
       replace p225:=eq_true p225
       replace q225:=eq_true q225
       refine start_ (n:=13) (S:=fun w' => w'.cell? (ad224.add ((x9_1).toNat * 10)) = some (.string ((rd_T46 t218 x9_1).f0.f0)) ∧ w'.cell? ⟨(ad224.add ((x9_1).toNat * 10)).block,(ad224.add ((x9_1).toNat * 10)).off + 1,none⟩ = some (.int .i64 ((rd_T46 t218 x9_1).f0.f1.f0)) ∧ w'.cell? ⟨(ad224.add ((x9_1).toNat * 10)).block,(ad224.add ((x9_1).toNat * 10)).off + 2,none⟩ = some (.int .i64 ((rd_T46 t218 x9_1).f0.f1.f1)) ∧ w'.cell? ⟨(ad224.add ((x9_1).toNat * 10)).block,(ad224.add ((x9_1).toNat * 10)).off + 3,none⟩ = some (.string ((rd_T46 t218 x9_1).f0.f2)) ∧ w'.cell? ⟨(ad224.add ((x9_1).toNat * 10)).block,(ad224.add ((x9_1).toNat * 10)).off + 4,none⟩ = some (.bool ((rd_T46 t218 x9_1).f0.f3)) ∧ w'.cell? ⟨(ad224.add ((x9_1).toNat * 10)).block,(ad224.add ((x9_1).toNat * 10)).off + 5,none⟩ = some (.string ((rd_T46 t218 x9_1).f1.f0)) ∧ w'.cell? ⟨(ad224.add ((x9_1).toNat * 10)).block,(ad224.add ((x9_1).toNat * 10)).off + 6,none⟩ = some (.int .i64 ((rd_T46 t218 x9_1).f1.f1.f0)) ∧ w'.cell? ⟨(ad224.add ((x9_1).toNat * 10)).block,(ad224.add ((x9_1).toNat * 10)).off + 7,none⟩ = some (.int .i64 ((rd_T46 t218 x9_1).f1.f1.f1)) ∧ w'.cell? ⟨(ad224.add ((x9_1).toNat * 10)).block,(ad224.add ((x9_1).toNat * 10)).off + 8,none⟩ = some (.string ((rd_T46 t218 x9_1).f1.f2)) ∧ w'.cell? ⟨(ad224.add ((x9_1).toNat * 10)).block,(ad224.add ((x9_1).toNat * 10)).off + 9,none⟩ = some (.bool ((rd_T46 t218 x9_1).f1.f3)) ∧ w'.cell? (ad224.add ((x9_1).toNat * 10)) = some (.string ((rd_T46 t218 x9_1).f0.f0)) ∧ w'.cell? ⟨(ad224.add ((x9_1).toNat * 10)).block,(ad224.add ((x9_1).toNat * 10)).off + 1,none⟩ = some (.int .i64 ((rd_T46 t218 x9_1).f0.f1.f0)) ∧ w'.cell? ⟨(ad224.add ((x9_1).toNat * 10)).block,(ad224.add ((x9_1).toNat * 10)).off + 2,none⟩ = some (.int .i64 ((rd_T46 t218 x9_1).f0.f1.f1)) ∧ w'.cell? ⟨(ad224.add ((x9_1).toNat * 10)).block,(ad224.add ((x9_1).toNat * 10)).off + 3,none⟩ = some (.string ((rd_T46 t218 x9_1).f0.f2)) ∧ w'.cell? ⟨(ad224.add ((x9_1).toNat * 10)).block,(ad224.add ((x9_1).toNat * 10)).off + 4,none⟩ = some (.bool ((rd_T46 t218 x9_1).f0.f3)) ∧ w'.cell? ⟨(ad224.add ((x9_1).toNat * 10)).block,(ad224.add ((x9_1).toNat * 10)).off + 5,none⟩ = some (.string ((rd_T46 t218 x9_1).f1.f0)) ∧ w'.cell? ⟨(ad224.add ((x9_1).toNat * 10)).block,(ad224.add ((x9_1).toNat * 10)).off + 6,none⟩ = some (.int .i64 ((rd_T46 t218 x9_1).f1.f1.f0)) ∧ w'.cell? ⟨(ad224.add ((x9_1).toNat * 10)).block,(ad224.add ((x9_1).toNat * 10)).off + 7,none⟩ = some (.int .i64 ((rd_T46 t218 x9_1).f1.f1.f1)) ∧ w'.cell? ⟨(ad224.add ((x9_1).toNat * 10)).block,(ad224.add ((x9_1).toNat * 10)).off + 8,none⟩ = some (.string ((rd_T46 t218 x9_1).f1.f2)) ∧ w'.cell? ⟨(ad224.add ((x9_1).toNat * 10)).block,(ad224.add ((x9_1).toNat * 10)).off + 9,none⟩ = some (.bool ((rd_T46 t218 x9_1).f1.f3))) (ds:=[]) #[false,false,false,false,false,false,false,false,false,false,false,false,false] (by kernel_rfl) rfl rfl ⟨hx224_0,hx224_1,hx224_2,hx224_3,hx224_4,hx224_5,hx224_6,hx224_7,hx224_8,hx224_9,hx225_0,hx225_1,hx225_2,hx225_3,hx225_4,hx225_5,hx225_6,hx225_7,hx225_8,hx225_9⟩ (fun hHeld => ?_);refine with_tabW tidelineref09_Differ.tab9 tidelineref09_Differ.bits9 (fun HT_ HW_ => ?_)
       generalize wr.drew = w44 at HO_7 HO_8 HB hx224_0 hx224_1 hx224_2 hx224_3 hx224_4 hx224_5 hx224_6 hx224_7 hx224_8 hx224_9 hx225_0 hx225_1 hx225_2 hx225_3 hx225_4 hx225_5 hx225_6 hx225_7 hx225_8 hx225_9 hHeld ⊢
       refine pure_ (i:=0) (N:=some 26) (v:=?_) (a':=?_) #[true,false,false,false,false,false,false,false,false,false,false,false,false] rfl rfl (any_of HT_.out (by kernel_rfl)) (fun _ _ _ h => h) (Or.inl ⟨by rfl,?_⟩) ?_ ?_
       rotate_left
       ·intro w'
        go_simp
        with_reducible rfl
       rotate_left
       ·simp only [Act.put,List.setIfInBounds_toArray,List.set_cons_zero,List.set_cons_succ,i64_w,i32_w]
        rfl
       refine pure_ (i:=1) (N:=some 27) (v:=?_) (a':=?_) #[true,true,false,false,false,false,false,false,false,false,false,false,false] rfl rfl (any_of HT_.out (by kernel_rfl)) (fun _ _ _ h => h) (Or.inl ⟨by rfl,?_⟩) ?_ ?_
       rotate_left
       ·intro w'
        go_simp
        with_reducible rfl
       rotate_left
       ·simp only [Act.put,List.setIfInBounds_toArray,List.set_cons_zero,List.set_cons_succ,i64_w,i32_w]
        rfl
       refine pure_ (i:=2) (N:=some 28) (v:=?_) (a':=?_) #[true,true,true,false,false,false,false,false,false,false,false,false,false] rfl rfl (any_of HT_.out (by kernel_rfl)) (fun _ _ _ h => h) (Or.inl ⟨by rfl,?_⟩) ?_ ?_
       rotate_left
       ·intro w'
        go_simp
        with_reducible rfl
       rotate_left
       ·simp only [Act.put,List.setIfInBounds_toArray,List.set_cons_zero,List.set_cons_succ,i64_w,i32_w]
        rfl
       refine pure_ (i:=3) (N:=some 29) (v:=?_) (a':=?_) #[true,true,true,true,false,false,false,false,false,false,false,false,false] rfl rfl (any_of HT_.out (by kernel_rfl)) (fun _ _ _ h => h) (Or.inl ⟨by rfl,?_⟩) ?_ ?_
       rotate_left
       ·intro w'
        go_simp
        with_reducible rfl
       rotate_left
       ·simp only [Act.put,List.setIfInBounds_toArray,List.set_cons_zero,List.set_cons_succ,i64_w,i32_w]
        rfl
       refine pure_ (i:=4) (N:=some 30) (v:=?_) (a':=?_) #[true,true,true,true,true,false,false,false,false,false,false,false,false] rfl rfl (any_of HT_.out (by kernel_rfl)) (fun _ _ _ h => h) (Or.inl ⟨by rfl,?_⟩) ?_ ?_
       rotate_left
       ·intro w'
        go_simp
        with_reducible rfl
       rotate_left
       ·simp only [Act.put,List.setIfInBounds_toArray,List.set_cons_zero,List.set_cons_succ,i64_w,i32_w]
        rfl
       refine pure_ (i:=6) (N:=some 32) (v:=?_) (a':=?_) #[true,true,true,true,true,false,true,false,false,false,false,false,false] rfl rfl (any_of HT_.out (by kernel_rfl)) (fun _ _ _ h => h) (Or.inl ⟨by rfl,?_⟩) ?_ ?_
       rotate_left
       ·intro w'
        go_simp
        with_reducible rfl
       rotate_left
       ·simp only [Act.put,List.setIfInBounds_toArray,List.set_cons_zero,List.set_cons_succ,i64_w,i32_w]
        rfl
       refine pure_ (i:=7) (N:=some 33) (v:=?_) (a':=?_) #[true,true,true,true,true,false,true,true,false,false,false,false,false] rfl rfl (any_of HT_.out (by kernel_rfl)) (fun _ _ _ h => h) (Or.inl ⟨by rfl,?_⟩) ?_ ?_
       rotate_left
       ·intro w'
        go_simp
        with_reducible rfl
       rotate_left
       ·simp only [Act.put,List.setIfInBounds_toArray,List.set_cons_zero,List.set_cons_succ,i64_w,i32_w]
        rfl
       refine pure_ (i:=8) (N:=some 34) (v:=?_) (a':=?_) #[true,true,true,true,true,false,true,true,true,false,false,false,false] rfl rfl (any_of HT_.out (by kernel_rfl)) (fun _ _ _ h => h) (Or.inl ⟨by rfl,?_⟩) ?_ ?_
       rotate_left
       ·intro w'
        go_simp
        with_reducible rfl
       rotate_left
       ·simp only [Act.put,List.setIfInBounds_toArray,List.set_cons_zero,List.set_cons_succ,i64_w,i32_w]
        rfl
       refine pure_ (i:=9) (N:=some 35) (v:=?_) (a':=?_) #[true,true,true,true,true,false,true,true,true,true,false,false,false] rfl rfl (any_of HT_.out (by kernel_rfl)) (fun _ _ _ h => h) (Or.inl ⟨by rfl,?_⟩) ?_ ?_
       rotate_left
       ·intro w'
        go_simp
        with_reducible rfl
       rotate_left
       ·simp only [Act.put,List.setIfInBounds_toArray,List.set_cons_zero,List.set_cons_succ,i64_w,i32_w]
        rfl
       refine pure_ (i:=10) (N:=some 36) (v:=?_) (a':=?_) #[true,true,true,true,true,false,true,true,true,true,true,false,false] rfl rfl (any_of HT_.out (by kernel_rfl)) (fun _ _ _ h => h) (Or.inl ⟨by rfl,?_⟩) ?_ ?_
       rotate_left
       ·intro w'
        go_simp
        with_reducible rfl
       rotate_left
       ·simp only [Act.put,List.setIfInBounds_toArray,List.set_cons_zero,List.set_cons_succ,i64_w,i32_w]
        rfl
       refine take_ (i:=5) (N:=some 31) (v:=?_) (a':=?_) #[true,true,true,true,true,true,true,true,true,true,true,false,false] rfl rfl (take_ofW HT_.out HW_.out (by kernel_rfl)) (fun _ _ _ h => h) (Or.inl ⟨by rfl,?_⟩) hHeld ?_ ?_
       rotate_left
       ·rintro w' ⟨s0,s1,s2,s3,s4,s5,s6,s7,s8,s9,s10,s11,s12,s13,s14,s15,s16,s17,s18,s19⟩
        go_simp
        with_reducible rfl
       rotate_left
       ·simp only [Act.put,List.setIfInBounds_toArray,List.set_cons_zero,List.set_cons_succ,i64_w,i32_w]
        rfl
       refine take_ (i:=11) (N:=some 37) (v:=?_) (a':=?_) #[true,true,true,true,true,true,true,true,true,true,true,true,false] rfl rfl (take_ofW HT_.out HW_.out (by kernel_rfl)) (fun _ _ _ h => h) (Or.inl ⟨by rfl,?_⟩) hHeld ?_ ?_
       rotate_left
       ·rintro w' ⟨s0,s1,s2,s3,s4,s5,s6,s7,s8,s9,s10,s11,s12,s13,s14,s15,s16,s17,s18,s19⟩
        go_simp
        with_reducible rfl
       rotate_left
       ·simp only [Act.put,List.setIfInBounds_toArray,List.set_cons_zero,List.set_cons_succ,i64_w,i32_w]
        rfl
       refine pure_ (i:=12) (N:=some 38) (v:=?_) (a':=?_) #[true,true,true,true,true,true,true,true,true,true,true,true,true] rfl rfl (any_of HT_.out (by kernel_rfl)) (fun _ _ _ h => h) (Or.inl ⟨by rfl,?_⟩) ?_ ?_
       rotate_left
       ·intro w'
        go_simp
        with_reducible rfl
       rotate_left
       ·simp only [Act.put,List.setIfInBounds_toArray,List.set_cons_zero,List.set_cons_succ,i64_w,i32_w]
        rfl
       refine done_ (done_of HT_.out (by kernel_rfl)) ?_
       try go_wp2
       go_roundg k1
       case measure => have:=HK1.out;omega
       case rel => exact ⟨(x8_1),(wrap64 (x9_1 + 1)),(by first|rfl|(simp;done)|(simp [*];done)|(simp [*,Go.Proofs.Ytghlellambnkeaa.Str.bne_nil];done)),H',⟨by have:=HK1.out;omega⟩,⟨by (with_reducible repeat (first|apply Kd.R_alloc|apply Kd.R_drewN|apply Kd.R_drew));exact HO_7.out⟩,⟨by (with_reducible repeat (first|apply Kd.R_alloc|apply Kd.R_drewN|apply Kd.R_drew));exact HO_8.out⟩,⟨by repeat (first|(with_reducible first|exact HB.out|apply xA|apply xN|apply xD)|exact HB.out)⟩⟩
     ·rw [if_neg c11] at H
      exact absurd H (by simp)
    ·rw [if_neg c10] at H
     have c10b0 : decide (x9_1 < (t218.length : Int)) = false:=decide_eq_false c10
     clear c10
     simp only [Option.some.injEq,Prod.mk.injEq] at H
     obtain ⟨rfl,rfl⟩:=H
     obtain ⟨Ao45,co45,eo45⟩:=Kd.R_slice HO_7.out
     subst eo45
     go_wp2
     go_ret2
     exact ⟨_,by first|rfl|(simp [errW_none,errW_some] <;> rfl)|(simp [*,errW_none,errW_some] <;> rfl),by (with_reducible repeat (first|apply Kd.R_alloc|apply Kd.R_drewN|apply Kd.R_drew));exact HO_8.out,by repeat (first|(with_reducible first|exact HB.out|apply xA|apply xN|apply xD)|exact HB.out)⟩
 ·rw [if_neg c4] at H
  have c4b0 : (t217 == 0) = false:=beq_eq_false_iff_ne.mpr c4
  have c4b1 : (t217 != 0) = true:=bne_iff_ne.mpr c4
  simp only [Option.some.injEq,Prod.mk.injEq] at H
  obtain ⟨rfl,rfl⟩:=H
  go_enter Try.func30,Try.ntmps30
  go_wp2_with (first|((with_reducible refine gate_callee (f:=40) rfl ?_);refine goesL_ (some 12) rfl rfl Try.func40 (by kernel_rfl) rfl #[.slice A0 l0.length c0,.slice A1 l1.length c1] rfl (by (try simp only [List.map_toArray,List.map_cons,List.map_nil]);first|done|rfl|(simp only [List.length_drop,List.length_take];rfl)) ?_;(with_reducible refine (tidelineref09_check.calls k _ _ l0 _ _ l1 t217 _ ?side1 ?side2 ?side3 ?side4 A3.out).mono ?_);(case side1 => repeat (first|exact HR0.out|(with_reducible refine Kd.C_alloc ?_ _)|(with_reducible refine Kd.C_drewN ?_ _)|(with_reducible refine Kd.C_drew ?_)));(case side2 => exact HC0.out);(case side3 => repeat (first|exact HR1.out|(with_reducible refine Kd.C_alloc ?_ _)|(with_reducible refine Kd.C_drewN ?_ _)|(with_reducible refine Kd.C_drew ?_)));(case side4 => exact HC1.out);rintro e w46 ⟨rfl,hb⟩;refine ⟨_,rfl,?_⟩;replace HB:=Aside0.mk (below_step (by repeat (first|(with_reducible first|exact HB.out|apply xA|apply xN|apply xD)|exact HB.out)) hb);(try clear hb);(try clear hb2);(try clear hk);(try clear hi)))
  go_ret2
  exact ⟨_,by first|rfl|(simp [errW_none,errW_some] <;> rfl)|(simp [*,errW_none,errW_some] <;> rfl),by first|exact Kd.R_nil _ _ _ _ _|exact Kd.N_nil _ _ _ _ _|exact Kd.V_nil _ _ _ _ _|exact Kd.Q_nil _ _ _ _ _|exact Kd.S_nil _ _ _ _ _,by repeat (first|(with_reducible first|exact HB.out|apply xA|apply xN|apply xD)|exact HB.out)⟩

end Go.Proofs.Ytghlellambnkeaa.PAll
