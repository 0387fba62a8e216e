-- By wip/pr.py (a program of this session, over the kit's print): lines written by program. Not trusted: Lean checks them.
import Derived.Test.YtghlellambnkeaaPAllx0
import Derived.Test.YtghlellambnkeaaPAllx6
import Derived.Test.YtghlellambnkeaaPAllx7
import Derived.Test.YtghlellambnkeaaPAllx8
namespace Go.Proofs.Ytghlellambnkeaa.PAll
open Go.RowKit Go.Proofs.YtghlellambnkeaaW.PrintWords Go.Proofs.YtghlellambnkeaaW.PrintLast Go.Proofs.YtghlellambnkeaaW.PrintMore
attribute [local go_sem] max2_int min2_int max_two min_two max_three min_three max_four min_four   -- for this text's walks alone
set_option linter.unusedVariables false
set_option linter.unusedSimpArgs false

/-! ### tidelineref09_Lacks: function 32 -/
def tidelineref09_Lacks.l0 : Nat → List (S46) → List (S44) → Int → Option ((List (S44)) × Int)
  | 0, _, _, _ => none
  | k + 1, x7, x8, x9 => if x9 < (x7.length : Int) then (if 0 ≤ x9 then ((tidelineref09_none.f ((rd_T46 x7 x9).f0.f0) ((rd_T46 x7 x9).f0.f1.f0) ((rd_T46 x7 x9).f0.f1.f1) ((rd_T46 x7 x9).f0.f2) ((rd_T46 x7 x9).f0.f3)).bind fun t247 => (if t247 = true then (tidelineref09_Lacks.l0 k x7 x8 (wrap64 (x9 + 1))) else ((tidelineref03_Newer.f ((rd_T46 x7 x9).f0.f0) ((rd_T46 x7 x9).f0.f1.f0) ((rd_T46 x7 x9).f0.f1.f1) ((rd_T46 x7 x9).f0.f2) ((rd_T46 x7 x9).f0.f3) ((rd_T46 x7 x9).f1.f0) ((rd_T46 x7 x9).f1.f1.f0) ((rd_T46 x7 x9).f1.f1.f1) ((rd_T46 x7 x9).f1.f2) ((rd_T46 x7 x9).f1.f3)).bind fun t250 => (if t250 = true then (if x8.length < 2513169434916 then (tidelineref09_Lacks.l0 k x7 (x8 ++ [(⟨(rd_T46 x7 x9).f0.f0, (⟨(rd_T46 x7 x9).f0.f1.f0, (rd_T46 x7 x9).f0.f1.f1⟩ : S42), (rd_T46 x7 x9).f0.f2, (rd_T46 x7 x9).f0.f3⟩ : S44)]) (wrap64 (x9 + 1))) else (none)) else (tidelineref09_Lacks.l0 k x7 x8 (wrap64 (x9 + 1))))))) else (none)) else (some (x8, 0))
def tidelineref09_Lacks.f (k : Nat) (l0 : List (S44)) (l1 : List (S44)) : Option ((List (S44)) × Int) := (tidelineref09_check.f k l0 l1).bind fun t239 => (if t239 = 0 then ((tidelineref09_Pairs.f k l0 l1).bind fun t240 => (tidelineref09_Lacks.l0 k t240 (([] : List (S44))) 0)) else (some (([] : List (S44)), t239)))
theorem tidelineref09_Lacks.mono_l : ∀ k, (∀ y0 y1 y2, LeO (tidelineref09_Lacks.l0 k y0 y1 y2) (tidelineref09_Lacks.l0 (k + 1) y0 y1 y2))
  | 0 => fun _ _ _ r h => by simp [tidelineref09_Lacks.l0] at h
  | k + 1 => by
    have ih0 := tidelineref09_Lacks.mono_l k
    · intro y0 y1 y2
      unfold tidelineref09_Lacks.l0
      repeat' first
      | (with_reducible exact ih0 _ _ _)
      | (with_reducible exact tidelineref09_Pairs.mono _ _ _)
      | (with_reducible exact tidelineref09_check.mono _ _ _)
      | (with_reducible exact LeO.refl _)
      | (with_reducible exact LeO.none _)
      | (with_reducible refine LeO.ite ?_ ?_)
      | (with_reducible refine LeO.bind ?_ (fun _ => ?_))
      | exact ih0 _ _ _
      | exact tidelineref09_Pairs.mono _ _ _
      | exact tidelineref09_check.mono _ _ _
      | exact LeO.none _
      | refine LeO.ite ?_ ?_
      | refine LeO.bind ?_ (fun _ => ?_)
theorem tidelineref09_Lacks.mono : ∀ a0 a1 k, LeO (tidelineref09_Lacks.f k a0 a1) (tidelineref09_Lacks.f (k + 1) a0 a1) := by
  intro a0 a1 k
  have ih0 := tidelineref09_Lacks.mono_l k
  unfold tidelineref09_Lacks.f
  repeat' first
      | (with_reducible exact ih0 _ _ _)
      | (with_reducible exact tidelineref09_Pairs.mono _ _ _)
      | (with_reducible exact tidelineref09_check.mono _ _ _)
      | (with_reducible exact LeO.refl _)
      | (with_reducible exact LeO.none _)
      | (with_reducible refine LeO.ite ?_ ?_)
      | (with_reducible refine LeO.bind ?_ (fun _ => ?_))
      | exact ih0 _ _ _
      | exact tidelineref09_Pairs.mono _ _ _
      | exact tidelineref09_check.mono _ _ _
      | exact LeO.none _
      | refine LeO.ite ?_ ?_
      | refine LeO.bind ?_ (fun _ => ?_)
def tidelineref09_Lacks.T9 : Bool × List (List Nat × List Nat) := (true, [([], []), ([], []), ([0, 1], [0, 1]), ([2], [2]), ([3], [3]), ([4], [4]), ([5], [5]), ([6, 5], [6]), ([7], [7]), ([7], [7]), ([8, 9, 7], [7, 8, 9]), ([10, 7], [7, 10]), ([11, 7], [7, 11]), ([7], [7]), ([7], [7]), ([13, 14, 7], [7, 13, 14]), ([15, 7], [7, 15]), ([16, 7], [7, 16]), ([12, 17, 7, 7], [7, 12, 17]), ([7, 18], [7, 18])])
def tidelineref09_Lacks.B9 : List Nat := [0, 0, 3, 7, 15, 31, 63, 127, 255, 255, 1023, 2047, 4095, 255, 255, 24831, 57599, 123135, 262143, 524287]
theorem tidelineref09_Lacks.tab9 : rtab .any (opsOf Try.f32 9) = tidelineref09_Lacks.T9 := by kernel_rfl
theorem tidelineref09_Lacks.bits9 : waitsOk tidelineref09_Lacks.T9.2 tidelineref09_Lacks.B9 = true := by kernel_rfl
set_option maxHeartbeats 8000000 in
set_option maxRecDepth 100000 in
theorem tidelineref09_Lacks.calls (k : Nat) (A0 : Option Addr) (c0 : Nat) (l0 : List (S44)) (A1 : Option Addr) (c1 : Nat) (l1 : List (S44)) (r1 : List (S44)) (r2 : Int) (w : World) (hr0 : Kd.C k44 w A0 l0.length l0) (hc0 : l0.length ≤ c0) (hr1 : Kd.C k44 w A1 l1.length l1) (hc1 : l1.length ≤ c1) (h : tidelineref09_Lacks.f k l0 l1 = some (r1, r2)) :
    Calls Try.prog 32 #[.slice A0 l0.length c0, .slice A1 l1.length c1] w fun e w' => ∃ v0_ : Value, e = .returned (.tuple #[v0_, .int .i64 r2]) ∧ Kd.R k44 44 w' w.heap.size (fun _ => True) v0_ r1 ∧ Below w.heap.size w w' := by
 have hu44:=Try.underlying44
 have HR0:=Aside0.mk hr0
 have HC0:=Aside0.mk hc0
 clear hr0 hc0
 have HR1:=Aside0.mk hr1
 have HC1:=Aside0.mk hc1
 clear hr1 hc1
 have HB:=Aside0.mk (Below.refl w.heap.size w)
 have H : ((tidelineref09_check.f k l0 l1).bind fun t239 => (if t239 = 0 then ((tidelineref09_Pairs.f k l0 l1).bind fun t240 => (tidelineref09_Lacks.l0 k t240 (([] : List (S44))) 0)) else (some (([] : List (S44)),t239)))) = some (r1,r2):=h
 clear h
 replace H:=Option.bind_eq_some_iff.mp H
 obtain ⟨t239,A30,H⟩:=H
 replace H : (if t239 = 0 then ((tidelineref09_Pairs.f k l0 l1).bind fun t240 => (tidelineref09_Lacks.l0 k t240 (([] : List (S44))) 0)) else (some (([] : List (S44)),t239))) = some (r1,r2):=H
 have A3:=Aside0.mk A30
 clear A30
 by_cases c4 : t239 = 0
 ·rw [if_pos c4] at H
  have c4b0 : (t239 == 0) = true:=beq_iff_eq.mpr c4
  have c4b1 : (t239 != 0) = false:=bne_eq_false_iff_eq.mpr c4
  clear c4
  replace H:=Option.bind_eq_some_iff.mp H
  obtain ⟨t240,A50,H⟩:=H
  replace H : (tidelineref09_Lacks.l0 k t240 (([] : List (S44))) 0) = some (r1,r2):=H
  have A5:=Aside0.mk A50
  clear A50
  obtain ⟨y243,hy243⟩ : ∃ y_ : List (S44),y_ = (([] : List (S44))):=⟨_,rfl⟩
  replace H : (tidelineref09_Lacks.l0 k t240 y243 0) = some (r1,r2):=by first|(rw [hy243];with_reducible exact H)|(have H2_:=(Option.bind_some _ _).symm.trans H;rw [hy243];with_reducible exact H2_)|(have H2_:=(Option.bind_some _ _).symm.trans H;with_reducible exact H2_)|with_reducible exact H|(rw [hy243];exact H)|exact H
  have Ny243:=Aside0.mk hy243
  clear hy243
  have H':=Aside0.mk H
  clear H
  go_enter Try.func32,Try.ntmps32
  go_wp2_with (first|((with_reducible refine gate_callee (f:=40) rfl ?_);refine goesL_ (some 12) rfl rfl Try.func40 (by kernel_rfl) rfl #[.slice A0 l0.length c0,.slice A1 l1.length c1] rfl (by (try simp only [List.map_toArray,List.map_cons,List.map_nil]);first|done|rfl|(simp only [List.length_drop,List.length_take];rfl)) ?_;(with_reducible refine (tidelineref09_check.calls k _ _ l0 _ _ l1 t239 _ ?side1 ?side2 ?side3 ?side4 A3.out).mono ?_);(case side1 => repeat (first|exact HR0.out|(with_reducible refine Kd.C_alloc ?_ _)|(with_reducible refine Kd.C_drewN ?_ _)|(with_reducible refine Kd.C_drew ?_)));(case side2 => exact HC0.out);(case side3 => repeat (first|exact HR1.out|(with_reducible refine Kd.C_alloc ?_ _)|(with_reducible refine Kd.C_drewN ?_ _)|(with_reducible refine Kd.C_drew ?_)));(case side4 => exact HC1.out);rintro e w6 ⟨rfl,hb⟩;refine ⟨_,rfl,?_⟩;replace HB:=Aside0.mk (below_step (by repeat (first|(with_reducible first|exact HB.out|apply xA|apply xN|apply xD)|exact HB.out)) hb);(try clear hb);(try clear hb2);(try clear hk);(try clear hi))|((with_reducible refine gate_callee (f:=22) rfl ?_);refine goesL_ (some 18) rfl rfl Try.func22 (by kernel_rfl) rfl #[.slice A0 l0.length c0,.slice A1 l1.length c1] rfl (by (try simp only [List.map_toArray,List.map_cons,List.map_nil]);first|done|rfl|(simp only [List.length_drop,List.length_take];rfl)) ?_;(with_reducible refine (tidelineref09_Pairs.calls k _ _ l0 _ _ l1 t240 _ ?side1 ?side2 ?side3 ?side4 A5.out).mono ?_);(case side1 => repeat (first|exact (Kd.C_below HR0.out HB.out)|(with_reducible refine Kd.C_alloc ?_ _)|(with_reducible refine Kd.C_drewN ?_ _)|(with_reducible refine Kd.C_drew ?_)));(case side2 => exact HC0.out);(case side3 => repeat (first|exact (Kd.C_below HR1.out HB.out)|(with_reducible refine Kd.C_alloc ?_ _)|(with_reducible refine Kd.C_drewN ?_ _)|(with_reducible refine Kd.C_drew ?_)));(case side4 => exact HC1.out);rintro e w7 ⟨v241,rfl,ho0,hb⟩;refine ⟨_,rfl,?_⟩;have n0_:=Aside0.mk (Kd.R_lower ho0 (below_size (by repeat (first|(with_reducible first|exact HB.out|apply xA|apply xN|apply xD)|exact HB.out))));have n1_:=Aside0.mk (below_step (by repeat (first|(with_reducible first|exact HB.out|apply xA|apply xN|apply xD)|exact HB.out)) hb);clear HB;have HO242:=n0_;have HB:=n1_;clear n0_ n1_;(try clear hb);(try clear hb2);(try clear hk);(try clear hi);(try clear ho0))|((with_reducible refine gate_dst (N:=19) rfl ?_);refine Kd.R_lit k44 _ 44 ?hg (N:=19) ?hd (xs:=([] : List (S44))) (inner:=[]) (ok:=fun _ => True) (okp:=fun _ => True) ?hr ?hp (fun _ hk => hk) trivial (Below.refl _ _) (Nat.le_refl _) (by simp) ?_;(case hd => rfl);(case hg => rfl);(case hr => first|(go_simp;done)|(go_simp;rfl));(case hp => exact (Reps.none _ _));intro v244 w8 ho9 hb hg_ hnew_;clear hg_ hnew_;(first|rw [← Ny243.out] at ho9|(simp only [Int.reduceToNat] at ho9;rw [← Ny243.out] at ho9));have n0_:=Aside0.mk (Kd.R_below (by (with_reducible repeat (first|apply Kd.R_alloc|apply Kd.R_drewN|apply Kd.R_drew));exact HO242.out) hb);have n1_:=Aside0.mk (Kd.R_lower ho9 (below_size (by repeat (first|(with_reducible first|exact HB.out|apply xA|apply xN|apply xD)|exact HB.out))));have n2_:=Aside0.mk (below_step (by repeat (first|(with_reducible first|exact HB.out|apply xA|apply xN|apply xD)|exact HB.out)) hb);clear HO242;clear HB;have HO242:=n0_;have HO245:=n1_;have HB:=n2_;clear n0_ n1_ n2_;clear hb ho9))
  go_loopg [8,9] k (fun kq v8 v9 w' => ∃ (x8_1 : List (S44)) (x9_1 : Int),v9 = .int .i64 x9_1 ∧ Aside0 (tidelineref09_Lacks.l0 kq t240 x8_1 x9_1 = some (r1,r2)) ∧ Aside0 (kq ≤ k) ∧ Aside0 (Kd.R k46 46 w' w.heap.size (fun _ => True) v241 t240) ∧ Aside0 (Kd.R k44 44 w' w.heap.size (fun _ => True) v8 x8_1) ∧ Aside0 (Below w.heap.size w w'))
  case atStart => exact ⟨(y243),(0),(by first|rfl|(simp;done)|(simp [*];done)|(simp [*,Go.Proofs.Ytghlellambnkeaa.Str.bne_nil];done)),H',⟨Nat.le_refl _⟩,⟨by (with_reducible repeat (first|apply Kd.R_alloc|apply Kd.R_drewN|apply Kd.R_drew));exact HO242.out⟩,⟨by (with_reducible repeat (first|apply Kd.R_alloc|apply Kd.R_drewN|apply Kd.R_drew));exact HO245.out⟩,⟨by repeat (first|(with_reducible first|exact HB.out|apply xA|apply xN|apply xD)|exact HB.out)⟩⟩
  case round =>
   clear H'
   try clear c1
   try clear c2
   try clear p2
   try clear c3
   try clear c4
   try clear c4b0
   try clear c4b1
   obtain ⟨x8_1,x9_1,rfl,HA,HK1,HO_7,HO_8,HB⟩:=hrel
   cases gk with
  |zero => exact absurd HA.out (by simp [tidelineref09_Lacks.l0])
  |succ k1 =>
    have H:=HA.out
    clear HA
    simp only [tidelineref09_Lacks.l0] at H
    by_cases c10 : x9_1 < (t240.length : Int)
    ·rw [if_pos c10] at H
     have c10b0 : decide (x9_1 < (t240.length : Int)) = true:=decide_eq_true c10
     clear c10
     by_cases c11 : 0 ≤ x9_1
     ·rw [if_pos c11] at H
      have c11b0 : decide (0 ≤ x9_1) = true:=decide_eq_true c11
      clear c11
      replace H:=Option.bind_eq_some_iff.mp H
      obtain ⟨t247,A120,H⟩:=H
      replace H : (if t247 = true then (tidelineref09_Lacks.l0 k1 t240 x8_1 (wrap64 (x9_1 + 1))) else ((tidelineref03_Newer.f ((rd_T46 t240 x9_1).f0.f0) ((rd_T46 t240 x9_1).f0.f1.f0) ((rd_T46 t240 x9_1).f0.f1.f1) ((rd_T46 t240 x9_1).f0.f2) ((rd_T46 t240 x9_1).f0.f3) ((rd_T46 t240 x9_1).f1.f0) ((rd_T46 t240 x9_1).f1.f1.f0) ((rd_T46 t240 x9_1).f1.f1.f1) ((rd_T46 t240 x9_1).f1.f2) ((rd_T46 t240 x9_1).f1.f3)).bind fun t250 => (if t250 = true then (if x8_1.length < 2513169434916 then (tidelineref09_Lacks.l0 k1 t240 (x8_1 ++ [(⟨(rd_T46 t240 x9_1).f0.f0,(⟨(rd_T46 t240 x9_1).f0.f1.f0,(rd_T46 t240 x9_1).f0.f1.f1⟩ : S42),(rd_T46 t240 x9_1).f0.f2,(rd_T46 t240 x9_1).f0.f3⟩ : S44)]) (wrap64 (x9_1 + 1))) else (none)) else (tidelineref09_Lacks.l0 k1 t240 x8_1 (wrap64 (x9_1 + 1)))))) = some (r1,r2):=H
      have A12:=Aside0.mk A120
      clear A120
      by_cases c13 : t247 = true
      ·subst c13
       have H1 : (tidelineref09_Lacks.l0 k1 t240 x8_1 (wrap64 (x9_1 + 1))) = some (r1,r2):=by rw [if_pos rfl] at H;exact H
       clear H
       have H:=H1
       clear H1
       have H':=Aside0.mk H
       clear H
       obtain ⟨Ao14,co14,eo14⟩:=Kd.R_slice HO_7.out
       subst eo14
       try go_wp2
       replace HO_7:=Aside0.mk (Kd.R_drew HO_7.out)
       replace HO_8:=Aside0.mk (Kd.R_drew HO_8.out)
       replace HB:=Aside0.mk (below_drew1 HB.out)
       have p246 : 0 ≤ (x9_1 : Int):=of_decide_eq_true (by first|(with_reducible assumption)|assumption)
       have q246 : x9_1 < (t240.length : Int):=of_decide_eq_true (by first|(with_reducible assumption)|assumption)
       obtain ⟨ad246,e246,hx246_0,hx246_1,hx246_2,hx246_3,hx246_4,hx246_5,hx246_6,hx246_7,hx246_8,hx246_9⟩:=at_T46 (Kd.R_reads' HO_7.out).2.2 x9_1 p246 q246
       cases e246
       replace p246:=eq_true p246
       replace q246:=eq_true q246
       refine start_ (n:=20) (S:=fun w' => w'.cell? (ad246.add ((x9_1).toNat * 10)) = some (.string ((rd_T46 t240 x9_1).f0.f0)) ∧ w'.cell? ⟨(ad246.add ((x9_1).toNat * 10)).block,(ad246.add ((x9_1).toNat * 10)).off + 1,none⟩ = some (.int .i64 ((rd_T46 t240 x9_1).f0.f1.f0)) ∧ w'.cell? ⟨(ad246.add ((x9_1).toNat * 10)).block,(ad246.add ((x9_1).toNat * 10)).off + 2,none⟩ = some (.int .i64 ((rd_T46 t240 x9_1).f0.f1.f1)) ∧ w'.cell? ⟨(ad246.add ((x9_1).toNat * 10)).block,(ad246.add ((x9_1).toNat * 10)).off + 3,none⟩ = some (.string ((rd_T46 t240 x9_1).f0.f2)) ∧ w'.cell? ⟨(ad246.add ((x9_1).toNat * 10)).block,(ad246.add ((x9_1).toNat * 10)).off + 4,none⟩ = some (.bool ((rd_T46 t240 x9_1).f0.f3)) ∧ w'.cell? ⟨(ad246.add ((x9_1).toNat * 10)).block,(ad246.add ((x9_1).toNat * 10)).off + 5,none⟩ = some (.string ((rd_T46 t240 x9_1).f1.f0)) ∧ w'.cell? ⟨(ad246.add ((x9_1).toNat * 10)).block,(ad246.add ((x9_1).toNat * 10)).off + 6,none⟩ = some (.int .i64 ((rd_T46 t240 x9_1).f1.f1.f0)) ∧ w'.cell? ⟨(ad246.add ((x9_1).toNat * 10)).block,(ad246.add ((x9_1).toNat * 10)).off + 7,none⟩ = some (.int .i64 ((rd_T46 t240 x9_1).f1.f1.f1)) ∧ w'.cell? ⟨(ad246.add ((x9_1).toNat * 10)).block,(ad246.add ((x9_1).toNat * 10)).off + 8,none⟩ = some (.string ((rd_T46 t240 x9_1).f1.f2)) ∧ w'.cell? ⟨(ad246.add ((x9_1).toNat * 10)).block,(ad246.add ((x9_1).toNat * 10)).off + 9,none⟩ = some (.bool ((rd_T46 t240 x9_1).f1.f3))) (ds:=[]) #[false,false,false,false,false,false,false,false,false,false,false,false,false,false,false,false,false,false,false,false] (by kernel_rfl) rfl rfl ⟨hx246_0,hx246_1,hx246_2,hx246_3,hx246_4,hx246_5,hx246_6,hx246_7,hx246_8,hx246_9⟩ (fun hHeld => ?_);refine with_tabW tidelineref09_Lacks.tab9 tidelineref09_Lacks.bits9 (fun HT_ HW_ => ?_)
       generalize wr.drew = w15 at HO_7 HO_8 HB hx246_0 hx246_1 hx246_2 hx246_3 hx246_4 hx246_5 hx246_6 hx246_7 hx246_8 hx246_9 hHeld ⊢
       refine pure_ (i:=0) (N:=some 26) (v:=?_) (a':=?_) #[true,false,false,false,false,false,false,false,false,false,false,false,false,false,false,false,false,false,false,false] rfl rfl (any_of HT_.out (by kernel_rfl)) (fun _ _ _ h => h) (Or.inl ⟨by rfl,?_⟩) ?_ ?_
       rotate_left
       ·intro w'
        go_simp
        with_reducible rfl
       rotate_left
       ·simp only [Act.put,List.setIfInBounds_toArray,List.set_cons_zero,List.set_cons_succ,i64_w,i32_w]
        rfl
       refine pure_ (i:=1) (N:=some 27) (v:=?_) (a':=?_) #[true,true,false,false,false,false,false,false,false,false,false,false,false,false,false,false,false,false,false,false] rfl rfl (any_of HT_.out (by kernel_rfl)) (fun _ _ _ h => h) (Or.inl ⟨by rfl,?_⟩) ?_ ?_
       rotate_left
       ·intro w'
        go_simp
        with_reducible rfl
       rotate_left
       ·simp only [Act.put,List.setIfInBounds_toArray,List.set_cons_zero,List.set_cons_succ,i64_w,i32_w]
        rfl
       refine pure_ (i:=2) (N:=some 28) (v:=?_) (a':=?_) #[true,true,true,false,false,false,false,false,false,false,false,false,false,false,false,false,false,false,false,false] rfl rfl (any_of HT_.out (by kernel_rfl)) (fun _ _ _ h => h) (Or.inl ⟨by rfl,?_⟩) ?_ ?_
       rotate_left
       ·intro w'
        go_simp
        with_reducible rfl
       rotate_left
       ·simp only [Act.put,List.setIfInBounds_toArray,List.set_cons_zero,List.set_cons_succ,i64_w,i32_w]
        rfl
       refine pure_ (i:=3) (N:=some 29) (v:=?_) (a':=?_) #[true,true,true,true,false,false,false,false,false,false,false,false,false,false,false,false,false,false,false,false] rfl rfl (any_of HT_.out (by kernel_rfl)) (fun _ _ _ h => h) (Or.inl ⟨by rfl,?_⟩) ?_ ?_
       rotate_left
       ·intro w'
        go_simp
        with_reducible rfl
       rotate_left
       ·simp only [Act.put,List.setIfInBounds_toArray,List.set_cons_zero,List.set_cons_succ,i64_w,i32_w]
        rfl
       refine take_ (i:=4) (N:=some 30) (v:=?_) (a':=?_) #[true,true,true,true,true,false,false,false,false,false,false,false,false,false,false,false,false,false,false,false] rfl rfl (take_ofW HT_.out HW_.out (by kernel_rfl)) (fun _ _ _ h => h) (Or.inl ⟨by rfl,?_⟩) hHeld ?_ ?_
       rotate_left
       ·rintro w' ⟨s0,s1,s2,s3,s4,s5,s6,s7,s8,s9⟩
        go_simp
        with_reducible rfl
       rotate_left
       ·simp only [Act.put,List.setIfInBounds_toArray,List.set_cons_zero,List.set_cons_succ,i64_w,i32_w]
        rfl
       refine one_ (i:=5) (N:=some 31) #[true,true,true,true,true,true,false,false,false,false,false,false,false,false,false,false,false,false,false,false] rfl rfl (one_of HT_.out (by kernel_rfl)) (by decide) (fun K hK => ?_)
       refine goes_ Try.func47 (by kernel_rfl) rfl #[.agg #[.string ((rd_T46 t240 x9_1).f0.f0),.int .i64 ((rd_T46 t240 x9_1).f0.f1.f0),.int .i64 ((rd_T46 t240 x9_1).f0.f1.f1),.string ((rd_T46 t240 x9_1).f0.f2),.bool ((rd_T46 t240 x9_1).f0.f3)]] (by rfl) rfl rfl (by (try simp only [List.map_toArray,List.map_cons,List.map_nil]);first|done|rfl|(simp only [List.length_drop,List.length_take];rfl)) ?_
       with_reducible refine (tidelineref09_none.calls ((rd_T46 t240 x9_1).f0.f0) ((rd_T46 t240 x9_1).f0.f1.f0) ((rd_T46 t240 x9_1).f0.f1.f1) ((rd_T46 t240 x9_1).f0.f2) ((rd_T46 t240 x9_1).f0.f3) true _ A12.out).mono ?_
       rintro e w16 ⟨rfl,hb⟩
       have HS0_:=(hb.cell (World.block_lt_of_cell? _ _ (hHeld.1))).trans (hHeld.1)
       have HS1_:=(hb.cell (World.block_lt_of_cell? _ _ (hHeld.2.1))).trans (hHeld.2.1)
       have HS2_:=(hb.cell (World.block_lt_of_cell? _ _ (hHeld.2.2.1))).trans (hHeld.2.2.1)
       have HS3_:=(hb.cell (World.block_lt_of_cell? _ _ (hHeld.2.2.2.1))).trans (hHeld.2.2.2.1)
       have HS4_:=(hb.cell (World.block_lt_of_cell? _ _ (hHeld.2.2.2.2.1))).trans (hHeld.2.2.2.2.1)
       have HS5_:=(hb.cell (World.block_lt_of_cell? _ _ (hHeld.2.2.2.2.2.1))).trans (hHeld.2.2.2.2.2.1)
       have HS6_:=(hb.cell (World.block_lt_of_cell? _ _ (hHeld.2.2.2.2.2.2.1))).trans (hHeld.2.2.2.2.2.2.1)
       have HS7_:=(hb.cell (World.block_lt_of_cell? _ _ (hHeld.2.2.2.2.2.2.2.1))).trans (hHeld.2.2.2.2.2.2.2.1)
       have HS8_:=(hb.cell (World.block_lt_of_cell? _ _ (hHeld.2.2.2.2.2.2.2.2.1))).trans (hHeld.2.2.2.2.2.2.2.2.1)
       have HS9_:=(hb.cell (World.block_lt_of_cell? _ _ (hHeld.2.2.2.2.2.2.2.2.2))).trans (hHeld.2.2.2.2.2.2.2.2.2)
       refine ⟨_,rfl,?_⟩
       replace HO_7:=Aside0.mk (Kd.R_below (by (with_reducible repeat (first|apply Kd.R_alloc|apply Kd.R_drewN|apply Kd.R_drew));exact HO_7.out) hb)
       replace HO_8:=Aside0.mk (Kd.R_below (by (with_reducible repeat (first|apply Kd.R_alloc|apply Kd.R_drewN|apply Kd.R_drew));exact HO_8.out) hb)
       replace HB:=Aside0.mk (below_step (by repeat (first|(with_reducible first|exact HB.out|apply xA|apply xN|apply xD)|exact HB.out)) hb)
       (try clear hb)
       (try clear hb2)
       (try clear hk)
       (try clear hi)
       refine hK.out _ _ ⟨HS0_,HS1_,HS2_,HS3_,HS4_,HS5_,HS6_,HS7_,HS8_,HS9_⟩ (fun hHeld => ?_)
       clear hK K
       refine norm_ (a':=?_) ?_ ?_
       rotate_left
       ·show Act.put _ (some 31) _ = _
        simp only [Act.put,List.setIfInBounds_toArray,List.set_cons_zero,List.set_cons_succ,i64_w,i32_w]
        rfl
       refine pure_ (i:=6) (N:=some 32) (v:=?_) (a':=?_) #[true,true,true,true,true,true,true,false,false,false,false,false,false,false,false,false,false,false,false,false] rfl rfl (any_of HT_.out (by kernel_rfl)) (fun _ _ _ h => h) (Or.inl ⟨by rfl,?_⟩) ?_ ?_
       rotate_left
       ·intro w'
        go_simp
        with_reducible rfl
       rotate_left
       ·simp only [Act.put,List.setIfInBounds_toArray,List.set_cons_zero,List.set_cons_succ,i64_w,i32_w]
        rfl
       refine pure_ (i:=7) (N:=some 33) (v:=?_) (a':=?_) #[true,true,true,true,true,true,true,true,false,false,false,false,false,false,false,false,false,false,false,false] rfl rfl (any_of HT_.out (by kernel_rfl)) (fun _ _ _ h => h) (Or.inl ⟨by rfl,?_⟩) ?_ ?_
       rotate_left
       ·intro w'
        go_simp
        with_reducible rfl
       rotate_left
       ·simp only [Act.put,List.setIfInBounds_toArray,List.set_cons_zero,List.set_cons_succ,i64_w,i32_w]
        rfl
       refine pure_ (i:=8) (N:=some 34) (v:=undef) (a':=?_) #[true,true,true,true,true,true,true,true,true,false,false,false,false,false,false,false,false,false,false,false] rfl rfl (any_of HT_.out (by kernel_rfl)) (fun _ _ _ h => h) (Or.inr ⟨by rfl,rfl⟩) ?_ ?_
       rotate_left
       ·simp only [Act.put,List.setIfInBounds_toArray,List.set_cons_zero,List.set_cons_succ,i64_w,i32_w]
        rfl
       refine pure_ (i:=9) (N:=some 35) (v:=undef) (a':=?_) #[true,true,true,true,true,true,true,true,true,true,false,false,false,false,false,false,false,false,false,false] rfl rfl (any_of HT_.out (by kernel_rfl)) (fun _ _ _ h => h) (Or.inr ⟨by rfl,rfl⟩) ?_ ?_
       rotate_left
       ·simp only [Act.put,List.setIfInBounds_toArray,List.set_cons_zero,List.set_cons_succ,i64_w,i32_w]
        rfl
       refine pure_ (i:=10) (N:=some 36) (v:=undef) (a':=?_) #[true,true,true,true,true,true,true,true,true,true,true,false,false,false,false,false,false,false,false,false] rfl rfl (any_of HT_.out (by kernel_rfl)) (fun _ _ _ h => h) (Or.inr ⟨by rfl,rfl⟩) ?_ ?_
       rotate_left
       ·simp only [Act.put,List.setIfInBounds_toArray,List.set_cons_zero,List.set_cons_succ,i64_w,i32_w]
        rfl
       refine pure_ (i:=11) (N:=some 37) (v:=undef) (a':=?_) #[true,true,true,true,true,true,true,true,true,true,true,true,false,false,false,false,false,false,false,false] rfl rfl (any_of HT_.out (by kernel_rfl)) (fun _ _ _ h => h) (Or.inr ⟨by rfl,rfl⟩) ?_ ?_
       rotate_left
       ·simp only [Act.put,List.setIfInBounds_toArray,List.set_cons_zero,List.set_cons_succ,i64_w,i32_w]
        rfl
       refine pure_ (i:=12) (N:=some 38) (v:=undef) (a':=?_) #[true,true,true,true,true,true,true,true,true,true,true,true,true,false,false,false,false,false,false,false] rfl rfl (any_of HT_.out (by kernel_rfl)) (fun _ _ _ h => h) (Or.inr ⟨by rfl,rfl⟩) ?_ ?_
       rotate_left
       ·simp only [Act.put,List.setIfInBounds_toArray,List.set_cons_zero,List.set_cons_succ,i64_w,i32_w]
        rfl
       refine pure_ (i:=13) (N:=some 39) (v:=undef) (a':=?_) #[true,true,true,true,true,true,true,true,true,true,true,true,true,true,false,false,false,false,false,false] rfl rfl (any_of HT_.out (by kernel_rfl)) (fun _ _ _ h => h) (Or.inr ⟨by rfl,rfl⟩) ?_ ?_
       rotate_left
       ·simp only [Act.put,List.setIfInBounds_toArray,List.set_cons_zero,List.set_cons_succ,i64_w,i32_w]
        rfl
       refine pure_ (i:=14) (N:=some 40) (v:=undef) (a':=?_) #[true,true,true,true,true,true,true,true,true,true,true,true,true,true,true,false,false,false,false,false] rfl rfl (any_of HT_.out (by kernel_rfl)) (fun _ _ _ h => h) (Or.inr ⟨by rfl,rfl⟩) ?_ ?_
       rotate_left
       ·simp only [Act.put,List.setIfInBounds_toArray,List.set_cons_zero,List.set_cons_succ,i64_w,i32_w]
        rfl
       refine pure_ (i:=15) (N:=some 41) (v:=undef) (a':=?_) #[true,true,true,true,true,true,true,true,true,true,true,true,true,true,true,true,false,false,false,false] rfl rfl (any_of HT_.out (by kernel_rfl)) (fun _ _ _ h => h) (Or.inr ⟨by rfl,rfl⟩) ?_ ?_
       rotate_left
       ·simp only [Act.put,List.setIfInBounds_toArray,List.set_cons_zero,List.set_cons_succ,i64_w,i32_w]
        rfl
       refine pure_ (i:=16) (N:=some 42) (v:=undef) (a':=?_) #[true,true,true,true,true,true,true,true,true,true,true,true,true,true,true,true,true,false,false,false] rfl rfl (any_of HT_.out (by kernel_rfl)) (fun _ _ _ h => h) (Or.inr ⟨by rfl,rfl⟩) ?_ ?_
       rotate_left
       ·simp only [Act.put,List.setIfInBounds_toArray,List.set_cons_zero,List.set_cons_succ,i64_w,i32_w]
        rfl
       refine pure_ (i:=17) (N:=some 43) (v:=undef) (a':=?_) #[true,true,true,true,true,true,true,true,true,true,true,true,true,true,true,true,true,true,false,false] rfl rfl (any_of HT_.out (by kernel_rfl)) (fun _ _ _ h => h) (Or.inr ⟨by rfl,rfl⟩) ?_ ?_
       rotate_left
       ·simp only [Act.put,List.setIfInBounds_toArray,List.set_cons_zero,List.set_cons_succ,i64_w,i32_w]
        rfl
       refine pure_ (i:=18) (N:=some 44) (v:=undef) (a':=?_) #[true,true,true,true,true,true,true,true,true,true,true,true,true,true,true,true,true,true,true,false] rfl rfl (any_of HT_.out (by kernel_rfl)) (fun _ _ _ h => h) (Or.inr ⟨by rfl,rfl⟩) ?_ ?_
       rotate_left
       ·simp only [Act.put,List.setIfInBounds_toArray,List.set_cons_zero,List.set_cons_succ,i64_w,i32_w]
        rfl
       refine pure_ (i:=19) (N:=some 45) (v:=?_) (a':=?_) #[true,true,true,true,true,true,true,true,true,true,true,true,true,true,true,true,true,true,true,true] rfl rfl (any_of HT_.out (by kernel_rfl)) (fun _ _ _ h => h) (Or.inl ⟨by rfl,?_⟩) ?_ ?_
       rotate_left
       ·intro w'
        go_simp
        with_reducible rfl
       rotate_left
       ·simp only [Act.put,List.setIfInBounds_toArray,List.set_cons_zero,List.set_cons_succ,i64_w,i32_w]
        rfl
       refine done_ (done_of HT_.out (by kernel_rfl)) ?_
       try go_wp2
       go_roundg k1
       case measure => have:=HK1.out;omega
       case rel => exact ⟨(x8_1),(wrap64 (x9_1 + 1)),(by first|rfl|(simp;done)|(simp [*];done)|(simp [*,Go.Proofs.Ytghlellambnkeaa.Str.bne_nil];done)),H',⟨by have:=HK1.out;omega⟩,⟨by (with_reducible repeat (first|apply Kd.R_alloc|apply Kd.R_drewN|apply Kd.R_drew));exact HO_7.out⟩,⟨by (with_reducible repeat (first|apply Kd.R_alloc|apply Kd.R_drewN|apply Kd.R_drew));exact HO_8.out⟩,⟨by repeat (first|(with_reducible first|exact HB.out|apply xA|apply xN|apply xD)|exact HB.out)⟩⟩
      ·replace c13:=Bool.eq_false_iff.mpr c13
       subst c13
       have H1 : ((tidelineref03_Newer.f ((rd_T46 t240 x9_1).f0.f0) ((rd_T46 t240 x9_1).f0.f1.f0) ((rd_T46 t240 x9_1).f0.f1.f1) ((rd_T46 t240 x9_1).f0.f2) ((rd_T46 t240 x9_1).f0.f3) ((rd_T46 t240 x9_1).f1.f0) ((rd_T46 t240 x9_1).f1.f1.f0) ((rd_T46 t240 x9_1).f1.f1.f1) ((rd_T46 t240 x9_1).f1.f2) ((rd_T46 t240 x9_1).f1.f3)).bind fun t250 => (if t250 = true then (if x8_1.length < 2513169434916 then (tidelineref09_Lacks.l0 k1 t240 (x8_1 ++ [(⟨(rd_T46 t240 x9_1).f0.f0,(⟨(rd_T46 t240 x9_1).f0.f1.f0,(rd_T46 t240 x9_1).f0.f1.f1⟩ : S42),(rd_T46 t240 x9_1).f0.f2,(rd_T46 t240 x9_1).f0.f3⟩ : S44)]) (wrap64 (x9_1 + 1))) else (none)) else (tidelineref09_Lacks.l0 k1 t240 x8_1 (wrap64 (x9_1 + 1))))) = some (r1,r2):=by rw [if_neg (show ¬ (false = true) by decide)] at H;exact H
       clear H
       have H:=H1
       clear H1
       replace H:=Option.bind_eq_some_iff.mp H
       obtain ⟨t250,A170,H⟩:=H
       replace H : (if t250 = true then (if x8_1.length < 2513169434916 then (tidelineref09_Lacks.l0 k1 t240 (x8_1 ++ [(⟨(rd_T46 t240 x9_1).f0.f0,(⟨(rd_T46 t240 x9_1).f0.f1.f0,(rd_T46 t240 x9_1).f0.f1.f1⟩ : S42),(rd_T46 t240 x9_1).f0.f2,(rd_T46 t240 x9_1).f0.f3⟩ : S44)]) (wrap64 (x9_1 + 1))) else (none)) else (tidelineref09_Lacks.l0 k1 t240 x8_1 (wrap64 (x9_1 + 1)))) = some (r1,r2):=H
       have A17:=Aside0.mk A170
       clear A170
       by_cases c18 : t250 = true
       ·subst c18
        have H1 : (if x8_1.length < 2513169434916 then (tidelineref09_Lacks.l0 k1 t240 (x8_1 ++ [(⟨(rd_T46 t240 x9_1).f0.f0,(⟨(rd_T46 t240 x9_1).f0.f1.f0,(rd_T46 t240 x9_1).f0.f1.f1⟩ : S42),(rd_T46 t240 x9_1).f0.f2,(rd_T46 t240 x9_1).f0.f3⟩ : S44)]) (wrap64 (x9_1 + 1))) else (none)) = some (r1,r2):=by rw [if_pos rfl] at H;exact H
        clear H
        have H:=H1
        clear H1
        by_cases c19 : x8_1.length < 2513169434916
        ·rw [if_pos c19] at H
         have LMc19:=Aside0.mk c19
         clear c19
         obtain ⟨y252,hy252⟩ : ∃ y_ : List (S44),y_ = (x8_1 ++ [(⟨(rd_T46 t240 x9_1).f0.f0,(⟨(rd_T46 t240 x9_1).f0.f1.f0,(rd_T46 t240 x9_1).f0.f1.f1⟩ : S42),(rd_T46 t240 x9_1).f0.f2,(rd_T46 t240 x9_1).f0.f3⟩ : S44)]):=⟨_,rfl⟩
         replace H : (tidelineref09_Lacks.l0 k1 t240 y252 (wrap64 (x9_1 + 1))) = some (r1,r2):=by first|(rw [hy252];with_reducible exact H)|(have H2_:=(Option.bind_some _ _).symm.trans H;rw [hy252];with_reducible exact H2_)|(have H2_:=(Option.bind_some _ _).symm.trans H;with_reducible exact H2_)|with_reducible exact H|(rw [hy252];exact H)|exact H
         have Ny252:=Aside0.mk hy252
         clear hy252
         have H':=Aside0.mk H
         clear H
         obtain ⟨Ao20,co20,eo20⟩:=Kd.R_slice HO_7.out
         subst eo20
         try go_wp2
         replace HO_7:=Aside0.mk (Kd.R_drew HO_7.out)
         replace HO_8:=Aside0.mk (Kd.R_drew HO_8.out)
         replace HB:=Aside0.mk (below_drew1 HB.out)
         have p246 : 0 ≤ (x9_1 : Int):=of_decide_eq_true (by first|(with_reducible assumption)|assumption)
         have q246 : x9_1 < (t240.length : Int):=of_decide_eq_true (by first|(with_reducible assumption)|assumption)
         obtain ⟨ad246,e246,hx246_0,hx246_1,hx246_2,hx246_3,hx246_4,hx246_5,hx246_6,hx246_7,hx246_8,hx246_9⟩:=at_T46 (Kd.R_reads' HO_7.out).2.2 x9_1 p246 q246
         cases e246
         replace p246:=eq_true p246
         replace q246:=eq_true q246
         have p248 : 0 ≤ (x9_1 : Int):=of_decide_eq_true (by first|(with_reducible assumption)|assumption)
         have q248 : x9_1 < (t240.length : Int):=of_decide_eq_true (by first|(with_reducible assumption)|assumption)
         obtain ⟨ad248,e248,hx248_0,hx248_1,hx248_2,hx248_3,hx248_4,hx248_5,hx248_6,hx248_7,hx248_8,hx248_9⟩:=at_T46 (Kd.R_reads' HO_7.out).2.2 x9_1 p248 q248
         obtain rfl : ad246 = ad248:=(by injection e248)
         replace p248:=eq_true p248
         replace q248:=eq_true q248
         have p249 : 0 ≤ (x9_1 : Int):=of_decide_eq_true (by first|(with_reducible assumption)|assumption)
         have q249 : x9_1 < (t240.length : Int):=of_decide_eq_true (by first|(with_reducible assumption)|assumption)
         obtain ⟨ad249,e249,hx249_0,hx249_1,hx249_2,hx249_3,hx249_4,hx249_5,hx249_6,hx249_7,hx249_8,hx249_9⟩:=at_T46 (Kd.R_reads' HO_7.out).2.2 x9_1 p249 q249
         obtain rfl : ad246 = ad249:=(by injection e249)
         replace p249:=eq_true p249
         replace q249:=eq_true q249
         refine start_ (n:=20) (S:=fun w' => w'.cell? (ad246.add ((x9_1).toNat * 10)) = some (.string ((rd_T46 t240 x9_1).f0.f0)) ∧ w'.cell? ⟨(ad246.add ((x9_1).toNat * 10)).block,(ad246.add ((x9_1).toNat * 10)).off + 1,none⟩ = some (.int .i64 ((rd_T46 t240 x9_1).f0.f1.f0)) ∧ w'.cell? ⟨(ad246.add ((x9_1).toNat * 10)).block,(ad246.add ((x9_1).toNat * 10)).off + 2,none⟩ = some (.int .i64 ((rd_T46 t240 x9_1).f0.f1.f1)) ∧ w'.cell? ⟨(ad246.add ((x9_1).toNat * 10)).block,(ad246.add ((x9_1).toNat * 10)).off + 3,none⟩ = some (.string ((rd_T46 t240 x9_1).f0.f2)) ∧ w'.cell? ⟨(ad246.add ((x9_1).toNat * 10)).block,(ad246.add ((x9_1).toNat * 10)).off + 4,none⟩ = some (.bool ((rd_T46 t240 x9_1).f0.f3)) ∧ w'.cell? ⟨(ad246.add ((x9_1).toNat * 10)).block,(ad246.add ((x9_1).toNat * 10)).off + 5,none⟩ = some (.string ((rd_T46 t240 x9_1).f1.f0)) ∧ w'.cell? ⟨(ad246.add ((x9_1).toNat * 10)).block,(ad246.add ((x9_1).toNat * 10)).off + 6,none⟩ = some (.int .i64 ((rd_T46 t240 x9_1).f1.f1.f0)) ∧ w'.cell? ⟨(ad246.add ((x9_1).toNat * 10)).block,(ad246.add ((x9_1).toNat * 10)).off + 7,none⟩ = some (.int .i64 ((rd_T46 t240 x9_1).f1.f1.f1)) ∧ w'.cell? ⟨(ad246.add ((x9_1).toNat * 10)).block,(ad246.add ((x9_1).toNat * 10)).off + 8,none⟩ = some (.string ((rd_T46 t240 x9_1).f1.f2)) ∧ w'.cell? ⟨(ad246.add ((x9_1).toNat * 10)).block,(ad246.add ((x9_1).toNat * 10)).off + 9,none⟩ = some (.bool ((rd_T46 t240 x9_1).f1.f3)) ∧ w'.cell? (ad246.add ((x9_1).toNat * 10)) = some (.string ((rd_T46 t240 x9_1).f0.f0)) ∧ w'.cell? ⟨(ad246.add ((x9_1).toNat * 10)).block,(ad246.add ((x9_1).toNat * 10)).off + 1,none⟩ = some (.int .i64 ((rd_T46 t240 x9_1).f0.f1.f0)) ∧ w'.cell? ⟨(ad246.add ((x9_1).toNat * 10)).block,(ad246.add ((x9_1).toNat * 10)).off + 2,none⟩ = some (.int .i64 ((rd_T46 t240 x9_1).f0.f1.f1)) ∧ w'.cell? ⟨(ad246.add ((x9_1).toNat * 10)).block,(ad246.add ((x9_1).toNat * 10)).off + 3,none⟩ = some (.string ((rd_T46 t240 x9_1).f0.f2)) ∧ w'.cell? ⟨(ad246.add ((x9_1).toNat * 10)).block,(ad246.add ((x9_1).toNat * 10)).off + 4,none⟩ = some (.bool ((rd_T46 t240 x9_1).f0.f3)) ∧ w'.cell? ⟨(ad246.add ((x9_1).toNat * 10)).block,(ad246.add ((x9_1).toNat * 10)).off + 5,none⟩ = some (.string ((rd_T46 t240 x9_1).f1.f0)) ∧ w'.cell? ⟨(ad246.add ((x9_1).toNat * 10)).block,(ad246.add ((x9_1).toNat * 10)).off + 6,none⟩ = some (.int .i64 ((rd_T46 t240 x9_1).f1.f1.f0)) ∧ w'.cell? ⟨(ad246.add ((x9_1).toNat * 10)).block,(ad246.add ((x9_1).toNat * 10)).off + 7,none⟩ = some (.int .i64 ((rd_T46 t240 x9_1).f1.f1.f1)) ∧ w'.cell? ⟨(ad246.add ((x9_1).toNat * 10)).block,(ad246.add ((x9_1).toNat * 10)).off + 8,none⟩ = some (.string ((rd_T46 t240 x9_1).f1.f2)) ∧ w'.cell? ⟨(ad246.add ((x9_1).toNat * 10)).block,(ad246.add ((x9_1).toNat * 10)).off + 9,none⟩ = some (.bool ((rd_T46 t240 x9_1).f1.f3)) ∧ w'.cell? (ad246.add ((x9_1).toNat * 10)) = some (.string ((rd_T46 t240 x9_1).f0.f0)) ∧ w'.cell? ⟨(ad246.add ((x9_1).toNat * 10)).block,(ad246.add ((x9_1).toNat * 10)).off + 1,none⟩ = some (.int .i64 ((rd_T46 t240 x9_1).f0.f1.f0)) ∧ w'.cell? ⟨(ad246.add ((x9_1).toNat * 10)).block,(ad246.add ((x9_1).toNat * 10)).off + 2,none⟩ = some (.int .i64 ((rd_T46 t240 x9_1).f0.f1.f1)) ∧ w'.cell? ⟨(ad246.add ((x9_1).toNat * 10)).block,(ad246.add ((x9_1).toNat * 10)).off + 3,none⟩ = some (.string ((rd_T46 t240 x9_1).f0.f2)) ∧ w'.cell? ⟨(ad246.add ((x9_1).toNat * 10)).block,(ad246.add ((x9_1).toNat * 10)).off + 4,none⟩ = some (.bool ((rd_T46 t240 x9_1).f0.f3)) ∧ w'.cell? ⟨(ad246.add ((x9_1).toNat * 10)).block,(ad246.add ((x9_1).toNat * 10)).off + 5,none⟩ = some (.string ((rd_T46 t240 x9_1).f1.f0)) ∧ w'.cell? ⟨(ad246.add ((x9_1).toNat * 10)).block,(ad246.add ((x9_1).toNat * 10)).off + 6,none⟩ = some (.int .i64 ((rd_T46 t240 x9_1).f1.f1.f0)) ∧ w'.cell? ⟨(ad246.add ((x9_1).toNat * 10)).block,(ad246.add ((x9_1).toNat * 10)).off + 7,none⟩ = some (.int .i64 ((rd_T46 t240 x9_1).f1.f1.f1)) ∧ w'.cell? ⟨(ad246.add ((x9_1).toNat * 10)).block,(ad246.add ((x9_1).toNat * 10)).off + 8,none⟩ = some (.string ((rd_T46 t240 x9_1).f1.f2)) ∧ w'.cell? ⟨(ad246.add ((x9_1).toNat * 10)).block,(ad246.add ((x9_1).toNat * 10)).off + 9,none⟩ = some (.bool ((rd_T46 t240 x9_1).f1.f3))) (ds:=[]) #[false,false,false,false,false,false,false,false,false,false,false,false,false,false,false,false,false,false,false,false] (by kernel_rfl) rfl rfl ⟨hx246_0,hx246_1,hx246_2,hx246_3,hx246_4,hx246_5,hx246_6,hx246_7,hx246_8,hx246_9,hx248_0,hx248_1,hx248_2,hx248_3,hx248_4,hx248_5,hx248_6,hx248_7,hx248_8,hx248_9,hx249_0,hx249_1,hx249_2,hx249_3,hx249_4,hx249_5,hx249_6,hx249_7,hx249_8,hx249_9⟩ (fun hHeld => ?_);refine with_tabW tidelineref09_Lacks.tab9 tidelineref09_Lacks.bits9 (fun HT_ HW_ => ?_)
         generalize wr.drew = w21 at HO_7 HO_8 HB hx246_0 hx246_1 hx246_2 hx246_3 hx246_4 hx246_5 hx246_6 hx246_7 hx246_8 hx246_9 hx248_0 hx248_1 hx248_2 hx248_3 hx248_4 hx248_5 hx248_6 hx248_7 hx248_8 hx248_9 hx249_0 hx249_1 hx249_2 hx249_3 hx249_4 hx249_5 hx249_6 hx249_7 hx249_8 hx249_9 hHeld ⊢
         refine pure_ (i:=0) (N:=some 26) (v:=?_) (a':=?_) #[true,false,false,false,false,false,false,false,false,false,false,false,false,false,false,false,false,false,false,false] rfl rfl (any_of HT_.out (by kernel_rfl)) (fun _ _ _ h => h) (Or.inl ⟨by rfl,?_⟩) ?_ ?_
         rotate_left
         ·intro w'
          go_simp
          with_reducible rfl
         rotate_left
         ·simp only [Act.put,List.setIfInBounds_toArray,List.set_cons_zero,List.set_cons_succ,i64_w,i32_w]
          rfl
         refine pure_ (i:=1) (N:=some 27) (v:=?_) (a':=?_) #[true,true,false,false,false,false,false,false,false,false,false,false,false,false,false,false,false,false,false,false] rfl rfl (any_of HT_.out (by kernel_rfl)) (fun _ _ _ h => h) (Or.inl ⟨by rfl,?_⟩) ?_ ?_
         rotate_left
         ·intro w'
          go_simp
          with_reducible rfl
         rotate_left
         ·simp only [Act.put,List.setIfInBounds_toArray,List.set_cons_zero,List.set_cons_succ,i64_w,i32_w]
          rfl
         refine pure_ (i:=2) (N:=some 28) (v:=?_) (a':=?_) #[true,true,true,false,false,false,false,false,false,false,false,false,false,false,false,false,false,false,false,false] rfl rfl (any_of HT_.out (by kernel_rfl)) (fun _ _ _ h => h) (Or.inl ⟨by rfl,?_⟩) ?_ ?_
         rotate_left
         ·intro w'
          go_simp
          with_reducible rfl
         rotate_left
         ·simp only [Act.put,List.setIfInBounds_toArray,List.set_cons_zero,List.set_cons_succ,i64_w,i32_w]
          rfl
         refine pure_ (i:=3) (N:=some 29) (v:=?_) (a':=?_) #[true,true,true,true,false,false,false,false,false,false,false,false,false,false,false,false,false,false,false,false] rfl rfl (any_of HT_.out (by kernel_rfl)) (fun _ _ _ h => h) (Or.inl ⟨by rfl,?_⟩) ?_ ?_
         rotate_left
         ·intro w'
          go_simp
          with_reducible rfl
         rotate_left
         ·simp only [Act.put,List.setIfInBounds_toArray,List.set_cons_zero,List.set_cons_succ,i64_w,i32_w]
          rfl
         refine take_ (i:=4) (N:=some 30) (v:=?_) (a':=?_) #[true,true,true,true,true,false,false,false,false,false,false,false,false,false,false,false,false,false,false,false] rfl rfl (take_ofW HT_.out HW_.out (by kernel_rfl)) (fun _ _ _ h => h) (Or.inl ⟨by rfl,?_⟩) hHeld ?_ ?_
         rotate_left
         ·rintro w' ⟨s0,s1,s2,s3,s4,s5,s6,s7,s8,s9,s10,s11,s12,s13,s14,s15,s16,s17,s18,s19,s20,s21,s22,s23,s24,s25,s26,s27,s28,s29⟩
          go_simp
          with_reducible rfl
         rotate_left
         ·simp only [Act.put,List.setIfInBounds_toArray,List.set_cons_zero,List.set_cons_succ,i64_w,i32_w]
          rfl
         refine one_ (i:=5) (N:=some 31) #[true,true,true,true,true,true,false,false,false,false,false,false,false,false,false,false,false,false,false,false] rfl rfl (one_of HT_.out (by kernel_rfl)) (by decide) (fun K hK => ?_)
         refine goes_ Try.func47 (by kernel_rfl) rfl #[.agg #[.string ((rd_T46 t240 x9_1).f0.f0),.int .i64 ((rd_T46 t240 x9_1).f0.f1.f0),.int .i64 ((rd_T46 t240 x9_1).f0.f1.f1),.string ((rd_T46 t240 x9_1).f0.f2),.bool ((rd_T46 t240 x9_1).f0.f3)]] (by rfl) rfl rfl (by (try simp only [List.map_toArray,List.map_cons,List.map_nil]);first|done|rfl|(simp only [List.length_drop,List.length_take];rfl)) ?_
         with_reducible refine (tidelineref09_none.calls ((rd_T46 t240 x9_1).f0.f0) ((rd_T46 t240 x9_1).f0.f1.f0) ((rd_T46 t240 x9_1).f0.f1.f1) ((rd_T46 t240 x9_1).f0.f2) ((rd_T46 t240 x9_1).f0.f3) false _ A12.out).mono ?_
         rintro e w22 ⟨rfl,hb⟩
         have HS0_:=(hb.cell (World.block_lt_of_cell? _ _ (hHeld.1))).trans (hHeld.1)
         have HS1_:=(hb.cell (World.block_lt_of_cell? _ _ (hHeld.2.1))).trans (hHeld.2.1)
         have HS2_:=(hb.cell (World.block_lt_of_cell? _ _ (hHeld.2.2.1))).trans (hHeld.2.2.1)
         have HS3_:=(hb.cell (World.block_lt_of_cell? _ _ (hHeld.2.2.2.1))).trans (hHeld.2.2.2.1)
         have HS4_:=(hb.cell (World.block_lt_of_cell? _ _ (hHeld.2.2.2.2.1))).trans (hHeld.2.2.2.2.1)
         have HS5_:=(hb.cell (World.block_lt_of_cell? _ _ (hHeld.2.2.2.2.2.1))).trans (hHeld.2.2.2.2.2.1)
         have HS6_:=(hb.cell (World.block_lt_of_cell? _ _ (hHeld.2.2.2.2.2.2.1))).trans (hHeld.2.2.2.2.2.2.1)
         have HS7_:=(hb.cell (World.block_lt_of_cell? _ _ (hHeld.2.2.2.2.2.2.2.1))).trans (hHeld.2.2.2.2.2.2.2.1)
         have HS8_:=(hb.cell (World.block_lt_of_cell? _ _ (hHeld.2.2.2.2.2.2.2.2.1))).trans (hHeld.2.2.2.2.2.2.2.2.1)
         have HS9_:=(hb.cell (World.block_lt_of_cell? _ _ (hHeld.2.2.2.2.2.2.2.2.2.1))).trans (hHeld.2.2.2.2.2.2.2.2.2.1)
         have HS10_:=(hb.cell (World.block_lt_of_cell? _ _ (hHeld.2.2.2.2.2.2.2.2.2.2.1))).trans (hHeld.2.2.2.2.2.2.2.2.2.2.1)
         have HS11_:=(hb.cell (World.block_lt_of_cell? _ _ (hHeld.2.2.2.2.2.2.2.2.2.2.2.1))).trans (hHeld.2.2.2.2.2.2.2.2.2.2.2.1)
         have HS12_:=(hb.cell (World.block_lt_of_cell? _ _ (hHeld.2.2.2.2.2.2.2.2.2.2.2.2.1))).trans (hHeld.2.2.2.2.2.2.2.2.2.2.2.2.1)
         have HS13_:=(hb.cell (World.block_lt_of_cell? _ _ (hHeld.2.2.2.2.2.2.2.2.2.2.2.2.2.1))).trans (hHeld.2.2.2.2.2.2.2.2.2.2.2.2.2.1)
         have HS14_:=(hb.cell (World.block_lt_of_cell? _ _ (hHeld.2.2.2.2.2.2.2.2.2.2.2.2.2.2.1))).trans (hHeld.2.2.2.2.2.2.2.2.2.2.2.2.2.2.1)
         have HS15_:=(hb.cell (World.block_lt_of_cell? _ _ (hHeld.2.2.2.2.2.2.2.2.2.2.2.2.2.2.2.1))).trans (hHeld.2.2.2.2.2.2.2.2.2.2.2.2.2.2.2.1)
         have HS16_:=(hb.cell (World.block_lt_of_cell? _ _ (hHeld.2.2.2.2.2.2.2.2.2.2.2.2.2.2.2.2.1))).trans (hHeld.2.2.2.2.2.2.2.2.2.2.2.2.2.2.2.2.1)
         have HS17_:=(hb.cell (World.block_lt_of_cell? _ _ (hHeld.2.2.2.2.2.2.2.2.2.2.2.2.2.2.2.2.2.1))).trans (hHeld.2.2.2.2.2.2.2.2.2.2.2.2.2.2.2.2.2.1)
         have HS18_:=(hb.cell (World.block_lt_of_cell? _ _ (hHeld.2.2.2.2.2.2.2.2.2.2.2.2.2.2.2.2.2.2.1))).trans (hHeld.2.2.2.2.2.2.2.2.2.2.2.2.2.2.2.2.2.2.1)
         have HS19_:=(hb.cell (World.block_lt_of_cell? _ _ (hHeld.2.2.2.2.2.2.2.2.2.2.2.2.2.2.2.2.2.2.2.1))).trans (hHeld.2.2.2.2.2.2.2.2.2.2.2.2.2.2.2.2.2.2.2.1)
         have HS20_:=(hb.cell (World.block_lt_of_cell? _ _ (hHeld.2.2.2.2.2.2.2.2.2.2.2.2.2.2.2.2.2.2.2.2.1))).trans (hHeld.2.2.2.2.2.2.2.2.2.2.2.2.2.2.2.2.2.2.2.2.1)
         have HS21_:=(hb.cell (World.block_lt_of_cell? _ _ (hHeld.2.2.2.2.2.2.2.2.2.2.2.2.2.2.2.2.2.2.2.2.2.1))).trans (hHeld.2.2.2.2.2.2.2.2.2.2.2.2.2.2.2.2.2.2.2.2.2.1)
         have HS22_:=(hb.cell (World.block_lt_of_cell? _ _ (hHeld.2.2.2.2.2.2.2.2.2.2.2.2.2.2.2.2.2.2.2.2.2.2.1))).trans (hHeld.2.2.2.2.2.2.2.2.2.2.2.2.2.2.2.2.2.2.2.2.2.2.1)
         have HS23_:=(hb.cell (World.block_lt_of_cell? _ _ (hHeld.2.2.2.2.2.2.2.2.2.2.2.2.2.2.2.2.2.2.2.2.2.2.2.1))).trans (hHeld.2.2.2.2.2.2.2.2.2.2.2.2.2.2.2.2.2.2.2.2.2.2.2.1)
         have HS24_:=(hb.cell (World.block_lt_of_cell? _ _ (hHeld.2.2.2.2.2.2.2.2.2.2.2.2.2.2.2.2.2.2.2.2.2.2.2.2.1))).trans (hHeld.2.2.2.2.2.2.2.2.2.2.2.2.2.2.2.2.2.2.2.2.2.2.2.2.1)
         have HS25_:=(hb.cell (World.block_lt_of_cell? _ _ (hHeld.2.2.2.2.2.2.2.2.2.2.2.2.2.2.2.2.2.2.2.2.2.2.2.2.2.1))).trans (hHeld.2.2.2.2.2.2.2.2.2.2.2.2.2.2.2.2.2.2.2.2.2.2.2.2.2.1)
         have HS26_:=(hb.cell (World.block_lt_of_cell? _ _ (hHeld.2.2.2.2.2.2.2.2.2.2.2.2.2.2.2.2.2.2.2.2.2.2.2.2.2.2.1))).trans (hHeld.2.2.2.2.2.2.2.2.2.2.2.2.2.2.2.2.2.2.2.2.2.2.2.2.2.2.1)
         have HS27_:=(hb.cell (World.block_lt_of_cell? _ _ (hHeld.2.2.2.2.2.2.2.2.2.2.2.2.2.2.2.2.2.2.2.2.2.2.2.2.2.2.2.1))).trans (hHeld.2.2.2.2.2.2.2.2.2.2.2.2.2.2.2.2.2.2.2.2.2.2.2.2.2.2.2.1)
         have HS28_:=(hb.cell (World.block_lt_of_cell? _ _ (hHeld.2.2.2.2.2.2.2.2.2.2.2.2.2.2.2.2.2.2.2.2.2.2.2.2.2.2.2.2.1))).trans (hHeld.2.2.2.2.2.2.2.2.2.2.2.2.2.2.2.2.2.2.2.2.2.2.2.2.2.2.2.2.1)
         have HS29_:=(hb.cell (World.block_lt_of_cell? _ _ (hHeld.2.2.2.2.2.2.2.2.2.2.2.2.2.2.2.2.2.2.2.2.2.2.2.2.2.2.2.2.2))).trans (hHeld.2.2.2.2.2.2.2.2.2.2.2.2.2.2.2.2.2.2.2.2.2.2.2.2.2.2.2.2.2)
         refine ⟨_,rfl,?_⟩
         replace HO_7:=Aside0.mk (Kd.R_below (by (with_reducible repeat (first|apply Kd.R_alloc|apply Kd.R_drewN|apply Kd.R_drew));exact HO_7.out) hb)
         replace HO_8:=Aside0.mk (Kd.R_below (by (with_reducible repeat (first|apply Kd.R_alloc|apply Kd.R_drewN|apply Kd.R_drew));exact HO_8.out) hb)
         replace HB:=Aside0.mk (below_step (by repeat (first|(with_reducible first|exact HB.out|apply xA|apply xN|apply xD)|exact HB.out)) hb)
         (try clear hb)
         (try clear hb2)
         (try clear hk)
         (try clear hi)
         refine hK.out _ _ ⟨HS0_,HS1_,HS2_,HS3_,HS4_,HS5_,HS6_,HS7_,HS8_,HS9_,HS10_,HS11_,HS12_,HS13_,HS14_,HS15_,HS16_,HS17_,HS18_,HS19_,HS20_,HS21_,HS22_,HS23_,HS24_,HS25_,HS26_,HS27_,HS28_,HS29_⟩ (fun hHeld => ?_)
         clear hK K
         refine norm_ (a':=?_) ?_ ?_
         rotate_left
         ·show Act.put _ (some 31) _ = _
          simp only [Act.put,List.setIfInBounds_toArray,List.set_cons_zero,List.set_cons_succ,i64_w,i32_w]
          rfl
         refine pure_ (i:=6) (N:=some 32) (v:=?_) (a':=?_) #[true,true,true,true,true,true,true,false,false,false,false,false,false,false,false,false,false,false,false,false] rfl rfl (any_of HT_.out (by kernel_rfl)) (fun _ _ _ h => h) (Or.inl ⟨by rfl,?_⟩) ?_ ?_
         rotate_left
         ·intro w'
          go_simp
          with_reducible rfl
         rotate_left
         ·simp only [Act.put,List.setIfInBounds_toArray,List.set_cons_zero,List.set_cons_succ,i64_w,i32_w]
          rfl
         refine pure_ (i:=7) (N:=some 33) (v:=?_) (a':=?_) #[true,true,true,true,true,true,true,true,false,false,false,false,false,false,false,false,false,false,false,false] rfl rfl (any_of HT_.out (by kernel_rfl)) (fun _ _ _ h => h) (Or.inl ⟨by rfl,?_⟩) ?_ ?_
         rotate_left
         ·intro w'
          go_simp
          with_reducible rfl
         rotate_left
         ·simp only [Act.put,List.setIfInBounds_toArray,List.set_cons_zero,List.set_cons_succ,i64_w,i32_w]
          rfl
         refine pure_ (i:=8) (N:=some 34) (v:=?_) (a':=?_) #[true,true,true,true,true,true,true,true,true,false,false,false,false,false,false,false,false,false,false,false] rfl rfl (any_of HT_.out (by kernel_rfl)) (fun _ _ _ h => h) (Or.inl ⟨by rfl,?_⟩) ?_ ?_
         rotate_left
         ·intro w'
          go_simp
          with_reducible rfl
         rotate_left
         ·simp only [Act.put,List.setIfInBounds_toArray,List.set_cons_zero,List.set_cons_succ,i64_w,i32_w]
          rfl
         refine pure_ (i:=9) (N:=some 35) (v:=?_) (a':=?_) #[true,true,true,true,true,true,true,true,true,true,false,false,false,false,false,false,false,false,false,false] rfl rfl (any_of HT_.out (by kernel_rfl)) (fun _ _ _ h => h) (Or.inl ⟨by rfl,?_⟩) ?_ ?_
         rotate_left
         ·intro w'
          go_simp
          with_reducible rfl
         rotate_left
         ·simp only [Act.put,List.setIfInBounds_toArray,List.set_cons_zero,List.set_cons_succ,i64_w,i32_w]
          rfl
         refine pure_ (i:=10) (N:=some 36) (v:=?_) (a':=?_) #[true,true,true,true,true,true,true,true,true,true,true,false,false,false,false,false,false,false,false,false] rfl rfl (any_of HT_.out (by kernel_rfl)) (fun _ _ _ h => h) (Or.inl ⟨by rfl,?_⟩) ?_ ?_
         rotate_left
         ·intro w'
          go_simp
          with_reducible rfl
         rotate_left
         ·simp only [Act.put,List.setIfInBounds_toArray,List.set_cons_zero,List.set_cons_succ,i64_w,i32_w]
          rfl
         refine pure_ (i:=11) (N:=some 37) (v:=?_) (a':=?_) #[true,true,true,true,true,true,true,true,true,true,true,true,false,false,false,false,false,false,false,false] rfl rfl (any_of HT_.out (by kernel_rfl)) (fun _ _ _ h => h) (Or.inl ⟨by rfl,?_⟩) ?_ ?_
         rotate_left
         ·intro w'
          go_simp
          with_reducible rfl
         rotate_left
         ·simp only [Act.put,List.setIfInBounds_toArray,List.set_cons_zero,List.set_cons_succ,i64_w,i32_w]
          rfl
         refine pure_ (i:=13) (N:=some 39) (v:=?_) (a':=?_) #[true,true,true,true,true,true,true,true,true,true,true,true,false,true,false,false,false,false,false,false] rfl rfl (any_of HT_.out (by kernel_rfl)) (fun _ _ _ h => h) (Or.inl ⟨by rfl,?_⟩) ?_ ?_
         rotate_left
         ·intro w'
          go_simp
          with_reducible rfl
         rotate_left
         ·simp only [Act.put,List.setIfInBounds_toArray,List.set_cons_zero,List.set_cons_succ,i64_w,i32_w]
          rfl
         refine pure_ (i:=14) (N:=some 40) (v:=?_) (a':=?_) #[true,true,true,true,true,true,true,true,true,true,true,true,false,true,true,false,false,false,false,false] rfl rfl (any_of HT_.out (by kernel_rfl)) (fun _ _ _ h => h) (Or.inl ⟨by rfl,?_⟩) ?_ ?_
         rotate_left
         ·intro w'
          go_simp
          with_reducible rfl
         rotate_left
         ·simp only [Act.put,List.setIfInBounds_toArray,List.set_cons_zero,List.set_cons_succ,i64_w,i32_w]
          rfl
         refine pure_ (i:=15) (N:=some 41) (v:=?_) (a':=?_) #[true,true,true,true,true,true,true,true,true,true,true,true,false,true,true,true,false,false,false,false] rfl rfl (any_of HT_.out (by kernel_rfl)) (fun _ _ _ h => h) (Or.inl ⟨by rfl,?_⟩) ?_ ?_
         rotate_left
         ·intro w'
          go_simp
          with_reducible rfl
         rotate_left
         ·simp only [Act.put,List.setIfInBounds_toArray,List.set_cons_zero,List.set_cons_succ,i64_w,i32_w]
          rfl
         refine pure_ (i:=16) (N:=some 42) (v:=?_) (a':=?_) #[true,true,true,true,true,true,true,true,true,true,true,true,false,true,true,true,true,false,false,false] rfl rfl (any_of HT_.out (by kernel_rfl)) (fun _ _ _ h => h) (Or.inl ⟨by rfl,?_⟩) ?_ ?_
         rotate_left
         ·intro w'
          go_simp
          with_reducible rfl
         rotate_left
         ·simp only [Act.put,List.setIfInBounds_toArray,List.set_cons_zero,List.set_cons_succ,i64_w,i32_w]
          rfl
         refine take_ (i:=12) (N:=some 38) (v:=?_) (a':=?_) #[true,true,true,true,true,true,true,true,true,true,true,true,true,true,true,true,true,false,false,false] rfl rfl (take_ofW HT_.out HW_.out (by kernel_rfl)) (fun _ _ _ h => h) (Or.inl ⟨by rfl,?_⟩) hHeld ?_ ?_
         rotate_left
         ·rintro w' ⟨s0,s1,s2,s3,s4,s5,s6,s7,s8,s9,s10,s11,s12,s13,s14,s15,s16,s17,s18,s19,s20,s21,s22,s23,s24,s25,s26,s27,s28,s29⟩
          go_simp
          with_reducible rfl
         rotate_left
         ·simp only [Act.put,List.setIfInBounds_toArray,List.set_cons_zero,List.set_cons_succ,i64_w,i32_w]
          rfl
         refine take_ (i:=17) (N:=some 43) (v:=?_) (a':=?_) #[true,true,true,true,true,true,true,true,true,true,true,true,true,true,true,true,true,true,false,false] rfl rfl (take_ofW HT_.out HW_.out (by kernel_rfl)) (fun _ _ _ h => h) (Or.inl ⟨by rfl,?_⟩) hHeld ?_ ?_
         rotate_left
         ·rintro w' ⟨s0,s1,s2,s3,s4,s5,s6,s7,s8,s9,s10,s11,s12,s13,s14,s15,s16,s17,s18,s19,s20,s21,s22,s23,s24,s25,s26,s27,s28,s29⟩
          go_simp
          with_reducible rfl
         rotate_left
         ·simp only [Act.put,List.setIfInBounds_toArray,List.set_cons_zero,List.set_cons_succ,i64_w,i32_w]
          rfl
         refine one_ (i:=18) (N:=some 44) #[true,true,true,true,true,true,true,true,true,true,true,true,true,true,true,true,true,true,true,false] rfl rfl (one_of HT_.out (by kernel_rfl)) (by decide) (fun K hK => ?_)
         refine goes_ Try.func49 (by kernel_rfl) rfl #[.agg #[.string ((rd_T46 t240 x9_1).f0.f0),.int .i64 ((rd_T46 t240 x9_1).f0.f1.f0),.int .i64 ((rd_T46 t240 x9_1).f0.f1.f1),.string ((rd_T46 t240 x9_1).f0.f2),.bool ((rd_T46 t240 x9_1).f0.f3)],.agg #[.string ((rd_T46 t240 x9_1).f1.f0),.int .i64 ((rd_T46 t240 x9_1).f1.f1.f0),.int .i64 ((rd_T46 t240 x9_1).f1.f1.f1),.string ((rd_T46 t240 x9_1).f1.f2),.bool ((rd_T46 t240 x9_1).f1.f3)]] (by rfl) rfl rfl (by (try simp only [List.map_toArray,List.map_cons,List.map_nil]);first|done|rfl|(simp only [List.length_drop,List.length_take];rfl)) ?_
         with_reducible refine (tidelineref03_Newer.calls ((rd_T46 t240 x9_1).f0.f0) ((rd_T46 t240 x9_1).f0.f1.f0) ((rd_T46 t240 x9_1).f0.f1.f1) ((rd_T46 t240 x9_1).f0.f2) ((rd_T46 t240 x9_1).f0.f3) ((rd_T46 t240 x9_1).f1.f0) ((rd_T46 t240 x9_1).f1.f1.f0) ((rd_T46 t240 x9_1).f1.f1.f1) ((rd_T46 t240 x9_1).f1.f2) ((rd_T46 t240 x9_1).f1.f3) true _ A17.out).mono ?_
         rintro e w23 ⟨rfl,hb⟩
         have HS0_:=(hb.cell (World.block_lt_of_cell? _ _ (hHeld.1))).trans (hHeld.1)
         have HS1_:=(hb.cell (World.block_lt_of_cell? _ _ (hHeld.2.1))).trans (hHeld.2.1)
         have HS2_:=(hb.cell (World.block_lt_of_cell? _ _ (hHeld.2.2.1))).trans (hHeld.2.2.1)
         have HS3_:=(hb.cell (World.block_lt_of_cell? _ _ (hHeld.2.2.2.1))).trans (hHeld.2.2.2.1)
         have HS4_:=(hb.cell (World.block_lt_of_cell? _ _ (hHeld.2.2.2.2.1))).trans (hHeld.2.2.2.2.1)
         have HS5_:=(hb.cell (World.block_lt_of_cell? _ _ (hHeld.2.2.2.2.2.1))).trans (hHeld.2.2.2.2.2.1)
         have HS6_:=(hb.cell (World.block_lt_of_cell? _ _ (hHeld.2.2.2.2.2.2.1))).trans (hHeld.2.2.2.2.2.2.1)
         have HS7_:=(hb.cell (World.block_lt_of_cell? _ _ (hHeld.2.2.2.2.2.2.2.1))).trans (hHeld.2.2.2.2.2.2.2.1)
         have HS8_:=(hb.cell (World.block_lt_of_cell? _ _ (hHeld.2.2.2.2.2.2.2.2.1))).trans (hHeld.2.2.2.2.2.2.2.2.1)
         have HS9_:=(hb.cell (World.block_lt_of_cell? _ _ (hHeld.2.2.2.2.2.2.2.2.2.1))).trans (hHeld.2.2.2.2.2.2.2.2.2.1)
         have HS10_:=(hb.cell (World.block_lt_of_cell? _ _ (hHeld.2.2.2.2.2.2.2.2.2.2.1))).trans (hHeld.2.2.2.2.2.2.2.2.2.2.1)
         have HS11_:=(hb.cell (World.block_lt_of_cell? _ _ (hHeld.2.2.2.2.2.2.2.2.2.2.2.1))).trans (hHeld.2.2.2.2.2.2.2.2.2.2.2.1)
         have HS12_:=(hb.cell (World.block_lt_of_cell? _ _ (hHeld.2.2.2.2.2.2.2.2.2.2.2.2.1))).trans (hHeld.2.2.2.2.2.2.2.2.2.2.2.2.1)
         have HS13_:=(hb.cell (World.block_lt_of_cell? _ _ (hHeld.2.2.2.2.2.2.2.2.2.2.2.2.2.1))).trans (hHeld.2.2.2.2.2.2.2.2.2.2.2.2.2.1)
         have HS14_:=(hb.cell (World.block_lt_of_cell? _ _ (hHeld.2.2.2.2.2.2.2.2.2.2.2.2.2.2.1))).trans (hHeld.2.2.2.2.2.2.2.2.2.2.2.2.2.2.1)
         have HS15_:=(hb.cell (World.block_lt_of_cell? _ _ (hHeld.2.2.2.2.2.2.2.2.2.2.2.2.2.2.2.1))).trans (hHeld.2.2.2.2.2.2.2.2.2.2.2.2.2.2.2.1)
         have HS16_:=(hb.cell (World.block_lt_of_cell? _ _ (hHeld.2.2.2.2.2.2.2.2.2.2.2.2.2.2.2.2.1))).trans (hHeld.2.2.2.2.2.2.2.2.2.2.2.2.2.2.2.2.1)
         have HS17_:=(hb.cell (World.block_lt_of_cell? _ _ (hHeld.2.2.2.2.2.2.2.2.2.2.2.2.2.2.2.2.2.1))).trans (hHeld.2.2.2.2.2.2.2.2.2.2.2.2.2.2.2.2.2.1)
         have HS18_:=(hb.cell (World.block_lt_of_cell? _ _ (hHeld.2.2.2.2.2.2.2.2.2.2.2.2.2.2.2.2.2.2.1))).trans (hHeld.2.2.2.2.2.2.2.2.2.2.2.2.2.2.2.2.2.2.1)
         have HS19_:=(hb.cell (World.block_lt_of_cell? _ _ (hHeld.2.2.2.2.2.2.2.2.2.2.2.2.2.2.2.2.2.2.2.1))).trans (hHeld.2.2.2.2.2.2.2.2.2.2.2.2.2.2.2.2.2.2.2.1)
         have HS20_:=(hb.cell (World.block_lt_of_cell? _ _ (hHeld.2.2.2.2.2.2.2.2.2.2.2.2.2.2.2.2.2.2.2.2.1))).trans (hHeld.2.2.2.2.2.2.2.2.2.2.2.2.2.2.2.2.2.2.2.2.1)
         have HS21_:=(hb.cell (World.block_lt_of_cell? _ _ (hHeld.2.2.2.2.2.2.2.2.2.2.2.2.2.2.2.2.2.2.2.2.2.1))).trans (hHeld.2.2.2.2.2.2.2.2.2.2.2.2.2.2.2.2.2.2.2.2.2.1)
         have HS22_:=(hb.cell (World.block_lt_of_cell? _ _ (hHeld.2.2.2.2.2.2.2.2.2.2.2.2.2.2.2.2.2.2.2.2.2.2.1))).trans (hHeld.2.2.2.2.2.2.2.2.2.2.2.2.2.2.2.2.2.2.2.2.2.2.1)
         have HS23_:=(hb.cell (World.block_lt_of_cell? _ _ (hHeld.2.2.2.2.2.2.2.2.2.2.2.2.2.2.2.2.2.2.2.2.2.2.2.1))).trans (hHeld.2.2.2.2.2.2.2.2.2.2.2.2.2.2.2.2.2.2.2.2.2.2.2.1)
         have HS24_:=(hb.cell (World.block_lt_of_cell? _ _ (hHeld.2.2.2.2.2.2.2.2.2.2.2.2.2.2.2.2.2.2.2.2.2.2.2.2.1))).trans (hHeld.2.2.2.2.2.2.2.2.2.2.2.2.2.2.2.2.2.2.2.2.2.2.2.2.1)
         have HS25_:=(hb.cell (World.block_lt_of_cell? _ _ (hHeld.2.2.2.2.2.2.2.2.2.2.2.2.2.2.2.2.2.2.2.2.2.2.2.2.2.1))).trans (hHeld.2.2.2.2.2.2.2.2.2.2.2.2.2.2.2.2.2.2.2.2.2.2.2.2.2.1)
         have HS26_:=(hb.cell (World.block_lt_of_cell? _ _ (hHeld.2.2.2.2.2.2.2.2.2.2.2.2.2.2.2.2.2.2.2.2.2.2.2.2.2.2.1))).trans (hHeld.2.2.2.2.2.2.2.2.2.2.2.2.2.2.2.2.2.2.2.2.2.2.2.2.2.2.1)
         have HS27_:=(hb.cell (World.block_lt_of_cell? _ _ (hHeld.2.2.2.2.2.2.2.2.2.2.2.2.2.2.2.2.2.2.2.2.2.2.2.2.2.2.2.1))).trans (hHeld.2.2.2.2.2.2.2.2.2.2.2.2.2.2.2.2.2.2.2.2.2.2.2.2.2.2.2.1)
         have HS28_:=(hb.cell (World.block_lt_of_cell? _ _ (hHeld.2.2.2.2.2.2.2.2.2.2.2.2.2.2.2.2.2.2.2.2.2.2.2.2.2.2.2.2.1))).trans (hHeld.2.2.2.2.2.2.2.2.2.2.2.2.2.2.2.2.2.2.2.2.2.2.2.2.2.2.2.2.1)
         have HS29_:=(hb.cell (World.block_lt_of_cell? _ _ (hHeld.2.2.2.2.2.2.2.2.2.2.2.2.2.2.2.2.2.2.2.2.2.2.2.2.2.2.2.2.2))).trans (hHeld.2.2.2.2.2.2.2.2.2.2.2.2.2.2.2.2.2.2.2.2.2.2.2.2.2.2.2.2.2)
         refine ⟨_,rfl,?_⟩
         replace HO_7:=Aside0.mk (Kd.R_below (by (with_reducible repeat (first|apply Kd.R_alloc|apply Kd.R_drewN|apply Kd.R_drew));exact HO_7.out) hb)
         replace HO_8:=Aside0.mk (Kd.R_below (by (with_reducible repeat (first|apply Kd.R_alloc|apply Kd.R_drewN|apply Kd.R_drew));exact HO_8.out) hb)
         replace HB:=Aside0.mk (below_step (by repeat (first|(with_reducible first|exact HB.out|apply xA|apply xN|apply xD)|exact HB.out)) hb)
         (try clear hb)
         (try clear hb2)
         (try clear hk)
         (try clear hi)
         refine hK.out _ _ ⟨HS0_,HS1_,HS2_,HS3_,HS4_,HS5_,HS6_,HS7_,HS8_,HS9_,HS10_,HS11_,HS12_,HS13_,HS14_,HS15_,HS16_,HS17_,HS18_,HS19_,HS20_,HS21_,HS22_,HS23_,HS24_,HS25_,HS26_,HS27_,HS28_,HS29_⟩ (fun hHeld => ?_)
         clear hK K
         refine norm_ (a':=?_) ?_ ?_
         rotate_left
         ·show Act.put _ (some 44) _ = _
          simp only [Act.put,List.setIfInBounds_toArray,List.set_cons_zero,List.set_cons_succ,i64_w,i32_w]
          rfl
         refine pure_ (i:=19) (N:=some 45) (v:=?_) (a':=?_) #[true,true,true,true,true,true,true,true,true,true,true,true,true,true,true,true,true,true,true,true] rfl rfl (any_of HT_.out (by kernel_rfl)) (fun _ _ _ h => h) (Or.inl ⟨by rfl,?_⟩) ?_ ?_
         rotate_left
         ·intro w'
          go_simp
          with_reducible rfl
         rotate_left
         ·simp only [Act.put,List.setIfInBounds_toArray,List.set_cons_zero,List.set_cons_succ,i64_w,i32_w]
          rfl
         refine done_ (done_of HT_.out (by kernel_rfl)) ?_
         have p251 : 0 ≤ (x9_1 : Int):=of_decide_eq_true (by first|(with_reducible assumption)|assumption)
         have q251 : x9_1 < (t240.length : Int):=of_decide_eq_true (by first|(with_reducible assumption)|assumption)
         obtain ⟨ad251,e251,hx251_0,hx251_1,hx251_2,hx251_3,hx251_4,hx251_5,hx251_6,hx251_7,hx251_8,hx251_9⟩:=at_T46 (Kd.R_reads' HO_7.out).2.2 x9_1 p251 q251
         obtain rfl : ad246 = ad251:=(by injection e251)
         replace p251:=eq_true p251
         replace q251:=eq_true q251
         try go_wp2_with (first|((with_reducible refine gate_builtin (b:=.append) (xs:=#[.tmp 46,.tmp 52]) rfl ?_);at_builtin;refine Kd.R_append k44 (w0:=w) w.heap.size rfl (.tmp 46) (.tmp 52) 22 44 (.agg #[(.string ⟨#[]⟩),(.int .i64 0),(.int .i64 0),(.string ⟨#[]⟩),(.bool false)]) 56 rfl Try.underlying22 info44 rfl (by decide) (by omega) u8 x8_1 (⟨(rd_T46 t240 x9_1).f0.f0,(⟨(rd_T46 t240 x9_1).f0.f1.f0,(rd_T46 t240 x9_1).f0.f1.f1⟩ : S42),(rd_T46 t240 x9_1).f0.f2,(rd_T46 t240 x9_1).f0.f3⟩ : S44) [.string ((rd_T46 t240 x9_1).f0.f0),.int .i64 ((rd_T46 t240 x9_1).f0.f1.f0),.int .i64 ((rd_T46 t240 x9_1).f0.f1.f1),.string ((rd_T46 t240 x9_1).f0.f2),.bool ((rd_T46 t240 x9_1).f0.f3)] (fun _ => True) (fun _ => False) rfl rfl ?aP (fun _ hk => hk.elim) ?aF ?aO ?aB ?aS ?aL ?_;(case aP => exact k44_mkM _ _ _ (⟨(rd_T46 t240 x9_1).f0.f0,(⟨(rd_T46 t240 x9_1).f0.f1.f0,(rd_T46 t240 x9_1).f0.f1.f1⟩ : S42),(rd_T46 t240 x9_1).f0.f2,(rd_T46 t240 x9_1).f0.f3⟩ : S44));(case aB => exact (by repeat (first|(with_reducible first|exact HB.out|apply xA|apply xN|apply xD)|exact HB.out)));(case aF => exact (fun _ _ => trivial));(case aO => exact (by (with_reducible repeat (first|apply Kd.R_alloc|apply Kd.R_drewN|apply Kd.R_drew));exact HO_8.out));(case aS => exact (below_size (by repeat (first|(with_reducible first|exact HB.out|apply xA|apply xN|apply xD)|exact HB.out))));(case aL => have:=LMc19.out;omega);intro v253 w24 ho hb hg hat;rw [← Ny252.out] at ho;have n0_:=Aside0.mk (Kd.R_over' (by (with_reducible repeat (first|apply Kd.R_alloc|apply Kd.R_drewN|apply Kd.R_drew));exact HO_7.out) (Kd.R_typed (by (with_reducible repeat (first|apply Kd.R_alloc|apply Kd.R_drewN|apply Kd.R_drew));exact HO_8.out)) (by decide) hg);have n1_:=Aside0.mk (hb);have n2_:=Aside0.mk (ho);clear HO_7;clear HB;clear HO_8;have HO_7:=n0_;have HB:=n1_;have HO254:=n2_;clear n0_ n1_ n2_;clear ho hb hg hat))
         go_roundg k1
         case measure => have:=HK1.out;omega
         case rel => exact ⟨(y252),(wrap64 (x9_1 + 1)),(by first|rfl|(simp;done)|(simp [*];done)|(simp [*,Go.Proofs.Ytghlellambnkeaa.Str.bne_nil];done)),H',⟨by have:=HK1.out;omega⟩,⟨by (with_reducible repeat (first|apply Kd.R_alloc|apply Kd.R_drewN|apply Kd.R_drew));exact HO_7.out⟩,⟨by (with_reducible repeat (first|apply Kd.R_alloc|apply Kd.R_drewN|apply Kd.R_drew));exact HO254.out⟩,⟨by repeat (first|(with_reducible first|exact HB.out|apply xA|apply xN|apply xD)|exact HB.out)⟩⟩
        ·rw [if_neg c19] at H
         exact absurd H (by simp)
       ·replace c18:=Bool.eq_false_iff.mpr c18
        subst c18
        have H1 : (tidelineref09_Lacks.l0 k1 t240 x8_1 (wrap64 (x9_1 + 1))) = some (r1,r2):=by rw [if_neg (show ¬ (false = true) by decide)] at H;exact H
        clear H
        have H:=H1
        clear H1
        have H':=Aside0.mk H
        clear H
        obtain ⟨Ao25,co25,eo25⟩:=Kd.R_slice HO_7.out
        subst eo25
        try go_wp2
        replace HO_7:=Aside0.mk (Kd.R_drew HO_7.out)
        replace HO_8:=Aside0.mk (Kd.R_drew HO_8.out)
        replace HB:=Aside0.mk (below_drew1 HB.out)
        have p246 : 0 ≤ (x9_1 : Int):=of_decide_eq_true (by first|(with_reducible assumption)|assumption)
        have q246 : x9_1 < (t240.length : Int):=of_decide_eq_true (by first|(with_reducible assumption)|assumption)
        obtain ⟨ad246,e246,hx246_0,hx246_1,hx246_2,hx246_3,hx246_4,hx246_5,hx246_6,hx246_7,hx246_8,hx246_9⟩:=at_T46 (Kd.R_reads' HO_7.out).2.2 x9_1 p246 q246
        cases e246
        replace p246:=eq_true p246
        replace q246:=eq_true q246
        have p248 : 0 ≤ (x9_1 : Int):=of_decide_eq_true (by first|(with_reducible assumption)|assumption)
        have q248 : x9_1 < (t240.length : Int):=of_decide_eq_true (by first|(with_reducible assumption)|assumption)
        obtain ⟨ad248,e248,hx248_0,hx248_1,hx248_2,hx248_3,hx248_4,hx248_5,hx248_6,hx248_7,hx248_8,hx248_9⟩:=at_T46 (Kd.R_reads' HO_7.out).2.2 x9_1 p248 q248
        obtain rfl : ad246 = ad248:=(by injection e248)
        replace p248:=eq_true p248
        replace q248:=eq_true q248
        have p249 : 0 ≤ (x9_1 : Int):=of_decide_eq_true (by first|(with_reducible assumption)|assumption)
        have q249 : x9_1 < (t240.length : Int):=of_decide_eq_true (by first|(with_reducible assumption)|assumption)
        obtain ⟨ad249,e249,hx249_0,hx249_1,hx249_2,hx249_3,hx249_4,hx249_5,hx249_6,hx249_7,hx249_8,hx249_9⟩:=at_T46 (Kd.R_reads' HO_7.out).2.2 x9_1 p249 q249
        obtain rfl : ad246 = ad249:=(by injection e249)
        replace p249:=eq_true p249
        replace q249:=eq_true q249
        refine start_ (n:=20) (S:=fun w' => w'.cell? (ad246.add ((x9_1).toNat * 10)) = some (.string ((rd_T46 t240 x9_1).f0.f0)) ∧ w'.cell? ⟨(ad246.add ((x9_1).toNat * 10)).block,(ad246.add ((x9_1).toNat * 10)).off + 1,none⟩ = some (.int .i64 ((rd_T46 t240 x9_1).f0.f1.f0)) ∧ w'.cell? ⟨(ad246.add ((x9_1).toNat * 10)).block,(ad246.add ((x9_1).toNat * 10)).off + 2,none⟩ = some (.int .i64 ((rd_T46 t240 x9_1).f0.f1.f1)) ∧ w'.cell? ⟨(ad246.add ((x9_1).toNat * 10)).block,(ad246.add ((x9_1).toNat * 10)).off + 3,none⟩ = some (.string ((rd_T46 t240 x9_1).f0.f2)) ∧ w'.cell? ⟨(ad246.add ((x9_1).toNat * 10)).block,(ad246.add ((x9_1).toNat * 10)).off + 4,none⟩ = some (.bool ((rd_T46 t240 x9_1).f0.f3)) ∧ w'.cell? ⟨(ad246.add ((x9_1).toNat * 10)).block,(ad246.add ((x9_1).toNat * 10)).off + 5,none⟩ = some (.string ((rd_T46 t240 x9_1).f1.f0)) ∧ w'.cell? ⟨(ad246.add ((x9_1).toNat * 10)).block,(ad246.add ((x9_1).toNat * 10)).off + 6,none⟩ = some (.int .i64 ((rd_T46 t240 x9_1).f1.f1.f0)) ∧ w'.cell? ⟨(ad246.add ((x9_1).toNat * 10)).block,(ad246.add ((x9_1).toNat * 10)).off + 7,none⟩ = some (.int .i64 ((rd_T46 t240 x9_1).f1.f1.f1)) ∧ w'.cell? ⟨(ad246.add ((x9_1).toNat * 10)).block,(ad246.add ((x9_1).toNat * 10)).off + 8,none⟩ = some (.string ((rd_T46 t240 x9_1).f1.f2)) ∧ w'.cell? ⟨(ad246.add ((x9_1).toNat * 10)).block,(ad246.add ((x9_1).toNat * 10)).off + 9,none⟩ = some (.bool ((rd_T46 t240 x9_1).f1.f3)) ∧ w'.cell? (ad246.add ((x9_1).toNat * 10)) = some (.string ((rd_T46 t240 x9_1).f0.f0)) ∧ w'.cell? ⟨(ad246.add ((x9_1).toNat * 10)).block,(ad246.add ((x9_1).toNat * 10)).off + 1,none⟩ = some (.int .i64 ((rd_T46 t240 x9_1).f0.f1.f0)) ∧ w'.cell? ⟨(ad246.add ((x9_1).toNat * 10)).block,(ad246.add ((x9_1).toNat * 10)).off + 2,none⟩ = some (.int .i64 ((rd_T46 t240 x9_1).f0.f1.f1)) ∧ w'.cell? ⟨(ad246.add ((x9_1).toNat * 10)).block,(ad246.add ((x9_1).toNat * 10)).off + 3,none⟩ = some (.string ((rd_T46 t240 x9_1).f0.f2)) ∧ w'.cell? ⟨(ad246.add ((x9_1).toNat * 10)).block,(ad246.add ((x9_1).toNat * 10)).off + 4,none⟩ = some (.bool ((rd_T46 t240 x9_1).f0.f3)) ∧ w'.cell? ⟨(ad246.add ((x9_1).toNat * 10)).block,(ad246.add ((x9_1).toNat * 10)).off + 5,none⟩ = some (.string ((rd_T46 t240 x9_1).f1.f0)) ∧ w'.cell? ⟨(ad246.add ((x9_1).toNat * 10)).block,(ad246.add ((x9_1).toNat * 10)).off + 6,none⟩ = some (.int .i64 ((rd_T46 t240 x9_1).f1.f1.f0)) ∧ w'.cell? ⟨(ad246.add ((x9_1).toNat * 10)).block,(ad246.add ((x9_1).toNat * 10)).off + 7,none⟩ = some (.int .i64 ((rd_T46 t240 x9_1).f1.f1.f1)) ∧ w'.cell? ⟨(ad246.add ((x9_1).toNat * 10)).block,(ad246.add ((x9_1).toNat * 10)).off + 8,none⟩ = some (.string ((rd_T46 t240 x9_1).f1.f2)) ∧ w'.cell? ⟨(ad246.add ((x9_1).toNat * 10)).block,(ad246.add ((x9_1).toNat * 10)).off + 9,none⟩ = some (.bool ((rd_T46 t240 x9_1).f1.f3)) ∧ w'.cell? (ad246.add ((x9_1).toNat * 10)) = some (.string ((rd_T46 t240 x9_1).f0.f0)) ∧ w'.cell? ⟨(ad246.add ((x9_1).toNat * 10)).block,(ad246.add ((x9_1).toNat * 10)).off + 1,none⟩ = some (.int .i64 ((rd_T46 t240 x9_1).f0.f1.f0)) ∧ w'.cell? ⟨(ad246.add ((x9_1).toNat * 10)).block,(ad246.add ((x9_1).toNat * 10)).off + 2,none⟩ = some (.int .i64 ((rd_T46 t240 x9_1).f0.f1.f1)) ∧ w'.cell? ⟨(ad246.add ((x9_1).toNat * 10)).block,(ad246.add ((x9_1).toNat * 10)).off + 3,none⟩ = some (.string ((rd_T46 t240 x9_1).f0.f2)) ∧ w'.cell? ⟨(ad246.add ((x9_1).toNat * 10)).block,(ad246.add ((x9_1).toNat * 10)).off + 4,none⟩ = some (.bool ((rd_T46 t240 x9_1).f0.f3)) ∧ w'.cell? ⟨(ad246.add ((x9_1).toNat * 10)).block,(ad246.add ((x9_1).toNat * 10)).off + 5,none⟩ = some (.string ((rd_T46 t240 x9_1).f1.f0)) ∧ w'.cell? ⟨(ad246.add ((x9_1).toNat * 10)).block,(ad246.add ((x9_1).toNat * 10)).off + 6,none⟩ = some (.int .i64 ((rd_T46 t240 x9_1).f1.f1.f0)) ∧ w'.cell? ⟨(ad246.add ((x9_1).toNat * 10)).block,(ad246.add ((x9_1).toNat * 10)).off + 7,none⟩ = some (.int .i64 ((rd_T46 t240 x9_1).f1.f1.f1)) ∧ w'.cell? ⟨(ad246.add ((x9_1).toNat * 10)).block,(ad246.add ((x9_1).toNat * 10)).off + 8,none⟩ = some (.string ((rd_T46 t240 x9_1).f1.f2)) ∧ w'.cell? ⟨(ad246.add ((x9_1).toNat * 10)).block,(ad246.add ((x9_1).toNat * 10)).off + 9,none⟩ = some (.bool ((rd_T46 t240 x9_1).f1.f3))) (ds:=[]) #[false,false,false,false,false,false,false,false,false,false,false,false,false,false,false,false,false,false,false,false] (by kernel_rfl) rfl rfl ⟨hx246_0,hx246_1,hx246_2,hx246_3,hx246_4,hx246_5,hx246_6,hx246_7,hx246_8,hx246_9,hx248_0,hx248_1,hx248_2,hx248_3,hx248_4,hx248_5,hx248_6,hx248_7,hx248_8,hx248_9,hx249_0,hx249_1,hx249_2,hx249_3,hx249_4,hx249_5,hx249_6,hx249_7,hx249_8,hx249_9⟩ (fun hHeld => ?_);refine with_tabW tidelineref09_Lacks.tab9 tidelineref09_Lacks.bits9 (fun HT_ HW_ => ?_)
        generalize wr.drew = w26 at HO_7 HO_8 HB hx246_0 hx246_1 hx246_2 hx246_3 hx246_4 hx246_5 hx246_6 hx246_7 hx246_8 hx246_9 hx248_0 hx248_1 hx248_2 hx248_3 hx248_4 hx248_5 hx248_6 hx248_7 hx248_8 hx248_9 hx249_0 hx249_1 hx249_2 hx249_3 hx249_4 hx249_5 hx249_6 hx249_7 hx249_8 hx249_9 hHeld ⊢
        refine pure_ (i:=0) (N:=some 26) (v:=?_) (a':=?_) #[true,false,false,false,false,false,false,false,false,false,false,false,false,false,false,false,false,false,false,false] rfl rfl (any_of HT_.out (by kernel_rfl)) (fun _ _ _ h => h) (Or.inl ⟨by rfl,?_⟩) ?_ ?_
        rotate_left
        ·intro w'
         go_simp
         with_reducible rfl
        rotate_left
        ·simp only [Act.put,List.setIfInBounds_toArray,List.set_cons_zero,List.set_cons_succ,i64_w,i32_w]
         rfl
        refine pure_ (i:=1) (N:=some 27) (v:=?_) (a':=?_) #[true,true,false,false,false,false,false,false,false,false,false,false,false,false,false,false,false,false,false,false] rfl rfl (any_of HT_.out (by kernel_rfl)) (fun _ _ _ h => h) (Or.inl ⟨by rfl,?_⟩) ?_ ?_
        rotate_left
        ·intro w'
         go_simp
         with_reducible rfl
        rotate_left
        ·simp only [Act.put,List.setIfInBounds_toArray,List.set_cons_zero,List.set_cons_succ,i64_w,i32_w]
         rfl
        refine pure_ (i:=2) (N:=some 28) (v:=?_) (a':=?_) #[true,true,true,false,false,false,false,false,false,false,false,false,false,false,false,false,false,false,false,false] rfl rfl (any_of HT_.out (by kernel_rfl)) (fun _ _ _ h => h) (Or.inl ⟨by rfl,?_⟩) ?_ ?_
        rotate_left
        ·intro w'
         go_simp
         with_reducible rfl
        rotate_left
        ·simp only [Act.put,List.setIfInBounds_toArray,List.set_cons_zero,List.set_cons_succ,i64_w,i32_w]
         rfl
        refine pure_ (i:=3) (N:=some 29) (v:=?_) (a':=?_) #[true,true,true,true,false,false,false,false,false,false,false,false,false,false,false,false,false,false,false,false] rfl rfl (any_of HT_.out (by kernel_rfl)) (fun _ _ _ h => h) (Or.inl ⟨by rfl,?_⟩) ?_ ?_
        rotate_left
        ·intro w'
         go_simp
         with_reducible rfl
        rotate_left
        ·simp only [Act.put,List.setIfInBounds_toArray,List.set_cons_zero,List.set_cons_succ,i64_w,i32_w]
         rfl
        refine take_ (i:=4) (N:=some 30) (v:=?_) (a':=?_) #[true,true,true,true,true,false,false,false,false,false,false,false,false,false,false,false,false,false,false,false] rfl rfl (take_ofW HT_.out HW_.out (by kernel_rfl)) (fun _ _ _ h => h) (Or.inl ⟨by rfl,?_⟩) hHeld ?_ ?_
        rotate_left
        ·rintro w' ⟨s0,s1,s2,s3,s4,s5,s6,s7,s8,s9,s10,s11,s12,s13,s14,s15,s16,s17,s18,s19,s20,s21,s22,s23,s24,s25,s26,s27,s28,s29⟩
         go_simp
         with_reducible rfl
        rotate_left
        ·simp only [Act.put,List.setIfInBounds_toArray,List.set_cons_zero,List.set_cons_succ,i64_w,i32_w]
         rfl
        refine one_ (i:=5) (N:=some 31) #[true,true,true,true,true,true,false,false,false,false,false,false,false,false,false,false,false,false,false,false] rfl rfl (one_of HT_.out (by kernel_rfl)) (by decide) (fun K hK => ?_)
        refine goes_ Try.func47 (by kernel_rfl) rfl #[.agg #[.string ((rd_T46 t240 x9_1).f0.f0),.int .i64 ((rd_T46 t240 x9_1).f0.f1.f0),.int .i64 ((rd_T46 t240 x9_1).f0.f1.f1),.string ((rd_T46 t240 x9_1).f0.f2),.bool ((rd_T46 t240 x9_1).f0.f3)]] (by rfl) rfl rfl (by (try simp only [List.map_toArray,List.map_cons,List.map_nil]);first|done|rfl|(simp only [List.length_drop,List.length_take];rfl)) ?_
        with_reducible refine (tidelineref09_none.calls ((rd_T46 t240 x9_1).f0.f0) ((rd_T46 t240 x9_1).f0.f1.f0) ((rd_T46 t240 x9_1).f0.f1.f1) ((rd_T46 t240 x9_1).f0.f2) ((rd_T46 t240 x9_1).f0.f3) false _ A12.out).mono ?_
        rintro e w27 ⟨rfl,hb⟩
        have HS0_:=(hb.cell (World.block_lt_of_cell? _ _ (hHeld.1))).trans (hHeld.1)
        have HS1_:=(hb.cell (World.block_lt_of_cell? _ _ (hHeld.2.1))).trans (hHeld.2.1)
        have HS2_:=(hb.cell (World.block_lt_of_cell? _ _ (hHeld.2.2.1))).trans (hHeld.2.2.1)
        have HS3_:=(hb.cell (World.block_lt_of_cell? _ _ (hHeld.2.2.2.1))).trans (hHeld.2.2.2.1)
        have HS4_:=(hb.cell (World.block_lt_of_cell? _ _ (hHeld.2.2.2.2.1))).trans (hHeld.2.2.2.2.1)
        have HS5_:=(hb.cell (World.block_lt_of_cell? _ _ (hHeld.2.2.2.2.2.1))).trans (hHeld.2.2.2.2.2.1)
        have HS6_:=(hb.cell (World.block_lt_of_cell? _ _ (hHeld.2.2.2.2.2.2.1))).trans (hHeld.2.2.2.2.2.2.1)
        have HS7_:=(hb.cell (World.block_lt_of_cell? _ _ (hHeld.2.2.2.2.2.2.2.1))).trans (hHeld.2.2.2.2.2.2.2.1)
        have HS8_:=(hb.cell (World.block_lt_of_cell? _ _ (hHeld.2.2.2.2.2.2.2.2.1))).trans (hHeld.2.2.2.2.2.2.2.2.1)
        have HS9_:=(hb.cell (World.block_lt_of_cell? _ _ (hHeld.2.2.2.2.2.2.2.2.2.1))).trans (hHeld.2.2.2.2.2.2.2.2.2.1)
        have HS10_:=(hb.cell (World.block_lt_of_cell? _ _ (hHeld.2.2.2.2.2.2.2.2.2.2.1))).trans (hHeld.2.2.2.2.2.2.2.2.2.2.1)
        have HS11_:=(hb.cell (World.block_lt_of_cell? _ _ (hHeld.2.2.2.2.2.2.2.2.2.2.2.1))).trans (hHeld.2.2.2.2.2.2.2.2.2.2.2.1)
        have HS12_:=(hb.cell (World.block_lt_of_cell? _ _ (hHeld.2.2.2.2.2.2.2.2.2.2.2.2.1))).trans (hHeld.2.2.2.2.2.2.2.2.2.2.2.2.1)
        have HS13_:=(hb.cell (World.block_lt_of_cell? _ _ (hHeld.2.2.2.2.2.2.2.2.2.2.2.2.2.1))).trans (hHeld.2.2.2.2.2.2.2.2.2.2.2.2.2.1)
        have HS14_:=(hb.cell (World.block_lt_of_cell? _ _ (hHeld.2.2.2.2.2.2.2.2.2.2.2.2.2.2.1))).trans (hHeld.2.2.2.2.2.2.2.2.2.2.2.2.2.2.1)
        have HS15_:=(hb.cell (World.block_lt_of_cell? _ _ (hHeld.2.2.2.2.2.2.2.2.2.2.2.2.2.2.2.1))).trans (hHeld.2.2.2.2.2.2.2.2.2.2.2.2.2.2.2.1)
        have HS16_:=(hb.cell (World.block_lt_of_cell? _ _ (hHeld.2.2.2.2.2.2.2.2.2.2.2.2.2.2.2.2.1))).trans (hHeld.2.2.2.2.2.2.2.2.2.2.2.2.2.2.2.2.1)
        have HS17_:=(hb.cell (World.block_lt_of_cell? _ _ (hHeld.2.2.2.2.2.2.2.2.2.2.2.2.2.2.2.2.2.1))).trans (hHeld.2.2.2.2.2.2.2.2.2.2.2.2.2.2.2.2.2.1)
        have HS18_:=(hb.cell (World.block_lt_of_cell? _ _ (hHeld.2.2.2.2.2.2.2.2.2.2.2.2.2.2.2.2.2.2.1))).trans (hHeld.2.2.2.2.2.2.2.2.2.2.2.2.2.2.2.2.2.2.1)
        have HS19_:=(hb.cell (World.block_lt_of_cell? _ _ (hHeld.2.2.2.2.2.2.2.2.2.2.2.2.2.2.2.2.2.2.2.1))).trans (hHeld.2.2.2.2.2.2.2.2.2.2.2.2.2.2.2.2.2.2.2.1)
        have HS20_:=(hb.cell (World.block_lt_of_cell? _ _ (hHeld.2.2.2.2.2.2.2.2.2.2.2.2.2.2.2.2.2.2.2.2.1))).trans (hHeld.2.2.2.2.2.2.2.2.2.2.2.2.2.2.2.2.2.2.2.2.1)
        have HS21_:=(hb.cell (World.block_lt_of_cell? _ _ (hHeld.2.2.2.2.2.2.2.2.2.2.2.2.2.2.2.2.2.2.2.2.2.1))).trans (hHeld.2.2.2.2.2.2.2.2.2.2.2.2.2.2.2.2.2.2.2.2.2.1)
        have HS22_:=(hb.cell (World.block_lt_of_cell? _ _ (hHeld.2.2.2.2.2.2.2.2.2.2.2.2.2.2.2.2.2.2.2.2.2.2.1))).trans (hHeld.2.2.2.2.2.2.2.2.2.2.2.2.2.2.2.2.2.2.2.2.2.2.1)
        have HS23_:=(hb.cell (World.block_lt_of_cell? _ _ (hHeld.2.2.2.2.2.2.2.2.2.2.2.2.2.2.2.2.2.2.2.2.2.2.2.1))).trans (hHeld.2.2.2.2.2.2.2.2.2.2.2.2.2.2.2.2.2.2.2.2.2.2.2.1)
        have HS24_:=(hb.cell (World.block_lt_of_cell? _ _ (hHeld.2.2.2.2.2.2.2.2.2.2.2.2.2.2.2.2.2.2.2.2.2.2.2.2.1))).trans (hHeld.2.2.2.2.2.2.2.2.2.2.2.2.2.2.2.2.2.2.2.2.2.2.2.2.1)
        have HS25_:=(hb.cell (World.block_lt_of_cell? _ _ (hHeld.2.2.2.2.2.2.2.2.2.2.2.2.2.2.2.2.2.2.2.2.2.2.2.2.2.1))).trans (hHeld.2.2.2.2.2.2.2.2.2.2.2.2.2.2.2.2.2.2.2.2.2.2.2.2.2.1)
        have HS26_:=(hb.cell (World.block_lt_of_cell? _ _ (hHeld.2.2.2.2.2.2.2.2.2.2.2.2.2.2.2.2.2.2.2.2.2.2.2.2.2.2.1))).trans (hHeld.2.2.2.2.2.2.2.2.2.2.2.2.2.2.2.2.2.2.2.2.2.2.2.2.2.2.1)
        have HS27_:=(hb.cell (World.block_lt_of_cell? _ _ (hHeld.2.2.2.2.2.2.2.2.2.2.2.2.2.2.2.2.2.2.2.2.2.2.2.2.2.2.2.1))).trans (hHeld.2.2.2.2.2.2.2.2.2.2.2.2.2.2.2.2.2.2.2.2.2.2.2.2.2.2.2.1)
        have HS28_:=(hb.cell (World.block_lt_of_cell? _ _ (hHeld.2.2.2.2.2.2.2.2.2.2.2.2.2.2.2.2.2.2.2.2.2.2.2.2.2.2.2.2.1))).trans (hHeld.2.2.2.2.2.2.2.2.2.2.2.2.2.2.2.2.2.2.2.2.2.2.2.2.2.2.2.2.1)
        have HS29_:=(hb.cell (World.block_lt_of_cell? _ _ (hHeld.2.2.2.2.2.2.2.2.2.2.2.2.2.2.2.2.2.2.2.2.2.2.2.2.2.2.2.2.2))).trans (hHeld.2.2.2.2.2.2.2.2.2.2.2.2.2.2.2.2.2.2.2.2.2.2.2.2.2.2.2.2.2)
        refine ⟨_,rfl,?_⟩
        replace HO_7:=Aside0.mk (Kd.R_below (by (with_reducible repeat (first|apply Kd.R_alloc|apply Kd.R_drewN|apply Kd.R_drew));exact HO_7.out) hb)
        replace HO_8:=Aside0.mk (Kd.R_below (by (with_reducible repeat (first|apply Kd.R_alloc|apply Kd.R_drewN|apply Kd.R_drew));exact HO_8.out) hb)
        replace HB:=Aside0.mk (below_step (by repeat (first|(with_reducible first|exact HB.out|apply xA|apply xN|apply xD)|exact HB.out)) hb)
        (try clear hb)
        (try clear hb2)
        (try clear hk)
        (try clear hi)
        refine hK.out _ _ ⟨HS0_,HS1_,HS2_,HS3_,HS4_,HS5_,HS6_,HS7_,HS8_,HS9_,HS10_,HS11_,HS12_,HS13_,HS14_,HS15_,HS16_,HS17_,HS18_,HS19_,HS20_,HS21_,HS22_,HS23_,HS24_,HS25_,HS26_,HS27_,HS28_,HS29_⟩ (fun hHeld => ?_)
        clear hK K
        refine norm_ (a':=?_) ?_ ?_
        rotate_left
        ·show Act.put _ (some 31) _ = _
         simp only [Act.put,List.setIfInBounds_toArray,List.set_cons_zero,List.set_cons_succ,i64_w,i32_w]
         rfl
        refine pure_ (i:=6) (N:=some 32) (v:=?_) (a':=?_) #[true,true,true,true,true,true,true,false,false,false,false,false,false,false,false,false,false,false,false,false] rfl rfl (any_of HT_.out (by kernel_rfl)) (fun _ _ _ h => h) (Or.inl ⟨by rfl,?_⟩) ?_ ?_
        rotate_left
        ·intro w'
         go_simp
         with_reducible rfl
        rotate_left
        ·simp only [Act.put,List.setIfInBounds_toArray,List.set_cons_zero,List.set_cons_succ,i64_w,i32_w]
         rfl
        refine pure_ (i:=7) (N:=some 33) (v:=?_) (a':=?_) #[true,true,true,true,true,true,true,true,false,false,false,false,false,false,false,false,false,false,false,false] rfl rfl (any_of HT_.out (by kernel_rfl)) (fun _ _ _ h => h) (Or.inl ⟨by rfl,?_⟩) ?_ ?_
        rotate_left
        ·intro w'
         go_simp
         with_reducible rfl
        rotate_left
        ·simp only [Act.put,List.setIfInBounds_toArray,List.set_cons_zero,List.set_cons_succ,i64_w,i32_w]
         rfl
        refine pure_ (i:=8) (N:=some 34) (v:=?_) (a':=?_) #[true,true,true,true,true,true,true,true,true,false,false,false,false,false,false,false,false,false,false,false] rfl rfl (any_of HT_.out (by kernel_rfl)) (fun _ _ _ h => h) (Or.inl ⟨by rfl,?_⟩) ?_ ?_
        rotate_left
        ·intro w'
         go_simp
         with_reducible rfl
        rotate_left
        ·simp only [Act.put,List.setIfInBounds_toArray,List.set_cons_zero,List.set_cons_succ,i64_w,i32_w]
         rfl
        refine pure_ (i:=9) (N:=some 35) (v:=?_) (a':=?_) #[true,true,true,true,true,true,true,true,true,true,false,false,false,false,false,false,false,false,false,false] rfl rfl (any_of HT_.out (by kernel_rfl)) (fun _ _ _ h => h) (Or.inl ⟨by rfl,?_⟩) ?_ ?_
        rotate_left
        ·intro w'
         go_simp
         with_reducible rfl
        rotate_left
        ·simp only [Act.put,List.setIfInBounds_toArray,List.set_cons_zero,List.set_cons_succ,i64_w,i32_w]
         rfl
        refine pure_ (i:=10) (N:=some 36) (v:=?_) (a':=?_) #[true,true,true,true,true,true,true,true,true,true,true,false,false,false,false,false,false,false,false,false] rfl rfl (any_of HT_.out (by kernel_rfl)) (fun _ _ _ h => h) (Or.inl ⟨by rfl,?_⟩) ?_ ?_
        rotate_left
        ·intro w'
         go_simp
         with_reducible rfl
        rotate_left
        ·simp only [Act.put,List.setIfInBounds_toArray,List.set_cons_zero,List.set_cons_succ,i64_w,i32_w]
         rfl
        refine pure_ (i:=11) (N:=some 37) (v:=?_) (a':=?_) #[true,true,true,true,true,true,true,true,true,true,true,true,false,false,false,false,false,false,false,false] rfl rfl (any_of HT_.out (by kernel_rfl)) (fun _ _ _ h => h) (Or.inl ⟨by rfl,?_⟩) ?_ ?_
        rotate_left
        ·intro w'
         go_simp
         with_reducible rfl
        rotate_left
        ·simp only [Act.put,List.setIfInBounds_toArray,List.set_cons_zero,List.set_cons_succ,i64_w,i32_w]
         rfl
        refine pure_ (i:=13) (N:=some 39) (v:=?_) (a':=?_) #[true,true,true,true,true,true,true,true,true,true,true,true,false,true,false,false,false,false,false,false] rfl rfl (any_of HT_.out (by kernel_rfl)) (fun _ _ _ h => h) (Or.inl ⟨by rfl,?_⟩) ?_ ?_
        rotate_left
        ·intro w'
         go_simp
         with_reducible rfl
        rotate_left
        ·simp only [Act.put,List.setIfInBounds_toArray,List.set_cons_zero,List.set_cons_succ,i64_w,i32_w]
         rfl
        refine pure_ (i:=14) (N:=some 40) (v:=?_) (a':=?_) #[true,true,true,true,true,true,true,true,true,true,true,true,false,true,true,false,false,false,false,false] rfl rfl (any_of HT_.out (by kernel_rfl)) (fun _ _ _ h => h) (Or.inl ⟨by rfl,?_⟩) ?_ ?_
        rotate_left
        ·intro w'
         go_simp
         with_reducible rfl
        rotate_left
        ·simp only [Act.put,List.setIfInBounds_toArray,List.set_cons_zero,List.set_cons_succ,i64_w,i32_w]
         rfl
        refine pure_ (i:=15) (N:=some 41) (v:=?_) (a':=?_) #[true,true,true,true,true,true,true,true,true,true,true,true,false,true,true,true,false,false,false,false] rfl rfl (any_of HT_.out (by kernel_rfl)) (fun _ _ _ h => h) (Or.inl ⟨by rfl,?_⟩) ?_ ?_
        rotate_left
        ·intro w'
         go_simp
         with_reducible rfl
        rotate_left
        ·simp only [Act.put,List.setIfInBounds_toArray,List.set_cons_zero,List.set_cons_succ,i64_w,i32_w]
         rfl
        refine pure_ (i:=16) (N:=some 42) (v:=?_) (a':=?_) #[true,true,true,true,true,true,true,true,true,true,true,true,false,true,true,true,true,false,false,false] rfl rfl (any_of HT_.out (by kernel_rfl)) (fun _ _ _ h => h) (Or.inl ⟨by rfl,?_⟩) ?_ ?_
        rotate_left
        ·intro w'
         go_simp
         with_reducible rfl
        rotate_left
        ·simp only [Act.put,List.setIfInBounds_toArray,List.set_cons_zero,List.set_cons_succ,i64_w,i32_w]
         rfl
        refine take_ (i:=12) (N:=some 38) (v:=?_) (a':=?_) #[true,true,true,true,true,true,true,true,true,true,true,true,true,true,true,true,true,false,false,false] rfl rfl (take_ofW HT_.out HW_.out (by kernel_rfl)) (fun _ _ _ h => h) (Or.inl ⟨by rfl,?_⟩) hHeld ?_ ?_
        rotate_left
        ·rintro w' ⟨s0,s1,s2,s3,s4,s5,s6,s7,s8,s9,s10,s11,s12,s13,s14,s15,s16,s17,s18,s19,s20,s21,s22,s23,s24,s25,s26,s27,s28,s29⟩
         go_simp
         with_reducible rfl
        rotate_left
        ·simp only [Act.put,List.setIfInBounds_toArray,List.set_cons_zero,List.set_cons_succ,i64_w,i32_w]
         rfl
        refine take_ (i:=17) (N:=some 43) (v:=?_) (a':=?_) #[true,true,true,true,true,true,true,true,true,true,true,true,true,true,true,true,true,true,false,false] rfl rfl (take_ofW HT_.out HW_.out (by kernel_rfl)) (fun _ _ _ h => h) (Or.inl ⟨by rfl,?_⟩) hHeld ?_ ?_
        rotate_left
        ·rintro w' ⟨s0,s1,s2,s3,s4,s5,s6,s7,s8,s9,s10,s11,s12,s13,s14,s15,s16,s17,s18,s19,s20,s21,s22,s23,s24,s25,s26,s27,s28,s29⟩
         go_simp
         with_reducible rfl
        rotate_left
        ·simp only [Act.put,List.setIfInBounds_toArray,List.set_cons_zero,List.set_cons_succ,i64_w,i32_w]
         rfl
        refine one_ (i:=18) (N:=some 44) #[true,true,true,true,true,true,true,true,true,true,true,true,true,true,true,true,true,true,true,false] rfl rfl (one_of HT_.out (by kernel_rfl)) (by decide) (fun K hK => ?_)
        refine goes_ Try.func49 (by kernel_rfl) rfl #[.agg #[.string ((rd_T46 t240 x9_1).f0.f0),.int .i64 ((rd_T46 t240 x9_1).f0.f1.f0),.int .i64 ((rd_T46 t240 x9_1).f0.f1.f1),.string ((rd_T46 t240 x9_1).f0.f2),.bool ((rd_T46 t240 x9_1).f0.f3)],.agg #[.string ((rd_T46 t240 x9_1).f1.f0),.int .i64 ((rd_T46 t240 x9_1).f1.f1.f0),.int .i64 ((rd_T46 t240 x9_1).f1.f1.f1),.string ((rd_T46 t240 x9_1).f1.f2),.bool ((rd_T46 t240 x9_1).f1.f3)]] (by rfl) rfl rfl (by (try simp only [List.map_toArray,List.map_cons,List.map_nil]);first|done|rfl|(simp only [List.length_drop,List.length_take];rfl)) ?_
        with_reducible refine (tidelineref03_Newer.calls ((rd_T46 t240 x9_1).f0.f0) ((rd_T46 t240 x9_1).f0.f1.f0) ((rd_T46 t240 x9_1).f0.f1.f1) ((rd_T46 t240 x9_1).f0.f2) ((rd_T46 t240 x9_1).f0.f3) ((rd_T46 t240 x9_1).f1.f0) ((rd_T46 t240 x9_1).f1.f1.f0) ((rd_T46 t240 x9_1).f1.f1.f1) ((rd_T46 t240 x9_1).f1.f2) ((rd_T46 t240 x9_1).f1.f3) false _ A17.out).mono ?_
        rintro e w28 ⟨rfl,hb⟩
        have HS0_:=(hb.cell (World.block_lt_of_cell? _ _ (hHeld.1))).trans (hHeld.1)
        have HS1_:=(hb.cell (World.block_lt_of_cell? _ _ (hHeld.2.1))).trans (hHeld.2.1)
        have HS2_:=(hb.cell (World.block_lt_of_cell? _ _ (hHeld.2.2.1))).trans (hHeld.2.2.1)
        have HS3_:=(hb.cell (World.block_lt_of_cell? _ _ (hHeld.2.2.2.1))).trans (hHeld.2.2.2.1)
        have HS4_:=(hb.cell (World.block_lt_of_cell? _ _ (hHeld.2.2.2.2.1))).trans (hHeld.2.2.2.2.1)
        have HS5_:=(hb.cell (World.block_lt_of_cell? _ _ (hHeld.2.2.2.2.2.1))).trans (hHeld.2.2.2.2.2.1)
        have HS6_:=(hb.cell (World.block_lt_of_cell? _ _ (hHeld.2.2.2.2.2.2.1))).trans (hHeld.2.2.2.2.2.2.1)
        have HS7_:=(hb.cell (World.block_lt_of_cell? _ _ (hHeld.2.2.2.2.2.2.2.1))).trans (hHeld.2.2.2.2.2.2.2.1)
        have HS8_:=(hb.cell (World.block_lt_of_cell? _ _ (hHeld.2.2.2.2.2.2.2.2.1))).trans (hHeld.2.2.2.2.2.2.2.2.1)
        have HS9_:=(hb.cell (World.block_lt_of_cell? _ _ (hHeld.2.2.2.2.2.2.2.2.2.1))).trans (hHeld.2.2.2.2.2.2.2.2.2.1)
        have HS10_:=(hb.cell (World.block_lt_of_cell? _ _ (hHeld.2.2.2.2.2.2.2.2.2.2.1))).trans (hHeld.2.2.2.2.2.2.2.2.2.2.1)
        have HS11_:=(hb.cell (World.block_lt_of_cell? _ _ (hHeld.2.2.2.2.2.2.2.2.2.2.2.1))).trans (hHeld.2.2.2.2.2.2.2.2.2.2.2.1)
        have HS12_:=(hb.cell (World.block_lt_of_cell? _ _ (hHeld.2.2.2.2.2.2.2.2.2.2.2.2.1))).trans (hHeld.2.2.2.2.2.2.2.2.2.2.2.2.1)
        have HS13_:=(hb.cell (World.block_lt_of_cell? _ _ (hHeld.2.2.2.2.2.2.2.2.2.2.2.2.2.1))).trans (hHeld.2.2.2.2.2.2.2.2.2.2.2.2.2.1)
        have HS14_:=(hb.cell (World.block_lt_of_cell? _ _ (hHeld.2.2.2.2.2.2.2.2.2.2.2.2.2.2.1))).trans (hHeld.2.2.2.2.2.2.2.2.2.2.2.2.2.2.1)
        have HS15_:=(hb.cell (World.block_lt_of_cell? _ _ (hHeld.2.2.2.2.2.2.2.2.2.2.2.2.2.2.2.1))).trans (hHeld.2.2.2.2.2.2.2.2.2.2.2.2.2.2.2.1)
        have HS16_:=(hb.cell (World.block_lt_of_cell? _ _ (hHeld.2.2.2.2.2.2.2.2.2.2.2.2.2.2.2.2.1))).trans (hHeld.2.2.2.2.2.2.2.2.2.2.2.2.2.2.2.2.1)
        have HS17_:=(hb.cell (World.block_lt_of_cell? _ _ (hHeld.2.2.2.2.2.2.2.2.2.2.2.2.2.2.2.2.2.1))).trans (hHeld.2.2.2.2.2.2.2.2.2.2.2.2.2.2.2.2.2.1)
        have HS18_:=(hb.cell (World.block_lt_of_cell? _ _ (hHeld.2.2.2.2.2.2.2.2.2.2.2.2.2.2.2.2.2.2.1))).trans (hHeld.2.2.2.2.2.2.2.2.2.2.2.2.2.2.2.2.2.2.1)
        have HS19_:=(hb.cell (World.block_lt_of_cell? _ _ (hHeld.2.2.2.2.2.2.2.2.2.2.2.2.2.2.2.2.2.2.2.1))).trans (hHeld.2.2.2.2.2.2.2.2.2.2.2.2.2.2.2.2.2.2.2.1)
        have HS20_:=(hb.cell (World.block_lt_of_cell? _ _ (hHeld.2.2.2.2.2.2.2.2.2.2.2.2.2.2.2.2.2.2.2.2.1))).trans (hHeld.2.2.2.2.2.2.2.2.2.2.2.2.2.2.2.2.2.2.2.2.1)
        have HS21_:=(hb.cell (World.block_lt_of_cell? _ _ (hHeld.2.2.2.2.2.2.2.2.2.2.2.2.2.2.2.2.2.2.2.2.2.1))).trans (hHeld.2.2.2.2.2.2.2.2.2.2.2.2.2.2.2.2.2.2.2.2.2.1)
        have HS22_:=(hb.cell (World.block_lt_of_cell? _ _ (hHeld.2.2.2.2.2.2.2.2.2.2.2.2.2.2.2.2.2.2.2.2.2.2.1))).trans (hHeld.2.2.2.2.2.2.2.2.2.2.2.2.2.2.2.2.2.2.2.2.2.2.1)
        have HS23_:=(hb.cell (World.block_lt_of_cell? _ _ (hHeld.2.2.2.2.2.2.2.2.2.2.2.2.2.2.2.2.2.2.2.2.2.2.2.1))).trans (hHeld.2.2.2.2.2.2.2.2.2.2.2.2.2.2.2.2.2.2.2.2.2.2.2.1)
        have HS24_:=(hb.cell (World.block_lt_of_cell? _ _ (hHeld.2.2.2.2.2.2.2.2.2.2.2.2.2.2.2.2.2.2.2.2.2.2.2.2.1))).trans (hHeld.2.2.2.2.2.2.2.2.2.2.2.2.2.2.2.2.2.2.2.2.2.2.2.2.1)
        have HS25_:=(hb.cell (World.block_lt_of_cell? _ _ (hHeld.2.2.2.2.2.2.2.2.2.2.2.2.2.2.2.2.2.2.2.2.2.2.2.2.2.1))).trans (hHeld.2.2.2.2.2.2.2.2.2.2.2.2.2.2.2.2.2.2.2.2.2.2.2.2.2.1)
        have HS26_:=(hb.cell (World.block_lt_of_cell? _ _ (hHeld.2.2.2.2.2.2.2.2.2.2.2.2.2.2.2.2.2.2.2.2.2.2.2.2.2.2.1))).trans (hHeld.2.2.2.2.2.2.2.2.2.2.2.2.2.2.2.2.2.2.2.2.2.2.2.2.2.2.1)
        have HS27_:=(hb.cell (World.block_lt_of_cell? _ _ (hHeld.2.2.2.2.2.2.2.2.2.2.2.2.2.2.2.2.2.2.2.2.2.2.2.2.2.2.2.1))).trans (hHeld.2.2.2.2.2.2.2.2.2.2.2.2.2.2.2.2.2.2.2.2.2.2.2.2.2.2.2.1)
        have HS28_:=(hb.cell (World.block_lt_of_cell? _ _ (hHeld.2.2.2.2.2.2.2.2.2.2.2.2.2.2.2.2.2.2.2.2.2.2.2.2.2.2.2.2.1))).trans (hHeld.2.2.2.2.2.2.2.2.2.2.2.2.2.2.2.2.2.2.2.2.2.2.2.2.2.2.2.2.1)
        have HS29_:=(hb.cell (World.block_lt_of_cell? _ _ (hHeld.2.2.2.2.2.2.2.2.2.2.2.2.2.2.2.2.2.2.2.2.2.2.2.2.2.2.2.2.2))).trans (hHeld.2.2.2.2.2.2.2.2.2.2.2.2.2.2.2.2.2.2.2.2.2.2.2.2.2.2.2.2.2)
        refine ⟨_,rfl,?_⟩
        replace HO_7:=Aside0.mk (Kd.R_below (by (with_reducible repeat (first|apply Kd.R_alloc|apply Kd.R_drewN|apply Kd.R_drew));exact HO_7.out) hb)
        replace HO_8:=Aside0.mk (Kd.R_below (by (with_reducible repeat (first|apply Kd.R_alloc|apply Kd.R_drewN|apply Kd.R_drew));exact HO_8.out) hb)
        replace HB:=Aside0.mk (below_step (by repeat (first|(with_reducible first|exact HB.out|apply xA|apply xN|apply xD)|exact HB.out)) hb)
        (try clear hb)
        (try clear hb2)
        (try clear hk)
        (try clear hi)
        refine hK.out _ _ ⟨HS0_,HS1_,HS2_,HS3_,HS4_,HS5_,HS6_,HS7_,HS8_,HS9_,HS10_,HS11_,HS12_,HS13_,HS14_,HS15_,HS16_,HS17_,HS18_,HS19_,HS20_,HS21_,HS22_,HS23_,HS24_,HS25_,HS26_,HS27_,HS28_,HS29_⟩ (fun hHeld => ?_)
        clear hK K
        refine norm_ (a':=?_) ?_ ?_
        rotate_left
        ·show Act.put _ (some 44) _ = _
         simp only [Act.put,List.setIfInBounds_toArray,List.set_cons_zero,List.set_cons_succ,i64_w,i32_w]
         rfl
        refine pure_ (i:=19) (N:=some 45) (v:=?_) (a':=?_) #[true,true,true,true,true,true,true,true,true,true,true,true,true,true,true,true,true,true,true,true] rfl rfl (any_of HT_.out (by kernel_rfl)) (fun _ _ _ h => h) (Or.inl ⟨by rfl,?_⟩) ?_ ?_
        rotate_left
        ·intro w'
         go_simp
         with_reducible rfl
        rotate_left
        ·simp only [Act.put,List.setIfInBounds_toArray,List.set_cons_zero,List.set_cons_succ,i64_w,i32_w]
         rfl
        refine done_ (done_of HT_.out (by kernel_rfl)) ?_
        try go_wp2
        go_roundg k1
        case measure => have:=HK1.out;omega
        case rel => exact ⟨(x8_1),(wrap64 (x9_1 + 1)),(by first|rfl|(simp;done)|(simp [*];done)|(simp [*,Go.Proofs.Ytghlellambnkeaa.Str.bne_nil];done)),H',⟨by have:=HK1.out;omega⟩,⟨by (with_reducible repeat (first|apply Kd.R_alloc|apply Kd.R_drewN|apply Kd.R_drew));exact HO_7.out⟩,⟨by (with_reducible repeat (first|apply Kd.R_alloc|apply Kd.R_drewN|apply Kd.R_drew));exact HO_8.out⟩,⟨by repeat (first|(with_reducible first|exact HB.out|apply xA|apply xN|apply xD)|exact HB.out)⟩⟩
     ·rw [if_neg c11] at H
      exact absurd H (by simp)
    ·rw [if_neg c10] at H
     have c10b0 : decide (x9_1 < (t240.length : Int)) = false:=decide_eq_false c10
     clear c10
     simp only [Option.some.injEq,Prod.mk.injEq] at H
     obtain ⟨rfl,rfl⟩:=H
     obtain ⟨Ao29,co29,eo29⟩:=Kd.R_slice HO_7.out
     subst eo29
     go_wp2
     go_ret2
     exact ⟨_,by first|rfl|(simp [errW_none,errW_some] <;> rfl)|(simp [*,errW_none,errW_some] <;> rfl),by (with_reducible repeat (first|apply Kd.R_alloc|apply Kd.R_drewN|apply Kd.R_drew));exact HO_8.out,by repeat (first|(with_reducible first|exact HB.out|apply xA|apply xN|apply xD)|exact HB.out)⟩
 ·rw [if_neg c4] at H
  have c4b0 : (t239 == 0) = false:=beq_eq_false_iff_ne.mpr c4
  have c4b1 : (t239 != 0) = true:=bne_iff_ne.mpr c4
  simp only [Option.some.injEq,Prod.mk.injEq] at H
  obtain ⟨rfl,rfl⟩:=H
  go_enter Try.func32,Try.ntmps32
  go_wp2_with (first|((with_reducible refine gate_callee (f:=40) rfl ?_);refine goesL_ (some 12) rfl rfl Try.func40 (by kernel_rfl) rfl #[.slice A0 l0.length c0,.slice A1 l1.length c1] rfl (by (try simp only [List.map_toArray,List.map_cons,List.map_nil]);first|done|rfl|(simp only [List.length_drop,List.length_take];rfl)) ?_;(with_reducible refine (tidelineref09_check.calls k _ _ l0 _ _ l1 t239 _ ?side1 ?side2 ?side3 ?side4 A3.out).mono ?_);(case side1 => repeat (first|exact HR0.out|(with_reducible refine Kd.C_alloc ?_ _)|(with_reducible refine Kd.C_drewN ?_ _)|(with_reducible refine Kd.C_drew ?_)));(case side2 => exact HC0.out);(case side3 => repeat (first|exact HR1.out|(with_reducible refine Kd.C_alloc ?_ _)|(with_reducible refine Kd.C_drewN ?_ _)|(with_reducible refine Kd.C_drew ?_)));(case side4 => exact HC1.out);rintro e w30 ⟨rfl,hb⟩;refine ⟨_,rfl,?_⟩;replace HB:=Aside0.mk (below_step (by repeat (first|(with_reducible first|exact HB.out|apply xA|apply xN|apply xD)|exact HB.out)) hb);(try clear hb);(try clear hb2);(try clear hk);(try clear hi)))
  go_ret2
  exact ⟨_,by first|rfl|(simp [errW_none,errW_some] <;> rfl)|(simp [*,errW_none,errW_some] <;> rfl),by first|exact Kd.R_nil _ _ _ _ _|exact Kd.N_nil _ _ _ _ _|exact Kd.V_nil _ _ _ _ _|exact Kd.Q_nil _ _ _ _ _|exact Kd.S_nil _ _ _ _ _,by repeat (first|(with_reducible first|exact HB.out|apply xA|apply xN|apply xD)|exact HB.out)⟩

/-! ### tidelineref09_Above: function 33 -/
def tidelineref09_Above.f (k : Nat) (l0 : List (S44)) (l1 : List (S44)) : Option (Bool × Int) := (tidelineref09_check.f k l0 l1).bind fun t255 => (if t255 = 0 then ((tidelineref09_Lacks.f k l1 l0).bind fun bt256 => (some (((bt256.1.length : Int) == 0), 0))) else (some (false, t255)))
theorem tidelineref09_Above.mono : ∀ a0 a1 k, LeO (tidelineref09_Above.f k a0 a1) (tidelineref09_Above.f (k + 1) a0 a1) := by
  intro a0 a1 k
  unfold tidelineref09_Above.f
  repeat' first
      | (with_reducible exact tidelineref09_Lacks.mono _ _ _)
      | (with_reducible exact tidelineref09_check.mono _ _ _)
      | (with_reducible exact LeO.refl _)
      | (with_reducible exact LeO.none _)
      | (with_reducible refine LeO.ite ?_ ?_)
      | (with_reducible refine LeO.bind ?_ (fun _ => ?_))
      | exact tidelineref09_Lacks.mono _ _ _
      | exact tidelineref09_check.mono _ _ _
      | exact LeO.none _
      | refine LeO.ite ?_ ?_
      | refine LeO.bind ?_ (fun _ => ?_)
set_option maxHeartbeats 8000000 in
set_option maxRecDepth 100000 in
theorem tidelineref09_Above.calls (k : Nat) (A0 : Option Addr) (c0 : Nat) (l0 : List (S44)) (A1 : Option Addr) (c1 : Nat) (l1 : List (S44)) (r1 : Bool) (r2 : Int) (w : World) (hr0 : Kd.C k44 w A0 l0.length l0) (hc0 : l0.length ≤ c0) (hr1 : Kd.C k44 w A1 l1.length l1) (hc1 : l1.length ≤ c1) (h : tidelineref09_Above.f k l0 l1 = some (r1, r2)) :
    Calls Try.prog 33 #[.slice A0 l0.length c0, .slice A1 l1.length c1] w fun e w' => e = .returned (.tuple #[.bool r1, .int .i64 r2]) ∧ Below w.heap.size w w' := by
 have HR0:=Aside0.mk hr0
 have HC0:=Aside0.mk hc0
 clear hr0 hc0
 have HR1:=Aside0.mk hr1
 have HC1:=Aside0.mk hc1
 clear hr1 hc1
 have HB:=Aside0.mk (Below.refl w.heap.size w)
 have H : ((tidelineref09_check.f k l0 l1).bind fun t255 => (if t255 = 0 then ((tidelineref09_Lacks.f k l1 l0).bind fun bt256 => (some (((bt256.1.length : Int) == 0),0))) else (some (false,t255)))) = some (r1,r2):=h
 clear h
 replace H:=Option.bind_eq_some_iff.mp H
 obtain ⟨t255,A30,H⟩:=H
 replace H : (if t255 = 0 then ((tidelineref09_Lacks.f k l1 l0).bind fun bt256 => (some (((bt256.1.length : Int) == 0),0))) else (some (false,t255))) = some (r1,r2):=H
 have A3:=Aside0.mk A30
 clear A30
 by_cases c4 : t255 = 0
 ·rw [if_pos c4] at H
  have c4b0 : (t255 == 0) = true:=beq_iff_eq.mpr c4
  have c4b1 : (t255 != 0) = false:=bne_eq_false_iff_eq.mpr c4
  clear c4
  replace H:=Option.bind_eq_some_iff.mp H
  obtain ⟨⟨t256,t257⟩,A50,H⟩:=H
  replace H : (some (((t256.length : Int) == 0),0)) = some (r1,r2):=H
  have A5:=Aside0.mk A50
  clear A50
  simp only [Option.some.injEq,Prod.mk.injEq] at H
  obtain ⟨rfl,rfl⟩:=H
  go_enter Try.func33,Try.ntmps33
  go_wp2_with (first|((with_reducible refine gate_callee (f:=40) rfl ?_);refine goesL_ (some 11) rfl rfl Try.func40 (by kernel_rfl) rfl #[.slice A0 l0.length c0,.slice A1 l1.length c1] rfl (by (try simp only [List.map_toArray,List.map_cons,List.map_nil]);first|done|rfl|(simp only [List.length_drop,List.length_take];rfl)) ?_;(with_reducible refine (tidelineref09_check.calls k _ _ l0 _ _ l1 t255 _ ?side1 ?side2 ?side3 ?side4 A3.out).mono ?_);(case side1 => repeat (first|exact HR0.out|(with_reducible refine Kd.C_alloc ?_ _)|(with_reducible refine Kd.C_drewN ?_ _)|(with_reducible refine Kd.C_drew ?_)));(case side2 => exact HC0.out);(case side3 => repeat (first|exact HR1.out|(with_reducible refine Kd.C_alloc ?_ _)|(with_reducible refine Kd.C_drewN ?_ _)|(with_reducible refine Kd.C_drew ?_)));(case side4 => exact HC1.out);rintro e w6 ⟨rfl,hb⟩;refine ⟨_,rfl,?_⟩;replace HB:=Aside0.mk (below_step (by repeat (first|(with_reducible first|exact HB.out|apply xA|apply xN|apply xD)|exact HB.out)) hb);(try clear hb);(try clear hb2);(try clear hk);(try clear hi))|((with_reducible refine gate_callee (f:=32) rfl ?_);refine goesL_ (some 18) rfl rfl Try.func32 (by kernel_rfl) rfl #[.slice A1 l1.length c1,.slice A0 l0.length c0] rfl (by (try simp only [List.map_toArray,List.map_cons,List.map_nil]);first|done|rfl|(simp only [List.length_drop,List.length_take];rfl)) ?_;(with_reducible refine (tidelineref09_Lacks.calls k _ _ l1 _ _ l0 t256 t257 _ ?side1 ?side2 ?side3 ?side4 A5.out).mono ?_);(case side1 => repeat (first|exact (Kd.C_below HR1.out HB.out)|(with_reducible refine Kd.C_alloc ?_ _)|(with_reducible refine Kd.C_drewN ?_ _)|(with_reducible refine Kd.C_drew ?_)));(case side2 => exact HC1.out);(case side3 => repeat (first|exact (Kd.C_below HR0.out HB.out)|(with_reducible refine Kd.C_alloc ?_ _)|(with_reducible refine Kd.C_drewN ?_ _)|(with_reducible refine Kd.C_drew ?_)));(case side4 => exact HC0.out);rintro e w7 ⟨v258,rfl,ho0,hb⟩;refine ⟨_,rfl,?_⟩;have n0_:=Aside0.mk (Kd.R_lower ho0 (below_size (by repeat (first|(with_reducible first|exact HB.out|apply xA|apply xN|apply xD)|exact HB.out))));have n1_:=Aside0.mk (below_step (by repeat (first|(with_reducible first|exact HB.out|apply xA|apply xN|apply xD)|exact HB.out)) hb);clear HB;have HO259:=n0_;have HB:=n1_;clear n0_ n1_;(try clear hb);(try clear hb2);(try clear hk);(try clear hi);(try clear ho0);obtain ⟨Ao8,co8,eo8⟩:=Kd.R_slice HO259.out;subst eo8))
  go_ret2
  exact ⟨by first|rfl|(simp [errW_none,errW_some] <;> rfl)|(simp [*,errW_none,errW_some] <;> rfl),by repeat (first|(with_reducible first|exact HB.out|apply xA|apply xN|apply xD)|exact HB.out)⟩
 ·rw [if_neg c4] at H
  have c4b0 : (t255 == 0) = false:=beq_eq_false_iff_ne.mpr c4
  have c4b1 : (t255 != 0) = true:=bne_iff_ne.mpr c4
  simp only [Option.some.injEq,Prod.mk.injEq] at H
  obtain ⟨rfl,rfl⟩:=H
  go_enter Try.func33,Try.ntmps33
  go_wp2_with (first|((with_reducible refine gate_callee (f:=40) rfl ?_);refine goesL_ (some 11) rfl rfl Try.func40 (by kernel_rfl) rfl #[.slice A0 l0.length c0,.slice A1 l1.length c1] rfl (by (try simp only [List.map_toArray,List.map_cons,List.map_nil]);first|done|rfl|(simp only [List.length_drop,List.length_take];rfl)) ?_;(with_reducible refine (tidelineref09_check.calls k _ _ l0 _ _ l1 t255 _ ?side1 ?side2 ?side3 ?side4 A3.out).mono ?_);(case side1 => repeat (first|exact HR0.out|(with_reducible refine Kd.C_alloc ?_ _)|(with_reducible refine Kd.C_drewN ?_ _)|(with_reducible refine Kd.C_drew ?_)));(case side2 => exact HC0.out);(case side3 => repeat (first|exact HR1.out|(with_reducible refine Kd.C_alloc ?_ _)|(with_reducible refine Kd.C_drewN ?_ _)|(with_reducible refine Kd.C_drew ?_)));(case side4 => exact HC1.out);rintro e w9 ⟨rfl,hb⟩;refine ⟨_,rfl,?_⟩;replace HB:=Aside0.mk (below_step (by repeat (first|(with_reducible first|exact HB.out|apply xA|apply xN|apply xD)|exact HB.out)) hb);(try clear hb);(try clear hb2);(try clear hk);(try clear hi)))
  go_ret2
  exact ⟨by first|rfl|(simp [errW_none,errW_some] <;> rfl)|(simp [*,errW_none,errW_some] <;> rfl),by repeat (first|(with_reducible first|exact HB.out|apply xA|apply xN|apply xD)|exact HB.out)⟩

end Go.Proofs.Ytghlellambnkeaa.PAll
