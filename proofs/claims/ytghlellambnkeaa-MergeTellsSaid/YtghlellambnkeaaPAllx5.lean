-- By wip/pr.py (a program of this session, over the kit's print): lines written by program. Not trusted: Lean checks them.
import Derived.Test.YtghlellambnkeaaPAllx0
import Derived.Test.YtghlellambnkeaaPAllx4
namespace Go.Proofs.Ytghlellambnkeaa.PAll
open Go.RowKit Go.Proofs.YtghlellambnkeaaW.PrintWords Go.Proofs.YtghlellambnkeaaW.PrintLast Go.Proofs.YtghlellambnkeaaW.PrintMore
attribute [local go_sem] max2_int min2_int max_two min_two max_three min_three max_four min_four   -- for this text's walks alone
set_option linter.unusedVariables false
set_option linter.unusedSimpArgs false

/-! ### item_Compare: function 54 -/
def item_Compare.f (k : Nat) (a0_0 : Int) (a0_1 : Int) (a1_0 : Int) (a1_1 : Int) : Option (Int) := (cmp_Compare_int.f a0_0 a1_0).bind fun t137 => ((cmp_Compare_int.f a0_1 a1_1).bind fun t138 => ((cmp_Or_int.f k (([t137, t138] : List Int))).bind fun t142 => (some t142)))
theorem item_Compare.mono : ∀ a0 a1 a2 a3 k, LeO (item_Compare.f k a0 a1 a2 a3) (item_Compare.f (k + 1) a0 a1 a2 a3) := by
  intro a0 a1 a2 a3 k
  unfold item_Compare.f
  repeat' first
      | (with_reducible exact cmp_Or_int.mono _ _)
      | (with_reducible exact LeO.refl _)
      | (with_reducible exact LeO.none _)
      | (with_reducible refine LeO.ite ?_ ?_)
      | (with_reducible refine LeO.bind ?_ (fun _ => ?_))
      | exact cmp_Or_int.mono _ _
      | exact LeO.none _
      | refine LeO.ite ?_ ?_
      | refine LeO.bind ?_ (fun _ => ?_)
def item_Compare.T1 : Bool × List (List Nat × List Nat) := (true, [([], []), ([0], [0]), ([], []), ([2], [2]), ([1, 3], [1, 3]), ([], []), ([5], [5]), ([], []), ([7], [7]), ([6, 8, 4], [6, 8]), ([4, 9], [4, 9]), ([10, 9], [10]), ([11, 11, 0, 1, 2, 3, 4, 5, 6, 7, 8, 9, 10, 11], [11])])
def item_Compare.B1 : List Nat := [0, 1, 0, 4, 15, 0, 32, 0, 128, 511, 1023, 2047, 4095]
theorem item_Compare.tab1 : rtab .any (opsOf Try.f54 1) = item_Compare.T1 := by kernel_rfl
theorem item_Compare.bits1 : waitsOk item_Compare.T1.2 item_Compare.B1 = true := by kernel_rfl
set_option maxHeartbeats 8000000 in
set_option maxRecDepth 100000 in
theorem item_Compare.calls (k : Nat) (a0_0 : Int) (a0_1 : Int) (a1_0 : Int) (a1_1 : Int) (r : Int) (w : World) (h : item_Compare.f k a0_0 a0_1 a1_0 a1_1 = some r) :
    Calls Try.prog 54 #[.agg #[.int .i64 a0_0, .int .i64 a0_1], .agg #[.int .i64 a1_0, .int .i64 a1_1]] w fun e w' => e = .returned (.int .i64 r) ∧ Below w.heap.size w w' := by
 have hu42:=Try.underlying42
 have HB:=Aside0.mk (Below.refl w.heap.size w)
 have H : ((cmp_Compare_int.f a0_0 a1_0).bind fun t137 => ((cmp_Compare_int.f a0_1 a1_1).bind fun t138 => ((cmp_Or_int.f k (([t137,t138] : List Int))).bind fun t142 => (some t142)))) = some r:=h
 clear h
 replace H:=Option.bind_eq_some_iff.mp H
 obtain ⟨t137,A30,H⟩:=H
 replace H : ((cmp_Compare_int.f a0_1 a1_1).bind fun t138 => ((cmp_Or_int.f k (([t137,t138] : List Int))).bind fun t142 => (some t142))) = some r:=H
 have A3:=Aside0.mk A30
 clear A30
 replace H:=Option.bind_eq_some_iff.mp H
 obtain ⟨t138,A40,H⟩:=H
 replace H : ((cmp_Or_int.f k (([t137,t138] : List Int))).bind fun t142 => (some t142)) = some r:=H
 have A4:=Aside0.mk A40
 clear A40
 obtain ⟨y139,hy139⟩ : ∃ y_ : List Int,y_ = (([t137,t138] : List Int)):=⟨_,rfl⟩
 replace H : ((cmp_Or_int.f k y139).bind fun t142 => (some t142)) = some r:=by first|(rw [hy139];with_reducible exact H)|(have H2_:=(Option.bind_some _ _).symm.trans H;rw [hy139];with_reducible exact H2_)|(have H2_:=(Option.bind_some _ _).symm.trans H;with_reducible exact H2_)|with_reducible exact H|(rw [hy139];exact H)|exact H
 have Ny139:=Aside0.mk hy139
 clear hy139
 replace H:=Option.bind_eq_some_iff.mp H
 obtain ⟨t142,A50,H⟩:=H
 replace H : (some t142) = some r:=H
 have A5:=Aside0.mk A50
 clear A50
 obtain rfl:=Option.some.inj H
 go_enter Try.func54,Try.ntmps54
 try go_wp2_with (first|((with_reducible refine gate_dst (N:=2) rfl ?_);refine box_event ?hg (N:=2) ?hd (cs:=#[.int .i64 a0_0,.int .i64 a0_1]) (t:=42) ?hr ?_;(case hd => rfl);(case hg => rfl);(case hr => first|(go_simp;done)|(go_simp;rfl));intro gb135 hg w6 hbox hb;have n0_:=Aside0.mk (below_step (by repeat (first|(with_reducible first|exact HB.out|apply xA|apply xN|apply xD)|exact HB.out)) hb);have n1_:=Aside0.mk (hbox);have n2_:=Aside0.mk ((by rw [hg];exact (below_size (by repeat (first|(with_reducible first|exact HB.out|apply xA|apply xN|apply xD)|exact HB.out))) : w.heap.size ≤ gb135));have n3_:=Aside0.mk ((by rw [hg];exact (below_size (by repeat (first|(with_reducible first|exact HB.out|apply xA|apply xN|apply xD)|exact HB.out))) : w.heap.size ≤ gb135));clear HB;have HB:=n0_;have BK135:=n1_;have GW135:=n2_;have GE135:=n3_;clear n0_ n1_ n2_ n3_;clear hb hbox hg)|((with_reducible refine gate_dst (N:=3) rfl ?_);refine box_event ?hg (N:=3) ?hd (cs:=#[.int .i64 a1_0,.int .i64 a1_1]) (t:=42) ?hr ?_;(case hd => rfl);(case hg => rfl);(case hr => first|(go_simp;done)|(go_simp;rfl));intro gb136 hg w7 hbox hb;have n0_:=bk (by (with_reducible repeat first|apply bN|apply bD|apply bA);exact BK135.out) hb;have n1_:=Aside0.mk (below_step (by repeat (first|(with_reducible first|exact HB.out|apply xA|apply xN|apply xD|refine xS ?_ GE135.out)|exact HB.out)) hb);have n2_:=Aside0.mk (hbox);have n3_:=Aside0.mk ((by rw [hg];exact (below_size (by repeat (first|(with_reducible first|exact HB.out|apply xA|apply xN|apply xD|refine xS ?_ GE135.out)|exact HB.out))) : w.heap.size ≤ gb136));have n4_:=Aside0.mk ((by rw [hg];exact (below_size (by repeat (first|(with_reducible first|exact HB.out|apply xA|apply xN|apply xD|refine xS ?_ GE135.out)|exact HB.out))) : w.heap.size ≤ gb136));have n5_:=Aside0.mk ((by rw [hg];exact Nat.ne_of_lt (blk_lt (g:=gb135) (o:=.cells #[.int .i64 a0_0,.int .i64 a0_1] 42 (0,0)) (by (with_reducible repeat first|apply bN|apply bD|apply bA);exact BK135.out)) : gb135 ≠ gb136));have n6_:=Aside0.mk ((by rw [hg];exact Nat.ne_of_gt (blk_lt (g:=gb135) (o:=.cells #[.int .i64 a0_0,.int .i64 a0_1] 42 (0,0)) (by (with_reducible repeat first|apply bN|apply bD|apply bA);exact BK135.out)) : gb136 ≠ gb135));clear BK135;clear HB;have BK135:=n0_;have HB:=n1_;have BK136:=n2_;have GW136:=n3_;have GE136:=n4_;have NB135_136:=n5_;have NB136_135:=n6_;clear n0_ n1_ n2_ n3_ n4_ n5_ n6_;clear hb hbox hg))
 replace BK135:=Aside0.mk (blk_drew BK135.out)
 replace BK136:=Aside0.mk (blk_drew BK136.out)
 replace HB:=Aside0.mk (below_drew1 HB.out)
 refine start_ (n:=13) (S:=fun w' => w'.cell? ⟨gb135,0,none⟩ = some (.int .i64 a0_0) ∧ w'.cell? ⟨gb135,1,none⟩ = some (.int .i64 a0_1) ∧ w'.cell? ⟨gb136,0,none⟩ = some (.int .i64 a1_0) ∧ w'.cell? ⟨gb136,1,none⟩ = some (.int .i64 a1_1)) (ds:=[]) #[false,false,false,false,false,false,false,false,false,false,false,false,false] (by kernel_rfl) rfl rfl ⟨(blk_cell BK135.out 0).trans rfl,(blk_cell BK135.out 1).trans rfl,(blk_cell BK136.out 0).trans rfl,(blk_cell BK136.out 1).trans rfl⟩ (fun hHeld => ?_);refine with_tabW item_Compare.tab1 item_Compare.bits1 (fun HT_ HW_ => ?_)
 generalize w7.drew = w8 at BK135 BK136 HB hHeld ⊢
 refine pure_ (i:=0) (N:=some 5) (v:=?_) (a':=?_) #[true,false,false,false,false,false,false,false,false,false,false,false,false] rfl rfl (any_of HT_.out (by kernel_rfl)) (fun _ _ _ h => h) (Or.inl ⟨by rfl,?_⟩) ?_ ?_
 rotate_left
 ·intro w'
  go_simp
  with_reducible rfl
 rotate_left
 ·simp only [Act.put,List.setIfInBounds_toArray,List.set_cons_zero,List.set_cons_succ,i64_w,i32_w]
  rfl
 refine pure_ (i:=2) (N:=some 7) (v:=?_) (a':=?_) #[true,false,true,false,false,false,false,false,false,false,false,false,false] rfl rfl (any_of HT_.out (by kernel_rfl)) (fun _ _ _ h => h) (Or.inl ⟨by rfl,?_⟩) ?_ ?_
 rotate_left
 ·intro w'
  go_simp
  with_reducible rfl
 rotate_left
 ·simp only [Act.put,List.setIfInBounds_toArray,List.set_cons_zero,List.set_cons_succ,i64_w,i32_w]
  rfl
 refine pure_ (i:=5) (N:=some 10) (v:=?_) (a':=?_) #[true,false,true,false,false,true,false,false,false,false,false,false,false] rfl rfl (any_of HT_.out (by kernel_rfl)) (fun _ _ _ h => h) (Or.inl ⟨by rfl,?_⟩) ?_ ?_
 rotate_left
 ·intro w'
  go_simp
  with_reducible rfl
 rotate_left
 ·simp only [Act.put,List.setIfInBounds_toArray,List.set_cons_zero,List.set_cons_succ,i64_w,i32_w]
  rfl
 refine pure_ (i:=7) (N:=some 12) (v:=?_) (a':=?_) #[true,false,true,false,false,true,false,true,false,false,false,false,false] rfl rfl (any_of HT_.out (by kernel_rfl)) (fun _ _ _ h => h) (Or.inl ⟨by rfl,?_⟩) ?_ ?_
 rotate_left
 ·intro w'
  go_simp
  with_reducible rfl
 rotate_left
 ·simp only [Act.put,List.setIfInBounds_toArray,List.set_cons_zero,List.set_cons_succ,i64_w,i32_w]
  rfl
 refine take_ (i:=1) (N:=some 6) (v:=?_) (a':=?_) #[true,true,true,false,false,true,false,true,false,false,false,false,false] rfl rfl (take_ofW HT_.out HW_.out (by kernel_rfl)) (fun _ _ _ h => h) (Or.inl ⟨by rfl,?_⟩) hHeld ?_ ?_
 rotate_left
 ·rintro w' ⟨s0,s1,s2,s3⟩
  go_simp
  with_reducible rfl
 rotate_left
 ·simp only [Act.put,List.setIfInBounds_toArray,List.set_cons_zero,List.set_cons_succ,i64_w,i32_w]
  rfl
 refine take_ (i:=3) (N:=some 8) (v:=?_) (a':=?_) #[true,true,true,true,false,true,false,true,false,false,false,false,false] rfl rfl (take_ofW HT_.out HW_.out (by kernel_rfl)) (fun _ _ _ h => h) (Or.inl ⟨by rfl,?_⟩) hHeld ?_ ?_
 rotate_left
 ·rintro w' ⟨s0,s1,s2,s3⟩
  go_simp
  with_reducible rfl
 rotate_left
 ·simp only [Act.put,List.setIfInBounds_toArray,List.set_cons_zero,List.set_cons_succ,i64_w,i32_w]
  rfl
 refine take_ (i:=6) (N:=some 11) (v:=?_) (a':=?_) #[true,true,true,true,false,true,true,true,false,false,false,false,false] rfl rfl (take_ofW HT_.out HW_.out (by kernel_rfl)) (fun _ _ _ h => h) (Or.inl ⟨by rfl,?_⟩) hHeld ?_ ?_
 rotate_left
 ·rintro w' ⟨s0,s1,s2,s3⟩
  go_simp
  with_reducible rfl
 rotate_left
 ·simp only [Act.put,List.setIfInBounds_toArray,List.set_cons_zero,List.set_cons_succ,i64_w,i32_w]
  rfl
 refine take_ (i:=8) (N:=some 13) (v:=?_) (a':=?_) #[true,true,true,true,false,true,true,true,true,false,false,false,false] rfl rfl (take_ofW HT_.out HW_.out (by kernel_rfl)) (fun _ _ _ h => h) (Or.inl ⟨by rfl,?_⟩) hHeld ?_ ?_
 rotate_left
 ·rintro w' ⟨s0,s1,s2,s3⟩
  go_simp
  with_reducible rfl
 rotate_left
 ·simp only [Act.put,List.setIfInBounds_toArray,List.set_cons_zero,List.set_cons_succ,i64_w,i32_w]
  rfl
 refine one_ (i:=4) (N:=some 9) #[true,true,true,true,true,true,true,true,true,false,false,false,false] rfl rfl (one_of HT_.out (by kernel_rfl)) (by decide) (fun K hK => ?_)
 refine goes_ Try.func57 (by kernel_rfl) rfl #[.int .i64 a0_0,.int .i64 a1_0] (by rfl) rfl rfl (by (try simp only [List.map_toArray,List.map_cons,List.map_nil]);first|done|rfl|(simp only [List.length_drop,List.length_take];rfl)) ?_
 with_reducible refine (cmp_Compare_int.calls a0_0 a1_0 t137 _ A3.out).mono ?_
 rintro e w' ⟨rfl,⟨nd,rfl⟩⟩
 refine ⟨_,rfl,?_⟩
 refine hK.out _ _ ⟨(blk_cell BK135.out 0).trans rfl,(blk_cell BK135.out 1).trans rfl,(blk_cell BK136.out 0).trans rfl,(blk_cell BK136.out 1).trans rfl⟩ (fun hHeld => ?_)
 clear hK K
 refine norm_ (a':=?_) ?_ ?_
 rotate_left
 ·show Act.put _ (some 9) _ = _
  simp only [Act.put,List.setIfInBounds_toArray,List.set_cons_zero,List.set_cons_succ,i64_w,i32_w]
  rfl
 refine one_ (i:=9) (N:=some 14) #[true,true,true,true,true,true,true,true,true,true,false,false,false] rfl rfl (one_of HT_.out (by kernel_rfl)) (by decide) (fun K hK => ?_)
 refine goes_ Try.func57 (by kernel_rfl) rfl #[.int .i64 a0_1,.int .i64 a1_1] (by rfl) rfl rfl (by (try simp only [List.map_toArray,List.map_cons,List.map_nil]);first|done|rfl|(simp only [List.length_drop,List.length_take];rfl)) ?_
 with_reducible refine (cmp_Compare_int.calls a0_1 a1_1 t138 _ A4.out).mono ?_
 rintro e w' ⟨rfl,⟨nd,rfl⟩⟩
 refine ⟨_,rfl,?_⟩
 refine hK.out _ _ ⟨(blk_cell BK135.out 0).trans rfl,(blk_cell BK135.out 1).trans rfl,(blk_cell BK136.out 0).trans rfl,(blk_cell BK136.out 1).trans rfl⟩ (fun hHeld => ?_)
 clear hK K
 refine norm_ (a':=?_) ?_ ?_
 rotate_left
 ·show Act.put _ (some 14) _ = _
  simp only [Act.put,List.setIfInBounds_toArray,List.set_cons_zero,List.set_cons_succ,i64_w,i32_w]
  rfl
 refine one_ (i:=10) (N:=some 15) #[true,true,true,true,true,true,true,true,true,true,true,false,false] rfl rfl (one_of HT_.out (by kernel_rfl)) (by decide) (fun K hK => ?_)
 refine Kd.R_lit_step (Kd.int .i64) _ 3 ?hg (N:=15) ?hd (xs:=([t137,t138] : List Int)) (inner:=[.int .i64 t137,.int .i64 t138]) (ok:=fun _ => True) (okp:=fun _ => True) ?hr ?hp (fun _ hk => hk) trivial (Below.refl _ _) (Nat.le_refl _) (by simp) ?_;(case hd => rfl);(case hg => rfl);(case hr => first|(go_simp;done)|(go_simp;rfl));(case hp => exact (Reps.one (show Kd.M (Kd.int .i64) _ _ _ t137 [.int .i64 t137] from rfl) (Reps.one (show Kd.M (Kd.int .i64) _ _ _ t138 [.int .i64 t138] from rfl) (Reps.none _ _))))
 intro v140 w9 ho10 hb hg_ hnew_
 clear hg_ hnew_
 (first|rw [← Ny139.out] at ho10|(simp only [Int.reduceToNat] at ho10;rw [← Ny139.out] at ho10))
 have n0_:=Aside0.mk (Kd.R_lower ho10 (below_size (by repeat (first|(with_reducible first|exact HB.out|apply xA|apply xN|apply xD|refine xS ?_ GE135.out|refine xS ?_ GE136.out)|exact HB.out))))
 have n1_:=bk (by (with_reducible repeat first|apply bN|apply bD|apply bA);exact BK135.out) hb
 have n2_:=bk (by (with_reducible repeat first|apply bN|apply bD|apply bA);exact BK136.out) hb
 have n3_:=Aside0.mk (below_step (by repeat (first|(with_reducible first|exact HB.out|apply xA|apply xN|apply xD|refine xS ?_ GE135.out|refine xS ?_ GE136.out)|exact HB.out)) hb)
 clear BK135 BK136 HB
 have HO141:=n0_
 have BK135:=n1_
 have BK136:=n2_
 have HB:=n3_
 clear n0_ n1_ n2_ n3_
 clear hb ho10
 obtain ⟨Ao11,co11,eo11⟩:=Kd.R_slice HO141.out
 (first|subst eo11|(injection eo11 with f1_ f2_ f3_;have f4_:=f1_.symm;have f5_:=f3_.symm;clear f1_ f2_ f3_;subst f4_;subst f5_))
 refine hK.out _ _ ⟨(blk_cell BK135.out 0).trans rfl,(blk_cell BK135.out 1).trans rfl,(blk_cell BK136.out 0).trans rfl,(blk_cell BK136.out 1).trans rfl⟩ (fun hHeld => ?_)
 clear hK K
 refine norm_ (a':=?_) ?_ ?_
 rotate_left
 ·show Act.put _ (some 15) _ = _
  simp only [Act.put,List.setIfInBounds_toArray,List.set_cons_zero,List.set_cons_succ,i64_w,i32_w]
  rfl
 refine one_ (i:=11) (N:=some 16) #[true,true,true,true,true,true,true,true,true,true,true,true,false] rfl rfl (one_of HT_.out (by kernel_rfl)) (by decide) (fun K hK => ?_)
 refine goes_ Try.func56 (by kernel_rfl) rfl #[.slice Ao11 y139.length co11] (by rfl) rfl rfl (by (try simp only [List.map_toArray,List.map_cons,List.map_nil]);first|done|rfl|(simp only [List.length_drop,List.length_take];rfl)) ?_
 with_reducible refine (cmp_Or_int.calls k _ _ y139 t142 _ ?side1 ?side2 A5.out).mono ?_
 (case side1 => repeat (first|exact (Kd.R_reads' HO141.out).2.2|(with_reducible refine Kd.C_alloc ?_ _)|(with_reducible refine Kd.C_drewN ?_ _)|(with_reducible refine Kd.C_drew ?_)))
 (case side2 => exact (Kd.R_reads' HO141.out).2.1)
 rintro e w' ⟨rfl,⟨nd,rfl⟩⟩
 refine ⟨_,rfl,?_⟩
 refine hK.out _ _ ⟨(blk_cell BK135.out 0).trans rfl,(blk_cell BK135.out 1).trans rfl,(blk_cell BK136.out 0).trans rfl,(blk_cell BK136.out 1).trans rfl⟩ (fun hHeld => ?_)
 clear hK K
 refine norm_ (a':=?_) ?_ ?_
 rotate_left
 ·show Act.put _ (some 16) _ = _
  simp only [Act.put,List.setIfInBounds_toArray,List.set_cons_zero,List.set_cons_succ,i64_w,i32_w]
  rfl
 refine pure_ (i:=12) (N:=some 4) (v:=?_) (a':=?_) #[true,true,true,true,true,true,true,true,true,true,true,true,true] rfl rfl (any_of HT_.out (by kernel_rfl)) (fun _ _ _ h => h) (Or.inl ⟨by rfl,?_⟩) ?_ ?_
 rotate_left
 ·intro w'
  go_simp
  with_reducible rfl
 rotate_left
 ·simp only [Act.put,List.setIfInBounds_toArray,List.set_cons_zero,List.set_cons_succ,i64_w,i32_w]
  rfl
 refine done_ (done_of HT_.out (by kernel_rfl)) ?_
 try go_wp2
 go_ret
 exact ⟨by first|rfl|(simp [errW_none,errW_some] <;> rfl)|(simp [*,errW_none,errW_some] <;> rfl),by repeat (first|(with_reducible first|exact HB.out|apply xA|apply xN|apply xD|refine xS ?_ GE135.out|refine xS ?_ GE136.out)|exact HB.out)⟩

/-! ### item_Newer: function 46 -/
def item_Newer.f (k : Nat) (a0_0 : ByteArray) (a0_1 : Int) (a0_2 : Int) (a0_3 : ByteArray) (a0_4 : Bool) (a1_0 : ByteArray) (a1_1 : Int) (a1_2 : Int) (a1_3 : ByteArray) (a1_4 : Bool) : Option (Bool) := (item_Compare.f k a0_1 a0_2 a1_1 a1_2).bind fun t145 => (some (decide (t145 > 0)))
theorem item_Newer.mono : ∀ a0 a1 a2 a3 a4 a5 a6 a7 a8 a9 k, LeO (item_Newer.f k a0 a1 a2 a3 a4 a5 a6 a7 a8 a9) (item_Newer.f (k + 1) a0 a1 a2 a3 a4 a5 a6 a7 a8 a9) := by
  intro a0 a1 a2 a3 a4 a5 a6 a7 a8 a9 k
  unfold item_Newer.f
  repeat' first
      | (with_reducible exact item_Compare.mono _ _ _ _ _)
      | (with_reducible exact LeO.refl _)
      | (with_reducible exact LeO.none _)
      | (with_reducible refine LeO.ite ?_ ?_)
      | (with_reducible refine LeO.bind ?_ (fun _ => ?_))
      | exact item_Compare.mono _ _ _ _ _
      | exact LeO.none _
      | refine LeO.ite ?_ ?_
      | refine LeO.bind ?_ (fun _ => ?_)
set_option maxHeartbeats 8000000 in
set_option maxRecDepth 100000 in
theorem item_Newer.calls (k : Nat) (a0_0 : ByteArray) (a0_1 : Int) (a0_2 : Int) (a0_3 : ByteArray) (a0_4 : Bool) (a1_0 : ByteArray) (a1_1 : Int) (a1_2 : Int) (a1_3 : ByteArray) (a1_4 : Bool) (r : Bool) (w : World) (h : item_Newer.f k a0_0 a0_1 a0_2 a0_3 a0_4 a1_0 a1_1 a1_2 a1_3 a1_4 = some r) :
    Calls Try.prog 46 #[.agg #[.string a0_0, .int .i64 a0_1, .int .i64 a0_2, .string a0_3, .bool a0_4], .agg #[.string a1_0, .int .i64 a1_1, .int .i64 a1_2, .string a1_3, .bool a1_4]] w fun e w' => e = .returned (.bool r) ∧ Below w.heap.size w w' := by
 have hu44:=Try.underlying44
 have hu42:=Try.underlying42
 have HB:=Aside0.mk (Below.refl w.heap.size w)
 have H : ((item_Compare.f k a0_1 a0_2 a1_1 a1_2).bind fun t145 => (some (decide (t145 > 0)))) = some r:=h
 clear h
 replace H:=Option.bind_eq_some_iff.mp H
 obtain ⟨t145,A30,H⟩:=H
 replace H : (some (decide (t145 > 0))) = some r:=H
 have A3:=Aside0.mk A30
 clear A30
 obtain rfl:=Option.some.inj H
 go_enter Try.func46,Try.ntmps46
 go_wp2_with (first|((with_reducible refine gate_dst (N:=2) rfl ?_);refine box_event ?hg (N:=2) ?hd (cs:=#[.string a0_0,.int .i64 a0_1,.int .i64 a0_2,.string a0_3,.bool a0_4]) (t:=44) ?hr ?_;(case hd => rfl);(case hg => rfl);(case hr => first|(go_simp;done)|(go_simp;rfl));intro gb143 hg w4 hbox hb;have n0_:=Aside0.mk (below_step (by repeat (first|(with_reducible first|exact HB.out|apply xA|apply xN|apply xD)|exact HB.out)) hb);have n1_:=Aside0.mk (hbox);have n2_:=Aside0.mk ((by rw [hg];exact (below_size (by repeat (first|(with_reducible first|exact HB.out|apply xA|apply xN|apply xD)|exact HB.out))) : w.heap.size ≤ gb143));have n3_:=Aside0.mk ((by rw [hg];exact (below_size (by repeat (first|(with_reducible first|exact HB.out|apply xA|apply xN|apply xD)|exact HB.out))) : w.heap.size ≤ gb143));clear HB;have HB:=n0_;have BK143:=n1_;have GW143:=n2_;have GE143:=n3_;clear n0_ n1_ n2_ n3_;clear hb hbox hg)|((with_reducible refine gate_dst (N:=3) rfl ?_);refine box_event ?hg (N:=3) ?hd (cs:=#[.string a1_0,.int .i64 a1_1,.int .i64 a1_2,.string a1_3,.bool a1_4]) (t:=44) ?hr ?_;(case hd => rfl);(case hg => rfl);(case hr => first|(go_simp;done)|(go_simp;rfl));intro gb144 hg w5 hbox hb;have n0_:=bk (by (with_reducible repeat first|apply bN|apply bD|apply bA);exact BK143.out) hb;have n1_:=Aside0.mk (below_step (by repeat (first|(with_reducible first|exact HB.out|apply xA|apply xN|apply xD|refine xS ?_ GE143.out)|exact HB.out)) hb);have n2_:=Aside0.mk (hbox);have n3_:=Aside0.mk ((by rw [hg];exact (below_size (by repeat (first|(with_reducible first|exact HB.out|apply xA|apply xN|apply xD|refine xS ?_ GE143.out)|exact HB.out))) : w.heap.size ≤ gb144));have n4_:=Aside0.mk ((by rw [hg];exact (below_size (by repeat (first|(with_reducible first|exact HB.out|apply xA|apply xN|apply xD|refine xS ?_ GE143.out)|exact HB.out))) : w.heap.size ≤ gb144));have n5_:=Aside0.mk ((by rw [hg];exact Nat.ne_of_lt (blk_lt (g:=gb143) (o:=.cells #[.string a0_0,.int .i64 a0_1,.int .i64 a0_2,.string a0_3,.bool a0_4] 44 (0,0)) (by (with_reducible repeat first|apply bN|apply bD|apply bA);exact BK143.out)) : gb143 ≠ gb144));have n6_:=Aside0.mk ((by rw [hg];exact Nat.ne_of_gt (blk_lt (g:=gb143) (o:=.cells #[.string a0_0,.int .i64 a0_1,.int .i64 a0_2,.string a0_3,.bool a0_4] 44 (0,0)) (by (with_reducible repeat first|apply bN|apply bD|apply bA);exact BK143.out)) : gb144 ≠ gb143));clear BK143;clear HB;have BK143:=n0_;have HB:=n1_;have BK144:=n2_;have GW144:=n3_;have GE144:=n4_;have NB143_144:=n5_;have NB144_143:=n6_;clear n0_ n1_ n2_ n3_ n4_ n5_ n6_;clear hb hbox hg;have hnb6:=NB143_144.out;have hnc6:=NB144_143.out;have hcz7_0 : w5.cell? ⟨gb143,0,none⟩ = some (.string a0_0):=(blk_cell BK143.out 0).trans rfl;have hcz7_1 : w5.cell? ⟨gb143,1,none⟩ = some (.int .i64 a0_1):=(blk_cell BK143.out 1).trans rfl;have hcz7_2 : w5.cell? ⟨gb143,2,none⟩ = some (.int .i64 a0_2):=(blk_cell BK143.out 2).trans rfl;have hcz7_3 : w5.cell? ⟨gb143,3,none⟩ = some (.string a0_3):=(blk_cell BK143.out 3).trans rfl;have hcz7_4 : w5.cell? ⟨gb143,4,none⟩ = some (.bool a0_4):=(blk_cell BK143.out 4).trans rfl;obtain ⟨hfz7_0,hfz7_1,hfz7_2⟩:=f3 BK143.out;have hfz7_3:=blk_frozen BK143.out 3;have hfz7_4:=blk_frozen BK143.out 4;have hcz8_0 : w5.cell? ⟨gb144,0,none⟩ = some (.string a1_0):=(blk_cell BK144.out 0).trans rfl;have hcz8_1 : w5.cell? ⟨gb144,1,none⟩ = some (.int .i64 a1_1):=(blk_cell BK144.out 1).trans rfl;have hcz8_2 : w5.cell? ⟨gb144,2,none⟩ = some (.int .i64 a1_2):=(blk_cell BK144.out 2).trans rfl;have hcz8_3 : w5.cell? ⟨gb144,3,none⟩ = some (.string a1_3):=(blk_cell BK144.out 3).trans rfl;have hcz8_4 : w5.cell? ⟨gb144,4,none⟩ = some (.bool a1_4):=(blk_cell BK144.out 4).trans rfl;obtain ⟨hfz8_0,hfz8_1,hfz8_2⟩:=f3 BK144.out;have hfz8_3:=blk_frozen BK144.out 3;have hfz8_4:=blk_frozen BK144.out 4)|((with_reducible refine gate_callee (f:=54) rfl ?_);refine goesL_ (some 9) rfl rfl Try.func54 (by kernel_rfl) rfl #[.agg #[.int .i64 a0_1,.int .i64 a0_2],.agg #[.int .i64 a1_1,.int .i64 a1_2]] rfl (by (try simp only [List.map_toArray,List.map_cons,List.map_nil]);first|done|rfl|(simp only [List.length_drop,List.length_take];rfl)) ?_;(with_reducible refine (item_Compare.calls k a0_1 a0_2 a1_1 a1_2 t145 _ A3.out).mono ?_);rintro e w9 ⟨rfl,hb⟩;refine ⟨_,rfl,?_⟩;replace BK143:=bk (by (with_reducible repeat first|apply bN|apply bD|apply bA);exact BK143.out) hb;replace BK144:=bk (by (with_reducible repeat first|apply bN|apply bD|apply bA);exact BK144.out) hb;replace HB:=Aside0.mk (below_step (by repeat (first|(with_reducible first|exact HB.out|apply xA|apply xN|apply xD|refine xS ?_ GE143.out|refine xS ?_ GE144.out)|exact HB.out)) hb);(try clear hb);(try clear hb2);(try clear hk);(try clear hi)))
 go_ret
 exact ⟨by first|rfl|(simp [errW_none,errW_some] <;> rfl)|(simp [*,errW_none,errW_some] <;> rfl),by repeat (first|(with_reducible first|exact HB.out|apply xA|apply xN|apply xD|refine xS ?_ GE143.out|refine xS ?_ GE144.out)|exact HB.out)⟩

/-! ### item_Best: function 45 -/
def item_Best.f (k : Nat) (a0_0 : ByteArray) (a0_1 : Int) (a0_2 : Int) (a0_3 : ByteArray) (a0_4 : Bool) (a1_0 : ByteArray) (a1_1 : Int) (a1_2 : Int) (a1_3 : ByteArray) (a1_4 : Bool) : Option (ByteArray × Int × Int × ByteArray × Bool) := (item_Newer.f k a1_0 a1_1 a1_2 a1_3 a1_4 a0_0 a0_1 a0_2 a0_3 a0_4).bind fun t149 => (if t149 = true then (some (a1_0, a1_1, a1_2, a1_3, a1_4)) else (some (a0_0, a0_1, a0_2, a0_3, a0_4)))
theorem item_Best.mono : ∀ a0 a1 a2 a3 a4 a5 a6 a7 a8 a9 k, LeO (item_Best.f k a0 a1 a2 a3 a4 a5 a6 a7 a8 a9) (item_Best.f (k + 1) a0 a1 a2 a3 a4 a5 a6 a7 a8 a9) := by
  intro a0 a1 a2 a3 a4 a5 a6 a7 a8 a9 k
  unfold item_Best.f
  repeat' first
      | (with_reducible exact item_Newer.mono _ _ _ _ _ _ _ _ _ _ _)
      | (with_reducible exact LeO.refl _)
      | (with_reducible exact LeO.none _)
      | (with_reducible refine LeO.ite ?_ ?_)
      | (with_reducible refine LeO.bind ?_ (fun _ => ?_))
      | exact item_Newer.mono _ _ _ _ _ _ _ _ _ _ _
      | exact LeO.none _
      | refine LeO.ite ?_ ?_
      | refine LeO.bind ?_ (fun _ => ?_)
set_option maxHeartbeats 8000000 in
set_option maxRecDepth 100000 in
theorem item_Best.calls (k : Nat) (a0_0 : ByteArray) (a0_1 : Int) (a0_2 : Int) (a0_3 : ByteArray) (a0_4 : Bool) (a1_0 : ByteArray) (a1_1 : Int) (a1_2 : Int) (a1_3 : ByteArray) (a1_4 : Bool) (r1 : ByteArray) (r2 : Int) (r3 : Int) (r4 : ByteArray) (r5 : Bool) (w : World) (h : item_Best.f k a0_0 a0_1 a0_2 a0_3 a0_4 a1_0 a1_1 a1_2 a1_3 a1_4 = some (r1, r2, r3, r4, r5)) :
    Calls Try.prog 45 #[.agg #[.string a0_0, .int .i64 a0_1, .int .i64 a0_2, .string a0_3, .bool a0_4], .agg #[.string a1_0, .int .i64 a1_1, .int .i64 a1_2, .string a1_3, .bool a1_4]] w fun e w' => e = .returned (.agg #[.string r1, .int .i64 r2, .int .i64 r3, .string r4, .bool r5]) ∧ Below w.heap.size w w' := by
 have hu44:=Try.underlying44
 have HB:=Aside0.mk (Below.refl w.heap.size w)
 have H : ((item_Newer.f k a1_0 a1_1 a1_2 a1_3 a1_4 a0_0 a0_1 a0_2 a0_3 a0_4).bind fun t149 => (if t149 = true then (some (a1_0,a1_1,a1_2,a1_3,a1_4)) else (some (a0_0,a0_1,a0_2,a0_3,a0_4)))) = some (r1,r2,r3,r4,r5):=h
 clear h
 replace H:=Option.bind_eq_some_iff.mp H
 obtain ⟨t149,A30,H⟩:=H
 replace H : (if t149 = true then (some (a1_0,a1_1,a1_2,a1_3,a1_4)) else (some (a0_0,a0_1,a0_2,a0_3,a0_4))) = some (r1,r2,r3,r4,r5):=H
 have A3:=Aside0.mk A30
 clear A30
 by_cases c4 : t149 = true
 ·subst c4
  have H1 : (some (a1_0,a1_1,a1_2,a1_3,a1_4)) = some (r1,r2,r3,r4,r5):=by rw [if_pos rfl] at H;exact H
  clear H
  have H:=H1
  clear H1
  simp only [Option.some.injEq,Prod.mk.injEq] at H
  obtain ⟨rfl,rfl,rfl,rfl,rfl⟩:=H
  go_enter Try.func45,Try.ntmps45
  go_wp2_with (first|((with_reducible refine gate_dst (N:=2) rfl ?_);refine box_event ?hg (N:=2) ?hd (cs:=#[.string a0_0,.int .i64 a0_1,.int .i64 a0_2,.string a0_3,.bool a0_4]) (t:=44) ?hr ?_;(case hd => rfl);(case hg => rfl);(case hr => first|(go_simp;done)|(go_simp;rfl));intro gb146 hg w5 hbox hb;have n0_:=Aside0.mk (below_step (by repeat (first|(with_reducible first|exact HB.out|apply xA|apply xN|apply xD)|exact HB.out)) hb);have n1_:=Aside0.mk (hbox);have n2_:=Aside0.mk ((by rw [hg];exact (below_size (by repeat (first|(with_reducible first|exact HB.out|apply xA|apply xN|apply xD)|exact HB.out))) : w.heap.size ≤ gb146));have n3_:=Aside0.mk ((by rw [hg];exact (below_size (by repeat (first|(with_reducible first|exact HB.out|apply xA|apply xN|apply xD)|exact HB.out))) : w.heap.size ≤ gb146));clear HB;have HB:=n0_;have BK146:=n1_;have GW146:=n2_;have GE146:=n3_;clear n0_ n1_ n2_ n3_;clear hb hbox hg)|((with_reducible refine gate_dst (N:=3) rfl ?_);refine box_event ?hg (N:=3) ?hd (cs:=#[.string a1_0,.int .i64 a1_1,.int .i64 a1_2,.string a1_3,.bool a1_4]) (t:=44) ?hr ?_;(case hd => rfl);(case hg => rfl);(case hr => first|(go_simp;done)|(go_simp;rfl));intro gb147 hg w6 hbox hb;have n0_:=bk (by (with_reducible repeat first|apply bN|apply bD|apply bA);exact BK146.out) hb;have n1_:=Aside0.mk (below_step (by repeat (first|(with_reducible first|exact HB.out|apply xA|apply xN|apply xD|refine xS ?_ GE146.out)|exact HB.out)) hb);have n2_:=Aside0.mk (hbox);have n3_:=Aside0.mk ((by rw [hg];exact (below_size (by repeat (first|(with_reducible first|exact HB.out|apply xA|apply xN|apply xD|refine xS ?_ GE146.out)|exact HB.out))) : w.heap.size ≤ gb147));have n4_:=Aside0.mk ((by rw [hg];exact (below_size (by repeat (first|(with_reducible first|exact HB.out|apply xA|apply xN|apply xD|refine xS ?_ GE146.out)|exact HB.out))) : w.heap.size ≤ gb147));have n5_:=Aside0.mk ((by rw [hg];exact Nat.ne_of_lt (blk_lt (g:=gb146) (o:=.cells #[.string a0_0,.int .i64 a0_1,.int .i64 a0_2,.string a0_3,.bool a0_4] 44 (0,0)) (by (with_reducible repeat first|apply bN|apply bD|apply bA);exact BK146.out)) : gb146 ≠ gb147));have n6_:=Aside0.mk ((by rw [hg];exact Nat.ne_of_gt (blk_lt (g:=gb146) (o:=.cells #[.string a0_0,.int .i64 a0_1,.int .i64 a0_2,.string a0_3,.bool a0_4] 44 (0,0)) (by (with_reducible repeat first|apply bN|apply bD|apply bA);exact BK146.out)) : gb147 ≠ gb146));clear BK146;clear HB;have BK146:=n0_;have HB:=n1_;have BK147:=n2_;have GW147:=n3_;have GE147:=n4_;have NB146_147:=n5_;have NB147_146:=n6_;clear n0_ n1_ n2_ n3_ n4_ n5_ n6_;clear hb hbox hg)|((with_reducible refine gate_dst (N:=4) rfl ?_);refine box_event ?hg (N:=4) ?hd (cs:=#[.string (⟨#[]⟩ : ByteArray),.int .i64 0,.int .i64 0,.string (⟨#[]⟩ : ByteArray),.bool false]) (t:=44) ?hr ?_;(case hd => rfl);(case hg => rfl);(case hr => first|(go_simp;done)|(go_simp;rfl));intro gb148 hg w7 hbox hb;have n0_:=bk (by (with_reducible repeat first|apply bN|apply bD|apply bA);exact BK146.out) hb;have n1_:=bk (by (with_reducible repeat first|apply bN|apply bD|apply bA);exact BK147.out) hb;have n2_:=Aside0.mk (below_step (by repeat (first|(with_reducible first|exact HB.out|apply xA|apply xN|apply xD|refine xS ?_ GE146.out|refine xS ?_ GE147.out)|exact HB.out)) hb);have n3_:=Aside0.mk (hbox);have n4_:=Aside0.mk ((by rw [hg];exact (below_size (by repeat (first|(with_reducible first|exact HB.out|apply xA|apply xN|apply xD|refine xS ?_ GE146.out|refine xS ?_ GE147.out)|exact HB.out))) : w.heap.size ≤ gb148));have n5_:=Aside0.mk ((by rw [hg];exact (below_size (by repeat (first|(with_reducible first|exact HB.out|apply xA|apply xN|apply xD|refine xS ?_ GE146.out|refine xS ?_ GE147.out)|exact HB.out))) : w.heap.size ≤ gb148));have n6_:=Aside0.mk ((by rw [hg];exact Nat.ne_of_lt (blk_lt (g:=gb146) (o:=.cells #[.string a0_0,.int .i64 a0_1,.int .i64 a0_2,.string a0_3,.bool a0_4] 44 (0,0)) (by (with_reducible repeat first|apply bN|apply bD|apply bA);exact BK146.out)) : gb146 ≠ gb148));have n7_:=Aside0.mk ((by rw [hg];exact Nat.ne_of_gt (blk_lt (g:=gb146) (o:=.cells #[.string a0_0,.int .i64 a0_1,.int .i64 a0_2,.string a0_3,.bool a0_4] 44 (0,0)) (by (with_reducible repeat first|apply bN|apply bD|apply bA);exact BK146.out)) : gb148 ≠ gb146));have n8_:=Aside0.mk ((by rw [hg];exact Nat.ne_of_lt (blk_lt (g:=gb147) (o:=.cells #[.string a1_0,.int .i64 a1_1,.int .i64 a1_2,.string a1_3,.bool a1_4] 44 (0,0)) (by (with_reducible repeat first|apply bN|apply bD|apply bA);exact BK147.out)) : gb147 ≠ gb148));have n9_:=Aside0.mk ((by rw [hg];exact Nat.ne_of_gt (blk_lt (g:=gb147) (o:=.cells #[.string a1_0,.int .i64 a1_1,.int .i64 a1_2,.string a1_3,.bool a1_4] 44 (0,0)) (by (with_reducible repeat first|apply bN|apply bD|apply bA);exact BK147.out)) : gb148 ≠ gb147));clear BK146;clear BK147;clear HB;have BK146:=n0_;have BK147:=n1_;have HB:=n2_;have BK148:=n3_;have GW148:=n4_;have GE148:=n5_;have NB146_148:=n6_;have NB148_146:=n7_;have NB147_148:=n8_;have NB148_147:=n9_;clear n0_ n1_ n2_ n3_ n4_ n5_ n6_ n7_ n8_ n9_;clear hb hbox hg;have hnb8:=NB147_146.out;have hnc8:=NB146_147.out;have hnb9:=NB147_148.out;have hnc9:=NB148_147.out;have hcz10_0 : w7.cell? ⟨gb147,0,none⟩ = some (.string a1_0):=(blk_cell BK147.out 0).trans rfl;have hcz10_1 : w7.cell? ⟨gb147,1,none⟩ = some (.int .i64 a1_1):=(blk_cell BK147.out 1).trans rfl;have hcz10_2 : w7.cell? ⟨gb147,2,none⟩ = some (.int .i64 a1_2):=(blk_cell BK147.out 2).trans rfl;have hcz10_3 : w7.cell? ⟨gb147,3,none⟩ = some (.string a1_3):=(blk_cell BK147.out 3).trans rfl;have hcz10_4 : w7.cell? ⟨gb147,4,none⟩ = some (.bool a1_4):=(blk_cell BK147.out 4).trans rfl;obtain ⟨hfz10_0,hfz10_1,hfz10_2⟩:=f3 BK147.out;have hfz10_3:=blk_frozen BK147.out 3;have hfz10_4:=blk_frozen BK147.out 4;have hnb11:=NB146_148.out;have hnc11:=NB148_146.out;have hcz12_0 : w7.cell? ⟨gb146,0,none⟩ = some (.string a0_0):=(blk_cell BK146.out 0).trans rfl;have hcz12_1 : w7.cell? ⟨gb146,1,none⟩ = some (.int .i64 a0_1):=(blk_cell BK146.out 1).trans rfl;have hcz12_2 : w7.cell? ⟨gb146,2,none⟩ = some (.int .i64 a0_2):=(blk_cell BK146.out 2).trans rfl;have hcz12_3 : w7.cell? ⟨gb146,3,none⟩ = some (.string a0_3):=(blk_cell BK146.out 3).trans rfl;have hcz12_4 : w7.cell? ⟨gb146,4,none⟩ = some (.bool a0_4):=(blk_cell BK146.out 4).trans rfl;obtain ⟨hfz12_0,hfz12_1,hfz12_2⟩:=f3 BK146.out;have hfz12_3:=blk_frozen BK146.out 3;have hfz12_4:=blk_frozen BK146.out 4)|((with_reducible refine gate_callee (f:=46) rfl ?_);refine goesL_ (some 7) rfl rfl Try.func46 (by kernel_rfl) rfl #[.agg #[.string a1_0,.int .i64 a1_1,.int .i64 a1_2,.string a1_3,.bool a1_4],.agg #[.string a0_0,.int .i64 a0_1,.int .i64 a0_2,.string a0_3,.bool a0_4]] rfl (by (try simp only [List.map_toArray,List.map_cons,List.map_nil]);first|done|rfl|(simp only [List.length_drop,List.length_take];rfl)) ?_;(with_reducible refine (item_Newer.calls k a1_0 a1_1 a1_2 a1_3 a1_4 a0_0 a0_1 a0_2 a0_3 a0_4 true _ A3.out).mono ?_);rintro e w13 ⟨rfl,hb⟩;refine ⟨_,rfl,?_⟩;replace BK146:=bk (by (with_reducible repeat first|apply bN|apply bD|apply bA);exact BK146.out) hb;replace BK147:=bk (by (with_reducible repeat first|apply bN|apply bD|apply bA);exact BK147.out) hb;replace BK148:=Aside0.mk (blk_below (g:=gb148) (o:=.cells #[.string (⟨#[]⟩ : ByteArray),.int .i64 0,.int .i64 0,.string (⟨#[]⟩ : ByteArray),.bool false] 44 (0,0)) (by (with_reducible repeat first|apply bN|apply bD|apply bA);exact BK148.out) hb);replace HB:=Aside0.mk (below_step (by repeat (first|(with_reducible first|exact HB.out|apply xA|apply xN|apply xD|refine xS ?_ GE146.out|refine xS ?_ GE147.out|refine xS ?_ GE148.out)|exact HB.out)) hb);(try clear hb);(try clear hb2);(try clear hk);(try clear hi);have hcz14_0 : w13.cell? ⟨gb147,0,none⟩ = some (.string a1_0):=(blk_cell BK147.out 0).trans rfl;have hcz14_1 : w13.cell? ⟨gb147,1,none⟩ = some (.int .i64 a1_1):=(blk_cell BK147.out 1).trans rfl;have hcz14_2 : w13.cell? ⟨gb147,2,none⟩ = some (.int .i64 a1_2):=(blk_cell BK147.out 2).trans rfl;have hcz14_3 : w13.cell? ⟨gb147,3,none⟩ = some (.string a1_3):=(blk_cell BK147.out 3).trans rfl;have hcz14_4 : w13.cell? ⟨gb147,4,none⟩ = some (.bool a1_4):=(blk_cell BK147.out 4).trans rfl;obtain ⟨hfz14_0,hfz14_1,hfz14_2⟩:=f3 BK147.out;have hfz14_3:=blk_frozen BK147.out 3;have hfz14_4:=blk_frozen BK147.out 4;have hcz15_0 : w13.cell? ⟨gb148,0,none⟩ = some (.string (⟨#[]⟩ : ByteArray)):=(blk_cell BK148.out 0).trans rfl;have hcz15_1 : w13.cell? ⟨gb148,1,none⟩ = some (.int .i64 0):=(blk_cell BK148.out 1).trans rfl;have hcz15_2 : w13.cell? ⟨gb148,2,none⟩ = some (.int .i64 0):=(blk_cell BK148.out 2).trans rfl;have hcz15_3 : w13.cell? ⟨gb148,3,none⟩ = some (.string (⟨#[]⟩ : ByteArray)):=(blk_cell BK148.out 3).trans rfl;have hcz15_4 : w13.cell? ⟨gb148,4,none⟩ = some (.bool false):=(blk_cell BK148.out 4).trans rfl;obtain ⟨hfz15_0,hfz15_1,hfz15_2⟩:=f3 BK148.out;have hfz15_3:=blk_frozen BK148.out 3;have hfz15_4:=blk_frozen BK148.out 4))
  refine bodyPost_ret (results_cell_row rfl _ _ gb148 44 #[.string a1_0,.int .i64 a1_1,.int .i64 a1_2,.string a1_3,.bool a1_4] (0,0) _ rfl (by (with_reducible repeat first|apply bN|apply bD|apply bA);refine blk_put (cs:=#[.string a1_0,.int .i64 a1_1,.int .i64 a1_2,.string a1_3,.bool false]) ?_ 4 _ rfl;(with_reducible repeat first|apply bN|apply bD|apply bA);refine blk_put (cs:=#[.string a1_0,.int .i64 a1_1,.int .i64 a1_2,.string (⟨#[]⟩ : ByteArray),.bool false]) ?_ 3 _ rfl;(with_reducible repeat first|apply bN|apply bD|apply bA);refine blk_put (cs:=#[.string a1_0,.int .i64 a1_1,.int .i64 0,.string (⟨#[]⟩ : ByteArray),.bool false]) ?_ 2 _ rfl;(with_reducible repeat first|apply bN|apply bD|apply bA);refine blk_put (cs:=#[.string a1_0,.int .i64 0,.int .i64 0,.string (⟨#[]⟩ : ByteArray),.bool false]) ?_ 1 _ rfl;(with_reducible repeat first|apply bN|apply bD|apply bA);refine blk_put (cs:=#[.string (⟨#[]⟩ : ByteArray),.int .i64 0,.int .i64 0,.string (⟨#[]⟩ : ByteArray),.bool false]) ?_ 0 _ rfl;(with_reducible repeat first|apply bN|apply bD|apply bA);exact BK148.out) Try.underlying44 rfl (by kernel_rfl)) rfl ?_
  exact ⟨by first|rfl|(simp [errW_none,errW_some] <;> rfl)|(simp [*,errW_none,errW_some] <;> rfl),by repeat (first|(with_reducible first|exact HB.out|apply xA|apply xN|apply xD|refine xS ?_ GE146.out|refine xS ?_ GE147.out|refine xS ?_ GE148.out)|exact HB.out)⟩
 ·replace c4:=Bool.eq_false_iff.mpr c4
  subst c4
  have H1 : (some (a0_0,a0_1,a0_2,a0_3,a0_4)) = some (r1,r2,r3,r4,r5):=by rw [if_neg (show ¬ (false = true) by decide)] at H;exact H
  clear H
  have H:=H1
  clear H1
  simp only [Option.some.injEq,Prod.mk.injEq] at H
  obtain ⟨rfl,rfl,rfl,rfl,rfl⟩:=H
  go_enter Try.func45,Try.ntmps45
  go_wp2_with (first|((with_reducible refine gate_dst (N:=2) rfl ?_);refine box_event ?hg (N:=2) ?hd (cs:=#[.string a0_0,.int .i64 a0_1,.int .i64 a0_2,.string a0_3,.bool a0_4]) (t:=44) ?hr ?_;(case hd => rfl);(case hg => rfl);(case hr => first|(go_simp;done)|(go_simp;rfl));intro gb146 hg w16 hbox hb;have n0_:=Aside0.mk (below_step (by repeat (first|(with_reducible first|exact HB.out|apply xA|apply xN|apply xD)|exact HB.out)) hb);have n1_:=Aside0.mk (hbox);have n2_:=Aside0.mk ((by rw [hg];exact (below_size (by repeat (first|(with_reducible first|exact HB.out|apply xA|apply xN|apply xD)|exact HB.out))) : w.heap.size ≤ gb146));have n3_:=Aside0.mk ((by rw [hg];exact (below_size (by repeat (first|(with_reducible first|exact HB.out|apply xA|apply xN|apply xD)|exact HB.out))) : w.heap.size ≤ gb146));clear HB;have HB:=n0_;have BK146:=n1_;have GW146:=n2_;have GE146:=n3_;clear n0_ n1_ n2_ n3_;clear hb hbox hg)|((with_reducible refine gate_dst (N:=3) rfl ?_);refine box_event ?hg (N:=3) ?hd (cs:=#[.string a1_0,.int .i64 a1_1,.int .i64 a1_2,.string a1_3,.bool a1_4]) (t:=44) ?hr ?_;(case hd => rfl);(case hg => rfl);(case hr => first|(go_simp;done)|(go_simp;rfl));intro gb147 hg w17 hbox hb;have n0_:=bk (by (with_reducible repeat first|apply bN|apply bD|apply bA);exact BK146.out) hb;have n1_:=Aside0.mk (below_step (by repeat (first|(with_reducible first|exact HB.out|apply xA|apply xN|apply xD|refine xS ?_ GE146.out)|exact HB.out)) hb);have n2_:=Aside0.mk (hbox);have n3_:=Aside0.mk ((by rw [hg];exact (below_size (by repeat (first|(with_reducible first|exact HB.out|apply xA|apply xN|apply xD|refine xS ?_ GE146.out)|exact HB.out))) : w.heap.size ≤ gb147));have n4_:=Aside0.mk ((by rw [hg];exact (below_size (by repeat (first|(with_reducible first|exact HB.out|apply xA|apply xN|apply xD|refine xS ?_ GE146.out)|exact HB.out))) : w.heap.size ≤ gb147));have n5_:=Aside0.mk ((by rw [hg];exact Nat.ne_of_lt (blk_lt (g:=gb146) (o:=.cells #[.string a0_0,.int .i64 a0_1,.int .i64 a0_2,.string a0_3,.bool a0_4] 44 (0,0)) (by (with_reducible repeat first|apply bN|apply bD|apply bA);exact BK146.out)) : gb146 ≠ gb147));have n6_:=Aside0.mk ((by rw [hg];exact Nat.ne_of_gt (blk_lt (g:=gb146) (o:=.cells #[.string a0_0,.int .i64 a0_1,.int .i64 a0_2,.string a0_3,.bool a0_4] 44 (0,0)) (by (with_reducible repeat first|apply bN|apply bD|apply bA);exact BK146.out)) : gb147 ≠ gb146));clear BK146;clear HB;have BK146:=n0_;have HB:=n1_;have BK147:=n2_;have GW147:=n3_;have GE147:=n4_;have NB146_147:=n5_;have NB147_146:=n6_;clear n0_ n1_ n2_ n3_ n4_ n5_ n6_;clear hb hbox hg)|((with_reducible refine gate_dst (N:=4) rfl ?_);refine box_event ?hg (N:=4) ?hd (cs:=#[.string (⟨#[]⟩ : ByteArray),.int .i64 0,.int .i64 0,.string (⟨#[]⟩ : ByteArray),.bool false]) (t:=44) ?hr ?_;(case hd => rfl);(case hg => rfl);(case hr => first|(go_simp;done)|(go_simp;rfl));intro gb148 hg w18 hbox hb;have n0_:=bk (by (with_reducible repeat first|apply bN|apply bD|apply bA);exact BK146.out) hb;have n1_:=bk (by (with_reducible repeat first|apply bN|apply bD|apply bA);exact BK147.out) hb;have n2_:=Aside0.mk (below_step (by repeat (first|(with_reducible first|exact HB.out|apply xA|apply xN|apply xD|refine xS ?_ GE146.out|refine xS ?_ GE147.out)|exact HB.out)) hb);have n3_:=Aside0.mk (hbox);have n4_:=Aside0.mk ((by rw [hg];exact (below_size (by repeat (first|(with_reducible first|exact HB.out|apply xA|apply xN|apply xD|refine xS ?_ GE146.out|refine xS ?_ GE147.out)|exact HB.out))) : w.heap.size ≤ gb148));have n5_:=Aside0.mk ((by rw [hg];exact (below_size (by repeat (first|(with_reducible first|exact HB.out|apply xA|apply xN|apply xD|refine xS ?_ GE146.out|refine xS ?_ GE147.out)|exact HB.out))) : w.heap.size ≤ gb148));have n6_:=Aside0.mk ((by rw [hg];exact Nat.ne_of_lt (blk_lt (g:=gb146) (o:=.cells #[.string a0_0,.int .i64 a0_1,.int .i64 a0_2,.string a0_3,.bool a0_4] 44 (0,0)) (by (with_reducible repeat first|apply bN|apply bD|apply bA);exact BK146.out)) : gb146 ≠ gb148));have n7_:=Aside0.mk ((by rw [hg];exact Nat.ne_of_gt (blk_lt (g:=gb146) (o:=.cells #[.string a0_0,.int .i64 a0_1,.int .i64 a0_2,.string a0_3,.bool a0_4] 44 (0,0)) (by (with_reducible repeat first|apply bN|apply bD|apply bA);exact BK146.out)) : gb148 ≠ gb146));have n8_:=Aside0.mk ((by rw [hg];exact Nat.ne_of_lt (blk_lt (g:=gb147) (o:=.cells #[.string a1_0,.int .i64 a1_1,.int .i64 a1_2,.string a1_3,.bool a1_4] 44 (0,0)) (by (with_reducible repeat first|apply bN|apply bD|apply bA);exact BK147.out)) : gb147 ≠ gb148));have n9_:=Aside0.mk ((by rw [hg];exact Nat.ne_of_gt (blk_lt (g:=gb147) (o:=.cells #[.string a1_0,.int .i64 a1_1,.int .i64 a1_2,.string a1_3,.bool a1_4] 44 (0,0)) (by (with_reducible repeat first|apply bN|apply bD|apply bA);exact BK147.out)) : gb148 ≠ gb147));clear BK146;clear BK147;clear HB;have BK146:=n0_;have BK147:=n1_;have HB:=n2_;have BK148:=n3_;have GW148:=n4_;have GE148:=n5_;have NB146_148:=n6_;have NB148_146:=n7_;have NB147_148:=n8_;have NB148_147:=n9_;clear n0_ n1_ n2_ n3_ n4_ n5_ n6_ n7_ n8_ n9_;clear hb hbox hg;have hnb19:=NB147_146.out;have hnc19:=NB146_147.out;have hnb20:=NB147_148.out;have hnc20:=NB148_147.out;have hcz21_0 : w18.cell? ⟨gb147,0,none⟩ = some (.string a1_0):=(blk_cell BK147.out 0).trans rfl;have hcz21_1 : w18.cell? ⟨gb147,1,none⟩ = some (.int .i64 a1_1):=(blk_cell BK147.out 1).trans rfl;have hcz21_2 : w18.cell? ⟨gb147,2,none⟩ = some (.int .i64 a1_2):=(blk_cell BK147.out 2).trans rfl;have hcz21_3 : w18.cell? ⟨gb147,3,none⟩ = some (.string a1_3):=(blk_cell BK147.out 3).trans rfl;have hcz21_4 : w18.cell? ⟨gb147,4,none⟩ = some (.bool a1_4):=(blk_cell BK147.out 4).trans rfl;obtain ⟨hfz21_0,hfz21_1,hfz21_2⟩:=f3 BK147.out;have hfz21_3:=blk_frozen BK147.out 3;have hfz21_4:=blk_frozen BK147.out 4;have hnb22:=NB146_148.out;have hnc22:=NB148_146.out;have hcz23_0 : w18.cell? ⟨gb146,0,none⟩ = some (.string a0_0):=(blk_cell BK146.out 0).trans rfl;have hcz23_1 : w18.cell? ⟨gb146,1,none⟩ = some (.int .i64 a0_1):=(blk_cell BK146.out 1).trans rfl;have hcz23_2 : w18.cell? ⟨gb146,2,none⟩ = some (.int .i64 a0_2):=(blk_cell BK146.out 2).trans rfl;have hcz23_3 : w18.cell? ⟨gb146,3,none⟩ = some (.string a0_3):=(blk_cell BK146.out 3).trans rfl;have hcz23_4 : w18.cell? ⟨gb146,4,none⟩ = some (.bool a0_4):=(blk_cell BK146.out 4).trans rfl;obtain ⟨hfz23_0,hfz23_1,hfz23_2⟩:=f3 BK146.out;have hfz23_3:=blk_frozen BK146.out 3;have hfz23_4:=blk_frozen BK146.out 4)|((with_reducible refine gate_callee (f:=46) rfl ?_);refine goesL_ (some 7) rfl rfl Try.func46 (by kernel_rfl) rfl #[.agg #[.string a1_0,.int .i64 a1_1,.int .i64 a1_2,.string a1_3,.bool a1_4],.agg #[.string a0_0,.int .i64 a0_1,.int .i64 a0_2,.string a0_3,.bool a0_4]] rfl (by (try simp only [List.map_toArray,List.map_cons,List.map_nil]);first|done|rfl|(simp only [List.length_drop,List.length_take];rfl)) ?_;(with_reducible refine (item_Newer.calls k a1_0 a1_1 a1_2 a1_3 a1_4 a0_0 a0_1 a0_2 a0_3 a0_4 false _ A3.out).mono ?_);rintro e w24 ⟨rfl,hb⟩;refine ⟨_,rfl,?_⟩;replace BK146:=bk (by (with_reducible repeat first|apply bN|apply bD|apply bA);exact BK146.out) hb;replace BK147:=bk (by (with_reducible repeat first|apply bN|apply bD|apply bA);exact BK147.out) hb;replace BK148:=Aside0.mk (blk_below (g:=gb148) (o:=.cells #[.string (⟨#[]⟩ : ByteArray),.int .i64 0,.int .i64 0,.string (⟨#[]⟩ : ByteArray),.bool false] 44 (0,0)) (by (with_reducible repeat first|apply bN|apply bD|apply bA);exact BK148.out) hb);replace HB:=Aside0.mk (below_step (by repeat (first|(with_reducible first|exact HB.out|apply xA|apply xN|apply xD|refine xS ?_ GE146.out|refine xS ?_ GE147.out|refine xS ?_ GE148.out)|exact HB.out)) hb);(try clear hb);(try clear hb2);(try clear hk);(try clear hi);have hcz25_0 : w24.cell? ⟨gb146,0,none⟩ = some (.string a0_0):=(blk_cell BK146.out 0).trans rfl;have hcz25_1 : w24.cell? ⟨gb146,1,none⟩ = some (.int .i64 a0_1):=(blk_cell BK146.out 1).trans rfl;have hcz25_2 : w24.cell? ⟨gb146,2,none⟩ = some (.int .i64 a0_2):=(blk_cell BK146.out 2).trans rfl;have hcz25_3 : w24.cell? ⟨gb146,3,none⟩ = some (.string a0_3):=(blk_cell BK146.out 3).trans rfl;have hcz25_4 : w24.cell? ⟨gb146,4,none⟩ = some (.bool a0_4):=(blk_cell BK146.out 4).trans rfl;obtain ⟨hfz25_0,hfz25_1,hfz25_2⟩:=f3 BK146.out;have hfz25_3:=blk_frozen BK146.out 3;have hfz25_4:=blk_frozen BK146.out 4;have hcz26_0 : w24.cell? ⟨gb148,0,none⟩ = some (.string (⟨#[]⟩ : ByteArray)):=(blk_cell BK148.out 0).trans rfl;have hcz26_1 : w24.cell? ⟨gb148,1,none⟩ = some (.int .i64 0):=(blk_cell BK148.out 1).trans rfl;have hcz26_2 : w24.cell? ⟨gb148,2,none⟩ = some (.int .i64 0):=(blk_cell BK148.out 2).trans rfl;have hcz26_3 : w24.cell? ⟨gb148,3,none⟩ = some (.string (⟨#[]⟩ : ByteArray)):=(blk_cell BK148.out 3).trans rfl;have hcz26_4 : w24.cell? ⟨gb148,4,none⟩ = some (.bool false):=(blk_cell BK148.out 4).trans rfl;obtain ⟨hfz26_0,hfz26_1,hfz26_2⟩:=f3 BK148.out;have hfz26_3:=blk_frozen BK148.out 3;have hfz26_4:=blk_frozen BK148.out 4))
  refine bodyPost_ret (results_cell_row rfl _ _ gb148 44 #[.string a0_0,.int .i64 a0_1,.int .i64 a0_2,.string a0_3,.bool a0_4] (0,0) _ rfl (by (with_reducible repeat first|apply bN|apply bD|apply bA);refine blk_put (cs:=#[.string a0_0,.int .i64 a0_1,.int .i64 a0_2,.string a0_3,.bool false]) ?_ 4 _ rfl;(with_reducible repeat first|apply bN|apply bD|apply bA);refine blk_put (cs:=#[.string a0_0,.int .i64 a0_1,.int .i64 a0_2,.string (⟨#[]⟩ : ByteArray),.bool false]) ?_ 3 _ rfl;(with_reducible repeat first|apply bN|apply bD|apply bA);refine blk_put (cs:=#[.string a0_0,.int .i64 a0_1,.int .i64 0,.string (⟨#[]⟩ : ByteArray),.bool false]) ?_ 2 _ rfl;(with_reducible repeat first|apply bN|apply bD|apply bA);refine blk_put (cs:=#[.string a0_0,.int .i64 0,.int .i64 0,.string (⟨#[]⟩ : ByteArray),.bool false]) ?_ 1 _ rfl;(with_reducible repeat first|apply bN|apply bD|apply bA);refine blk_put (cs:=#[.string (⟨#[]⟩ : ByteArray),.int .i64 0,.int .i64 0,.string (⟨#[]⟩ : ByteArray),.bool false]) ?_ 0 _ rfl;(with_reducible repeat first|apply bN|apply bD|apply bA);exact BK148.out) Try.underlying44 rfl (by kernel_rfl)) rfl ?_
  exact ⟨by first|rfl|(simp [errW_none,errW_some] <;> rfl)|(simp [*,errW_none,errW_some] <;> rfl),by repeat (first|(with_reducible first|exact HB.out|apply xA|apply xN|apply xD|refine xS ?_ GE146.out|refine xS ?_ GE147.out|refine xS ?_ GE148.out)|exact HB.out)⟩

end Go.Proofs.Ytghlellambnkeaa.PAll
