-- By wip/pr.py (a program of this session, over the kit's print): lines written by program. Not trusted: Lean checks them.
import Derived.Test.YtghlellambnkeaaPAllx0
import Derived.Test.YtghlellambnkeaaPAllx6
import Derived.Test.YtghlellambnkeaaPAllx7
namespace Go.Proofs.Ytghlellambnkeaa.PAll
open Go.RowKit Go.Proofs.YtghlellambnkeaaW.PrintWords Go.Proofs.YtghlellambnkeaaW.PrintLast Go.Proofs.YtghlellambnkeaaW.PrintMore
attribute [local go_sem] max2_int min2_int max_two min_two max_three min_three max_four min_four   -- for this text's walks alone
set_option linter.unusedVariables false
set_option linter.unusedSimpArgs false

/-! ### tidelineref09_none: function 47 -/
def tidelineref09_none.f (a0_0 : ByteArray) (a0_1 : Int) (a0_2 : Int) (a0_3 : ByteArray) (a0_4 : Bool) : Option (Bool) := some (a0_1 == 0)
set_option maxHeartbeats 8000000 in
set_option maxRecDepth 100000 in
theorem tidelineref09_none.calls (a0_0 : ByteArray) (a0_1 : Int) (a0_2 : Int) (a0_3 : ByteArray) (a0_4 : Bool) (r : Bool) (w : World) (h : tidelineref09_none.f a0_0 a0_1 a0_2 a0_3 a0_4 = some r) :
    Calls Try.prog 47 #[.agg #[.string a0_0, .int .i64 a0_1, .int .i64 a0_2, .string a0_3, .bool a0_4]] w fun e w' => e = .returned (.bool r) ∧ Below w.heap.size w w' := by
 have hu44:=Try.underlying44
 have HB:=Aside0.mk (Below.refl w.heap.size w)
 have H : (some (a0_1 == 0)) = some r:=h
 clear h
 obtain rfl:=Option.some.inj H
 go_enter Try.func47,Try.ntmps47
 go_wp2_with (first|((with_reducible refine gate_dst (N:=1) rfl ?_);refine box_event ?hg (N:=1) ?hd (cs:=#[.string a0_0,.int .i64 a0_1,.int .i64 a0_2,.string a0_3,.bool a0_4]) (t:=44) ?hr ?_;(case hd => rfl);(case hg => rfl);(case hr => first|(go_simp;done)|(go_simp;rfl));intro gb184 hg w2 hbox hb;have n0_:=Aside0.mk (below_step (by repeat (first|(with_reducible first|exact HB.out|apply xA|apply xN|apply xD)|exact HB.out)) hb);have n1_:=Aside0.mk (hbox);have n2_:=Aside0.mk ((by rw [hg];exact (below_size (by repeat (first|(with_reducible first|exact HB.out|apply xA|apply xN|apply xD)|exact HB.out))) : w.heap.size ≤ gb184));have n3_:=Aside0.mk ((by rw [hg];exact (below_size (by repeat (first|(with_reducible first|exact HB.out|apply xA|apply xN|apply xD)|exact HB.out))) : w.heap.size ≤ gb184));clear HB;have HB:=n0_;have BK184:=n1_;have GW184:=n2_;have GE184:=n3_;clear n0_ n1_ n2_ n3_;clear hb hbox hg;have hcz3_0 : w2.cell? ⟨gb184,0,none⟩ = some (.string a0_0):=(blk_cell BK184.out 0).trans rfl;have hcz3_1 : w2.cell? ⟨gb184,1,none⟩ = some (.int .i64 a0_1):=(blk_cell BK184.out 1).trans rfl;have hcz3_2 : w2.cell? ⟨gb184,2,none⟩ = some (.int .i64 a0_2):=(blk_cell BK184.out 2).trans rfl;have hcz3_3 : w2.cell? ⟨gb184,3,none⟩ = some (.string a0_3):=(blk_cell BK184.out 3).trans rfl;have hcz3_4 : w2.cell? ⟨gb184,4,none⟩ = some (.bool a0_4):=(blk_cell BK184.out 4).trans rfl;obtain ⟨hfz3_0,hfz3_1,hfz3_2⟩:=f3 BK184.out;have hfz3_3:=blk_frozen BK184.out 3;have hfz3_4:=blk_frozen BK184.out 4))
 go_ret
 exact ⟨by first|rfl|(simp [errW_none,errW_some] <;> rfl)|(simp [*,errW_none,errW_some] <;> rfl),by repeat (first|(with_reducible first|exact HB.out|apply xA|apply xN|apply xD|refine xS ?_ GE184.out)|exact HB.out)⟩

/-! ### tidelineref03_Compare: function 55 -/
def tidelineref03_Compare.f (a0_0 : Int) (a0_1 : Int) (a1_0 : Int) (a1_1 : Int) : Option (Int) := if a0_0 > a1_0 then (some 1) else (if a0_0 < a1_0 then (some (-1)) else (if a0_1 > a1_1 then (some 1) else (if a0_1 < a1_1 then (some (-1)) else (some 0))))
set_option maxHeartbeats 8000000 in
set_option maxRecDepth 100000 in
theorem tidelineref03_Compare.calls (a0_0 : Int) (a0_1 : Int) (a1_0 : Int) (a1_1 : Int) (r : Int) (w : World) (h : tidelineref03_Compare.f a0_0 a0_1 a1_0 a1_1 = some r) :
    Calls Try.prog 55 #[.agg #[.int .i64 a0_0, .int .i64 a0_1], .agg #[.int .i64 a1_0, .int .i64 a1_1]] w fun e w' => e = .returned (.int .i64 r) ∧ Below w.heap.size w w' := by
 have hu42:=Try.underlying42
 have HB:=Aside0.mk (Below.refl w.heap.size w)
 have H : (if a0_0 > a1_0 then (some 1) else (if a0_0 < a1_0 then (some (-1)) else (if a0_1 > a1_1 then (some 1) else (if a0_1 < a1_1 then (some (-1)) else (some 0))))) = some r:=h
 clear h
 by_cases c3 : a0_0 > a1_0
 ·rw [if_pos c3] at H
  have c3b0 : decide (a1_0 < a0_0) = true:=decide_eq_true c3
  clear c3
  obtain rfl:=Option.some.inj H
  go_enter Try.func55,Try.ntmps55
  go_wp2_with (first|((with_reducible refine gate_dst (N:=2) rfl ?_);refine box_event ?hg (N:=2) ?hd (cs:=#[.int .i64 a0_0,.int .i64 a0_1]) (t:=42) ?hr ?_;(case hd => rfl);(case hg => rfl);(case hr => first|(go_simp;done)|(go_simp;rfl));intro gb185 hg w4 hbox hb;have n0_:=Aside0.mk (below_step (by repeat (first|(with_reducible first|exact HB.out|apply xA|apply xN|apply xD)|exact HB.out)) hb);have n1_:=Aside0.mk (hbox);have n2_:=Aside0.mk ((by rw [hg];exact (below_size (by repeat (first|(with_reducible first|exact HB.out|apply xA|apply xN|apply xD)|exact HB.out))) : w.heap.size ≤ gb185));have n3_:=Aside0.mk ((by rw [hg];exact (below_size (by repeat (first|(with_reducible first|exact HB.out|apply xA|apply xN|apply xD)|exact HB.out))) : w.heap.size ≤ gb185));clear HB;have HB:=n0_;have BK185:=n1_;have GW185:=n2_;have GE185:=n3_;clear n0_ n1_ n2_ n3_;clear hb hbox hg)|((with_reducible refine gate_dst (N:=3) rfl ?_);refine box_event ?hg (N:=3) ?hd (cs:=#[.int .i64 a1_0,.int .i64 a1_1]) (t:=42) ?hr ?_;(case hd => rfl);(case hg => rfl);(case hr => first|(go_simp;done)|(go_simp;rfl));intro gb186 hg w5 hbox hb;have n0_:=bk (by (with_reducible repeat first|apply bN|apply bD|apply bA);exact BK185.out) hb;have n1_:=Aside0.mk (below_step (by repeat (first|(with_reducible first|exact HB.out|apply xA|apply xN|apply xD|refine xS ?_ GE185.out)|exact HB.out)) hb);have n2_:=Aside0.mk (hbox);have n3_:=Aside0.mk ((by rw [hg];exact (below_size (by repeat (first|(with_reducible first|exact HB.out|apply xA|apply xN|apply xD|refine xS ?_ GE185.out)|exact HB.out))) : w.heap.size ≤ gb186));have n4_:=Aside0.mk ((by rw [hg];exact (below_size (by repeat (first|(with_reducible first|exact HB.out|apply xA|apply xN|apply xD|refine xS ?_ GE185.out)|exact HB.out))) : w.heap.size ≤ gb186));have n5_:=Aside0.mk ((by rw [hg];exact Nat.ne_of_lt (blk_lt (g:=gb185) (o:=.cells #[.int .i64 a0_0,.int .i64 a0_1] 42 (0,0)) (by (with_reducible repeat first|apply bN|apply bD|apply bA);exact BK185.out)) : gb185 ≠ gb186));have n6_:=Aside0.mk ((by rw [hg];exact Nat.ne_of_gt (blk_lt (g:=gb185) (o:=.cells #[.int .i64 a0_0,.int .i64 a0_1] 42 (0,0)) (by (with_reducible repeat first|apply bN|apply bD|apply bA);exact BK185.out)) : gb186 ≠ gb185));clear BK185;clear HB;have BK185:=n0_;have HB:=n1_;have BK186:=n2_;have GW186:=n3_;have GE186:=n4_;have NB185_186:=n5_;have NB186_185:=n6_;clear n0_ n1_ n2_ n3_ n4_ n5_ n6_;clear hb hbox hg;have hnb6:=NB185_186.out;have hnc6:=NB186_185.out;have hcz7_0 : w5.cell? ⟨gb185,0,none⟩ = some (.int .i64 a0_0):=(blk_cell BK185.out 0).trans rfl;have hcz7_1 : w5.cell? ⟨gb185,1,none⟩ = some (.int .i64 a0_1):=(blk_cell BK185.out 1).trans rfl;have hfz7_0:=blk_frozen BK185.out 0;have hfz7_1:=blk_frozen BK185.out 1;have hcz8_0 : w5.cell? ⟨gb186,0,none⟩ = some (.int .i64 a1_0):=(blk_cell BK186.out 0).trans rfl;have hcz8_1 : w5.cell? ⟨gb186,1,none⟩ = some (.int .i64 a1_1):=(blk_cell BK186.out 1).trans rfl;have hfz8_0:=blk_frozen BK186.out 0;have hfz8_1:=blk_frozen BK186.out 1))
  go_ret
  exact ⟨by first|rfl|(simp [errW_none,errW_some] <;> rfl)|(simp [*,errW_none,errW_some] <;> rfl),by repeat (first|(with_reducible first|exact HB.out|apply xA|apply xN|apply xD|refine xS ?_ GE185.out|refine xS ?_ GE186.out)|exact HB.out)⟩
 ·rw [if_neg c3] at H
  have c3b0 : decide (a1_0 < a0_0) = false:=decide_eq_false c3
  clear c3
  by_cases c9 : a0_0 < a1_0
  ·rw [if_pos c9] at H
   have c9b0 : decide (a0_0 < a1_0) = true:=decide_eq_true c9
   clear c9
   obtain rfl:=Option.some.inj H
   go_enter Try.func55,Try.ntmps55
   go_wp2_with (first|((with_reducible refine gate_dst (N:=2) rfl ?_);refine box_event ?hg (N:=2) ?hd (cs:=#[.int .i64 a0_0,.int .i64 a0_1]) (t:=42) ?hr ?_;(case hd => rfl);(case hg => rfl);(case hr => first|(go_simp;done)|(go_simp;rfl));intro gb185 hg w10 hbox hb;have n0_:=Aside0.mk (below_step (by repeat (first|(with_reducible first|exact HB.out|apply xA|apply xN|apply xD)|exact HB.out)) hb);have n1_:=Aside0.mk (hbox);have n2_:=Aside0.mk ((by rw [hg];exact (below_size (by repeat (first|(with_reducible first|exact HB.out|apply xA|apply xN|apply xD)|exact HB.out))) : w.heap.size ≤ gb185));have n3_:=Aside0.mk ((by rw [hg];exact (below_size (by repeat (first|(with_reducible first|exact HB.out|apply xA|apply xN|apply xD)|exact HB.out))) : w.heap.size ≤ gb185));clear HB;have HB:=n0_;have BK185:=n1_;have GW185:=n2_;have GE185:=n3_;clear n0_ n1_ n2_ n3_;clear hb hbox hg)|((with_reducible refine gate_dst (N:=3) rfl ?_);refine box_event ?hg (N:=3) ?hd (cs:=#[.int .i64 a1_0,.int .i64 a1_1]) (t:=42) ?hr ?_;(case hd => rfl);(case hg => rfl);(case hr => first|(go_simp;done)|(go_simp;rfl));intro gb186 hg w11 hbox hb;have n0_:=bk (by (with_reducible repeat first|apply bN|apply bD|apply bA);exact BK185.out) hb;have n1_:=Aside0.mk (below_step (by repeat (first|(with_reducible first|exact HB.out|apply xA|apply xN|apply xD|refine xS ?_ GE185.out)|exact HB.out)) hb);have n2_:=Aside0.mk (hbox);have n3_:=Aside0.mk ((by rw [hg];exact (below_size (by repeat (first|(with_reducible first|exact HB.out|apply xA|apply xN|apply xD|refine xS ?_ GE185.out)|exact HB.out))) : w.heap.size ≤ gb186));have n4_:=Aside0.mk ((by rw [hg];exact (below_size (by repeat (first|(with_reducible first|exact HB.out|apply xA|apply xN|apply xD|refine xS ?_ GE185.out)|exact HB.out))) : w.heap.size ≤ gb186));have n5_:=Aside0.mk ((by rw [hg];exact Nat.ne_of_lt (blk_lt (g:=gb185) (o:=.cells #[.int .i64 a0_0,.int .i64 a0_1] 42 (0,0)) (by (with_reducible repeat first|apply bN|apply bD|apply bA);exact BK185.out)) : gb185 ≠ gb186));have n6_:=Aside0.mk ((by rw [hg];exact Nat.ne_of_gt (blk_lt (g:=gb185) (o:=.cells #[.int .i64 a0_0,.int .i64 a0_1] 42 (0,0)) (by (with_reducible repeat first|apply bN|apply bD|apply bA);exact BK185.out)) : gb186 ≠ gb185));clear BK185;clear HB;have BK185:=n0_;have HB:=n1_;have BK186:=n2_;have GW186:=n3_;have GE186:=n4_;have NB185_186:=n5_;have NB186_185:=n6_;clear n0_ n1_ n2_ n3_ n4_ n5_ n6_;clear hb hbox hg;have hnb12:=NB185_186.out;have hnc12:=NB186_185.out;have hcz13_0 : w11.cell? ⟨gb185,0,none⟩ = some (.int .i64 a0_0):=(blk_cell BK185.out 0).trans rfl;have hcz13_1 : w11.cell? ⟨gb185,1,none⟩ = some (.int .i64 a0_1):=(blk_cell BK185.out 1).trans rfl;have hfz13_0:=blk_frozen BK185.out 0;have hfz13_1:=blk_frozen BK185.out 1;have hcz14_0 : w11.cell? ⟨gb186,0,none⟩ = some (.int .i64 a1_0):=(blk_cell BK186.out 0).trans rfl;have hcz14_1 : w11.cell? ⟨gb186,1,none⟩ = some (.int .i64 a1_1):=(blk_cell BK186.out 1).trans rfl;have hfz14_0:=blk_frozen BK186.out 0;have hfz14_1:=blk_frozen BK186.out 1))
   go_ret
   exact ⟨by first|rfl|(simp [errW_none,errW_some] <;> rfl)|(simp [*,errW_none,errW_some] <;> rfl),by repeat (first|(with_reducible first|exact HB.out|apply xA|apply xN|apply xD|refine xS ?_ GE185.out|refine xS ?_ GE186.out)|exact HB.out)⟩
  ·rw [if_neg c9] at H
   have c9b0 : decide (a0_0 < a1_0) = false:=decide_eq_false c9
   clear c9
   by_cases c15 : a0_1 > a1_1
   ·rw [if_pos c15] at H
    have c15b0 : decide (a1_1 < a0_1) = true:=decide_eq_true c15
    clear c15
    obtain rfl:=Option.some.inj H
    go_enter Try.func55,Try.ntmps55
    go_wp2_with (first|((with_reducible refine gate_dst (N:=2) rfl ?_);refine box_event ?hg (N:=2) ?hd (cs:=#[.int .i64 a0_0,.int .i64 a0_1]) (t:=42) ?hr ?_;(case hd => rfl);(case hg => rfl);(case hr => first|(go_simp;done)|(go_simp;rfl));intro gb185 hg w16 hbox hb;have n0_:=Aside0.mk (below_step (by repeat (first|(with_reducible first|exact HB.out|apply xA|apply xN|apply xD)|exact HB.out)) hb);have n1_:=Aside0.mk (hbox);have n2_:=Aside0.mk ((by rw [hg];exact (below_size (by repeat (first|(with_reducible first|exact HB.out|apply xA|apply xN|apply xD)|exact HB.out))) : w.heap.size ≤ gb185));have n3_:=Aside0.mk ((by rw [hg];exact (below_size (by repeat (first|(with_reducible first|exact HB.out|apply xA|apply xN|apply xD)|exact HB.out))) : w.heap.size ≤ gb185));clear HB;have HB:=n0_;have BK185:=n1_;have GW185:=n2_;have GE185:=n3_;clear n0_ n1_ n2_ n3_;clear hb hbox hg)|((with_reducible refine gate_dst (N:=3) rfl ?_);refine box_event ?hg (N:=3) ?hd (cs:=#[.int .i64 a1_0,.int .i64 a1_1]) (t:=42) ?hr ?_;(case hd => rfl);(case hg => rfl);(case hr => first|(go_simp;done)|(go_simp;rfl));intro gb186 hg w17 hbox hb;have n0_:=bk (by (with_reducible repeat first|apply bN|apply bD|apply bA);exact BK185.out) hb;have n1_:=Aside0.mk (below_step (by repeat (first|(with_reducible first|exact HB.out|apply xA|apply xN|apply xD|refine xS ?_ GE185.out)|exact HB.out)) hb);have n2_:=Aside0.mk (hbox);have n3_:=Aside0.mk ((by rw [hg];exact (below_size (by repeat (first|(with_reducible first|exact HB.out|apply xA|apply xN|apply xD|refine xS ?_ GE185.out)|exact HB.out))) : w.heap.size ≤ gb186));have n4_:=Aside0.mk ((by rw [hg];exact (below_size (by repeat (first|(with_reducible first|exact HB.out|apply xA|apply xN|apply xD|refine xS ?_ GE185.out)|exact HB.out))) : w.heap.size ≤ gb186));have n5_:=Aside0.mk ((by rw [hg];exact Nat.ne_of_lt (blk_lt (g:=gb185) (o:=.cells #[.int .i64 a0_0,.int .i64 a0_1] 42 (0,0)) (by (with_reducible repeat first|apply bN|apply bD|apply bA);exact BK185.out)) : gb185 ≠ gb186));have n6_:=Aside0.mk ((by rw [hg];exact Nat.ne_of_gt (blk_lt (g:=gb185) (o:=.cells #[.int .i64 a0_0,.int .i64 a0_1] 42 (0,0)) (by (with_reducible repeat first|apply bN|apply bD|apply bA);exact BK185.out)) : gb186 ≠ gb185));clear BK185;clear HB;have BK185:=n0_;have HB:=n1_;have BK186:=n2_;have GW186:=n3_;have GE186:=n4_;have NB185_186:=n5_;have NB186_185:=n6_;clear n0_ n1_ n2_ n3_ n4_ n5_ n6_;clear hb hbox hg;have hnb18:=NB185_186.out;have hnc18:=NB186_185.out;have hcz19_0 : w17.cell? ⟨gb185,0,none⟩ = some (.int .i64 a0_0):=(blk_cell BK185.out 0).trans rfl;have hcz19_1 : w17.cell? ⟨gb185,1,none⟩ = some (.int .i64 a0_1):=(blk_cell BK185.out 1).trans rfl;have hfz19_0:=blk_frozen BK185.out 0;have hfz19_1:=blk_frozen BK185.out 1;have hcz20_0 : w17.cell? ⟨gb186,0,none⟩ = some (.int .i64 a1_0):=(blk_cell BK186.out 0).trans rfl;have hcz20_1 : w17.cell? ⟨gb186,1,none⟩ = some (.int .i64 a1_1):=(blk_cell BK186.out 1).trans rfl;have hfz20_0:=blk_frozen BK186.out 0;have hfz20_1:=blk_frozen BK186.out 1))
    go_ret
    exact ⟨by first|rfl|(simp [errW_none,errW_some] <;> rfl)|(simp [*,errW_none,errW_some] <;> rfl),by repeat (first|(with_reducible first|exact HB.out|apply xA|apply xN|apply xD|refine xS ?_ GE185.out|refine xS ?_ GE186.out)|exact HB.out)⟩
   ·rw [if_neg c15] at H
    have c15b0 : decide (a1_1 < a0_1) = false:=decide_eq_false c15
    clear c15
    by_cases c21 : a0_1 < a1_1
    ·rw [if_pos c21] at H
     have c21b0 : decide (a0_1 < a1_1) = true:=decide_eq_true c21
     clear c21
     obtain rfl:=Option.some.inj H
     go_enter Try.func55,Try.ntmps55
     go_wp2_with (first|((with_reducible refine gate_dst (N:=2) rfl ?_);refine box_event ?hg (N:=2) ?hd (cs:=#[.int .i64 a0_0,.int .i64 a0_1]) (t:=42) ?hr ?_;(case hd => rfl);(case hg => rfl);(case hr => first|(go_simp;done)|(go_simp;rfl));intro gb185 hg w22 hbox hb;have n0_:=Aside0.mk (below_step (by repeat (first|(with_reducible first|exact HB.out|apply xA|apply xN|apply xD)|exact HB.out)) hb);have n1_:=Aside0.mk (hbox);have n2_:=Aside0.mk ((by rw [hg];exact (below_size (by repeat (first|(with_reducible first|exact HB.out|apply xA|apply xN|apply xD)|exact HB.out))) : w.heap.size ≤ gb185));have n3_:=Aside0.mk ((by rw [hg];exact (below_size (by repeat (first|(with_reducible first|exact HB.out|apply xA|apply xN|apply xD)|exact HB.out))) : w.heap.size ≤ gb185));clear HB;have HB:=n0_;have BK185:=n1_;have GW185:=n2_;have GE185:=n3_;clear n0_ n1_ n2_ n3_;clear hb hbox hg)|((with_reducible refine gate_dst (N:=3) rfl ?_);refine box_event ?hg (N:=3) ?hd (cs:=#[.int .i64 a1_0,.int .i64 a1_1]) (t:=42) ?hr ?_;(case hd => rfl);(case hg => rfl);(case hr => first|(go_simp;done)|(go_simp;rfl));intro gb186 hg w23 hbox hb;have n0_:=bk (by (with_reducible repeat first|apply bN|apply bD|apply bA);exact BK185.out) hb;have n1_:=Aside0.mk (below_step (by repeat (first|(with_reducible first|exact HB.out|apply xA|apply xN|apply xD|refine xS ?_ GE185.out)|exact HB.out)) hb);have n2_:=Aside0.mk (hbox);have n3_:=Aside0.mk ((by rw [hg];exact (below_size (by repeat (first|(with_reducible first|exact HB.out|apply xA|apply xN|apply xD|refine xS ?_ GE185.out)|exact HB.out))) : w.heap.size ≤ gb186));have n4_:=Aside0.mk ((by rw [hg];exact (below_size (by repeat (first|(with_reducible first|exact HB.out|apply xA|apply xN|apply xD|refine xS ?_ GE185.out)|exact HB.out))) : w.heap.size ≤ gb186));have n5_:=Aside0.mk ((by rw [hg];exact Nat.ne_of_lt (blk_lt (g:=gb185) (o:=.cells #[.int .i64 a0_0,.int .i64 a0_1] 42 (0,0)) (by (with_reducible repeat first|apply bN|apply bD|apply bA);exact BK185.out)) : gb185 ≠ gb186));have n6_:=Aside0.mk ((by rw [hg];exact Nat.ne_of_gt (blk_lt (g:=gb185) (o:=.cells #[.int .i64 a0_0,.int .i64 a0_1] 42 (0,0)) (by (with_reducible repeat first|apply bN|apply bD|apply bA);exact BK185.out)) : gb186 ≠ gb185));clear BK185;clear HB;have BK185:=n0_;have HB:=n1_;have BK186:=n2_;have GW186:=n3_;have GE186:=n4_;have NB185_186:=n5_;have NB186_185:=n6_;clear n0_ n1_ n2_ n3_ n4_ n5_ n6_;clear hb hbox hg;have hnb24:=NB185_186.out;have hnc24:=NB186_185.out;have hcz25_0 : w23.cell? ⟨gb185,0,none⟩ = some (.int .i64 a0_0):=(blk_cell BK185.out 0).trans rfl;have hcz25_1 : w23.cell? ⟨gb185,1,none⟩ = some (.int .i64 a0_1):=(blk_cell BK185.out 1).trans rfl;have hfz25_0:=blk_frozen BK185.out 0;have hfz25_1:=blk_frozen BK185.out 1;have hcz26_0 : w23.cell? ⟨gb186,0,none⟩ = some (.int .i64 a1_0):=(blk_cell BK186.out 0).trans rfl;have hcz26_1 : w23.cell? ⟨gb186,1,none⟩ = some (.int .i64 a1_1):=(blk_cell BK186.out 1).trans rfl;have hfz26_0:=blk_frozen BK186.out 0;have hfz26_1:=blk_frozen BK186.out 1))
     go_ret
     exact ⟨by first|rfl|(simp [errW_none,errW_some] <;> rfl)|(simp [*,errW_none,errW_some] <;> rfl),by repeat (first|(with_reducible first|exact HB.out|apply xA|apply xN|apply xD|refine xS ?_ GE185.out|refine xS ?_ GE186.out)|exact HB.out)⟩
    ·rw [if_neg c21] at H
     have c21b0 : decide (a0_1 < a1_1) = false:=decide_eq_false c21
     clear c21
     obtain rfl:=Option.some.inj H
     go_enter Try.func55,Try.ntmps55
     go_wp2_with (first|((with_reducible refine gate_dst (N:=2) rfl ?_);refine box_event ?hg (N:=2) ?hd (cs:=#[.int .i64 a0_0,.int .i64 a0_1]) (t:=42) ?hr ?_;(case hd => rfl);(case hg => rfl);(case hr => first|(go_simp;done)|(go_simp;rfl));intro gb185 hg w27 hbox hb;have n0_:=Aside0.mk (below_step (by repeat (first|(with_reducible first|exact HB.out|apply xA|apply xN|apply xD)|exact HB.out)) hb);have n1_:=Aside0.mk (hbox);have n2_:=Aside0.mk ((by rw [hg];exact (below_size (by repeat (first|(with_reducible first|exact HB.out|apply xA|apply xN|apply xD)|exact HB.out))) : w.heap.size ≤ gb185));have n3_:=Aside0.mk ((by rw [hg];exact (below_size (by repeat (first|(with_reducible first|exact HB.out|apply xA|apply xN|apply xD)|exact HB.out))) : w.heap.size ≤ gb185));clear HB;have HB:=n0_;have BK185:=n1_;have GW185:=n2_;have GE185:=n3_;clear n0_ n1_ n2_ n3_;clear hb hbox hg)|((with_reducible refine gate_dst (N:=3) rfl ?_);refine box_event ?hg (N:=3) ?hd (cs:=#[.int .i64 a1_0,.int .i64 a1_1]) (t:=42) ?hr ?_;(case hd => rfl);(case hg => rfl);(case hr => first|(go_simp;done)|(go_simp;rfl));intro gb186 hg w28 hbox hb;have n0_:=bk (by (with_reducible repeat first|apply bN|apply bD|apply bA);exact BK185.out) hb;have n1_:=Aside0.mk (below_step (by repeat (first|(with_reducible first|exact HB.out|apply xA|apply xN|apply xD|refine xS ?_ GE185.out)|exact HB.out)) hb);have n2_:=Aside0.mk (hbox);have n3_:=Aside0.mk ((by rw [hg];exact (below_size (by repeat (first|(with_reducible first|exact HB.out|apply xA|apply xN|apply xD|refine xS ?_ GE185.out)|exact HB.out))) : w.heap.size ≤ gb186));have n4_:=Aside0.mk ((by rw [hg];exact (below_size (by repeat (first|(with_reducible first|exact HB.out|apply xA|apply xN|apply xD|refine xS ?_ GE185.out)|exact HB.out))) : w.heap.size ≤ gb186));have n5_:=Aside0.mk ((by rw [hg];exact Nat.ne_of_lt (blk_lt (g:=gb185) (o:=.cells #[.int .i64 a0_0,.int .i64 a0_1] 42 (0,0)) (by (with_reducible repeat first|apply bN|apply bD|apply bA);exact BK185.out)) : gb185 ≠ gb186));have n6_:=Aside0.mk ((by rw [hg];exact Nat.ne_of_gt (blk_lt (g:=gb185) (o:=.cells #[.int .i64 a0_0,.int .i64 a0_1] 42 (0,0)) (by (with_reducible repeat first|apply bN|apply bD|apply bA);exact BK185.out)) : gb186 ≠ gb185));clear BK185;clear HB;have BK185:=n0_;have HB:=n1_;have BK186:=n2_;have GW186:=n3_;have GE186:=n4_;have NB185_186:=n5_;have NB186_185:=n6_;clear n0_ n1_ n2_ n3_ n4_ n5_ n6_;clear hb hbox hg;have hnb29:=NB185_186.out;have hnc29:=NB186_185.out;have hcz30_0 : w28.cell? ⟨gb185,0,none⟩ = some (.int .i64 a0_0):=(blk_cell BK185.out 0).trans rfl;have hcz30_1 : w28.cell? ⟨gb185,1,none⟩ = some (.int .i64 a0_1):=(blk_cell BK185.out 1).trans rfl;have hfz30_0:=blk_frozen BK185.out 0;have hfz30_1:=blk_frozen BK185.out 1;have hcz31_0 : w28.cell? ⟨gb186,0,none⟩ = some (.int .i64 a1_0):=(blk_cell BK186.out 0).trans rfl;have hcz31_1 : w28.cell? ⟨gb186,1,none⟩ = some (.int .i64 a1_1):=(blk_cell BK186.out 1).trans rfl;have hfz31_0:=blk_frozen BK186.out 0;have hfz31_1:=blk_frozen BK186.out 1))
     go_ret
     exact ⟨by first|rfl|(simp [errW_none,errW_some] <;> rfl)|(simp [*,errW_none,errW_some] <;> rfl),by repeat (first|(with_reducible first|exact HB.out|apply xA|apply xN|apply xD|refine xS ?_ GE185.out|refine xS ?_ GE186.out)|exact HB.out)⟩

/-! ### tidelineref03_Newer: function 49 -/
def tidelineref03_Newer.f (a0_0 : ByteArray) (a0_1 : Int) (a0_2 : Int) (a0_3 : ByteArray) (a0_4 : Bool) (a1_0 : ByteArray) (a1_1 : Int) (a1_2 : Int) (a1_3 : ByteArray) (a1_4 : Bool) : Option (Bool) := (tidelineref03_Compare.f a0_1 a0_2 a1_1 a1_2).bind fun t189 => (some (decide (t189 > 0)))
set_option maxHeartbeats 8000000 in
set_option maxRecDepth 100000 in
theorem tidelineref03_Newer.calls (a0_0 : ByteArray) (a0_1 : Int) (a0_2 : Int) (a0_3 : ByteArray) (a0_4 : Bool) (a1_0 : ByteArray) (a1_1 : Int) (a1_2 : Int) (a1_3 : ByteArray) (a1_4 : Bool) (r : Bool) (w : World) (h : tidelineref03_Newer.f a0_0 a0_1 a0_2 a0_3 a0_4 a1_0 a1_1 a1_2 a1_3 a1_4 = some r) :
    Calls Try.prog 49 #[.agg #[.string a0_0, .int .i64 a0_1, .int .i64 a0_2, .string a0_3, .bool a0_4], .agg #[.string a1_0, .int .i64 a1_1, .int .i64 a1_2, .string a1_3, .bool a1_4]] w fun e w' => e = .returned (.bool r) ∧ Below w.heap.size w w' := by
 have hu44:=Try.underlying44
 have hu42:=Try.underlying42
 have HB:=Aside0.mk (Below.refl w.heap.size w)
 have H : ((tidelineref03_Compare.f a0_1 a0_2 a1_1 a1_2).bind fun t189 => (some (decide (t189 > 0)))) = some r:=h
 clear h
 replace H:=Option.bind_eq_some_iff.mp H
 obtain ⟨t189,A30,H⟩:=H
 replace H : (some (decide (t189 > 0))) = some r:=H
 have A3:=Aside0.mk A30
 clear A30
 obtain rfl:=Option.some.inj H
 go_enter Try.func49,Try.ntmps49
 go_wp2_with (first|((with_reducible refine gate_dst (N:=2) rfl ?_);refine box_event ?hg (N:=2) ?hd (cs:=#[.string a0_0,.int .i64 a0_1,.int .i64 a0_2,.string a0_3,.bool a0_4]) (t:=44) ?hr ?_;(case hd => rfl);(case hg => rfl);(case hr => first|(go_simp;done)|(go_simp;rfl));intro gb187 hg w4 hbox hb;have n0_:=Aside0.mk (below_step (by repeat (first|(with_reducible first|exact HB.out|apply xA|apply xN|apply xD)|exact HB.out)) hb);have n1_:=Aside0.mk (hbox);have n2_:=Aside0.mk ((by rw [hg];exact (below_size (by repeat (first|(with_reducible first|exact HB.out|apply xA|apply xN|apply xD)|exact HB.out))) : w.heap.size ≤ gb187));have n3_:=Aside0.mk ((by rw [hg];exact (below_size (by repeat (first|(with_reducible first|exact HB.out|apply xA|apply xN|apply xD)|exact HB.out))) : w.heap.size ≤ gb187));clear HB;have HB:=n0_;have BK187:=n1_;have GW187:=n2_;have GE187:=n3_;clear n0_ n1_ n2_ n3_;clear hb hbox hg)|((with_reducible refine gate_dst (N:=3) rfl ?_);refine box_event ?hg (N:=3) ?hd (cs:=#[.string a1_0,.int .i64 a1_1,.int .i64 a1_2,.string a1_3,.bool a1_4]) (t:=44) ?hr ?_;(case hd => rfl);(case hg => rfl);(case hr => first|(go_simp;done)|(go_simp;rfl));intro gb188 hg w5 hbox hb;have n0_:=bk (by (with_reducible repeat first|apply bN|apply bD|apply bA);exact BK187.out) hb;have n1_:=Aside0.mk (below_step (by repeat (first|(with_reducible first|exact HB.out|apply xA|apply xN|apply xD|refine xS ?_ GE187.out)|exact HB.out)) hb);have n2_:=Aside0.mk (hbox);have n3_:=Aside0.mk ((by rw [hg];exact (below_size (by repeat (first|(with_reducible first|exact HB.out|apply xA|apply xN|apply xD|refine xS ?_ GE187.out)|exact HB.out))) : w.heap.size ≤ gb188));have n4_:=Aside0.mk ((by rw [hg];exact (below_size (by repeat (first|(with_reducible first|exact HB.out|apply xA|apply xN|apply xD|refine xS ?_ GE187.out)|exact HB.out))) : w.heap.size ≤ gb188));have n5_:=Aside0.mk ((by rw [hg];exact Nat.ne_of_lt (blk_lt (g:=gb187) (o:=.cells #[.string a0_0,.int .i64 a0_1,.int .i64 a0_2,.string a0_3,.bool a0_4] 44 (0,0)) (by (with_reducible repeat first|apply bN|apply bD|apply bA);exact BK187.out)) : gb187 ≠ gb188));have n6_:=Aside0.mk ((by rw [hg];exact Nat.ne_of_gt (blk_lt (g:=gb187) (o:=.cells #[.string a0_0,.int .i64 a0_1,.int .i64 a0_2,.string a0_3,.bool a0_4] 44 (0,0)) (by (with_reducible repeat first|apply bN|apply bD|apply bA);exact BK187.out)) : gb188 ≠ gb187));clear BK187;clear HB;have BK187:=n0_;have HB:=n1_;have BK188:=n2_;have GW188:=n3_;have GE188:=n4_;have NB187_188:=n5_;have NB188_187:=n6_;clear n0_ n1_ n2_ n3_ n4_ n5_ n6_;clear hb hbox hg;have hnb6:=NB187_188.out;have hnc6:=NB188_187.out;have hcz7_0 : w5.cell? ⟨gb187,0,none⟩ = some (.string a0_0):=(blk_cell BK187.out 0).trans rfl;have hcz7_1 : w5.cell? ⟨gb187,1,none⟩ = some (.int .i64 a0_1):=(blk_cell BK187.out 1).trans rfl;have hcz7_2 : w5.cell? ⟨gb187,2,none⟩ = some (.int .i64 a0_2):=(blk_cell BK187.out 2).trans rfl;have hcz7_3 : w5.cell? ⟨gb187,3,none⟩ = some (.string a0_3):=(blk_cell BK187.out 3).trans rfl;have hcz7_4 : w5.cell? ⟨gb187,4,none⟩ = some (.bool a0_4):=(blk_cell BK187.out 4).trans rfl;obtain ⟨hfz7_0,hfz7_1,hfz7_2⟩:=f3 BK187.out;have hfz7_3:=blk_frozen BK187.out 3;have hfz7_4:=blk_frozen BK187.out 4;have hcz8_0 : w5.cell? ⟨gb188,0,none⟩ = some (.string a1_0):=(blk_cell BK188.out 0).trans rfl;have hcz8_1 : w5.cell? ⟨gb188,1,none⟩ = some (.int .i64 a1_1):=(blk_cell BK188.out 1).trans rfl;have hcz8_2 : w5.cell? ⟨gb188,2,none⟩ = some (.int .i64 a1_2):=(blk_cell BK188.out 2).trans rfl;have hcz8_3 : w5.cell? ⟨gb188,3,none⟩ = some (.string a1_3):=(blk_cell BK188.out 3).trans rfl;have hcz8_4 : w5.cell? ⟨gb188,4,none⟩ = some (.bool a1_4):=(blk_cell BK188.out 4).trans rfl;obtain ⟨hfz8_0,hfz8_1,hfz8_2⟩:=f3 BK188.out;have hfz8_3:=blk_frozen BK188.out 3;have hfz8_4:=blk_frozen BK188.out 4)|((with_reducible refine gate_callee (f:=55) rfl ?_);refine goesL_ (some 9) rfl rfl Try.func55 (by kernel_rfl) rfl #[.agg #[.int .i64 a0_1,.int .i64 a0_2],.agg #[.int .i64 a1_1,.int .i64 a1_2]] rfl (by (try simp only [List.map_toArray,List.map_cons,List.map_nil]);first|done|rfl|(simp only [List.length_drop,List.length_take];rfl)) ?_;(with_reducible refine (tidelineref03_Compare.calls a0_1 a0_2 a1_1 a1_2 t189 _ A3.out).mono ?_);rintro e w9 ⟨rfl,hb⟩;refine ⟨_,rfl,?_⟩;replace BK187:=bk (by (with_reducible repeat first|apply bN|apply bD|apply bA);exact BK187.out) hb;replace BK188:=bk (by (with_reducible repeat first|apply bN|apply bD|apply bA);exact BK188.out) hb;replace HB:=Aside0.mk (below_step (by repeat (first|(with_reducible first|exact HB.out|apply xA|apply xN|apply xD|refine xS ?_ GE187.out|refine xS ?_ GE188.out)|exact HB.out)) hb);(try clear hb);(try clear hb2);(try clear hk);(try clear hi)))
 go_ret
 exact ⟨by first|rfl|(simp [errW_none,errW_some] <;> rfl)|(simp [*,errW_none,errW_some] <;> rfl),by repeat (first|(with_reducible first|exact HB.out|apply xA|apply xN|apply xD|refine xS ?_ GE187.out|refine xS ?_ GE188.out)|exact HB.out)⟩

/-! ### tidelineref03_Best: function 48 -/
def tidelineref03_Best.f (a0_0 : ByteArray) (a0_1 : Int) (a0_2 : Int) (a0_3 : ByteArray) (a0_4 : Bool) (a1_0 : ByteArray) (a1_1 : Int) (a1_2 : Int) (a1_3 : ByteArray) (a1_4 : Bool) : Option (ByteArray × Int × Int × ByteArray × Bool) := (tidelineref03_Newer.f a1_0 a1_1 a1_2 a1_3 a1_4 a0_0 a0_1 a0_2 a0_3 a0_4).bind fun t193 => (if t193 = true then (some (a1_0, a1_1, a1_2, a1_3, a1_4)) else (some (a0_0, a0_1, a0_2, a0_3, a0_4)))
set_option maxHeartbeats 8000000 in
set_option maxRecDepth 100000 in
theorem tidelineref03_Best.calls (a0_0 : ByteArray) (a0_1 : Int) (a0_2 : Int) (a0_3 : ByteArray) (a0_4 : Bool) (a1_0 : ByteArray) (a1_1 : Int) (a1_2 : Int) (a1_3 : ByteArray) (a1_4 : Bool) (r1 : ByteArray) (r2 : Int) (r3 : Int) (r4 : ByteArray) (r5 : Bool) (w : World) (h : tidelineref03_Best.f a0_0 a0_1 a0_2 a0_3 a0_4 a1_0 a1_1 a1_2 a1_3 a1_4 = some (r1, r2, r3, r4, r5)) :
    Calls Try.prog 48 #[.agg #[.string a0_0, .int .i64 a0_1, .int .i64 a0_2, .string a0_3, .bool a0_4], .agg #[.string a1_0, .int .i64 a1_1, .int .i64 a1_2, .string a1_3, .bool a1_4]] w fun e w' => e = .returned (.agg #[.string r1, .int .i64 r2, .int .i64 r3, .string r4, .bool r5]) ∧ Below w.heap.size w w' := by
 have hu44:=Try.underlying44
 have HB:=Aside0.mk (Below.refl w.heap.size w)
 have H : ((tidelineref03_Newer.f a1_0 a1_1 a1_2 a1_3 a1_4 a0_0 a0_1 a0_2 a0_3 a0_4).bind fun t193 => (if t193 = true then (some (a1_0,a1_1,a1_2,a1_3,a1_4)) else (some (a0_0,a0_1,a0_2,a0_3,a0_4)))) = some (r1,r2,r3,r4,r5):=h
 clear h
 replace H:=Option.bind_eq_some_iff.mp H
 obtain ⟨t193,A30,H⟩:=H
 replace H : (if t193 = true then (some (a1_0,a1_1,a1_2,a1_3,a1_4)) else (some (a0_0,a0_1,a0_2,a0_3,a0_4))) = some (r1,r2,r3,r4,r5):=H
 have A3:=Aside0.mk A30
 clear A30
 by_cases c4 : t193 = true
 ·subst c4
  have H1 : (some (a1_0,a1_1,a1_2,a1_3,a1_4)) = some (r1,r2,r3,r4,r5):=by rw [if_pos rfl] at H;exact H
  clear H
  have H:=H1
  clear H1
  simp only [Option.some.injEq,Prod.mk.injEq] at H
  obtain ⟨rfl,rfl,rfl,rfl,rfl⟩:=H
  go_enter Try.func48,Try.ntmps48
  go_wp2_with (first|((with_reducible refine gate_dst (N:=2) rfl ?_);refine box_event ?hg (N:=2) ?hd (cs:=#[.string a0_0,.int .i64 a0_1,.int .i64 a0_2,.string a0_3,.bool a0_4]) (t:=44) ?hr ?_;(case hd => rfl);(case hg => rfl);(case hr => first|(go_simp;done)|(go_simp;rfl));intro gb190 hg w5 hbox hb;have n0_:=Aside0.mk (below_step (by repeat (first|(with_reducible first|exact HB.out|apply xA|apply xN|apply xD)|exact HB.out)) hb);have n1_:=Aside0.mk (hbox);have n2_:=Aside0.mk ((by rw [hg];exact (below_size (by repeat (first|(with_reducible first|exact HB.out|apply xA|apply xN|apply xD)|exact HB.out))) : w.heap.size ≤ gb190));have n3_:=Aside0.mk ((by rw [hg];exact (below_size (by repeat (first|(with_reducible first|exact HB.out|apply xA|apply xN|apply xD)|exact HB.out))) : w.heap.size ≤ gb190));clear HB;have HB:=n0_;have BK190:=n1_;have GW190:=n2_;have GE190:=n3_;clear n0_ n1_ n2_ n3_;clear hb hbox hg)|((with_reducible refine gate_dst (N:=3) rfl ?_);refine box_event ?hg (N:=3) ?hd (cs:=#[.string a1_0,.int .i64 a1_1,.int .i64 a1_2,.string a1_3,.bool a1_4]) (t:=44) ?hr ?_;(case hd => rfl);(case hg => rfl);(case hr => first|(go_simp;done)|(go_simp;rfl));intro gb191 hg w6 hbox hb;have n0_:=bk (by (with_reducible repeat first|apply bN|apply bD|apply bA);exact BK190.out) hb;have n1_:=Aside0.mk (below_step (by repeat (first|(with_reducible first|exact HB.out|apply xA|apply xN|apply xD|refine xS ?_ GE190.out)|exact HB.out)) hb);have n2_:=Aside0.mk (hbox);have n3_:=Aside0.mk ((by rw [hg];exact (below_size (by repeat (first|(with_reducible first|exact HB.out|apply xA|apply xN|apply xD|refine xS ?_ GE190.out)|exact HB.out))) : w.heap.size ≤ gb191));have n4_:=Aside0.mk ((by rw [hg];exact (below_size (by repeat (first|(with_reducible first|exact HB.out|apply xA|apply xN|apply xD|refine xS ?_ GE190.out)|exact HB.out))) : w.heap.size ≤ gb191));have n5_:=Aside0.mk ((by rw [hg];exact Nat.ne_of_lt (blk_lt (g:=gb190) (o:=.cells #[.string a0_0,.int .i64 a0_1,.int .i64 a0_2,.string a0_3,.bool a0_4] 44 (0,0)) (by (with_reducible repeat first|apply bN|apply bD|apply bA);exact BK190.out)) : gb190 ≠ gb191));have n6_:=Aside0.mk ((by rw [hg];exact Nat.ne_of_gt (blk_lt (g:=gb190) (o:=.cells #[.string a0_0,.int .i64 a0_1,.int .i64 a0_2,.string a0_3,.bool a0_4] 44 (0,0)) (by (with_reducible repeat first|apply bN|apply bD|apply bA);exact BK190.out)) : gb191 ≠ gb190));clear BK190;clear HB;have BK190:=n0_;have HB:=n1_;have BK191:=n2_;have GW191:=n3_;have GE191:=n4_;have NB190_191:=n5_;have NB191_190:=n6_;clear n0_ n1_ n2_ n3_ n4_ n5_ n6_;clear hb hbox hg)|((with_reducible refine gate_dst (N:=4) rfl ?_);refine box_event ?hg (N:=4) ?hd (cs:=#[.string (⟨#[]⟩ : ByteArray),.int .i64 0,.int .i64 0,.string (⟨#[]⟩ : ByteArray),.bool false]) (t:=44) ?hr ?_;(case hd => rfl);(case hg => rfl);(case hr => first|(go_simp;done)|(go_simp;rfl));intro gb192 hg w7 hbox hb;have n0_:=bk (by (with_reducible repeat first|apply bN|apply bD|apply bA);exact BK190.out) hb;have n1_:=bk (by (with_reducible repeat first|apply bN|apply bD|apply bA);exact BK191.out) hb;have n2_:=Aside0.mk (below_step (by repeat (first|(with_reducible first|exact HB.out|apply xA|apply xN|apply xD|refine xS ?_ GE190.out|refine xS ?_ GE191.out)|exact HB.out)) hb);have n3_:=Aside0.mk (hbox);have n4_:=Aside0.mk ((by rw [hg];exact (below_size (by repeat (first|(with_reducible first|exact HB.out|apply xA|apply xN|apply xD|refine xS ?_ GE190.out|refine xS ?_ GE191.out)|exact HB.out))) : w.heap.size ≤ gb192));have n5_:=Aside0.mk ((by rw [hg];exact (below_size (by repeat (first|(with_reducible first|exact HB.out|apply xA|apply xN|apply xD|refine xS ?_ GE190.out|refine xS ?_ GE191.out)|exact HB.out))) : w.heap.size ≤ gb192));have n6_:=Aside0.mk ((by rw [hg];exact Nat.ne_of_lt (blk_lt (g:=gb190) (o:=.cells #[.string a0_0,.int .i64 a0_1,.int .i64 a0_2,.string a0_3,.bool a0_4] 44 (0,0)) (by (with_reducible repeat first|apply bN|apply bD|apply bA);exact BK190.out)) : gb190 ≠ gb192));have n7_:=Aside0.mk ((by rw [hg];exact Nat.ne_of_gt (blk_lt (g:=gb190) (o:=.cells #[.string a0_0,.int .i64 a0_1,.int .i64 a0_2,.string a0_3,.bool a0_4] 44 (0,0)) (by (with_reducible repeat first|apply bN|apply bD|apply bA);exact BK190.out)) : gb192 ≠ gb190));have n8_:=Aside0.mk ((by rw [hg];exact Nat.ne_of_lt (blk_lt (g:=gb191) (o:=.cells #[.string a1_0,.int .i64 a1_1,.int .i64 a1_2,.string a1_3,.bool a1_4] 44 (0,0)) (by (with_reducible repeat first|apply bN|apply bD|apply bA);exact BK191.out)) : gb191 ≠ gb192));have n9_:=Aside0.mk ((by rw [hg];exact Nat.ne_of_gt (blk_lt (g:=gb191) (o:=.cells #[.string a1_0,.int .i64 a1_1,.int .i64 a1_2,.string a1_3,.bool a1_4] 44 (0,0)) (by (with_reducible repeat first|apply bN|apply bD|apply bA);exact BK191.out)) : gb192 ≠ gb191));clear BK190;clear BK191;clear HB;have BK190:=n0_;have BK191:=n1_;have HB:=n2_;have BK192:=n3_;have GW192:=n4_;have GE192:=n5_;have NB190_192:=n6_;have NB192_190:=n7_;have NB191_192:=n8_;have NB192_191:=n9_;clear n0_ n1_ n2_ n3_ n4_ n5_ n6_ n7_ n8_ n9_;clear hb hbox hg;have hnb8:=NB191_190.out;have hnc8:=NB190_191.out;have hnb9:=NB191_192.out;have hnc9:=NB192_191.out;have hcz10_0 : w7.cell? ⟨gb191,0,none⟩ = some (.string a1_0):=(blk_cell BK191.out 0).trans rfl;have hcz10_1 : w7.cell? ⟨gb191,1,none⟩ = some (.int .i64 a1_1):=(blk_cell BK191.out 1).trans rfl;have hcz10_2 : w7.cell? ⟨gb191,2,none⟩ = some (.int .i64 a1_2):=(blk_cell BK191.out 2).trans rfl;have hcz10_3 : w7.cell? ⟨gb191,3,none⟩ = some (.string a1_3):=(blk_cell BK191.out 3).trans rfl;have hcz10_4 : w7.cell? ⟨gb191,4,none⟩ = some (.bool a1_4):=(blk_cell BK191.out 4).trans rfl;obtain ⟨hfz10_0,hfz10_1,hfz10_2⟩:=f3 BK191.out;have hfz10_3:=blk_frozen BK191.out 3;have hfz10_4:=blk_frozen BK191.out 4;have hnb11:=NB190_192.out;have hnc11:=NB192_190.out;have hcz12_0 : w7.cell? ⟨gb190,0,none⟩ = some (.string a0_0):=(blk_cell BK190.out 0).trans rfl;have hcz12_1 : w7.cell? ⟨gb190,1,none⟩ = some (.int .i64 a0_1):=(blk_cell BK190.out 1).trans rfl;have hcz12_2 : w7.cell? ⟨gb190,2,none⟩ = some (.int .i64 a0_2):=(blk_cell BK190.out 2).trans rfl;have hcz12_3 : w7.cell? ⟨gb190,3,none⟩ = some (.string a0_3):=(blk_cell BK190.out 3).trans rfl;have hcz12_4 : w7.cell? ⟨gb190,4,none⟩ = some (.bool a0_4):=(blk_cell BK190.out 4).trans rfl;obtain ⟨hfz12_0,hfz12_1,hfz12_2⟩:=f3 BK190.out;have hfz12_3:=blk_frozen BK190.out 3;have hfz12_4:=blk_frozen BK190.out 4)|((with_reducible refine gate_callee (f:=49) rfl ?_);refine goesL_ (some 7) rfl rfl Try.func49 (by kernel_rfl) rfl #[.agg #[.string a1_0,.int .i64 a1_1,.int .i64 a1_2,.string a1_3,.bool a1_4],.agg #[.string a0_0,.int .i64 a0_1,.int .i64 a0_2,.string a0_3,.bool a0_4]] rfl (by (try simp only [List.map_toArray,List.map_cons,List.map_nil]);first|done|rfl|(simp only [List.length_drop,List.length_take];rfl)) ?_;(with_reducible refine (tidelineref03_Newer.calls a1_0 a1_1 a1_2 a1_3 a1_4 a0_0 a0_1 a0_2 a0_3 a0_4 true _ A3.out).mono ?_);rintro e w13 ⟨rfl,hb⟩;refine ⟨_,rfl,?_⟩;replace BK190:=bk (by (with_reducible repeat first|apply bN|apply bD|apply bA);exact BK190.out) hb;replace BK191:=bk (by (with_reducible repeat first|apply bN|apply bD|apply bA);exact BK191.out) hb;replace BK192:=Aside0.mk (blk_below (g:=gb192) (o:=.cells #[.string (⟨#[]⟩ : ByteArray),.int .i64 0,.int .i64 0,.string (⟨#[]⟩ : ByteArray),.bool false] 44 (0,0)) (by (with_reducible repeat first|apply bN|apply bD|apply bA);exact BK192.out) hb);replace HB:=Aside0.mk (below_step (by repeat (first|(with_reducible first|exact HB.out|apply xA|apply xN|apply xD|refine xS ?_ GE190.out|refine xS ?_ GE191.out|refine xS ?_ GE192.out)|exact HB.out)) hb);(try clear hb);(try clear hb2);(try clear hk);(try clear hi);have hcz14_0 : w13.cell? ⟨gb191,0,none⟩ = some (.string a1_0):=(blk_cell BK191.out 0).trans rfl;have hcz14_1 : w13.cell? ⟨gb191,1,none⟩ = some (.int .i64 a1_1):=(blk_cell BK191.out 1).trans rfl;have hcz14_2 : w13.cell? ⟨gb191,2,none⟩ = some (.int .i64 a1_2):=(blk_cell BK191.out 2).trans rfl;have hcz14_3 : w13.cell? ⟨gb191,3,none⟩ = some (.string a1_3):=(blk_cell BK191.out 3).trans rfl;have hcz14_4 : w13.cell? ⟨gb191,4,none⟩ = some (.bool a1_4):=(blk_cell BK191.out 4).trans rfl;obtain ⟨hfz14_0,hfz14_1,hfz14_2⟩:=f3 BK191.out;have hfz14_3:=blk_frozen BK191.out 3;have hfz14_4:=blk_frozen BK191.out 4;have hcz15_0 : w13.cell? ⟨gb192,0,none⟩ = some (.string (⟨#[]⟩ : ByteArray)):=(blk_cell BK192.out 0).trans rfl;have hcz15_1 : w13.cell? ⟨gb192,1,none⟩ = some (.int .i64 0):=(blk_cell BK192.out 1).trans rfl;have hcz15_2 : w13.cell? ⟨gb192,2,none⟩ = some (.int .i64 0):=(blk_cell BK192.out 2).trans rfl;have hcz15_3 : w13.cell? ⟨gb192,3,none⟩ = some (.string (⟨#[]⟩ : ByteArray)):=(blk_cell BK192.out 3).trans rfl;have hcz15_4 : w13.cell? ⟨gb192,4,none⟩ = some (.bool false):=(blk_cell BK192.out 4).trans rfl;obtain ⟨hfz15_0,hfz15_1,hfz15_2⟩:=f3 BK192.out;have hfz15_3:=blk_frozen BK192.out 3;have hfz15_4:=blk_frozen BK192.out 4))
  refine bodyPost_ret (results_cell_row rfl _ _ gb192 44 #[.string a1_0,.int .i64 a1_1,.int .i64 a1_2,.string a1_3,.bool a1_4] (0,0) _ rfl (by (with_reducible repeat first|apply bN|apply bD|apply bA);refine blk_put (cs:=#[.string a1_0,.int .i64 a1_1,.int .i64 a1_2,.string a1_3,.bool false]) ?_ 4 _ rfl;(with_reducible repeat first|apply bN|apply bD|apply bA);refine blk_put (cs:=#[.string a1_0,.int .i64 a1_1,.int .i64 a1_2,.string (⟨#[]⟩ : ByteArray),.bool false]) ?_ 3 _ rfl;(with_reducible repeat first|apply bN|apply bD|apply bA);refine blk_put (cs:=#[.string a1_0,.int .i64 a1_1,.int .i64 0,.string (⟨#[]⟩ : ByteArray),.bool false]) ?_ 2 _ rfl;(with_reducible repeat first|apply bN|apply bD|apply bA);refine blk_put (cs:=#[.string a1_0,.int .i64 0,.int .i64 0,.string (⟨#[]⟩ : ByteArray),.bool false]) ?_ 1 _ rfl;(with_reducible repeat first|apply bN|apply bD|apply bA);refine blk_put (cs:=#[.string (⟨#[]⟩ : ByteArray),.int .i64 0,.int .i64 0,.string (⟨#[]⟩ : ByteArray),.bool false]) ?_ 0 _ rfl;(with_reducible repeat first|apply bN|apply bD|apply bA);exact BK192.out) Try.underlying44 rfl (by kernel_rfl)) rfl ?_
  exact ⟨by first|rfl|(simp [errW_none,errW_some] <;> rfl)|(simp [*,errW_none,errW_some] <;> rfl),by repeat (first|(with_reducible first|exact HB.out|apply xA|apply xN|apply xD|refine xS ?_ GE190.out|refine xS ?_ GE191.out|refine xS ?_ GE192.out)|exact HB.out)⟩
 ·replace c4:=Bool.eq_false_iff.mpr c4
  subst c4
  have H1 : (some (a0_0,a0_1,a0_2,a0_3,a0_4)) = some (r1,r2,r3,r4,r5):=by rw [if_neg (show ¬ (false = true) by decide)] at H;exact H
  clear H
  have H:=H1
  clear H1
  simp only [Option.some.injEq,Prod.mk.injEq] at H
  obtain ⟨rfl,rfl,rfl,rfl,rfl⟩:=H
  go_enter Try.func48,Try.ntmps48
  go_wp2_with (first|((with_reducible refine gate_dst (N:=2) rfl ?_);refine box_event ?hg (N:=2) ?hd (cs:=#[.string a0_0,.int .i64 a0_1,.int .i64 a0_2,.string a0_3,.bool a0_4]) (t:=44) ?hr ?_;(case hd => rfl);(case hg => rfl);(case hr => first|(go_simp;done)|(go_simp;rfl));intro gb190 hg w16 hbox hb;have n0_:=Aside0.mk (below_step (by repeat (first|(with_reducible first|exact HB.out|apply xA|apply xN|apply xD)|exact HB.out)) hb);have n1_:=Aside0.mk (hbox);have n2_:=Aside0.mk ((by rw [hg];exact (below_size (by repeat (first|(with_reducible first|exact HB.out|apply xA|apply xN|apply xD)|exact HB.out))) : w.heap.size ≤ gb190));have n3_:=Aside0.mk ((by rw [hg];exact (below_size (by repeat (first|(with_reducible first|exact HB.out|apply xA|apply xN|apply xD)|exact HB.out))) : w.heap.size ≤ gb190));clear HB;have HB:=n0_;have BK190:=n1_;have GW190:=n2_;have GE190:=n3_;clear n0_ n1_ n2_ n3_;clear hb hbox hg)|((with_reducible refine gate_dst (N:=3) rfl ?_);refine box_event ?hg (N:=3) ?hd (cs:=#[.string a1_0,.int .i64 a1_1,.int .i64 a1_2,.string a1_3,.bool a1_4]) (t:=44) ?hr ?_;(case hd => rfl);(case hg => rfl);(case hr => first|(go_simp;done)|(go_simp;rfl));intro gb191 hg w17 hbox hb;have n0_:=bk (by (with_reducible repeat first|apply bN|apply bD|apply bA);exact BK190.out) hb;have n1_:=Aside0.mk (below_step (by repeat (first|(with_reducible first|exact HB.out|apply xA|apply xN|apply xD|refine xS ?_ GE190.out)|exact HB.out)) hb);have n2_:=Aside0.mk (hbox);have n3_:=Aside0.mk ((by rw [hg];exact (below_size (by repeat (first|(with_reducible first|exact HB.out|apply xA|apply xN|apply xD|refine xS ?_ GE190.out)|exact HB.out))) : w.heap.size ≤ gb191));have n4_:=Aside0.mk ((by rw [hg];exact (below_size (by repeat (first|(with_reducible first|exact HB.out|apply xA|apply xN|apply xD|refine xS ?_ GE190.out)|exact HB.out))) : w.heap.size ≤ gb191));have n5_:=Aside0.mk ((by rw [hg];exact Nat.ne_of_lt (blk_lt (g:=gb190) (o:=.cells #[.string a0_0,.int .i64 a0_1,.int .i64 a0_2,.string a0_3,.bool a0_4] 44 (0,0)) (by (with_reducible repeat first|apply bN|apply bD|apply bA);exact BK190.out)) : gb190 ≠ gb191));have n6_:=Aside0.mk ((by rw [hg];exact Nat.ne_of_gt (blk_lt (g:=gb190) (o:=.cells #[.string a0_0,.int .i64 a0_1,.int .i64 a0_2,.string a0_3,.bool a0_4] 44 (0,0)) (by (with_reducible repeat first|apply bN|apply bD|apply bA);exact BK190.out)) : gb191 ≠ gb190));clear BK190;clear HB;have BK190:=n0_;have HB:=n1_;have BK191:=n2_;have GW191:=n3_;have GE191:=n4_;have NB190_191:=n5_;have NB191_190:=n6_;clear n0_ n1_ n2_ n3_ n4_ n5_ n6_;clear hb hbox hg)|((with_reducible refine gate_dst (N:=4) rfl ?_);refine box_event ?hg (N:=4) ?hd (cs:=#[.string (⟨#[]⟩ : ByteArray),.int .i64 0,.int .i64 0,.string (⟨#[]⟩ : ByteArray),.bool false]) (t:=44) ?hr ?_;(case hd => rfl);(case hg => rfl);(case hr => first|(go_simp;done)|(go_simp;rfl));intro gb192 hg w18 hbox hb;have n0_:=bk (by (with_reducible repeat first|apply bN|apply bD|apply bA);exact BK190.out) hb;have n1_:=bk (by (with_reducible repeat first|apply bN|apply bD|apply bA);exact BK191.out) hb;have n2_:=Aside0.mk (below_step (by repeat (first|(with_reducible first|exact HB.out|apply xA|apply xN|apply xD|refine xS ?_ GE190.out|refine xS ?_ GE191.out)|exact HB.out)) hb);have n3_:=Aside0.mk (hbox);have n4_:=Aside0.mk ((by rw [hg];exact (below_size (by repeat (first|(with_reducible first|exact HB.out|apply xA|apply xN|apply xD|refine xS ?_ GE190.out|refine xS ?_ GE191.out)|exact HB.out))) : w.heap.size ≤ gb192));have n5_:=Aside0.mk ((by rw [hg];exact (below_size (by repeat (first|(with_reducible first|exact HB.out|apply xA|apply xN|apply xD|refine xS ?_ GE190.out|refine xS ?_ GE191.out)|exact HB.out))) : w.heap.size ≤ gb192));have n6_:=Aside0.mk ((by rw [hg];exact Nat.ne_of_lt (blk_lt (g:=gb190) (o:=.cells #[.string a0_0,.int .i64 a0_1,.int .i64 a0_2,.string a0_3,.bool a0_4] 44 (0,0)) (by (with_reducible repeat first|apply bN|apply bD|apply bA);exact BK190.out)) : gb190 ≠ gb192));have n7_:=Aside0.mk ((by rw [hg];exact Nat.ne_of_gt (blk_lt (g:=gb190) (o:=.cells #[.string a0_0,.int .i64 a0_1,.int .i64 a0_2,.string a0_3,.bool a0_4] 44 (0,0)) (by (with_reducible repeat first|apply bN|apply bD|apply bA);exact BK190.out)) : gb192 ≠ gb190));have n8_:=Aside0.mk ((by rw [hg];exact Nat.ne_of_lt (blk_lt (g:=gb191) (o:=.cells #[.string a1_0,.int .i64 a1_1,.int .i64 a1_2,.string a1_3,.bool a1_4] 44 (0,0)) (by (with_reducible repeat first|apply bN|apply bD|apply bA);exact BK191.out)) : gb191 ≠ gb192));have n9_:=Aside0.mk ((by rw [hg];exact Nat.ne_of_gt (blk_lt (g:=gb191) (o:=.cells #[.string a1_0,.int .i64 a1_1,.int .i64 a1_2,.string a1_3,.bool a1_4] 44 (0,0)) (by (with_reducible repeat first|apply bN|apply bD|apply bA);exact BK191.out)) : gb192 ≠ gb191));clear BK190;clear BK191;clear HB;have BK190:=n0_;have BK191:=n1_;have HB:=n2_;have BK192:=n3_;have GW192:=n4_;have GE192:=n5_;have NB190_192:=n6_;have NB192_190:=n7_;have NB191_192:=n8_;have NB192_191:=n9_;clear n0_ n1_ n2_ n3_ n4_ n5_ n6_ n7_ n8_ n9_;clear hb hbox hg;have hnb19:=NB191_190.out;have hnc19:=NB190_191.out;have hnb20:=NB191_192.out;have hnc20:=NB192_191.out;have hcz21_0 : w18.cell? ⟨gb191,0,none⟩ = some (.string a1_0):=(blk_cell BK191.out 0).trans rfl;have hcz21_1 : w18.cell? ⟨gb191,1,none⟩ = some (.int .i64 a1_1):=(blk_cell BK191.out 1).trans rfl;have hcz21_2 : w18.cell? ⟨gb191,2,none⟩ = some (.int .i64 a1_2):=(blk_cell BK191.out 2).trans rfl;have hcz21_3 : w18.cell? ⟨gb191,3,none⟩ = some (.string a1_3):=(blk_cell BK191.out 3).trans rfl;have hcz21_4 : w18.cell? ⟨gb191,4,none⟩ = some (.bool a1_4):=(blk_cell BK191.out 4).trans rfl;obtain ⟨hfz21_0,hfz21_1,hfz21_2⟩:=f3 BK191.out;have hfz21_3:=blk_frozen BK191.out 3;have hfz21_4:=blk_frozen BK191.out 4;have hnb22:=NB190_192.out;have hnc22:=NB192_190.out;have hcz23_0 : w18.cell? ⟨gb190,0,none⟩ = some (.string a0_0):=(blk_cell BK190.out 0).trans rfl;have hcz23_1 : w18.cell? ⟨gb190,1,none⟩ = some (.int .i64 a0_1):=(blk_cell BK190.out 1).trans rfl;have hcz23_2 : w18.cell? ⟨gb190,2,none⟩ = some (.int .i64 a0_2):=(blk_cell BK190.out 2).trans rfl;have hcz23_3 : w18.cell? ⟨gb190,3,none⟩ = some (.string a0_3):=(blk_cell BK190.out 3).trans rfl;have hcz23_4 : w18.cell? ⟨gb190,4,none⟩ = some (.bool a0_4):=(blk_cell BK190.out 4).trans rfl;obtain ⟨hfz23_0,hfz23_1,hfz23_2⟩:=f3 BK190.out;have hfz23_3:=blk_frozen BK190.out 3;have hfz23_4:=blk_frozen BK190.out 4)|((with_reducible refine gate_callee (f:=49) rfl ?_);refine goesL_ (some 7) rfl rfl Try.func49 (by kernel_rfl) rfl #[.agg #[.string a1_0,.int .i64 a1_1,.int .i64 a1_2,.string a1_3,.bool a1_4],.agg #[.string a0_0,.int .i64 a0_1,.int .i64 a0_2,.string a0_3,.bool a0_4]] rfl (by (try simp only [List.map_toArray,List.map_cons,List.map_nil]);first|done|rfl|(simp only [List.length_drop,List.length_take];rfl)) ?_;(with_reducible refine (tidelineref03_Newer.calls a1_0 a1_1 a1_2 a1_3 a1_4 a0_0 a0_1 a0_2 a0_3 a0_4 false _ A3.out).mono ?_);rintro e w24 ⟨rfl,hb⟩;refine ⟨_,rfl,?_⟩;replace BK190:=bk (by (with_reducible repeat first|apply bN|apply bD|apply bA);exact BK190.out) hb;replace BK191:=bk (by (with_reducible repeat first|apply bN|apply bD|apply bA);exact BK191.out) hb;replace BK192:=Aside0.mk (blk_below (g:=gb192) (o:=.cells #[.string (⟨#[]⟩ : ByteArray),.int .i64 0,.int .i64 0,.string (⟨#[]⟩ : ByteArray),.bool false] 44 (0,0)) (by (with_reducible repeat first|apply bN|apply bD|apply bA);exact BK192.out) hb);replace HB:=Aside0.mk (below_step (by repeat (first|(with_reducible first|exact HB.out|apply xA|apply xN|apply xD|refine xS ?_ GE190.out|refine xS ?_ GE191.out|refine xS ?_ GE192.out)|exact HB.out)) hb);(try clear hb);(try clear hb2);(try clear hk);(try clear hi);have hcz25_0 : w24.cell? ⟨gb190,0,none⟩ = some (.string a0_0):=(blk_cell BK190.out 0).trans rfl;have hcz25_1 : w24.cell? ⟨gb190,1,none⟩ = some (.int .i64 a0_1):=(blk_cell BK190.out 1).trans rfl;have hcz25_2 : w24.cell? ⟨gb190,2,none⟩ = some (.int .i64 a0_2):=(blk_cell BK190.out 2).trans rfl;have hcz25_3 : w24.cell? ⟨gb190,3,none⟩ = some (.string a0_3):=(blk_cell BK190.out 3).trans rfl;have hcz25_4 : w24.cell? ⟨gb190,4,none⟩ = some (.bool a0_4):=(blk_cell BK190.out 4).trans rfl;obtain ⟨hfz25_0,hfz25_1,hfz25_2⟩:=f3 BK190.out;have hfz25_3:=blk_frozen BK190.out 3;have hfz25_4:=blk_frozen BK190.out 4;have hcz26_0 : w24.cell? ⟨gb192,0,none⟩ = some (.string (⟨#[]⟩ : ByteArray)):=(blk_cell BK192.out 0).trans rfl;have hcz26_1 : w24.cell? ⟨gb192,1,none⟩ = some (.int .i64 0):=(blk_cell BK192.out 1).trans rfl;have hcz26_2 : w24.cell? ⟨gb192,2,none⟩ = some (.int .i64 0):=(blk_cell BK192.out 2).trans rfl;have hcz26_3 : w24.cell? ⟨gb192,3,none⟩ = some (.string (⟨#[]⟩ : ByteArray)):=(blk_cell BK192.out 3).trans rfl;have hcz26_4 : w24.cell? ⟨gb192,4,none⟩ = some (.bool false):=(blk_cell BK192.out 4).trans rfl;obtain ⟨hfz26_0,hfz26_1,hfz26_2⟩:=f3 BK192.out;have hfz26_3:=blk_frozen BK192.out 3;have hfz26_4:=blk_frozen BK192.out 4))
  refine bodyPost_ret (results_cell_row rfl _ _ gb192 44 #[.string a0_0,.int .i64 a0_1,.int .i64 a0_2,.string a0_3,.bool a0_4] (0,0) _ rfl (by (with_reducible repeat first|apply bN|apply bD|apply bA);refine blk_put (cs:=#[.string a0_0,.int .i64 a0_1,.int .i64 a0_2,.string a0_3,.bool false]) ?_ 4 _ rfl;(with_reducible repeat first|apply bN|apply bD|apply bA);refine blk_put (cs:=#[.string a0_0,.int .i64 a0_1,.int .i64 a0_2,.string (⟨#[]⟩ : ByteArray),.bool false]) ?_ 3 _ rfl;(with_reducible repeat first|apply bN|apply bD|apply bA);refine blk_put (cs:=#[.string a0_0,.int .i64 a0_1,.int .i64 0,.string (⟨#[]⟩ : ByteArray),.bool false]) ?_ 2 _ rfl;(with_reducible repeat first|apply bN|apply bD|apply bA);refine blk_put (cs:=#[.string a0_0,.int .i64 0,.int .i64 0,.string (⟨#[]⟩ : ByteArray),.bool false]) ?_ 1 _ rfl;(with_reducible repeat first|apply bN|apply bD|apply bA);refine blk_put (cs:=#[.string (⟨#[]⟩ : ByteArray),.int .i64 0,.int .i64 0,.string (⟨#[]⟩ : ByteArray),.bool false]) ?_ 0 _ rfl;(with_reducible repeat first|apply bN|apply bD|apply bA);exact BK192.out) Try.underlying44 rfl (by kernel_rfl)) rfl ?_
  exact ⟨by first|rfl|(simp [errW_none,errW_some] <;> rfl)|(simp [*,errW_none,errW_some] <;> rfl),by repeat (first|(with_reducible first|exact HB.out|apply xA|apply xN|apply xD|refine xS ?_ GE190.out|refine xS ?_ GE191.out|refine xS ?_ GE192.out)|exact HB.out)⟩

/-! ### tidelineref09_Max: function 29 -/
def tidelineref09_Max.l0 : Nat → List (S46) → List (S44) → Int → Option ((List (S44)) × Int)
  | 0, _, _, _ => none
  | k + 1, x7, x8, x9 => if x9 < (x7.length : Int) then (if 0 ≤ x9 then ((tidelineref09_none.f ((rd_T46 x7 x9).f0.f0) ((rd_T46 x7 x9).f0.f1.f0) ((rd_T46 x7 x9).f0.f1.f1) ((rd_T46 x7 x9).f0.f2) ((rd_T46 x7 x9).f0.f3)).bind fun t202 => (if t202 = true then (if x8.length < 2513169434916 then (tidelineref09_Max.l0 k x7 (x8 ++ [(⟨(rd_T46 x7 x9).f1.f0, (⟨(rd_T46 x7 x9).f1.f1.f0, (rd_T46 x7 x9).f1.f1.f1⟩ : S42), (rd_T46 x7 x9).f1.f2, (rd_T46 x7 x9).f1.f3⟩ : S44)]) (wrap64 (x9 + 1))) else (none)) else ((tidelineref03_Best.f ((rd_T46 x7 x9).f0.f0) ((rd_T46 x7 x9).f0.f1.f0) ((rd_T46 x7 x9).f0.f1.f1) ((rd_T46 x7 x9).f0.f2) ((rd_T46 x7 x9).f0.f3) ((rd_T46 x7 x9).f1.f0) ((rd_T46 x7 x9).f1.f1.f0) ((rd_T46 x7 x9).f1.f1.f1) ((rd_T46 x7 x9).f1.f2) ((rd_T46 x7 x9).f1.f3)).bind fun bt209 => (if x8.length < 2513169434916 then (tidelineref09_Max.l0 k x7 (x8 ++ [(⟨bt209.1, (⟨bt209.2.1, bt209.2.2.1⟩ : S42), bt209.2.2.2.1, bt209.2.2.2.2⟩ : S44)]) (wrap64 (x9 + 1))) else (none))))) else (none)) else (some (x8, 0))
def tidelineref09_Max.f (k : Nat) (l0 : List (S44)) (l1 : List (S44)) : Option ((List (S44)) × Int) := (tidelineref09_check.f k l0 l1).bind fun t194 => (if t194 = 0 then ((tidelineref09_Pairs.f k l0 l1).bind fun t195 => (tidelineref09_Max.l0 k t195 (([] : List (S44))) 0)) else (some (([] : List (S44)), t194)))
theorem tidelineref09_Max.mono_l : ∀ k, (∀ y0 y1 y2, LeO (tidelineref09_Max.l0 k y0 y1 y2) (tidelineref09_Max.l0 (k + 1) y0 y1 y2))
  | 0 => fun _ _ _ r h => by simp [tidelineref09_Max.l0] at h
  | k + 1 => by
    have ih0 := tidelineref09_Max.mono_l k
    · intro y0 y1 y2
      unfold tidelineref09_Max.l0
      repeat' first
      | (with_reducible exact ih0 _ _ _)
      | (with_reducible exact tidelineref09_Pairs.mono _ _ _)
      | (with_reducible exact tidelineref09_check.mono _ _ _)
      | (with_reducible exact LeO.refl _)
      | (with_reducible exact LeO.none _)
      | (with_reducible refine LeO.ite ?_ ?_)
      | (with_reducible refine LeO.bind ?_ (fun _ => ?_))
      | exact ih0 _ _ _
      | exact tidelineref09_Pairs.mono _ _ _
      | exact tidelineref09_check.mono _ _ _
      | exact LeO.none _
      | refine LeO.ite ?_ ?_
      | refine LeO.bind ?_ (fun _ => ?_)
theorem tidelineref09_Max.mono : ∀ a0 a1 k, LeO (tidelineref09_Max.f k a0 a1) (tidelineref09_Max.f (k + 1) a0 a1) := by
  intro a0 a1 k
  have ih0 := tidelineref09_Max.mono_l k
  unfold tidelineref09_Max.f
  repeat' first
      | (with_reducible exact ih0 _ _ _)
      | (with_reducible exact tidelineref09_Pairs.mono _ _ _)
      | (with_reducible exact tidelineref09_check.mono _ _ _)
      | (with_reducible exact LeO.refl _)
      | (with_reducible exact LeO.none _)
      | (with_reducible refine LeO.ite ?_ ?_)
      | (with_reducible refine LeO.bind ?_ (fun _ => ?_))
      | exact ih0 _ _ _
      | exact tidelineref09_Pairs.mono _ _ _
      | exact tidelineref09_check.mono _ _ _
      | exact LeO.none _
      | refine LeO.ite ?_ ?_
      | refine LeO.bind ?_ (fun _ => ?_)
def tidelineref09_Max.T11 : Bool × List (List Nat × List Nat) := (true, [([], []), ([], []), ([], []), ([1, 2], [1, 2]), ([3], [3]), ([4], [4]), ([], []), ([], []), ([6, 7], [6, 7]), ([8], [8]), ([9], [9]), ([5, 10], [5, 10]), ([11], [11]), ([0, 12, 11], [0, 12]), ([13, 13, 0, 1, 2, 3, 4, 5, 6, 7, 8, 9, 10, 11, 12, 13], [0, 13])])
def tidelineref09_Max.B11 : List Nat := [0, 0, 0, 6, 14, 30, 0, 0, 192, 448, 960, 2046, 4094, 8191, 16383]
theorem tidelineref09_Max.tab11 : rtab .any (opsOf Try.f29 11) = tidelineref09_Max.T11 := by kernel_rfl
theorem tidelineref09_Max.bits11 : waitsOk tidelineref09_Max.T11.2 tidelineref09_Max.B11 = true := by kernel_rfl
set_option maxHeartbeats 8000000 in
set_option maxRecDepth 100000 in
theorem tidelineref09_Max.calls (k : Nat) (A0 : Option Addr) (c0 : Nat) (l0 : List (S44)) (A1 : Option Addr) (c1 : Nat) (l1 : List (S44)) (r1 : List (S44)) (r2 : Int) (w : World) (hr0 : Kd.C k44 w A0 l0.length l0) (hc0 : l0.length ≤ c0) (hr1 : Kd.C k44 w A1 l1.length l1) (hc1 : l1.length ≤ c1) (h : tidelineref09_Max.f k l0 l1 = some (r1, r2)) :
    Calls Try.prog 29 #[.slice A0 l0.length c0, .slice A1 l1.length c1] w fun e w' => ∃ v0_ : Value, e = .returned (.tuple #[v0_, .int .i64 r2]) ∧ Kd.R k44 44 w' w.heap.size (fun _ => True) v0_ r1 ∧ Below w.heap.size w w' := by
 have hu44:=Try.underlying44
 have HR0:=Aside0.mk hr0
 have HC0:=Aside0.mk hc0
 clear hr0 hc0
 have HR1:=Aside0.mk hr1
 have HC1:=Aside0.mk hc1
 clear hr1 hc1
 have HB:=Aside0.mk (Below.refl w.heap.size w)
 have H : ((tidelineref09_check.f k l0 l1).bind fun t194 => (if t194 = 0 then ((tidelineref09_Pairs.f k l0 l1).bind fun t195 => (tidelineref09_Max.l0 k t195 (([] : List (S44))) 0)) else (some (([] : List (S44)),t194)))) = some (r1,r2):=h
 clear h
 replace H:=Option.bind_eq_some_iff.mp H
 obtain ⟨t194,A30,H⟩:=H
 replace H : (if t194 = 0 then ((tidelineref09_Pairs.f k l0 l1).bind fun t195 => (tidelineref09_Max.l0 k t195 (([] : List (S44))) 0)) else (some (([] : List (S44)),t194))) = some (r1,r2):=H
 have A3:=Aside0.mk A30
 clear A30
 by_cases c4 : t194 = 0
 ·rw [if_pos c4] at H
  have c4b0 : (t194 == 0) = true:=beq_iff_eq.mpr c4
  have c4b1 : (t194 != 0) = false:=bne_eq_false_iff_eq.mpr c4
  clear c4
  replace H:=Option.bind_eq_some_iff.mp H
  obtain ⟨t195,A50,H⟩:=H
  replace H : (tidelineref09_Max.l0 k t195 (([] : List (S44))) 0) = some (r1,r2):=H
  have A5:=Aside0.mk A50
  clear A50
  obtain ⟨y198,hy198⟩ : ∃ y_ : List (S44),y_ = (([] : List (S44))):=⟨_,rfl⟩
  replace H : (tidelineref09_Max.l0 k t195 y198 0) = some (r1,r2):=by first|(rw [hy198];with_reducible exact H)|(have H2_:=(Option.bind_some _ _).symm.trans H;rw [hy198];with_reducible exact H2_)|(have H2_:=(Option.bind_some _ _).symm.trans H;with_reducible exact H2_)|with_reducible exact H|(rw [hy198];exact H)|exact H
  have Ny198:=Aside0.mk hy198
  clear hy198
  have H':=Aside0.mk H
  clear H
  go_enter Try.func29,Try.ntmps29
  go_wp2_with (first|((with_reducible refine gate_callee (f:=40) rfl ?_);refine goesL_ (some 12) rfl rfl Try.func40 (by kernel_rfl) rfl #[.slice A0 l0.length c0,.slice A1 l1.length c1] rfl (by (try simp only [List.map_toArray,List.map_cons,List.map_nil]);first|done|rfl|(simp only [List.length_drop,List.length_take];rfl)) ?_;(with_reducible refine (tidelineref09_check.calls k _ _ l0 _ _ l1 t194 _ ?side1 ?side2 ?side3 ?side4 A3.out).mono ?_);(case side1 => repeat (first|exact HR0.out|(with_reducible refine Kd.C_alloc ?_ _)|(with_reducible refine Kd.C_drewN ?_ _)|(with_reducible refine Kd.C_drew ?_)));(case side2 => exact HC0.out);(case side3 => repeat (first|exact HR1.out|(with_reducible refine Kd.C_alloc ?_ _)|(with_reducible refine Kd.C_drewN ?_ _)|(with_reducible refine Kd.C_drew ?_)));(case side4 => exact HC1.out);rintro e w6 ⟨rfl,hb⟩;refine ⟨_,rfl,?_⟩;replace HB:=Aside0.mk (below_step (by repeat (first|(with_reducible first|exact HB.out|apply xA|apply xN|apply xD)|exact HB.out)) hb);(try clear hb);(try clear hb2);(try clear hk);(try clear hi))|((with_reducible refine gate_callee (f:=22) rfl ?_);refine goesL_ (some 18) rfl rfl Try.func22 (by kernel_rfl) rfl #[.slice A0 l0.length c0,.slice A1 l1.length c1] rfl (by (try simp only [List.map_toArray,List.map_cons,List.map_nil]);first|done|rfl|(simp only [List.length_drop,List.length_take];rfl)) ?_;(with_reducible refine (tidelineref09_Pairs.calls k _ _ l0 _ _ l1 t195 _ ?side1 ?side2 ?side3 ?side4 A5.out).mono ?_);(case side1 => repeat (first|exact (Kd.C_below HR0.out HB.out)|(with_reducible refine Kd.C_alloc ?_ _)|(with_reducible refine Kd.C_drewN ?_ _)|(with_reducible refine Kd.C_drew ?_)));(case side2 => exact HC0.out);(case side3 => repeat (first|exact (Kd.C_below HR1.out HB.out)|(with_reducible refine Kd.C_alloc ?_ _)|(with_reducible refine Kd.C_drewN ?_ _)|(with_reducible refine Kd.C_drew ?_)));(case side4 => exact HC1.out);rintro e w7 ⟨v196,rfl,ho0,hb⟩;refine ⟨_,rfl,?_⟩;have n0_:=Aside0.mk (Kd.R_lower ho0 (below_size (by repeat (first|(with_reducible first|exact HB.out|apply xA|apply xN|apply xD)|exact HB.out))));have n1_:=Aside0.mk (below_step (by repeat (first|(with_reducible first|exact HB.out|apply xA|apply xN|apply xD)|exact HB.out)) hb);clear HB;have HO197:=n0_;have HB:=n1_;clear n0_ n1_;(try clear hb);(try clear hb2);(try clear hk);(try clear hi);(try clear ho0))|((with_reducible refine gate_dst (N:=19) rfl ?_);refine Kd.R_lit k44 _ 44 ?hg (N:=19) ?hd (xs:=([] : List (S44))) (inner:=[]) (ok:=fun _ => True) (okp:=fun _ => True) ?hr ?hp (fun _ hk => hk) trivial (Below.refl _ _) (Nat.le_refl _) (by simp) ?_;(case hd => rfl);(case hg => rfl);(case hr => first|(go_simp;done)|(go_simp;rfl));(case hp => exact (Reps.none _ _));intro v199 w8 ho9 hb hg_ hnew_;clear hg_ hnew_;(first|rw [← Ny198.out] at ho9|(simp only [Int.reduceToNat] at ho9;rw [← Ny198.out] at ho9));have n0_:=Aside0.mk (Kd.R_below (by (with_reducible repeat (first|apply Kd.R_alloc|apply Kd.R_drewN|apply Kd.R_drew));exact HO197.out) hb);have n1_:=Aside0.mk (Kd.R_lower ho9 (below_size (by repeat (first|(with_reducible first|exact HB.out|apply xA|apply xN|apply xD)|exact HB.out))));have n2_:=Aside0.mk (below_step (by repeat (first|(with_reducible first|exact HB.out|apply xA|apply xN|apply xD)|exact HB.out)) hb);clear HO197;clear HB;have HO197:=n0_;have HO200:=n1_;have HB:=n2_;clear n0_ n1_ n2_;clear hb ho9))
  go_loopg [8,9] k (fun kq v8 v9 w' => ∃ (x8_1 : List (S44)) (x9_1 : Int),v9 = .int .i64 x9_1 ∧ Aside0 (tidelineref09_Max.l0 kq t195 x8_1 x9_1 = some (r1,r2)) ∧ Aside0 (kq ≤ k) ∧ Aside0 (Kd.R k46 46 w' w.heap.size (fun _ => True) v196 t195) ∧ Aside0 (Kd.R k44 44 w' w.heap.size (fun _ => True) v8 x8_1) ∧ Aside0 (Below w.heap.size w w'))
  case atStart => exact ⟨(y198),(0),(by first|rfl|(simp;done)|(simp [*];done)|(simp [*,Go.Proofs.Ytghlellambnkeaa.Str.bne_nil];done)),H',⟨Nat.le_refl _⟩,⟨by (with_reducible repeat (first|apply Kd.R_alloc|apply Kd.R_drewN|apply Kd.R_drew));exact HO197.out⟩,⟨by (with_reducible repeat (first|apply Kd.R_alloc|apply Kd.R_drewN|apply Kd.R_drew));exact HO200.out⟩,⟨by repeat (first|(with_reducible first|exact HB.out|apply xA|apply xN|apply xD)|exact HB.out)⟩⟩
  case round =>
   clear H'
   try clear c1
   try clear c2
   try clear p2
   try clear c4
   try clear c4b0
   try clear c4b1
   obtain ⟨x8_1,x9_1,rfl,HA,HK1,HO_7,HO_8,HB⟩:=hrel
   cases gk with
  |zero => exact absurd HA.out (by simp [tidelineref09_Max.l0])
  |succ k1 =>
    have H:=HA.out
    clear HA
    simp only [tidelineref09_Max.l0] at H
    by_cases c10 : x9_1 < (t195.length : Int)
    ·rw [if_pos c10] at H
     have c10b0 : decide (x9_1 < (t195.length : Int)) = true:=decide_eq_true c10
     clear c10
     by_cases c11 : 0 ≤ x9_1
     ·rw [if_pos c11] at H
      have c11b0 : decide (0 ≤ x9_1) = true:=decide_eq_true c11
      clear c11
      replace H:=Option.bind_eq_some_iff.mp H
      obtain ⟨t202,A120,H⟩:=H
      replace H : (if t202 = true then (if x8_1.length < 2513169434916 then (tidelineref09_Max.l0 k1 t195 (x8_1 ++ [(⟨(rd_T46 t195 x9_1).f1.f0,(⟨(rd_T46 t195 x9_1).f1.f1.f0,(rd_T46 t195 x9_1).f1.f1.f1⟩ : S42),(rd_T46 t195 x9_1).f1.f2,(rd_T46 t195 x9_1).f1.f3⟩ : S44)]) (wrap64 (x9_1 + 1))) else (none)) else ((tidelineref03_Best.f ((rd_T46 t195 x9_1).f0.f0) ((rd_T46 t195 x9_1).f0.f1.f0) ((rd_T46 t195 x9_1).f0.f1.f1) ((rd_T46 t195 x9_1).f0.f2) ((rd_T46 t195 x9_1).f0.f3) ((rd_T46 t195 x9_1).f1.f0) ((rd_T46 t195 x9_1).f1.f1.f0) ((rd_T46 t195 x9_1).f1.f1.f1) ((rd_T46 t195 x9_1).f1.f2) ((rd_T46 t195 x9_1).f1.f3)).bind fun bt209 => (if x8_1.length < 2513169434916 then (tidelineref09_Max.l0 k1 t195 (x8_1 ++ [(⟨bt209.1,(⟨bt209.2.1,bt209.2.2.1⟩ : S42),bt209.2.2.2.1,bt209.2.2.2.2⟩ : S44)]) (wrap64 (x9_1 + 1))) else (none)))) = some (r1,r2):=H
      have A12:=Aside0.mk A120
      clear A120
      by_cases c13 : t202 = true
      ·subst c13
       have H1 : (if x8_1.length < 2513169434916 then (tidelineref09_Max.l0 k1 t195 (x8_1 ++ [(⟨(rd_T46 t195 x9_1).f1.f0,(⟨(rd_T46 t195 x9_1).f1.f1.f0,(rd_T46 t195 x9_1).f1.f1.f1⟩ : S42),(rd_T46 t195 x9_1).f1.f2,(rd_T46 t195 x9_1).f1.f3⟩ : S44)]) (wrap64 (x9_1 + 1))) else (none)) = some (r1,r2):=by rw [if_pos rfl] at H;exact H
       clear H
       have H:=H1
       clear H1
       by_cases c14 : x8_1.length < 2513169434916
       ·rw [if_pos c14] at H
        have LMc14:=Aside0.mk c14
        clear c14
        obtain ⟨y204,hy204⟩ : ∃ y_ : List (S44),y_ = (x8_1 ++ [(⟨(rd_T46 t195 x9_1).f1.f0,(⟨(rd_T46 t195 x9_1).f1.f1.f0,(rd_T46 t195 x9_1).f1.f1.f1⟩ : S42),(rd_T46 t195 x9_1).f1.f2,(rd_T46 t195 x9_1).f1.f3⟩ : S44)]):=⟨_,rfl⟩
        replace H : (tidelineref09_Max.l0 k1 t195 y204 (wrap64 (x9_1 + 1))) = some (r1,r2):=by first|(rw [hy204];with_reducible exact H)|(have H2_:=(Option.bind_some _ _).symm.trans H;rw [hy204];with_reducible exact H2_)|(have H2_:=(Option.bind_some _ _).symm.trans H;with_reducible exact H2_)|with_reducible exact H|(rw [hy204];exact H)|exact H
        have Ny204:=Aside0.mk hy204
        clear hy204
        have H':=Aside0.mk H
        clear H
        obtain ⟨Ao15,co15,eo15⟩:=Kd.R_slice HO_7.out
        subst eo15
        have p201 : 0 ≤ (x9_1 : Int):=of_decide_eq_true (by first|(with_reducible assumption)|assumption)
        have q201 : x9_1 < (t195.length : Int):=of_decide_eq_true (by first|(with_reducible assumption)|assumption)
        obtain ⟨ad201,e201,hx201_0,hx201_1,hx201_2,hx201_3,hx201_4,hx201_5,hx201_6,hx201_7,hx201_8,hx201_9⟩:=at_T46 (Kd.R_reads' HO_7.out).2.2 x9_1 p201 q201
        cases e201
        replace p201:=eq_true p201
        replace q201:=eq_true q201
        go_wp2_with (first|((with_reducible refine gate_callee (f:=47) rfl ?_);refine goesL_ (some 31) rfl rfl Try.func47 (by kernel_rfl) rfl #[.agg #[.string ((rd_T46 t195 x9_1).f0.f0),.int .i64 ((rd_T46 t195 x9_1).f0.f1.f0),.int .i64 ((rd_T46 t195 x9_1).f0.f1.f1),.string ((rd_T46 t195 x9_1).f0.f2),.bool ((rd_T46 t195 x9_1).f0.f3)]] rfl (by (try simp only [List.map_toArray,List.map_cons,List.map_nil]);first|done|rfl|(simp only [List.length_drop,List.length_take];rfl)) ?_;(with_reducible refine (tidelineref09_none.calls ((rd_T46 t195 x9_1).f0.f0) ((rd_T46 t195 x9_1).f0.f1.f0) ((rd_T46 t195 x9_1).f0.f1.f1) ((rd_T46 t195 x9_1).f0.f2) ((rd_T46 t195 x9_1).f0.f3) true _ A12.out).mono ?_);rintro e w16 ⟨rfl,hb⟩;refine ⟨_,rfl,?_⟩;replace HO_7:=Aside0.mk (Kd.R_below (by (with_reducible repeat (first|apply Kd.R_alloc|apply Kd.R_drewN|apply Kd.R_drew));exact HO_7.out) hb);replace HO_8:=Aside0.mk (Kd.R_below (by (with_reducible repeat (first|apply Kd.R_alloc|apply Kd.R_drewN|apply Kd.R_drew));exact HO_8.out) hb);replace HB:=Aside0.mk (below_step (by repeat (first|(with_reducible first|exact HB.out|apply xA|apply xN|apply xD)|exact HB.out)) hb);(try clear hb);(try clear hb2);(try clear hk);(try clear hi);have p203 : 0 ≤ (x9_1 : Int):=of_decide_eq_true (by first|(with_reducible assumption)|assumption);have q203 : x9_1 < (t195.length : Int):=of_decide_eq_true (by first|(with_reducible assumption)|assumption);obtain ⟨ad203,e203,hx203_0,hx203_1,hx203_2,hx203_3,hx203_4,hx203_5,hx203_6,hx203_7,hx203_8,hx203_9⟩:=at_T46 (Kd.R_reads' HO_7.out).2.2 x9_1 p203 q203;obtain rfl : ad201 = ad203:=(by injection e203);replace p203:=eq_true p203;replace q203:=eq_true q203)|((with_reducible refine gate_builtin (b:=.append) (xs:=#[.tmp 32,.tmp 38]) rfl ?_);at_builtin;refine Kd.R_append k44 (w0:=w) w.heap.size rfl (.tmp 32) (.tmp 38) 22 44 (.agg #[(.string ⟨#[]⟩),(.int .i64 0),(.int .i64 0),(.string ⟨#[]⟩),(.bool false)]) 56 rfl Try.underlying22 info44 rfl (by decide) (by omega) u8 x8_1 (⟨(rd_T46 t195 x9_1).f1.f0,(⟨(rd_T46 t195 x9_1).f1.f1.f0,(rd_T46 t195 x9_1).f1.f1.f1⟩ : S42),(rd_T46 t195 x9_1).f1.f2,(rd_T46 t195 x9_1).f1.f3⟩ : S44) [.string ((rd_T46 t195 x9_1).f1.f0),.int .i64 ((rd_T46 t195 x9_1).f1.f1.f0),.int .i64 ((rd_T46 t195 x9_1).f1.f1.f1),.string ((rd_T46 t195 x9_1).f1.f2),.bool ((rd_T46 t195 x9_1).f1.f3)] (fun _ => True) (fun _ => False) rfl rfl ?aP (fun _ hk => hk.elim) ?aF ?aO ?aB ?aS ?aL ?_;(case aP => exact k44_mkM _ _ _ (⟨(rd_T46 t195 x9_1).f1.f0,(⟨(rd_T46 t195 x9_1).f1.f1.f0,(rd_T46 t195 x9_1).f1.f1.f1⟩ : S42),(rd_T46 t195 x9_1).f1.f2,(rd_T46 t195 x9_1).f1.f3⟩ : S44));(case aB => exact (by repeat (first|(with_reducible first|exact HB.out|apply xA|apply xN|apply xD)|exact HB.out)));(case aF => exact (fun _ _ => trivial));(case aO => exact (by (with_reducible repeat (first|apply Kd.R_alloc|apply Kd.R_drewN|apply Kd.R_drew));exact HO_8.out));(case aS => exact (below_size (by repeat (first|(with_reducible first|exact HB.out|apply xA|apply xN|apply xD)|exact HB.out))));(case aL => have:=LMc14.out;omega);intro v205 w17 ho hb hg hat;rw [← Ny204.out] at ho;have n0_:=Aside0.mk (Kd.R_over' (by (with_reducible repeat (first|apply Kd.R_alloc|apply Kd.R_drewN|apply Kd.R_drew));exact HO_7.out) (Kd.R_typed (by (with_reducible repeat (first|apply Kd.R_alloc|apply Kd.R_drewN|apply Kd.R_drew));exact HO_8.out)) (by decide) hg);have n1_:=Aside0.mk (hb);have n2_:=Aside0.mk (ho);clear HO_7;clear HB;clear HO_8;have HO_7:=n0_;have HB:=n1_;have HO206:=n2_;clear n0_ n1_ n2_;clear ho hb hg hat))
        go_roundg k1
        case measure => have:=HK1.out;omega
        case rel => exact ⟨(y204),(wrap64 (x9_1 + 1)),(by first|rfl|(simp;done)|(simp [*];done)|(simp [*,Go.Proofs.Ytghlellambnkeaa.Str.bne_nil];done)),H',⟨by have:=HK1.out;omega⟩,⟨by (with_reducible repeat (first|apply Kd.R_alloc|apply Kd.R_drewN|apply Kd.R_drew));exact HO_7.out⟩,⟨by (with_reducible repeat (first|apply Kd.R_alloc|apply Kd.R_drewN|apply Kd.R_drew));exact HO206.out⟩,⟨by repeat (first|(with_reducible first|exact HB.out|apply xA|apply xN|apply xD)|exact HB.out)⟩⟩
       ·rw [if_neg c14] at H
        exact absurd H (by simp)
      ·replace c13:=Bool.eq_false_iff.mpr c13
       subst c13
       have H1 : ((tidelineref03_Best.f ((rd_T46 t195 x9_1).f0.f0) ((rd_T46 t195 x9_1).f0.f1.f0) ((rd_T46 t195 x9_1).f0.f1.f1) ((rd_T46 t195 x9_1).f0.f2) ((rd_T46 t195 x9_1).f0.f3) ((rd_T46 t195 x9_1).f1.f0) ((rd_T46 t195 x9_1).f1.f1.f0) ((rd_T46 t195 x9_1).f1.f1.f1) ((rd_T46 t195 x9_1).f1.f2) ((rd_T46 t195 x9_1).f1.f3)).bind fun bt209 => (if x8_1.length < 2513169434916 then (tidelineref09_Max.l0 k1 t195 (x8_1 ++ [(⟨bt209.1,(⟨bt209.2.1,bt209.2.2.1⟩ : S42),bt209.2.2.2.1,bt209.2.2.2.2⟩ : S44)]) (wrap64 (x9_1 + 1))) else (none))) = some (r1,r2):=by rw [if_neg (show ¬ (false = true) by decide)] at H;exact H
       clear H
       have H:=H1
       clear H1
       replace H:=Option.bind_eq_some_iff.mp H
       obtain ⟨⟨t209,t210,t211,t212,t213⟩,A180,H⟩:=H
       replace H : (if x8_1.length < 2513169434916 then (tidelineref09_Max.l0 k1 t195 (x8_1 ++ [(⟨t209,(⟨t210,t211⟩ : S42),t212,t213⟩ : S44)]) (wrap64 (x9_1 + 1))) else (none)) = some (r1,r2):=H
       have A18:=Aside0.mk A180
       clear A180
       by_cases c19 : x8_1.length < 2513169434916
       ·rw [if_pos c19] at H
        have LMc19:=Aside0.mk c19
        clear c19
        obtain ⟨y214,hy214⟩ : ∃ y_ : List (S44),y_ = (x8_1 ++ [(⟨t209,(⟨t210,t211⟩ : S42),t212,t213⟩ : S44)]):=⟨_,rfl⟩
        replace H : (tidelineref09_Max.l0 k1 t195 y214 (wrap64 (x9_1 + 1))) = some (r1,r2):=by first|(rw [hy214];with_reducible exact H)|(have H2_:=(Option.bind_some _ _).symm.trans H;rw [hy214];with_reducible exact H2_)|(have H2_:=(Option.bind_some _ _).symm.trans H;with_reducible exact H2_)|with_reducible exact H|(rw [hy214];exact H)|exact H
        have Ny214:=Aside0.mk hy214
        clear hy214
        have H':=Aside0.mk H
        clear H
        obtain ⟨Ao20,co20,eo20⟩:=Kd.R_slice HO_7.out
        subst eo20
        have p201 : 0 ≤ (x9_1 : Int):=of_decide_eq_true (by first|(with_reducible assumption)|assumption)
        have q201 : x9_1 < (t195.length : Int):=of_decide_eq_true (by first|(with_reducible assumption)|assumption)
        obtain ⟨ad201,e201,hx201_0,hx201_1,hx201_2,hx201_3,hx201_4,hx201_5,hx201_6,hx201_7,hx201_8,hx201_9⟩:=at_T46 (Kd.R_reads' HO_7.out).2.2 x9_1 p201 q201
        cases e201
        replace p201:=eq_true p201
        replace q201:=eq_true q201
        try go_wp2_with (first|((with_reducible refine gate_callee (f:=47) rfl ?_);refine goesL_ (some 31) rfl rfl Try.func47 (by kernel_rfl) rfl #[.agg #[.string ((rd_T46 t195 x9_1).f0.f0),.int .i64 ((rd_T46 t195 x9_1).f0.f1.f0),.int .i64 ((rd_T46 t195 x9_1).f0.f1.f1),.string ((rd_T46 t195 x9_1).f0.f2),.bool ((rd_T46 t195 x9_1).f0.f3)]] rfl (by (try simp only [List.map_toArray,List.map_cons,List.map_nil]);first|done|rfl|(simp only [List.length_drop,List.length_take];rfl)) ?_;(with_reducible refine (tidelineref09_none.calls ((rd_T46 t195 x9_1).f0.f0) ((rd_T46 t195 x9_1).f0.f1.f0) ((rd_T46 t195 x9_1).f0.f1.f1) ((rd_T46 t195 x9_1).f0.f2) ((rd_T46 t195 x9_1).f0.f3) false _ A12.out).mono ?_);rintro e w21 ⟨rfl,hb⟩;refine ⟨_,rfl,?_⟩;replace HO_7:=Aside0.mk (Kd.R_below (by (with_reducible repeat (first|apply Kd.R_alloc|apply Kd.R_drewN|apply Kd.R_drew));exact HO_7.out) hb);replace HO_8:=Aside0.mk (Kd.R_below (by (with_reducible repeat (first|apply Kd.R_alloc|apply Kd.R_drewN|apply Kd.R_drew));exact HO_8.out) hb);replace HB:=Aside0.mk (below_step (by repeat (first|(with_reducible first|exact HB.out|apply xA|apply xN|apply xD)|exact HB.out)) hb);(try clear hb);(try clear hb2);(try clear hk);(try clear hi)))
        replace HO_7:=Aside0.mk (Kd.R_drew HO_7.out)
        replace HO_8:=Aside0.mk (Kd.R_drew HO_8.out)
        replace HB:=Aside0.mk (below_drew1 HB.out)
        have p207 : 0 ≤ (x9_1 : Int):=of_decide_eq_true (by first|(with_reducible assumption)|assumption)
        have q207 : x9_1 < (t195.length : Int):=of_decide_eq_true (by first|(with_reducible assumption)|assumption)
        obtain ⟨ad207,e207,hx207_0,hx207_1,hx207_2,hx207_3,hx207_4,hx207_5,hx207_6,hx207_7,hx207_8,hx207_9⟩:=at_T46 (Kd.R_reads' HO_7.out).2.2 x9_1 p207 q207
        obtain rfl : ad201 = ad207:=(by injection e207)
        replace p207:=eq_true p207
        replace q207:=eq_true q207
        have p208 : 0 ≤ (x9_1 : Int):=of_decide_eq_true (by first|(with_reducible assumption)|assumption)
        have q208 : x9_1 < (t195.length : Int):=of_decide_eq_true (by first|(with_reducible assumption)|assumption)
        obtain ⟨ad208,e208,hx208_0,hx208_1,hx208_2,hx208_3,hx208_4,hx208_5,hx208_6,hx208_7,hx208_8,hx208_9⟩:=at_T46 (Kd.R_reads' HO_7.out).2.2 x9_1 p208 q208
        obtain rfl : ad201 = ad208:=(by injection e208)
        replace p208:=eq_true p208
        replace q208:=eq_true q208
        refine start_ (n:=15) (S:=fun w' => w'.cell? (ad201.add ((x9_1).toNat * 10)) = some (.string ((rd_T46 t195 x9_1).f0.f0)) ∧ w'.cell? ⟨(ad201.add ((x9_1).toNat * 10)).block,(ad201.add ((x9_1).toNat * 10)).off + 1,none⟩ = some (.int .i64 ((rd_T46 t195 x9_1).f0.f1.f0)) ∧ w'.cell? ⟨(ad201.add ((x9_1).toNat * 10)).block,(ad201.add ((x9_1).toNat * 10)).off + 2,none⟩ = some (.int .i64 ((rd_T46 t195 x9_1).f0.f1.f1)) ∧ w'.cell? ⟨(ad201.add ((x9_1).toNat * 10)).block,(ad201.add ((x9_1).toNat * 10)).off + 3,none⟩ = some (.string ((rd_T46 t195 x9_1).f0.f2)) ∧ w'.cell? ⟨(ad201.add ((x9_1).toNat * 10)).block,(ad201.add ((x9_1).toNat * 10)).off + 4,none⟩ = some (.bool ((rd_T46 t195 x9_1).f0.f3)) ∧ w'.cell? ⟨(ad201.add ((x9_1).toNat * 10)).block,(ad201.add ((x9_1).toNat * 10)).off + 5,none⟩ = some (.string ((rd_T46 t195 x9_1).f1.f0)) ∧ w'.cell? ⟨(ad201.add ((x9_1).toNat * 10)).block,(ad201.add ((x9_1).toNat * 10)).off + 6,none⟩ = some (.int .i64 ((rd_T46 t195 x9_1).f1.f1.f0)) ∧ w'.cell? ⟨(ad201.add ((x9_1).toNat * 10)).block,(ad201.add ((x9_1).toNat * 10)).off + 7,none⟩ = some (.int .i64 ((rd_T46 t195 x9_1).f1.f1.f1)) ∧ w'.cell? ⟨(ad201.add ((x9_1).toNat * 10)).block,(ad201.add ((x9_1).toNat * 10)).off + 8,none⟩ = some (.string ((rd_T46 t195 x9_1).f1.f2)) ∧ w'.cell? ⟨(ad201.add ((x9_1).toNat * 10)).block,(ad201.add ((x9_1).toNat * 10)).off + 9,none⟩ = some (.bool ((rd_T46 t195 x9_1).f1.f3)) ∧ w'.cell? (ad201.add ((x9_1).toNat * 10)) = some (.string ((rd_T46 t195 x9_1).f0.f0)) ∧ w'.cell? ⟨(ad201.add ((x9_1).toNat * 10)).block,(ad201.add ((x9_1).toNat * 10)).off + 1,none⟩ = some (.int .i64 ((rd_T46 t195 x9_1).f0.f1.f0)) ∧ w'.cell? ⟨(ad201.add ((x9_1).toNat * 10)).block,(ad201.add ((x9_1).toNat * 10)).off + 2,none⟩ = some (.int .i64 ((rd_T46 t195 x9_1).f0.f1.f1)) ∧ w'.cell? ⟨(ad201.add ((x9_1).toNat * 10)).block,(ad201.add ((x9_1).toNat * 10)).off + 3,none⟩ = some (.string ((rd_T46 t195 x9_1).f0.f2)) ∧ w'.cell? ⟨(ad201.add ((x9_1).toNat * 10)).block,(ad201.add ((x9_1).toNat * 10)).off + 4,none⟩ = some (.bool ((rd_T46 t195 x9_1).f0.f3)) ∧ w'.cell? ⟨(ad201.add ((x9_1).toNat * 10)).block,(ad201.add ((x9_1).toNat * 10)).off + 5,none⟩ = some (.string ((rd_T46 t195 x9_1).f1.f0)) ∧ w'.cell? ⟨(ad201.add ((x9_1).toNat * 10)).block,(ad201.add ((x9_1).toNat * 10)).off + 6,none⟩ = some (.int .i64 ((rd_T46 t195 x9_1).f1.f1.f0)) ∧ w'.cell? ⟨(ad201.add ((x9_1).toNat * 10)).block,(ad201.add ((x9_1).toNat * 10)).off + 7,none⟩ = some (.int .i64 ((rd_T46 t195 x9_1).f1.f1.f1)) ∧ w'.cell? ⟨(ad201.add ((x9_1).toNat * 10)).block,(ad201.add ((x9_1).toNat * 10)).off + 8,none⟩ = some (.string ((rd_T46 t195 x9_1).f1.f2)) ∧ w'.cell? ⟨(ad201.add ((x9_1).toNat * 10)).block,(ad201.add ((x9_1).toNat * 10)).off + 9,none⟩ = some (.bool ((rd_T46 t195 x9_1).f1.f3))) (ds:=[12,13]) #[false,false,false,false,false,false,false,false,false,false,false,false,false,false,false] (by kernel_rfl) rfl rfl ⟨hx207_0,hx207_1,hx207_2,hx207_3,hx207_4,hx207_5,hx207_6,hx207_7,hx207_8,hx207_9,hx208_0,hx208_1,hx208_2,hx208_3,hx208_4,hx208_5,hx208_6,hx208_7,hx208_8,hx208_9⟩ (fun hHeld => ?_);refine with_tabW tidelineref09_Max.tab11 tidelineref09_Max.bits11 (fun HT_ HW_ => ?_)
        generalize w21.drew = w22 at HO_7 HO_8 HB hx207_0 hx207_1 hx207_2 hx207_3 hx207_4 hx207_5 hx207_6 hx207_7 hx207_8 hx207_9 hx208_0 hx208_1 hx208_2 hx208_3 hx208_4 hx208_5 hx208_6 hx208_7 hx208_8 hx208_9 hHeld ⊢
        refine pure_ (i:=0) (N:=some 40) (v:=?_) (a':=?_) #[true,false,false,false,false,false,false,false,false,false,false,false,false,false,false] rfl rfl (any_of HT_.out (by kernel_rfl)) (fun _ _ _ h => h) (Or.inl ⟨by rfl,?_⟩) ?_ ?_
        rotate_left
        ·intro w'
         go_simp
         with_reducible rfl
        rotate_left
        ·simp only [Act.put,List.setIfInBounds_toArray,List.set_cons_zero,List.set_cons_succ,i64_w,i32_w]
         rfl
        refine pure_ (i:=1) (N:=some 41) (v:=?_) (a':=?_) #[true,true,false,false,false,false,false,false,false,false,false,false,false,false,false] rfl rfl (any_of HT_.out (by kernel_rfl)) (fun _ _ _ h => h) (Or.inl ⟨by rfl,?_⟩) ?_ ?_
        rotate_left
        ·intro w'
         go_simp
         with_reducible rfl
        rotate_left
        ·simp only [Act.put,List.setIfInBounds_toArray,List.set_cons_zero,List.set_cons_succ,i64_w,i32_w]
         rfl
        refine pure_ (i:=2) (N:=some 42) (v:=?_) (a':=?_) #[true,true,true,false,false,false,false,false,false,false,false,false,false,false,false] rfl rfl (any_of HT_.out (by kernel_rfl)) (fun _ _ _ h => h) (Or.inl ⟨by rfl,?_⟩) ?_ ?_
        rotate_left
        ·intro w'
         go_simp
         with_reducible rfl
        rotate_left
        ·simp only [Act.put,List.setIfInBounds_toArray,List.set_cons_zero,List.set_cons_succ,i64_w,i32_w]
         rfl
        refine pure_ (i:=3) (N:=some 43) (v:=?_) (a':=?_) #[true,true,true,true,false,false,false,false,false,false,false,false,false,false,false] rfl rfl (any_of HT_.out (by kernel_rfl)) (fun _ _ _ h => h) (Or.inl ⟨by rfl,?_⟩) ?_ ?_
        rotate_left
        ·intro w'
         go_simp
         with_reducible rfl
        rotate_left
        ·simp only [Act.put,List.setIfInBounds_toArray,List.set_cons_zero,List.set_cons_succ,i64_w,i32_w]
         rfl
        refine pure_ (i:=4) (N:=some 44) (v:=?_) (a':=?_) #[true,true,true,true,true,false,false,false,false,false,false,false,false,false,false] rfl rfl (any_of HT_.out (by kernel_rfl)) (fun _ _ _ h => h) (Or.inl ⟨by rfl,?_⟩) ?_ ?_
        rotate_left
        ·intro w'
         go_simp
         with_reducible rfl
        rotate_left
        ·simp only [Act.put,List.setIfInBounds_toArray,List.set_cons_zero,List.set_cons_succ,i64_w,i32_w]
         rfl
        refine pure_ (i:=6) (N:=some 46) (v:=?_) (a':=?_) #[true,true,true,true,true,false,true,false,false,false,false,false,false,false,false] rfl rfl (any_of HT_.out (by kernel_rfl)) (fun _ _ _ h => h) (Or.inl ⟨by rfl,?_⟩) ?_ ?_
        rotate_left
        ·intro w'
         go_simp
         with_reducible rfl
        rotate_left
        ·simp only [Act.put,List.setIfInBounds_toArray,List.set_cons_zero,List.set_cons_succ,i64_w,i32_w]
         rfl
        refine pure_ (i:=7) (N:=some 47) (v:=?_) (a':=?_) #[true,true,true,true,true,false,true,true,false,false,false,false,false,false,false] rfl rfl (any_of HT_.out (by kernel_rfl)) (fun _ _ _ h => h) (Or.inl ⟨by rfl,?_⟩) ?_ ?_
        rotate_left
        ·intro w'
         go_simp
         with_reducible rfl
        rotate_left
        ·simp only [Act.put,List.setIfInBounds_toArray,List.set_cons_zero,List.set_cons_succ,i64_w,i32_w]
         rfl
        refine pure_ (i:=8) (N:=some 48) (v:=?_) (a':=?_) #[true,true,true,true,true,false,true,true,true,false,false,false,false,false,false] rfl rfl (any_of HT_.out (by kernel_rfl)) (fun _ _ _ h => h) (Or.inl ⟨by rfl,?_⟩) ?_ ?_
        rotate_left
        ·intro w'
         go_simp
         with_reducible rfl
        rotate_left
        ·simp only [Act.put,List.setIfInBounds_toArray,List.set_cons_zero,List.set_cons_succ,i64_w,i32_w]
         rfl
        refine pure_ (i:=9) (N:=some 49) (v:=?_) (a':=?_) #[true,true,true,true,true,false,true,true,true,true,false,false,false,false,false] rfl rfl (any_of HT_.out (by kernel_rfl)) (fun _ _ _ h => h) (Or.inl ⟨by rfl,?_⟩) ?_ ?_
        rotate_left
        ·intro w'
         go_simp
         with_reducible rfl
        rotate_left
        ·simp only [Act.put,List.setIfInBounds_toArray,List.set_cons_zero,List.set_cons_succ,i64_w,i32_w]
         rfl
        refine take_ (i:=5) (N:=some 45) (v:=?_) (a':=?_) #[true,true,true,true,true,true,true,true,true,true,false,false,false,false,false] rfl rfl (take_ofW HT_.out HW_.out (by kernel_rfl)) (fun _ _ _ h => h) (Or.inl ⟨by rfl,?_⟩) hHeld ?_ ?_
        rotate_left
        ·rintro w' ⟨s0,s1,s2,s3,s4,s5,s6,s7,s8,s9,s10,s11,s12,s13,s14,s15,s16,s17,s18,s19⟩
         go_simp
         with_reducible rfl
        rotate_left
        ·simp only [Act.put,List.setIfInBounds_toArray,List.set_cons_zero,List.set_cons_succ,i64_w,i32_w]
         rfl
        refine take_ (i:=10) (N:=some 50) (v:=?_) (a':=?_) #[true,true,true,true,true,true,true,true,true,true,true,false,false,false,false] rfl rfl (take_ofW HT_.out HW_.out (by kernel_rfl)) (fun _ _ _ h => h) (Or.inl ⟨by rfl,?_⟩) hHeld ?_ ?_
        rotate_left
        ·rintro w' ⟨s0,s1,s2,s3,s4,s5,s6,s7,s8,s9,s10,s11,s12,s13,s14,s15,s16,s17,s18,s19⟩
         go_simp
         with_reducible rfl
        rotate_left
        ·simp only [Act.put,List.setIfInBounds_toArray,List.set_cons_zero,List.set_cons_succ,i64_w,i32_w]
         rfl
        refine one_ (i:=11) (N:=some 51) #[true,true,true,true,true,true,true,true,true,true,true,true,false,false,false] rfl rfl (one_of HT_.out (by kernel_rfl)) (by decide) (fun K hK => ?_)
        refine goes_ Try.func48 (by kernel_rfl) rfl #[.agg #[.string ((rd_T46 t195 x9_1).f0.f0),.int .i64 ((rd_T46 t195 x9_1).f0.f1.f0),.int .i64 ((rd_T46 t195 x9_1).f0.f1.f1),.string ((rd_T46 t195 x9_1).f0.f2),.bool ((rd_T46 t195 x9_1).f0.f3)],.agg #[.string ((rd_T46 t195 x9_1).f1.f0),.int .i64 ((rd_T46 t195 x9_1).f1.f1.f0),.int .i64 ((rd_T46 t195 x9_1).f1.f1.f1),.string ((rd_T46 t195 x9_1).f1.f2),.bool ((rd_T46 t195 x9_1).f1.f3)]] (by rfl) rfl rfl (by (try simp only [List.map_toArray,List.map_cons,List.map_nil]);first|done|rfl|(simp only [List.length_drop,List.length_take];rfl)) ?_
        with_reducible refine (tidelineref03_Best.calls ((rd_T46 t195 x9_1).f0.f0) ((rd_T46 t195 x9_1).f0.f1.f0) ((rd_T46 t195 x9_1).f0.f1.f1) ((rd_T46 t195 x9_1).f0.f2) ((rd_T46 t195 x9_1).f0.f3) ((rd_T46 t195 x9_1).f1.f0) ((rd_T46 t195 x9_1).f1.f1.f0) ((rd_T46 t195 x9_1).f1.f1.f1) ((rd_T46 t195 x9_1).f1.f2) ((rd_T46 t195 x9_1).f1.f3) t209 t210 t211 t212 t213 _ A18.out).mono ?_
        rintro e w23 ⟨rfl,hb⟩
        have HS0_:=(hb.cell (World.block_lt_of_cell? _ _ (hHeld.1))).trans (hHeld.1)
        have HS1_:=(hb.cell (World.block_lt_of_cell? _ _ (hHeld.2.1))).trans (hHeld.2.1)
        have HS2_:=(hb.cell (World.block_lt_of_cell? _ _ (hHeld.2.2.1))).trans (hHeld.2.2.1)
        have HS3_:=(hb.cell (World.block_lt_of_cell? _ _ (hHeld.2.2.2.1))).trans (hHeld.2.2.2.1)
        have HS4_:=(hb.cell (World.block_lt_of_cell? _ _ (hHeld.2.2.2.2.1))).trans (hHeld.2.2.2.2.1)
        have HS5_:=(hb.cell (World.block_lt_of_cell? _ _ (hHeld.2.2.2.2.2.1))).trans (hHeld.2.2.2.2.2.1)
        have HS6_:=(hb.cell (World.block_lt_of_cell? _ _ (hHeld.2.2.2.2.2.2.1))).trans (hHeld.2.2.2.2.2.2.1)
        have HS7_:=(hb.cell (World.block_lt_of_cell? _ _ (hHeld.2.2.2.2.2.2.2.1))).trans (hHeld.2.2.2.2.2.2.2.1)
        have HS8_:=(hb.cell (World.block_lt_of_cell? _ _ (hHeld.2.2.2.2.2.2.2.2.1))).trans (hHeld.2.2.2.2.2.2.2.2.1)
        have HS9_:=(hb.cell (World.block_lt_of_cell? _ _ (hHeld.2.2.2.2.2.2.2.2.2.1))).trans (hHeld.2.2.2.2.2.2.2.2.2.1)
        have HS10_:=(hb.cell (World.block_lt_of_cell? _ _ (hHeld.2.2.2.2.2.2.2.2.2.2.1))).trans (hHeld.2.2.2.2.2.2.2.2.2.2.1)
        have HS11_:=(hb.cell (World.block_lt_of_cell? _ _ (hHeld.2.2.2.2.2.2.2.2.2.2.2.1))).trans (hHeld.2.2.2.2.2.2.2.2.2.2.2.1)
        have HS12_:=(hb.cell (World.block_lt_of_cell? _ _ (hHeld.2.2.2.2.2.2.2.2.2.2.2.2.1))).trans (hHeld.2.2.2.2.2.2.2.2.2.2.2.2.1)
        have HS13_:=(hb.cell (World.block_lt_of_cell? _ _ (hHeld.2.2.2.2.2.2.2.2.2.2.2.2.2.1))).trans (hHeld.2.2.2.2.2.2.2.2.2.2.2.2.2.1)
        have HS14_:=(hb.cell (World.block_lt_of_cell? _ _ (hHeld.2.2.2.2.2.2.2.2.2.2.2.2.2.2.1))).trans (hHeld.2.2.2.2.2.2.2.2.2.2.2.2.2.2.1)
        have HS15_:=(hb.cell (World.block_lt_of_cell? _ _ (hHeld.2.2.2.2.2.2.2.2.2.2.2.2.2.2.2.1))).trans (hHeld.2.2.2.2.2.2.2.2.2.2.2.2.2.2.2.1)
        have HS16_:=(hb.cell (World.block_lt_of_cell? _ _ (hHeld.2.2.2.2.2.2.2.2.2.2.2.2.2.2.2.2.1))).trans (hHeld.2.2.2.2.2.2.2.2.2.2.2.2.2.2.2.2.1)
        have HS17_:=(hb.cell (World.block_lt_of_cell? _ _ (hHeld.2.2.2.2.2.2.2.2.2.2.2.2.2.2.2.2.2.1))).trans (hHeld.2.2.2.2.2.2.2.2.2.2.2.2.2.2.2.2.2.1)
        have HS18_:=(hb.cell (World.block_lt_of_cell? _ _ (hHeld.2.2.2.2.2.2.2.2.2.2.2.2.2.2.2.2.2.2.1))).trans (hHeld.2.2.2.2.2.2.2.2.2.2.2.2.2.2.2.2.2.2.1)
        have HS19_:=(hb.cell (World.block_lt_of_cell? _ _ (hHeld.2.2.2.2.2.2.2.2.2.2.2.2.2.2.2.2.2.2.2))).trans (hHeld.2.2.2.2.2.2.2.2.2.2.2.2.2.2.2.2.2.2.2)
        refine ⟨_,rfl,?_⟩
        replace HO_7:=Aside0.mk (Kd.R_below (by (with_reducible repeat (first|apply Kd.R_alloc|apply Kd.R_drewN|apply Kd.R_drew));exact HO_7.out) hb)
        replace HO_8:=Aside0.mk (Kd.R_below (by (with_reducible repeat (first|apply Kd.R_alloc|apply Kd.R_drewN|apply Kd.R_drew));exact HO_8.out) hb)
        replace HB:=Aside0.mk (below_step (by repeat (first|(with_reducible first|exact HB.out|apply xA|apply xN|apply xD)|exact HB.out)) hb)
        (try clear hb)
        (try clear hb2)
        (try clear hk)
        (try clear hi)
        refine hK.out _ _ ⟨HS0_,HS1_,HS2_,HS3_,HS4_,HS5_,HS6_,HS7_,HS8_,HS9_,HS10_,HS11_,HS12_,HS13_,HS14_,HS15_,HS16_,HS17_,HS18_,HS19_⟩ (fun hHeld => ?_)
        clear hK K
        refine norm_ (a':=?_) ?_ ?_
        rotate_left
        ·show Act.put _ (some 51) _ = _
         simp only [Act.put,List.setIfInBounds_toArray,List.set_cons_zero,List.set_cons_succ,i64_w,i32_w]
         rfl
        refine last_ (i:=12) (N:=some 52) #[true,true,true,true,true,true,true,true,true,true,true,true,true,false,false] rfl rfl (one_of HT_.out (by kernel_rfl)) (by decide) (fun K hK => ?_)
        refine value_ (w1:=?_) (v:=?_) (by rfl) rfl ?_ ?_
        rotate_left 2
        ·go_simp
         constructor
         ·rfl
         ·rfl
        refine hK.out _ _ ?_
        clear hK K
        refine norm_ (a':=?_) ?_ ?_
        rotate_left
        ·show Act.put _ (some 52) _ = _
         simp only [Act.put,List.setIfInBounds_toArray,List.set_cons_zero,List.set_cons_succ,i64_w,i32_w]
         rfl
        refine last_ (i:=13) (N:=some 53) #[true,true,true,true,true,true,true,true,true,true,true,true,true,true,false] rfl rfl (one_of HT_.out (by kernel_rfl)) (by decide) (fun K hK => ?_)
        refine Kd.R_append_step k44 (w0:=w) w.heap.size (by rfl) (.tmp 40) (.tmp 52) 22 44 (.agg #[(.string ⟨#[]⟩),(.int .i64 0),(.int .i64 0),(.string ⟨#[]⟩),(.bool false)]) 56 rfl Try.underlying22 info44 rfl (by decide) (by omega) u8 x8_1 (⟨t209,(⟨t210,t211⟩ : S42),t212,t213⟩ : S44) [.string t209,.int .i64 t210,.int .i64 t211,.string t212,.bool t213] (fun _ => True) (fun _ => False) rfl rfl ?aP (fun _ hk => hk.elim) ?aF ?aO ?aB ?aS ?aL ?_
        (case aP => exact k44_mkM _ _ _ (⟨t209,(⟨t210,t211⟩ : S42),t212,t213⟩ : S44))
        (case aB => exact (by repeat (first|(with_reducible first|exact HB.out|apply xA|apply xN|apply xD)|exact HB.out)))
        (case aF => exact (fun _ _ => trivial))
        (case aO => exact (by (with_reducible repeat (first|apply Kd.R_alloc|apply Kd.R_drewN|apply Kd.R_drew));exact HO_8.out))
        (case aS => exact (below_size (by repeat (first|(with_reducible first|exact HB.out|apply xA|apply xN|apply xD)|exact HB.out))))
        (case aL => have:=LMc19.out;omega)
        intro v215 w24 ho hb hg hat
        rw [← Ny214.out] at ho
        have n0_:=Aside0.mk (Kd.R_over' (by (with_reducible repeat (first|apply Kd.R_alloc|apply Kd.R_drewN|apply Kd.R_drew));exact HO_7.out) (Kd.R_typed (by (with_reducible repeat (first|apply Kd.R_alloc|apply Kd.R_drewN|apply Kd.R_drew));exact HO_8.out)) (by decide) hg)
        have n1_:=Aside0.mk (hb)
        have n2_:=Aside0.mk (ho)
        clear HO_7 HB HO_8
        have HO_7:=n0_
        have HB:=n1_
        have HO216:=n2_
        clear n0_ n1_ n2_
        clear ho hb hg hat
        refine hK.out _ _ ?_
        clear hK K
        refine norm_ (a':=?_) ?_ ?_
        rotate_left
        ·show Act.put _ (some 53) _ = _
         simp only [Act.put,List.setIfInBounds_toArray,List.set_cons_zero,List.set_cons_succ,i64_w,i32_w]
         rfl
        refine pure_ (i:=14) (N:=some 8) (v:=?_) (a':=?_) #[true,true,true,true,true,true,true,true,true,true,true,true,true,true,true] rfl rfl (any_of HT_.out (by kernel_rfl)) (fun _ _ _ h => h) (Or.inl ⟨by rfl,?_⟩) ?_ ?_
        rotate_left
        ·intro w'
         go_simp
         with_reducible rfl
        rotate_left
        ·simp only [Act.put,List.setIfInBounds_toArray,List.set_cons_zero,List.set_cons_succ,i64_w,i32_w]
         rfl
        refine done_ (done_of HT_.out (by kernel_rfl)) ?_
        try go_wp2
        go_roundg k1
        case measure => have:=HK1.out;omega
        case rel => exact ⟨(y214),(wrap64 (x9_1 + 1)),(by first|rfl|(simp;done)|(simp [*];done)|(simp [*,Go.Proofs.Ytghlellambnkeaa.Str.bne_nil];done)),H',⟨by have:=HK1.out;omega⟩,⟨by (with_reducible repeat (first|apply Kd.R_alloc|apply Kd.R_drewN|apply Kd.R_drew));exact HO_7.out⟩,⟨by (with_reducible repeat (first|apply Kd.R_alloc|apply Kd.R_drewN|apply Kd.R_drew));exact HO216.out⟩,⟨by repeat (first|(with_reducible first|exact HB.out|apply xA|apply xN|apply xD)|exact HB.out)⟩⟩
       ·rw [if_neg c19] at H
        exact absurd H (by simp)
     ·rw [if_neg c11] at H
      exact absurd H (by simp)
    ·rw [if_neg c10] at H
     have c10b0 : decide (x9_1 < (t195.length : Int)) = false:=decide_eq_false c10
     clear c10
     simp only [Option.some.injEq,Prod.mk.injEq] at H
     obtain ⟨rfl,rfl⟩:=H
     obtain ⟨Ao25,co25,eo25⟩:=Kd.R_slice HO_7.out
     subst eo25
     go_wp2
     go_ret2
     exact ⟨_,by first|rfl|(simp [errW_none,errW_some] <;> rfl)|(simp [*,errW_none,errW_some] <;> rfl),by (with_reducible repeat (first|apply Kd.R_alloc|apply Kd.R_drewN|apply Kd.R_drew));exact HO_8.out,by repeat (first|(with_reducible first|exact HB.out|apply xA|apply xN|apply xD)|exact HB.out)⟩
 ·rw [if_neg c4] at H
  have c4b0 : (t194 == 0) = false:=beq_eq_false_iff_ne.mpr c4
  have c4b1 : (t194 != 0) = true:=bne_iff_ne.mpr c4
  simp only [Option.some.injEq,Prod.mk.injEq] at H
  obtain ⟨rfl,rfl⟩:=H
  go_enter Try.func29,Try.ntmps29
  go_wp2_with (first|((with_reducible refine gate_callee (f:=40) rfl ?_);refine goesL_ (some 12) rfl rfl Try.func40 (by kernel_rfl) rfl #[.slice A0 l0.length c0,.slice A1 l1.length c1] rfl (by (try simp only [List.map_toArray,List.map_cons,List.map_nil]);first|done|rfl|(simp only [List.length_drop,List.length_take];rfl)) ?_;(with_reducible refine (tidelineref09_check.calls k _ _ l0 _ _ l1 t194 _ ?side1 ?side2 ?side3 ?side4 A3.out).mono ?_);(case side1 => repeat (first|exact HR0.out|(with_reducible refine Kd.C_alloc ?_ _)|(with_reducible refine Kd.C_drewN ?_ _)|(with_reducible refine Kd.C_drew ?_)));(case side2 => exact HC0.out);(case side3 => repeat (first|exact HR1.out|(with_reducible refine Kd.C_alloc ?_ _)|(with_reducible refine Kd.C_drewN ?_ _)|(with_reducible refine Kd.C_drew ?_)));(case side4 => exact HC1.out);rintro e w26 ⟨rfl,hb⟩;refine ⟨_,rfl,?_⟩;replace HB:=Aside0.mk (below_step (by repeat (first|(with_reducible first|exact HB.out|apply xA|apply xN|apply xD)|exact HB.out)) hb);(try clear hb);(try clear hb2);(try clear hk);(try clear hi)))
  go_ret2
  exact ⟨_,by first|rfl|(simp [errW_none,errW_some] <;> rfl)|(simp [*,errW_none,errW_some] <;> rfl),by first|exact Kd.R_nil _ _ _ _ _|exact Kd.N_nil _ _ _ _ _|exact Kd.V_nil _ _ _ _ _|exact Kd.Q_nil _ _ _ _ _|exact Kd.S_nil _ _ _ _ _,by repeat (first|(with_reducible first|exact HB.out|apply xA|apply xN|apply xD)|exact HB.out)⟩

end Go.Proofs.Ytghlellambnkeaa.PAll
