-- By wip/pr.py (a program of this session, over the kit's print): lines written by program. Not trusted: Lean checks them.
import Derived.Test.YtghlellambnkeaaPAllx0
namespace Go.Proofs.Ytghlellambnkeaa.PAll
open Go.RowKit Go.Proofs.YtghlellambnkeaaW.PrintWords Go.Proofs.YtghlellambnkeaaW.PrintLast Go.Proofs.YtghlellambnkeaaW.PrintMore
attribute [local go_sem] max2_int min2_int max_two min_two max_three min_three max_four min_four   -- for this text's walks alone
set_option linter.unusedVariables false
set_option linter.unusedSimpArgs false

/-! ### tidelineref03_CheckVersion: function 51 -/
def tidelineref03_CheckVersion.f (a0_0 : Int) (a0_1 : Int) : Option (Int) := if a0_0 < 1 then (some 30) else (if a0_0 > 1099511627776 then (some 30) else (if a0_1 < 0 then (some 30) else (if a0_1 ≥ 8 then (some 30) else (some 0))))
set_option maxHeartbeats 8000000 in
set_option maxRecDepth 100000 in
theorem tidelineref03_CheckVersion.calls (a0_0 : Int) (a0_1 : Int) (r : Int) (w : World) (h : tidelineref03_CheckVersion.f a0_0 a0_1 = some r) :
    Calls Try.prog 51 #[.agg #[.int .i64 a0_0, .int .i64 a0_1]] w fun e w' => e = .returned (.int .i64 r) ∧ Below w.heap.size w w' := by
 have hu42:=Try.underlying42
 have HB:=Aside0.mk (Below.refl w.heap.size w)
 have H : (if a0_0 < 1 then (some 30) else (if a0_0 > 1099511627776 then (some 30) else (if a0_1 < 0 then (some 30) else (if a0_1 ≥ 8 then (some 30) else (some 0))))) = some r:=h
 clear h
 by_cases c2 : a0_0 < 1
 ·rw [if_pos c2] at H
  have c2b0 : decide (a0_0 < 1) = true:=decide_eq_true c2
  clear c2
  obtain rfl:=Option.some.inj H
  go_enter Try.func51,Try.ntmps51
  go_wp2_with (first|((with_reducible refine gate_dst (N:=1) rfl ?_);refine box_event ?hg (N:=1) ?hd (cs:=#[.int .i64 a0_0,.int .i64 a0_1]) (t:=42) ?hr ?_;(case hd => rfl);(case hg => rfl);(case hr => first|(go_simp;done)|(go_simp;rfl));intro gb150 hg w3 hbox hb;have n0_:=Aside0.mk (below_step (by repeat (first|(with_reducible first|exact HB.out|apply xA|apply xN|apply xD)|exact HB.out)) hb);have n1_:=Aside0.mk (hbox);have n2_:=Aside0.mk ((by rw [hg];exact (below_size (by repeat (first|(with_reducible first|exact HB.out|apply xA|apply xN|apply xD)|exact HB.out))) : w.heap.size ≤ gb150));have n3_:=Aside0.mk ((by rw [hg];exact (below_size (by repeat (first|(with_reducible first|exact HB.out|apply xA|apply xN|apply xD)|exact HB.out))) : w.heap.size ≤ gb150));clear HB;have HB:=n0_;have BK150:=n1_;have GW150:=n2_;have GE150:=n3_;clear n0_ n1_ n2_ n3_;clear hb hbox hg;have hcz4_0 : w3.cell? ⟨gb150,0,none⟩ = some (.int .i64 a0_0):=(blk_cell BK150.out 0).trans rfl;have hcz4_1 : w3.cell? ⟨gb150,1,none⟩ = some (.int .i64 a0_1):=(blk_cell BK150.out 1).trans rfl;have hfz4_0:=blk_frozen BK150.out 0;have hfz4_1:=blk_frozen BK150.out 1))
  go_ret
  exact ⟨by first|rfl|(simp [errW_none,errW_some] <;> rfl)|(simp [*,errW_none,errW_some] <;> rfl),by repeat (first|(with_reducible first|exact HB.out|apply xA|apply xN|apply xD|refine xS ?_ GE150.out)|exact HB.out)⟩
 ·rw [if_neg c2] at H
  have c2b0 : decide (a0_0 < 1) = false:=decide_eq_false c2
  clear c2
  by_cases c5 : a0_0 > 1099511627776
  ·rw [if_pos c5] at H
   have c5b0 : decide (1099511627776 < a0_0) = true:=decide_eq_true c5
   clear c5
   obtain rfl:=Option.some.inj H
   go_enter Try.func51,Try.ntmps51
   go_wp2_with (first|((with_reducible refine gate_dst (N:=1) rfl ?_);refine box_event ?hg (N:=1) ?hd (cs:=#[.int .i64 a0_0,.int .i64 a0_1]) (t:=42) ?hr ?_;(case hd => rfl);(case hg => rfl);(case hr => first|(go_simp;done)|(go_simp;rfl));intro gb150 hg w6 hbox hb;have n0_:=Aside0.mk (below_step (by repeat (first|(with_reducible first|exact HB.out|apply xA|apply xN|apply xD)|exact HB.out)) hb);have n1_:=Aside0.mk (hbox);have n2_:=Aside0.mk ((by rw [hg];exact (below_size (by repeat (first|(with_reducible first|exact HB.out|apply xA|apply xN|apply xD)|exact HB.out))) : w.heap.size ≤ gb150));have n3_:=Aside0.mk ((by rw [hg];exact (below_size (by repeat (first|(with_reducible first|exact HB.out|apply xA|apply xN|apply xD)|exact HB.out))) : w.heap.size ≤ gb150));clear HB;have HB:=n0_;have BK150:=n1_;have GW150:=n2_;have GE150:=n3_;clear n0_ n1_ n2_ n3_;clear hb hbox hg;have hcz7_0 : w6.cell? ⟨gb150,0,none⟩ = some (.int .i64 a0_0):=(blk_cell BK150.out 0).trans rfl;have hcz7_1 : w6.cell? ⟨gb150,1,none⟩ = some (.int .i64 a0_1):=(blk_cell BK150.out 1).trans rfl;have hfz7_0:=blk_frozen BK150.out 0;have hfz7_1:=blk_frozen BK150.out 1))
   go_ret
   exact ⟨by first|rfl|(simp [errW_none,errW_some] <;> rfl)|(simp [*,errW_none,errW_some] <;> rfl),by repeat (first|(with_reducible first|exact HB.out|apply xA|apply xN|apply xD|refine xS ?_ GE150.out)|exact HB.out)⟩
  ·rw [if_neg c5] at H
   have c5b0 : decide (1099511627776 < a0_0) = false:=decide_eq_false c5
   clear c5
   by_cases c8 : a0_1 < 0
   ·rw [if_pos c8] at H
    have c8b0 : decide (a0_1 < 0) = true:=decide_eq_true c8
    clear c8
    obtain rfl:=Option.some.inj H
    go_enter Try.func51,Try.ntmps51
    go_wp2_with (first|((with_reducible refine gate_dst (N:=1) rfl ?_);refine box_event ?hg (N:=1) ?hd (cs:=#[.int .i64 a0_0,.int .i64 a0_1]) (t:=42) ?hr ?_;(case hd => rfl);(case hg => rfl);(case hr => first|(go_simp;done)|(go_simp;rfl));intro gb150 hg w9 hbox hb;have n0_:=Aside0.mk (below_step (by repeat (first|(with_reducible first|exact HB.out|apply xA|apply xN|apply xD)|exact HB.out)) hb);have n1_:=Aside0.mk (hbox);have n2_:=Aside0.mk ((by rw [hg];exact (below_size (by repeat (first|(with_reducible first|exact HB.out|apply xA|apply xN|apply xD)|exact HB.out))) : w.heap.size ≤ gb150));have n3_:=Aside0.mk ((by rw [hg];exact (below_size (by repeat (first|(with_reducible first|exact HB.out|apply xA|apply xN|apply xD)|exact HB.out))) : w.heap.size ≤ gb150));clear HB;have HB:=n0_;have BK150:=n1_;have GW150:=n2_;have GE150:=n3_;clear n0_ n1_ n2_ n3_;clear hb hbox hg;have hcz10_0 : w9.cell? ⟨gb150,0,none⟩ = some (.int .i64 a0_0):=(blk_cell BK150.out 0).trans rfl;have hcz10_1 : w9.cell? ⟨gb150,1,none⟩ = some (.int .i64 a0_1):=(blk_cell BK150.out 1).trans rfl;have hfz10_0:=blk_frozen BK150.out 0;have hfz10_1:=blk_frozen BK150.out 1))
    go_ret
    exact ⟨by first|rfl|(simp [errW_none,errW_some] <;> rfl)|(simp [*,errW_none,errW_some] <;> rfl),by repeat (first|(with_reducible first|exact HB.out|apply xA|apply xN|apply xD|refine xS ?_ GE150.out)|exact HB.out)⟩
   ·rw [if_neg c8] at H
    have c8b0 : decide (a0_1 < 0) = false:=decide_eq_false c8
    clear c8
    by_cases c11 : a0_1 ≥ 8
    ·rw [if_pos c11] at H
     have c11b0 : decide (8 ≤ a0_1) = true:=decide_eq_true c11
     clear c11
     obtain rfl:=Option.some.inj H
     go_enter Try.func51,Try.ntmps51
     go_wp2_with (first|((with_reducible refine gate_dst (N:=1) rfl ?_);refine box_event ?hg (N:=1) ?hd (cs:=#[.int .i64 a0_0,.int .i64 a0_1]) (t:=42) ?hr ?_;(case hd => rfl);(case hg => rfl);(case hr => first|(go_simp;done)|(go_simp;rfl));intro gb150 hg w12 hbox hb;have n0_:=Aside0.mk (below_step (by repeat (first|(with_reducible first|exact HB.out|apply xA|apply xN|apply xD)|exact HB.out)) hb);have n1_:=Aside0.mk (hbox);have n2_:=Aside0.mk ((by rw [hg];exact (below_size (by repeat (first|(with_reducible first|exact HB.out|apply xA|apply xN|apply xD)|exact HB.out))) : w.heap.size ≤ gb150));have n3_:=Aside0.mk ((by rw [hg];exact (below_size (by repeat (first|(with_reducible first|exact HB.out|apply xA|apply xN|apply xD)|exact HB.out))) : w.heap.size ≤ gb150));clear HB;have HB:=n0_;have BK150:=n1_;have GW150:=n2_;have GE150:=n3_;clear n0_ n1_ n2_ n3_;clear hb hbox hg;have hcz13_0 : w12.cell? ⟨gb150,0,none⟩ = some (.int .i64 a0_0):=(blk_cell BK150.out 0).trans rfl;have hcz13_1 : w12.cell? ⟨gb150,1,none⟩ = some (.int .i64 a0_1):=(blk_cell BK150.out 1).trans rfl;have hfz13_0:=blk_frozen BK150.out 0;have hfz13_1:=blk_frozen BK150.out 1))
     go_ret
     exact ⟨by first|rfl|(simp [errW_none,errW_some] <;> rfl)|(simp [*,errW_none,errW_some] <;> rfl),by repeat (first|(with_reducible first|exact HB.out|apply xA|apply xN|apply xD|refine xS ?_ GE150.out)|exact HB.out)⟩
    ·rw [if_neg c11] at H
     have c11b0 : decide (8 ≤ a0_1) = false:=decide_eq_false c11
     clear c11
     obtain rfl:=Option.some.inj H
     go_enter Try.func51,Try.ntmps51
     go_wp2_with (first|((with_reducible refine gate_dst (N:=1) rfl ?_);refine box_event ?hg (N:=1) ?hd (cs:=#[.int .i64 a0_0,.int .i64 a0_1]) (t:=42) ?hr ?_;(case hd => rfl);(case hg => rfl);(case hr => first|(go_simp;done)|(go_simp;rfl));intro gb150 hg w14 hbox hb;have n0_:=Aside0.mk (below_step (by repeat (first|(with_reducible first|exact HB.out|apply xA|apply xN|apply xD)|exact HB.out)) hb);have n1_:=Aside0.mk (hbox);have n2_:=Aside0.mk ((by rw [hg];exact (below_size (by repeat (first|(with_reducible first|exact HB.out|apply xA|apply xN|apply xD)|exact HB.out))) : w.heap.size ≤ gb150));have n3_:=Aside0.mk ((by rw [hg];exact (below_size (by repeat (first|(with_reducible first|exact HB.out|apply xA|apply xN|apply xD)|exact HB.out))) : w.heap.size ≤ gb150));clear HB;have HB:=n0_;have BK150:=n1_;have GW150:=n2_;have GE150:=n3_;clear n0_ n1_ n2_ n3_;clear hb hbox hg;have hcz15_0 : w14.cell? ⟨gb150,0,none⟩ = some (.int .i64 a0_0):=(blk_cell BK150.out 0).trans rfl;have hcz15_1 : w14.cell? ⟨gb150,1,none⟩ = some (.int .i64 a0_1):=(blk_cell BK150.out 1).trans rfl;have hfz15_0:=blk_frozen BK150.out 0;have hfz15_1:=blk_frozen BK150.out 1))
     go_ret
     exact ⟨by first|rfl|(simp [errW_none,errW_some] <;> rfl)|(simp [*,errW_none,errW_some] <;> rfl),by repeat (first|(with_reducible first|exact HB.out|apply xA|apply xN|apply xD|refine xS ?_ GE150.out)|exact HB.out)⟩

/-! ### tidelineref03_Check: function 35 -/
def tidelineref03_Check.f (a0_0 : ByteArray) (a0_1 : Int) (a0_2 : Int) (a0_3 : ByteArray) (a0_4 : Bool) : Option (Int) := if (a0_0.size : Int) > 16 then (some 20) else ((tidelineref03_CheckVersion.f a0_1 a0_2).bind fun t152 => (if t152 = 0 then (if (a0_3.size : Int) > 32 then (some 31) else (if a0_4 = true then (if a0_3.toList = ([] : List UInt8) then (some 0) else (some 32)) else (some 0))) else (some 30)))
set_option maxHeartbeats 8000000 in
set_option maxRecDepth 100000 in
theorem tidelineref03_Check.calls (a0_0 : ByteArray) (a0_1 : Int) (a0_2 : Int) (a0_3 : ByteArray) (a0_4 : Bool) (r : Int) (w : World) (h : tidelineref03_Check.f a0_0 a0_1 a0_2 a0_3 a0_4 = some r) :
    Calls Try.prog 35 #[.agg #[.string a0_0, .int .i64 a0_1, .int .i64 a0_2, .string a0_3, .bool a0_4]] w fun e w' => e = .returned (.int .i64 r) ∧ Below w.heap.size w w' := by
 have hu44:=Try.underlying44
 have hu42:=Try.underlying42
 have HB:=Aside0.mk (Below.refl w.heap.size w)
 have H : (if (a0_0.size : Int) > 16 then (some 20) else ((tidelineref03_CheckVersion.f a0_1 a0_2).bind fun t152 => (if t152 = 0 then (if (a0_3.size : Int) > 32 then (some 31) else (if a0_4 = true then (if a0_3.toList = ([] : List UInt8) then (some 0) else (some 32)) else (some 0))) else (some 30)))) = some r:=h
 clear h
 by_cases c2 : (a0_0.size : Int) > 16
 ·rw [if_pos c2] at H
  have c2b0 : decide (16 < (a0_0.size : Int)) = true:=decide_eq_true c2
  have c2b1 : decide (16 < a0_0.size) = true:=decide_eq_true (by omega)
  clear c2
  obtain rfl:=Option.some.inj H
  go_enter Try.func35,Try.ntmps35
  go_wp2_with (first|((with_reducible refine gate_dst (N:=1) rfl ?_);refine box_event ?hg (N:=1) ?hd (cs:=#[.string a0_0,.int .i64 a0_1,.int .i64 a0_2,.string a0_3,.bool a0_4]) (t:=44) ?hr ?_;(case hd => rfl);(case hg => rfl);(case hr => first|(go_simp;done)|(go_simp;rfl));intro gb151 hg w3 hbox hb;have n0_:=Aside0.mk (below_step (by repeat (first|(with_reducible first|exact HB.out|apply xA|apply xN|apply xD)|exact HB.out)) hb);have n1_:=Aside0.mk (hbox);have n2_:=Aside0.mk ((by rw [hg];exact (below_size (by repeat (first|(with_reducible first|exact HB.out|apply xA|apply xN|apply xD)|exact HB.out))) : w.heap.size ≤ gb151));have n3_:=Aside0.mk ((by rw [hg];exact (below_size (by repeat (first|(with_reducible first|exact HB.out|apply xA|apply xN|apply xD)|exact HB.out))) : w.heap.size ≤ gb151));clear HB;have HB:=n0_;have BK151:=n1_;have GW151:=n2_;have GE151:=n3_;clear n0_ n1_ n2_ n3_;clear hb hbox hg;have hcz4_0 : w3.cell? ⟨gb151,0,none⟩ = some (.string a0_0):=(blk_cell BK151.out 0).trans rfl;have hcz4_1 : w3.cell? ⟨gb151,1,none⟩ = some (.int .i64 a0_1):=(blk_cell BK151.out 1).trans rfl;have hcz4_2 : w3.cell? ⟨gb151,2,none⟩ = some (.int .i64 a0_2):=(blk_cell BK151.out 2).trans rfl;have hcz4_3 : w3.cell? ⟨gb151,3,none⟩ = some (.string a0_3):=(blk_cell BK151.out 3).trans rfl;have hcz4_4 : w3.cell? ⟨gb151,4,none⟩ = some (.bool a0_4):=(blk_cell BK151.out 4).trans rfl;obtain ⟨hfz4_0,hfz4_1,hfz4_2⟩:=f3 BK151.out;have hfz4_3:=blk_frozen BK151.out 3;have hfz4_4:=blk_frozen BK151.out 4))
  go_ret
  exact ⟨by first|rfl|(simp [errW_none,errW_some] <;> rfl)|(simp [*,errW_none,errW_some] <;> rfl),by repeat (first|(with_reducible first|exact HB.out|apply xA|apply xN|apply xD|refine xS ?_ GE151.out)|exact HB.out)⟩
 ·rw [if_neg c2] at H
  have c2b0 : decide (16 < (a0_0.size : Int)) = false:=decide_eq_false c2
  have c2b1 : decide (16 < a0_0.size) = false:=decide_eq_false (by omega)
  clear c2
  replace H:=Option.bind_eq_some_iff.mp H
  obtain ⟨t152,A50,H⟩:=H
  replace H : (if t152 = 0 then (if (a0_3.size : Int) > 32 then (some 31) else (if a0_4 = true then (if a0_3.toList = ([] : List UInt8) then (some 0) else (some 32)) else (some 0))) else (some 30)) = some r:=H
  have A5:=Aside0.mk A50
  clear A50
  by_cases c6 : t152 = 0
  ·rw [if_pos c6] at H
   have c6b0 : (t152 == 0) = true:=beq_iff_eq.mpr c6
   have c6b1 : (t152 != 0) = false:=bne_eq_false_iff_eq.mpr c6
   clear c6
   by_cases c7 : (a0_3.size : Int) > 32
   ·rw [if_pos c7] at H
    have c7b0 : decide (32 < (a0_3.size : Int)) = true:=decide_eq_true c7
    have c7b1 : decide (32 < a0_3.size) = true:=decide_eq_true (by omega)
    clear c7
    obtain rfl:=Option.some.inj H
    go_enter Try.func35,Try.ntmps35
    go_wp2_with (first|((with_reducible refine gate_dst (N:=1) rfl ?_);refine box_event ?hg (N:=1) ?hd (cs:=#[.string a0_0,.int .i64 a0_1,.int .i64 a0_2,.string a0_3,.bool a0_4]) (t:=44) ?hr ?_;(case hd => rfl);(case hg => rfl);(case hr => first|(go_simp;done)|(go_simp;rfl));intro gb151 hg w8 hbox hb;have n0_:=Aside0.mk (below_step (by repeat (first|(with_reducible first|exact HB.out|apply xA|apply xN|apply xD)|exact HB.out)) hb);have n1_:=Aside0.mk (hbox);have n2_:=Aside0.mk ((by rw [hg];exact (below_size (by repeat (first|(with_reducible first|exact HB.out|apply xA|apply xN|apply xD)|exact HB.out))) : w.heap.size ≤ gb151));have n3_:=Aside0.mk ((by rw [hg];exact (below_size (by repeat (first|(with_reducible first|exact HB.out|apply xA|apply xN|apply xD)|exact HB.out))) : w.heap.size ≤ gb151));clear HB;have HB:=n0_;have BK151:=n1_;have GW151:=n2_;have GE151:=n3_;clear n0_ n1_ n2_ n3_;clear hb hbox hg;have hcz9_0 : w8.cell? ⟨gb151,0,none⟩ = some (.string a0_0):=(blk_cell BK151.out 0).trans rfl;have hcz9_1 : w8.cell? ⟨gb151,1,none⟩ = some (.int .i64 a0_1):=(blk_cell BK151.out 1).trans rfl;have hcz9_2 : w8.cell? ⟨gb151,2,none⟩ = some (.int .i64 a0_2):=(blk_cell BK151.out 2).trans rfl;have hcz9_3 : w8.cell? ⟨gb151,3,none⟩ = some (.string a0_3):=(blk_cell BK151.out 3).trans rfl;have hcz9_4 : w8.cell? ⟨gb151,4,none⟩ = some (.bool a0_4):=(blk_cell BK151.out 4).trans rfl;obtain ⟨hfz9_0,hfz9_1,hfz9_2⟩:=f3 BK151.out;have hfz9_3:=blk_frozen BK151.out 3;have hfz9_4:=blk_frozen BK151.out 4)|((with_reducible refine gate_callee (f:=51) rfl ?_);refine goesL_ (some 9) rfl rfl Try.func51 (by kernel_rfl) rfl #[.agg #[.int .i64 a0_1,.int .i64 a0_2]] rfl (by (try simp only [List.map_toArray,List.map_cons,List.map_nil]);first|done|rfl|(simp only [List.length_drop,List.length_take];rfl)) ?_;(with_reducible refine (tidelineref03_CheckVersion.calls a0_1 a0_2 t152 _ A5.out).mono ?_);rintro e w10 ⟨rfl,hb⟩;refine ⟨_,rfl,?_⟩;replace BK151:=bk (by (with_reducible repeat first|apply bN|apply bD|apply bA);exact BK151.out) hb;replace HB:=Aside0.mk (below_step (by repeat (first|(with_reducible first|exact HB.out|apply xA|apply xN|apply xD|refine xS ?_ GE151.out)|exact HB.out)) hb);(try clear hb);(try clear hb2);(try clear hk);(try clear hi);have hcz11_0 : w10.cell? ⟨gb151,0,none⟩ = some (.string a0_0):=(blk_cell BK151.out 0).trans rfl;have hcz11_1 : w10.cell? ⟨gb151,1,none⟩ = some (.int .i64 a0_1):=(blk_cell BK151.out 1).trans rfl;have hcz11_2 : w10.cell? ⟨gb151,2,none⟩ = some (.int .i64 a0_2):=(blk_cell BK151.out 2).trans rfl;have hcz11_3 : w10.cell? ⟨gb151,3,none⟩ = some (.string a0_3):=(blk_cell BK151.out 3).trans rfl;have hcz11_4 : w10.cell? ⟨gb151,4,none⟩ = some (.bool a0_4):=(blk_cell BK151.out 4).trans rfl;obtain ⟨hfz11_0,hfz11_1,hfz11_2⟩:=f3 BK151.out;have hfz11_3:=blk_frozen BK151.out 3;have hfz11_4:=blk_frozen BK151.out 4))
    go_ret
    exact ⟨by first|rfl|(simp [errW_none,errW_some] <;> rfl)|(simp [*,errW_none,errW_some] <;> rfl),by repeat (first|(with_reducible first|exact HB.out|apply xA|apply xN|apply xD|refine xS ?_ GE151.out)|exact HB.out)⟩
   ·rw [if_neg c7] at H
    have c7b0 : decide (32 < (a0_3.size : Int)) = false:=decide_eq_false c7
    have c7b1 : decide (32 < a0_3.size) = false:=decide_eq_false (by omega)
    clear c7
    by_cases c12 : a0_4 = true
    ·subst c12
     have H1 : (if a0_3.toList = ([] : List UInt8) then (some 0) else (some 32)) = some r:=by rw [if_pos rfl] at H;exact H
     clear H
     have H:=H1
     clear H1
     by_cases c13 : a0_3.toList = ([] : List UInt8)
     ·rw [if_pos c13] at H
      have c13b0 : (a0_3.toList == ([] : List UInt8)) = true:=beq_iff_eq.mpr c13
      (try (have c13b8:=c13b0;simp only [List.beq_nil_eq] at c13b8))
      have c13b1 : (a0_3.toList != ([] : List UInt8)) = false:=bne_eq_false_iff_eq.mpr c13
      clear c13
      obtain rfl:=Option.some.inj H
      go_enter Try.func35,Try.ntmps35
      go_wp2_with (first|((with_reducible refine gate_dst (N:=1) rfl ?_);refine box_event ?hg (N:=1) ?hd (cs:=#[.string a0_0,.int .i64 a0_1,.int .i64 a0_2,.string a0_3,.bool true]) (t:=44) ?hr ?_;(case hd => rfl);(case hg => rfl);(case hr => first|(go_simp;done)|(go_simp;rfl));intro gb151 hg w14 hbox hb;have n0_:=Aside0.mk (below_step (by repeat (first|(with_reducible first|exact HB.out|apply xA|apply xN|apply xD)|exact HB.out)) hb);have n1_:=Aside0.mk (hbox);have n2_:=Aside0.mk ((by rw [hg];exact (below_size (by repeat (first|(with_reducible first|exact HB.out|apply xA|apply xN|apply xD)|exact HB.out))) : w.heap.size ≤ gb151));have n3_:=Aside0.mk ((by rw [hg];exact (below_size (by repeat (first|(with_reducible first|exact HB.out|apply xA|apply xN|apply xD)|exact HB.out))) : w.heap.size ≤ gb151));clear HB;have HB:=n0_;have BK151:=n1_;have GW151:=n2_;have GE151:=n3_;clear n0_ n1_ n2_ n3_;clear hb hbox hg;have hcz15_0 : w14.cell? ⟨gb151,0,none⟩ = some (.string a0_0):=(blk_cell BK151.out 0).trans rfl;have hcz15_1 : w14.cell? ⟨gb151,1,none⟩ = some (.int .i64 a0_1):=(blk_cell BK151.out 1).trans rfl;have hcz15_2 : w14.cell? ⟨gb151,2,none⟩ = some (.int .i64 a0_2):=(blk_cell BK151.out 2).trans rfl;have hcz15_3 : w14.cell? ⟨gb151,3,none⟩ = some (.string a0_3):=(blk_cell BK151.out 3).trans rfl;have hcz15_4 : w14.cell? ⟨gb151,4,none⟩ = some (.bool true):=(blk_cell BK151.out 4).trans rfl;obtain ⟨hfz15_0,hfz15_1,hfz15_2⟩:=f3 BK151.out;have hfz15_3:=blk_frozen BK151.out 3;have hfz15_4:=blk_frozen BK151.out 4)|((with_reducible refine gate_callee (f:=51) rfl ?_);refine goesL_ (some 9) rfl rfl Try.func51 (by kernel_rfl) rfl #[.agg #[.int .i64 a0_1,.int .i64 a0_2]] rfl (by (try simp only [List.map_toArray,List.map_cons,List.map_nil]);first|done|rfl|(simp only [List.length_drop,List.length_take];rfl)) ?_;(with_reducible refine (tidelineref03_CheckVersion.calls a0_1 a0_2 t152 _ A5.out).mono ?_);rintro e w16 ⟨rfl,hb⟩;refine ⟨_,rfl,?_⟩;replace BK151:=bk (by (with_reducible repeat first|apply bN|apply bD|apply bA);exact BK151.out) hb;replace HB:=Aside0.mk (below_step (by repeat (first|(with_reducible first|exact HB.out|apply xA|apply xN|apply xD|refine xS ?_ GE151.out)|exact HB.out)) hb);(try clear hb);(try clear hb2);(try clear hk);(try clear hi);have hcz17_0 : w16.cell? ⟨gb151,0,none⟩ = some (.string a0_0):=(blk_cell BK151.out 0).trans rfl;have hcz17_1 : w16.cell? ⟨gb151,1,none⟩ = some (.int .i64 a0_1):=(blk_cell BK151.out 1).trans rfl;have hcz17_2 : w16.cell? ⟨gb151,2,none⟩ = some (.int .i64 a0_2):=(blk_cell BK151.out 2).trans rfl;have hcz17_3 : w16.cell? ⟨gb151,3,none⟩ = some (.string a0_3):=(blk_cell BK151.out 3).trans rfl;have hcz17_4 : w16.cell? ⟨gb151,4,none⟩ = some (.bool true):=(blk_cell BK151.out 4).trans rfl;obtain ⟨hfz17_0,hfz17_1,hfz17_2⟩:=f3 BK151.out;have hfz17_3:=blk_frozen BK151.out 3;have hfz17_4:=blk_frozen BK151.out 4))
      go_ret
      exact ⟨by first|rfl|(simp [errW_none,errW_some] <;> rfl)|(simp [*,errW_none,errW_some] <;> rfl),by repeat (first|(with_reducible first|exact HB.out|apply xA|apply xN|apply xD|refine xS ?_ GE151.out)|exact HB.out)⟩
     ·rw [if_neg c13] at H
      have c13b0 : (a0_3.toList == ([] : List UInt8)) = false:=beq_eq_false_iff_ne.mpr c13
      (try (have c13b8:=c13b0;simp only [List.beq_nil_eq] at c13b8))
      have c13b1 : (a0_3.toList != ([] : List UInt8)) = true:=bne_iff_ne.mpr c13
      obtain rfl:=Option.some.inj H
      go_enter Try.func35,Try.ntmps35
      go_wp2_with (first|((with_reducible refine gate_dst (N:=1) rfl ?_);refine box_event ?hg (N:=1) ?hd (cs:=#[.string a0_0,.int .i64 a0_1,.int .i64 a0_2,.string a0_3,.bool true]) (t:=44) ?hr ?_;(case hd => rfl);(case hg => rfl);(case hr => first|(go_simp;done)|(go_simp;rfl));intro gb151 hg w18 hbox hb;have n0_:=Aside0.mk (below_step (by repeat (first|(with_reducible first|exact HB.out|apply xA|apply xN|apply xD)|exact HB.out)) hb);have n1_:=Aside0.mk (hbox);have n2_:=Aside0.mk ((by rw [hg];exact (below_size (by repeat (first|(with_reducible first|exact HB.out|apply xA|apply xN|apply xD)|exact HB.out))) : w.heap.size ≤ gb151));have n3_:=Aside0.mk ((by rw [hg];exact (below_size (by repeat (first|(with_reducible first|exact HB.out|apply xA|apply xN|apply xD)|exact HB.out))) : w.heap.size ≤ gb151));clear HB;have HB:=n0_;have BK151:=n1_;have GW151:=n2_;have GE151:=n3_;clear n0_ n1_ n2_ n3_;clear hb hbox hg;have hcz19_0 : w18.cell? ⟨gb151,0,none⟩ = some (.string a0_0):=(blk_cell BK151.out 0).trans rfl;have hcz19_1 : w18.cell? ⟨gb151,1,none⟩ = some (.int .i64 a0_1):=(blk_cell BK151.out 1).trans rfl;have hcz19_2 : w18.cell? ⟨gb151,2,none⟩ = some (.int .i64 a0_2):=(blk_cell BK151.out 2).trans rfl;have hcz19_3 : w18.cell? ⟨gb151,3,none⟩ = some (.string a0_3):=(blk_cell BK151.out 3).trans rfl;have hcz19_4 : w18.cell? ⟨gb151,4,none⟩ = some (.bool true):=(blk_cell BK151.out 4).trans rfl;obtain ⟨hfz19_0,hfz19_1,hfz19_2⟩:=f3 BK151.out;have hfz19_3:=blk_frozen BK151.out 3;have hfz19_4:=blk_frozen BK151.out 4)|((with_reducible refine gate_callee (f:=51) rfl ?_);refine goesL_ (some 9) rfl rfl Try.func51 (by kernel_rfl) rfl #[.agg #[.int .i64 a0_1,.int .i64 a0_2]] rfl (by (try simp only [List.map_toArray,List.map_cons,List.map_nil]);first|done|rfl|(simp only [List.length_drop,List.length_take];rfl)) ?_;(with_reducible refine (tidelineref03_CheckVersion.calls a0_1 a0_2 t152 _ A5.out).mono ?_);rintro e w20 ⟨rfl,hb⟩;refine ⟨_,rfl,?_⟩;replace BK151:=bk (by (with_reducible repeat first|apply bN|apply bD|apply bA);exact BK151.out) hb;replace HB:=Aside0.mk (below_step (by repeat (first|(with_reducible first|exact HB.out|apply xA|apply xN|apply xD|refine xS ?_ GE151.out)|exact HB.out)) hb);(try clear hb);(try clear hb2);(try clear hk);(try clear hi);have hcz21_0 : w20.cell? ⟨gb151,0,none⟩ = some (.string a0_0):=(blk_cell BK151.out 0).trans rfl;have hcz21_1 : w20.cell? ⟨gb151,1,none⟩ = some (.int .i64 a0_1):=(blk_cell BK151.out 1).trans rfl;have hcz21_2 : w20.cell? ⟨gb151,2,none⟩ = some (.int .i64 a0_2):=(blk_cell BK151.out 2).trans rfl;have hcz21_3 : w20.cell? ⟨gb151,3,none⟩ = some (.string a0_3):=(blk_cell BK151.out 3).trans rfl;have hcz21_4 : w20.cell? ⟨gb151,4,none⟩ = some (.bool true):=(blk_cell BK151.out 4).trans rfl;obtain ⟨hfz21_0,hfz21_1,hfz21_2⟩:=f3 BK151.out;have hfz21_3:=blk_frozen BK151.out 3;have hfz21_4:=blk_frozen BK151.out 4))
      go_ret
      exact ⟨by first|rfl|(simp [errW_none,errW_some] <;> rfl)|(simp [*,errW_none,errW_some] <;> rfl),by repeat (first|(with_reducible first|exact HB.out|apply xA|apply xN|apply xD|refine xS ?_ GE151.out)|exact HB.out)⟩
    ·replace c12:=Bool.eq_false_iff.mpr c12
     subst c12
     have H1 : (some 0) = some r:=by rw [if_neg (show ¬ (false = true) by decide)] at H;exact H
     clear H
     have H:=H1
     clear H1
     obtain rfl:=Option.some.inj H
     go_enter Try.func35,Try.ntmps35
     go_wp2_with (first|((with_reducible refine gate_dst (N:=1) rfl ?_);refine box_event ?hg (N:=1) ?hd (cs:=#[.string a0_0,.int .i64 a0_1,.int .i64 a0_2,.string a0_3,.bool false]) (t:=44) ?hr ?_;(case hd => rfl);(case hg => rfl);(case hr => first|(go_simp;done)|(go_simp;rfl));intro gb151 hg w22 hbox hb;have n0_:=Aside0.mk (below_step (by repeat (first|(with_reducible first|exact HB.out|apply xA|apply xN|apply xD)|exact HB.out)) hb);have n1_:=Aside0.mk (hbox);have n2_:=Aside0.mk ((by rw [hg];exact (below_size (by repeat (first|(with_reducible first|exact HB.out|apply xA|apply xN|apply xD)|exact HB.out))) : w.heap.size ≤ gb151));have n3_:=Aside0.mk ((by rw [hg];exact (below_size (by repeat (first|(with_reducible first|exact HB.out|apply xA|apply xN|apply xD)|exact HB.out))) : w.heap.size ≤ gb151));clear HB;have HB:=n0_;have BK151:=n1_;have GW151:=n2_;have GE151:=n3_;clear n0_ n1_ n2_ n3_;clear hb hbox hg;have hcz23_0 : w22.cell? ⟨gb151,0,none⟩ = some (.string a0_0):=(blk_cell BK151.out 0).trans rfl;have hcz23_1 : w22.cell? ⟨gb151,1,none⟩ = some (.int .i64 a0_1):=(blk_cell BK151.out 1).trans rfl;have hcz23_2 : w22.cell? ⟨gb151,2,none⟩ = some (.int .i64 a0_2):=(blk_cell BK151.out 2).trans rfl;have hcz23_3 : w22.cell? ⟨gb151,3,none⟩ = some (.string a0_3):=(blk_cell BK151.out 3).trans rfl;have hcz23_4 : w22.cell? ⟨gb151,4,none⟩ = some (.bool false):=(blk_cell BK151.out 4).trans rfl;obtain ⟨hfz23_0,hfz23_1,hfz23_2⟩:=f3 BK151.out;have hfz23_3:=blk_frozen BK151.out 3;have hfz23_4:=blk_frozen BK151.out 4)|((with_reducible refine gate_callee (f:=51) rfl ?_);refine goesL_ (some 9) rfl rfl Try.func51 (by kernel_rfl) rfl #[.agg #[.int .i64 a0_1,.int .i64 a0_2]] rfl (by (try simp only [List.map_toArray,List.map_cons,List.map_nil]);first|done|rfl|(simp only [List.length_drop,List.length_take];rfl)) ?_;(with_reducible refine (tidelineref03_CheckVersion.calls a0_1 a0_2 t152 _ A5.out).mono ?_);rintro e w24 ⟨rfl,hb⟩;refine ⟨_,rfl,?_⟩;replace BK151:=bk (by (with_reducible repeat first|apply bN|apply bD|apply bA);exact BK151.out) hb;replace HB:=Aside0.mk (below_step (by repeat (first|(with_reducible first|exact HB.out|apply xA|apply xN|apply xD|refine xS ?_ GE151.out)|exact HB.out)) hb);(try clear hb);(try clear hb2);(try clear hk);(try clear hi);have hcz25_0 : w24.cell? ⟨gb151,0,none⟩ = some (.string a0_0):=(blk_cell BK151.out 0).trans rfl;have hcz25_1 : w24.cell? ⟨gb151,1,none⟩ = some (.int .i64 a0_1):=(blk_cell BK151.out 1).trans rfl;have hcz25_2 : w24.cell? ⟨gb151,2,none⟩ = some (.int .i64 a0_2):=(blk_cell BK151.out 2).trans rfl;have hcz25_3 : w24.cell? ⟨gb151,3,none⟩ = some (.string a0_3):=(blk_cell BK151.out 3).trans rfl;have hcz25_4 : w24.cell? ⟨gb151,4,none⟩ = some (.bool false):=(blk_cell BK151.out 4).trans rfl;obtain ⟨hfz25_0,hfz25_1,hfz25_2⟩:=f3 BK151.out;have hfz25_3:=blk_frozen BK151.out 3;have hfz25_4:=blk_frozen BK151.out 4))
     go_ret
     exact ⟨by first|rfl|(simp [errW_none,errW_some] <;> rfl)|(simp [*,errW_none,errW_some] <;> rfl),by repeat (first|(with_reducible first|exact HB.out|apply xA|apply xN|apply xD|refine xS ?_ GE151.out)|exact HB.out)⟩
  ·rw [if_neg c6] at H
   have c6b0 : (t152 == 0) = false:=beq_eq_false_iff_ne.mpr c6
   have c6b1 : (t152 != 0) = true:=bne_iff_ne.mpr c6
   obtain rfl:=Option.some.inj H
   go_enter Try.func35,Try.ntmps35
   go_wp2_with (first|((with_reducible refine gate_dst (N:=1) rfl ?_);refine box_event ?hg (N:=1) ?hd (cs:=#[.string a0_0,.int .i64 a0_1,.int .i64 a0_2,.string a0_3,.bool a0_4]) (t:=44) ?hr ?_;(case hd => rfl);(case hg => rfl);(case hr => first|(go_simp;done)|(go_simp;rfl));intro gb151 hg w26 hbox hb;have n0_:=Aside0.mk (below_step (by repeat (first|(with_reducible first|exact HB.out|apply xA|apply xN|apply xD)|exact HB.out)) hb);have n1_:=Aside0.mk (hbox);have n2_:=Aside0.mk ((by rw [hg];exact (below_size (by repeat (first|(with_reducible first|exact HB.out|apply xA|apply xN|apply xD)|exact HB.out))) : w.heap.size ≤ gb151));have n3_:=Aside0.mk ((by rw [hg];exact (below_size (by repeat (first|(with_reducible first|exact HB.out|apply xA|apply xN|apply xD)|exact HB.out))) : w.heap.size ≤ gb151));clear HB;have HB:=n0_;have BK151:=n1_;have GW151:=n2_;have GE151:=n3_;clear n0_ n1_ n2_ n3_;clear hb hbox hg;have hcz27_0 : w26.cell? ⟨gb151,0,none⟩ = some (.string a0_0):=(blk_cell BK151.out 0).trans rfl;have hcz27_1 : w26.cell? ⟨gb151,1,none⟩ = some (.int .i64 a0_1):=(blk_cell BK151.out 1).trans rfl;have hcz27_2 : w26.cell? ⟨gb151,2,none⟩ = some (.int .i64 a0_2):=(blk_cell BK151.out 2).trans rfl;have hcz27_3 : w26.cell? ⟨gb151,3,none⟩ = some (.string a0_3):=(blk_cell BK151.out 3).trans rfl;have hcz27_4 : w26.cell? ⟨gb151,4,none⟩ = some (.bool a0_4):=(blk_cell BK151.out 4).trans rfl;obtain ⟨hfz27_0,hfz27_1,hfz27_2⟩:=f3 BK151.out;have hfz27_3:=blk_frozen BK151.out 3;have hfz27_4:=blk_frozen BK151.out 4)|((with_reducible refine gate_callee (f:=51) rfl ?_);refine goesL_ (some 9) rfl rfl Try.func51 (by kernel_rfl) rfl #[.agg #[.int .i64 a0_1,.int .i64 a0_2]] rfl (by (try simp only [List.map_toArray,List.map_cons,List.map_nil]);first|done|rfl|(simp only [List.length_drop,List.length_take];rfl)) ?_;(with_reducible refine (tidelineref03_CheckVersion.calls a0_1 a0_2 t152 _ A5.out).mono ?_);rintro e w28 ⟨rfl,hb⟩;refine ⟨_,rfl,?_⟩;replace BK151:=bk (by (with_reducible repeat first|apply bN|apply bD|apply bA);exact BK151.out) hb;replace HB:=Aside0.mk (below_step (by repeat (first|(with_reducible first|exact HB.out|apply xA|apply xN|apply xD|refine xS ?_ GE151.out)|exact HB.out)) hb);(try clear hb);(try clear hb2);(try clear hk);(try clear hi)))
   go_ret
   exact ⟨by first|rfl|(simp [errW_none,errW_some] <;> rfl)|(simp [*,errW_none,errW_some] <;> rfl),by repeat (first|(with_reducible first|exact HB.out|apply xA|apply xN|apply xD|refine xS ?_ GE151.out)|exact HB.out)⟩

/-! ### tidelineref09_Check: function 15 -/
def tidelineref09_Check.l0 : Nat → List (S44) → Int → Option (Int)
  | 0, _, _ => none
  | k + 1, x0, x3 => if x3 < (x0.length : Int) then (if 0 ≤ x3 then ((tidelineref03_Check.f ((rd_T44 x0 x3).f0) ((rd_T44 x0 x3).f1.f0) ((rd_T44 x0 x3).f1.f1) ((rd_T44 x0 x3).f2) ((rd_T44 x0 x3).f3)).bind fun t154 => (if t154 = 0 then (if x3 > 0 then (if 0 ≤ (wrap64 (x3 - 1)) then (if (wrap64 (x3 - 1)) < (x0.length : Int) then (if ((Op.bytesLess (((rd_T44 x0 (wrap64 (x3 - 1))).f0).toList) (((rd_T44 x0 x3).f0).toList)) = true) then (tidelineref09_Check.l0 k x0 (wrap64 (x3 + 1))) else (some 90)) else (none)) else (none)) else (tidelineref09_Check.l0 k x0 (wrap64 (x3 + 1)))) else (some t154))) else (none)) else (some 0)
def tidelineref09_Check.f (k : Nat) (l0 : List (S44)) : Option (Int) := tidelineref09_Check.l0 k l0 0
theorem tidelineref09_Check.mono_l : ∀ k, (∀ y0 y1, LeO (tidelineref09_Check.l0 k y0 y1) (tidelineref09_Check.l0 (k + 1) y0 y1))
  | 0 => fun _ _ r h => by simp [tidelineref09_Check.l0] at h
  | k + 1 => by
    have ih0 := tidelineref09_Check.mono_l k
    · intro y0 y1
      unfold tidelineref09_Check.l0
      repeat' first
      | (with_reducible exact ih0 _ _)
      | (with_reducible exact LeO.refl _)
      | (with_reducible exact LeO.none _)
      | (with_reducible refine LeO.ite ?_ ?_)
      | (with_reducible refine LeO.bind ?_ (fun _ => ?_))
      | exact ih0 _ _
      | exact LeO.none _
      | refine LeO.ite ?_ ?_
      | refine LeO.bind ?_ (fun _ => ?_)
theorem tidelineref09_Check.mono : ∀ a0 k, LeO (tidelineref09_Check.f k a0) (tidelineref09_Check.f (k + 1) a0) := by
  intro a0 k
  have ih0 := tidelineref09_Check.mono_l k
  unfold tidelineref09_Check.f
  repeat' first
      | (with_reducible exact ih0 _ _)
      | (with_reducible exact LeO.refl _)
      | (with_reducible exact LeO.none _)
      | (with_reducible refine LeO.ite ?_ ?_)
      | (with_reducible refine LeO.bind ?_ (fun _ => ?_))
      | exact ih0 _ _
      | exact LeO.none _
      | refine LeO.ite ?_ ?_
      | refine LeO.bind ?_ (fun _ => ?_)
set_option maxHeartbeats 8000000 in
set_option maxRecDepth 100000 in
theorem tidelineref09_Check.calls (k : Nat) (A0 : Option Addr) (c0 : Nat) (l0 : List (S44)) (r : Int) (w : World) (hr0 : Kd.C k44 w A0 l0.length l0) (hc0 : l0.length ≤ c0) (h : tidelineref09_Check.f k l0 = some r) :
    Calls Try.prog 15 #[.slice A0 l0.length c0] w fun e w' => e = .returned (.int .i64 r) ∧ Below w.heap.size w w' := by
 have hu44:=Try.underlying44
 have HR0:=Aside0.mk hr0
 have HC0:=Aside0.mk hc0
 clear hr0 hc0
 have HB:=Aside0.mk (Below.refl w.heap.size w)
 have H : (tidelineref09_Check.l0 k l0 0) = some r:=h
 clear h
 have H':=Aside0.mk H
 clear H
 go_enter Try.func15,Try.ntmps15
 go_wp2
 repeat (go_quiet (fail);try go_wp2)
 go_loopg [3] k (fun kq v3 w' => ∃ (x3_1 : Int),v3 = .int .i64 x3_1 ∧ Aside0 (tidelineref09_Check.l0 kq l0 x3_1 = some r) ∧ Aside0 (kq ≤ k) ∧ Aside0 (Below w.heap.size w w'))
 case atStart => exact ⟨(0),(by first|rfl|(simp;done)|(simp [*];done)|(simp [*,Go.Proofs.Ytghlellambnkeaa.Str.bne_nil];done)),H',⟨Nat.le_refl _⟩,⟨by repeat (first|(with_reducible first|exact HB.out|apply xA|apply xN|apply xD)|exact HB.out)⟩⟩
 case round =>
  clear H'
  try clear c1
  obtain ⟨x3_1,rfl,HA,HK1,HB⟩:=hrel
  cases gk with
 |zero => exact absurd HA.out (by simp [tidelineref09_Check.l0])
 |succ k1 =>
   have H:=HA.out
   clear HA
   simp only [tidelineref09_Check.l0] at H
   by_cases c2 : x3_1 < (l0.length : Int)
   ·rw [if_pos c2] at H
    have c2b0 : decide (x3_1 < (l0.length : Int)) = true:=decide_eq_true c2
    clear c2
    by_cases c3 : 0 ≤ x3_1
    ·rw [if_pos c3] at H
     have c3b0 : decide (0 ≤ x3_1) = true:=decide_eq_true c3
     clear c3
     replace H:=Option.bind_eq_some_iff.mp H
     obtain ⟨t154,A40,H⟩:=H
     replace H : (if t154 = 0 then (if x3_1 > 0 then (if 0 ≤ (wrap64 (x3_1 - 1)) then (if (wrap64 (x3_1 - 1)) < (l0.length : Int) then (if ((Op.bytesLess (((rd_T44 l0 (wrap64 (x3_1 - 1))).f0).toList) (((rd_T44 l0 x3_1).f0).toList)) = true) then (tidelineref09_Check.l0 k1 l0 (wrap64 (x3_1 + 1))) else (some 90)) else (none)) else (none)) else (tidelineref09_Check.l0 k1 l0 (wrap64 (x3_1 + 1)))) else (some t154)) = some r:=H
     have A4:=Aside0.mk A40
     clear A40
     by_cases c5 : t154 = 0
     ·rw [if_pos c5] at H
      have c5b0 : (t154 == 0) = true:=beq_iff_eq.mpr c5
      have c5b1 : (t154 != 0) = false:=bne_eq_false_iff_eq.mpr c5
      clear c5
      by_cases c6 : x3_1 > 0
      ·rw [if_pos c6] at H
       have c6b0 : decide (0 < x3_1) = true:=decide_eq_true c6
       clear c6
       obtain ⟨ji7,hji7⟩ : ∃ j_ : Int,(wrap64 (x3_1 - 1)) = j_:=⟨_,rfl⟩
       replace H : (if 0 ≤ (ji7) then (if (ji7) < (l0.length : Int) then (if ((Op.bytesLess (((rd_T44 l0 (ji7)).f0).toList) (((rd_T44 l0 x3_1).f0).toList)) = true) then (tidelineref09_Check.l0 k1 l0 (wrap64 (x3_1 + 1))) else (some 90)) else (none)) else (none)) = some r:=by first|(rw [hji7] at H;exact H)|(simp only [hji7] at H ⊢;exact H)
       (try rw [hji7] at A4)
       have hji7w : (IntKind.i64.wrap (x3_1 - 1)) = ji7:=(i64_w _).trans hji7
       by_cases c8 : 0 ≤ (ji7)
       ·rw [if_pos c8] at H
        have c8b0 : decide (0 ≤ (ji7)) = true:=decide_eq_true c8
        clear c8
        by_cases c9 : (ji7) < (l0.length : Int)
        ·rw [if_pos c9] at H
         have c9b0 : decide ((ji7) < (l0.length : Int)) = true:=decide_eq_true c9
         clear c9
         by_cases c10 : ((Op.bytesLess (((rd_T44 l0 (ji7)).f0).toList) (((rd_T44 l0 x3_1).f0).toList)) = true)
         ·rw [if_pos c10] at H
          have c10b0 : (Op.bytesLess (((rd_T44 l0 (ji7)).f0).toList) (((rd_T44 l0 x3_1).f0).toList)) = true:=c10
          clear c10
          have H':=Aside0.mk H
          clear H
          have p153 : 0 ≤ (x3_1 : Int):=of_decide_eq_true (by first|(with_reducible assumption)|assumption)
          have q153 : x3_1 < (l0.length : Int):=of_decide_eq_true (by first|(with_reducible assumption)|assumption)
          obtain ⟨ad153,e153,hx153_0,hx153_1,hx153_2,hx153_3,hx153_4⟩:=at_T44 HR0.out x3_1 p153 q153
          cases e153
          replace hx153_0:=(HB.out.cell (World.block_lt_of_cell? w _ hx153_0)).trans hx153_0
          replace hx153_1:=(HB.out.cell (World.block_lt_of_cell? w _ hx153_1)).trans hx153_1
          replace hx153_2:=(HB.out.cell (World.block_lt_of_cell? w _ hx153_2)).trans hx153_2
          replace hx153_3:=(HB.out.cell (World.block_lt_of_cell? w _ hx153_3)).trans hx153_3
          replace hx153_4:=(HB.out.cell (World.block_lt_of_cell? w _ hx153_4)).trans hx153_4
          replace p153:=eq_true p153
          replace q153:=eq_true q153
          go_wp2_with (first|(go_at_call 35;(with_reducible refine (tidelineref03_Check.calls ((rd_T44 l0 x3_1).f0) ((rd_T44 l0 x3_1).f1.f0) ((rd_T44 l0 x3_1).f1.f1) ((rd_T44 l0 x3_1).f2) ((rd_T44 l0 x3_1).f3) t154 _ A4.out).mono ?_);rintro e w11 ⟨rfl,hb⟩;replace HB:=Aside0.mk (below_step (by repeat (first|(with_reducible first|exact HB.out|apply xA|apply xN|apply xD)|exact HB.out)) hb);(try clear hb);(try clear hb2);(try clear hk);(try clear hi);have p155 : 0 ≤ (x3_1 : Int):=of_decide_eq_true (by first|(with_reducible assumption)|assumption);have q155 : x3_1 < (l0.length : Int):=of_decide_eq_true (by first|(with_reducible assumption)|assumption);obtain ⟨ad155,e155,hx155_0,hx155_1,hx155_2,hx155_3,hx155_4⟩:=at_T44 HR0.out x3_1 p155 q155;obtain rfl : ad153 = ad155:=(by injection e155);replace hx155_0:=(HB.out.cell (World.block_lt_of_cell? w _ hx155_0)).trans hx155_0;replace hx155_1:=(HB.out.cell (World.block_lt_of_cell? w _ hx155_1)).trans hx155_1;replace hx155_2:=(HB.out.cell (World.block_lt_of_cell? w _ hx155_2)).trans hx155_2;replace hx155_3:=(HB.out.cell (World.block_lt_of_cell? w _ hx155_3)).trans hx155_3;replace hx155_4:=(HB.out.cell (World.block_lt_of_cell? w _ hx155_4)).trans hx155_4;replace p155:=eq_true p155;replace q155:=eq_true q155;have p156 : 0 ≤ ((ji7) : Int):=of_decide_eq_true (by first|(with_reducible assumption)|assumption);have q156 : (ji7) < (l0.length : Int):=of_decide_eq_true (by first|(with_reducible assumption)|assumption);obtain ⟨ad156,e156,hx156_0,hx156_1,hx156_2,hx156_3,hx156_4⟩:=at_T44 HR0.out (ji7) p156 q156;obtain rfl : ad153 = ad156:=(by injection e156);replace hx156_0:=(HB.out.cell (World.block_lt_of_cell? w _ hx156_0)).trans hx156_0;replace hx156_1:=(HB.out.cell (World.block_lt_of_cell? w _ hx156_1)).trans hx156_1;replace hx156_2:=(HB.out.cell (World.block_lt_of_cell? w _ hx156_2)).trans hx156_2;replace hx156_3:=(HB.out.cell (World.block_lt_of_cell? w _ hx156_3)).trans hx156_3;replace hx156_4:=(HB.out.cell (World.block_lt_of_cell? w _ hx156_4)).trans hx156_4;replace p156:=eq_true p156;replace q156:=eq_true q156))
          repeat (go_quiet (first|(go_at_call 35;(with_reducible refine (tidelineref03_Check.calls ((rd_T44 l0 x3_1).f0) ((rd_T44 l0 x3_1).f1.f0) ((rd_T44 l0 x3_1).f1.f1) ((rd_T44 l0 x3_1).f2) ((rd_T44 l0 x3_1).f3) t154 _ A4.out).mono ?_);rintro e w11 ⟨rfl,hb⟩;replace HB:=Aside0.mk (below_step (by repeat (first|(with_reducible first|exact HB.out|apply xA|apply xN|apply xD)|exact HB.out)) hb);(try clear hb);(try clear hb2);(try clear hk);(try clear hi);have p155 : 0 ≤ (x3_1 : Int):=of_decide_eq_true (by first|(with_reducible assumption)|assumption);have q155 : x3_1 < (l0.length : Int):=of_decide_eq_true (by first|(with_reducible assumption)|assumption);obtain ⟨ad155,e155,hx155_0,hx155_1,hx155_2,hx155_3,hx155_4⟩:=at_T44 HR0.out x3_1 p155 q155;obtain rfl : ad153 = ad155:=(by injection e155);replace hx155_0:=(HB.out.cell (World.block_lt_of_cell? w _ hx155_0)).trans hx155_0;replace hx155_1:=(HB.out.cell (World.block_lt_of_cell? w _ hx155_1)).trans hx155_1;replace hx155_2:=(HB.out.cell (World.block_lt_of_cell? w _ hx155_2)).trans hx155_2;replace hx155_3:=(HB.out.cell (World.block_lt_of_cell? w _ hx155_3)).trans hx155_3;replace hx155_4:=(HB.out.cell (World.block_lt_of_cell? w _ hx155_4)).trans hx155_4;replace p155:=eq_true p155;replace q155:=eq_true q155;have p156 : 0 ≤ ((ji7) : Int):=of_decide_eq_true (by first|(with_reducible assumption)|assumption);have q156 : (ji7) < (l0.length : Int):=of_decide_eq_true (by first|(with_reducible assumption)|assumption);obtain ⟨ad156,e156,hx156_0,hx156_1,hx156_2,hx156_3,hx156_4⟩:=at_T44 HR0.out (ji7) p156 q156;obtain rfl : ad153 = ad156:=(by injection e156);replace hx156_0:=(HB.out.cell (World.block_lt_of_cell? w _ hx156_0)).trans hx156_0;replace hx156_1:=(HB.out.cell (World.block_lt_of_cell? w _ hx156_1)).trans hx156_1;replace hx156_2:=(HB.out.cell (World.block_lt_of_cell? w _ hx156_2)).trans hx156_2;replace hx156_3:=(HB.out.cell (World.block_lt_of_cell? w _ hx156_3)).trans hx156_3;replace hx156_4:=(HB.out.cell (World.block_lt_of_cell? w _ hx156_4)).trans hx156_4;replace p156:=eq_true p156;replace q156:=eq_true q156));try go_wp2_with (first|(go_at_call 35;(with_reducible refine (tidelineref03_Check.calls ((rd_T44 l0 x3_1).f0) ((rd_T44 l0 x3_1).f1.f0) ((rd_T44 l0 x3_1).f1.f1) ((rd_T44 l0 x3_1).f2) ((rd_T44 l0 x3_1).f3) t154 _ A4.out).mono ?_);rintro e w11 ⟨rfl,hb⟩;replace HB:=Aside0.mk (below_step (by repeat (first|(with_reducible first|exact HB.out|apply xA|apply xN|apply xD)|exact HB.out)) hb);(try clear hb);(try clear hb2);(try clear hk);(try clear hi);have p155 : 0 ≤ (x3_1 : Int):=of_decide_eq_true (by first|(with_reducible assumption)|assumption);have q155 : x3_1 < (l0.length : Int):=of_decide_eq_true (by first|(with_reducible assumption)|assumption);obtain ⟨ad155,e155,hx155_0,hx155_1,hx155_2,hx155_3,hx155_4⟩:=at_T44 HR0.out x3_1 p155 q155;obtain rfl : ad153 = ad155:=(by injection e155);replace hx155_0:=(HB.out.cell (World.block_lt_of_cell? w _ hx155_0)).trans hx155_0;replace hx155_1:=(HB.out.cell (World.block_lt_of_cell? w _ hx155_1)).trans hx155_1;replace hx155_2:=(HB.out.cell (World.block_lt_of_cell? w _ hx155_2)).trans hx155_2;replace hx155_3:=(HB.out.cell (World.block_lt_of_cell? w _ hx155_3)).trans hx155_3;replace hx155_4:=(HB.out.cell (World.block_lt_of_cell? w _ hx155_4)).trans hx155_4;replace p155:=eq_true p155;replace q155:=eq_true q155;have p156 : 0 ≤ ((ji7) : Int):=of_decide_eq_true (by first|(with_reducible assumption)|assumption);have q156 : (ji7) < (l0.length : Int):=of_decide_eq_true (by first|(with_reducible assumption)|assumption);obtain ⟨ad156,e156,hx156_0,hx156_1,hx156_2,hx156_3,hx156_4⟩:=at_T44 HR0.out (ji7) p156 q156;obtain rfl : ad153 = ad156:=(by injection e156);replace hx156_0:=(HB.out.cell (World.block_lt_of_cell? w _ hx156_0)).trans hx156_0;replace hx156_1:=(HB.out.cell (World.block_lt_of_cell? w _ hx156_1)).trans hx156_1;replace hx156_2:=(HB.out.cell (World.block_lt_of_cell? w _ hx156_2)).trans hx156_2;replace hx156_3:=(HB.out.cell (World.block_lt_of_cell? w _ hx156_3)).trans hx156_3;replace hx156_4:=(HB.out.cell (World.block_lt_of_cell? w _ hx156_4)).trans hx156_4;replace p156:=eq_true p156;replace q156:=eq_true q156)))
          go_roundg k1
          case measure => have:=HK1.out;omega
          case rel => exact ⟨(wrap64 (x3_1 + 1)),(by first|rfl|(simp;done)|(simp [*];done)|(simp [*,Go.Proofs.Ytghlellambnkeaa.Str.bne_nil];done)),H',⟨by have:=HK1.out;omega⟩,⟨by repeat (first|(with_reducible first|exact HB.out|apply xA|apply xN|apply xD)|exact HB.out)⟩⟩
         ·rw [if_neg c10] at H
          have c10b0 : (Op.bytesLess (((rd_T44 l0 (ji7)).f0).toList) (((rd_T44 l0 x3_1).f0).toList)) = false:=by simpa using c10
          clear c10
          obtain rfl:=Option.some.inj H
          have p153 : 0 ≤ (x3_1 : Int):=of_decide_eq_true (by first|(with_reducible assumption)|assumption)
          have q153 : x3_1 < (l0.length : Int):=of_decide_eq_true (by first|(with_reducible assumption)|assumption)
          obtain ⟨ad153,e153,hx153_0,hx153_1,hx153_2,hx153_3,hx153_4⟩:=at_T44 HR0.out x3_1 p153 q153
          cases e153
          replace hx153_0:=(HB.out.cell (World.block_lt_of_cell? w _ hx153_0)).trans hx153_0
          replace hx153_1:=(HB.out.cell (World.block_lt_of_cell? w _ hx153_1)).trans hx153_1
          replace hx153_2:=(HB.out.cell (World.block_lt_of_cell? w _ hx153_2)).trans hx153_2
          replace hx153_3:=(HB.out.cell (World.block_lt_of_cell? w _ hx153_3)).trans hx153_3
          replace hx153_4:=(HB.out.cell (World.block_lt_of_cell? w _ hx153_4)).trans hx153_4
          replace p153:=eq_true p153
          replace q153:=eq_true q153
          go_wp2_with (first|(go_at_call 35;(with_reducible refine (tidelineref03_Check.calls ((rd_T44 l0 x3_1).f0) ((rd_T44 l0 x3_1).f1.f0) ((rd_T44 l0 x3_1).f1.f1) ((rd_T44 l0 x3_1).f2) ((rd_T44 l0 x3_1).f3) t154 _ A4.out).mono ?_);rintro e w12 ⟨rfl,hb⟩;replace HB:=Aside0.mk (below_step (by repeat (first|(with_reducible first|exact HB.out|apply xA|apply xN|apply xD)|exact HB.out)) hb);(try clear hb);(try clear hb2);(try clear hk);(try clear hi);have p155 : 0 ≤ (x3_1 : Int):=of_decide_eq_true (by first|(with_reducible assumption)|assumption);have q155 : x3_1 < (l0.length : Int):=of_decide_eq_true (by first|(with_reducible assumption)|assumption);obtain ⟨ad155,e155,hx155_0,hx155_1,hx155_2,hx155_3,hx155_4⟩:=at_T44 HR0.out x3_1 p155 q155;obtain rfl : ad153 = ad155:=(by injection e155);replace hx155_0:=(HB.out.cell (World.block_lt_of_cell? w _ hx155_0)).trans hx155_0;replace hx155_1:=(HB.out.cell (World.block_lt_of_cell? w _ hx155_1)).trans hx155_1;replace hx155_2:=(HB.out.cell (World.block_lt_of_cell? w _ hx155_2)).trans hx155_2;replace hx155_3:=(HB.out.cell (World.block_lt_of_cell? w _ hx155_3)).trans hx155_3;replace hx155_4:=(HB.out.cell (World.block_lt_of_cell? w _ hx155_4)).trans hx155_4;replace p155:=eq_true p155;replace q155:=eq_true q155;have p156 : 0 ≤ ((ji7) : Int):=of_decide_eq_true (by first|(with_reducible assumption)|assumption);have q156 : (ji7) < (l0.length : Int):=of_decide_eq_true (by first|(with_reducible assumption)|assumption);obtain ⟨ad156,e156,hx156_0,hx156_1,hx156_2,hx156_3,hx156_4⟩:=at_T44 HR0.out (ji7) p156 q156;obtain rfl : ad153 = ad156:=(by injection e156);replace hx156_0:=(HB.out.cell (World.block_lt_of_cell? w _ hx156_0)).trans hx156_0;replace hx156_1:=(HB.out.cell (World.block_lt_of_cell? w _ hx156_1)).trans hx156_1;replace hx156_2:=(HB.out.cell (World.block_lt_of_cell? w _ hx156_2)).trans hx156_2;replace hx156_3:=(HB.out.cell (World.block_lt_of_cell? w _ hx156_3)).trans hx156_3;replace hx156_4:=(HB.out.cell (World.block_lt_of_cell? w _ hx156_4)).trans hx156_4;replace p156:=eq_true p156;replace q156:=eq_true q156))
          repeat (go_quiet (first|(go_at_call 35;(with_reducible refine (tidelineref03_Check.calls ((rd_T44 l0 x3_1).f0) ((rd_T44 l0 x3_1).f1.f0) ((rd_T44 l0 x3_1).f1.f1) ((rd_T44 l0 x3_1).f2) ((rd_T44 l0 x3_1).f3) t154 _ A4.out).mono ?_);rintro e w12 ⟨rfl,hb⟩;replace HB:=Aside0.mk (below_step (by repeat (first|(with_reducible first|exact HB.out|apply xA|apply xN|apply xD)|exact HB.out)) hb);(try clear hb);(try clear hb2);(try clear hk);(try clear hi);have p155 : 0 ≤ (x3_1 : Int):=of_decide_eq_true (by first|(with_reducible assumption)|assumption);have q155 : x3_1 < (l0.length : Int):=of_decide_eq_true (by first|(with_reducible assumption)|assumption);obtain ⟨ad155,e155,hx155_0,hx155_1,hx155_2,hx155_3,hx155_4⟩:=at_T44 HR0.out x3_1 p155 q155;obtain rfl : ad153 = ad155:=(by injection e155);replace hx155_0:=(HB.out.cell (World.block_lt_of_cell? w _ hx155_0)).trans hx155_0;replace hx155_1:=(HB.out.cell (World.block_lt_of_cell? w _ hx155_1)).trans hx155_1;replace hx155_2:=(HB.out.cell (World.block_lt_of_cell? w _ hx155_2)).trans hx155_2;replace hx155_3:=(HB.out.cell (World.block_lt_of_cell? w _ hx155_3)).trans hx155_3;replace hx155_4:=(HB.out.cell (World.block_lt_of_cell? w _ hx155_4)).trans hx155_4;replace p155:=eq_true p155;replace q155:=eq_true q155;have p156 : 0 ≤ ((ji7) : Int):=of_decide_eq_true (by first|(with_reducible assumption)|assumption);have q156 : (ji7) < (l0.length : Int):=of_decide_eq_true (by first|(with_reducible assumption)|assumption);obtain ⟨ad156,e156,hx156_0,hx156_1,hx156_2,hx156_3,hx156_4⟩:=at_T44 HR0.out (ji7) p156 q156;obtain rfl : ad153 = ad156:=(by injection e156);replace hx156_0:=(HB.out.cell (World.block_lt_of_cell? w _ hx156_0)).trans hx156_0;replace hx156_1:=(HB.out.cell (World.block_lt_of_cell? w _ hx156_1)).trans hx156_1;replace hx156_2:=(HB.out.cell (World.block_lt_of_cell? w _ hx156_2)).trans hx156_2;replace hx156_3:=(HB.out.cell (World.block_lt_of_cell? w _ hx156_3)).trans hx156_3;replace hx156_4:=(HB.out.cell (World.block_lt_of_cell? w _ hx156_4)).trans hx156_4;replace p156:=eq_true p156;replace q156:=eq_true q156));try go_wp2_with (first|(go_at_call 35;(with_reducible refine (tidelineref03_Check.calls ((rd_T44 l0 x3_1).f0) ((rd_T44 l0 x3_1).f1.f0) ((rd_T44 l0 x3_1).f1.f1) ((rd_T44 l0 x3_1).f2) ((rd_T44 l0 x3_1).f3) t154 _ A4.out).mono ?_);rintro e w12 ⟨rfl,hb⟩;replace HB:=Aside0.mk (below_step (by repeat (first|(with_reducible first|exact HB.out|apply xA|apply xN|apply xD)|exact HB.out)) hb);(try clear hb);(try clear hb2);(try clear hk);(try clear hi);have p155 : 0 ≤ (x3_1 : Int):=of_decide_eq_true (by first|(with_reducible assumption)|assumption);have q155 : x3_1 < (l0.length : Int):=of_decide_eq_true (by first|(with_reducible assumption)|assumption);obtain ⟨ad155,e155,hx155_0,hx155_1,hx155_2,hx155_3,hx155_4⟩:=at_T44 HR0.out x3_1 p155 q155;obtain rfl : ad153 = ad155:=(by injection e155);replace hx155_0:=(HB.out.cell (World.block_lt_of_cell? w _ hx155_0)).trans hx155_0;replace hx155_1:=(HB.out.cell (World.block_lt_of_cell? w _ hx155_1)).trans hx155_1;replace hx155_2:=(HB.out.cell (World.block_lt_of_cell? w _ hx155_2)).trans hx155_2;replace hx155_3:=(HB.out.cell (World.block_lt_of_cell? w _ hx155_3)).trans hx155_3;replace hx155_4:=(HB.out.cell (World.block_lt_of_cell? w _ hx155_4)).trans hx155_4;replace p155:=eq_true p155;replace q155:=eq_true q155;have p156 : 0 ≤ ((ji7) : Int):=of_decide_eq_true (by first|(with_reducible assumption)|assumption);have q156 : (ji7) < (l0.length : Int):=of_decide_eq_true (by first|(with_reducible assumption)|assumption);obtain ⟨ad156,e156,hx156_0,hx156_1,hx156_2,hx156_3,hx156_4⟩:=at_T44 HR0.out (ji7) p156 q156;obtain rfl : ad153 = ad156:=(by injection e156);replace hx156_0:=(HB.out.cell (World.block_lt_of_cell? w _ hx156_0)).trans hx156_0;replace hx156_1:=(HB.out.cell (World.block_lt_of_cell? w _ hx156_1)).trans hx156_1;replace hx156_2:=(HB.out.cell (World.block_lt_of_cell? w _ hx156_2)).trans hx156_2;replace hx156_3:=(HB.out.cell (World.block_lt_of_cell? w _ hx156_3)).trans hx156_3;replace hx156_4:=(HB.out.cell (World.block_lt_of_cell? w _ hx156_4)).trans hx156_4;replace p156:=eq_true p156;replace q156:=eq_true q156)))
          go_ret
          exact ⟨by first|rfl|(simp [errW_none,errW_some] <;> rfl)|(simp only [← hji7];first|rfl|(simp [errW_none,errW_some] <;> rfl))|(simp [*,errW_none,errW_some] <;> rfl),by repeat (first|(with_reducible first|exact HB.out|apply xA|apply xN|apply xD)|exact HB.out)⟩
        ·rw [if_neg c9] at H
         exact absurd H (by simp)
       ·rw [if_neg c8] at H
        exact absurd H (by simp)
      ·rw [if_neg c6] at H
       have c6b0 : decide (0 < x3_1) = false:=decide_eq_false c6
       clear c6
       have H':=Aside0.mk H
       clear H
       have p153 : 0 ≤ (x3_1 : Int):=of_decide_eq_true (by first|(with_reducible assumption)|assumption)
       have q153 : x3_1 < (l0.length : Int):=of_decide_eq_true (by first|(with_reducible assumption)|assumption)
       obtain ⟨ad153,e153,hx153_0,hx153_1,hx153_2,hx153_3,hx153_4⟩:=at_T44 HR0.out x3_1 p153 q153
       cases e153
       replace hx153_0:=(HB.out.cell (World.block_lt_of_cell? w _ hx153_0)).trans hx153_0
       replace hx153_1:=(HB.out.cell (World.block_lt_of_cell? w _ hx153_1)).trans hx153_1
       replace hx153_2:=(HB.out.cell (World.block_lt_of_cell? w _ hx153_2)).trans hx153_2
       replace hx153_3:=(HB.out.cell (World.block_lt_of_cell? w _ hx153_3)).trans hx153_3
       replace hx153_4:=(HB.out.cell (World.block_lt_of_cell? w _ hx153_4)).trans hx153_4
       replace p153:=eq_true p153
       replace q153:=eq_true q153
       go_wp2_with (first|(go_at_call 35;(with_reducible refine (tidelineref03_Check.calls ((rd_T44 l0 x3_1).f0) ((rd_T44 l0 x3_1).f1.f0) ((rd_T44 l0 x3_1).f1.f1) ((rd_T44 l0 x3_1).f2) ((rd_T44 l0 x3_1).f3) t154 _ A4.out).mono ?_);rintro e w13 ⟨rfl,hb⟩;replace HB:=Aside0.mk (below_step (by repeat (first|(with_reducible first|exact HB.out|apply xA|apply xN|apply xD)|exact HB.out)) hb);(try clear hb);(try clear hb2);(try clear hk);(try clear hi)))
       repeat (go_quiet (first|(go_at_call 35;(with_reducible refine (tidelineref03_Check.calls ((rd_T44 l0 x3_1).f0) ((rd_T44 l0 x3_1).f1.f0) ((rd_T44 l0 x3_1).f1.f1) ((rd_T44 l0 x3_1).f2) ((rd_T44 l0 x3_1).f3) t154 _ A4.out).mono ?_);rintro e w13 ⟨rfl,hb⟩;replace HB:=Aside0.mk (below_step (by repeat (first|(with_reducible first|exact HB.out|apply xA|apply xN|apply xD)|exact HB.out)) hb);(try clear hb);(try clear hb2);(try clear hk);(try clear hi)));try go_wp2_with (first|(go_at_call 35;(with_reducible refine (tidelineref03_Check.calls ((rd_T44 l0 x3_1).f0) ((rd_T44 l0 x3_1).f1.f0) ((rd_T44 l0 x3_1).f1.f1) ((rd_T44 l0 x3_1).f2) ((rd_T44 l0 x3_1).f3) t154 _ A4.out).mono ?_);rintro e w13 ⟨rfl,hb⟩;replace HB:=Aside0.mk (below_step (by repeat (first|(with_reducible first|exact HB.out|apply xA|apply xN|apply xD)|exact HB.out)) hb);(try clear hb);(try clear hb2);(try clear hk);(try clear hi))))
       go_roundg k1
       case measure => have:=HK1.out;omega
       case rel => exact ⟨(wrap64 (x3_1 + 1)),(by first|rfl|(simp;done)|(simp [*];done)|(simp [*,Go.Proofs.Ytghlellambnkeaa.Str.bne_nil];done)),H',⟨by have:=HK1.out;omega⟩,⟨by repeat (first|(with_reducible first|exact HB.out|apply xA|apply xN|apply xD)|exact HB.out)⟩⟩
     ·rw [if_neg c5] at H
      have c5b0 : (t154 == 0) = false:=beq_eq_false_iff_ne.mpr c5
      have c5b1 : (t154 != 0) = true:=bne_iff_ne.mpr c5
      obtain rfl:=Option.some.inj H
      have p153 : 0 ≤ (x3_1 : Int):=of_decide_eq_true (by first|(with_reducible assumption)|assumption)
      have q153 : x3_1 < (l0.length : Int):=of_decide_eq_true (by first|(with_reducible assumption)|assumption)
      obtain ⟨ad153,e153,hx153_0,hx153_1,hx153_2,hx153_3,hx153_4⟩:=at_T44 HR0.out x3_1 p153 q153
      cases e153
      replace hx153_0:=(HB.out.cell (World.block_lt_of_cell? w _ hx153_0)).trans hx153_0
      replace hx153_1:=(HB.out.cell (World.block_lt_of_cell? w _ hx153_1)).trans hx153_1
      replace hx153_2:=(HB.out.cell (World.block_lt_of_cell? w _ hx153_2)).trans hx153_2
      replace hx153_3:=(HB.out.cell (World.block_lt_of_cell? w _ hx153_3)).trans hx153_3
      replace hx153_4:=(HB.out.cell (World.block_lt_of_cell? w _ hx153_4)).trans hx153_4
      replace p153:=eq_true p153
      replace q153:=eq_true q153
      go_wp2_with (first|(go_at_call 35;(with_reducible refine (tidelineref03_Check.calls ((rd_T44 l0 x3_1).f0) ((rd_T44 l0 x3_1).f1.f0) ((rd_T44 l0 x3_1).f1.f1) ((rd_T44 l0 x3_1).f2) ((rd_T44 l0 x3_1).f3) t154 _ A4.out).mono ?_);rintro e w14 ⟨rfl,hb⟩;replace HB:=Aside0.mk (below_step (by repeat (first|(with_reducible first|exact HB.out|apply xA|apply xN|apply xD)|exact HB.out)) hb);(try clear hb);(try clear hb2);(try clear hk);(try clear hi)))
      repeat (go_quiet (first|(go_at_call 35;(with_reducible refine (tidelineref03_Check.calls ((rd_T44 l0 x3_1).f0) ((rd_T44 l0 x3_1).f1.f0) ((rd_T44 l0 x3_1).f1.f1) ((rd_T44 l0 x3_1).f2) ((rd_T44 l0 x3_1).f3) t154 _ A4.out).mono ?_);rintro e w14 ⟨rfl,hb⟩;replace HB:=Aside0.mk (below_step (by repeat (first|(with_reducible first|exact HB.out|apply xA|apply xN|apply xD)|exact HB.out)) hb);(try clear hb);(try clear hb2);(try clear hk);(try clear hi)));try go_wp2_with (first|(go_at_call 35;(with_reducible refine (tidelineref03_Check.calls ((rd_T44 l0 x3_1).f0) ((rd_T44 l0 x3_1).f1.f0) ((rd_T44 l0 x3_1).f1.f1) ((rd_T44 l0 x3_1).f2) ((rd_T44 l0 x3_1).f3) t154 _ A4.out).mono ?_);rintro e w14 ⟨rfl,hb⟩;replace HB:=Aside0.mk (below_step (by repeat (first|(with_reducible first|exact HB.out|apply xA|apply xN|apply xD)|exact HB.out)) hb);(try clear hb);(try clear hb2);(try clear hk);(try clear hi))))
      go_ret
      exact ⟨by first|rfl|(simp [errW_none,errW_some] <;> rfl)|(simp [*,errW_none,errW_some] <;> rfl),by repeat (first|(with_reducible first|exact HB.out|apply xA|apply xN|apply xD)|exact HB.out)⟩
    ·rw [if_neg c3] at H
     exact absurd H (by simp)
   ·rw [if_neg c2] at H
    have c2b0 : decide (x3_1 < (l0.length : Int)) = false:=decide_eq_false c2
    clear c2
    obtain rfl:=Option.some.inj H
    go_wp2
    repeat (go_quiet (fail);try go_wp2)
    go_ret
    exact ⟨by first|rfl|(simp [errW_none,errW_some] <;> rfl)|(simp [*,errW_none,errW_some] <;> rfl),by repeat (first|(with_reducible first|exact HB.out|apply xA|apply xN|apply xD)|exact HB.out)⟩

/-! ### tidelineref09_check: function 40 -/
def tidelineref09_check.f (k : Nat) (l0 : List (S44)) (l1 : List (S44)) : Option (Int) := (tidelineref09_Check.f k l0).bind fun t157 => (if t157 = 0 then ((tidelineref09_Check.f k l1).bind fun t158 => (some t158)) else (some t157))
theorem tidelineref09_check.mono : ∀ a0 a1 k, LeO (tidelineref09_check.f k a0 a1) (tidelineref09_check.f (k + 1) a0 a1) := by
  intro a0 a1 k
  unfold tidelineref09_check.f
  repeat' first
      | (with_reducible exact tidelineref09_Check.mono _ _)
      | (with_reducible exact LeO.refl _)
      | (with_reducible exact LeO.none _)
      | (with_reducible refine LeO.ite ?_ ?_)
      | (with_reducible refine LeO.bind ?_ (fun _ => ?_))
      | exact tidelineref09_Check.mono _ _
      | exact LeO.none _
      | refine LeO.ite ?_ ?_
      | refine LeO.bind ?_ (fun _ => ?_)
set_option maxHeartbeats 8000000 in
set_option maxRecDepth 100000 in
theorem tidelineref09_check.calls (k : Nat) (A0 : Option Addr) (c0 : Nat) (l0 : List (S44)) (A1 : Option Addr) (c1 : Nat) (l1 : List (S44)) (r : Int) (w : World) (hr0 : Kd.C k44 w A0 l0.length l0) (hc0 : l0.length ≤ c0) (hr1 : Kd.C k44 w A1 l1.length l1) (hc1 : l1.length ≤ c1) (h : tidelineref09_check.f k l0 l1 = some r) :
    Calls Try.prog 40 #[.slice A0 l0.length c0, .slice A1 l1.length c1] w fun e w' => e = .returned (.int .i64 r) ∧ Below w.heap.size w w' := by
 have HR0:=Aside0.mk hr0
 have HC0:=Aside0.mk hc0
 clear hr0 hc0
 have HR1:=Aside0.mk hr1
 have HC1:=Aside0.mk hc1
 clear hr1 hc1
 have HB:=Aside0.mk (Below.refl w.heap.size w)
 have H : ((tidelineref09_Check.f k l0).bind fun t157 => (if t157 = 0 then ((tidelineref09_Check.f k l1).bind fun t158 => (some t158)) else (some t157))) = some r:=h
 clear h
 replace H:=Option.bind_eq_some_iff.mp H
 obtain ⟨t157,A30,H⟩:=H
 replace H : (if t157 = 0 then ((tidelineref09_Check.f k l1).bind fun t158 => (some t158)) else (some t157)) = some r:=H
 have A3:=Aside0.mk A30
 clear A30
 by_cases c4 : t157 = 0
 ·rw [if_pos c4] at H
  have c4b0 : (t157 == 0) = true:=beq_iff_eq.mpr c4
  have c4b1 : (t157 != 0) = false:=bne_eq_false_iff_eq.mpr c4
  clear c4
  replace H:=Option.bind_eq_some_iff.mp H
  obtain ⟨t158,A50,H⟩:=H
  replace H : (some t158) = some r:=H
  have A5:=Aside0.mk A50
  clear A50
  obtain rfl:=Option.some.inj H
  go_enter Try.func40,Try.ntmps40
  go_wp2_with (first|((with_reducible refine gate_callee (f:=15) rfl ?_);refine goesL_ (some 7) rfl rfl Try.func15 (by kernel_rfl) rfl #[.slice A0 l0.length c0] rfl (by (try simp only [List.map_toArray,List.map_cons,List.map_nil]);first|done|rfl|(simp only [List.length_drop,List.length_take];rfl)) ?_;(with_reducible refine (tidelineref09_Check.calls k _ _ l0 t157 _ ?side1 ?side2 A3.out).mono ?_);(case side1 => repeat (first|exact HR0.out|(with_reducible refine Kd.C_alloc ?_ _)|(with_reducible refine Kd.C_drewN ?_ _)|(with_reducible refine Kd.C_drew ?_)));(case side2 => exact HC0.out);rintro e w6 ⟨rfl,hb⟩;refine ⟨_,rfl,?_⟩;replace HB:=Aside0.mk (below_step (by repeat (first|(with_reducible first|exact HB.out|apply xA|apply xN|apply xD)|exact HB.out)) hb);(try clear hb);(try clear hb2);(try clear hk);(try clear hi))|((with_reducible refine gate_callee (f:=15) rfl ?_);refine goesL_ (some 12) rfl rfl Try.func15 (by kernel_rfl) rfl #[.slice A1 l1.length c1] rfl (by (try simp only [List.map_toArray,List.map_cons,List.map_nil]);first|done|rfl|(simp only [List.length_drop,List.length_take];rfl)) ?_;(with_reducible refine (tidelineref09_Check.calls k _ _ l1 t158 _ ?side1 ?side2 A5.out).mono ?_);(case side1 => repeat (first|exact (Kd.C_below HR1.out HB.out)|(with_reducible refine Kd.C_alloc ?_ _)|(with_reducible refine Kd.C_drewN ?_ _)|(with_reducible refine Kd.C_drew ?_)));(case side2 => exact HC1.out);rintro e w7 ⟨rfl,hb⟩;refine ⟨_,rfl,?_⟩;replace HB:=Aside0.mk (below_step (by repeat (first|(with_reducible first|exact HB.out|apply xA|apply xN|apply xD)|exact HB.out)) hb);(try clear hb);(try clear hb2);(try clear hk);(try clear hi)))
  go_ret
  exact ⟨by first|rfl|(simp [errW_none,errW_some] <;> rfl)|(simp [*,errW_none,errW_some] <;> rfl),by repeat (first|(with_reducible first|exact HB.out|apply xA|apply xN|apply xD)|exact HB.out)⟩
 ·rw [if_neg c4] at H
  have c4b0 : (t157 == 0) = false:=beq_eq_false_iff_ne.mpr c4
  have c4b1 : (t157 != 0) = true:=bne_iff_ne.mpr c4
  obtain rfl:=Option.some.inj H
  go_enter Try.func40,Try.ntmps40
  go_wp2_with (first|((with_reducible refine gate_callee (f:=15) rfl ?_);refine goesL_ (some 7) rfl rfl Try.func15 (by kernel_rfl) rfl #[.slice A0 l0.length c0] rfl (by (try simp only [List.map_toArray,List.map_cons,List.map_nil]);first|done|rfl|(simp only [List.length_drop,List.length_take];rfl)) ?_;(with_reducible refine (tidelineref09_Check.calls k _ _ l0 t157 _ ?side1 ?side2 A3.out).mono ?_);(case side1 => repeat (first|exact HR0.out|(with_reducible refine Kd.C_alloc ?_ _)|(with_reducible refine Kd.C_drewN ?_ _)|(with_reducible refine Kd.C_drew ?_)));(case side2 => exact HC0.out);rintro e w8 ⟨rfl,hb⟩;refine ⟨_,rfl,?_⟩;replace HB:=Aside0.mk (below_step (by repeat (first|(with_reducible first|exact HB.out|apply xA|apply xN|apply xD)|exact HB.out)) hb);(try clear hb);(try clear hb2);(try clear hk);(try clear hi)))
  go_ret
  exact ⟨by first|rfl|(simp [errW_none,errW_some] <;> rfl)|(simp [*,errW_none,errW_some] <;> rfl),by repeat (first|(with_reducible first|exact HB.out|apply xA|apply xN|apply xD)|exact HB.out)⟩

end Go.Proofs.Ytghlellambnkeaa.PAll
