-- By wip/pr.py (a program of this session, over the kit's print): lines written by program. Not trusted: Lean checks them.
import Derived.Test.YtgdhgamolenfgaaPAllx0
import Derived.Test.YtgdhgamolenfgaaPAllx1
import Derived.Test.YtgdhgamolenfgaaPAllx2
import Derived.Test.YtgdhgamolenfgaaPAllx4
import Derived.Test.YtgdhgamolenfgaaPAllx5
import Derived.Test.YtgdhgamolenfgaaPAllx6
namespace Go.Proofs.Ytgdhgamolenfgaa.PAll
open Go.RowKit Go.Proofs.YtgdhgamolenfgaaW.PrintWords Go.Proofs.YtgdhgamolenfgaaW.PrintLast Go.Proofs.YtgdhgamolenfgaaW.PrintMore
attribute [local go_sem] max2_int min2_int max_two min_two max_three min_three max_four min_four   -- for this text's walks alone
set_option linter.unusedVariables false
set_option linter.unusedSimpArgs false

attribute [local go_sem high] eqA23
/-! ### tidelinelaw02_SpanMeets: function 9 -/
set_option maxHeartbeats 8000000 in
set_option maxRecDepth 100000 in
theorem tidelinelaw02_SpanMeets.calls (k : Nat) (a0_0 : ByteArray) (a0_1 : ByteArray) (a0_2 : Bool) (a1_0 : ByteArray) (a1_1 : ByteArray) (a1_2 : Bool) (a2_0 : ByteArray) (a2_1 : ByteArray) (a2_2 : Bool) (r : Bool) (w : World) (hG : Glob.GlobOK w) (h : tidelinelaw02_SpanMeets.f k a0_0 a0_1 a0_2 a1_0 a1_1 a1_2 a2_0 a2_1 a2_2 = some r) :
    Calls Try.prog 9 #[.agg #[.string a0_0, .string a0_1, .bool a0_2], .agg #[.string a1_0, .string a1_1, .bool a1_2], .agg #[.string a2_0, .string a2_1, .bool a2_2]] w fun e w' => e = .returned (.bool r) ∧ Below w.heap.size w w' := by
 have HG := Aside0.mk hG
 clear hG
 have hu23:=Try.underlying23
 have HB:=Aside0.mk (Below.refl w.heap.size w)
 have H : ((tidelinelaw02_shown.f k).bind fun t200 => (if t200 = true then ((span_Check.f k a0_0 a0_1 a0_2).bind fun t201 => (if t201 = 0 then ((span_Check.f k a1_0 a1_1 a1_2).bind fun t202 => (if t202 = 0 then ((span_Check.f k a2_0 a2_1 a2_2).bind fun t203 => (tidelinelaw02_SpanMeets.j0 k (t203 != 0) a0_0 a0_1 a0_2 a1_0 a1_1 a1_2 a2_0 a2_1 a2_2)) else (tidelinelaw02_SpanMeets.j0 k true a0_0 a0_1 a0_2 a1_0 a1_1 a1_2 a2_0 a2_1 a2_2))) else (tidelinelaw02_SpanMeets.j0 k true a0_0 a0_1 a0_2 a1_0 a1_1 a1_2 a2_0 a2_1 a2_2))) else (none))) = some r:=h
 clear h
 replace H:=Option.bind_eq_some_iff.mp H
 obtain ⟨t200,A40,H⟩:=H
 replace H : (if t200 = true then ((span_Check.f k a0_0 a0_1 a0_2).bind fun t201 => (if t201 = 0 then ((span_Check.f k a1_0 a1_1 a1_2).bind fun t202 => (if t202 = 0 then ((span_Check.f k a2_0 a2_1 a2_2).bind fun t203 => (tidelinelaw02_SpanMeets.j0 k (t203 != 0) a0_0 a0_1 a0_2 a1_0 a1_1 a1_2 a2_0 a2_1 a2_2)) else (tidelinelaw02_SpanMeets.j0 k true a0_0 a0_1 a0_2 a1_0 a1_1 a1_2 a2_0 a2_1 a2_2))) else (tidelinelaw02_SpanMeets.j0 k true a0_0 a0_1 a0_2 a1_0 a1_1 a1_2 a2_0 a2_1 a2_2))) else (none)) = some r:=H
 have A4:=Aside0.mk A40
 clear A40
 by_cases c5 : t200 = true
 ·subst c5
  have H1 : ((span_Check.f k a0_0 a0_1 a0_2).bind fun t201 => (if t201 = 0 then ((span_Check.f k a1_0 a1_1 a1_2).bind fun t202 => (if t202 = 0 then ((span_Check.f k a2_0 a2_1 a2_2).bind fun t203 => (tidelinelaw02_SpanMeets.j0 k (t203 != 0) a0_0 a0_1 a0_2 a1_0 a1_1 a1_2 a2_0 a2_1 a2_2)) else (tidelinelaw02_SpanMeets.j0 k true a0_0 a0_1 a0_2 a1_0 a1_1 a1_2 a2_0 a2_1 a2_2))) else (tidelinelaw02_SpanMeets.j0 k true a0_0 a0_1 a0_2 a1_0 a1_1 a1_2 a2_0 a2_1 a2_2))) = some r:=by rw [if_pos rfl] at H;exact H
  clear H
  have H:=H1
  clear H1
  have HC6:=Aside0.mk H
  clear H
  go_enter Try.func9,Try.ntmps9
  go_upto_region 3 with (first|((with_reducible refine gate_dst (N:=3) rfl ?_);refine box_event ?hg (N:=3) ?hd (cs:=#[.string a0_0,.string a0_1,.bool a0_2]) (t:=23) ?hr ?_;(case hd => rfl);(case hg => rfl);(case hr => first|(go_simp;done)|(go_simp;rfl));intro gb197 hg w7 hbox hb;have n0_:=Aside0.mk (below_step (by repeat (first|(with_reducible first|exact HB.out|apply xA|apply xN|apply xD)|exact HB.out)) hb);have n1_:=Aside0.mk (hbox);have n2_:=Aside0.mk ((by rw [hg];exact (below_size (by repeat (first|(with_reducible first|exact HB.out|apply xA|apply xN|apply xD)|exact HB.out))) : w.heap.size ≤ gb197));have n3_:=Aside0.mk ((by rw [hg];exact (below_size (by repeat (first|(with_reducible first|exact HB.out|apply xA|apply xN|apply xD)|exact HB.out))) : w.heap.size ≤ gb197));clear HB;have HB:=n0_;have BK197:=n1_;have GW197:=n2_;have GE197:=n3_;clear n0_ n1_ n2_ n3_;clear hb hbox hg)|((with_reducible refine gate_dst (N:=4) rfl ?_);refine box_event ?hg (N:=4) ?hd (cs:=#[.string a1_0,.string a1_1,.bool a1_2]) (t:=23) ?hr ?_;(case hd => rfl);(case hg => rfl);(case hr => first|(go_simp;done)|(go_simp;rfl));intro gb198 hg w8 hbox hb;have n0_:=bk (by (with_reducible repeat first|apply bN|apply bD|apply bA);exact BK197.out) hb;have n1_:=Aside0.mk (below_step (by repeat (first|(with_reducible first|exact HB.out|apply xA|apply xN|apply xD|refine xS ?_ GE197.out)|exact HB.out)) hb);have n2_:=Aside0.mk (hbox);have n3_:=Aside0.mk ((by rw [hg];exact (below_size (by repeat (first|(with_reducible first|exact HB.out|apply xA|apply xN|apply xD|refine xS ?_ GE197.out)|exact HB.out))) : w.heap.size ≤ gb198));have n4_:=Aside0.mk ((by rw [hg];exact (below_size (by repeat (first|(with_reducible first|exact HB.out|apply xA|apply xN|apply xD|refine xS ?_ GE197.out)|exact HB.out))) : w.heap.size ≤ gb198));have n5_:=Aside0.mk ((by rw [hg];exact Nat.ne_of_lt (blk_lt (g:=gb197) (o:=.cells #[.string a0_0,.string a0_1,.bool a0_2] 23 (0,0)) (by (with_reducible repeat first|apply bN|apply bD|apply bA);exact BK197.out)) : gb197 ≠ gb198));have n6_:=Aside0.mk ((by rw [hg];exact Nat.ne_of_gt (blk_lt (g:=gb197) (o:=.cells #[.string a0_0,.string a0_1,.bool a0_2] 23 (0,0)) (by (with_reducible repeat first|apply bN|apply bD|apply bA);exact BK197.out)) : gb198 ≠ gb197));clear BK197;clear HB;have BK197:=n0_;have HB:=n1_;have BK198:=n2_;have GW198:=n3_;have GE198:=n4_;have NB197_198:=n5_;have NB198_197:=n6_;clear n0_ n1_ n2_ n3_ n4_ n5_ n6_;clear hb hbox hg)|((with_reducible refine gate_dst (N:=5) rfl ?_);refine box_event ?hg (N:=5) ?hd (cs:=#[.string a2_0,.string a2_1,.bool a2_2]) (t:=23) ?hr ?_;(case hd => rfl);(case hg => rfl);(case hr => first|(go_simp;done)|(go_simp;rfl));intro gb199 hg w9 hbox hb;have n0_:=bk (by (with_reducible repeat first|apply bN|apply bD|apply bA);exact BK197.out) hb;have n1_:=bk (by (with_reducible repeat first|apply bN|apply bD|apply bA);exact BK198.out) hb;have n2_:=Aside0.mk (below_step (by repeat (first|(with_reducible first|exact HB.out|apply xA|apply xN|apply xD|refine xS ?_ GE197.out|refine xS ?_ GE198.out)|exact HB.out)) hb);have n3_:=Aside0.mk (hbox);have n4_:=Aside0.mk ((by rw [hg];exact (below_size (by repeat (first|(with_reducible first|exact HB.out|apply xA|apply xN|apply xD|refine xS ?_ GE197.out|refine xS ?_ GE198.out)|exact HB.out))) : w.heap.size ≤ gb199));have n5_:=Aside0.mk ((by rw [hg];exact (below_size (by repeat (first|(with_reducible first|exact HB.out|apply xA|apply xN|apply xD|refine xS ?_ GE197.out|refine xS ?_ GE198.out)|exact HB.out))) : w.heap.size ≤ gb199));have n6_:=Aside0.mk ((by rw [hg];exact Nat.ne_of_lt (blk_lt (g:=gb197) (o:=.cells #[.string a0_0,.string a0_1,.bool a0_2] 23 (0,0)) (by (with_reducible repeat first|apply bN|apply bD|apply bA);exact BK197.out)) : gb197 ≠ gb199));have n7_:=Aside0.mk ((by rw [hg];exact Nat.ne_of_gt (blk_lt (g:=gb197) (o:=.cells #[.string a0_0,.string a0_1,.bool a0_2] 23 (0,0)) (by (with_reducible repeat first|apply bN|apply bD|apply bA);exact BK197.out)) : gb199 ≠ gb197));have n8_:=Aside0.mk ((by rw [hg];exact Nat.ne_of_lt (blk_lt (g:=gb198) (o:=.cells #[.string a1_0,.string a1_1,.bool a1_2] 23 (0,0)) (by (with_reducible repeat first|apply bN|apply bD|apply bA);exact BK198.out)) : gb198 ≠ gb199));have n9_:=Aside0.mk ((by rw [hg];exact Nat.ne_of_gt (blk_lt (g:=gb198) (o:=.cells #[.string a1_0,.string a1_1,.bool a1_2] 23 (0,0)) (by (with_reducible repeat first|apply bN|apply bD|apply bA);exact BK198.out)) : gb199 ≠ gb198));clear BK197;clear BK198;clear HB;have BK197:=n0_;have BK198:=n1_;have HB:=n2_;have BK199:=n3_;have GW199:=n4_;have GE199:=n5_;have NB197_199:=n6_;have NB199_197:=n7_;have NB198_199:=n8_;have NB199_198:=n9_;clear n0_ n1_ n2_ n3_ n4_ n5_ n6_ n7_ n8_ n9_;clear hb hbox hg)|((with_reducible refine gate_callee (f:=11) rfl ?_);refine goesL_ (some 15) rfl rfl Try.func11 (by kernel_rfl) rfl #[] rfl (by (try simp only [List.map_toArray,List.map_cons,List.map_nil]);first|done|rfl|(simp only [List.length_drop,List.length_take];rfl)) ?_;(with_reducible refine (tidelinelaw02_shown.calls k  true _ ?sideG A4.out).mono ?_); (case sideG => exact Glob.GlobOK.below HG.out (by repeat (first | (with_reducible first | exact HB.out | apply below_alloc | apply pw_below_drewN | apply below_drew1) | exact HB.out)));rintro e w10 ⟨rfl,hb⟩;refine ⟨_,rfl,?_⟩;replace BK197:=bk (by (with_reducible repeat first|apply bN|apply bD|apply bA);exact BK197.out) hb;replace BK198:=bk (by (with_reducible repeat first|apply bN|apply bD|apply bA);exact BK198.out) hb;replace BK199:=bk (by (with_reducible repeat first|apply bN|apply bD|apply bA);exact BK199.out) hb;replace HB:=Aside0.mk (below_step (by repeat (first|(with_reducible first|exact HB.out|apply xA|apply xN|apply xD|refine xS ?_ GE197.out|refine xS ?_ GE198.out|refine xS ?_ GE199.out)|exact HB.out)) hb);(try clear hb);(try clear hb2);(try clear hk);(try clear hi)))
  (try simp only [Act.put,List.setIfInBounds_toArray,List.set_cons_zero,List.set_cons_succ])
  go_cut [29] (fun v29 wc => ∃ (kq : Nat) (x29_5 : Bool),v29 = .bool x29_5 ∧ Aside0 (tidelinelaw02_SpanMeets.j0 kq x29_5 a0_0 a0_1 a0_2 a1_0 a1_1 a1_2 a2_0 a2_1 a2_2 = some r) ∧ Aside0 (kq ≤ k) ∧ Aside0 (wc.heap[gb197]? = some (.cells #[.string a0_0,.string a0_1,.bool a0_2] 23 (0,0))) ∧ Aside0 (wc.heap[gb198]? = some (.cells #[.string a1_0,.string a1_1,.bool a1_2] 23 (0,0))) ∧ Aside0 (wc.heap[gb199]? = some (.cells #[.string a2_0,.string a2_1,.bool a2_2] 23 (0,0))) ∧ Aside0 (Below w.heap.size w wc))
  case first =>
   have H:=HC6.out
   clear HC6
   replace H:=Option.bind_eq_some_iff.mp H
   obtain ⟨t201,A110,H⟩:=H
   replace H : (if t201 = 0 then ((span_Check.f k a1_0 a1_1 a1_2).bind fun t202 => (if t202 = 0 then ((span_Check.f k a2_0 a2_1 a2_2).bind fun t203 => (tidelinelaw02_SpanMeets.j0 k (t203 != 0) a0_0 a0_1 a0_2 a1_0 a1_1 a1_2 a2_0 a2_1 a2_2)) else (tidelinelaw02_SpanMeets.j0 k true a0_0 a0_1 a0_2 a1_0 a1_1 a1_2 a2_0 a2_1 a2_2))) else (tidelinelaw02_SpanMeets.j0 k true a0_0 a0_1 a0_2 a1_0 a1_1 a1_2 a2_0 a2_1 a2_2)) = some r:=H
   have A11:=Aside0.mk A110
   clear A110
   by_cases c12 : t201 = 0
   ·rw [if_pos c12] at H
    have c12b0 : (t201 == 0) = true:=beq_iff_eq.mpr c12
    have c12b1 : (t201 != 0) = false:=bne_eq_false_iff_eq.mpr c12
    clear c12
    (first|rw [c12b0]|(simp only [i64_w,i32_w];rw [c12b0])|skip)
    replace H:=Option.bind_eq_some_iff.mp H
    obtain ⟨t202,A130,H⟩:=H
    replace H : (if t202 = 0 then ((span_Check.f k a2_0 a2_1 a2_2).bind fun t203 => (tidelinelaw02_SpanMeets.j0 k (t203 != 0) a0_0 a0_1 a0_2 a1_0 a1_1 a1_2 a2_0 a2_1 a2_2)) else (tidelinelaw02_SpanMeets.j0 k true a0_0 a0_1 a0_2 a1_0 a1_1 a1_2 a2_0 a2_1 a2_2)) = some r:=H
    have A13:=Aside0.mk A130
    clear A130
    by_cases c14 : t202 = 0
    ·rw [if_pos c14] at H
     have c14b0 : (t202 == 0) = true:=beq_iff_eq.mpr c14
     have c14b1 : (t202 != 0) = false:=bne_eq_false_iff_eq.mpr c14
     clear c14
     replace H:=Option.bind_eq_some_iff.mp H
     obtain ⟨t203,A150,H⟩:=H
     replace H : (tidelinelaw02_SpanMeets.j0 k (t203 != 0) a0_0 a0_1 a0_2 a1_0 a1_1 a1_2 a2_0 a2_1 a2_2) = some r:=H
     have A15:=Aside0.mk A150
     clear A150
     have H':=Aside0.mk H
     clear H
     have hnb16:=NB197_198.out
     have hnc16:=NB198_197.out
     have hnb17:=NB197_199.out
     have hnc17:=NB199_197.out
     obtain ⟨hcz18_0,hcz18_1,hcz18_2⟩:=c3 BK197.out
     obtain ⟨hfz18_0,hfz18_1,hfz18_2⟩:=f3 BK197.out
     go_wp2_with (first|((with_reducible refine gate_callee (f:=12) rfl ?_);refine goesL_ (some 18) rfl rfl Try.func12 (by kernel_rfl) rfl #[.agg #[.string a0_0,.string a0_1,.bool a0_2]] rfl (by (try simp only [List.map_toArray,List.map_cons,List.map_nil]);first|done|rfl|(simp only [List.length_drop,List.length_take];rfl)) ?_;(with_reducible refine (span_Check.calls k a0_0 a0_1 a0_2 t201 _ A11.out).mono ?_);rintro e w19 ⟨rfl,hb⟩;refine ⟨_,rfl,?_⟩;replace BK197:=bk (by (with_reducible repeat first|apply bN|apply bD|apply bA);exact BK197.out) hb;replace BK198:=bk (by (with_reducible repeat first|apply bN|apply bD|apply bA);exact BK198.out) hb;replace BK199:=bk (by (with_reducible repeat first|apply bN|apply bD|apply bA);exact BK199.out) hb;replace HB:=Aside0.mk (below_step (by repeat (first|(with_reducible first|exact HB.out|apply xA|apply xN|apply xD|refine xS ?_ GE197.out|refine xS ?_ GE198.out|refine xS ?_ GE199.out)|exact HB.out)) hb);(try clear hb);(try clear hb2);(try clear hk);(try clear hi);have hnb20:=NB198_199.out;have hnc20:=NB199_198.out;obtain ⟨hcz21_0,hcz21_1,hcz21_2⟩:=c3 BK198.out;obtain ⟨hfz21_0,hfz21_1,hfz21_2⟩:=f3 BK198.out)|(go_at_call 12;(with_reducible refine (span_Check.calls k a1_0 a1_1 a1_2 t202 _ A13.out).mono ?_);rintro e w22 ⟨rfl,hb⟩;replace BK197:=bk (by (with_reducible repeat first|apply bN|apply bD|apply bA);exact BK197.out) hb;replace BK198:=bk (by (with_reducible repeat first|apply bN|apply bD|apply bA);exact BK198.out) hb;replace BK199:=bk (by (with_reducible repeat first|apply bN|apply bD|apply bA);exact BK199.out) hb;replace HB:=Aside0.mk (below_step (by repeat (first|(with_reducible first|exact HB.out|apply xA|apply xN|apply xD|refine xS ?_ GE197.out|refine xS ?_ GE198.out|refine xS ?_ GE199.out)|exact HB.out)) hb);(try clear hb);(try clear hb2);(try clear hk);(try clear hi);obtain ⟨hcz23_0,hcz23_1,hcz23_2⟩:=c3 BK199.out;obtain ⟨hfz23_0,hfz23_1,hfz23_2⟩:=f3 BK199.out)|(go_at_call 12;(with_reducible refine (span_Check.calls k a2_0 a2_1 a2_2 t203 _ A15.out).mono ?_);rintro e w24 ⟨rfl,hb⟩;replace BK197:=bk (by (with_reducible repeat first|apply bN|apply bD|apply bA);exact BK197.out) hb;replace BK198:=bk (by (with_reducible repeat first|apply bN|apply bD|apply bA);exact BK198.out) hb;replace BK199:=bk (by (with_reducible repeat first|apply bN|apply bD|apply bA);exact BK199.out) hb;replace HB:=Aside0.mk (below_step (by repeat (first|(with_reducible first|exact HB.out|apply xA|apply xN|apply xD|refine xS ?_ GE197.out|refine xS ?_ GE198.out|refine xS ?_ GE199.out)|exact HB.out)) hb);(try clear hb);(try clear hb2);(try clear hk);(try clear hi)))
     go_meet
     case rel => exact ⟨_,((t203 != 0)),(by first|rfl|(simp;done)|(simp [*];done)|(simp [*,Go.Proofs.Ytgdhgamolenfgaa.Str.bne_nil];done)),H',⟨by first|omega|exact Nat.le_refl _⟩,⟨by (with_reducible repeat first|apply bN|apply bD|apply bA);exact BK197.out⟩,⟨by (with_reducible repeat first|apply bN|apply bD|apply bA);exact BK198.out⟩,⟨by (with_reducible repeat first|apply bN|apply bD|apply bA);exact BK199.out⟩,⟨by repeat (first|(with_reducible first|exact HB.out|apply xA|apply xN|apply xD|refine xS ?_ GE197.out|refine xS ?_ GE198.out|refine xS ?_ GE199.out)|exact HB.out)⟩⟩
    ·rw [if_neg c14] at H
     have c14b0 : (t202 == 0) = false:=beq_eq_false_iff_ne.mpr c14
     have c14b1 : (t202 != 0) = true:=bne_iff_ne.mpr c14
     have H':=Aside0.mk H
     clear H
     have hnb25:=NB197_198.out
     have hnc25:=NB198_197.out
     have hnb26:=NB197_199.out
     have hnc26:=NB199_197.out
     obtain ⟨hcz27_0,hcz27_1,hcz27_2⟩:=c3 BK197.out
     obtain ⟨hfz27_0,hfz27_1,hfz27_2⟩:=f3 BK197.out
     go_wp2_with (first|((with_reducible refine gate_callee (f:=12) rfl ?_);refine goesL_ (some 18) rfl rfl Try.func12 (by kernel_rfl) rfl #[.agg #[.string a0_0,.string a0_1,.bool a0_2]] rfl (by (try simp only [List.map_toArray,List.map_cons,List.map_nil]);first|done|rfl|(simp only [List.length_drop,List.length_take];rfl)) ?_;(with_reducible refine (span_Check.calls k a0_0 a0_1 a0_2 t201 _ A11.out).mono ?_);rintro e w28 ⟨rfl,hb⟩;refine ⟨_,rfl,?_⟩;replace BK197:=bk (by (with_reducible repeat first|apply bN|apply bD|apply bA);exact BK197.out) hb;replace BK198:=bk (by (with_reducible repeat first|apply bN|apply bD|apply bA);exact BK198.out) hb;replace BK199:=bk (by (with_reducible repeat first|apply bN|apply bD|apply bA);exact BK199.out) hb;replace HB:=Aside0.mk (below_step (by repeat (first|(with_reducible first|exact HB.out|apply xA|apply xN|apply xD|refine xS ?_ GE197.out|refine xS ?_ GE198.out|refine xS ?_ GE199.out)|exact HB.out)) hb);(try clear hb);(try clear hb2);(try clear hk);(try clear hi);have hnb29:=NB198_199.out;have hnc29:=NB199_198.out;obtain ⟨hcz30_0,hcz30_1,hcz30_2⟩:=c3 BK198.out;obtain ⟨hfz30_0,hfz30_1,hfz30_2⟩:=f3 BK198.out)|(go_at_call 12;(with_reducible refine (span_Check.calls k a1_0 a1_1 a1_2 t202 _ A13.out).mono ?_);rintro e w31 ⟨rfl,hb⟩;replace BK197:=bk (by (with_reducible repeat first|apply bN|apply bD|apply bA);exact BK197.out) hb;replace BK198:=bk (by (with_reducible repeat first|apply bN|apply bD|apply bA);exact BK198.out) hb;replace BK199:=bk (by (with_reducible repeat first|apply bN|apply bD|apply bA);exact BK199.out) hb;replace HB:=Aside0.mk (below_step (by repeat (first|(with_reducible first|exact HB.out|apply xA|apply xN|apply xD|refine xS ?_ GE197.out|refine xS ?_ GE198.out|refine xS ?_ GE199.out)|exact HB.out)) hb);(try clear hb);(try clear hb2);(try clear hk);(try clear hi)))
     go_meet
     case rel => exact ⟨_,(true),(by first|rfl|(simp;done)|(simp [*];done)|(simp [*,Go.Proofs.Ytgdhgamolenfgaa.Str.bne_nil];done)),H',⟨by first|omega|exact Nat.le_refl _⟩,⟨by (with_reducible repeat first|apply bN|apply bD|apply bA);exact BK197.out⟩,⟨by (with_reducible repeat first|apply bN|apply bD|apply bA);exact BK198.out⟩,⟨by (with_reducible repeat first|apply bN|apply bD|apply bA);exact BK199.out⟩,⟨by repeat (first|(with_reducible first|exact HB.out|apply xA|apply xN|apply xD|refine xS ?_ GE197.out|refine xS ?_ GE198.out|refine xS ?_ GE199.out)|exact HB.out)⟩⟩
   ·rw [if_neg c12] at H
    have c12b0 : (t201 == 0) = false:=beq_eq_false_iff_ne.mpr c12
    have c12b1 : (t201 != 0) = true:=bne_iff_ne.mpr c12
    (first|rw [c12b0]|(simp only [i64_w,i32_w];rw [c12b0])|skip)
    have H':=Aside0.mk H
    clear H
    have hnb32:=NB197_198.out
    have hnc32:=NB198_197.out
    have hnb33:=NB197_199.out
    have hnc33:=NB199_197.out
    obtain ⟨hcz34_0,hcz34_1,hcz34_2⟩:=c3 BK197.out
    obtain ⟨hfz34_0,hfz34_1,hfz34_2⟩:=f3 BK197.out
    go_wp2_with (first|((with_reducible refine gate_callee (f:=12) rfl ?_);refine goesL_ (some 18) rfl rfl Try.func12 (by kernel_rfl) rfl #[.agg #[.string a0_0,.string a0_1,.bool a0_2]] rfl (by (try simp only [List.map_toArray,List.map_cons,List.map_nil]);first|done|rfl|(simp only [List.length_drop,List.length_take];rfl)) ?_;(with_reducible refine (span_Check.calls k a0_0 a0_1 a0_2 t201 _ A11.out).mono ?_);rintro e w35 ⟨rfl,hb⟩;refine ⟨_,rfl,?_⟩;replace BK197:=bk (by (with_reducible repeat first|apply bN|apply bD|apply bA);exact BK197.out) hb;replace BK198:=bk (by (with_reducible repeat first|apply bN|apply bD|apply bA);exact BK198.out) hb;replace BK199:=bk (by (with_reducible repeat first|apply bN|apply bD|apply bA);exact BK199.out) hb;replace HB:=Aside0.mk (below_step (by repeat (first|(with_reducible first|exact HB.out|apply xA|apply xN|apply xD|refine xS ?_ GE197.out|refine xS ?_ GE198.out|refine xS ?_ GE199.out)|exact HB.out)) hb);(try clear hb);(try clear hb2);(try clear hk);(try clear hi)))
    go_meet
    case rel => exact ⟨_,(true),(by first|rfl|(simp;done)|(simp [*];done)|(simp [*,Go.Proofs.Ytgdhgamolenfgaa.Str.bne_nil];done)),H',⟨by first|omega|exact Nat.le_refl _⟩,⟨by (with_reducible repeat first|apply bN|apply bD|apply bA);exact BK197.out⟩,⟨by (with_reducible repeat first|apply bN|apply bD|apply bA);exact BK198.out⟩,⟨by (with_reducible repeat first|apply bN|apply bD|apply bA);exact BK199.out⟩,⟨by repeat (first|(with_reducible first|exact HB.out|apply xA|apply xN|apply xD|refine xS ?_ GE197.out|refine xS ?_ GE198.out|refine xS ?_ GE199.out)|exact HB.out)⟩⟩
  case rest =>
   clear HC6
   try clear c1
   try clear c2
   try clear p2
   try clear c3
   try clear c5
   try clear c9
   try clear c11
   try clear c12
   try clear c12b0
   try clear c12b1
   try clear c14
   try clear c14b0
   try clear c14b1
   try clear c16
   try clear c17
   try clear c20
   try clear c25
   try clear c26
   try clear c29
   try clear c32
   try clear c33
   try clear hcz18_0
   try clear hcz18_1
   try clear hcz18_2
   try clear hcz21_0
   try clear hcz21_1
   try clear hcz21_2
   try clear hcz23_0
   try clear hcz23_1
   try clear hcz23_2
   try clear hcz27_0
   try clear hcz27_1
   try clear hcz27_2
   try clear hcz30_0
   try clear hcz30_1
   try clear hcz30_2
   try clear hcz34_0
   try clear hcz34_1
   try clear hcz34_2
   try clear hfz18_0
   try clear hfz18_1
   try clear hfz18_2
   try clear hfz21_0
   try clear hfz21_1
   try clear hfz21_2
   try clear hfz23_0
   try clear hfz23_1
   try clear hfz23_2
   try clear hfz27_0
   try clear hfz27_1
   try clear hfz27_2
   try clear hfz30_0
   try clear hfz30_1
   try clear hfz30_2
   try clear hfz34_0
   try clear hfz34_1
   try clear hfz34_2
   obtain ⟨kq,x29_5,rfl,HA,HJ5,BK197,BK198,BK199,HB⟩:=hcut
   cases kq with
  |zero => exact absurd HA.out (by simp [tidelinelaw02_SpanMeets.j0])
  |succ kj5 =>
    have H:=HA.out
    clear HA
    simp only [tidelinelaw02_SpanMeets.j0] at H
    by_cases c36 : x29_5 = true
    ·subst c36
     have H1 : ((span_Within.f kj5 a0_0 a0_1 a0_2 a1_0 a1_1 a1_2).bind fun t204 => (if t204 = true then ((span_Within.f kj5 a1_0 a1_1 a1_2 a2_0 a2_1 a2_2).bind fun t205 => (if t205 = true then ((span_Within.f kj5 a0_0 a0_1 a0_2 a2_0 a2_1 a2_2).bind fun t206 => (some (!t206))) else (some true))) else (some true))) = some r:=by rw [if_pos rfl] at H;exact H
     clear H
     have H:=H1
     clear H1
     replace H:=Option.bind_eq_some_iff.mp H
     obtain ⟨t204,A370,H⟩:=H
     replace H : (if t204 = true then ((span_Within.f kj5 a1_0 a1_1 a1_2 a2_0 a2_1 a2_2).bind fun t205 => (if t205 = true then ((span_Within.f kj5 a0_0 a0_1 a0_2 a2_0 a2_1 a2_2).bind fun t206 => (some (!t206))) else (some true))) else (some true)) = some r:=H
     have A37:=Aside0.mk A370
     clear A370
     by_cases c38 : t204 = true
     ·subst c38
      have H1 : ((span_Within.f kj5 a1_0 a1_1 a1_2 a2_0 a2_1 a2_2).bind fun t205 => (if t205 = true then ((span_Within.f kj5 a0_0 a0_1 a0_2 a2_0 a2_1 a2_2).bind fun t206 => (some (!t206))) else (some true))) = some r:=by rw [if_pos rfl] at H;exact H
      clear H
      have H:=H1
      clear H1
      replace H:=Option.bind_eq_some_iff.mp H
      obtain ⟨t205,A390,H⟩:=H
      replace H : (if t205 = true then ((span_Within.f kj5 a0_0 a0_1 a0_2 a2_0 a2_1 a2_2).bind fun t206 => (some (!t206))) else (some true)) = some r:=H
      have A39:=Aside0.mk A390
      clear A390
      by_cases c40 : t205 = true
      ·subst c40
       have H1 : ((span_Within.f kj5 a0_0 a0_1 a0_2 a2_0 a2_1 a2_2).bind fun t206 => (some (!t206))) = some r:=by rw [if_pos rfl] at H;exact H
       clear H
       have H:=H1
       clear H1
       replace H:=Option.bind_eq_some_iff.mp H
       obtain ⟨t206,A410,H⟩:=H
       replace H : (some (!t206)) = some r:=H
       have A41:=Aside0.mk A410
       clear A410
       obtain rfl:=Option.some.inj H
       have hnb42:=NB197_198.out
       have hnc42:=NB198_197.out
       have hnb43:=NB197_199.out
       have hnc43:=NB199_197.out
       obtain ⟨hcz44_0,hcz44_1,hcz44_2⟩:=c3 BK197.out
       obtain ⟨hfz44_0,hfz44_1,hfz44_2⟩:=f3 BK197.out
       have hnb45:=NB198_199.out
       have hnc45:=NB199_198.out
       obtain ⟨hcz46_0,hcz46_1,hcz46_2⟩:=c3 BK198.out
       obtain ⟨hfz46_0,hfz46_1,hfz46_2⟩:=f3 BK198.out
       go_wp2_with (first|((with_reducible refine gate_callee (f:=27) rfl ?_);refine goesL_ (some 32) rfl rfl Try.func27 (by kernel_rfl) rfl #[.agg #[.string a0_0,.string a0_1,.bool a0_2],.agg #[.string a1_0,.string a1_1,.bool a1_2]] rfl (by (try simp only [List.map_toArray,List.map_cons,List.map_nil]);first|done|rfl|(simp only [List.length_drop,List.length_take];rfl)) ?_;(with_reducible refine (span_Within.calls kj5 a0_0 a0_1 a0_2 a1_0 a1_1 a1_2 true _ A37.out).mono ?_);rintro e w47 ⟨rfl,hb⟩;refine ⟨_,rfl,?_⟩;replace BK197:=bk (by (with_reducible repeat first|apply bN|apply bD|apply bA);exact BK197.out) hb;replace BK198:=bk (by (with_reducible repeat first|apply bN|apply bD|apply bA);exact BK198.out) hb;replace BK199:=bk (by (with_reducible repeat first|apply bN|apply bD|apply bA);exact BK199.out) hb;replace HB:=Aside0.mk (below_step (by repeat (first|(with_reducible first|exact HB.out|apply xA|apply xN|apply xD|refine xS ?_ GE197.out|refine xS ?_ GE198.out|refine xS ?_ GE199.out)|exact HB.out)) hb);(try clear hb);(try clear hb2);(try clear hk);(try clear hi);obtain ⟨hcz48_0,hcz48_1,hcz48_2⟩:=c3 BK198.out;obtain ⟨hfz48_0,hfz48_1,hfz48_2⟩:=f3 BK198.out;obtain ⟨hcz49_0,hcz49_1,hcz49_2⟩:=c3 BK199.out;obtain ⟨hfz49_0,hfz49_1,hfz49_2⟩:=f3 BK199.out)|(go_at_call 27;(with_reducible refine (span_Within.calls kj5 a1_0 a1_1 a1_2 a2_0 a2_1 a2_2 true _ A39.out).mono ?_);rintro e w50 ⟨rfl,hb⟩;replace BK197:=bk (by (with_reducible repeat first|apply bN|apply bD|apply bA);exact BK197.out) hb;replace BK198:=bk (by (with_reducible repeat first|apply bN|apply bD|apply bA);exact BK198.out) hb;replace BK199:=bk (by (with_reducible repeat first|apply bN|apply bD|apply bA);exact BK199.out) hb;replace HB:=Aside0.mk (below_step (by repeat (first|(with_reducible first|exact HB.out|apply xA|apply xN|apply xD|refine xS ?_ GE197.out|refine xS ?_ GE198.out|refine xS ?_ GE199.out)|exact HB.out)) hb);(try clear hb);(try clear hb2);(try clear hk);(try clear hi);obtain ⟨hcz51_0,hcz51_1,hcz51_2⟩:=c3 BK197.out;obtain ⟨hfz51_0,hfz51_1,hfz51_2⟩:=f3 BK197.out;obtain ⟨hcz52_0,hcz52_1,hcz52_2⟩:=c3 BK199.out;obtain ⟨hfz52_0,hfz52_1,hfz52_2⟩:=f3 BK199.out)|(go_at_call 27;(with_reducible refine (span_Within.calls kj5 a0_0 a0_1 a0_2 a2_0 a2_1 a2_2 t206 _ A41.out).mono ?_);rintro e w53 ⟨rfl,hb⟩;replace BK197:=bk (by (with_reducible repeat first|apply bN|apply bD|apply bA);exact BK197.out) hb;replace BK198:=bk (by (with_reducible repeat first|apply bN|apply bD|apply bA);exact BK198.out) hb;replace BK199:=bk (by (with_reducible repeat first|apply bN|apply bD|apply bA);exact BK199.out) hb;replace HB:=Aside0.mk (below_step (by repeat (first|(with_reducible first|exact HB.out|apply xA|apply xN|apply xD|refine xS ?_ GE197.out|refine xS ?_ GE198.out|refine xS ?_ GE199.out)|exact HB.out)) hb);(try clear hb);(try clear hb2);(try clear hk);(try clear hi)))
       go_ret
       exact ⟨by first|rfl|(simp [errW_none,errW_some] <;> rfl)|(simp [*,errW_none,errW_some] <;> rfl),by repeat (first|(with_reducible first|exact HB.out|apply xA|apply xN|apply xD|refine xS ?_ GE197.out|refine xS ?_ GE198.out|refine xS ?_ GE199.out)|exact HB.out)⟩
      ·replace c40:=Bool.eq_false_iff.mpr c40
       subst c40
       have H1 : (some true) = some r:=by rw [if_neg (show ¬ (false = true) by decide)] at H;exact H
       clear H
       have H:=H1
       clear H1
       obtain rfl:=Option.some.inj H
       have hnb54:=NB197_198.out
       have hnc54:=NB198_197.out
       have hnb55:=NB197_199.out
       have hnc55:=NB199_197.out
       obtain ⟨hcz56_0,hcz56_1,hcz56_2⟩:=c3 BK197.out
       obtain ⟨hfz56_0,hfz56_1,hfz56_2⟩:=f3 BK197.out
       have hnb57:=NB198_199.out
       have hnc57:=NB199_198.out
       obtain ⟨hcz58_0,hcz58_1,hcz58_2⟩:=c3 BK198.out
       obtain ⟨hfz58_0,hfz58_1,hfz58_2⟩:=f3 BK198.out
       go_wp2_with (first|((with_reducible refine gate_callee (f:=27) rfl ?_);refine goesL_ (some 32) rfl rfl Try.func27 (by kernel_rfl) rfl #[.agg #[.string a0_0,.string a0_1,.bool a0_2],.agg #[.string a1_0,.string a1_1,.bool a1_2]] rfl (by (try simp only [List.map_toArray,List.map_cons,List.map_nil]);first|done|rfl|(simp only [List.length_drop,List.length_take];rfl)) ?_;(with_reducible refine (span_Within.calls kj5 a0_0 a0_1 a0_2 a1_0 a1_1 a1_2 true _ A37.out).mono ?_);rintro e w59 ⟨rfl,hb⟩;refine ⟨_,rfl,?_⟩;replace BK197:=bk (by (with_reducible repeat first|apply bN|apply bD|apply bA);exact BK197.out) hb;replace BK198:=bk (by (with_reducible repeat first|apply bN|apply bD|apply bA);exact BK198.out) hb;replace BK199:=bk (by (with_reducible repeat first|apply bN|apply bD|apply bA);exact BK199.out) hb;replace HB:=Aside0.mk (below_step (by repeat (first|(with_reducible first|exact HB.out|apply xA|apply xN|apply xD|refine xS ?_ GE197.out|refine xS ?_ GE198.out|refine xS ?_ GE199.out)|exact HB.out)) hb);(try clear hb);(try clear hb2);(try clear hk);(try clear hi);obtain ⟨hcz60_0,hcz60_1,hcz60_2⟩:=c3 BK198.out;obtain ⟨hfz60_0,hfz60_1,hfz60_2⟩:=f3 BK198.out;obtain ⟨hcz61_0,hcz61_1,hcz61_2⟩:=c3 BK199.out;obtain ⟨hfz61_0,hfz61_1,hfz61_2⟩:=f3 BK199.out)|(go_at_call 27;(with_reducible refine (span_Within.calls kj5 a1_0 a1_1 a1_2 a2_0 a2_1 a2_2 false _ A39.out).mono ?_);rintro e w62 ⟨rfl,hb⟩;replace BK197:=bk (by (with_reducible repeat first|apply bN|apply bD|apply bA);exact BK197.out) hb;replace BK198:=bk (by (with_reducible repeat first|apply bN|apply bD|apply bA);exact BK198.out) hb;replace BK199:=bk (by (with_reducible repeat first|apply bN|apply bD|apply bA);exact BK199.out) hb;replace HB:=Aside0.mk (below_step (by repeat (first|(with_reducible first|exact HB.out|apply xA|apply xN|apply xD|refine xS ?_ GE197.out|refine xS ?_ GE198.out|refine xS ?_ GE199.out)|exact HB.out)) hb);(try clear hb);(try clear hb2);(try clear hk);(try clear hi)))
       go_ret
       exact ⟨by first|rfl|(simp [errW_none,errW_some] <;> rfl)|(simp [*,errW_none,errW_some] <;> rfl),by repeat (first|(with_reducible first|exact HB.out|apply xA|apply xN|apply xD|refine xS ?_ GE197.out|refine xS ?_ GE198.out|refine xS ?_ GE199.out)|exact HB.out)⟩
     ·replace c38:=Bool.eq_false_iff.mpr c38
      subst c38
      have H1 : (some true) = some r:=by rw [if_neg (show ¬ (false = true) by decide)] at H;exact H
      clear H
      have H:=H1
      clear H1
      obtain rfl:=Option.some.inj H
      have hnb63:=NB197_198.out
      have hnc63:=NB198_197.out
      have hnb64:=NB197_199.out
      have hnc64:=NB199_197.out
      obtain ⟨hcz65_0,hcz65_1,hcz65_2⟩:=c3 BK197.out
      obtain ⟨hfz65_0,hfz65_1,hfz65_2⟩:=f3 BK197.out
      have hnb66:=NB198_199.out
      have hnc66:=NB199_198.out
      obtain ⟨hcz67_0,hcz67_1,hcz67_2⟩:=c3 BK198.out
      obtain ⟨hfz67_0,hfz67_1,hfz67_2⟩:=f3 BK198.out
      go_wp2_with (first|((with_reducible refine gate_callee (f:=27) rfl ?_);refine goesL_ (some 32) rfl rfl Try.func27 (by kernel_rfl) rfl #[.agg #[.string a0_0,.string a0_1,.bool a0_2],.agg #[.string a1_0,.string a1_1,.bool a1_2]] rfl (by (try simp only [List.map_toArray,List.map_cons,List.map_nil]);first|done|rfl|(simp only [List.length_drop,List.length_take];rfl)) ?_;(with_reducible refine (span_Within.calls kj5 a0_0 a0_1 a0_2 a1_0 a1_1 a1_2 false _ A37.out).mono ?_);rintro e w68 ⟨rfl,hb⟩;refine ⟨_,rfl,?_⟩;replace BK197:=bk (by (with_reducible repeat first|apply bN|apply bD|apply bA);exact BK197.out) hb;replace BK198:=bk (by (with_reducible repeat first|apply bN|apply bD|apply bA);exact BK198.out) hb;replace BK199:=bk (by (with_reducible repeat first|apply bN|apply bD|apply bA);exact BK199.out) hb;replace HB:=Aside0.mk (below_step (by repeat (first|(with_reducible first|exact HB.out|apply xA|apply xN|apply xD|refine xS ?_ GE197.out|refine xS ?_ GE198.out|refine xS ?_ GE199.out)|exact HB.out)) hb);(try clear hb);(try clear hb2);(try clear hk);(try clear hi)))
      go_ret
      exact ⟨by first|rfl|(simp [errW_none,errW_some] <;> rfl)|(simp [*,errW_none,errW_some] <;> rfl),by repeat (first|(with_reducible first|exact HB.out|apply xA|apply xN|apply xD|refine xS ?_ GE197.out|refine xS ?_ GE198.out|refine xS ?_ GE199.out)|exact HB.out)⟩
    ·replace c36:=Bool.eq_false_iff.mpr c36
     subst c36
     have H1 : ((span_Meet.f kj5 a0_0 a0_1 a0_2 a1_0 a1_1 a1_2).bind fun bt207 => ((span_Empty.f kj5 a2_0 a2_1 a2_2).bind fun t212 => (if t212 = true then (tidelinelaw02_SpanMeets.j1 kj5 bt207.2.2.2 false a0_0 a0_1 a0_2 a1_0 a1_1 a1_2 a2_0 a2_1 a2_2 bt207.1 bt207.2.1 bt207.2.2.1) else (if bt207.2.2.2 = true then ((span_Within.f kj5 a2_0 a2_1 a2_2 bt207.1 bt207.2.1 bt207.2.2.1).bind fun t213 => ((span_Within.f kj5 a2_0 a2_1 a2_2 a0_0 a0_1 a0_2).bind fun t214 => (if t214 = true then ((span_Within.f kj5 a2_0 a2_1 a2_2 a1_0 a1_1 a1_2).bind fun t215 => (tidelinelaw02_SpanMeets.j1 kj5 bt207.2.2.2 (t213 != t215) a0_0 a0_1 a0_2 a1_0 a1_1 a1_2 a2_0 a2_1 a2_2 bt207.1 bt207.2.1 bt207.2.2.1)) else (tidelinelaw02_SpanMeets.j1 kj5 bt207.2.2.2 (t213 != false) a0_0 a0_1 a0_2 a1_0 a1_1 a1_2 a2_0 a2_1 a2_2 bt207.1 bt207.2.1 bt207.2.2.1)))) else ((span_Within.f kj5 a2_0 a2_1 a2_2 a0_0 a0_1 a0_2).bind fun t216 => (if t216 = true then ((span_Within.f kj5 a2_0 a2_1 a2_2 a1_0 a1_1 a1_2).bind fun t217 => (tidelinelaw02_SpanMeets.j1 kj5 bt207.2.2.2 (false != t217) a0_0 a0_1 a0_2 a1_0 a1_1 a1_2 a2_0 a2_1 a2_2 bt207.1 bt207.2.1 bt207.2.2.1)) else (tidelinelaw02_SpanMeets.j1 kj5 bt207.2.2.2 (false != false) a0_0 a0_1 a0_2 a1_0 a1_1 a1_2 a2_0 a2_1 a2_2 bt207.1 bt207.2.1 bt207.2.2.1))))))) = some r:=by rw [if_neg (show ¬ (false = true) by decide)] at H;exact H
     clear H
     have H:=H1
     clear H1
     replace H:=Option.bind_eq_some_iff.mp H
     obtain ⟨⟨t207,t208,t209,t210⟩,A690,H⟩:=H
     replace H : ((span_Empty.f kj5 a2_0 a2_1 a2_2).bind fun t212 => (if t212 = true then (tidelinelaw02_SpanMeets.j1 kj5 t210 false a0_0 a0_1 a0_2 a1_0 a1_1 a1_2 a2_0 a2_1 a2_2 t207 t208 t209) else (if t210 = true then ((span_Within.f kj5 a2_0 a2_1 a2_2 t207 t208 t209).bind fun t213 => ((span_Within.f kj5 a2_0 a2_1 a2_2 a0_0 a0_1 a0_2).bind fun t214 => (if t214 = true then ((span_Within.f kj5 a2_0 a2_1 a2_2 a1_0 a1_1 a1_2).bind fun t215 => (tidelinelaw02_SpanMeets.j1 kj5 t210 (t213 != t215) a0_0 a0_1 a0_2 a1_0 a1_1 a1_2 a2_0 a2_1 a2_2 t207 t208 t209)) else (tidelinelaw02_SpanMeets.j1 kj5 t210 (t213 != false) a0_0 a0_1 a0_2 a1_0 a1_1 a1_2 a2_0 a2_1 a2_2 t207 t208 t209)))) else ((span_Within.f kj5 a2_0 a2_1 a2_2 a0_0 a0_1 a0_2).bind fun t216 => (if t216 = true then ((span_Within.f kj5 a2_0 a2_1 a2_2 a1_0 a1_1 a1_2).bind fun t217 => (tidelinelaw02_SpanMeets.j1 kj5 t210 (false != t217) a0_0 a0_1 a0_2 a1_0 a1_1 a1_2 a2_0 a2_1 a2_2 t207 t208 t209)) else (tidelinelaw02_SpanMeets.j1 kj5 t210 (false != false) a0_0 a0_1 a0_2 a1_0 a1_1 a1_2 a2_0 a2_1 a2_2 t207 t208 t209)))))) = some r:=H
     have A69:=Aside0.mk A690
     clear A690
     have HC70:=Aside0.mk H
     clear H
     have hnb71:=NB197_198.out
     have hnc71:=NB198_197.out
     have hnb72:=NB197_199.out
     have hnc72:=NB199_197.out
     obtain ⟨hcz73_0,hcz73_1,hcz73_2⟩:=c3 BK197.out
     obtain ⟨hfz73_0,hfz73_1,hfz73_2⟩:=f3 BK197.out
     have hnb74:=NB198_199.out
     have hnc74:=NB199_198.out
     obtain ⟨hcz75_0,hcz75_1,hcz75_2⟩:=c3 BK198.out
     obtain ⟨hfz75_0,hfz75_1,hfz75_2⟩:=f3 BK198.out
     go_upto_region 6 with (first|((with_reducible refine gate_callee (f:=25) rfl ?_);refine goesL_ (some 49) rfl rfl Try.func25 (by kernel_rfl) rfl #[.agg #[.string a0_0,.string a0_1,.bool a0_2],.agg #[.string a1_0,.string a1_1,.bool a1_2]] rfl (by (try simp only [List.map_toArray,List.map_cons,List.map_nil]);first|done|rfl|(simp only [List.length_drop,List.length_take];rfl)) ?_;(with_reducible refine (span_Meet.calls kj5 a0_0 a0_1 a0_2 a1_0 a1_1 a1_2 t207 t208 t209 t210 _ A69.out).mono ?_);rintro e w76 ⟨rfl,hb⟩;refine ⟨_,rfl,?_⟩;replace BK197:=bk (by (with_reducible repeat first|apply bN|apply bD|apply bA);exact BK197.out) hb;replace BK198:=bk (by (with_reducible repeat first|apply bN|apply bD|apply bA);exact BK198.out) hb;replace BK199:=bk (by (with_reducible repeat first|apply bN|apply bD|apply bA);exact BK199.out) hb;replace HB:=Aside0.mk (below_step (by repeat (first|(with_reducible first|exact HB.out|apply xA|apply xN|apply xD|refine xS ?_ GE197.out|refine xS ?_ GE198.out|refine xS ?_ GE199.out)|exact HB.out)) hb);(try clear hb);(try clear hb2);(try clear hk);(try clear hi))|((with_reducible refine gate_dst (N:=7) rfl ?_);refine box_event ?hg (N:=7) ?hd (cs:=#[.string (⟨#[]⟩ : ByteArray),.string (⟨#[]⟩ : ByteArray),.bool false]) (t:=23) ?hr ?_;(case hd => rfl);(case hg => rfl);(case hr => first|(go_simp;done)|(go_simp;rfl));intro gb211 hg w77 hbox hb;have n0_:=bk (by (with_reducible repeat first|apply bN|apply bD|apply bA);exact BK197.out) hb;have n1_:=bk (by (with_reducible repeat first|apply bN|apply bD|apply bA);exact BK198.out) hb;have n2_:=bk (by (with_reducible repeat first|apply bN|apply bD|apply bA);exact BK199.out) hb;have n3_:=Aside0.mk (below_step (by repeat (first|(with_reducible first|exact HB.out|apply xA|apply xN|apply xD|refine xS ?_ GE197.out|refine xS ?_ GE198.out|refine xS ?_ GE199.out)|exact HB.out)) hb);have n4_:=Aside0.mk (hbox);have n5_:=Aside0.mk ((by rw [hg];exact (below_size (by repeat (first|(with_reducible first|exact HB.out|apply xA|apply xN|apply xD|refine xS ?_ GE197.out|refine xS ?_ GE198.out|refine xS ?_ GE199.out)|exact HB.out))) : w.heap.size ≤ gb211));have n6_:=Aside0.mk ((by rw [hg];exact (below_size (by repeat (first|(with_reducible first|exact HB.out|apply xA|apply xN|apply xD|refine xS ?_ GE197.out|refine xS ?_ GE198.out|refine xS ?_ GE199.out)|exact HB.out))) : w.heap.size ≤ gb211));have n7_:=Aside0.mk ((by rw [hg];exact Nat.ne_of_lt (blk_lt (g:=gb197) (o:=.cells #[.string a0_0,.string a0_1,.bool a0_2] 23 (0,0)) (by (with_reducible repeat first|apply bN|apply bD|apply bA);exact BK197.out)) : gb197 ≠ gb211));have n8_:=Aside0.mk ((by rw [hg];exact Nat.ne_of_gt (blk_lt (g:=gb197) (o:=.cells #[.string a0_0,.string a0_1,.bool a0_2] 23 (0,0)) (by (with_reducible repeat first|apply bN|apply bD|apply bA);exact BK197.out)) : gb211 ≠ gb197));have n9_:=Aside0.mk ((by rw [hg];exact Nat.ne_of_lt (blk_lt (g:=gb198) (o:=.cells #[.string a1_0,.string a1_1,.bool a1_2] 23 (0,0)) (by (with_reducible repeat first|apply bN|apply bD|apply bA);exact BK198.out)) : gb198 ≠ gb211));have n10_:=Aside0.mk ((by rw [hg];exact Nat.ne_of_gt (blk_lt (g:=gb198) (o:=.cells #[.string a1_0,.string a1_1,.bool a1_2] 23 (0,0)) (by (with_reducible repeat first|apply bN|apply bD|apply bA);exact BK198.out)) : gb211 ≠ gb198));have n11_:=Aside0.mk ((by rw [hg];exact Nat.ne_of_lt (blk_lt (g:=gb199) (o:=.cells #[.string a2_0,.string a2_1,.bool a2_2] 23 (0,0)) (by (with_reducible repeat first|apply bN|apply bD|apply bA);exact BK199.out)) : gb199 ≠ gb211));have n12_:=Aside0.mk ((by rw [hg];exact Nat.ne_of_gt (blk_lt (g:=gb199) (o:=.cells #[.string a2_0,.string a2_1,.bool a2_2] 23 (0,0)) (by (with_reducible repeat first|apply bN|apply bD|apply bA);exact BK199.out)) : gb211 ≠ gb199));clear BK197;clear BK198;clear BK199;clear HB;have BK197:=n0_;have BK198:=n1_;have BK199:=n2_;have HB:=n3_;have BK211:=n4_;have GW211:=n5_;have GE211:=n6_;have NB197_211:=n7_;have NB211_197:=n8_;have NB198_211:=n9_;have NB211_198:=n10_;have NB199_211:=n11_;have NB211_199:=n12_;clear n0_ n1_ n2_ n3_ n4_ n5_ n6_ n7_ n8_ n9_ n10_ n11_ n12_;clear hb hbox hg;have hnb78:=NB211_197.out;have hnc78:=NB197_211.out;have hnb79:=NB211_198.out;have hnc79:=NB198_211.out;have hnb80:=NB211_199.out;have hnc80:=NB199_211.out;obtain ⟨hcz81_0,hcz81_1,hcz81_2⟩:=c3 BK211.out;obtain ⟨hfz81_0,hfz81_1,hfz81_2⟩:=f3 BK211.out))
     (try simp only [Act.put,List.setIfInBounds_toArray,List.set_cons_zero,List.set_cons_succ])
     go_cut [71] (fun v71 wc => ∃ (kq : Nat) (x71_69 : Bool),v71 = .bool x71_69 ∧ Aside0 (tidelinelaw02_SpanMeets.j1 kq t210 x71_69 a0_0 a0_1 a0_2 a1_0 a1_1 a1_2 a2_0 a2_1 a2_2 t207 t208 t209 = some r) ∧ Aside0 (kq ≤ kj5) ∧ Aside0 (wc.heap[gb197]? = some (.cells #[.string a0_0,.string a0_1,.bool a0_2] 23 (0,0))) ∧ Aside0 (wc.heap[gb198]? = some (.cells #[.string a1_0,.string a1_1,.bool a1_2] 23 (0,0))) ∧ Aside0 (wc.heap[gb199]? = some (.cells #[.string a2_0,.string a2_1,.bool a2_2] 23 (0,0))) ∧ Aside0 (wc.heap[gb211]? = some (.cells #[.string t207,.string t208,.bool t209] 23 (0,0))) ∧ Aside0 (Below w.heap.size w wc))
     case first =>
      have H:=HC70.out
      clear HC70
      replace H:=Option.bind_eq_some_iff.mp H
      obtain ⟨t212,A820,H⟩:=H
      replace H : (if t212 = true then (tidelinelaw02_SpanMeets.j1 kj5 t210 false a0_0 a0_1 a0_2 a1_0 a1_1 a1_2 a2_0 a2_1 a2_2 t207 t208 t209) else (if t210 = true then ((span_Within.f kj5 a2_0 a2_1 a2_2 t207 t208 t209).bind fun t213 => ((span_Within.f kj5 a2_0 a2_1 a2_2 a0_0 a0_1 a0_2).bind fun t214 => (if t214 = true then ((span_Within.f kj5 a2_0 a2_1 a2_2 a1_0 a1_1 a1_2).bind fun t215 => (tidelinelaw02_SpanMeets.j1 kj5 t210 (t213 != t215) a0_0 a0_1 a0_2 a1_0 a1_1 a1_2 a2_0 a2_1 a2_2 t207 t208 t209)) else (tidelinelaw02_SpanMeets.j1 kj5 t210 (t213 != false) a0_0 a0_1 a0_2 a1_0 a1_1 a1_2 a2_0 a2_1 a2_2 t207 t208 t209)))) else ((span_Within.f kj5 a2_0 a2_1 a2_2 a0_0 a0_1 a0_2).bind fun t216 => (if t216 = true then ((span_Within.f kj5 a2_0 a2_1 a2_2 a1_0 a1_1 a1_2).bind fun t217 => (tidelinelaw02_SpanMeets.j1 kj5 t210 (false != t217) a0_0 a0_1 a0_2 a1_0 a1_1 a1_2 a2_0 a2_1 a2_2 t207 t208 t209)) else (tidelinelaw02_SpanMeets.j1 kj5 t210 (false != false) a0_0 a0_1 a0_2 a1_0 a1_1 a1_2 a2_0 a2_1 a2_2 t207 t208 t209))))) = some r:=H
      have A82:=Aside0.mk A820
      clear A820
      by_cases c83 : t212 = true
      ·subst c83
       have H1 : (tidelinelaw02_SpanMeets.j1 kj5 t210 false a0_0 a0_1 a0_2 a1_0 a1_1 a1_2 a2_0 a2_1 a2_2 t207 t208 t209) = some r:=by rw [if_pos rfl] at H;exact H
       clear H
       have H:=H1
       clear H1
       have H':=Aside0.mk H
       clear H
       try go_wp2
       have n0_ : Aside0 ((((w77.setCell ⟨gb211,0,none⟩ (.string t207)).setCell ⟨gb211,1,none⟩ (.string t208)).setCell ⟨gb211,2,none⟩ (.bool t209)).heap[gb197]? = some (.cells #[.string a0_0,.string a0_1,.bool a0_2] 23 (0,0))):=⟨by (with_reducible repeat (first|apply bN|apply bD|apply bA|refine blk_far ?_ NB197_211.out _));exact BK197.out⟩
       have n1_ : Aside0 ((((w77.setCell ⟨gb211,0,none⟩ (.string t207)).setCell ⟨gb211,1,none⟩ (.string t208)).setCell ⟨gb211,2,none⟩ (.bool t209)).heap[gb198]? = some (.cells #[.string a1_0,.string a1_1,.bool a1_2] 23 (0,0))):=⟨by (with_reducible repeat (first|apply bN|apply bD|apply bA|refine blk_far ?_ NB198_211.out _));exact BK198.out⟩
       have n2_ : Aside0 ((((w77.setCell ⟨gb211,0,none⟩ (.string t207)).setCell ⟨gb211,1,none⟩ (.string t208)).setCell ⟨gb211,2,none⟩ (.bool t209)).heap[gb199]? = some (.cells #[.string a2_0,.string a2_1,.bool a2_2] 23 (0,0))):=⟨by (with_reducible repeat (first|apply bN|apply bD|apply bA|refine blk_far ?_ NB199_211.out _));exact BK199.out⟩
       have n3_ : Aside0 ((((w77.setCell ⟨gb211,0,none⟩ (.string t207)).setCell ⟨gb211,1,none⟩ (.string t208)).setCell ⟨gb211,2,none⟩ (.bool t209)).heap[gb211]? = some (.cells #[.string t207,.string t208,.bool t209] 23 (0,0))):=⟨by (with_reducible repeat first|apply bN|apply bD|apply bA);refine blk_put (cs:=#[.string t207,.string t208,.bool false]) ?_ 2 _ rfl;(with_reducible repeat first|apply bN|apply bD|apply bA);refine blk_put (cs:=#[.string t207,.string (⟨#[]⟩ : ByteArray),.bool false]) ?_ 1 _ rfl;(with_reducible repeat first|apply bN|apply bD|apply bA);refine blk_put (cs:=#[.string (⟨#[]⟩ : ByteArray),.string (⟨#[]⟩ : ByteArray),.bool false]) ?_ 0 _ rfl;(with_reducible repeat first|apply bN|apply bD|apply bA);exact BK211.out⟩
       have n4_ : Aside0 (Below w.heap.size w (((w77.setCell ⟨gb211,0,none⟩ (.string t207)).setCell ⟨gb211,1,none⟩ (.string t208)).setCell ⟨gb211,2,none⟩ (.bool t209))):=⟨by repeat (first|(with_reducible first|exact HB.out|apply xA|apply xN|apply xD|refine xS ?_ GE197.out|refine xS ?_ GE198.out|refine xS ?_ GE199.out|refine xS ?_ GE211.out)|exact HB.out)⟩
       (try clear BK197)
       (try clear BK198)
       (try clear BK199)
       (try clear BK211)
       (try clear HB)
       generalize (((w77.setCell ⟨gb211,0,none⟩ (.string t207)).setCell ⟨gb211,1,none⟩ (.string t208)).setCell ⟨gb211,2,none⟩ (.bool t209)) = w84 at n0_ n1_ n2_ n3_ n4_ ⊢
       have BK197:=n0_
       have BK198:=n1_
       have BK199:=n2_
       have BK211:=n3_
       have HB:=n4_
       clear n0_ n1_ n2_ n3_ n4_
       replace BK197:=Aside0.mk (blk_drew BK197.out)
       replace BK198:=Aside0.mk (blk_drew BK198.out)
       replace BK199:=Aside0.mk (blk_drew BK199.out)
       replace BK211:=Aside0.mk (blk_drew BK211.out)
       replace HB:=Aside0.mk (below_drew1 HB.out)
       refine start_ (n:=20) (S:=fun w' => w'.cell? ⟨gb199,0,none⟩ = some (.string a2_0) ∧ w'.cell? ⟨gb199,1,none⟩ = some (.string a2_1) ∧ w'.cell? ⟨gb199,2,none⟩ = some (.bool a2_2)) (ds:=[]) #[false,false,false,false,false,false,false,false,false,false,false,false,false,false,false,false,false,false,false,false] (by kernel_rfl) rfl rfl ⟨(blk_cell BK199.out 0).trans rfl,(blk_cell BK199.out 1).trans rfl,(blk_cell BK199.out 2).trans rfl⟩ (fun hHeld => ?_);refine with_tabW tidelinelaw02_SpanMeets.tab6 tidelinelaw02_SpanMeets.bits6 (fun HT_ HW_ => ?_)
       generalize w84.drew = w85 at BK197 BK198 BK199 BK211 HB hHeld ⊢
       refine take_ (i:=0) (N:=some 52) (v:=?_) (a':=?_) #[true,false,false,false,false,false,false,false,false,false,false,false,false,false,false,false,false,false,false,false] rfl rfl (take_ofW HT_.out HW_.out (by kernel_rfl)) (fun _ _ _ h => h) (Or.inl ⟨by rfl,?_⟩) hHeld ?_ ?_
       rotate_left
       ·rintro w' ⟨s0,s1,s2⟩
        go_simp
        with_reducible rfl
       rotate_left
       ·simp only [Act.put,List.setIfInBounds_toArray,List.set_cons_zero,List.set_cons_succ,i64_w,i32_w]
        rfl
       refine one_ (i:=1) (N:=some 53) #[true,true,false,false,false,false,false,false,false,false,false,false,false,false,false,false,false,false,false,false] rfl rfl (one_of HT_.out (by kernel_rfl)) (by decide) (fun K hK => ?_)
       refine goes_ Try.func14 (by kernel_rfl) rfl #[.agg #[.string a2_0,.string a2_1,.bool a2_2]] (by rfl) rfl rfl (by (try simp only [List.map_toArray,List.map_cons,List.map_nil]);first|done|rfl|(simp only [List.length_drop,List.length_take];rfl)) ?_
       with_reducible refine (span_Empty.calls kj5 a2_0 a2_1 a2_2 true _ A82.out).mono ?_
       rintro e w86 ⟨rfl,hb⟩
       refine ⟨_,rfl,?_⟩
       replace BK197:=bk (by (with_reducible repeat first|apply bN|apply bD|apply bA);exact BK197.out) hb
       replace BK198:=bk (by (with_reducible repeat first|apply bN|apply bD|apply bA);exact BK198.out) hb
       replace BK199:=bk (by (with_reducible repeat first|apply bN|apply bD|apply bA);exact BK199.out) hb
       replace BK211:=bk (by (with_reducible repeat first|apply bN|apply bD|apply bA);exact BK211.out) hb
       replace HB:=Aside0.mk (below_step (by repeat (first|(with_reducible first|exact HB.out|apply xA|apply xN|apply xD|refine xS ?_ GE197.out|refine xS ?_ GE198.out|refine xS ?_ GE199.out|refine xS ?_ GE211.out)|exact HB.out)) hb)
       (try clear hb)
       (try clear hb2)
       (try clear hk)
       (try clear hi)
       refine hK.out _ _ ⟨(blk_cell BK199.out 0).trans rfl,(blk_cell BK199.out 1).trans rfl,(blk_cell BK199.out 2).trans rfl⟩ (fun hHeld => ?_)
       clear hK K
       refine norm_ (a':=?_) ?_ ?_
       rotate_left
       ·show Act.put _ (some 53) _ = _
        simp only [Act.put,List.setIfInBounds_toArray,List.set_cons_zero,List.set_cons_succ,i64_w,i32_w]
        rfl
       refine pure_ (i:=2) (N:=some 54) (v:=?_) (a':=?_) #[true,true,true,false,false,false,false,false,false,false,false,false,false,false,false,false,false,false,false,false] rfl rfl (any_of HT_.out (by kernel_rfl)) (fun _ _ _ h => h) (Or.inl ⟨by rfl,?_⟩) ?_ ?_
       rotate_left
       ·intro w'
        go_simp
        with_reducible rfl
       rotate_left
       ·simp only [Act.put,List.setIfInBounds_toArray,List.set_cons_zero,List.set_cons_succ,i64_w,i32_w]
        rfl
       refine pure_ (i:=3) (N:=some 55) (v:=?_) (a':=?_) #[true,true,true,true,false,false,false,false,false,false,false,false,false,false,false,false,false,false,false,false] rfl rfl (any_of HT_.out (by kernel_rfl)) (fun _ _ _ h => h) (Or.inl ⟨by rfl,?_⟩) ?_ ?_
       rotate_left
       ·intro w'
        go_simp
        with_reducible rfl
       rotate_left
       ·simp only [Act.put,List.setIfInBounds_toArray,List.set_cons_zero,List.set_cons_succ,i64_w,i32_w]
        rfl
       refine pure_ (i:=4) (N:=some 56) (v:=undef) (a':=?_) #[true,true,true,true,true,false,false,false,false,false,false,false,false,false,false,false,false,false,false,false] rfl rfl (any_of HT_.out (by kernel_rfl)) (fun _ _ _ h => h) (Or.inr ⟨by rfl,rfl⟩) ?_ ?_
       rotate_left
       ·simp only [Act.put,List.setIfInBounds_toArray,List.set_cons_zero,List.set_cons_succ,i64_w,i32_w]
        rfl
       refine pure_ (i:=5) (N:=some 57) (v:=undef) (a':=?_) #[true,true,true,true,true,true,false,false,false,false,false,false,false,false,false,false,false,false,false,false] rfl rfl (any_of HT_.out (by kernel_rfl)) (fun _ _ _ h => h) (Or.inr ⟨by rfl,rfl⟩) ?_ ?_
       rotate_left
       ·simp only [Act.put,List.setIfInBounds_toArray,List.set_cons_zero,List.set_cons_succ,i64_w,i32_w]
        rfl
       refine pure_ (i:=6) (N:=some 58) (v:=undef) (a':=?_) #[true,true,true,true,true,true,true,false,false,false,false,false,false,false,false,false,false,false,false,false] rfl rfl (any_of HT_.out (by kernel_rfl)) (fun _ _ _ h => h) (Or.inr ⟨by rfl,rfl⟩) ?_ ?_
       rotate_left
       ·simp only [Act.put,List.setIfInBounds_toArray,List.set_cons_zero,List.set_cons_succ,i64_w,i32_w]
        rfl
       refine pure_ (i:=7) (N:=some 59) (v:=undef) (a':=?_) #[true,true,true,true,true,true,true,true,false,false,false,false,false,false,false,false,false,false,false,false] rfl rfl (any_of HT_.out (by kernel_rfl)) (fun _ _ _ h => h) (Or.inr ⟨by rfl,rfl⟩) ?_ ?_
       rotate_left
       ·simp only [Act.put,List.setIfInBounds_toArray,List.set_cons_zero,List.set_cons_succ,i64_w,i32_w]
        rfl
       refine pure_ (i:=8) (N:=some 60) (v:=undef) (a':=?_) #[true,true,true,true,true,true,true,true,true,false,false,false,false,false,false,false,false,false,false,false] rfl rfl (any_of HT_.out (by kernel_rfl)) (fun _ _ _ h => h) (Or.inr ⟨by rfl,rfl⟩) ?_ ?_
       rotate_left
       ·simp only [Act.put,List.setIfInBounds_toArray,List.set_cons_zero,List.set_cons_succ,i64_w,i32_w]
        rfl
       refine pure_ (i:=9) (N:=some 61) (v:=undef) (a':=?_) #[true,true,true,true,true,true,true,true,true,true,false,false,false,false,false,false,false,false,false,false] rfl rfl (any_of HT_.out (by kernel_rfl)) (fun _ _ _ h => h) (Or.inr ⟨by rfl,rfl⟩) ?_ ?_
       rotate_left
       ·simp only [Act.put,List.setIfInBounds_toArray,List.set_cons_zero,List.set_cons_succ,i64_w,i32_w]
        rfl
       refine pure_ (i:=10) (N:=some 62) (v:=undef) (a':=?_) #[true,true,true,true,true,true,true,true,true,true,true,false,false,false,false,false,false,false,false,false] rfl rfl (any_of HT_.out (by kernel_rfl)) (fun _ _ _ h => h) (Or.inr ⟨by rfl,rfl⟩) ?_ ?_
       rotate_left
       ·simp only [Act.put,List.setIfInBounds_toArray,List.set_cons_zero,List.set_cons_succ,i64_w,i32_w]
        rfl
       refine pure_ (i:=11) (N:=some 63) (v:=undef) (a':=?_) #[true,true,true,true,true,true,true,true,true,true,true,true,false,false,false,false,false,false,false,false] rfl rfl (any_of HT_.out (by kernel_rfl)) (fun _ _ _ h => h) (Or.inr ⟨by rfl,rfl⟩) ?_ ?_
       rotate_left
       ·simp only [Act.put,List.setIfInBounds_toArray,List.set_cons_zero,List.set_cons_succ,i64_w,i32_w]
        rfl
       refine pure_ (i:=12) (N:=some 64) (v:=undef) (a':=?_) #[true,true,true,true,true,true,true,true,true,true,true,true,true,false,false,false,false,false,false,false] rfl rfl (any_of HT_.out (by kernel_rfl)) (fun _ _ _ h => h) (Or.inr ⟨by rfl,rfl⟩) ?_ ?_
       rotate_left
       ·simp only [Act.put,List.setIfInBounds_toArray,List.set_cons_zero,List.set_cons_succ,i64_w,i32_w]
        rfl
       refine pure_ (i:=13) (N:=some 65) (v:=undef) (a':=?_) #[true,true,true,true,true,true,true,true,true,true,true,true,true,true,false,false,false,false,false,false] rfl rfl (any_of HT_.out (by kernel_rfl)) (fun _ _ _ h => h) (Or.inr ⟨by rfl,rfl⟩) ?_ ?_
       rotate_left
       ·simp only [Act.put,List.setIfInBounds_toArray,List.set_cons_zero,List.set_cons_succ,i64_w,i32_w]
        rfl
       refine pure_ (i:=14) (N:=some 66) (v:=undef) (a':=?_) #[true,true,true,true,true,true,true,true,true,true,true,true,true,true,true,false,false,false,false,false] rfl rfl (any_of HT_.out (by kernel_rfl)) (fun _ _ _ h => h) (Or.inr ⟨by rfl,rfl⟩) ?_ ?_
       rotate_left
       ·simp only [Act.put,List.setIfInBounds_toArray,List.set_cons_zero,List.set_cons_succ,i64_w,i32_w]
        rfl
       refine pure_ (i:=15) (N:=some 67) (v:=undef) (a':=?_) #[true,true,true,true,true,true,true,true,true,true,true,true,true,true,true,true,false,false,false,false] rfl rfl (any_of HT_.out (by kernel_rfl)) (fun _ _ _ h => h) (Or.inr ⟨by rfl,rfl⟩) ?_ ?_
       rotate_left
       ·simp only [Act.put,List.setIfInBounds_toArray,List.set_cons_zero,List.set_cons_succ,i64_w,i32_w]
        rfl
       refine pure_ (i:=16) (N:=some 68) (v:=undef) (a':=?_) #[true,true,true,true,true,true,true,true,true,true,true,true,true,true,true,true,true,false,false,false] rfl rfl (any_of HT_.out (by kernel_rfl)) (fun _ _ _ h => h) (Or.inr ⟨by rfl,rfl⟩) ?_ ?_
       rotate_left
       ·simp only [Act.put,List.setIfInBounds_toArray,List.set_cons_zero,List.set_cons_succ,i64_w,i32_w]
        rfl
       refine pure_ (i:=17) (N:=some 69) (v:=undef) (a':=?_) #[true,true,true,true,true,true,true,true,true,true,true,true,true,true,true,true,true,true,false,false] rfl rfl (any_of HT_.out (by kernel_rfl)) (fun _ _ _ h => h) (Or.inr ⟨by rfl,rfl⟩) ?_ ?_
       rotate_left
       ·simp only [Act.put,List.setIfInBounds_toArray,List.set_cons_zero,List.set_cons_succ,i64_w,i32_w]
        rfl
       refine pure_ (i:=18) (N:=some 70) (v:=undef) (a':=?_) #[true,true,true,true,true,true,true,true,true,true,true,true,true,true,true,true,true,true,true,false] rfl rfl (any_of HT_.out (by kernel_rfl)) (fun _ _ _ h => h) (Or.inr ⟨by rfl,rfl⟩) ?_ ?_
       rotate_left
       ·simp only [Act.put,List.setIfInBounds_toArray,List.set_cons_zero,List.set_cons_succ,i64_w,i32_w]
        rfl
       refine pure_ (i:=19) (N:=some 71) (v:=?_) (a':=?_) #[true,true,true,true,true,true,true,true,true,true,true,true,true,true,true,true,true,true,true,true] rfl rfl (any_of HT_.out (by kernel_rfl)) (fun _ _ _ h => h) (Or.inl ⟨by rfl,?_⟩) ?_ ?_
       rotate_left
       ·intro w'
        go_simp
        with_reducible rfl
       rotate_left
       ·simp only [Act.put,List.setIfInBounds_toArray,List.set_cons_zero,List.set_cons_succ,i64_w,i32_w]
        rfl
       refine done_ (done_of HT_.out (by kernel_rfl)) ?_
       try go_wp2
       go_meet
       case rel => exact ⟨_,(false),(by first|rfl|(simp;done)|(simp [*];done)|(simp [*,Go.Proofs.Ytgdhgamolenfgaa.Str.bne_nil];done)),H',⟨by have:=HJ5.out;first|omega|exact Nat.le_refl _⟩,⟨by (with_reducible repeat first|apply bN|apply bD|apply bA);exact BK197.out⟩,⟨by (with_reducible repeat first|apply bN|apply bD|apply bA);exact BK198.out⟩,⟨by (with_reducible repeat first|apply bN|apply bD|apply bA);exact BK199.out⟩,⟨by (with_reducible repeat first|apply bN|apply bD|apply bA);exact BK211.out⟩,⟨by repeat (first|(with_reducible first|exact HB.out|apply xA|apply xN|apply xD|refine xS ?_ GE197.out|refine xS ?_ GE198.out|refine xS ?_ GE199.out|refine xS ?_ GE211.out)|exact HB.out)⟩⟩
      ·replace c83:=Bool.eq_false_iff.mpr c83
       subst c83
       have H1 : (if t210 = true then ((span_Within.f kj5 a2_0 a2_1 a2_2 t207 t208 t209).bind fun t213 => ((span_Within.f kj5 a2_0 a2_1 a2_2 a0_0 a0_1 a0_2).bind fun t214 => (if t214 = true then ((span_Within.f kj5 a2_0 a2_1 a2_2 a1_0 a1_1 a1_2).bind fun t215 => (tidelinelaw02_SpanMeets.j1 kj5 t210 (t213 != t215) a0_0 a0_1 a0_2 a1_0 a1_1 a1_2 a2_0 a2_1 a2_2 t207 t208 t209)) else (tidelinelaw02_SpanMeets.j1 kj5 t210 (t213 != false) a0_0 a0_1 a0_2 a1_0 a1_1 a1_2 a2_0 a2_1 a2_2 t207 t208 t209)))) else ((span_Within.f kj5 a2_0 a2_1 a2_2 a0_0 a0_1 a0_2).bind fun t216 => (if t216 = true then ((span_Within.f kj5 a2_0 a2_1 a2_2 a1_0 a1_1 a1_2).bind fun t217 => (tidelinelaw02_SpanMeets.j1 kj5 t210 (false != t217) a0_0 a0_1 a0_2 a1_0 a1_1 a1_2 a2_0 a2_1 a2_2 t207 t208 t209)) else (tidelinelaw02_SpanMeets.j1 kj5 t210 (false != false) a0_0 a0_1 a0_2 a1_0 a1_1 a1_2 a2_0 a2_1 a2_2 t207 t208 t209)))) = some r:=by rw [if_neg (show ¬ (false = true) by decide)] at H;exact H
       clear H
       have H:=H1
       clear H1
       by_cases c87 : t210 = true
       ·subst c87
        have H1 : ((span_Within.f kj5 a2_0 a2_1 a2_2 t207 t208 t209).bind fun t213 => ((span_Within.f kj5 a2_0 a2_1 a2_2 a0_0 a0_1 a0_2).bind fun t214 => (if t214 = true then ((span_Within.f kj5 a2_0 a2_1 a2_2 a1_0 a1_1 a1_2).bind fun t215 => (tidelinelaw02_SpanMeets.j1 kj5 true (t213 != t215) a0_0 a0_1 a0_2 a1_0 a1_1 a1_2 a2_0 a2_1 a2_2 t207 t208 t209)) else (tidelinelaw02_SpanMeets.j1 kj5 true (t213 != false) a0_0 a0_1 a0_2 a1_0 a1_1 a1_2 a2_0 a2_1 a2_2 t207 t208 t209)))) = some r:=by rw [if_pos rfl] at H;exact H
        clear H
        have H:=H1
        clear H1
        replace H:=Option.bind_eq_some_iff.mp H
        obtain ⟨t213,A880,H⟩:=H
        replace H : ((span_Within.f kj5 a2_0 a2_1 a2_2 a0_0 a0_1 a0_2).bind fun t214 => (if t214 = true then ((span_Within.f kj5 a2_0 a2_1 a2_2 a1_0 a1_1 a1_2).bind fun t215 => (tidelinelaw02_SpanMeets.j1 kj5 true (t213 != t215) a0_0 a0_1 a0_2 a1_0 a1_1 a1_2 a2_0 a2_1 a2_2 t207 t208 t209)) else (tidelinelaw02_SpanMeets.j1 kj5 true (t213 != false) a0_0 a0_1 a0_2 a1_0 a1_1 a1_2 a2_0 a2_1 a2_2 t207 t208 t209))) = some r:=H
        have A88:=Aside0.mk A880
        clear A880
        replace H:=Option.bind_eq_some_iff.mp H
        obtain ⟨t214,A890,H⟩:=H
        replace H : (if t214 = true then ((span_Within.f kj5 a2_0 a2_1 a2_2 a1_0 a1_1 a1_2).bind fun t215 => (tidelinelaw02_SpanMeets.j1 kj5 true (t213 != t215) a0_0 a0_1 a0_2 a1_0 a1_1 a1_2 a2_0 a2_1 a2_2 t207 t208 t209)) else (tidelinelaw02_SpanMeets.j1 kj5 true (t213 != false) a0_0 a0_1 a0_2 a1_0 a1_1 a1_2 a2_0 a2_1 a2_2 t207 t208 t209)) = some r:=H
        have A89:=Aside0.mk A890
        clear A890
        by_cases c90 : t214 = true
        ·subst c90
         have H1 : ((span_Within.f kj5 a2_0 a2_1 a2_2 a1_0 a1_1 a1_2).bind fun t215 => (tidelinelaw02_SpanMeets.j1 kj5 true (t213 != t215) a0_0 a0_1 a0_2 a1_0 a1_1 a1_2 a2_0 a2_1 a2_2 t207 t208 t209)) = some r:=by rw [if_pos rfl] at H;exact H
         clear H
         have H:=H1
         clear H1
         replace H:=Option.bind_eq_some_iff.mp H
         obtain ⟨t215,A910,H⟩:=H
         replace H : (tidelinelaw02_SpanMeets.j1 kj5 true (t213 != t215) a0_0 a0_1 a0_2 a1_0 a1_1 a1_2 a2_0 a2_1 a2_2 t207 t208 t209) = some r:=H
         have A91:=Aside0.mk A910
         clear A910
         have H':=Aside0.mk H
         clear H
         try go_wp2
         have n0_ : Aside0 ((((w77.setCell ⟨gb211,0,none⟩ (.string t207)).setCell ⟨gb211,1,none⟩ (.string t208)).setCell ⟨gb211,2,none⟩ (.bool t209)).heap[gb197]? = some (.cells #[.string a0_0,.string a0_1,.bool a0_2] 23 (0,0))):=⟨by (with_reducible repeat (first|apply bN|apply bD|apply bA|refine blk_far ?_ NB197_211.out _));exact BK197.out⟩
         have n1_ : Aside0 ((((w77.setCell ⟨gb211,0,none⟩ (.string t207)).setCell ⟨gb211,1,none⟩ (.string t208)).setCell ⟨gb211,2,none⟩ (.bool t209)).heap[gb198]? = some (.cells #[.string a1_0,.string a1_1,.bool a1_2] 23 (0,0))):=⟨by (with_reducible repeat (first|apply bN|apply bD|apply bA|refine blk_far ?_ NB198_211.out _));exact BK198.out⟩
         have n2_ : Aside0 ((((w77.setCell ⟨gb211,0,none⟩ (.string t207)).setCell ⟨gb211,1,none⟩ (.string t208)).setCell ⟨gb211,2,none⟩ (.bool t209)).heap[gb199]? = some (.cells #[.string a2_0,.string a2_1,.bool a2_2] 23 (0,0))):=⟨by (with_reducible repeat (first|apply bN|apply bD|apply bA|refine blk_far ?_ NB199_211.out _));exact BK199.out⟩
         have n3_ : Aside0 ((((w77.setCell ⟨gb211,0,none⟩ (.string t207)).setCell ⟨gb211,1,none⟩ (.string t208)).setCell ⟨gb211,2,none⟩ (.bool t209)).heap[gb211]? = some (.cells #[.string t207,.string t208,.bool t209] 23 (0,0))):=⟨by (with_reducible repeat first|apply bN|apply bD|apply bA);refine blk_put (cs:=#[.string t207,.string t208,.bool false]) ?_ 2 _ rfl;(with_reducible repeat first|apply bN|apply bD|apply bA);refine blk_put (cs:=#[.string t207,.string (⟨#[]⟩ : ByteArray),.bool false]) ?_ 1 _ rfl;(with_reducible repeat first|apply bN|apply bD|apply bA);refine blk_put (cs:=#[.string (⟨#[]⟩ : ByteArray),.string (⟨#[]⟩ : ByteArray),.bool false]) ?_ 0 _ rfl;(with_reducible repeat first|apply bN|apply bD|apply bA);exact BK211.out⟩
         have n4_ : Aside0 (Below w.heap.size w (((w77.setCell ⟨gb211,0,none⟩ (.string t207)).setCell ⟨gb211,1,none⟩ (.string t208)).setCell ⟨gb211,2,none⟩ (.bool t209))):=⟨by repeat (first|(with_reducible first|exact HB.out|apply xA|apply xN|apply xD|refine xS ?_ GE197.out|refine xS ?_ GE198.out|refine xS ?_ GE199.out|refine xS ?_ GE211.out)|exact HB.out)⟩
         (try clear BK197)
         (try clear BK198)
         (try clear BK199)
         (try clear BK211)
         (try clear HB)
         generalize (((w77.setCell ⟨gb211,0,none⟩ (.string t207)).setCell ⟨gb211,1,none⟩ (.string t208)).setCell ⟨gb211,2,none⟩ (.bool t209)) = w92 at n0_ n1_ n2_ n3_ n4_ ⊢
         have BK197:=n0_
         have BK198:=n1_
         have BK199:=n2_
         have BK211:=n3_
         have HB:=n4_
         clear n0_ n1_ n2_ n3_ n4_
         replace BK197:=Aside0.mk (blk_drew BK197.out)
         replace BK198:=Aside0.mk (blk_drew BK198.out)
         replace BK199:=Aside0.mk (blk_drew BK199.out)
         replace BK211:=Aside0.mk (blk_drew BK211.out)
         replace HB:=Aside0.mk (below_drew1 HB.out)
         refine start_ (n:=20) (S:=fun w' => w'.cell? ⟨gb199,0,none⟩ = some (.string a2_0) ∧ w'.cell? ⟨gb199,1,none⟩ = some (.string a2_1) ∧ w'.cell? ⟨gb199,2,none⟩ = some (.bool a2_2) ∧ w'.cell? ⟨gb211,0,none⟩ = some (.string t207) ∧ w'.cell? ⟨gb211,1,none⟩ = some (.string t208) ∧ w'.cell? ⟨gb211,2,none⟩ = some (.bool t209) ∧ w'.cell? ⟨gb197,0,none⟩ = some (.string a0_0) ∧ w'.cell? ⟨gb197,1,none⟩ = some (.string a0_1) ∧ w'.cell? ⟨gb197,2,none⟩ = some (.bool a0_2) ∧ w'.cell? ⟨gb198,0,none⟩ = some (.string a1_0) ∧ w'.cell? ⟨gb198,1,none⟩ = some (.string a1_1) ∧ w'.cell? ⟨gb198,2,none⟩ = some (.bool a1_2)) (ds:=[]) #[false,false,false,false,false,false,false,false,false,false,false,false,false,false,false,false,false,false,false,false] (by kernel_rfl) rfl rfl ⟨(blk_cell BK199.out 0).trans rfl,(blk_cell BK199.out 1).trans rfl,(blk_cell BK199.out 2).trans rfl,(blk_cell BK211.out 0).trans rfl,(blk_cell BK211.out 1).trans rfl,(blk_cell BK211.out 2).trans rfl,(blk_cell BK197.out 0).trans rfl,(blk_cell BK197.out 1).trans rfl,(blk_cell BK197.out 2).trans rfl,(blk_cell BK198.out 0).trans rfl,(blk_cell BK198.out 1).trans rfl,(blk_cell BK198.out 2).trans rfl⟩ (fun hHeld => ?_);refine with_tabW tidelinelaw02_SpanMeets.tab6 tidelinelaw02_SpanMeets.bits6 (fun HT_ HW_ => ?_)
         generalize w92.drew = w93 at BK197 BK198 BK199 BK211 HB hHeld ⊢
         refine take_ (i:=0) (N:=some 52) (v:=?_) (a':=?_) #[true,false,false,false,false,false,false,false,false,false,false,false,false,false,false,false,false,false,false,false] rfl rfl (take_ofW HT_.out HW_.out (by kernel_rfl)) (fun _ _ _ h => h) (Or.inl ⟨by rfl,?_⟩) hHeld ?_ ?_
         rotate_left
         ·rintro w' ⟨s0,s1,s2,s3,s4,s5,s6,s7,s8,s9,s10,s11⟩
          go_simp
          with_reducible rfl
         rotate_left
         ·simp only [Act.put,List.setIfInBounds_toArray,List.set_cons_zero,List.set_cons_succ,i64_w,i32_w]
          rfl
         refine one_ (i:=1) (N:=some 53) #[true,true,false,false,false,false,false,false,false,false,false,false,false,false,false,false,false,false,false,false] rfl rfl (one_of HT_.out (by kernel_rfl)) (by decide) (fun K hK => ?_)
         refine goes_ Try.func14 (by kernel_rfl) rfl #[.agg #[.string a2_0,.string a2_1,.bool a2_2]] (by rfl) rfl rfl (by (try simp only [List.map_toArray,List.map_cons,List.map_nil]);first|done|rfl|(simp only [List.length_drop,List.length_take];rfl)) ?_
         with_reducible refine (span_Empty.calls kj5 a2_0 a2_1 a2_2 false _ A82.out).mono ?_
         rintro e w94 ⟨rfl,hb⟩
         refine ⟨_,rfl,?_⟩
         replace BK197:=bk (by (with_reducible repeat first|apply bN|apply bD|apply bA);exact BK197.out) hb
         replace BK198:=bk (by (with_reducible repeat first|apply bN|apply bD|apply bA);exact BK198.out) hb
         replace BK199:=bk (by (with_reducible repeat first|apply bN|apply bD|apply bA);exact BK199.out) hb
         replace BK211:=bk (by (with_reducible repeat first|apply bN|apply bD|apply bA);exact BK211.out) hb
         replace HB:=Aside0.mk (below_step (by repeat (first|(with_reducible first|exact HB.out|apply xA|apply xN|apply xD|refine xS ?_ GE197.out|refine xS ?_ GE198.out|refine xS ?_ GE199.out|refine xS ?_ GE211.out)|exact HB.out)) hb)
         (try clear hb)
         (try clear hb2)
         (try clear hk)
         (try clear hi)
         refine hK.out _ _ ⟨(blk_cell BK199.out 0).trans rfl,(blk_cell BK199.out 1).trans rfl,(blk_cell BK199.out 2).trans rfl,(blk_cell BK211.out 0).trans rfl,(blk_cell BK211.out 1).trans rfl,(blk_cell BK211.out 2).trans rfl,(blk_cell BK197.out 0).trans rfl,(blk_cell BK197.out 1).trans rfl,(blk_cell BK197.out 2).trans rfl,(blk_cell BK198.out 0).trans rfl,(blk_cell BK198.out 1).trans rfl,(blk_cell BK198.out 2).trans rfl⟩ (fun hHeld => ?_)
         clear hK K
         refine norm_ (a':=?_) ?_ ?_
         rotate_left
         ·show Act.put _ (some 53) _ = _
          simp only [Act.put,List.setIfInBounds_toArray,List.set_cons_zero,List.set_cons_succ,i64_w,i32_w]
          rfl
         refine pure_ (i:=2) (N:=some 54) (v:=?_) (a':=?_) #[true,true,true,false,false,false,false,false,false,false,false,false,false,false,false,false,false,false,false,false] rfl rfl (any_of HT_.out (by kernel_rfl)) (fun _ _ _ h => h) (Or.inl ⟨by rfl,?_⟩) ?_ ?_
         rotate_left
         ·intro w'
          go_simp
          with_reducible rfl
         rotate_left
         ·simp only [Act.put,List.setIfInBounds_toArray,List.set_cons_zero,List.set_cons_succ,i64_w,i32_w]
          rfl
         refine pure_ (i:=3) (N:=some 55) (v:=?_) (a':=?_) #[true,true,true,true,false,false,false,false,false,false,false,false,false,false,false,false,false,false,false,false] rfl rfl (any_of HT_.out (by kernel_rfl)) (fun _ _ _ h => h) (Or.inl ⟨by rfl,?_⟩) ?_ ?_
         rotate_left
         ·intro w'
          go_simp
          with_reducible rfl
         rotate_left
         ·simp only [Act.put,List.setIfInBounds_toArray,List.set_cons_zero,List.set_cons_succ,i64_w,i32_w]
          rfl
         refine pure_ (i:=4) (N:=some 56) (v:=?_) (a':=?_) #[true,true,true,true,true,false,false,false,false,false,false,false,false,false,false,false,false,false,false,false] rfl rfl (any_of HT_.out (by kernel_rfl)) (fun _ _ _ h => h) (Or.inl ⟨by rfl,?_⟩) ?_ ?_
         rotate_left
         ·intro w'
          go_simp
          with_reducible rfl
         rotate_left
         ·simp only [Act.put,List.setIfInBounds_toArray,List.set_cons_zero,List.set_cons_succ,i64_w,i32_w]
          rfl
         refine pure_ (i:=5) (N:=some 57) (v:=?_) (a':=?_) #[true,true,true,true,true,true,false,false,false,false,false,false,false,false,false,false,false,false,false,false] rfl rfl (any_of HT_.out (by kernel_rfl)) (fun _ _ _ h => h) (Or.inl ⟨by rfl,?_⟩) ?_ ?_
         rotate_left
         ·intro w'
          go_simp
          with_reducible rfl
         rotate_left
         ·simp only [Act.put,List.setIfInBounds_toArray,List.set_cons_zero,List.set_cons_succ,i64_w,i32_w]
          rfl
         refine take_ (i:=6) (N:=some 58) (v:=?_) (a':=?_) #[true,true,true,true,true,true,true,false,false,false,false,false,false,false,false,false,false,false,false,false] rfl rfl (take_ofW HT_.out HW_.out (by kernel_rfl)) (fun _ _ _ h => h) (Or.inl ⟨by rfl,?_⟩) hHeld ?_ ?_
         rotate_left
         ·rintro w' ⟨s0,s1,s2,s3,s4,s5,s6,s7,s8,s9,s10,s11⟩
          go_simp
          with_reducible rfl
         rotate_left
         ·simp only [Act.put,List.setIfInBounds_toArray,List.set_cons_zero,List.set_cons_succ,i64_w,i32_w]
          rfl
         refine take_ (i:=7) (N:=some 59) (v:=?_) (a':=?_) #[true,true,true,true,true,true,true,true,false,false,false,false,false,false,false,false,false,false,false,false] rfl rfl (take_ofW HT_.out HW_.out (by kernel_rfl)) (fun _ _ _ h => h) (Or.inl ⟨by rfl,?_⟩) hHeld ?_ ?_
         rotate_left
         ·rintro w' ⟨s0,s1,s2,s3,s4,s5,s6,s7,s8,s9,s10,s11⟩
          go_simp
          with_reducible rfl
         rotate_left
         ·simp only [Act.put,List.setIfInBounds_toArray,List.set_cons_zero,List.set_cons_succ,i64_w,i32_w]
          rfl
         refine take_ (i:=10) (N:=some 62) (v:=?_) (a':=?_) #[true,true,true,true,true,true,true,true,false,false,true,false,false,false,false,false,false,false,false,false] rfl rfl (take_ofW HT_.out HW_.out (by kernel_rfl)) (fun _ _ _ h => h) (Or.inl ⟨by rfl,?_⟩) hHeld ?_ ?_
         rotate_left
         ·rintro w' ⟨s0,s1,s2,s3,s4,s5,s6,s7,s8,s9,s10,s11⟩
          go_simp
          with_reducible rfl
         rotate_left
         ·simp only [Act.put,List.setIfInBounds_toArray,List.set_cons_zero,List.set_cons_succ,i64_w,i32_w]
          rfl
         refine take_ (i:=11) (N:=some 63) (v:=?_) (a':=?_) #[true,true,true,true,true,true,true,true,false,false,true,true,false,false,false,false,false,false,false,false] rfl rfl (take_ofW HT_.out HW_.out (by kernel_rfl)) (fun _ _ _ h => h) (Or.inl ⟨by rfl,?_⟩) hHeld ?_ ?_
         rotate_left
         ·rintro w' ⟨s0,s1,s2,s3,s4,s5,s6,s7,s8,s9,s10,s11⟩
          go_simp
          with_reducible rfl
         rotate_left
         ·simp only [Act.put,List.setIfInBounds_toArray,List.set_cons_zero,List.set_cons_succ,i64_w,i32_w]
          rfl
         refine one_ (i:=8) (N:=some 60) #[true,true,true,true,true,true,true,true,true,false,true,true,false,false,false,false,false,false,false,false] rfl rfl (one_of HT_.out (by kernel_rfl)) (by decide) (fun K hK => ?_)
         refine goes_ Try.func27 (by kernel_rfl) rfl #[.agg #[.string a2_0,.string a2_1,.bool a2_2],.agg #[.string t207,.string t208,.bool t209]] (by rfl) rfl rfl (by (try simp only [List.map_toArray,List.map_cons,List.map_nil]);first|done|rfl|(simp only [List.length_drop,List.length_take];rfl)) ?_
         with_reducible refine (span_Within.calls kj5 a2_0 a2_1 a2_2 t207 t208 t209 t213 _ A88.out).mono ?_
         rintro e w95 ⟨rfl,hb⟩
         refine ⟨_,rfl,?_⟩
         replace BK197:=bk (by (with_reducible repeat first|apply bN|apply bD|apply bA);exact BK197.out) hb
         replace BK198:=bk (by (with_reducible repeat first|apply bN|apply bD|apply bA);exact BK198.out) hb
         replace BK199:=bk (by (with_reducible repeat first|apply bN|apply bD|apply bA);exact BK199.out) hb
         replace BK211:=bk (by (with_reducible repeat first|apply bN|apply bD|apply bA);exact BK211.out) hb
         replace HB:=Aside0.mk (below_step (by repeat (first|(with_reducible first|exact HB.out|apply xA|apply xN|apply xD|refine xS ?_ GE197.out|refine xS ?_ GE198.out|refine xS ?_ GE199.out|refine xS ?_ GE211.out)|exact HB.out)) hb)
         (try clear hb)
         (try clear hb2)
         (try clear hk)
         (try clear hi)
         refine hK.out _ _ ⟨(blk_cell BK199.out 0).trans rfl,(blk_cell BK199.out 1).trans rfl,(blk_cell BK199.out 2).trans rfl,(blk_cell BK211.out 0).trans rfl,(blk_cell BK211.out 1).trans rfl,(blk_cell BK211.out 2).trans rfl,(blk_cell BK197.out 0).trans rfl,(blk_cell BK197.out 1).trans rfl,(blk_cell BK197.out 2).trans rfl,(blk_cell BK198.out 0).trans rfl,(blk_cell BK198.out 1).trans rfl,(blk_cell BK198.out 2).trans rfl⟩ (fun hHeld => ?_)
         clear hK K
         refine norm_ (a':=?_) ?_ ?_
         rotate_left
         ·show Act.put _ (some 60) _ = _
          simp only [Act.put,List.setIfInBounds_toArray,List.set_cons_zero,List.set_cons_succ,i64_w,i32_w]
          rfl
         refine pure_ (i:=9) (N:=some 61) (v:=?_) (a':=?_) #[true,true,true,true,true,true,true,true,true,true,true,true,false,false,false,false,false,false,false,false] rfl rfl (any_of HT_.out (by kernel_rfl)) (fun _ _ _ h => h) (Or.inl ⟨by rfl,?_⟩) ?_ ?_
         rotate_left
         ·intro w'
          go_simp
          with_reducible rfl
         rotate_left
         ·simp only [Act.put,List.setIfInBounds_toArray,List.set_cons_zero,List.set_cons_succ,i64_w,i32_w]
          rfl
         refine one_ (i:=12) (N:=some 64) #[true,true,true,true,true,true,true,true,true,true,true,true,true,false,false,false,false,false,false,false] rfl rfl (one_of HT_.out (by kernel_rfl)) (by decide) (fun K hK => ?_)
         refine goes_ Try.func27 (by kernel_rfl) rfl #[.agg #[.string a2_0,.string a2_1,.bool a2_2],.agg #[.string a0_0,.string a0_1,.bool a0_2]] (by rfl) rfl rfl (by (try simp only [List.map_toArray,List.map_cons,List.map_nil]);first|done|rfl|(simp only [List.length_drop,List.length_take];rfl)) ?_
         with_reducible refine (span_Within.calls kj5 a2_0 a2_1 a2_2 a0_0 a0_1 a0_2 true _ A89.out).mono ?_
         rintro e w96 ⟨rfl,hb⟩
         refine ⟨_,rfl,?_⟩
         replace BK197:=bk (by (with_reducible repeat first|apply bN|apply bD|apply bA);exact BK197.out) hb
         replace BK198:=bk (by (with_reducible repeat first|apply bN|apply bD|apply bA);exact BK198.out) hb
         replace BK199:=bk (by (with_reducible repeat first|apply bN|apply bD|apply bA);exact BK199.out) hb
         replace BK211:=bk (by (with_reducible repeat first|apply bN|apply bD|apply bA);exact BK211.out) hb
         replace HB:=Aside0.mk (below_step (by repeat (first|(with_reducible first|exact HB.out|apply xA|apply xN|apply xD|refine xS ?_ GE197.out|refine xS ?_ GE198.out|refine xS ?_ GE199.out|refine xS ?_ GE211.out)|exact HB.out)) hb)
         (try clear hb)
         (try clear hb2)
         (try clear hk)
         (try clear hi)
         refine hK.out _ _ ⟨(blk_cell BK199.out 0).trans rfl,(blk_cell BK199.out 1).trans rfl,(blk_cell BK199.out 2).trans rfl,(blk_cell BK211.out 0).trans rfl,(blk_cell BK211.out 1).trans rfl,(blk_cell BK211.out 2).trans rfl,(blk_cell BK197.out 0).trans rfl,(blk_cell BK197.out 1).trans rfl,(blk_cell BK197.out 2).trans rfl,(blk_cell BK198.out 0).trans rfl,(blk_cell BK198.out 1).trans rfl,(blk_cell BK198.out 2).trans rfl⟩ (fun hHeld => ?_)
         clear hK K
         refine norm_ (a':=?_) ?_ ?_
         rotate_left
         ·show Act.put _ (some 64) _ = _
          simp only [Act.put,List.setIfInBounds_toArray,List.set_cons_zero,List.set_cons_succ,i64_w,i32_w]
          rfl
         refine pure_ (i:=13) (N:=some 65) (v:=?_) (a':=?_) #[true,true,true,true,true,true,true,true,true,true,true,true,true,true,false,false,false,false,false,false] rfl rfl (any_of HT_.out (by kernel_rfl)) (fun _ _ _ h => h) (Or.inl ⟨by rfl,?_⟩) ?_ ?_
         rotate_left
         ·intro w'
          go_simp
          with_reducible rfl
         rotate_left
         ·simp only [Act.put,List.setIfInBounds_toArray,List.set_cons_zero,List.set_cons_succ,i64_w,i32_w]
          rfl
         refine take_ (i:=14) (N:=some 66) (v:=?_) (a':=?_) #[true,true,true,true,true,true,true,true,true,true,true,true,true,true,true,false,false,false,false,false] rfl rfl (take_ofW HT_.out HW_.out (by kernel_rfl)) (fun _ _ _ h => h) (Or.inl ⟨by rfl,?_⟩) hHeld ?_ ?_
         rotate_left
         ·rintro w' ⟨s0,s1,s2,s3,s4,s5,s6,s7,s8,s9,s10,s11⟩
          go_simp
          with_reducible rfl
         rotate_left
         ·simp only [Act.put,List.setIfInBounds_toArray,List.set_cons_zero,List.set_cons_succ,i64_w,i32_w]
          rfl
         refine take_ (i:=15) (N:=some 67) (v:=?_) (a':=?_) #[true,true,true,true,true,true,true,true,true,true,true,true,true,true,true,true,false,false,false,false] rfl rfl (take_ofW HT_.out HW_.out (by kernel_rfl)) (fun _ _ _ h => h) (Or.inl ⟨by rfl,?_⟩) hHeld ?_ ?_
         rotate_left
         ·rintro w' ⟨s0,s1,s2,s3,s4,s5,s6,s7,s8,s9,s10,s11⟩
          go_simp
          with_reducible rfl
         rotate_left
         ·simp only [Act.put,List.setIfInBounds_toArray,List.set_cons_zero,List.set_cons_succ,i64_w,i32_w]
          rfl
         refine one_ (i:=16) (N:=some 68) #[true,true,true,true,true,true,true,true,true,true,true,true,true,true,true,true,true,false,false,false] rfl rfl (one_of HT_.out (by kernel_rfl)) (by decide) (fun K hK => ?_)
         refine goes_ Try.func27 (by kernel_rfl) rfl #[.agg #[.string a2_0,.string a2_1,.bool a2_2],.agg #[.string a1_0,.string a1_1,.bool a1_2]] (by rfl) rfl rfl (by (try simp only [List.map_toArray,List.map_cons,List.map_nil]);first|done|rfl|(simp only [List.length_drop,List.length_take];rfl)) ?_
         with_reducible refine (span_Within.calls kj5 a2_0 a2_1 a2_2 a1_0 a1_1 a1_2 t215 _ A91.out).mono ?_
         rintro e w97 ⟨rfl,hb⟩
         refine ⟨_,rfl,?_⟩
         replace BK197:=bk (by (with_reducible repeat first|apply bN|apply bD|apply bA);exact BK197.out) hb
         replace BK198:=bk (by (with_reducible repeat first|apply bN|apply bD|apply bA);exact BK198.out) hb
         replace BK199:=bk (by (with_reducible repeat first|apply bN|apply bD|apply bA);exact BK199.out) hb
         replace BK211:=bk (by (with_reducible repeat first|apply bN|apply bD|apply bA);exact BK211.out) hb
         replace HB:=Aside0.mk (below_step (by repeat (first|(with_reducible first|exact HB.out|apply xA|apply xN|apply xD|refine xS ?_ GE197.out|refine xS ?_ GE198.out|refine xS ?_ GE199.out|refine xS ?_ GE211.out)|exact HB.out)) hb)
         (try clear hb)
         (try clear hb2)
         (try clear hk)
         (try clear hi)
         refine hK.out _ _ ⟨(blk_cell BK199.out 0).trans rfl,(blk_cell BK199.out 1).trans rfl,(blk_cell BK199.out 2).trans rfl,(blk_cell BK211.out 0).trans rfl,(blk_cell BK211.out 1).trans rfl,(blk_cell BK211.out 2).trans rfl,(blk_cell BK197.out 0).trans rfl,(blk_cell BK197.out 1).trans rfl,(blk_cell BK197.out 2).trans rfl,(blk_cell BK198.out 0).trans rfl,(blk_cell BK198.out 1).trans rfl,(blk_cell BK198.out 2).trans rfl⟩ (fun hHeld => ?_)
         clear hK K
         refine norm_ (a':=?_) ?_ ?_
         rotate_left
         ·show Act.put _ (some 68) _ = _
          simp only [Act.put,List.setIfInBounds_toArray,List.set_cons_zero,List.set_cons_succ,i64_w,i32_w]
          rfl
         refine pure_ (i:=17) (N:=some 69) (v:=?_) (a':=?_) #[true,true,true,true,true,true,true,true,true,true,true,true,true,true,true,true,true,true,false,false] rfl rfl (any_of HT_.out (by kernel_rfl)) (fun _ _ _ h => h) (Or.inl ⟨by rfl,?_⟩) ?_ ?_
         rotate_left
         ·intro w'
          go_simp
          with_reducible rfl
         rotate_left
         ·simp only [Act.put,List.setIfInBounds_toArray,List.set_cons_zero,List.set_cons_succ,i64_w,i32_w]
          rfl
         refine pure_ (i:=18) (N:=some 70) (v:=?_) (a':=?_) #[true,true,true,true,true,true,true,true,true,true,true,true,true,true,true,true,true,true,true,false] rfl rfl (any_of HT_.out (by kernel_rfl)) (fun _ _ _ h => h) (Or.inl ⟨by rfl,?_⟩) ?_ ?_
         rotate_left
         ·intro w'
          go_simp
          with_reducible rfl
         rotate_left
         ·simp only [Act.put,List.setIfInBounds_toArray,List.set_cons_zero,List.set_cons_succ,i64_w,i32_w]
          rfl
         refine pure_ (i:=19) (N:=some 71) (v:=?_) (a':=?_) #[true,true,true,true,true,true,true,true,true,true,true,true,true,true,true,true,true,true,true,true] rfl rfl (any_of HT_.out (by kernel_rfl)) (fun _ _ _ h => h) (Or.inl ⟨by rfl,?_⟩) ?_ ?_
         rotate_left
         ·intro w'
          go_simp
          with_reducible rfl
         rotate_left
         ·simp only [Act.put,List.setIfInBounds_toArray,List.set_cons_zero,List.set_cons_succ,i64_w,i32_w]
          rfl
         refine done_ (done_of HT_.out (by kernel_rfl)) ?_
         try go_wp2
         go_meet
         case rel => exact ⟨_,((t213 != t215)),(by first|rfl|(simp;done)|(simp [*];done)|(simp [*,Go.Proofs.Ytgdhgamolenfgaa.Str.bne_nil];done)),H',⟨by have:=HJ5.out;first|omega|exact Nat.le_refl _⟩,⟨by (with_reducible repeat first|apply bN|apply bD|apply bA);exact BK197.out⟩,⟨by (with_reducible repeat first|apply bN|apply bD|apply bA);exact BK198.out⟩,⟨by (with_reducible repeat first|apply bN|apply bD|apply bA);exact BK199.out⟩,⟨by (with_reducible repeat first|apply bN|apply bD|apply bA);exact BK211.out⟩,⟨by repeat (first|(with_reducible first|exact HB.out|apply xA|apply xN|apply xD|refine xS ?_ GE197.out|refine xS ?_ GE198.out|refine xS ?_ GE199.out|refine xS ?_ GE211.out)|exact HB.out)⟩⟩
        ·replace c90:=Bool.eq_false_iff.mpr c90
         subst c90
         have H1 : (tidelinelaw02_SpanMeets.j1 kj5 true (t213 != false) a0_0 a0_1 a0_2 a1_0 a1_1 a1_2 a2_0 a2_1 a2_2 t207 t208 t209) = some r:=by rw [if_neg (show ¬ (false = true) by decide)] at H;exact H
         clear H
         have H:=H1
         clear H1
         have H':=Aside0.mk H
         clear H
         try go_wp2
         have n0_ : Aside0 ((((w77.setCell ⟨gb211,0,none⟩ (.string t207)).setCell ⟨gb211,1,none⟩ (.string t208)).setCell ⟨gb211,2,none⟩ (.bool t209)).heap[gb197]? = some (.cells #[.string a0_0,.string a0_1,.bool a0_2] 23 (0,0))):=⟨by (with_reducible repeat (first|apply bN|apply bD|apply bA|refine blk_far ?_ NB197_211.out _));exact BK197.out⟩
         have n1_ : Aside0 ((((w77.setCell ⟨gb211,0,none⟩ (.string t207)).setCell ⟨gb211,1,none⟩ (.string t208)).setCell ⟨gb211,2,none⟩ (.bool t209)).heap[gb198]? = some (.cells #[.string a1_0,.string a1_1,.bool a1_2] 23 (0,0))):=⟨by (with_reducible repeat (first|apply bN|apply bD|apply bA|refine blk_far ?_ NB198_211.out _));exact BK198.out⟩
         have n2_ : Aside0 ((((w77.setCell ⟨gb211,0,none⟩ (.string t207)).setCell ⟨gb211,1,none⟩ (.string t208)).setCell ⟨gb211,2,none⟩ (.bool t209)).heap[gb199]? = some (.cells #[.string a2_0,.string a2_1,.bool a2_2] 23 (0,0))):=⟨by (with_reducible repeat (first|apply bN|apply bD|apply bA|refine blk_far ?_ NB199_211.out _));exact BK199.out⟩
         have n3_ : Aside0 ((((w77.setCell ⟨gb211,0,none⟩ (.string t207)).setCell ⟨gb211,1,none⟩ (.string t208)).setCell ⟨gb211,2,none⟩ (.bool t209)).heap[gb211]? = some (.cells #[.string t207,.string t208,.bool t209] 23 (0,0))):=⟨by (with_reducible repeat first|apply bN|apply bD|apply bA);refine blk_put (cs:=#[.string t207,.string t208,.bool false]) ?_ 2 _ rfl;(with_reducible repeat first|apply bN|apply bD|apply bA);refine blk_put (cs:=#[.string t207,.string (⟨#[]⟩ : ByteArray),.bool false]) ?_ 1 _ rfl;(with_reducible repeat first|apply bN|apply bD|apply bA);refine blk_put (cs:=#[.string (⟨#[]⟩ : ByteArray),.string (⟨#[]⟩ : ByteArray),.bool false]) ?_ 0 _ rfl;(with_reducible repeat first|apply bN|apply bD|apply bA);exact BK211.out⟩
         have n4_ : Aside0 (Below w.heap.size w (((w77.setCell ⟨gb211,0,none⟩ (.string t207)).setCell ⟨gb211,1,none⟩ (.string t208)).setCell ⟨gb211,2,none⟩ (.bool t209))):=⟨by repeat (first|(with_reducible first|exact HB.out|apply xA|apply xN|apply xD|refine xS ?_ GE197.out|refine xS ?_ GE198.out|refine xS ?_ GE199.out|refine xS ?_ GE211.out)|exact HB.out)⟩
         (try clear BK197)
         (try clear BK198)
         (try clear BK199)
         (try clear BK211)
         (try clear HB)
         generalize (((w77.setCell ⟨gb211,0,none⟩ (.string t207)).setCell ⟨gb211,1,none⟩ (.string t208)).setCell ⟨gb211,2,none⟩ (.bool t209)) = w98 at n0_ n1_ n2_ n3_ n4_ ⊢
         have BK197:=n0_
         have BK198:=n1_
         have BK199:=n2_
         have BK211:=n3_
         have HB:=n4_
         clear n0_ n1_ n2_ n3_ n4_
         replace BK197:=Aside0.mk (blk_drew BK197.out)
         replace BK198:=Aside0.mk (blk_drew BK198.out)
         replace BK199:=Aside0.mk (blk_drew BK199.out)
         replace BK211:=Aside0.mk (blk_drew BK211.out)
         replace HB:=Aside0.mk (below_drew1 HB.out)
         refine start_ (n:=20) (S:=fun w' => w'.cell? ⟨gb199,0,none⟩ = some (.string a2_0) ∧ w'.cell? ⟨gb199,1,none⟩ = some (.string a2_1) ∧ w'.cell? ⟨gb199,2,none⟩ = some (.bool a2_2) ∧ w'.cell? ⟨gb211,0,none⟩ = some (.string t207) ∧ w'.cell? ⟨gb211,1,none⟩ = some (.string t208) ∧ w'.cell? ⟨gb211,2,none⟩ = some (.bool t209) ∧ w'.cell? ⟨gb197,0,none⟩ = some (.string a0_0) ∧ w'.cell? ⟨gb197,1,none⟩ = some (.string a0_1) ∧ w'.cell? ⟨gb197,2,none⟩ = some (.bool a0_2)) (ds:=[]) #[false,false,false,false,false,false,false,false,false,false,false,false,false,false,false,false,false,false,false,false] (by kernel_rfl) rfl rfl ⟨(blk_cell BK199.out 0).trans rfl,(blk_cell BK199.out 1).trans rfl,(blk_cell BK199.out 2).trans rfl,(blk_cell BK211.out 0).trans rfl,(blk_cell BK211.out 1).trans rfl,(blk_cell BK211.out 2).trans rfl,(blk_cell BK197.out 0).trans rfl,(blk_cell BK197.out 1).trans rfl,(blk_cell BK197.out 2).trans rfl⟩ (fun hHeld => ?_);refine with_tabW tidelinelaw02_SpanMeets.tab6 tidelinelaw02_SpanMeets.bits6 (fun HT_ HW_ => ?_)
         generalize w98.drew = w99 at BK197 BK198 BK199 BK211 HB hHeld ⊢
         refine take_ (i:=0) (N:=some 52) (v:=?_) (a':=?_) #[true,false,false,false,false,false,false,false,false,false,false,false,false,false,false,false,false,false,false,false] rfl rfl (take_ofW HT_.out HW_.out (by kernel_rfl)) (fun _ _ _ h => h) (Or.inl ⟨by rfl,?_⟩) hHeld ?_ ?_
         rotate_left
         ·rintro w' ⟨s0,s1,s2,s3,s4,s5,s6,s7,s8⟩
          go_simp
          with_reducible rfl
         rotate_left
         ·simp only [Act.put,List.setIfInBounds_toArray,List.set_cons_zero,List.set_cons_succ,i64_w,i32_w]
          rfl
         refine one_ (i:=1) (N:=some 53) #[true,true,false,false,false,false,false,false,false,false,false,false,false,false,false,false,false,false,false,false] rfl rfl (one_of HT_.out (by kernel_rfl)) (by decide) (fun K hK => ?_)
         refine goes_ Try.func14 (by kernel_rfl) rfl #[.agg #[.string a2_0,.string a2_1,.bool a2_2]] (by rfl) rfl rfl (by (try simp only [List.map_toArray,List.map_cons,List.map_nil]);first|done|rfl|(simp only [List.length_drop,List.length_take];rfl)) ?_
         with_reducible refine (span_Empty.calls kj5 a2_0 a2_1 a2_2 false _ A82.out).mono ?_
         rintro e w100 ⟨rfl,hb⟩
         refine ⟨_,rfl,?_⟩
         replace BK197:=bk (by (with_reducible repeat first|apply bN|apply bD|apply bA);exact BK197.out) hb
         replace BK198:=bk (by (with_reducible repeat first|apply bN|apply bD|apply bA);exact BK198.out) hb
         replace BK199:=bk (by (with_reducible repeat first|apply bN|apply bD|apply bA);exact BK199.out) hb
         replace BK211:=bk (by (with_reducible repeat first|apply bN|apply bD|apply bA);exact BK211.out) hb
         replace HB:=Aside0.mk (below_step (by repeat (first|(with_reducible first|exact HB.out|apply xA|apply xN|apply xD|refine xS ?_ GE197.out|refine xS ?_ GE198.out|refine xS ?_ GE199.out|refine xS ?_ GE211.out)|exact HB.out)) hb)
         (try clear hb)
         (try clear hb2)
         (try clear hk)
         (try clear hi)
         refine hK.out _ _ ⟨(blk_cell BK199.out 0).trans rfl,(blk_cell BK199.out 1).trans rfl,(blk_cell BK199.out 2).trans rfl,(blk_cell BK211.out 0).trans rfl,(blk_cell BK211.out 1).trans rfl,(blk_cell BK211.out 2).trans rfl,(blk_cell BK197.out 0).trans rfl,(blk_cell BK197.out 1).trans rfl,(blk_cell BK197.out 2).trans rfl⟩ (fun hHeld => ?_)
         clear hK K
         refine norm_ (a':=?_) ?_ ?_
         rotate_left
         ·show Act.put _ (some 53) _ = _
          simp only [Act.put,List.setIfInBounds_toArray,List.set_cons_zero,List.set_cons_succ,i64_w,i32_w]
          rfl
         refine pure_ (i:=2) (N:=some 54) (v:=?_) (a':=?_) #[true,true,true,false,false,false,false,false,false,false,false,false,false,false,false,false,false,false,false,false] rfl rfl (any_of HT_.out (by kernel_rfl)) (fun _ _ _ h => h) (Or.inl ⟨by rfl,?_⟩) ?_ ?_
         rotate_left
         ·intro w'
          go_simp
          with_reducible rfl
         rotate_left
         ·simp only [Act.put,List.setIfInBounds_toArray,List.set_cons_zero,List.set_cons_succ,i64_w,i32_w]
          rfl
         refine pure_ (i:=3) (N:=some 55) (v:=?_) (a':=?_) #[true,true,true,true,false,false,false,false,false,false,false,false,false,false,false,false,false,false,false,false] rfl rfl (any_of HT_.out (by kernel_rfl)) (fun _ _ _ h => h) (Or.inl ⟨by rfl,?_⟩) ?_ ?_
         rotate_left
         ·intro w'
          go_simp
          with_reducible rfl
         rotate_left
         ·simp only [Act.put,List.setIfInBounds_toArray,List.set_cons_zero,List.set_cons_succ,i64_w,i32_w]
          rfl
         refine pure_ (i:=4) (N:=some 56) (v:=?_) (a':=?_) #[true,true,true,true,true,false,false,false,false,false,false,false,false,false,false,false,false,false,false,false] rfl rfl (any_of HT_.out (by kernel_rfl)) (fun _ _ _ h => h) (Or.inl ⟨by rfl,?_⟩) ?_ ?_
         rotate_left
         ·intro w'
          go_simp
          with_reducible rfl
         rotate_left
         ·simp only [Act.put,List.setIfInBounds_toArray,List.set_cons_zero,List.set_cons_succ,i64_w,i32_w]
          rfl
         refine pure_ (i:=5) (N:=some 57) (v:=?_) (a':=?_) #[true,true,true,true,true,true,false,false,false,false,false,false,false,false,false,false,false,false,false,false] rfl rfl (any_of HT_.out (by kernel_rfl)) (fun _ _ _ h => h) (Or.inl ⟨by rfl,?_⟩) ?_ ?_
         rotate_left
         ·intro w'
          go_simp
          with_reducible rfl
         rotate_left
         ·simp only [Act.put,List.setIfInBounds_toArray,List.set_cons_zero,List.set_cons_succ,i64_w,i32_w]
          rfl
         refine take_ (i:=6) (N:=some 58) (v:=?_) (a':=?_) #[true,true,true,true,true,true,true,false,false,false,false,false,false,false,false,false,false,false,false,false] rfl rfl (take_ofW HT_.out HW_.out (by kernel_rfl)) (fun _ _ _ h => h) (Or.inl ⟨by rfl,?_⟩) hHeld ?_ ?_
         rotate_left
         ·rintro w' ⟨s0,s1,s2,s3,s4,s5,s6,s7,s8⟩
          go_simp
          with_reducible rfl
         rotate_left
         ·simp only [Act.put,List.setIfInBounds_toArray,List.set_cons_zero,List.set_cons_succ,i64_w,i32_w]
          rfl
         refine take_ (i:=7) (N:=some 59) (v:=?_) (a':=?_) #[true,true,true,true,true,true,true,true,false,false,false,false,false,false,false,false,false,false,false,false] rfl rfl (take_ofW HT_.out HW_.out (by kernel_rfl)) (fun _ _ _ h => h) (Or.inl ⟨by rfl,?_⟩) hHeld ?_ ?_
         rotate_left
         ·rintro w' ⟨s0,s1,s2,s3,s4,s5,s6,s7,s8⟩
          go_simp
          with_reducible rfl
         rotate_left
         ·simp only [Act.put,List.setIfInBounds_toArray,List.set_cons_zero,List.set_cons_succ,i64_w,i32_w]
          rfl
         refine take_ (i:=10) (N:=some 62) (v:=?_) (a':=?_) #[true,true,true,true,true,true,true,true,false,false,true,false,false,false,false,false,false,false,false,false] rfl rfl (take_ofW HT_.out HW_.out (by kernel_rfl)) (fun _ _ _ h => h) (Or.inl ⟨by rfl,?_⟩) hHeld ?_ ?_
         rotate_left
         ·rintro w' ⟨s0,s1,s2,s3,s4,s5,s6,s7,s8⟩
          go_simp
          with_reducible rfl
         rotate_left
         ·simp only [Act.put,List.setIfInBounds_toArray,List.set_cons_zero,List.set_cons_succ,i64_w,i32_w]
          rfl
         refine take_ (i:=11) (N:=some 63) (v:=?_) (a':=?_) #[true,true,true,true,true,true,true,true,false,false,true,true,false,false,false,false,false,false,false,false] rfl rfl (take_ofW HT_.out HW_.out (by kernel_rfl)) (fun _ _ _ h => h) (Or.inl ⟨by rfl,?_⟩) hHeld ?_ ?_
         rotate_left
         ·rintro w' ⟨s0,s1,s2,s3,s4,s5,s6,s7,s8⟩
          go_simp
          with_reducible rfl
         rotate_left
         ·simp only [Act.put,List.setIfInBounds_toArray,List.set_cons_zero,List.set_cons_succ,i64_w,i32_w]
          rfl
         refine one_ (i:=8) (N:=some 60) #[true,true,true,true,true,true,true,true,true,false,true,true,false,false,false,false,false,false,false,false] rfl rfl (one_of HT_.out (by kernel_rfl)) (by decide) (fun K hK => ?_)
         refine goes_ Try.func27 (by kernel_rfl) rfl #[.agg #[.string a2_0,.string a2_1,.bool a2_2],.agg #[.string t207,.string t208,.bool t209]] (by rfl) rfl rfl (by (try simp only [List.map_toArray,List.map_cons,List.map_nil]);first|done|rfl|(simp only [List.length_drop,List.length_take];rfl)) ?_
         with_reducible refine (span_Within.calls kj5 a2_0 a2_1 a2_2 t207 t208 t209 t213 _ A88.out).mono ?_
         rintro e w101 ⟨rfl,hb⟩
         refine ⟨_,rfl,?_⟩
         replace BK197:=bk (by (with_reducible repeat first|apply bN|apply bD|apply bA);exact BK197.out) hb
         replace BK198:=bk (by (with_reducible repeat first|apply bN|apply bD|apply bA);exact BK198.out) hb
         replace BK199:=bk (by (with_reducible repeat first|apply bN|apply bD|apply bA);exact BK199.out) hb
         replace BK211:=bk (by (with_reducible repeat first|apply bN|apply bD|apply bA);exact BK211.out) hb
         replace HB:=Aside0.mk (below_step (by repeat (first|(with_reducible first|exact HB.out|apply xA|apply xN|apply xD|refine xS ?_ GE197.out|refine xS ?_ GE198.out|refine xS ?_ GE199.out|refine xS ?_ GE211.out)|exact HB.out)) hb)
         (try clear hb)
         (try clear hb2)
         (try clear hk)
         (try clear hi)
         refine hK.out _ _ ⟨(blk_cell BK199.out 0).trans rfl,(blk_cell BK199.out 1).trans rfl,(blk_cell BK199.out 2).trans rfl,(blk_cell BK211.out 0).trans rfl,(blk_cell BK211.out 1).trans rfl,(blk_cell BK211.out 2).trans rfl,(blk_cell BK197.out 0).trans rfl,(blk_cell BK197.out 1).trans rfl,(blk_cell BK197.out 2).trans rfl⟩ (fun hHeld => ?_)
         clear hK K
         refine norm_ (a':=?_) ?_ ?_
         rotate_left
         ·show Act.put _ (some 60) _ = _
          simp only [Act.put,List.setIfInBounds_toArray,List.set_cons_zero,List.set_cons_succ,i64_w,i32_w]
          rfl
         refine pure_ (i:=9) (N:=some 61) (v:=?_) (a':=?_) #[true,true,true,true,true,true,true,true,true,true,true,true,false,false,false,false,false,false,false,false] rfl rfl (any_of HT_.out (by kernel_rfl)) (fun _ _ _ h => h) (Or.inl ⟨by rfl,?_⟩) ?_ ?_
         rotate_left
         ·intro w'
          go_simp
          with_reducible rfl
         rotate_left
         ·simp only [Act.put,List.setIfInBounds_toArray,List.set_cons_zero,List.set_cons_succ,i64_w,i32_w]
          rfl
         refine one_ (i:=12) (N:=some 64) #[true,true,true,true,true,true,true,true,true,true,true,true,true,false,false,false,false,false,false,false] rfl rfl (one_of HT_.out (by kernel_rfl)) (by decide) (fun K hK => ?_)
         refine goes_ Try.func27 (by kernel_rfl) rfl #[.agg #[.string a2_0,.string a2_1,.bool a2_2],.agg #[.string a0_0,.string a0_1,.bool a0_2]] (by rfl) rfl rfl (by (try simp only [List.map_toArray,List.map_cons,List.map_nil]);first|done|rfl|(simp only [List.length_drop,List.length_take];rfl)) ?_
         with_reducible refine (span_Within.calls kj5 a2_0 a2_1 a2_2 a0_0 a0_1 a0_2 false _ A89.out).mono ?_
         rintro e w102 ⟨rfl,hb⟩
         refine ⟨_,rfl,?_⟩
         replace BK197:=bk (by (with_reducible repeat first|apply bN|apply bD|apply bA);exact BK197.out) hb
         replace BK198:=bk (by (with_reducible repeat first|apply bN|apply bD|apply bA);exact BK198.out) hb
         replace BK199:=bk (by (with_reducible repeat first|apply bN|apply bD|apply bA);exact BK199.out) hb
         replace BK211:=bk (by (with_reducible repeat first|apply bN|apply bD|apply bA);exact BK211.out) hb
         replace HB:=Aside0.mk (below_step (by repeat (first|(with_reducible first|exact HB.out|apply xA|apply xN|apply xD|refine xS ?_ GE197.out|refine xS ?_ GE198.out|refine xS ?_ GE199.out|refine xS ?_ GE211.out)|exact HB.out)) hb)
         (try clear hb)
         (try clear hb2)
         (try clear hk)
         (try clear hi)
         refine hK.out _ _ ⟨(blk_cell BK199.out 0).trans rfl,(blk_cell BK199.out 1).trans rfl,(blk_cell BK199.out 2).trans rfl,(blk_cell BK211.out 0).trans rfl,(blk_cell BK211.out 1).trans rfl,(blk_cell BK211.out 2).trans rfl,(blk_cell BK197.out 0).trans rfl,(blk_cell BK197.out 1).trans rfl,(blk_cell BK197.out 2).trans rfl⟩ (fun hHeld => ?_)
         clear hK K
         refine norm_ (a':=?_) ?_ ?_
         rotate_left
         ·show Act.put _ (some 64) _ = _
          simp only [Act.put,List.setIfInBounds_toArray,List.set_cons_zero,List.set_cons_succ,i64_w,i32_w]
          rfl
         refine pure_ (i:=13) (N:=some 65) (v:=?_) (a':=?_) #[true,true,true,true,true,true,true,true,true,true,true,true,true,true,false,false,false,false,false,false] rfl rfl (any_of HT_.out (by kernel_rfl)) (fun _ _ _ h => h) (Or.inl ⟨by rfl,?_⟩) ?_ ?_
         rotate_left
         ·intro w'
          go_simp
          with_reducible rfl
         rotate_left
         ·simp only [Act.put,List.setIfInBounds_toArray,List.set_cons_zero,List.set_cons_succ,i64_w,i32_w]
          rfl
         refine pure_ (i:=14) (N:=some 66) (v:=undef) (a':=?_) #[true,true,true,true,true,true,true,true,true,true,true,true,true,true,true,false,false,false,false,false] rfl rfl (any_of HT_.out (by kernel_rfl)) (fun _ _ _ h => h) (Or.inr ⟨by rfl,rfl⟩) ?_ ?_
         rotate_left
         ·simp only [Act.put,List.setIfInBounds_toArray,List.set_cons_zero,List.set_cons_succ,i64_w,i32_w]
          rfl
         refine pure_ (i:=15) (N:=some 67) (v:=undef) (a':=?_) #[true,true,true,true,true,true,true,true,true,true,true,true,true,true,true,true,false,false,false,false] rfl rfl (any_of HT_.out (by kernel_rfl)) (fun _ _ _ h => h) (Or.inr ⟨by rfl,rfl⟩) ?_ ?_
         rotate_left
         ·simp only [Act.put,List.setIfInBounds_toArray,List.set_cons_zero,List.set_cons_succ,i64_w,i32_w]
          rfl
         refine pure_ (i:=16) (N:=some 68) (v:=undef) (a':=?_) #[true,true,true,true,true,true,true,true,true,true,true,true,true,true,true,true,true,false,false,false] rfl rfl (any_of HT_.out (by kernel_rfl)) (fun _ _ _ h => h) (Or.inr ⟨by rfl,rfl⟩) ?_ ?_
         rotate_left
         ·simp only [Act.put,List.setIfInBounds_toArray,List.set_cons_zero,List.set_cons_succ,i64_w,i32_w]
          rfl
         refine pure_ (i:=17) (N:=some 69) (v:=?_) (a':=?_) #[true,true,true,true,true,true,true,true,true,true,true,true,true,true,true,true,true,true,false,false] rfl rfl (any_of HT_.out (by kernel_rfl)) (fun _ _ _ h => h) (Or.inl ⟨by rfl,?_⟩) ?_ ?_
         rotate_left
         ·intro w'
          go_simp
          with_reducible rfl
         rotate_left
         ·simp only [Act.put,List.setIfInBounds_toArray,List.set_cons_zero,List.set_cons_succ,i64_w,i32_w]
          rfl
         refine pure_ (i:=18) (N:=some 70) (v:=?_) (a':=?_) #[true,true,true,true,true,true,true,true,true,true,true,true,true,true,true,true,true,true,true,false] rfl rfl (any_of HT_.out (by kernel_rfl)) (fun _ _ _ h => h) (Or.inl ⟨by rfl,?_⟩) ?_ ?_
         rotate_left
         ·intro w'
          go_simp
          with_reducible rfl
         rotate_left
         ·simp only [Act.put,List.setIfInBounds_toArray,List.set_cons_zero,List.set_cons_succ,i64_w,i32_w]
          rfl
         refine pure_ (i:=19) (N:=some 71) (v:=?_) (a':=?_) #[true,true,true,true,true,true,true,true,true,true,true,true,true,true,true,true,true,true,true,true] rfl rfl (any_of HT_.out (by kernel_rfl)) (fun _ _ _ h => h) (Or.inl ⟨by rfl,?_⟩) ?_ ?_
         rotate_left
         ·intro w'
          go_simp
          with_reducible rfl
         rotate_left
         ·simp only [Act.put,List.setIfInBounds_toArray,List.set_cons_zero,List.set_cons_succ,i64_w,i32_w]
          rfl
         refine done_ (done_of HT_.out (by kernel_rfl)) ?_
         try go_wp2
         go_meet
         case rel => exact ⟨_,((t213 != false)),(by first|rfl|(simp;done)|(simp [*];done)|(simp [*,Go.Proofs.Ytgdhgamolenfgaa.Str.bne_nil];done)),H',⟨by have:=HJ5.out;first|omega|exact Nat.le_refl _⟩,⟨by (with_reducible repeat first|apply bN|apply bD|apply bA);exact BK197.out⟩,⟨by (with_reducible repeat first|apply bN|apply bD|apply bA);exact BK198.out⟩,⟨by (with_reducible repeat first|apply bN|apply bD|apply bA);exact BK199.out⟩,⟨by (with_reducible repeat first|apply bN|apply bD|apply bA);exact BK211.out⟩,⟨by repeat (first|(with_reducible first|exact HB.out|apply xA|apply xN|apply xD|refine xS ?_ GE197.out|refine xS ?_ GE198.out|refine xS ?_ GE199.out|refine xS ?_ GE211.out)|exact HB.out)⟩⟩
       ·replace c87:=Bool.eq_false_iff.mpr c87
        subst c87
        have H1 : ((span_Within.f kj5 a2_0 a2_1 a2_2 a0_0 a0_1 a0_2).bind fun t216 => (if t216 = true then ((span_Within.f kj5 a2_0 a2_1 a2_2 a1_0 a1_1 a1_2).bind fun t217 => (tidelinelaw02_SpanMeets.j1 kj5 false (false != t217) a0_0 a0_1 a0_2 a1_0 a1_1 a1_2 a2_0 a2_1 a2_2 t207 t208 t209)) else (tidelinelaw02_SpanMeets.j1 kj5 false (false != false) a0_0 a0_1 a0_2 a1_0 a1_1 a1_2 a2_0 a2_1 a2_2 t207 t208 t209))) = some r:=by rw [if_neg (show ¬ (false = true) by decide)] at H;exact H
        clear H
        have H:=H1
        clear H1
        replace H:=Option.bind_eq_some_iff.mp H
        obtain ⟨t216,A1030,H⟩:=H
        replace H : (if t216 = true then ((span_Within.f kj5 a2_0 a2_1 a2_2 a1_0 a1_1 a1_2).bind fun t217 => (tidelinelaw02_SpanMeets.j1 kj5 false (false != t217) a0_0 a0_1 a0_2 a1_0 a1_1 a1_2 a2_0 a2_1 a2_2 t207 t208 t209)) else (tidelinelaw02_SpanMeets.j1 kj5 false (false != false) a0_0 a0_1 a0_2 a1_0 a1_1 a1_2 a2_0 a2_1 a2_2 t207 t208 t209)) = some r:=H
        have A103:=Aside0.mk A1030
        clear A1030
        by_cases c104 : t216 = true
        ·subst c104
         have H1 : ((span_Within.f kj5 a2_0 a2_1 a2_2 a1_0 a1_1 a1_2).bind fun t217 => (tidelinelaw02_SpanMeets.j1 kj5 false (false != t217) a0_0 a0_1 a0_2 a1_0 a1_1 a1_2 a2_0 a2_1 a2_2 t207 t208 t209)) = some r:=by rw [if_pos rfl] at H;exact H
         clear H
         have H:=H1
         clear H1
         replace H:=Option.bind_eq_some_iff.mp H
         obtain ⟨t217,A1050,H⟩:=H
         replace H : (tidelinelaw02_SpanMeets.j1 kj5 false (false != t217) a0_0 a0_1 a0_2 a1_0 a1_1 a1_2 a2_0 a2_1 a2_2 t207 t208 t209) = some r:=H
         have A105:=Aside0.mk A1050
         clear A1050
         have H':=Aside0.mk H
         clear H
         try go_wp2
         have n0_ : Aside0 ((((w77.setCell ⟨gb211,0,none⟩ (.string t207)).setCell ⟨gb211,1,none⟩ (.string t208)).setCell ⟨gb211,2,none⟩ (.bool t209)).heap[gb197]? = some (.cells #[.string a0_0,.string a0_1,.bool a0_2] 23 (0,0))):=⟨by (with_reducible repeat (first|apply bN|apply bD|apply bA|refine blk_far ?_ NB197_211.out _));exact BK197.out⟩
         have n1_ : Aside0 ((((w77.setCell ⟨gb211,0,none⟩ (.string t207)).setCell ⟨gb211,1,none⟩ (.string t208)).setCell ⟨gb211,2,none⟩ (.bool t209)).heap[gb198]? = some (.cells #[.string a1_0,.string a1_1,.bool a1_2] 23 (0,0))):=⟨by (with_reducible repeat (first|apply bN|apply bD|apply bA|refine blk_far ?_ NB198_211.out _));exact BK198.out⟩
         have n2_ : Aside0 ((((w77.setCell ⟨gb211,0,none⟩ (.string t207)).setCell ⟨gb211,1,none⟩ (.string t208)).setCell ⟨gb211,2,none⟩ (.bool t209)).heap[gb199]? = some (.cells #[.string a2_0,.string a2_1,.bool a2_2] 23 (0,0))):=⟨by (with_reducible repeat (first|apply bN|apply bD|apply bA|refine blk_far ?_ NB199_211.out _));exact BK199.out⟩
         have n3_ : Aside0 ((((w77.setCell ⟨gb211,0,none⟩ (.string t207)).setCell ⟨gb211,1,none⟩ (.string t208)).setCell ⟨gb211,2,none⟩ (.bool t209)).heap[gb211]? = some (.cells #[.string t207,.string t208,.bool t209] 23 (0,0))):=⟨by (with_reducible repeat first|apply bN|apply bD|apply bA);refine blk_put (cs:=#[.string t207,.string t208,.bool false]) ?_ 2 _ rfl;(with_reducible repeat first|apply bN|apply bD|apply bA);refine blk_put (cs:=#[.string t207,.string (⟨#[]⟩ : ByteArray),.bool false]) ?_ 1 _ rfl;(with_reducible repeat first|apply bN|apply bD|apply bA);refine blk_put (cs:=#[.string (⟨#[]⟩ : ByteArray),.string (⟨#[]⟩ : ByteArray),.bool false]) ?_ 0 _ rfl;(with_reducible repeat first|apply bN|apply bD|apply bA);exact BK211.out⟩
         have n4_ : Aside0 (Below w.heap.size w (((w77.setCell ⟨gb211,0,none⟩ (.string t207)).setCell ⟨gb211,1,none⟩ (.string t208)).setCell ⟨gb211,2,none⟩ (.bool t209))):=⟨by repeat (first|(with_reducible first|exact HB.out|apply xA|apply xN|apply xD|refine xS ?_ GE197.out|refine xS ?_ GE198.out|refine xS ?_ GE199.out|refine xS ?_ GE211.out)|exact HB.out)⟩
         (try clear BK197)
         (try clear BK198)
         (try clear BK199)
         (try clear BK211)
         (try clear HB)
         generalize (((w77.setCell ⟨gb211,0,none⟩ (.string t207)).setCell ⟨gb211,1,none⟩ (.string t208)).setCell ⟨gb211,2,none⟩ (.bool t209)) = w106 at n0_ n1_ n2_ n3_ n4_ ⊢
         have BK197:=n0_
         have BK198:=n1_
         have BK199:=n2_
         have BK211:=n3_
         have HB:=n4_
         clear n0_ n1_ n2_ n3_ n4_
         replace BK197:=Aside0.mk (blk_drew BK197.out)
         replace BK198:=Aside0.mk (blk_drew BK198.out)
         replace BK199:=Aside0.mk (blk_drew BK199.out)
         replace BK211:=Aside0.mk (blk_drew BK211.out)
         replace HB:=Aside0.mk (below_drew1 HB.out)
         refine start_ (n:=20) (S:=fun w' => w'.cell? ⟨gb199,0,none⟩ = some (.string a2_0) ∧ w'.cell? ⟨gb199,1,none⟩ = some (.string a2_1) ∧ w'.cell? ⟨gb199,2,none⟩ = some (.bool a2_2) ∧ w'.cell? ⟨gb197,0,none⟩ = some (.string a0_0) ∧ w'.cell? ⟨gb197,1,none⟩ = some (.string a0_1) ∧ w'.cell? ⟨gb197,2,none⟩ = some (.bool a0_2) ∧ w'.cell? ⟨gb198,0,none⟩ = some (.string a1_0) ∧ w'.cell? ⟨gb198,1,none⟩ = some (.string a1_1) ∧ w'.cell? ⟨gb198,2,none⟩ = some (.bool a1_2)) (ds:=[]) #[false,false,false,false,false,false,false,false,false,false,false,false,false,false,false,false,false,false,false,false] (by kernel_rfl) rfl rfl ⟨(blk_cell BK199.out 0).trans rfl,(blk_cell BK199.out 1).trans rfl,(blk_cell BK199.out 2).trans rfl,(blk_cell BK197.out 0).trans rfl,(blk_cell BK197.out 1).trans rfl,(blk_cell BK197.out 2).trans rfl,(blk_cell BK198.out 0).trans rfl,(blk_cell BK198.out 1).trans rfl,(blk_cell BK198.out 2).trans rfl⟩ (fun hHeld => ?_);refine with_tabW tidelinelaw02_SpanMeets.tab6 tidelinelaw02_SpanMeets.bits6 (fun HT_ HW_ => ?_)
         generalize w106.drew = w107 at BK197 BK198 BK199 BK211 HB hHeld ⊢
         refine take_ (i:=0) (N:=some 52) (v:=?_) (a':=?_) #[true,false,false,false,false,false,false,false,false,false,false,false,false,false,false,false,false,false,false,false] rfl rfl (take_ofW HT_.out HW_.out (by kernel_rfl)) (fun _ _ _ h => h) (Or.inl ⟨by rfl,?_⟩) hHeld ?_ ?_
         rotate_left
         ·rintro w' ⟨s0,s1,s2,s3,s4,s5,s6,s7,s8⟩
          go_simp
          with_reducible rfl
         rotate_left
         ·simp only [Act.put,List.setIfInBounds_toArray,List.set_cons_zero,List.set_cons_succ,i64_w,i32_w]
          rfl
         refine one_ (i:=1) (N:=some 53) #[true,true,false,false,false,false,false,false,false,false,false,false,false,false,false,false,false,false,false,false] rfl rfl (one_of HT_.out (by kernel_rfl)) (by decide) (fun K hK => ?_)
         refine goes_ Try.func14 (by kernel_rfl) rfl #[.agg #[.string a2_0,.string a2_1,.bool a2_2]] (by rfl) rfl rfl (by (try simp only [List.map_toArray,List.map_cons,List.map_nil]);first|done|rfl|(simp only [List.length_drop,List.length_take];rfl)) ?_
         with_reducible refine (span_Empty.calls kj5 a2_0 a2_1 a2_2 false _ A82.out).mono ?_
         rintro e w108 ⟨rfl,hb⟩
         refine ⟨_,rfl,?_⟩
         replace BK197:=bk (by (with_reducible repeat first|apply bN|apply bD|apply bA);exact BK197.out) hb
         replace BK198:=bk (by (with_reducible repeat first|apply bN|apply bD|apply bA);exact BK198.out) hb
         replace BK199:=bk (by (with_reducible repeat first|apply bN|apply bD|apply bA);exact BK199.out) hb
         replace BK211:=bk (by (with_reducible repeat first|apply bN|apply bD|apply bA);exact BK211.out) hb
         replace HB:=Aside0.mk (below_step (by repeat (first|(with_reducible first|exact HB.out|apply xA|apply xN|apply xD|refine xS ?_ GE197.out|refine xS ?_ GE198.out|refine xS ?_ GE199.out|refine xS ?_ GE211.out)|exact HB.out)) hb)
         (try clear hb)
         (try clear hb2)
         (try clear hk)
         (try clear hi)
         refine hK.out _ _ ⟨(blk_cell BK199.out 0).trans rfl,(blk_cell BK199.out 1).trans rfl,(blk_cell BK199.out 2).trans rfl,(blk_cell BK197.out 0).trans rfl,(blk_cell BK197.out 1).trans rfl,(blk_cell BK197.out 2).trans rfl,(blk_cell BK198.out 0).trans rfl,(blk_cell BK198.out 1).trans rfl,(blk_cell BK198.out 2).trans rfl⟩ (fun hHeld => ?_)
         clear hK K
         refine norm_ (a':=?_) ?_ ?_
         rotate_left
         ·show Act.put _ (some 53) _ = _
          simp only [Act.put,List.setIfInBounds_toArray,List.set_cons_zero,List.set_cons_succ,i64_w,i32_w]
          rfl
         refine pure_ (i:=2) (N:=some 54) (v:=?_) (a':=?_) #[true,true,true,false,false,false,false,false,false,false,false,false,false,false,false,false,false,false,false,false] rfl rfl (any_of HT_.out (by kernel_rfl)) (fun _ _ _ h => h) (Or.inl ⟨by rfl,?_⟩) ?_ ?_
         rotate_left
         ·intro w'
          go_simp
          with_reducible rfl
         rotate_left
         ·simp only [Act.put,List.setIfInBounds_toArray,List.set_cons_zero,List.set_cons_succ,i64_w,i32_w]
          rfl
         refine pure_ (i:=3) (N:=some 55) (v:=?_) (a':=?_) #[true,true,true,true,false,false,false,false,false,false,false,false,false,false,false,false,false,false,false,false] rfl rfl (any_of HT_.out (by kernel_rfl)) (fun _ _ _ h => h) (Or.inl ⟨by rfl,?_⟩) ?_ ?_
         rotate_left
         ·intro w'
          go_simp
          with_reducible rfl
         rotate_left
         ·simp only [Act.put,List.setIfInBounds_toArray,List.set_cons_zero,List.set_cons_succ,i64_w,i32_w]
          rfl
         refine pure_ (i:=4) (N:=some 56) (v:=?_) (a':=?_) #[true,true,true,true,true,false,false,false,false,false,false,false,false,false,false,false,false,false,false,false] rfl rfl (any_of HT_.out (by kernel_rfl)) (fun _ _ _ h => h) (Or.inl ⟨by rfl,?_⟩) ?_ ?_
         rotate_left
         ·intro w'
          go_simp
          with_reducible rfl
         rotate_left
         ·simp only [Act.put,List.setIfInBounds_toArray,List.set_cons_zero,List.set_cons_succ,i64_w,i32_w]
          rfl
         refine pure_ (i:=5) (N:=some 57) (v:=?_) (a':=?_) #[true,true,true,true,true,true,false,false,false,false,false,false,false,false,false,false,false,false,false,false] rfl rfl (any_of HT_.out (by kernel_rfl)) (fun _ _ _ h => h) (Or.inl ⟨by rfl,?_⟩) ?_ ?_
         rotate_left
         ·intro w'
          go_simp
          with_reducible rfl
         rotate_left
         ·simp only [Act.put,List.setIfInBounds_toArray,List.set_cons_zero,List.set_cons_succ,i64_w,i32_w]
          rfl
         refine pure_ (i:=6) (N:=some 58) (v:=undef) (a':=?_) #[true,true,true,true,true,true,true,false,false,false,false,false,false,false,false,false,false,false,false,false] rfl rfl (any_of HT_.out (by kernel_rfl)) (fun _ _ _ h => h) (Or.inr ⟨by rfl,rfl⟩) ?_ ?_
         rotate_left
         ·simp only [Act.put,List.setIfInBounds_toArray,List.set_cons_zero,List.set_cons_succ,i64_w,i32_w]
          rfl
         refine pure_ (i:=7) (N:=some 59) (v:=undef) (a':=?_) #[true,true,true,true,true,true,true,true,false,false,false,false,false,false,false,false,false,false,false,false] rfl rfl (any_of HT_.out (by kernel_rfl)) (fun _ _ _ h => h) (Or.inr ⟨by rfl,rfl⟩) ?_ ?_
         rotate_left
         ·simp only [Act.put,List.setIfInBounds_toArray,List.set_cons_zero,List.set_cons_succ,i64_w,i32_w]
          rfl
         refine pure_ (i:=8) (N:=some 60) (v:=undef) (a':=?_) #[true,true,true,true,true,true,true,true,true,false,false,false,false,false,false,false,false,false,false,false] rfl rfl (any_of HT_.out (by kernel_rfl)) (fun _ _ _ h => h) (Or.inr ⟨by rfl,rfl⟩) ?_ ?_
         rotate_left
         ·simp only [Act.put,List.setIfInBounds_toArray,List.set_cons_zero,List.set_cons_succ,i64_w,i32_w]
          rfl
         refine pure_ (i:=9) (N:=some 61) (v:=?_) (a':=?_) #[true,true,true,true,true,true,true,true,true,true,false,false,false,false,false,false,false,false,false,false] rfl rfl (any_of HT_.out (by kernel_rfl)) (fun _ _ _ h => h) (Or.inl ⟨by rfl,?_⟩) ?_ ?_
         rotate_left
         ·intro w'
          go_simp
          with_reducible rfl
         rotate_left
         ·simp only [Act.put,List.setIfInBounds_toArray,List.set_cons_zero,List.set_cons_succ,i64_w,i32_w]
          rfl
         refine take_ (i:=10) (N:=some 62) (v:=?_) (a':=?_) #[true,true,true,true,true,true,true,true,true,true,true,false,false,false,false,false,false,false,false,false] rfl rfl (take_ofW HT_.out HW_.out (by kernel_rfl)) (fun _ _ _ h => h) (Or.inl ⟨by rfl,?_⟩) hHeld ?_ ?_
         rotate_left
         ·rintro w' ⟨s0,s1,s2,s3,s4,s5,s6,s7,s8⟩
          go_simp
          with_reducible rfl
         rotate_left
         ·simp only [Act.put,List.setIfInBounds_toArray,List.set_cons_zero,List.set_cons_succ,i64_w,i32_w]
          rfl
         refine take_ (i:=11) (N:=some 63) (v:=?_) (a':=?_) #[true,true,true,true,true,true,true,true,true,true,true,true,false,false,false,false,false,false,false,false] rfl rfl (take_ofW HT_.out HW_.out (by kernel_rfl)) (fun _ _ _ h => h) (Or.inl ⟨by rfl,?_⟩) hHeld ?_ ?_
         rotate_left
         ·rintro w' ⟨s0,s1,s2,s3,s4,s5,s6,s7,s8⟩
          go_simp
          with_reducible rfl
         rotate_left
         ·simp only [Act.put,List.setIfInBounds_toArray,List.set_cons_zero,List.set_cons_succ,i64_w,i32_w]
          rfl
         refine one_ (i:=12) (N:=some 64) #[true,true,true,true,true,true,true,true,true,true,true,true,true,false,false,false,false,false,false,false] rfl rfl (one_of HT_.out (by kernel_rfl)) (by decide) (fun K hK => ?_)
         refine goes_ Try.func27 (by kernel_rfl) rfl #[.agg #[.string a2_0,.string a2_1,.bool a2_2],.agg #[.string a0_0,.string a0_1,.bool a0_2]] (by rfl) rfl rfl (by (try simp only [List.map_toArray,List.map_cons,List.map_nil]);first|done|rfl|(simp only [List.length_drop,List.length_take];rfl)) ?_
         with_reducible refine (span_Within.calls kj5 a2_0 a2_1 a2_2 a0_0 a0_1 a0_2 true _ A103.out).mono ?_
         rintro e w109 ⟨rfl,hb⟩
         refine ⟨_,rfl,?_⟩
         replace BK197:=bk (by (with_reducible repeat first|apply bN|apply bD|apply bA);exact BK197.out) hb
         replace BK198:=bk (by (with_reducible repeat first|apply bN|apply bD|apply bA);exact BK198.out) hb
         replace BK199:=bk (by (with_reducible repeat first|apply bN|apply bD|apply bA);exact BK199.out) hb
         replace BK211:=bk (by (with_reducible repeat first|apply bN|apply bD|apply bA);exact BK211.out) hb
         replace HB:=Aside0.mk (below_step (by repeat (first|(with_reducible first|exact HB.out|apply xA|apply xN|apply xD|refine xS ?_ GE197.out|refine xS ?_ GE198.out|refine xS ?_ GE199.out|refine xS ?_ GE211.out)|exact HB.out)) hb)
         (try clear hb)
         (try clear hb2)
         (try clear hk)
         (try clear hi)
         refine hK.out _ _ ⟨(blk_cell BK199.out 0).trans rfl,(blk_cell BK199.out 1).trans rfl,(blk_cell BK199.out 2).trans rfl,(blk_cell BK197.out 0).trans rfl,(blk_cell BK197.out 1).trans rfl,(blk_cell BK197.out 2).trans rfl,(blk_cell BK198.out 0).trans rfl,(blk_cell BK198.out 1).trans rfl,(blk_cell BK198.out 2).trans rfl⟩ (fun hHeld => ?_)
         clear hK K
         refine norm_ (a':=?_) ?_ ?_
         rotate_left
         ·show Act.put _ (some 64) _ = _
          simp only [Act.put,List.setIfInBounds_toArray,List.set_cons_zero,List.set_cons_succ,i64_w,i32_w]
          rfl
         refine pure_ (i:=13) (N:=some 65) (v:=?_) (a':=?_) #[true,true,true,true,true,true,true,true,true,true,true,true,true,true,false,false,false,false,false,false] rfl rfl (any_of HT_.out (by kernel_rfl)) (fun _ _ _ h => h) (Or.inl ⟨by rfl,?_⟩) ?_ ?_
         rotate_left
         ·intro w'
          go_simp
          with_reducible rfl
         rotate_left
         ·simp only [Act.put,List.setIfInBounds_toArray,List.set_cons_zero,List.set_cons_succ,i64_w,i32_w]
          rfl
         refine take_ (i:=14) (N:=some 66) (v:=?_) (a':=?_) #[true,true,true,true,true,true,true,true,true,true,true,true,true,true,true,false,false,false,false,false] rfl rfl (take_ofW HT_.out HW_.out (by kernel_rfl)) (fun _ _ _ h => h) (Or.inl ⟨by rfl,?_⟩) hHeld ?_ ?_
         rotate_left
         ·rintro w' ⟨s0,s1,s2,s3,s4,s5,s6,s7,s8⟩
          go_simp
          with_reducible rfl
         rotate_left
         ·simp only [Act.put,List.setIfInBounds_toArray,List.set_cons_zero,List.set_cons_succ,i64_w,i32_w]
          rfl
         refine take_ (i:=15) (N:=some 67) (v:=?_) (a':=?_) #[true,true,true,true,true,true,true,true,true,true,true,true,true,true,true,true,false,false,false,false] rfl rfl (take_ofW HT_.out HW_.out (by kernel_rfl)) (fun _ _ _ h => h) (Or.inl ⟨by rfl,?_⟩) hHeld ?_ ?_
         rotate_left
         ·rintro w' ⟨s0,s1,s2,s3,s4,s5,s6,s7,s8⟩
          go_simp
          with_reducible rfl
         rotate_left
         ·simp only [Act.put,List.setIfInBounds_toArray,List.set_cons_zero,List.set_cons_succ,i64_w,i32_w]
          rfl
         refine one_ (i:=16) (N:=some 68) #[true,true,true,true,true,true,true,true,true,true,true,true,true,true,true,true,true,false,false,false] rfl rfl (one_of HT_.out (by kernel_rfl)) (by decide) (fun K hK => ?_)
         refine goes_ Try.func27 (by kernel_rfl) rfl #[.agg #[.string a2_0,.string a2_1,.bool a2_2],.agg #[.string a1_0,.string a1_1,.bool a1_2]] (by rfl) rfl rfl (by (try simp only [List.map_toArray,List.map_cons,List.map_nil]);first|done|rfl|(simp only [List.length_drop,List.length_take];rfl)) ?_
         with_reducible refine (span_Within.calls kj5 a2_0 a2_1 a2_2 a1_0 a1_1 a1_2 t217 _ A105.out).mono ?_
         rintro e w110 ⟨rfl,hb⟩
         refine ⟨_,rfl,?_⟩
         replace BK197:=bk (by (with_reducible repeat first|apply bN|apply bD|apply bA);exact BK197.out) hb
         replace BK198:=bk (by (with_reducible repeat first|apply bN|apply bD|apply bA);exact BK198.out) hb
         replace BK199:=bk (by (with_reducible repeat first|apply bN|apply bD|apply bA);exact BK199.out) hb
         replace BK211:=bk (by (with_reducible repeat first|apply bN|apply bD|apply bA);exact BK211.out) hb
         replace HB:=Aside0.mk (below_step (by repeat (first|(with_reducible first|exact HB.out|apply xA|apply xN|apply xD|refine xS ?_ GE197.out|refine xS ?_ GE198.out|refine xS ?_ GE199.out|refine xS ?_ GE211.out)|exact HB.out)) hb)
         (try clear hb)
         (try clear hb2)
         (try clear hk)
         (try clear hi)
         refine hK.out _ _ ⟨(blk_cell BK199.out 0).trans rfl,(blk_cell BK199.out 1).trans rfl,(blk_cell BK199.out 2).trans rfl,(blk_cell BK197.out 0).trans rfl,(blk_cell BK197.out 1).trans rfl,(blk_cell BK197.out 2).trans rfl,(blk_cell BK198.out 0).trans rfl,(blk_cell BK198.out 1).trans rfl,(blk_cell BK198.out 2).trans rfl⟩ (fun hHeld => ?_)
         clear hK K
         refine norm_ (a':=?_) ?_ ?_
         rotate_left
         ·show Act.put _ (some 68) _ = _
          simp only [Act.put,List.setIfInBounds_toArray,List.set_cons_zero,List.set_cons_succ,i64_w,i32_w]
          rfl
         refine pure_ (i:=17) (N:=some 69) (v:=?_) (a':=?_) #[true,true,true,true,true,true,true,true,true,true,true,true,true,true,true,true,true,true,false,false] rfl rfl (any_of HT_.out (by kernel_rfl)) (fun _ _ _ h => h) (Or.inl ⟨by rfl,?_⟩) ?_ ?_
         rotate_left
         ·intro w'
          go_simp
          with_reducible rfl
         rotate_left
         ·simp only [Act.put,List.setIfInBounds_toArray,List.set_cons_zero,List.set_cons_succ,i64_w,i32_w]
          rfl
         refine pure_ (i:=18) (N:=some 70) (v:=?_) (a':=?_) #[true,true,true,true,true,true,true,true,true,true,true,true,true,true,true,true,true,true,true,false] rfl rfl (any_of HT_.out (by kernel_rfl)) (fun _ _ _ h => h) (Or.inl ⟨by rfl,?_⟩) ?_ ?_
         rotate_left
         ·intro w'
          go_simp
          with_reducible rfl
         rotate_left
         ·simp only [Act.put,List.setIfInBounds_toArray,List.set_cons_zero,List.set_cons_succ,i64_w,i32_w]
          rfl
         refine pure_ (i:=19) (N:=some 71) (v:=?_) (a':=?_) #[true,true,true,true,true,true,true,true,true,true,true,true,true,true,true,true,true,true,true,true] rfl rfl (any_of HT_.out (by kernel_rfl)) (fun _ _ _ h => h) (Or.inl ⟨by rfl,?_⟩) ?_ ?_
         rotate_left
         ·intro w'
          go_simp
          with_reducible rfl
         rotate_left
         ·simp only [Act.put,List.setIfInBounds_toArray,List.set_cons_zero,List.set_cons_succ,i64_w,i32_w]
          rfl
         refine done_ (done_of HT_.out (by kernel_rfl)) ?_
         try go_wp2
         go_meet
         case rel => exact ⟨_,((false != t217)),(by first|rfl|(simp;done)|(simp [*];done)|(simp [*,Go.Proofs.Ytgdhgamolenfgaa.Str.bne_nil];done)),H',⟨by have:=HJ5.out;first|omega|exact Nat.le_refl _⟩,⟨by (with_reducible repeat first|apply bN|apply bD|apply bA);exact BK197.out⟩,⟨by (with_reducible repeat first|apply bN|apply bD|apply bA);exact BK198.out⟩,⟨by (with_reducible repeat first|apply bN|apply bD|apply bA);exact BK199.out⟩,⟨by (with_reducible repeat first|apply bN|apply bD|apply bA);exact BK211.out⟩,⟨by repeat (first|(with_reducible first|exact HB.out|apply xA|apply xN|apply xD|refine xS ?_ GE197.out|refine xS ?_ GE198.out|refine xS ?_ GE199.out|refine xS ?_ GE211.out)|exact HB.out)⟩⟩
        ·replace c104:=Bool.eq_false_iff.mpr c104
         subst c104
         have H1 : (tidelinelaw02_SpanMeets.j1 kj5 false (false != false) a0_0 a0_1 a0_2 a1_0 a1_1 a1_2 a2_0 a2_1 a2_2 t207 t208 t209) = some r:=by rw [if_neg (show ¬ (false = true) by decide)] at H;exact H
         clear H
         have H:=H1
         clear H1
         have H':=Aside0.mk H
         clear H
         try go_wp2
         have n0_ : Aside0 ((((w77.setCell ⟨gb211,0,none⟩ (.string t207)).setCell ⟨gb211,1,none⟩ (.string t208)).setCell ⟨gb211,2,none⟩ (.bool t209)).heap[gb197]? = some (.cells #[.string a0_0,.string a0_1,.bool a0_2] 23 (0,0))):=⟨by (with_reducible repeat (first|apply bN|apply bD|apply bA|refine blk_far ?_ NB197_211.out _));exact BK197.out⟩
         have n1_ : Aside0 ((((w77.setCell ⟨gb211,0,none⟩ (.string t207)).setCell ⟨gb211,1,none⟩ (.string t208)).setCell ⟨gb211,2,none⟩ (.bool t209)).heap[gb198]? = some (.cells #[.string a1_0,.string a1_1,.bool a1_2] 23 (0,0))):=⟨by (with_reducible repeat (first|apply bN|apply bD|apply bA|refine blk_far ?_ NB198_211.out _));exact BK198.out⟩
         have n2_ : Aside0 ((((w77.setCell ⟨gb211,0,none⟩ (.string t207)).setCell ⟨gb211,1,none⟩ (.string t208)).setCell ⟨gb211,2,none⟩ (.bool t209)).heap[gb199]? = some (.cells #[.string a2_0,.string a2_1,.bool a2_2] 23 (0,0))):=⟨by (with_reducible repeat (first|apply bN|apply bD|apply bA|refine blk_far ?_ NB199_211.out _));exact BK199.out⟩
         have n3_ : Aside0 ((((w77.setCell ⟨gb211,0,none⟩ (.string t207)).setCell ⟨gb211,1,none⟩ (.string t208)).setCell ⟨gb211,2,none⟩ (.bool t209)).heap[gb211]? = some (.cells #[.string t207,.string t208,.bool t209] 23 (0,0))):=⟨by (with_reducible repeat first|apply bN|apply bD|apply bA);refine blk_put (cs:=#[.string t207,.string t208,.bool false]) ?_ 2 _ rfl;(with_reducible repeat first|apply bN|apply bD|apply bA);refine blk_put (cs:=#[.string t207,.string (⟨#[]⟩ : ByteArray),.bool false]) ?_ 1 _ rfl;(with_reducible repeat first|apply bN|apply bD|apply bA);refine blk_put (cs:=#[.string (⟨#[]⟩ : ByteArray),.string (⟨#[]⟩ : ByteArray),.bool false]) ?_ 0 _ rfl;(with_reducible repeat first|apply bN|apply bD|apply bA);exact BK211.out⟩
         have n4_ : Aside0 (Below w.heap.size w (((w77.setCell ⟨gb211,0,none⟩ (.string t207)).setCell ⟨gb211,1,none⟩ (.string t208)).setCell ⟨gb211,2,none⟩ (.bool t209))):=⟨by repeat (first|(with_reducible first|exact HB.out|apply xA|apply xN|apply xD|refine xS ?_ GE197.out|refine xS ?_ GE198.out|refine xS ?_ GE199.out|refine xS ?_ GE211.out)|exact HB.out)⟩
         (try clear BK197)
         (try clear BK198)
         (try clear BK199)
         (try clear BK211)
         (try clear HB)
         generalize (((w77.setCell ⟨gb211,0,none⟩ (.string t207)).setCell ⟨gb211,1,none⟩ (.string t208)).setCell ⟨gb211,2,none⟩ (.bool t209)) = w111 at n0_ n1_ n2_ n3_ n4_ ⊢
         have BK197:=n0_
         have BK198:=n1_
         have BK199:=n2_
         have BK211:=n3_
         have HB:=n4_
         clear n0_ n1_ n2_ n3_ n4_
         replace BK197:=Aside0.mk (blk_drew BK197.out)
         replace BK198:=Aside0.mk (blk_drew BK198.out)
         replace BK199:=Aside0.mk (blk_drew BK199.out)
         replace BK211:=Aside0.mk (blk_drew BK211.out)
         replace HB:=Aside0.mk (below_drew1 HB.out)
         refine start_ (n:=20) (S:=fun w' => w'.cell? ⟨gb199,0,none⟩ = some (.string a2_0) ∧ w'.cell? ⟨gb199,1,none⟩ = some (.string a2_1) ∧ w'.cell? ⟨gb199,2,none⟩ = some (.bool a2_2) ∧ w'.cell? ⟨gb197,0,none⟩ = some (.string a0_0) ∧ w'.cell? ⟨gb197,1,none⟩ = some (.string a0_1) ∧ w'.cell? ⟨gb197,2,none⟩ = some (.bool a0_2)) (ds:=[]) #[false,false,false,false,false,false,false,false,false,false,false,false,false,false,false,false,false,false,false,false] (by kernel_rfl) rfl rfl ⟨(blk_cell BK199.out 0).trans rfl,(blk_cell BK199.out 1).trans rfl,(blk_cell BK199.out 2).trans rfl,(blk_cell BK197.out 0).trans rfl,(blk_cell BK197.out 1).trans rfl,(blk_cell BK197.out 2).trans rfl⟩ (fun hHeld => ?_);refine with_tabW tidelinelaw02_SpanMeets.tab6 tidelinelaw02_SpanMeets.bits6 (fun HT_ HW_ => ?_)
         generalize w111.drew = w112 at BK197 BK198 BK199 BK211 HB hHeld ⊢
         refine take_ (i:=0) (N:=some 52) (v:=?_) (a':=?_) #[true,false,false,false,false,false,false,false,false,false,false,false,false,false,false,false,false,false,false,false] rfl rfl (take_ofW HT_.out HW_.out (by kernel_rfl)) (fun _ _ _ h => h) (Or.inl ⟨by rfl,?_⟩) hHeld ?_ ?_
         rotate_left
         ·rintro w' ⟨s0,s1,s2,s3,s4,s5⟩
          go_simp
          with_reducible rfl
         rotate_left
         ·simp only [Act.put,List.setIfInBounds_toArray,List.set_cons_zero,List.set_cons_succ,i64_w,i32_w]
          rfl
         refine one_ (i:=1) (N:=some 53) #[true,true,false,false,false,false,false,false,false,false,false,false,false,false,false,false,false,false,false,false] rfl rfl (one_of HT_.out (by kernel_rfl)) (by decide) (fun K hK => ?_)
         refine goes_ Try.func14 (by kernel_rfl) rfl #[.agg #[.string a2_0,.string a2_1,.bool a2_2]] (by rfl) rfl rfl (by (try simp only [List.map_toArray,List.map_cons,List.map_nil]);first|done|rfl|(simp only [List.length_drop,List.length_take];rfl)) ?_
         with_reducible refine (span_Empty.calls kj5 a2_0 a2_1 a2_2 false _ A82.out).mono ?_
         rintro e w113 ⟨rfl,hb⟩
         refine ⟨_,rfl,?_⟩
         replace BK197:=bk (by (with_reducible repeat first|apply bN|apply bD|apply bA);exact BK197.out) hb
         replace BK198:=bk (by (with_reducible repeat first|apply bN|apply bD|apply bA);exact BK198.out) hb
         replace BK199:=bk (by (with_reducible repeat first|apply bN|apply bD|apply bA);exact BK199.out) hb
         replace BK211:=bk (by (with_reducible repeat first|apply bN|apply bD|apply bA);exact BK211.out) hb
         replace HB:=Aside0.mk (below_step (by repeat (first|(with_reducible first|exact HB.out|apply xA|apply xN|apply xD|refine xS ?_ GE197.out|refine xS ?_ GE198.out|refine xS ?_ GE199.out|refine xS ?_ GE211.out)|exact HB.out)) hb)
         (try clear hb)
         (try clear hb2)
         (try clear hk)
         (try clear hi)
         refine hK.out _ _ ⟨(blk_cell BK199.out 0).trans rfl,(blk_cell BK199.out 1).trans rfl,(blk_cell BK199.out 2).trans rfl,(blk_cell BK197.out 0).trans rfl,(blk_cell BK197.out 1).trans rfl,(blk_cell BK197.out 2).trans rfl⟩ (fun hHeld => ?_)
         clear hK K
         refine norm_ (a':=?_) ?_ ?_
         rotate_left
         ·show Act.put _ (some 53) _ = _
          simp only [Act.put,List.setIfInBounds_toArray,List.set_cons_zero,List.set_cons_succ,i64_w,i32_w]
          rfl
         refine pure_ (i:=2) (N:=some 54) (v:=?_) (a':=?_) #[true,true,true,false,false,false,false,false,false,false,false,false,false,false,false,false,false,false,false,false] rfl rfl (any_of HT_.out (by kernel_rfl)) (fun _ _ _ h => h) (Or.inl ⟨by rfl,?_⟩) ?_ ?_
         rotate_left
         ·intro w'
          go_simp
          with_reducible rfl
         rotate_left
         ·simp only [Act.put,List.setIfInBounds_toArray,List.set_cons_zero,List.set_cons_succ,i64_w,i32_w]
          rfl
         refine pure_ (i:=3) (N:=some 55) (v:=?_) (a':=?_) #[true,true,true,true,false,false,false,false,false,false,false,false,false,false,false,false,false,false,false,false] rfl rfl (any_of HT_.out (by kernel_rfl)) (fun _ _ _ h => h) (Or.inl ⟨by rfl,?_⟩) ?_ ?_
         rotate_left
         ·intro w'
          go_simp
          with_reducible rfl
         rotate_left
         ·simp only [Act.put,List.setIfInBounds_toArray,List.set_cons_zero,List.set_cons_succ,i64_w,i32_w]
          rfl
         refine pure_ (i:=4) (N:=some 56) (v:=?_) (a':=?_) #[true,true,true,true,true,false,false,false,false,false,false,false,false,false,false,false,false,false,false,false] rfl rfl (any_of HT_.out (by kernel_rfl)) (fun _ _ _ h => h) (Or.inl ⟨by rfl,?_⟩) ?_ ?_
         rotate_left
         ·intro w'
          go_simp
          with_reducible rfl
         rotate_left
         ·simp only [Act.put,List.setIfInBounds_toArray,List.set_cons_zero,List.set_cons_succ,i64_w,i32_w]
          rfl
         refine pure_ (i:=5) (N:=some 57) (v:=?_) (a':=?_) #[true,true,true,true,true,true,false,false,false,false,false,false,false,false,false,false,false,false,false,false] rfl rfl (any_of HT_.out (by kernel_rfl)) (fun _ _ _ h => h) (Or.inl ⟨by rfl,?_⟩) ?_ ?_
         rotate_left
         ·intro w'
          go_simp
          with_reducible rfl
         rotate_left
         ·simp only [Act.put,List.setIfInBounds_toArray,List.set_cons_zero,List.set_cons_succ,i64_w,i32_w]
          rfl
         refine pure_ (i:=6) (N:=some 58) (v:=undef) (a':=?_) #[true,true,true,true,true,true,true,false,false,false,false,false,false,false,false,false,false,false,false,false] rfl rfl (any_of HT_.out (by kernel_rfl)) (fun _ _ _ h => h) (Or.inr ⟨by rfl,rfl⟩) ?_ ?_
         rotate_left
         ·simp only [Act.put,List.setIfInBounds_toArray,List.set_cons_zero,List.set_cons_succ,i64_w,i32_w]
          rfl
         refine pure_ (i:=7) (N:=some 59) (v:=undef) (a':=?_) #[true,true,true,true,true,true,true,true,false,false,false,false,false,false,false,false,false,false,false,false] rfl rfl (any_of HT_.out (by kernel_rfl)) (fun _ _ _ h => h) (Or.inr ⟨by rfl,rfl⟩) ?_ ?_
         rotate_left
         ·simp only [Act.put,List.setIfInBounds_toArray,List.set_cons_zero,List.set_cons_succ,i64_w,i32_w]
          rfl
         refine pure_ (i:=8) (N:=some 60) (v:=undef) (a':=?_) #[true,true,true,true,true,true,true,true,true,false,false,false,false,false,false,false,false,false,false,false] rfl rfl (any_of HT_.out (by kernel_rfl)) (fun _ _ _ h => h) (Or.inr ⟨by rfl,rfl⟩) ?_ ?_
         rotate_left
         ·simp only [Act.put,List.setIfInBounds_toArray,List.set_cons_zero,List.set_cons_succ,i64_w,i32_w]
          rfl
         refine pure_ (i:=9) (N:=some 61) (v:=?_) (a':=?_) #[true,true,true,true,true,true,true,true,true,true,false,false,false,false,false,false,false,false,false,false] rfl rfl (any_of HT_.out (by kernel_rfl)) (fun _ _ _ h => h) (Or.inl ⟨by rfl,?_⟩) ?_ ?_
         rotate_left
         ·intro w'
          go_simp
          with_reducible rfl
         rotate_left
         ·simp only [Act.put,List.setIfInBounds_toArray,List.set_cons_zero,List.set_cons_succ,i64_w,i32_w]
          rfl
         refine take_ (i:=10) (N:=some 62) (v:=?_) (a':=?_) #[true,true,true,true,true,true,true,true,true,true,true,false,false,false,false,false,false,false,false,false] rfl rfl (take_ofW HT_.out HW_.out (by kernel_rfl)) (fun _ _ _ h => h) (Or.inl ⟨by rfl,?_⟩) hHeld ?_ ?_
         rotate_left
         ·rintro w' ⟨s0,s1,s2,s3,s4,s5⟩
          go_simp
          with_reducible rfl
         rotate_left
         ·simp only [Act.put,List.setIfInBounds_toArray,List.set_cons_zero,List.set_cons_succ,i64_w,i32_w]
          rfl
         refine take_ (i:=11) (N:=some 63) (v:=?_) (a':=?_) #[true,true,true,true,true,true,true,true,true,true,true,true,false,false,false,false,false,false,false,false] rfl rfl (take_ofW HT_.out HW_.out (by kernel_rfl)) (fun _ _ _ h => h) (Or.inl ⟨by rfl,?_⟩) hHeld ?_ ?_
         rotate_left
         ·rintro w' ⟨s0,s1,s2,s3,s4,s5⟩
          go_simp
          with_reducible rfl
         rotate_left
         ·simp only [Act.put,List.setIfInBounds_toArray,List.set_cons_zero,List.set_cons_succ,i64_w,i32_w]
          rfl
         refine one_ (i:=12) (N:=some 64) #[true,true,true,true,true,true,true,true,true,true,true,true,true,false,false,false,false,false,false,false] rfl rfl (one_of HT_.out (by kernel_rfl)) (by decide) (fun K hK => ?_)
         refine goes_ Try.func27 (by kernel_rfl) rfl #[.agg #[.string a2_0,.string a2_1,.bool a2_2],.agg #[.string a0_0,.string a0_1,.bool a0_2]] (by rfl) rfl rfl (by (try simp only [List.map_toArray,List.map_cons,List.map_nil]);first|done|rfl|(simp only [List.length_drop,List.length_take];rfl)) ?_
         with_reducible refine (span_Within.calls kj5 a2_0 a2_1 a2_2 a0_0 a0_1 a0_2 false _ A103.out).mono ?_
         rintro e w114 ⟨rfl,hb⟩
         refine ⟨_,rfl,?_⟩
         replace BK197:=bk (by (with_reducible repeat first|apply bN|apply bD|apply bA);exact BK197.out) hb
         replace BK198:=bk (by (with_reducible repeat first|apply bN|apply bD|apply bA);exact BK198.out) hb
         replace BK199:=bk (by (with_reducible repeat first|apply bN|apply bD|apply bA);exact BK199.out) hb
         replace BK211:=bk (by (with_reducible repeat first|apply bN|apply bD|apply bA);exact BK211.out) hb
         replace HB:=Aside0.mk (below_step (by repeat (first|(with_reducible first|exact HB.out|apply xA|apply xN|apply xD|refine xS ?_ GE197.out|refine xS ?_ GE198.out|refine xS ?_ GE199.out|refine xS ?_ GE211.out)|exact HB.out)) hb)
         (try clear hb)
         (try clear hb2)
         (try clear hk)
         (try clear hi)
         refine hK.out _ _ ⟨(blk_cell BK199.out 0).trans rfl,(blk_cell BK199.out 1).trans rfl,(blk_cell BK199.out 2).trans rfl,(blk_cell BK197.out 0).trans rfl,(blk_cell BK197.out 1).trans rfl,(blk_cell BK197.out 2).trans rfl⟩ (fun hHeld => ?_)
         clear hK K
         refine norm_ (a':=?_) ?_ ?_
         rotate_left
         ·show Act.put _ (some 64) _ = _
          simp only [Act.put,List.setIfInBounds_toArray,List.set_cons_zero,List.set_cons_succ,i64_w,i32_w]
          rfl
         refine pure_ (i:=13) (N:=some 65) (v:=?_) (a':=?_) #[true,true,true,true,true,true,true,true,true,true,true,true,true,true,false,false,false,false,false,false] rfl rfl (any_of HT_.out (by kernel_rfl)) (fun _ _ _ h => h) (Or.inl ⟨by rfl,?_⟩) ?_ ?_
         rotate_left
         ·intro w'
          go_simp
          with_reducible rfl
         rotate_left
         ·simp only [Act.put,List.setIfInBounds_toArray,List.set_cons_zero,List.set_cons_succ,i64_w,i32_w]
          rfl
         refine pure_ (i:=14) (N:=some 66) (v:=undef) (a':=?_) #[true,true,true,true,true,true,true,true,true,true,true,true,true,true,true,false,false,false,false,false] rfl rfl (any_of HT_.out (by kernel_rfl)) (fun _ _ _ h => h) (Or.inr ⟨by rfl,rfl⟩) ?_ ?_
         rotate_left
         ·simp only [Act.put,List.setIfInBounds_toArray,List.set_cons_zero,List.set_cons_succ,i64_w,i32_w]
          rfl
         refine pure_ (i:=15) (N:=some 67) (v:=undef) (a':=?_) #[true,true,true,true,true,true,true,true,true,true,true,true,true,true,true,true,false,false,false,false] rfl rfl (any_of HT_.out (by kernel_rfl)) (fun _ _ _ h => h) (Or.inr ⟨by rfl,rfl⟩) ?_ ?_
         rotate_left
         ·simp only [Act.put,List.setIfInBounds_toArray,List.set_cons_zero,List.set_cons_succ,i64_w,i32_w]
          rfl
         refine pure_ (i:=16) (N:=some 68) (v:=undef) (a':=?_) #[true,true,true,true,true,true,true,true,true,true,true,true,true,true,true,true,true,false,false,false] rfl rfl (any_of HT_.out (by kernel_rfl)) (fun _ _ _ h => h) (Or.inr ⟨by rfl,rfl⟩) ?_ ?_
         rotate_left
         ·simp only [Act.put,List.setIfInBounds_toArray,List.set_cons_zero,List.set_cons_succ,i64_w,i32_w]
          rfl
         refine pure_ (i:=17) (N:=some 69) (v:=?_) (a':=?_) #[true,true,true,true,true,true,true,true,true,true,true,true,true,true,true,true,true,true,false,false] rfl rfl (any_of HT_.out (by kernel_rfl)) (fun _ _ _ h => h) (Or.inl ⟨by rfl,?_⟩) ?_ ?_
         rotate_left
         ·intro w'
          go_simp
          with_reducible rfl
         rotate_left
         ·simp only [Act.put,List.setIfInBounds_toArray,List.set_cons_zero,List.set_cons_succ,i64_w,i32_w]
          rfl
         refine pure_ (i:=18) (N:=some 70) (v:=?_) (a':=?_) #[true,true,true,true,true,true,true,true,true,true,true,true,true,true,true,true,true,true,true,false] rfl rfl (any_of HT_.out (by kernel_rfl)) (fun _ _ _ h => h) (Or.inl ⟨by rfl,?_⟩) ?_ ?_
         rotate_left
         ·intro w'
          go_simp
          with_reducible rfl
         rotate_left
         ·simp only [Act.put,List.setIfInBounds_toArray,List.set_cons_zero,List.set_cons_succ,i64_w,i32_w]
          rfl
         refine pure_ (i:=19) (N:=some 71) (v:=?_) (a':=?_) #[true,true,true,true,true,true,true,true,true,true,true,true,true,true,true,true,true,true,true,true] rfl rfl (any_of HT_.out (by kernel_rfl)) (fun _ _ _ h => h) (Or.inl ⟨by rfl,?_⟩) ?_ ?_
         rotate_left
         ·intro w'
          go_simp
          with_reducible rfl
         rotate_left
         ·simp only [Act.put,List.setIfInBounds_toArray,List.set_cons_zero,List.set_cons_succ,i64_w,i32_w]
          rfl
         refine done_ (done_of HT_.out (by kernel_rfl)) ?_
         try go_wp2
         go_meet
         case rel => exact ⟨_,((false != false)),(by first|rfl|(simp;done)|(simp [*];done)|(simp [*,Go.Proofs.Ytgdhgamolenfgaa.Str.bne_nil];done)),H',⟨by have:=HJ5.out;first|omega|exact Nat.le_refl _⟩,⟨by (with_reducible repeat first|apply bN|apply bD|apply bA);exact BK197.out⟩,⟨by (with_reducible repeat first|apply bN|apply bD|apply bA);exact BK198.out⟩,⟨by (with_reducible repeat first|apply bN|apply bD|apply bA);exact BK199.out⟩,⟨by (with_reducible repeat first|apply bN|apply bD|apply bA);exact BK211.out⟩,⟨by repeat (first|(with_reducible first|exact HB.out|apply xA|apply xN|apply xD|refine xS ?_ GE197.out|refine xS ?_ GE198.out|refine xS ?_ GE199.out|refine xS ?_ GE211.out)|exact HB.out)⟩⟩
     case rest =>
      clear HC70
      try clear c1
      try clear c2
      try clear p2
      try clear c8
      try clear c10
      try clear c14
      try clear c27
      try clear c87
      try clear c104
      obtain ⟨kq,x71_69,rfl,HA,HJ69,BK197,BK198,BK199,BK211,HB⟩:=hcut
      cases kq with
     |zero => exact absurd HA.out (by simp [tidelinelaw02_SpanMeets.j1])
     |succ kj69 =>
       have H:=HA.out
       clear HA
       simp only [tidelinelaw02_SpanMeets.j1] at H
       by_cases c115 : x71_69 = true
       ·subst c115
        have H1 : (none) = some r:=by rw [if_pos rfl] at H;exact H
        clear H
        have H:=H1
        clear H1
        exact absurd H (by simp)
       ·replace c115:=Bool.eq_false_iff.mpr c115
        subst c115
        have H1 : ((span_Within.f kj69 a0_0 a0_1 a0_2 a1_0 a1_1 a1_2).bind fun t218 => (if t218 = true then ((span_Within.f kj69 a1_0 a1_1 a1_2 a2_0 a2_1 a2_2).bind fun t219 => (if t219 = true then ((span_Within.f kj69 a0_0 a0_1 a0_2 a2_0 a2_1 a2_2).bind fun t220 => (if t220 = true then ((span_Within.f kj69 a0_0 a0_1 a0_2 a0_0 a0_1 a0_2).bind fun t221 => (tidelinelaw02_SpanMeets.j2 kj69 t210 (!t221) a0_0 a0_1 a0_2 a1_0 a1_1 a1_2 a2_0 a2_1 a2_2 t207 t208 t209)) else (tidelinelaw02_SpanMeets.j2 kj69 t210 true a0_0 a0_1 a0_2 a1_0 a1_1 a1_2 a2_0 a2_1 a2_2 t207 t208 t209))) else ((span_Within.f kj69 a0_0 a0_1 a0_2 a0_0 a0_1 a0_2).bind fun t222 => (tidelinelaw02_SpanMeets.j2 kj69 t210 (!t222) a0_0 a0_1 a0_2 a1_0 a1_1 a1_2 a2_0 a2_1 a2_2 t207 t208 t209)))) else ((span_Within.f kj69 a0_0 a0_1 a0_2 a0_0 a0_1 a0_2).bind fun t223 => (tidelinelaw02_SpanMeets.j2 kj69 t210 (!t223) a0_0 a0_1 a0_2 a1_0 a1_1 a1_2 a2_0 a2_1 a2_2 t207 t208 t209)))) = some r:=by rw [if_neg (show ¬ (false = true) by decide)] at H;exact H
        clear H
        have H:=H1
        clear H1
        have HC116:=Aside0.mk H
        clear H
        go_upto_region 8 with (fail)
        go_cut [91] (fun v91 wc => ∃ (kq : Nat) (x91_115 : Bool),v91 = .bool x91_115 ∧ Aside0 (tidelinelaw02_SpanMeets.j2 kq t210 x91_115 a0_0 a0_1 a0_2 a1_0 a1_1 a1_2 a2_0 a2_1 a2_2 t207 t208 t209 = some r) ∧ Aside0 (kq ≤ kj69) ∧ Aside0 (wc.heap[gb197]? = some (.cells #[.string a0_0,.string a0_1,.bool a0_2] 23 (0,0))) ∧ Aside0 (wc.heap[gb198]? = some (.cells #[.string a1_0,.string a1_1,.bool a1_2] 23 (0,0))) ∧ Aside0 (wc.heap[gb199]? = some (.cells #[.string a2_0,.string a2_1,.bool a2_2] 23 (0,0))) ∧ Aside0 (wc.heap[gb211]? = some (.cells #[.string t207,.string t208,.bool t209] 23 (0,0))) ∧ Aside0 (Below w.heap.size w wc))
        case first =>
         have H:=HC116.out
         clear HC116
         replace H:=Option.bind_eq_some_iff.mp H
         obtain ⟨t218,A1170,H⟩:=H
         replace H : (if t218 = true then ((span_Within.f kj69 a1_0 a1_1 a1_2 a2_0 a2_1 a2_2).bind fun t219 => (if t219 = true then ((span_Within.f kj69 a0_0 a0_1 a0_2 a2_0 a2_1 a2_2).bind fun t220 => (if t220 = true then ((span_Within.f kj69 a0_0 a0_1 a0_2 a0_0 a0_1 a0_2).bind fun t221 => (tidelinelaw02_SpanMeets.j2 kj69 t210 (!t221) a0_0 a0_1 a0_2 a1_0 a1_1 a1_2 a2_0 a2_1 a2_2 t207 t208 t209)) else (tidelinelaw02_SpanMeets.j2 kj69 t210 true a0_0 a0_1 a0_2 a1_0 a1_1 a1_2 a2_0 a2_1 a2_2 t207 t208 t209))) else ((span_Within.f kj69 a0_0 a0_1 a0_2 a0_0 a0_1 a0_2).bind fun t222 => (tidelinelaw02_SpanMeets.j2 kj69 t210 (!t222) a0_0 a0_1 a0_2 a1_0 a1_1 a1_2 a2_0 a2_1 a2_2 t207 t208 t209)))) else ((span_Within.f kj69 a0_0 a0_1 a0_2 a0_0 a0_1 a0_2).bind fun t223 => (tidelinelaw02_SpanMeets.j2 kj69 t210 (!t223) a0_0 a0_1 a0_2 a1_0 a1_1 a1_2 a2_0 a2_1 a2_2 t207 t208 t209))) = some r:=H
         have A117:=Aside0.mk A1170
         clear A1170
         by_cases c118 : t218 = true
         ·subst c118
          have H1 : ((span_Within.f kj69 a1_0 a1_1 a1_2 a2_0 a2_1 a2_2).bind fun t219 => (if t219 = true then ((span_Within.f kj69 a0_0 a0_1 a0_2 a2_0 a2_1 a2_2).bind fun t220 => (if t220 = true then ((span_Within.f kj69 a0_0 a0_1 a0_2 a0_0 a0_1 a0_2).bind fun t221 => (tidelinelaw02_SpanMeets.j2 kj69 t210 (!t221) a0_0 a0_1 a0_2 a1_0 a1_1 a1_2 a2_0 a2_1 a2_2 t207 t208 t209)) else (tidelinelaw02_SpanMeets.j2 kj69 t210 true a0_0 a0_1 a0_2 a1_0 a1_1 a1_2 a2_0 a2_1 a2_2 t207 t208 t209))) else ((span_Within.f kj69 a0_0 a0_1 a0_2 a0_0 a0_1 a0_2).bind fun t222 => (tidelinelaw02_SpanMeets.j2 kj69 t210 (!t222) a0_0 a0_1 a0_2 a1_0 a1_1 a1_2 a2_0 a2_1 a2_2 t207 t208 t209)))) = some r:=by rw [if_pos rfl] at H;exact H
          clear H
          have H:=H1
          clear H1
          replace H:=Option.bind_eq_some_iff.mp H
          obtain ⟨t219,A1190,H⟩:=H
          replace H : (if t219 = true then ((span_Within.f kj69 a0_0 a0_1 a0_2 a2_0 a2_1 a2_2).bind fun t220 => (if t220 = true then ((span_Within.f kj69 a0_0 a0_1 a0_2 a0_0 a0_1 a0_2).bind fun t221 => (tidelinelaw02_SpanMeets.j2 kj69 t210 (!t221) a0_0 a0_1 a0_2 a1_0 a1_1 a1_2 a2_0 a2_1 a2_2 t207 t208 t209)) else (tidelinelaw02_SpanMeets.j2 kj69 t210 true a0_0 a0_1 a0_2 a1_0 a1_1 a1_2 a2_0 a2_1 a2_2 t207 t208 t209))) else ((span_Within.f kj69 a0_0 a0_1 a0_2 a0_0 a0_1 a0_2).bind fun t222 => (tidelinelaw02_SpanMeets.j2 kj69 t210 (!t222) a0_0 a0_1 a0_2 a1_0 a1_1 a1_2 a2_0 a2_1 a2_2 t207 t208 t209))) = some r:=H
          have A119:=Aside0.mk A1190
          clear A1190
          by_cases c120 : t219 = true
          ·subst c120
           have H1 : ((span_Within.f kj69 a0_0 a0_1 a0_2 a2_0 a2_1 a2_2).bind fun t220 => (if t220 = true then ((span_Within.f kj69 a0_0 a0_1 a0_2 a0_0 a0_1 a0_2).bind fun t221 => (tidelinelaw02_SpanMeets.j2 kj69 t210 (!t221) a0_0 a0_1 a0_2 a1_0 a1_1 a1_2 a2_0 a2_1 a2_2 t207 t208 t209)) else (tidelinelaw02_SpanMeets.j2 kj69 t210 true a0_0 a0_1 a0_2 a1_0 a1_1 a1_2 a2_0 a2_1 a2_2 t207 t208 t209))) = some r:=by rw [if_pos rfl] at H;exact H
           clear H
           have H:=H1
           clear H1
           replace H:=Option.bind_eq_some_iff.mp H
           obtain ⟨t220,A1210,H⟩:=H
           replace H : (if t220 = true then ((span_Within.f kj69 a0_0 a0_1 a0_2 a0_0 a0_1 a0_2).bind fun t221 => (tidelinelaw02_SpanMeets.j2 kj69 t210 (!t221) a0_0 a0_1 a0_2 a1_0 a1_1 a1_2 a2_0 a2_1 a2_2 t207 t208 t209)) else (tidelinelaw02_SpanMeets.j2 kj69 t210 true a0_0 a0_1 a0_2 a1_0 a1_1 a1_2 a2_0 a2_1 a2_2 t207 t208 t209)) = some r:=H
           have A121:=Aside0.mk A1210
           clear A1210
           by_cases c122 : t220 = true
           ·subst c122
            have H1 : ((span_Within.f kj69 a0_0 a0_1 a0_2 a0_0 a0_1 a0_2).bind fun t221 => (tidelinelaw02_SpanMeets.j2 kj69 t210 (!t221) a0_0 a0_1 a0_2 a1_0 a1_1 a1_2 a2_0 a2_1 a2_2 t207 t208 t209)) = some r:=by rw [if_pos rfl] at H;exact H
            clear H
            have H:=H1
            clear H1
            replace H:=Option.bind_eq_some_iff.mp H
            obtain ⟨t221,A1230,H⟩:=H
            replace H : (tidelinelaw02_SpanMeets.j2 kj69 t210 (!t221) a0_0 a0_1 a0_2 a1_0 a1_1 a1_2 a2_0 a2_1 a2_2 t207 t208 t209) = some r:=H
            have A123:=Aside0.mk A1230
            clear A1230
            have H':=Aside0.mk H
            clear H
            have hnb124:=NB197_198.out
            have hnc124:=NB198_197.out
            have hnb125:=NB197_199.out
            have hnc125:=NB199_197.out
            have hnb126:=NB197_211.out
            have hnc126:=NB211_197.out
            obtain ⟨hcz127_0,hcz127_1,hcz127_2⟩:=c3 BK197.out
            obtain ⟨hfz127_0,hfz127_1,hfz127_2⟩:=f3 BK197.out
            have hnb128:=NB198_199.out
            have hnc128:=NB199_198.out
            have hnb129:=NB198_211.out
            have hnc129:=NB211_198.out
            obtain ⟨hcz130_0,hcz130_1,hcz130_2⟩:=c3 BK198.out
            obtain ⟨hfz130_0,hfz130_1,hfz130_2⟩:=f3 BK198.out
            go_wp2_with (first|((with_reducible refine gate_callee (f:=27) rfl ?_);refine goesL_ (some 74) rfl rfl Try.func27 (by kernel_rfl) rfl #[.agg #[.string a0_0,.string a0_1,.bool a0_2],.agg #[.string a1_0,.string a1_1,.bool a1_2]] rfl (by (try simp only [List.map_toArray,List.map_cons,List.map_nil]);first|done|rfl|(simp only [List.length_drop,List.length_take];rfl)) ?_;(with_reducible refine (span_Within.calls kj69 a0_0 a0_1 a0_2 a1_0 a1_1 a1_2 true _ A117.out).mono ?_);rintro e w131 ⟨rfl,hb⟩;refine ⟨_,rfl,?_⟩;replace BK197:=bk (by (with_reducible repeat first|apply bN|apply bD|apply bA);exact BK197.out) hb;replace BK198:=bk (by (with_reducible repeat first|apply bN|apply bD|apply bA);exact BK198.out) hb;replace BK199:=bk (by (with_reducible repeat first|apply bN|apply bD|apply bA);exact BK199.out) hb;replace BK211:=bk (by (with_reducible repeat first|apply bN|apply bD|apply bA);exact BK211.out) hb;replace HB:=Aside0.mk (below_step (by repeat (first|(with_reducible first|exact HB.out|apply xA|apply xN|apply xD|refine xS ?_ GE197.out|refine xS ?_ GE198.out|refine xS ?_ GE199.out|refine xS ?_ GE211.out)|exact HB.out)) hb);(try clear hb);(try clear hb2);(try clear hk);(try clear hi);obtain ⟨hcz132_0,hcz132_1,hcz132_2⟩:=c3 BK198.out;obtain ⟨hfz132_0,hfz132_1,hfz132_2⟩:=f3 BK198.out;have hnb133:=NB199_211.out;have hnc133:=NB211_199.out;obtain ⟨hcz134_0,hcz134_1,hcz134_2⟩:=c3 BK199.out;obtain ⟨hfz134_0,hfz134_1,hfz134_2⟩:=f3 BK199.out)|(go_at_call 27;(with_reducible refine (span_Within.calls kj69 a1_0 a1_1 a1_2 a2_0 a2_1 a2_2 true _ A119.out).mono ?_);rintro e w135 ⟨rfl,hb⟩;replace BK197:=bk (by (with_reducible repeat first|apply bN|apply bD|apply bA);exact BK197.out) hb;replace BK198:=bk (by (with_reducible repeat first|apply bN|apply bD|apply bA);exact BK198.out) hb;replace BK199:=bk (by (with_reducible repeat first|apply bN|apply bD|apply bA);exact BK199.out) hb;replace BK211:=bk (by (with_reducible repeat first|apply bN|apply bD|apply bA);exact BK211.out) hb;replace HB:=Aside0.mk (below_step (by repeat (first|(with_reducible first|exact HB.out|apply xA|apply xN|apply xD|refine xS ?_ GE197.out|refine xS ?_ GE198.out|refine xS ?_ GE199.out|refine xS ?_ GE211.out)|exact HB.out)) hb);(try clear hb);(try clear hb2);(try clear hk);(try clear hi);obtain ⟨hcz136_0,hcz136_1,hcz136_2⟩:=c3 BK197.out;obtain ⟨hfz136_0,hfz136_1,hfz136_2⟩:=f3 BK197.out;obtain ⟨hcz137_0,hcz137_1,hcz137_2⟩:=c3 BK199.out;obtain ⟨hfz137_0,hfz137_1,hfz137_2⟩:=f3 BK199.out)|(go_at_call 27;(with_reducible refine (span_Within.calls kj69 a0_0 a0_1 a0_2 a2_0 a2_1 a2_2 true _ A121.out).mono ?_);rintro e w138 ⟨rfl,hb⟩;replace BK197:=bk (by (with_reducible repeat first|apply bN|apply bD|apply bA);exact BK197.out) hb;replace BK198:=bk (by (with_reducible repeat first|apply bN|apply bD|apply bA);exact BK198.out) hb;replace BK199:=bk (by (with_reducible repeat first|apply bN|apply bD|apply bA);exact BK199.out) hb;replace BK211:=bk (by (with_reducible repeat first|apply bN|apply bD|apply bA);exact BK211.out) hb;replace HB:=Aside0.mk (below_step (by repeat (first|(with_reducible first|exact HB.out|apply xA|apply xN|apply xD|refine xS ?_ GE197.out|refine xS ?_ GE198.out|refine xS ?_ GE199.out|refine xS ?_ GE211.out)|exact HB.out)) hb);(try clear hb);(try clear hb2);(try clear hk);(try clear hi);obtain ⟨hcz139_0,hcz139_1,hcz139_2⟩:=c3 BK197.out;obtain ⟨hfz139_0,hfz139_1,hfz139_2⟩:=f3 BK197.out)|(go_at_call 27;(with_reducible refine (span_Within.calls kj69 a0_0 a0_1 a0_2 a0_0 a0_1 a0_2 t221 _ A123.out).mono ?_);rintro e w140 ⟨rfl,hb⟩;replace BK197:=bk (by (with_reducible repeat first|apply bN|apply bD|apply bA);exact BK197.out) hb;replace BK198:=bk (by (with_reducible repeat first|apply bN|apply bD|apply bA);exact BK198.out) hb;replace BK199:=bk (by (with_reducible repeat first|apply bN|apply bD|apply bA);exact BK199.out) hb;replace BK211:=bk (by (with_reducible repeat first|apply bN|apply bD|apply bA);exact BK211.out) hb;replace HB:=Aside0.mk (below_step (by repeat (first|(with_reducible first|exact HB.out|apply xA|apply xN|apply xD|refine xS ?_ GE197.out|refine xS ?_ GE198.out|refine xS ?_ GE199.out|refine xS ?_ GE211.out)|exact HB.out)) hb);(try clear hb);(try clear hb2);(try clear hk);(try clear hi)))
            go_meet
            case rel => exact ⟨_,(!t221),(by first|rfl|(simp;done)|(simp [*];done)|(simp [*,Go.Proofs.Ytgdhgamolenfgaa.Str.bne_nil];done)),H',⟨by have:=HJ5.out;have:=HJ69.out;first|omega|exact Nat.le_refl _⟩,⟨by (with_reducible repeat first|apply bN|apply bD|apply bA);exact BK197.out⟩,⟨by (with_reducible repeat first|apply bN|apply bD|apply bA);exact BK198.out⟩,⟨by (with_reducible repeat first|apply bN|apply bD|apply bA);exact BK199.out⟩,⟨by (with_reducible repeat first|apply bN|apply bD|apply bA);exact BK211.out⟩,⟨by repeat (first|(with_reducible first|exact HB.out|apply xA|apply xN|apply xD|refine xS ?_ GE197.out|refine xS ?_ GE198.out|refine xS ?_ GE199.out|refine xS ?_ GE211.out)|exact HB.out)⟩⟩
           ·replace c122:=Bool.eq_false_iff.mpr c122
            subst c122
            have H1 : (tidelinelaw02_SpanMeets.j2 kj69 t210 true a0_0 a0_1 a0_2 a1_0 a1_1 a1_2 a2_0 a2_1 a2_2 t207 t208 t209) = some r:=by rw [if_neg (show ¬ (false = true) by decide)] at H;exact H
            clear H
            have H:=H1
            clear H1
            have H':=Aside0.mk H
            clear H
            have hnb141:=NB197_198.out
            have hnc141:=NB198_197.out
            have hnb142:=NB197_199.out
            have hnc142:=NB199_197.out
            have hnb143:=NB197_211.out
            have hnc143:=NB211_197.out
            obtain ⟨hcz144_0,hcz144_1,hcz144_2⟩:=c3 BK197.out
            obtain ⟨hfz144_0,hfz144_1,hfz144_2⟩:=f3 BK197.out
            have hnb145:=NB198_199.out
            have hnc145:=NB199_198.out
            have hnb146:=NB198_211.out
            have hnc146:=NB211_198.out
            obtain ⟨hcz147_0,hcz147_1,hcz147_2⟩:=c3 BK198.out
            obtain ⟨hfz147_0,hfz147_1,hfz147_2⟩:=f3 BK198.out
            go_wp2_with (first|((with_reducible refine gate_callee (f:=27) rfl ?_);refine goesL_ (some 74) rfl rfl Try.func27 (by kernel_rfl) rfl #[.agg #[.string a0_0,.string a0_1,.bool a0_2],.agg #[.string a1_0,.string a1_1,.bool a1_2]] rfl (by (try simp only [List.map_toArray,List.map_cons,List.map_nil]);first|done|rfl|(simp only [List.length_drop,List.length_take];rfl)) ?_;(with_reducible refine (span_Within.calls kj69 a0_0 a0_1 a0_2 a1_0 a1_1 a1_2 true _ A117.out).mono ?_);rintro e w148 ⟨rfl,hb⟩;refine ⟨_,rfl,?_⟩;replace BK197:=bk (by (with_reducible repeat first|apply bN|apply bD|apply bA);exact BK197.out) hb;replace BK198:=bk (by (with_reducible repeat first|apply bN|apply bD|apply bA);exact BK198.out) hb;replace BK199:=bk (by (with_reducible repeat first|apply bN|apply bD|apply bA);exact BK199.out) hb;replace BK211:=bk (by (with_reducible repeat first|apply bN|apply bD|apply bA);exact BK211.out) hb;replace HB:=Aside0.mk (below_step (by repeat (first|(with_reducible first|exact HB.out|apply xA|apply xN|apply xD|refine xS ?_ GE197.out|refine xS ?_ GE198.out|refine xS ?_ GE199.out|refine xS ?_ GE211.out)|exact HB.out)) hb);(try clear hb);(try clear hb2);(try clear hk);(try clear hi);obtain ⟨hcz149_0,hcz149_1,hcz149_2⟩:=c3 BK198.out;obtain ⟨hfz149_0,hfz149_1,hfz149_2⟩:=f3 BK198.out;have hnb150:=NB199_211.out;have hnc150:=NB211_199.out;obtain ⟨hcz151_0,hcz151_1,hcz151_2⟩:=c3 BK199.out;obtain ⟨hfz151_0,hfz151_1,hfz151_2⟩:=f3 BK199.out)|(go_at_call 27;(with_reducible refine (span_Within.calls kj69 a1_0 a1_1 a1_2 a2_0 a2_1 a2_2 true _ A119.out).mono ?_);rintro e w152 ⟨rfl,hb⟩;replace BK197:=bk (by (with_reducible repeat first|apply bN|apply bD|apply bA);exact BK197.out) hb;replace BK198:=bk (by (with_reducible repeat first|apply bN|apply bD|apply bA);exact BK198.out) hb;replace BK199:=bk (by (with_reducible repeat first|apply bN|apply bD|apply bA);exact BK199.out) hb;replace BK211:=bk (by (with_reducible repeat first|apply bN|apply bD|apply bA);exact BK211.out) hb;replace HB:=Aside0.mk (below_step (by repeat (first|(with_reducible first|exact HB.out|apply xA|apply xN|apply xD|refine xS ?_ GE197.out|refine xS ?_ GE198.out|refine xS ?_ GE199.out|refine xS ?_ GE211.out)|exact HB.out)) hb);(try clear hb);(try clear hb2);(try clear hk);(try clear hi);obtain ⟨hcz153_0,hcz153_1,hcz153_2⟩:=c3 BK197.out;obtain ⟨hfz153_0,hfz153_1,hfz153_2⟩:=f3 BK197.out;obtain ⟨hcz154_0,hcz154_1,hcz154_2⟩:=c3 BK199.out;obtain ⟨hfz154_0,hfz154_1,hfz154_2⟩:=f3 BK199.out)|(go_at_call 27;(with_reducible refine (span_Within.calls kj69 a0_0 a0_1 a0_2 a2_0 a2_1 a2_2 false _ A121.out).mono ?_);rintro e w155 ⟨rfl,hb⟩;replace BK197:=bk (by (with_reducible repeat first|apply bN|apply bD|apply bA);exact BK197.out) hb;replace BK198:=bk (by (with_reducible repeat first|apply bN|apply bD|apply bA);exact BK198.out) hb;replace BK199:=bk (by (with_reducible repeat first|apply bN|apply bD|apply bA);exact BK199.out) hb;replace BK211:=bk (by (with_reducible repeat first|apply bN|apply bD|apply bA);exact BK211.out) hb;replace HB:=Aside0.mk (below_step (by repeat (first|(with_reducible first|exact HB.out|apply xA|apply xN|apply xD|refine xS ?_ GE197.out|refine xS ?_ GE198.out|refine xS ?_ GE199.out|refine xS ?_ GE211.out)|exact HB.out)) hb);(try clear hb);(try clear hb2);(try clear hk);(try clear hi)))
            go_meet
            case rel => exact ⟨_,(true),(by first|rfl|(simp;done)|(simp [*];done)|(simp [*,Go.Proofs.Ytgdhgamolenfgaa.Str.bne_nil];done)),H',⟨by have:=HJ5.out;have:=HJ69.out;first|omega|exact Nat.le_refl _⟩,⟨by (with_reducible repeat first|apply bN|apply bD|apply bA);exact BK197.out⟩,⟨by (with_reducible repeat first|apply bN|apply bD|apply bA);exact BK198.out⟩,⟨by (with_reducible repeat first|apply bN|apply bD|apply bA);exact BK199.out⟩,⟨by (with_reducible repeat first|apply bN|apply bD|apply bA);exact BK211.out⟩,⟨by repeat (first|(with_reducible first|exact HB.out|apply xA|apply xN|apply xD|refine xS ?_ GE197.out|refine xS ?_ GE198.out|refine xS ?_ GE199.out|refine xS ?_ GE211.out)|exact HB.out)⟩⟩
          ·replace c120:=Bool.eq_false_iff.mpr c120
           subst c120
           have H1 : ((span_Within.f kj69 a0_0 a0_1 a0_2 a0_0 a0_1 a0_2).bind fun t222 => (tidelinelaw02_SpanMeets.j2 kj69 t210 (!t222) a0_0 a0_1 a0_2 a1_0 a1_1 a1_2 a2_0 a2_1 a2_2 t207 t208 t209)) = some r:=by rw [if_neg (show ¬ (false = true) by decide)] at H;exact H
           clear H
           have H:=H1
           clear H1
           replace H:=Option.bind_eq_some_iff.mp H
           obtain ⟨t222,A1560,H⟩:=H
           replace H : (tidelinelaw02_SpanMeets.j2 kj69 t210 (!t222) a0_0 a0_1 a0_2 a1_0 a1_1 a1_2 a2_0 a2_1 a2_2 t207 t208 t209) = some r:=H
           have A156:=Aside0.mk A1560
           clear A1560
           have H':=Aside0.mk H
           clear H
           have hnb157:=NB197_198.out
           have hnc157:=NB198_197.out
           have hnb158:=NB197_199.out
           have hnc158:=NB199_197.out
           have hnb159:=NB197_211.out
           have hnc159:=NB211_197.out
           obtain ⟨hcz160_0,hcz160_1,hcz160_2⟩:=c3 BK197.out
           obtain ⟨hfz160_0,hfz160_1,hfz160_2⟩:=f3 BK197.out
           have hnb161:=NB198_199.out
           have hnc161:=NB199_198.out
           have hnb162:=NB198_211.out
           have hnc162:=NB211_198.out
           obtain ⟨hcz163_0,hcz163_1,hcz163_2⟩:=c3 BK198.out
           obtain ⟨hfz163_0,hfz163_1,hfz163_2⟩:=f3 BK198.out
           go_wp2_with (first|((with_reducible refine gate_callee (f:=27) rfl ?_);refine goesL_ (some 74) rfl rfl Try.func27 (by kernel_rfl) rfl #[.agg #[.string a0_0,.string a0_1,.bool a0_2],.agg #[.string a1_0,.string a1_1,.bool a1_2]] rfl (by (try simp only [List.map_toArray,List.map_cons,List.map_nil]);first|done|rfl|(simp only [List.length_drop,List.length_take];rfl)) ?_;(with_reducible refine (span_Within.calls kj69 a0_0 a0_1 a0_2 a1_0 a1_1 a1_2 true _ A117.out).mono ?_);rintro e w164 ⟨rfl,hb⟩;refine ⟨_,rfl,?_⟩;replace BK197:=bk (by (with_reducible repeat first|apply bN|apply bD|apply bA);exact BK197.out) hb;replace BK198:=bk (by (with_reducible repeat first|apply bN|apply bD|apply bA);exact BK198.out) hb;replace BK199:=bk (by (with_reducible repeat first|apply bN|apply bD|apply bA);exact BK199.out) hb;replace BK211:=bk (by (with_reducible repeat first|apply bN|apply bD|apply bA);exact BK211.out) hb;replace HB:=Aside0.mk (below_step (by repeat (first|(with_reducible first|exact HB.out|apply xA|apply xN|apply xD|refine xS ?_ GE197.out|refine xS ?_ GE198.out|refine xS ?_ GE199.out|refine xS ?_ GE211.out)|exact HB.out)) hb);(try clear hb);(try clear hb2);(try clear hk);(try clear hi);obtain ⟨hcz165_0,hcz165_1,hcz165_2⟩:=c3 BK198.out;obtain ⟨hfz165_0,hfz165_1,hfz165_2⟩:=f3 BK198.out;have hnb166:=NB199_211.out;have hnc166:=NB211_199.out;obtain ⟨hcz167_0,hcz167_1,hcz167_2⟩:=c3 BK199.out;obtain ⟨hfz167_0,hfz167_1,hfz167_2⟩:=f3 BK199.out)|(go_at_call 27;(with_reducible refine (span_Within.calls kj69 a1_0 a1_1 a1_2 a2_0 a2_1 a2_2 false _ A119.out).mono ?_);rintro e w168 ⟨rfl,hb⟩;replace BK197:=bk (by (with_reducible repeat first|apply bN|apply bD|apply bA);exact BK197.out) hb;replace BK198:=bk (by (with_reducible repeat first|apply bN|apply bD|apply bA);exact BK198.out) hb;replace BK199:=bk (by (with_reducible repeat first|apply bN|apply bD|apply bA);exact BK199.out) hb;replace BK211:=bk (by (with_reducible repeat first|apply bN|apply bD|apply bA);exact BK211.out) hb;replace HB:=Aside0.mk (below_step (by repeat (first|(with_reducible first|exact HB.out|apply xA|apply xN|apply xD|refine xS ?_ GE197.out|refine xS ?_ GE198.out|refine xS ?_ GE199.out|refine xS ?_ GE211.out)|exact HB.out)) hb);(try clear hb);(try clear hb2);(try clear hk);(try clear hi);obtain ⟨hcz169_0,hcz169_1,hcz169_2⟩:=c3 BK197.out;obtain ⟨hfz169_0,hfz169_1,hfz169_2⟩:=f3 BK197.out)|(go_at_call 27;(with_reducible refine (span_Within.calls kj69 a0_0 a0_1 a0_2 a0_0 a0_1 a0_2 t222 _ A156.out).mono ?_);rintro e w170 ⟨rfl,hb⟩;replace BK197:=bk (by (with_reducible repeat first|apply bN|apply bD|apply bA);exact BK197.out) hb;replace BK198:=bk (by (with_reducible repeat first|apply bN|apply bD|apply bA);exact BK198.out) hb;replace BK199:=bk (by (with_reducible repeat first|apply bN|apply bD|apply bA);exact BK199.out) hb;replace BK211:=bk (by (with_reducible repeat first|apply bN|apply bD|apply bA);exact BK211.out) hb;replace HB:=Aside0.mk (below_step (by repeat (first|(with_reducible first|exact HB.out|apply xA|apply xN|apply xD|refine xS ?_ GE197.out|refine xS ?_ GE198.out|refine xS ?_ GE199.out|refine xS ?_ GE211.out)|exact HB.out)) hb);(try clear hb);(try clear hb2);(try clear hk);(try clear hi)))
           go_meet
           case rel => exact ⟨_,(!t222),(by first|rfl|(simp;done)|(simp [*];done)|(simp [*,Go.Proofs.Ytgdhgamolenfgaa.Str.bne_nil];done)),H',⟨by have:=HJ5.out;have:=HJ69.out;first|omega|exact Nat.le_refl _⟩,⟨by (with_reducible repeat first|apply bN|apply bD|apply bA);exact BK197.out⟩,⟨by (with_reducible repeat first|apply bN|apply bD|apply bA);exact BK198.out⟩,⟨by (with_reducible repeat first|apply bN|apply bD|apply bA);exact BK199.out⟩,⟨by (with_reducible repeat first|apply bN|apply bD|apply bA);exact BK211.out⟩,⟨by repeat (first|(with_reducible first|exact HB.out|apply xA|apply xN|apply xD|refine xS ?_ GE197.out|refine xS ?_ GE198.out|refine xS ?_ GE199.out|refine xS ?_ GE211.out)|exact HB.out)⟩⟩
         ·replace c118:=Bool.eq_false_iff.mpr c118
          subst c118
          have H1 : ((span_Within.f kj69 a0_0 a0_1 a0_2 a0_0 a0_1 a0_2).bind fun t223 => (tidelinelaw02_SpanMeets.j2 kj69 t210 (!t223) a0_0 a0_1 a0_2 a1_0 a1_1 a1_2 a2_0 a2_1 a2_2 t207 t208 t209)) = some r:=by rw [if_neg (show ¬ (false = true) by decide)] at H;exact H
          clear H
          have H:=H1
          clear H1
          replace H:=Option.bind_eq_some_iff.mp H
          obtain ⟨t223,A1710,H⟩:=H
          replace H : (tidelinelaw02_SpanMeets.j2 kj69 t210 (!t223) a0_0 a0_1 a0_2 a1_0 a1_1 a1_2 a2_0 a2_1 a2_2 t207 t208 t209) = some r:=H
          have A171:=Aside0.mk A1710
          clear A1710
          have H':=Aside0.mk H
          clear H
          have hnb172:=NB197_198.out
          have hnc172:=NB198_197.out
          have hnb173:=NB197_199.out
          have hnc173:=NB199_197.out
          have hnb174:=NB197_211.out
          have hnc174:=NB211_197.out
          obtain ⟨hcz175_0,hcz175_1,hcz175_2⟩:=c3 BK197.out
          obtain ⟨hfz175_0,hfz175_1,hfz175_2⟩:=f3 BK197.out
          have hnb176:=NB198_199.out
          have hnc176:=NB199_198.out
          have hnb177:=NB198_211.out
          have hnc177:=NB211_198.out
          obtain ⟨hcz178_0,hcz178_1,hcz178_2⟩:=c3 BK198.out
          obtain ⟨hfz178_0,hfz178_1,hfz178_2⟩:=f3 BK198.out
          go_wp2_with (first|((with_reducible refine gate_callee (f:=27) rfl ?_);refine goesL_ (some 74) rfl rfl Try.func27 (by kernel_rfl) rfl #[.agg #[.string a0_0,.string a0_1,.bool a0_2],.agg #[.string a1_0,.string a1_1,.bool a1_2]] rfl (by (try simp only [List.map_toArray,List.map_cons,List.map_nil]);first|done|rfl|(simp only [List.length_drop,List.length_take];rfl)) ?_;(with_reducible refine (span_Within.calls kj69 a0_0 a0_1 a0_2 a1_0 a1_1 a1_2 false _ A117.out).mono ?_);rintro e w179 ⟨rfl,hb⟩;refine ⟨_,rfl,?_⟩;replace BK197:=bk (by (with_reducible repeat first|apply bN|apply bD|apply bA);exact BK197.out) hb;replace BK198:=bk (by (with_reducible repeat first|apply bN|apply bD|apply bA);exact BK198.out) hb;replace BK199:=bk (by (with_reducible repeat first|apply bN|apply bD|apply bA);exact BK199.out) hb;replace BK211:=bk (by (with_reducible repeat first|apply bN|apply bD|apply bA);exact BK211.out) hb;replace HB:=Aside0.mk (below_step (by repeat (first|(with_reducible first|exact HB.out|apply xA|apply xN|apply xD|refine xS ?_ GE197.out|refine xS ?_ GE198.out|refine xS ?_ GE199.out|refine xS ?_ GE211.out)|exact HB.out)) hb);(try clear hb);(try clear hb2);(try clear hk);(try clear hi);obtain ⟨hcz180_0,hcz180_1,hcz180_2⟩:=c3 BK197.out;obtain ⟨hfz180_0,hfz180_1,hfz180_2⟩:=f3 BK197.out)|(go_at_call 27;(with_reducible refine (span_Within.calls kj69 a0_0 a0_1 a0_2 a0_0 a0_1 a0_2 t223 _ A171.out).mono ?_);rintro e w181 ⟨rfl,hb⟩;replace BK197:=bk (by (with_reducible repeat first|apply bN|apply bD|apply bA);exact BK197.out) hb;replace BK198:=bk (by (with_reducible repeat first|apply bN|apply bD|apply bA);exact BK198.out) hb;replace BK199:=bk (by (with_reducible repeat first|apply bN|apply bD|apply bA);exact BK199.out) hb;replace BK211:=bk (by (with_reducible repeat first|apply bN|apply bD|apply bA);exact BK211.out) hb;replace HB:=Aside0.mk (below_step (by repeat (first|(with_reducible first|exact HB.out|apply xA|apply xN|apply xD|refine xS ?_ GE197.out|refine xS ?_ GE198.out|refine xS ?_ GE199.out|refine xS ?_ GE211.out)|exact HB.out)) hb);(try clear hb);(try clear hb2);(try clear hk);(try clear hi)))
          go_meet
          case rel => exact ⟨_,(!t223),(by first|rfl|(simp;done)|(simp [*];done)|(simp [*,Go.Proofs.Ytgdhgamolenfgaa.Str.bne_nil];done)),H',⟨by have:=HJ5.out;have:=HJ69.out;first|omega|exact Nat.le_refl _⟩,⟨by (with_reducible repeat first|apply bN|apply bD|apply bA);exact BK197.out⟩,⟨by (with_reducible repeat first|apply bN|apply bD|apply bA);exact BK198.out⟩,⟨by (with_reducible repeat first|apply bN|apply bD|apply bA);exact BK199.out⟩,⟨by (with_reducible repeat first|apply bN|apply bD|apply bA);exact BK211.out⟩,⟨by repeat (first|(with_reducible first|exact HB.out|apply xA|apply xN|apply xD|refine xS ?_ GE197.out|refine xS ?_ GE198.out|refine xS ?_ GE199.out|refine xS ?_ GE211.out)|exact HB.out)⟩⟩
        case rest =>
         clear HC116
         try clear c1
         try clear c2
         try clear p2
         try clear c8
         try clear c10
         try clear c11
         try clear c12
         try clear c13
         try clear c14
         try clear c15
         try clear c16
         try clear c17
         try clear c27
         try clear c87
         try clear c104
         try clear c115
         try clear c118
         try clear c120
         try clear c122
         try clear c124
         try clear c125
         try clear c126
         try clear c128
         try clear c129
         try clear c133
         try clear c141
         try clear c142
         try clear c143
         try clear c145
         try clear c146
         try clear c150
         try clear c157
         try clear c158
         try clear c159
         try clear c161
         try clear c162
         try clear c166
         try clear c172
         try clear c173
         try clear c174
         try clear c176
         try clear c177
         try clear hcz127_0
         try clear hcz127_1
         try clear hcz127_2
         try clear hcz130_0
         try clear hcz130_1
         try clear hcz130_2
         try clear hcz132_0
         try clear hcz132_1
         try clear hcz132_2
         try clear hcz134_0
         try clear hcz134_1
         try clear hcz134_2
         try clear hcz136_0
         try clear hcz136_1
         try clear hcz136_2
         try clear hcz137_0
         try clear hcz137_1
         try clear hcz137_2
         try clear hcz139_0
         try clear hcz139_1
         try clear hcz139_2
         try clear hcz144_0
         try clear hcz144_1
         try clear hcz144_2
         try clear hcz147_0
         try clear hcz147_1
         try clear hcz147_2
         try clear hcz149_0
         try clear hcz149_1
         try clear hcz149_2
         try clear hcz151_0
         try clear hcz151_1
         try clear hcz151_2
         try clear hcz153_0
         try clear hcz153_1
         try clear hcz153_2
         try clear hcz154_0
         try clear hcz154_1
         try clear hcz154_2
         try clear hcz160_0
         try clear hcz160_1
         try clear hcz160_2
         try clear hcz163_0
         try clear hcz163_1
         try clear hcz163_2
         try clear hcz165_0
         try clear hcz165_1
         try clear hcz165_2
         try clear hcz167_0
         try clear hcz167_1
         try clear hcz167_2
         try clear hcz169_0
         try clear hcz169_1
         try clear hcz169_2
         try clear hcz175_0
         try clear hcz175_1
         try clear hcz175_2
         try clear hcz178_0
         try clear hcz178_1
         try clear hcz178_2
         try clear hcz180_0
         try clear hcz180_1
         try clear hcz180_2
         try clear hfz127_0
         try clear hfz127_1
         try clear hfz127_2
         try clear hfz130_0
         try clear hfz130_1
         try clear hfz130_2
         try clear hfz132_0
         try clear hfz132_1
         try clear hfz132_2
         try clear hfz134_0
         try clear hfz134_1
         try clear hfz134_2
         try clear hfz136_0
         try clear hfz136_1
         try clear hfz136_2
         try clear hfz137_0
         try clear hfz137_1
         try clear hfz137_2
         try clear hfz139_0
         try clear hfz139_1
         try clear hfz139_2
         try clear hfz144_0
         try clear hfz144_1
         try clear hfz144_2
         try clear hfz147_0
         try clear hfz147_1
         try clear hfz147_2
         try clear hfz149_0
         try clear hfz149_1
         try clear hfz149_2
         try clear hfz151_0
         try clear hfz151_1
         try clear hfz151_2
         try clear hfz153_0
         try clear hfz153_1
         try clear hfz153_2
         try clear hfz154_0
         try clear hfz154_1
         try clear hfz154_2
         try clear hfz160_0
         try clear hfz160_1
         try clear hfz160_2
         try clear hfz163_0
         try clear hfz163_1
         try clear hfz163_2
         try clear hfz165_0
         try clear hfz165_1
         try clear hfz165_2
         try clear hfz167_0
         try clear hfz167_1
         try clear hfz167_2
         try clear hfz169_0
         try clear hfz169_1
         try clear hfz169_2
         try clear hfz175_0
         try clear hfz175_1
         try clear hfz175_2
         try clear hfz178_0
         try clear hfz178_1
         try clear hfz178_2
         try clear hfz180_0
         try clear hfz180_1
         try clear hfz180_2
         try clear p2
         obtain ⟨kq,x91_115,rfl,HA,HJ115,BK197,BK198,BK199,BK211,HB⟩:=hcut
         cases kq with
        |zero => exact absurd HA.out (by simp [tidelinelaw02_SpanMeets.j2])
        |succ kj115 =>
          have H:=HA.out
          clear HA
          simp only [tidelinelaw02_SpanMeets.j2] at H
          by_cases c182 : x91_115 = true
          ·subst c182
           have H1 : (none) = some r:=by rw [if_pos rfl] at H;exact H
           clear H
           have H:=H1
           clear H1
           exact absurd H (by simp)
          ·replace c182:=Bool.eq_false_iff.mpr c182
           subst c182
           have H1 : ((span_Within.f kj115 a0_0 a0_1 a0_2 a1_0 a1_1 a1_2).bind fun t224 => (if t224 = true then ((span_Within.f kj115 a1_0 a1_1 a1_2 a0_0 a0_1 a0_2).bind fun t225 => (if t225 = true then (if (!(a0_0.toList == a1_0.toList) || (!(a0_1.toList == a1_1.toList) || (!(a0_2 == a1_2)))) = true then ((span_Empty.f kj115 a0_0 a0_1 a0_2).bind fun t226 => (if t226 = true then ((span_Empty.f kj115 a1_0 a1_1 a1_2).bind fun t227 => (tidelinelaw02_SpanMeets.j3 kj115 t210 (!t227) a0_0 a0_1 a0_2 a1_0 a1_1 a1_2 a2_0 a2_1 a2_2 t207 t208 t209)) else (tidelinelaw02_SpanMeets.j3 kj115 t210 (!false) a0_0 a0_1 a0_2 a1_0 a1_1 a1_2 a2_0 a2_1 a2_2 t207 t208 t209))) else (tidelinelaw02_SpanMeets.j3 kj115 t210 false a0_0 a0_1 a0_2 a1_0 a1_1 a1_2 a2_0 a2_1 a2_2 t207 t208 t209)) else (tidelinelaw02_SpanMeets.j3 kj115 t210 false a0_0 a0_1 a0_2 a1_0 a1_1 a1_2 a2_0 a2_1 a2_2 t207 t208 t209))) else (tidelinelaw02_SpanMeets.j3 kj115 t210 false a0_0 a0_1 a0_2 a1_0 a1_1 a1_2 a2_0 a2_1 a2_2 t207 t208 t209))) = some r:=by rw [if_neg (show ¬ (false = true) by decide)] at H;exact H
           clear H
           have H:=H1
           clear H1
           have HC183:=Aside0.mk H
           clear H
           go_upto_region 10 with (fail)
           go_cut [113] (fun v113 wc => ∃ (kq : Nat) (x113_182 : Bool),v113 = .bool x113_182 ∧ Aside0 (tidelinelaw02_SpanMeets.j3 kq t210 x113_182 a0_0 a0_1 a0_2 a1_0 a1_1 a1_2 a2_0 a2_1 a2_2 t207 t208 t209 = some r) ∧ Aside0 (kq ≤ kj115) ∧ Aside0 (wc.heap[gb197]? = some (.cells #[.string a0_0,.string a0_1,.bool a0_2] 23 (0,0))) ∧ Aside0 (wc.heap[gb198]? = some (.cells #[.string a1_0,.string a1_1,.bool a1_2] 23 (0,0))) ∧ Aside0 (wc.heap[gb199]? = some (.cells #[.string a2_0,.string a2_1,.bool a2_2] 23 (0,0))) ∧ Aside0 (wc.heap[gb211]? = some (.cells #[.string t207,.string t208,.bool t209] 23 (0,0))) ∧ Aside0 (Below w.heap.size w wc))
           case first =>
            have H:=HC183.out
            clear HC183
            replace H:=Option.bind_eq_some_iff.mp H
            obtain ⟨t224,A1840,H⟩:=H
            replace H : (if t224 = true then ((span_Within.f kj115 a1_0 a1_1 a1_2 a0_0 a0_1 a0_2).bind fun t225 => (if t225 = true then (if (!(a0_0.toList == a1_0.toList) || (!(a0_1.toList == a1_1.toList) || (!(a0_2 == a1_2)))) = true then ((span_Empty.f kj115 a0_0 a0_1 a0_2).bind fun t226 => (if t226 = true then ((span_Empty.f kj115 a1_0 a1_1 a1_2).bind fun t227 => (tidelinelaw02_SpanMeets.j3 kj115 t210 (!t227) a0_0 a0_1 a0_2 a1_0 a1_1 a1_2 a2_0 a2_1 a2_2 t207 t208 t209)) else (tidelinelaw02_SpanMeets.j3 kj115 t210 (!false) a0_0 a0_1 a0_2 a1_0 a1_1 a1_2 a2_0 a2_1 a2_2 t207 t208 t209))) else (tidelinelaw02_SpanMeets.j3 kj115 t210 false a0_0 a0_1 a0_2 a1_0 a1_1 a1_2 a2_0 a2_1 a2_2 t207 t208 t209)) else (tidelinelaw02_SpanMeets.j3 kj115 t210 false a0_0 a0_1 a0_2 a1_0 a1_1 a1_2 a2_0 a2_1 a2_2 t207 t208 t209))) else (tidelinelaw02_SpanMeets.j3 kj115 t210 false a0_0 a0_1 a0_2 a1_0 a1_1 a1_2 a2_0 a2_1 a2_2 t207 t208 t209)) = some r:=H
            have A184:=Aside0.mk A1840
            clear A1840
            by_cases c185 : t224 = true
            ·subst c185
             have H1 : ((span_Within.f kj115 a1_0 a1_1 a1_2 a0_0 a0_1 a0_2).bind fun t225 => (if t225 = true then (if (!(a0_0.toList == a1_0.toList) || (!(a0_1.toList == a1_1.toList) || (!(a0_2 == a1_2)))) = true then ((span_Empty.f kj115 a0_0 a0_1 a0_2).bind fun t226 => (if t226 = true then ((span_Empty.f kj115 a1_0 a1_1 a1_2).bind fun t227 => (tidelinelaw02_SpanMeets.j3 kj115 t210 (!t227) a0_0 a0_1 a0_2 a1_0 a1_1 a1_2 a2_0 a2_1 a2_2 t207 t208 t209)) else (tidelinelaw02_SpanMeets.j3 kj115 t210 (!false) a0_0 a0_1 a0_2 a1_0 a1_1 a1_2 a2_0 a2_1 a2_2 t207 t208 t209))) else (tidelinelaw02_SpanMeets.j3 kj115 t210 false a0_0 a0_1 a0_2 a1_0 a1_1 a1_2 a2_0 a2_1 a2_2 t207 t208 t209)) else (tidelinelaw02_SpanMeets.j3 kj115 t210 false a0_0 a0_1 a0_2 a1_0 a1_1 a1_2 a2_0 a2_1 a2_2 t207 t208 t209))) = some r:=by rw [if_pos rfl] at H;exact H
             clear H
             have H:=H1
             clear H1
             replace H:=Option.bind_eq_some_iff.mp H
             obtain ⟨t225,A1860,H⟩:=H
             replace H : (if t225 = true then (if (!(a0_0.toList == a1_0.toList) || (!(a0_1.toList == a1_1.toList) || (!(a0_2 == a1_2)))) = true then ((span_Empty.f kj115 a0_0 a0_1 a0_2).bind fun t226 => (if t226 = true then ((span_Empty.f kj115 a1_0 a1_1 a1_2).bind fun t227 => (tidelinelaw02_SpanMeets.j3 kj115 t210 (!t227) a0_0 a0_1 a0_2 a1_0 a1_1 a1_2 a2_0 a2_1 a2_2 t207 t208 t209)) else (tidelinelaw02_SpanMeets.j3 kj115 t210 (!false) a0_0 a0_1 a0_2 a1_0 a1_1 a1_2 a2_0 a2_1 a2_2 t207 t208 t209))) else (tidelinelaw02_SpanMeets.j3 kj115 t210 false a0_0 a0_1 a0_2 a1_0 a1_1 a1_2 a2_0 a2_1 a2_2 t207 t208 t209)) else (tidelinelaw02_SpanMeets.j3 kj115 t210 false a0_0 a0_1 a0_2 a1_0 a1_1 a1_2 a2_0 a2_1 a2_2 t207 t208 t209)) = some r:=H
             have A186:=Aside0.mk A1860
             clear A1860
             by_cases c187 : t225 = true
             ·subst c187
              have H1 : (if (!(a0_0.toList == a1_0.toList) || (!(a0_1.toList == a1_1.toList) || (!(a0_2 == a1_2)))) = true then ((span_Empty.f kj115 a0_0 a0_1 a0_2).bind fun t226 => (if t226 = true then ((span_Empty.f kj115 a1_0 a1_1 a1_2).bind fun t227 => (tidelinelaw02_SpanMeets.j3 kj115 t210 (!t227) a0_0 a0_1 a0_2 a1_0 a1_1 a1_2 a2_0 a2_1 a2_2 t207 t208 t209)) else (tidelinelaw02_SpanMeets.j3 kj115 t210 (!false) a0_0 a0_1 a0_2 a1_0 a1_1 a1_2 a2_0 a2_1 a2_2 t207 t208 t209))) else (tidelinelaw02_SpanMeets.j3 kj115 t210 false a0_0 a0_1 a0_2 a1_0 a1_1 a1_2 a2_0 a2_1 a2_2 t207 t208 t209)) = some r:=by rw [if_pos rfl] at H;exact H
              clear H
              have H:=H1
              clear H1
              by_cases c188 : (!(a0_0.toList == a1_0.toList) || (!(a0_1.toList == a1_1.toList) || (!(a0_2 == a1_2)))) = true
              ·rw [if_pos c188] at H
               have c188b0 : (!(a0_0.toList == a1_0.toList) || (!(a0_1.toList == a1_1.toList) || (!(a0_2 == a1_2)))) = true:=c188
               clear c188
               (first|rw [c188b0]|(simp only [i64_w,i32_w];rw [c188b0])|skip)
               replace H:=Option.bind_eq_some_iff.mp H
               obtain ⟨t226,A1890,H⟩:=H
               replace H : (if t226 = true then ((span_Empty.f kj115 a1_0 a1_1 a1_2).bind fun t227 => (tidelinelaw02_SpanMeets.j3 kj115 t210 (!t227) a0_0 a0_1 a0_2 a1_0 a1_1 a1_2 a2_0 a2_1 a2_2 t207 t208 t209)) else (tidelinelaw02_SpanMeets.j3 kj115 t210 (!false) a0_0 a0_1 a0_2 a1_0 a1_1 a1_2 a2_0 a2_1 a2_2 t207 t208 t209)) = some r:=H
               have A189:=Aside0.mk A1890
               clear A1890
               by_cases c190 : t226 = true
               ·subst c190
                have H1 : ((span_Empty.f kj115 a1_0 a1_1 a1_2).bind fun t227 => (tidelinelaw02_SpanMeets.j3 kj115 t210 (!t227) a0_0 a0_1 a0_2 a1_0 a1_1 a1_2 a2_0 a2_1 a2_2 t207 t208 t209)) = some r:=by rw [if_pos rfl] at H;exact H
                clear H
                have H:=H1
                clear H1
                replace H:=Option.bind_eq_some_iff.mp H
                obtain ⟨t227,A1910,H⟩:=H
                replace H : (tidelinelaw02_SpanMeets.j3 kj115 t210 (!t227) a0_0 a0_1 a0_2 a1_0 a1_1 a1_2 a2_0 a2_1 a2_2 t207 t208 t209) = some r:=H
                have A191:=Aside0.mk A1910
                clear A1910
                have H':=Aside0.mk H
                clear H
                have hnb192:=NB197_198.out
                have hnc192:=NB198_197.out
                have hnb193:=NB197_199.out
                have hnc193:=NB199_197.out
                have hnb194:=NB197_211.out
                have hnc194:=NB211_197.out
                obtain ⟨hcz195_0,hcz195_1,hcz195_2⟩:=c3 BK197.out
                obtain ⟨hfz195_0,hfz195_1,hfz195_2⟩:=f3 BK197.out
                have hnb196:=NB198_199.out
                have hnc196:=NB199_198.out
                have hnb197:=NB198_211.out
                have hnc197:=NB211_198.out
                obtain ⟨hcz198_0,hcz198_1,hcz198_2⟩:=c3 BK198.out
                obtain ⟨hfz198_0,hfz198_1,hfz198_2⟩:=f3 BK198.out
                go_wp2_with (first|((with_reducible refine gate_callee (f:=27) rfl ?_);refine goesL_ (some 94) rfl rfl Try.func27 (by kernel_rfl) rfl #[.agg #[.string a0_0,.string a0_1,.bool a0_2],.agg #[.string a1_0,.string a1_1,.bool a1_2]] rfl (by (try simp only [List.map_toArray,List.map_cons,List.map_nil]);first|done|rfl|(simp only [List.length_drop,List.length_take];rfl)) ?_;(with_reducible refine (span_Within.calls kj115 a0_0 a0_1 a0_2 a1_0 a1_1 a1_2 true _ A184.out).mono ?_);rintro e w199 ⟨rfl,hb⟩;refine ⟨_,rfl,?_⟩;replace BK197:=bk (by (with_reducible repeat first|apply bN|apply bD|apply bA);exact BK197.out) hb;replace BK198:=bk (by (with_reducible repeat first|apply bN|apply bD|apply bA);exact BK198.out) hb;replace BK199:=bk (by (with_reducible repeat first|apply bN|apply bD|apply bA);exact BK199.out) hb;replace BK211:=bk (by (with_reducible repeat first|apply bN|apply bD|apply bA);exact BK211.out) hb;replace HB:=Aside0.mk (below_step (by repeat (first|(with_reducible first|exact HB.out|apply xA|apply xN|apply xD|refine xS ?_ GE197.out|refine xS ?_ GE198.out|refine xS ?_ GE199.out|refine xS ?_ GE211.out)|exact HB.out)) hb);(try clear hb);(try clear hb2);(try clear hk);(try clear hi);obtain ⟨hcz200_0,hcz200_1,hcz200_2⟩:=c3 BK198.out;obtain ⟨hfz200_0,hfz200_1,hfz200_2⟩:=f3 BK198.out;obtain ⟨hcz201_0,hcz201_1,hcz201_2⟩:=c3 BK197.out;obtain ⟨hfz201_0,hfz201_1,hfz201_2⟩:=f3 BK197.out)|(go_at_call 27;(with_reducible refine (span_Within.calls kj115 a1_0 a1_1 a1_2 a0_0 a0_1 a0_2 true _ A186.out).mono ?_);rintro e w202 ⟨rfl,hb⟩;replace BK197:=bk (by (with_reducible repeat first|apply bN|apply bD|apply bA);exact BK197.out) hb;replace BK198:=bk (by (with_reducible repeat first|apply bN|apply bD|apply bA);exact BK198.out) hb;replace BK199:=bk (by (with_reducible repeat first|apply bN|apply bD|apply bA);exact BK199.out) hb;replace BK211:=bk (by (with_reducible repeat first|apply bN|apply bD|apply bA);exact BK211.out) hb;replace HB:=Aside0.mk (below_step (by repeat (first|(with_reducible first|exact HB.out|apply xA|apply xN|apply xD|refine xS ?_ GE197.out|refine xS ?_ GE198.out|refine xS ?_ GE199.out|refine xS ?_ GE211.out)|exact HB.out)) hb);(try clear hb);(try clear hb2);(try clear hk);(try clear hi);obtain ⟨hcz203_0,hcz203_1,hcz203_2⟩:=c3 BK197.out;obtain ⟨hfz203_0,hfz203_1,hfz203_2⟩:=f3 BK197.out;obtain ⟨hcz204_0,hcz204_1,hcz204_2⟩:=c3 BK198.out;obtain ⟨hfz204_0,hfz204_1,hfz204_2⟩:=f3 BK198.out)|(go_at_call 14;(with_reducible refine (span_Empty.calls kj115 a0_0 a0_1 a0_2 true _ A189.out).mono ?_);rintro e w205 ⟨rfl,hb⟩;replace BK197:=bk (by (with_reducible repeat first|apply bN|apply bD|apply bA);exact BK197.out) hb;replace BK198:=bk (by (with_reducible repeat first|apply bN|apply bD|apply bA);exact BK198.out) hb;replace BK199:=bk (by (with_reducible repeat first|apply bN|apply bD|apply bA);exact BK199.out) hb;replace BK211:=bk (by (with_reducible repeat first|apply bN|apply bD|apply bA);exact BK211.out) hb;replace HB:=Aside0.mk (below_step (by repeat (first|(with_reducible first|exact HB.out|apply xA|apply xN|apply xD|refine xS ?_ GE197.out|refine xS ?_ GE198.out|refine xS ?_ GE199.out|refine xS ?_ GE211.out)|exact HB.out)) hb);(try clear hb);(try clear hb2);(try clear hk);(try clear hi);obtain ⟨hcz206_0,hcz206_1,hcz206_2⟩:=c3 BK198.out;obtain ⟨hfz206_0,hfz206_1,hfz206_2⟩:=f3 BK198.out)|(go_at_call 14;(with_reducible refine (span_Empty.calls kj115 a1_0 a1_1 a1_2 t227 _ A191.out).mono ?_);rintro e w207 ⟨rfl,hb⟩;replace BK197:=bk (by (with_reducible repeat first|apply bN|apply bD|apply bA);exact BK197.out) hb;replace BK198:=bk (by (with_reducible repeat first|apply bN|apply bD|apply bA);exact BK198.out) hb;replace BK199:=bk (by (with_reducible repeat first|apply bN|apply bD|apply bA);exact BK199.out) hb;replace BK211:=bk (by (with_reducible repeat first|apply bN|apply bD|apply bA);exact BK211.out) hb;replace HB:=Aside0.mk (below_step (by repeat (first|(with_reducible first|exact HB.out|apply xA|apply xN|apply xD|refine xS ?_ GE197.out|refine xS ?_ GE198.out|refine xS ?_ GE199.out|refine xS ?_ GE211.out)|exact HB.out)) hb);(try clear hb);(try clear hb2);(try clear hk);(try clear hi)))
                go_meet
                case rel => exact ⟨_,(!t227),(by first|rfl|(simp;done)|(simp [*];done)|(simp [*,Go.Proofs.Ytgdhgamolenfgaa.Str.bne_nil];done)),H',⟨by have:=HJ5.out;have:=HJ69.out;have:=HJ115.out;first|omega|exact Nat.le_refl _⟩,⟨by (with_reducible repeat first|apply bN|apply bD|apply bA);exact BK197.out⟩,⟨by (with_reducible repeat first|apply bN|apply bD|apply bA);exact BK198.out⟩,⟨by (with_reducible repeat first|apply bN|apply bD|apply bA);exact BK199.out⟩,⟨by (with_reducible repeat first|apply bN|apply bD|apply bA);exact BK211.out⟩,⟨by repeat (first|(with_reducible first|exact HB.out|apply xA|apply xN|apply xD|refine xS ?_ GE197.out|refine xS ?_ GE198.out|refine xS ?_ GE199.out|refine xS ?_ GE211.out)|exact HB.out)⟩⟩
               ·replace c190:=Bool.eq_false_iff.mpr c190
                subst c190
                have H1 : (tidelinelaw02_SpanMeets.j3 kj115 t210 (!false) a0_0 a0_1 a0_2 a1_0 a1_1 a1_2 a2_0 a2_1 a2_2 t207 t208 t209) = some r:=by rw [if_neg (show ¬ (false = true) by decide)] at H;exact H
                clear H
                have H:=H1
                clear H1
                have H':=Aside0.mk H
                clear H
                have hnb208:=NB197_198.out
                have hnc208:=NB198_197.out
                have hnb209:=NB197_199.out
                have hnc209:=NB199_197.out
                have hnb210:=NB197_211.out
                have hnc210:=NB211_197.out
                obtain ⟨hcz211_0,hcz211_1,hcz211_2⟩:=c3 BK197.out
                obtain ⟨hfz211_0,hfz211_1,hfz211_2⟩:=f3 BK197.out
                have hnb212:=NB198_199.out
                have hnc212:=NB199_198.out
                have hnb213:=NB198_211.out
                have hnc213:=NB211_198.out
                obtain ⟨hcz214_0,hcz214_1,hcz214_2⟩:=c3 BK198.out
                obtain ⟨hfz214_0,hfz214_1,hfz214_2⟩:=f3 BK198.out
                go_wp2_with (first|((with_reducible refine gate_callee (f:=27) rfl ?_);refine goesL_ (some 94) rfl rfl Try.func27 (by kernel_rfl) rfl #[.agg #[.string a0_0,.string a0_1,.bool a0_2],.agg #[.string a1_0,.string a1_1,.bool a1_2]] rfl (by (try simp only [List.map_toArray,List.map_cons,List.map_nil]);first|done|rfl|(simp only [List.length_drop,List.length_take];rfl)) ?_;(with_reducible refine (span_Within.calls kj115 a0_0 a0_1 a0_2 a1_0 a1_1 a1_2 true _ A184.out).mono ?_);rintro e w215 ⟨rfl,hb⟩;refine ⟨_,rfl,?_⟩;replace BK197:=bk (by (with_reducible repeat first|apply bN|apply bD|apply bA);exact BK197.out) hb;replace BK198:=bk (by (with_reducible repeat first|apply bN|apply bD|apply bA);exact BK198.out) hb;replace BK199:=bk (by (with_reducible repeat first|apply bN|apply bD|apply bA);exact BK199.out) hb;replace BK211:=bk (by (with_reducible repeat first|apply bN|apply bD|apply bA);exact BK211.out) hb;replace HB:=Aside0.mk (below_step (by repeat (first|(with_reducible first|exact HB.out|apply xA|apply xN|apply xD|refine xS ?_ GE197.out|refine xS ?_ GE198.out|refine xS ?_ GE199.out|refine xS ?_ GE211.out)|exact HB.out)) hb);(try clear hb);(try clear hb2);(try clear hk);(try clear hi);obtain ⟨hcz216_0,hcz216_1,hcz216_2⟩:=c3 BK198.out;obtain ⟨hfz216_0,hfz216_1,hfz216_2⟩:=f3 BK198.out;obtain ⟨hcz217_0,hcz217_1,hcz217_2⟩:=c3 BK197.out;obtain ⟨hfz217_0,hfz217_1,hfz217_2⟩:=f3 BK197.out)|(go_at_call 27;(with_reducible refine (span_Within.calls kj115 a1_0 a1_1 a1_2 a0_0 a0_1 a0_2 true _ A186.out).mono ?_);rintro e w218 ⟨rfl,hb⟩;replace BK197:=bk (by (with_reducible repeat first|apply bN|apply bD|apply bA);exact BK197.out) hb;replace BK198:=bk (by (with_reducible repeat first|apply bN|apply bD|apply bA);exact BK198.out) hb;replace BK199:=bk (by (with_reducible repeat first|apply bN|apply bD|apply bA);exact BK199.out) hb;replace BK211:=bk (by (with_reducible repeat first|apply bN|apply bD|apply bA);exact BK211.out) hb;replace HB:=Aside0.mk (below_step (by repeat (first|(with_reducible first|exact HB.out|apply xA|apply xN|apply xD|refine xS ?_ GE197.out|refine xS ?_ GE198.out|refine xS ?_ GE199.out|refine xS ?_ GE211.out)|exact HB.out)) hb);(try clear hb);(try clear hb2);(try clear hk);(try clear hi);obtain ⟨hcz219_0,hcz219_1,hcz219_2⟩:=c3 BK197.out;obtain ⟨hfz219_0,hfz219_1,hfz219_2⟩:=f3 BK197.out;obtain ⟨hcz220_0,hcz220_1,hcz220_2⟩:=c3 BK198.out;obtain ⟨hfz220_0,hfz220_1,hfz220_2⟩:=f3 BK198.out)|(go_at_call 14;(with_reducible refine (span_Empty.calls kj115 a0_0 a0_1 a0_2 false _ A189.out).mono ?_);rintro e w221 ⟨rfl,hb⟩;replace BK197:=bk (by (with_reducible repeat first|apply bN|apply bD|apply bA);exact BK197.out) hb;replace BK198:=bk (by (with_reducible repeat first|apply bN|apply bD|apply bA);exact BK198.out) hb;replace BK199:=bk (by (with_reducible repeat first|apply bN|apply bD|apply bA);exact BK199.out) hb;replace BK211:=bk (by (with_reducible repeat first|apply bN|apply bD|apply bA);exact BK211.out) hb;replace HB:=Aside0.mk (below_step (by repeat (first|(with_reducible first|exact HB.out|apply xA|apply xN|apply xD|refine xS ?_ GE197.out|refine xS ?_ GE198.out|refine xS ?_ GE199.out|refine xS ?_ GE211.out)|exact HB.out)) hb);(try clear hb);(try clear hb2);(try clear hk);(try clear hi)))
                go_meet
                case rel => exact ⟨_,(!false),(by first|rfl|(simp;done)|(simp [*];done)|(simp [*,Go.Proofs.Ytgdhgamolenfgaa.Str.bne_nil];done)),H',⟨by have:=HJ5.out;have:=HJ69.out;have:=HJ115.out;first|omega|exact Nat.le_refl _⟩,⟨by (with_reducible repeat first|apply bN|apply bD|apply bA);exact BK197.out⟩,⟨by (with_reducible repeat first|apply bN|apply bD|apply bA);exact BK198.out⟩,⟨by (with_reducible repeat first|apply bN|apply bD|apply bA);exact BK199.out⟩,⟨by (with_reducible repeat first|apply bN|apply bD|apply bA);exact BK211.out⟩,⟨by repeat (first|(with_reducible first|exact HB.out|apply xA|apply xN|apply xD|refine xS ?_ GE197.out|refine xS ?_ GE198.out|refine xS ?_ GE199.out|refine xS ?_ GE211.out)|exact HB.out)⟩⟩
              ·rw [if_neg c188] at H
               have c188b0 : (!(a0_0.toList == a1_0.toList) || (!(a0_1.toList == a1_1.toList) || (!(a0_2 == a1_2)))) = false:=by simpa using c188
               clear c188
               (first|rw [c188b0]|(simp only [i64_w,i32_w];rw [c188b0])|skip)
               have H':=Aside0.mk H
               clear H
               have hnb222:=NB197_198.out
               have hnc222:=NB198_197.out
               have hnb223:=NB197_199.out
               have hnc223:=NB199_197.out
               have hnb224:=NB197_211.out
               have hnc224:=NB211_197.out
               obtain ⟨hcz225_0,hcz225_1,hcz225_2⟩:=c3 BK197.out
               obtain ⟨hfz225_0,hfz225_1,hfz225_2⟩:=f3 BK197.out
               have hnb226:=NB198_199.out
               have hnc226:=NB199_198.out
               have hnb227:=NB198_211.out
               have hnc227:=NB211_198.out
               obtain ⟨hcz228_0,hcz228_1,hcz228_2⟩:=c3 BK198.out
               obtain ⟨hfz228_0,hfz228_1,hfz228_2⟩:=f3 BK198.out
               go_wp2_with (first|((with_reducible refine gate_callee (f:=27) rfl ?_);refine goesL_ (some 94) rfl rfl Try.func27 (by kernel_rfl) rfl #[.agg #[.string a0_0,.string a0_1,.bool a0_2],.agg #[.string a1_0,.string a1_1,.bool a1_2]] rfl (by (try simp only [List.map_toArray,List.map_cons,List.map_nil]);first|done|rfl|(simp only [List.length_drop,List.length_take];rfl)) ?_;(with_reducible refine (span_Within.calls kj115 a0_0 a0_1 a0_2 a1_0 a1_1 a1_2 true _ A184.out).mono ?_);rintro e w229 ⟨rfl,hb⟩;refine ⟨_,rfl,?_⟩;replace BK197:=bk (by (with_reducible repeat first|apply bN|apply bD|apply bA);exact BK197.out) hb;replace BK198:=bk (by (with_reducible repeat first|apply bN|apply bD|apply bA);exact BK198.out) hb;replace BK199:=bk (by (with_reducible repeat first|apply bN|apply bD|apply bA);exact BK199.out) hb;replace BK211:=bk (by (with_reducible repeat first|apply bN|apply bD|apply bA);exact BK211.out) hb;replace HB:=Aside0.mk (below_step (by repeat (first|(with_reducible first|exact HB.out|apply xA|apply xN|apply xD|refine xS ?_ GE197.out|refine xS ?_ GE198.out|refine xS ?_ GE199.out|refine xS ?_ GE211.out)|exact HB.out)) hb);(try clear hb);(try clear hb2);(try clear hk);(try clear hi);obtain ⟨hcz230_0,hcz230_1,hcz230_2⟩:=c3 BK198.out;obtain ⟨hfz230_0,hfz230_1,hfz230_2⟩:=f3 BK198.out;obtain ⟨hcz231_0,hcz231_1,hcz231_2⟩:=c3 BK197.out;obtain ⟨hfz231_0,hfz231_1,hfz231_2⟩:=f3 BK197.out)|(go_at_call 27;(with_reducible refine (span_Within.calls kj115 a1_0 a1_1 a1_2 a0_0 a0_1 a0_2 true _ A186.out).mono ?_);rintro e w232 ⟨rfl,hb⟩;replace BK197:=bk (by (with_reducible repeat first|apply bN|apply bD|apply bA);exact BK197.out) hb;replace BK198:=bk (by (with_reducible repeat first|apply bN|apply bD|apply bA);exact BK198.out) hb;replace BK199:=bk (by (with_reducible repeat first|apply bN|apply bD|apply bA);exact BK199.out) hb;replace BK211:=bk (by (with_reducible repeat first|apply bN|apply bD|apply bA);exact BK211.out) hb;replace HB:=Aside0.mk (below_step (by repeat (first|(with_reducible first|exact HB.out|apply xA|apply xN|apply xD|refine xS ?_ GE197.out|refine xS ?_ GE198.out|refine xS ?_ GE199.out|refine xS ?_ GE211.out)|exact HB.out)) hb);(try clear hb);(try clear hb2);(try clear hk);(try clear hi);obtain ⟨hcz233_0,hcz233_1,hcz233_2⟩:=c3 BK197.out;obtain ⟨hfz233_0,hfz233_1,hfz233_2⟩:=f3 BK197.out;obtain ⟨hcz234_0,hcz234_1,hcz234_2⟩:=c3 BK198.out;obtain ⟨hfz234_0,hfz234_1,hfz234_2⟩:=f3 BK198.out))
               go_meet
               case rel => exact ⟨_,(false),(by first|rfl|(simp;done)|(simp [*];done)|(simp [*,Go.Proofs.Ytgdhgamolenfgaa.Str.bne_nil];done)),H',⟨by have:=HJ5.out;have:=HJ69.out;have:=HJ115.out;first|omega|exact Nat.le_refl _⟩,⟨by (with_reducible repeat first|apply bN|apply bD|apply bA);exact BK197.out⟩,⟨by (with_reducible repeat first|apply bN|apply bD|apply bA);exact BK198.out⟩,⟨by (with_reducible repeat first|apply bN|apply bD|apply bA);exact BK199.out⟩,⟨by (with_reducible repeat first|apply bN|apply bD|apply bA);exact BK211.out⟩,⟨by repeat (first|(with_reducible first|exact HB.out|apply xA|apply xN|apply xD|refine xS ?_ GE197.out|refine xS ?_ GE198.out|refine xS ?_ GE199.out|refine xS ?_ GE211.out)|exact HB.out)⟩⟩
             ·replace c187:=Bool.eq_false_iff.mpr c187
              subst c187
              have H1 : (tidelinelaw02_SpanMeets.j3 kj115 t210 false a0_0 a0_1 a0_2 a1_0 a1_1 a1_2 a2_0 a2_1 a2_2 t207 t208 t209) = some r:=by rw [if_neg (show ¬ (false = true) by decide)] at H;exact H
              clear H
              have H:=H1
              clear H1
              have H':=Aside0.mk H
              clear H
              have hnb235:=NB197_198.out
              have hnc235:=NB198_197.out
              have hnb236:=NB197_199.out
              have hnc236:=NB199_197.out
              have hnb237:=NB197_211.out
              have hnc237:=NB211_197.out
              obtain ⟨hcz238_0,hcz238_1,hcz238_2⟩:=c3 BK197.out
              obtain ⟨hfz238_0,hfz238_1,hfz238_2⟩:=f3 BK197.out
              have hnb239:=NB198_199.out
              have hnc239:=NB199_198.out
              have hnb240:=NB198_211.out
              have hnc240:=NB211_198.out
              obtain ⟨hcz241_0,hcz241_1,hcz241_2⟩:=c3 BK198.out
              obtain ⟨hfz241_0,hfz241_1,hfz241_2⟩:=f3 BK198.out
              go_wp2_with (first|((with_reducible refine gate_callee (f:=27) rfl ?_);refine goesL_ (some 94) rfl rfl Try.func27 (by kernel_rfl) rfl #[.agg #[.string a0_0,.string a0_1,.bool a0_2],.agg #[.string a1_0,.string a1_1,.bool a1_2]] rfl (by (try simp only [List.map_toArray,List.map_cons,List.map_nil]);first|done|rfl|(simp only [List.length_drop,List.length_take];rfl)) ?_;(with_reducible refine (span_Within.calls kj115 a0_0 a0_1 a0_2 a1_0 a1_1 a1_2 true _ A184.out).mono ?_);rintro e w242 ⟨rfl,hb⟩;refine ⟨_,rfl,?_⟩;replace BK197:=bk (by (with_reducible repeat first|apply bN|apply bD|apply bA);exact BK197.out) hb;replace BK198:=bk (by (with_reducible repeat first|apply bN|apply bD|apply bA);exact BK198.out) hb;replace BK199:=bk (by (with_reducible repeat first|apply bN|apply bD|apply bA);exact BK199.out) hb;replace BK211:=bk (by (with_reducible repeat first|apply bN|apply bD|apply bA);exact BK211.out) hb;replace HB:=Aside0.mk (below_step (by repeat (first|(with_reducible first|exact HB.out|apply xA|apply xN|apply xD|refine xS ?_ GE197.out|refine xS ?_ GE198.out|refine xS ?_ GE199.out|refine xS ?_ GE211.out)|exact HB.out)) hb);(try clear hb);(try clear hb2);(try clear hk);(try clear hi);obtain ⟨hcz243_0,hcz243_1,hcz243_2⟩:=c3 BK198.out;obtain ⟨hfz243_0,hfz243_1,hfz243_2⟩:=f3 BK198.out;obtain ⟨hcz244_0,hcz244_1,hcz244_2⟩:=c3 BK197.out;obtain ⟨hfz244_0,hfz244_1,hfz244_2⟩:=f3 BK197.out)|(go_at_call 27;(with_reducible refine (span_Within.calls kj115 a1_0 a1_1 a1_2 a0_0 a0_1 a0_2 false _ A186.out).mono ?_);rintro e w245 ⟨rfl,hb⟩;replace BK197:=bk (by (with_reducible repeat first|apply bN|apply bD|apply bA);exact BK197.out) hb;replace BK198:=bk (by (with_reducible repeat first|apply bN|apply bD|apply bA);exact BK198.out) hb;replace BK199:=bk (by (with_reducible repeat first|apply bN|apply bD|apply bA);exact BK199.out) hb;replace BK211:=bk (by (with_reducible repeat first|apply bN|apply bD|apply bA);exact BK211.out) hb;replace HB:=Aside0.mk (below_step (by repeat (first|(with_reducible first|exact HB.out|apply xA|apply xN|apply xD|refine xS ?_ GE197.out|refine xS ?_ GE198.out|refine xS ?_ GE199.out|refine xS ?_ GE211.out)|exact HB.out)) hb);(try clear hb);(try clear hb2);(try clear hk);(try clear hi)))
              go_meet
              case rel => exact ⟨_,(false),(by first|rfl|(simp;done)|(simp [*];done)|(simp [*,Go.Proofs.Ytgdhgamolenfgaa.Str.bne_nil];done)),H',⟨by have:=HJ5.out;have:=HJ69.out;have:=HJ115.out;first|omega|exact Nat.le_refl _⟩,⟨by (with_reducible repeat first|apply bN|apply bD|apply bA);exact BK197.out⟩,⟨by (with_reducible repeat first|apply bN|apply bD|apply bA);exact BK198.out⟩,⟨by (with_reducible repeat first|apply bN|apply bD|apply bA);exact BK199.out⟩,⟨by (with_reducible repeat first|apply bN|apply bD|apply bA);exact BK211.out⟩,⟨by repeat (first|(with_reducible first|exact HB.out|apply xA|apply xN|apply xD|refine xS ?_ GE197.out|refine xS ?_ GE198.out|refine xS ?_ GE199.out|refine xS ?_ GE211.out)|exact HB.out)⟩⟩
            ·replace c185:=Bool.eq_false_iff.mpr c185
             subst c185
             have H1 : (tidelinelaw02_SpanMeets.j3 kj115 t210 false a0_0 a0_1 a0_2 a1_0 a1_1 a1_2 a2_0 a2_1 a2_2 t207 t208 t209) = some r:=by rw [if_neg (show ¬ (false = true) by decide)] at H;exact H
             clear H
             have H:=H1
             clear H1
             have H':=Aside0.mk H
             clear H
             have hnb246:=NB197_198.out
             have hnc246:=NB198_197.out
             have hnb247:=NB197_199.out
             have hnc247:=NB199_197.out
             have hnb248:=NB197_211.out
             have hnc248:=NB211_197.out
             obtain ⟨hcz249_0,hcz249_1,hcz249_2⟩:=c3 BK197.out
             obtain ⟨hfz249_0,hfz249_1,hfz249_2⟩:=f3 BK197.out
             have hnb250:=NB198_199.out
             have hnc250:=NB199_198.out
             have hnb251:=NB198_211.out
             have hnc251:=NB211_198.out
             obtain ⟨hcz252_0,hcz252_1,hcz252_2⟩:=c3 BK198.out
             obtain ⟨hfz252_0,hfz252_1,hfz252_2⟩:=f3 BK198.out
             go_wp2_with (first|((with_reducible refine gate_callee (f:=27) rfl ?_);refine goesL_ (some 94) rfl rfl Try.func27 (by kernel_rfl) rfl #[.agg #[.string a0_0,.string a0_1,.bool a0_2],.agg #[.string a1_0,.string a1_1,.bool a1_2]] rfl (by (try simp only [List.map_toArray,List.map_cons,List.map_nil]);first|done|rfl|(simp only [List.length_drop,List.length_take];rfl)) ?_;(with_reducible refine (span_Within.calls kj115 a0_0 a0_1 a0_2 a1_0 a1_1 a1_2 false _ A184.out).mono ?_);rintro e w253 ⟨rfl,hb⟩;refine ⟨_,rfl,?_⟩;replace BK197:=bk (by (with_reducible repeat first|apply bN|apply bD|apply bA);exact BK197.out) hb;replace BK198:=bk (by (with_reducible repeat first|apply bN|apply bD|apply bA);exact BK198.out) hb;replace BK199:=bk (by (with_reducible repeat first|apply bN|apply bD|apply bA);exact BK199.out) hb;replace BK211:=bk (by (with_reducible repeat first|apply bN|apply bD|apply bA);exact BK211.out) hb;replace HB:=Aside0.mk (below_step (by repeat (first|(with_reducible first|exact HB.out|apply xA|apply xN|apply xD|refine xS ?_ GE197.out|refine xS ?_ GE198.out|refine xS ?_ GE199.out|refine xS ?_ GE211.out)|exact HB.out)) hb);(try clear hb);(try clear hb2);(try clear hk);(try clear hi)))
             go_meet
             case rel => exact ⟨_,(false),(by first|rfl|(simp;done)|(simp [*];done)|(simp [*,Go.Proofs.Ytgdhgamolenfgaa.Str.bne_nil];done)),H',⟨by have:=HJ5.out;have:=HJ69.out;have:=HJ115.out;first|omega|exact Nat.le_refl _⟩,⟨by (with_reducible repeat first|apply bN|apply bD|apply bA);exact BK197.out⟩,⟨by (with_reducible repeat first|apply bN|apply bD|apply bA);exact BK198.out⟩,⟨by (with_reducible repeat first|apply bN|apply bD|apply bA);exact BK199.out⟩,⟨by (with_reducible repeat first|apply bN|apply bD|apply bA);exact BK211.out⟩,⟨by repeat (first|(with_reducible first|exact HB.out|apply xA|apply xN|apply xD|refine xS ?_ GE197.out|refine xS ?_ GE198.out|refine xS ?_ GE199.out|refine xS ?_ GE211.out)|exact HB.out)⟩⟩
           case rest =>
            clear HC183
            try clear c1
            try clear c2
            try clear p2
            try clear c8
            try clear c10
            try clear c11
            try clear c12
            try clear c13
            try clear c14
            try clear c15
            try clear c16
            try clear c17
            try clear c18
            try clear c19
            try clear c20
            try clear c21
            try clear c22
            try clear c23
            try clear c24
            try clear c25
            try clear c27
            try clear c87
            try clear c104
            try clear c115
            try clear c118
            try clear c120
            try clear c122
            try clear c124
            try clear c125
            try clear c126
            try clear c128
            try clear c129
            try clear c133
            try clear c141
            try clear c142
            try clear c143
            try clear c145
            try clear c146
            try clear c150
            try clear c157
            try clear c158
            try clear c159
            try clear c161
            try clear c162
            try clear c166
            try clear c172
            try clear c173
            try clear c174
            try clear c176
            try clear c177
            try clear c182
            try clear c185
            try clear c187
            try clear c188
            try clear c188b0
            try clear c190
            try clear c192
            try clear c193
            try clear c194
            try clear c196
            try clear c197
            try clear c208
            try clear c209
            try clear c210
            try clear c212
            try clear c213
            try clear c222
            try clear c223
            try clear c224
            try clear c226
            try clear c227
            try clear c235
            try clear c236
            try clear c237
            try clear c239
            try clear c240
            try clear c246
            try clear c247
            try clear c248
            try clear c250
            try clear c251
            try clear hcz127_0
            try clear hcz127_1
            try clear hcz127_2
            try clear hcz130_0
            try clear hcz130_1
            try clear hcz130_2
            try clear hcz132_0
            try clear hcz132_1
            try clear hcz132_2
            try clear hcz134_0
            try clear hcz134_1
            try clear hcz134_2
            try clear hcz136_0
            try clear hcz136_1
            try clear hcz136_2
            try clear hcz137_0
            try clear hcz137_1
            try clear hcz137_2
            try clear hcz139_0
            try clear hcz139_1
            try clear hcz139_2
            try clear hcz144_0
            try clear hcz144_1
            try clear hcz144_2
            try clear hcz147_0
            try clear hcz147_1
            try clear hcz147_2
            try clear hcz149_0
            try clear hcz149_1
            try clear hcz149_2
            try clear hcz151_0
            try clear hcz151_1
            try clear hcz151_2
            try clear hcz153_0
            try clear hcz153_1
            try clear hcz153_2
            try clear hcz154_0
            try clear hcz154_1
            try clear hcz154_2
            try clear hcz160_0
            try clear hcz160_1
            try clear hcz160_2
            try clear hcz163_0
            try clear hcz163_1
            try clear hcz163_2
            try clear hcz165_0
            try clear hcz165_1
            try clear hcz165_2
            try clear hcz167_0
            try clear hcz167_1
            try clear hcz167_2
            try clear hcz169_0
            try clear hcz169_1
            try clear hcz169_2
            try clear hcz175_0
            try clear hcz175_1
            try clear hcz175_2
            try clear hcz178_0
            try clear hcz178_1
            try clear hcz178_2
            try clear hcz180_0
            try clear hcz180_1
            try clear hcz180_2
            try clear hcz195_0
            try clear hcz195_1
            try clear hcz195_2
            try clear hcz198_0
            try clear hcz198_1
            try clear hcz198_2
            try clear hcz200_0
            try clear hcz200_1
            try clear hcz200_2
            try clear hcz201_0
            try clear hcz201_1
            try clear hcz201_2
            try clear hcz203_0
            try clear hcz203_1
            try clear hcz203_2
            try clear hcz204_0
            try clear hcz204_1
            try clear hcz204_2
            try clear hcz206_0
            try clear hcz206_1
            try clear hcz206_2
            try clear hcz211_0
            try clear hcz211_1
            try clear hcz211_2
            try clear hcz214_0
            try clear hcz214_1
            try clear hcz214_2
            try clear hcz216_0
            try clear hcz216_1
            try clear hcz216_2
            try clear hcz217_0
            try clear hcz217_1
            try clear hcz217_2
            try clear hcz219_0
            try clear hcz219_1
            try clear hcz219_2
            try clear hcz220_0
            try clear hcz220_1
            try clear hcz220_2
            try clear hcz225_0
            try clear hcz225_1
            try clear hcz225_2
            try clear hcz228_0
            try clear hcz228_1
            try clear hcz228_2
            try clear hcz230_0
            try clear hcz230_1
            try clear hcz230_2
            try clear hcz231_0
            try clear hcz231_1
            try clear hcz231_2
            try clear hcz233_0
            try clear hcz233_1
            try clear hcz233_2
            try clear hcz234_0
            try clear hcz234_1
            try clear hcz234_2
            try clear hcz238_0
            try clear hcz238_1
            try clear hcz238_2
            try clear hcz241_0
            try clear hcz241_1
            try clear hcz241_2
            try clear hcz243_0
            try clear hcz243_1
            try clear hcz243_2
            try clear hcz244_0
            try clear hcz244_1
            try clear hcz244_2
            try clear hcz249_0
            try clear hcz249_1
            try clear hcz249_2
            try clear hcz252_0
            try clear hcz252_1
            try clear hcz252_2
            try clear hfz127_0
            try clear hfz127_1
            try clear hfz127_2
            try clear hfz130_0
            try clear hfz130_1
            try clear hfz130_2
            try clear hfz132_0
            try clear hfz132_1
            try clear hfz132_2
            try clear hfz134_0
            try clear hfz134_1
            try clear hfz134_2
            try clear hfz136_0
            try clear hfz136_1
            try clear hfz136_2
            try clear hfz137_0
            try clear hfz137_1
            try clear hfz137_2
            try clear hfz139_0
            try clear hfz139_1
            try clear hfz139_2
            try clear hfz144_0
            try clear hfz144_1
            try clear hfz144_2
            try clear hfz147_0
            try clear hfz147_1
            try clear hfz147_2
            try clear hfz149_0
            try clear hfz149_1
            try clear hfz149_2
            try clear hfz151_0
            try clear hfz151_1
            try clear hfz151_2
            try clear hfz153_0
            try clear hfz153_1
            try clear hfz153_2
            try clear hfz154_0
            try clear hfz154_1
            try clear hfz154_2
            try clear hfz160_0
            try clear hfz160_1
            try clear hfz160_2
            try clear hfz163_0
            try clear hfz163_1
            try clear hfz163_2
            try clear hfz165_0
            try clear hfz165_1
            try clear hfz165_2
            try clear hfz167_0
            try clear hfz167_1
            try clear hfz167_2
            try clear hfz169_0
            try clear hfz169_1
            try clear hfz169_2
            try clear hfz175_0
            try clear hfz175_1
            try clear hfz175_2
            try clear hfz178_0
            try clear hfz178_1
            try clear hfz178_2
            try clear hfz180_0
            try clear hfz180_1
            try clear hfz180_2
            try clear hfz195_0
            try clear hfz195_1
            try clear hfz195_2
            try clear hfz198_0
            try clear hfz198_1
            try clear hfz198_2
            try clear hfz200_0
            try clear hfz200_1
            try clear hfz200_2
            try clear hfz201_0
            try clear hfz201_1
            try clear hfz201_2
            try clear hfz203_0
            try clear hfz203_1
            try clear hfz203_2
            try clear hfz204_0
            try clear hfz204_1
            try clear hfz204_2
            try clear hfz206_0
            try clear hfz206_1
            try clear hfz206_2
            try clear hfz211_0
            try clear hfz211_1
            try clear hfz211_2
            try clear hfz214_0
            try clear hfz214_1
            try clear hfz214_2
            try clear hfz216_0
            try clear hfz216_1
            try clear hfz216_2
            try clear hfz217_0
            try clear hfz217_1
            try clear hfz217_2
            try clear hfz219_0
            try clear hfz219_1
            try clear hfz219_2
            try clear hfz220_0
            try clear hfz220_1
            try clear hfz220_2
            try clear hfz225_0
            try clear hfz225_1
            try clear hfz225_2
            try clear hfz228_0
            try clear hfz228_1
            try clear hfz228_2
            try clear hfz230_0
            try clear hfz230_1
            try clear hfz230_2
            try clear hfz231_0
            try clear hfz231_1
            try clear hfz231_2
            try clear hfz233_0
            try clear hfz233_1
            try clear hfz233_2
            try clear hfz234_0
            try clear hfz234_1
            try clear hfz234_2
            try clear hfz238_0
            try clear hfz238_1
            try clear hfz238_2
            try clear hfz241_0
            try clear hfz241_1
            try clear hfz241_2
            try clear hfz243_0
            try clear hfz243_1
            try clear hfz243_2
            try clear hfz244_0
            try clear hfz244_1
            try clear hfz244_2
            try clear hfz249_0
            try clear hfz249_1
            try clear hfz249_2
            try clear hfz252_0
            try clear hfz252_1
            try clear hfz252_2
            try clear p2
            obtain ⟨kq,x113_182,rfl,HA,HJ182,BK197,BK198,BK199,BK211,HB⟩:=hcut
            cases kq with
           |zero => exact absurd HA.out (by simp [tidelinelaw02_SpanMeets.j3])
           |succ kj182 =>
             have H:=HA.out
             clear HA
             simp only [tidelinelaw02_SpanMeets.j3] at H
             by_cases c254 : x113_182 = true
             ·subst c254
              have H1 : (none) = some r:=by rw [if_pos rfl] at H;exact H
              clear H
              have H:=H1
              clear H1
              exact absurd H (by simp)
             ·replace c254:=Bool.eq_false_iff.mpr c254
              subst c254
              have H1 : ((span_Meet.f kj182 t207 t208 t209 a2_0 a2_1 a2_2).bind fun bt228 => ((span_Meet.f kj182 a1_0 a1_1 a1_2 a2_0 a2_1 a2_2).bind fun bt233 => ((span_Meet.f kj182 a0_0 a0_1 a0_2 bt233.1 bt233.2.1 bt233.2.2.1).bind fun bt238 => (if t210 = true then (if bt233.2.2.2 = true then (if (bt228.1.toList == bt238.1.toList && (bt228.2.1.toList == bt238.2.1.toList && (bt228.2.2.1 == bt238.2.2.1))) = true then (some (bt228.2.2.2 == bt238.2.2.2)) else (none)) else (some true)) else (some true))))) = some r:=by rw [if_neg (show ¬ (false = true) by decide)] at H;exact H
              clear H
              have H:=H1
              clear H1
              replace H:=Option.bind_eq_some_iff.mp H
              obtain ⟨⟨t228,t229,t230,t231⟩,A2550,H⟩:=H
              replace H : ((span_Meet.f kj182 a1_0 a1_1 a1_2 a2_0 a2_1 a2_2).bind fun bt233 => ((span_Meet.f kj182 a0_0 a0_1 a0_2 bt233.1 bt233.2.1 bt233.2.2.1).bind fun bt238 => (if t210 = true then (if bt233.2.2.2 = true then (if (t228.toList == bt238.1.toList && (t229.toList == bt238.2.1.toList && (t230 == bt238.2.2.1))) = true then (some (t231 == bt238.2.2.2)) else (none)) else (some true)) else (some true)))) = some r:=H
              have A255:=Aside0.mk A2550
              clear A2550
              replace H:=Option.bind_eq_some_iff.mp H
              obtain ⟨⟨t233,t234,t235,t236⟩,A2560,H⟩:=H
              replace H : ((span_Meet.f kj182 a0_0 a0_1 a0_2 t233 t234 t235).bind fun bt238 => (if t210 = true then (if t236 = true then (if (t228.toList == bt238.1.toList && (t229.toList == bt238.2.1.toList && (t230 == bt238.2.2.1))) = true then (some (t231 == bt238.2.2.2)) else (none)) else (some true)) else (some true))) = some r:=H
              have A256:=Aside0.mk A2560
              clear A2560
              replace H:=Option.bind_eq_some_iff.mp H
              obtain ⟨⟨t238,t239,t240,t241⟩,A2570,H⟩:=H
              replace H : (if t210 = true then (if t236 = true then (if (t228.toList == t238.toList && (t229.toList == t239.toList && (t230 == t240))) = true then (some (t231 == t241)) else (none)) else (some true)) else (some true)) = some r:=H
              have A257:=Aside0.mk A2570
              clear A2570
              by_cases c258 : t210 = true
              ·subst c258
               have H1 : (if t236 = true then (if (t228.toList == t238.toList && (t229.toList == t239.toList && (t230 == t240))) = true then (some (t231 == t241)) else (none)) else (some true)) = some r:=by rw [if_pos rfl] at H;exact H
               clear H
               have H:=H1
               clear H1
               by_cases c259 : t236 = true
               ·subst c259
                have H1 : (if (t228.toList == t238.toList && (t229.toList == t239.toList && (t230 == t240))) = true then (some (t231 == t241)) else (none)) = some r:=by rw [if_pos rfl] at H;exact H
                clear H
                have H:=H1
                clear H1
                by_cases c260 : (t228.toList == t238.toList && (t229.toList == t239.toList && (t230 == t240))) = true
                ·rw [if_pos c260] at H
                 have c260b0 : (t228.toList == t238.toList && (t229.toList == t239.toList && (t230 == t240))) = true:=c260
                 (try (have c260b1 : decide (t228.toList = t238.toList && (t229.toList == t239.toList && (t230 == t240))) = true:=by simpa using c260))
                 (try (have c260b2 : (t228.toList == t238.toList && (t229.toList == t239.toList && (t230 == t240))) = true:=by simpa using c260))
                 clear c260
                 obtain rfl:=Option.some.inj H
                 have hnb261:=NB211_197.out
                 have hnc261:=NB197_211.out
                 have hnb262:=NB211_198.out
                 have hnc262:=NB198_211.out
                 have hnb263:=NB211_199.out
                 have hnc263:=NB199_211.out
                 obtain ⟨hcz264_0,hcz264_1,hcz264_2⟩:=c3 BK211.out
                 obtain ⟨hfz264_0,hfz264_1,hfz264_2⟩:=f3 BK211.out
                 have hnb265:=NB199_197.out
                 have hnc265:=NB197_199.out
                 have hnb266:=NB199_198.out
                 have hnc266:=NB198_199.out
                 obtain ⟨hcz267_0,hcz267_1,hcz267_2⟩:=c3 BK199.out
                 obtain ⟨hfz267_0,hfz267_1,hfz267_2⟩:=f3 BK199.out
                 go_wp2_with (first|((with_reducible refine gate_callee (f:=25) rfl ?_);refine goesL_ (some 117) rfl rfl Try.func25 (by kernel_rfl) rfl #[.agg #[.string t207,.string t208,.bool t209],.agg #[.string a2_0,.string a2_1,.bool a2_2]] rfl (by (try simp only [List.map_toArray,List.map_cons,List.map_nil]);first|done|rfl|(simp only [List.length_drop,List.length_take];rfl)) ?_;(with_reducible refine (span_Meet.calls kj182 t207 t208 t209 a2_0 a2_1 a2_2 t228 t229 t230 t231 _ A255.out).mono ?_);rintro e w268 ⟨rfl,hb⟩;refine ⟨_,rfl,?_⟩;replace BK197:=bk (by (with_reducible repeat first|apply bN|apply bD|apply bA);exact BK197.out) hb;replace BK198:=bk (by (with_reducible repeat first|apply bN|apply bD|apply bA);exact BK198.out) hb;replace BK199:=bk (by (with_reducible repeat first|apply bN|apply bD|apply bA);exact BK199.out) hb;replace BK211:=bk (by (with_reducible repeat first|apply bN|apply bD|apply bA);exact BK211.out) hb;replace HB:=Aside0.mk (below_step (by repeat (first|(with_reducible first|exact HB.out|apply xA|apply xN|apply xD|refine xS ?_ GE197.out|refine xS ?_ GE198.out|refine xS ?_ GE199.out|refine xS ?_ GE211.out)|exact HB.out)) hb);(try clear hb);(try clear hb2);(try clear hk);(try clear hi))|((with_reducible refine gate_dst (N:=9) rfl ?_);refine box_event ?hg (N:=9) ?hd (cs:=#[.string (⟨#[]⟩ : ByteArray),.string (⟨#[]⟩ : ByteArray),.bool false]) (t:=23) ?hr ?_;(case hd => rfl);(case hg => rfl);(case hr => first|(go_simp;done)|(go_simp;rfl));intro gb232 hg w269 hbox hb;have n0_:=bk (by (with_reducible repeat first|apply bN|apply bD|apply bA);exact BK197.out) hb;have n1_:=bk (by (with_reducible repeat first|apply bN|apply bD|apply bA);exact BK198.out) hb;have n2_:=bk (by (with_reducible repeat first|apply bN|apply bD|apply bA);exact BK199.out) hb;have n3_:=bk (by (with_reducible repeat first|apply bN|apply bD|apply bA);exact BK211.out) hb;have n4_:=Aside0.mk (below_step (by repeat (first|(with_reducible first|exact HB.out|apply xA|apply xN|apply xD|refine xS ?_ GE197.out|refine xS ?_ GE198.out|refine xS ?_ GE199.out|refine xS ?_ GE211.out)|exact HB.out)) hb);have n5_:=Aside0.mk (hbox);have n6_:=Aside0.mk ((by rw [hg];exact (below_size (by repeat (first|(with_reducible first|exact HB.out|apply xA|apply xN|apply xD|refine xS ?_ GE197.out|refine xS ?_ GE198.out|refine xS ?_ GE199.out|refine xS ?_ GE211.out)|exact HB.out))) : w.heap.size ≤ gb232));have n7_:=Aside0.mk ((by rw [hg];exact (below_size (by repeat (first|(with_reducible first|exact HB.out|apply xA|apply xN|apply xD|refine xS ?_ GE197.out|refine xS ?_ GE198.out|refine xS ?_ GE199.out|refine xS ?_ GE211.out)|exact HB.out))) : w.heap.size ≤ gb232));have n8_:=Aside0.mk ((by rw [hg];exact Nat.ne_of_lt (blk_lt (g:=gb197) (o:=.cells #[.string a0_0,.string a0_1,.bool a0_2] 23 (0,0)) (by (with_reducible repeat first|apply bN|apply bD|apply bA);exact BK197.out)) : gb197 ≠ gb232));have n9_:=Aside0.mk ((by rw [hg];exact Nat.ne_of_gt (blk_lt (g:=gb197) (o:=.cells #[.string a0_0,.string a0_1,.bool a0_2] 23 (0,0)) (by (with_reducible repeat first|apply bN|apply bD|apply bA);exact BK197.out)) : gb232 ≠ gb197));have n10_:=Aside0.mk ((by rw [hg];exact Nat.ne_of_lt (blk_lt (g:=gb198) (o:=.cells #[.string a1_0,.string a1_1,.bool a1_2] 23 (0,0)) (by (with_reducible repeat first|apply bN|apply bD|apply bA);exact BK198.out)) : gb198 ≠ gb232));have n11_:=Aside0.mk ((by rw [hg];exact Nat.ne_of_gt (blk_lt (g:=gb198) (o:=.cells #[.string a1_0,.string a1_1,.bool a1_2] 23 (0,0)) (by (with_reducible repeat first|apply bN|apply bD|apply bA);exact BK198.out)) : gb232 ≠ gb198));have n12_:=Aside0.mk ((by rw [hg];exact Nat.ne_of_lt (blk_lt (g:=gb199) (o:=.cells #[.string a2_0,.string a2_1,.bool a2_2] 23 (0,0)) (by (with_reducible repeat first|apply bN|apply bD|apply bA);exact BK199.out)) : gb199 ≠ gb232));have n13_:=Aside0.mk ((by rw [hg];exact Nat.ne_of_gt (blk_lt (g:=gb199) (o:=.cells #[.string a2_0,.string a2_1,.bool a2_2] 23 (0,0)) (by (with_reducible repeat first|apply bN|apply bD|apply bA);exact BK199.out)) : gb232 ≠ gb199));have n14_:=Aside0.mk ((by rw [hg];exact Nat.ne_of_lt (blk_lt (g:=gb211) (o:=.cells #[.string t207,.string t208,.bool t209] 23 (0,0)) (by (with_reducible repeat first|apply bN|apply bD|apply bA);exact BK211.out)) : gb211 ≠ gb232));have n15_:=Aside0.mk ((by rw [hg];exact Nat.ne_of_gt (blk_lt (g:=gb211) (o:=.cells #[.string t207,.string t208,.bool t209] 23 (0,0)) (by (with_reducible repeat first|apply bN|apply bD|apply bA);exact BK211.out)) : gb232 ≠ gb211));clear BK197;clear BK198;clear BK199;clear BK211;clear HB;have BK197:=n0_;have BK198:=n1_;have BK199:=n2_;have BK211:=n3_;have HB:=n4_;have BK232:=n5_;have GW232:=n6_;have GE232:=n7_;have NB197_232:=n8_;have NB232_197:=n9_;have NB198_232:=n10_;have NB232_198:=n11_;have NB199_232:=n12_;have NB232_199:=n13_;have NB211_232:=n14_;have NB232_211:=n15_;clear n0_ n1_ n2_ n3_ n4_ n5_ n6_ n7_ n8_ n9_ n10_ n11_ n12_ n13_ n14_ n15_;clear hb hbox hg;have hnb270:=NB232_197.out;have hnc270:=NB197_232.out;have hnb271:=NB232_198.out;have hnc271:=NB198_232.out;have hnb272:=NB232_199.out;have hnc272:=NB199_232.out;have hnb273:=NB232_211.out;have hnc273:=NB211_232.out;obtain ⟨hcz274_0,hcz274_1,hcz274_2⟩:=c3 BK232.out;obtain ⟨hfz274_0,hfz274_1,hfz274_2⟩:=f3 BK232.out;have hnb275:=NB198_197.out;have hnc275:=NB197_198.out;obtain ⟨hcz276_0,hcz276_1,hcz276_2⟩:=c3 BK198.out;obtain ⟨hfz276_0,hfz276_1,hfz276_2⟩:=f3 BK198.out;obtain ⟨hcz277_0,hcz277_1,hcz277_2⟩:=c3 BK199.out;obtain ⟨hfz277_0,hfz277_1,hfz277_2⟩:=f3 BK199.out)|((with_reducible refine gate_callee (f:=25) rfl ?_);refine goesL_ (some 123) rfl rfl Try.func25 (by kernel_rfl) rfl #[.agg #[.string a1_0,.string a1_1,.bool a1_2],.agg #[.string a2_0,.string a2_1,.bool a2_2]] rfl (by (try simp only [List.map_toArray,List.map_cons,List.map_nil]);first|done|rfl|(simp only [List.length_drop,List.length_take];rfl)) ?_;(with_reducible refine (span_Meet.calls kj182 a1_0 a1_1 a1_2 a2_0 a2_1 a2_2 t233 t234 t235 true _ A256.out).mono ?_);rintro e w278 ⟨rfl,hb⟩;refine ⟨_,rfl,?_⟩;replace BK197:=bk (g:=gb197) (o:=.cells #[.string a0_0,.string a0_1,.bool a0_2] 23 (0,0)) (by (with_reducible repeat (first|apply bN|apply bD|apply bA|refine blk_far ?_ NB197_232.out _));exact BK197.out) hb;replace BK198:=bk (g:=gb198) (o:=.cells #[.string a1_0,.string a1_1,.bool a1_2] 23 (0,0)) (by (with_reducible repeat (first|apply bN|apply bD|apply bA|refine blk_far ?_ NB198_232.out _));exact BK198.out) hb;replace BK199:=bk (g:=gb199) (o:=.cells #[.string a2_0,.string a2_1,.bool a2_2] 23 (0,0)) (by (with_reducible repeat (first|apply bN|apply bD|apply bA|refine blk_far ?_ NB199_232.out _));exact BK199.out) hb;replace BK211:=bk (g:=gb211) (o:=.cells #[.string t207,.string t208,.bool t209] 23 (0,0)) (by (with_reducible repeat (first|apply bN|apply bD|apply bA|refine blk_far ?_ NB211_232.out _));exact BK211.out) hb;replace BK232:=Aside0.mk (blk_below (g:=gb232) (o:=.cells #[.string t228,.string t229,.bool t230] 23 (0,0)) (by (with_reducible repeat first|apply bN|apply bD|apply bA);refine blk_put (cs:=#[.string t228,.string t229,.bool false]) ?_ 2 _ rfl;(with_reducible repeat first|apply bN|apply bD|apply bA);refine blk_put (cs:=#[.string t228,.string (⟨#[]⟩ : ByteArray),.bool false]) ?_ 1 _ rfl;(with_reducible repeat first|apply bN|apply bD|apply bA);refine blk_put (cs:=#[.string (⟨#[]⟩ : ByteArray),.string (⟨#[]⟩ : ByteArray),.bool false]) ?_ 0 _ rfl;(with_reducible repeat first|apply bN|apply bD|apply bA);exact BK232.out) hb);replace HB:=Aside0.mk (below_step (by repeat (first|(with_reducible first|exact HB.out|apply xA|apply xN|apply xD|refine xS ?_ GE197.out|refine xS ?_ GE198.out|refine xS ?_ GE199.out|refine xS ?_ GE211.out|refine xS ?_ GE232.out)|exact HB.out)) hb);(try clear hb);(try clear hb2);(try clear hk);(try clear hi))|((with_reducible refine gate_dst (N:=11) rfl ?_);refine box_event ?hg (N:=11) ?hd (cs:=#[.string (⟨#[]⟩ : ByteArray),.string (⟨#[]⟩ : ByteArray),.bool false]) (t:=23) ?hr ?_;(case hd => rfl);(case hg => rfl);(case hr => first|(go_simp;done)|(go_simp;rfl));intro gb237 hg w279 hbox hb;have n0_:=bk (by (with_reducible repeat first|apply bN|apply bD|apply bA);exact BK197.out) hb;have n1_:=bk (by (with_reducible repeat first|apply bN|apply bD|apply bA);exact BK198.out) hb;have n2_:=bk (by (with_reducible repeat first|apply bN|apply bD|apply bA);exact BK199.out) hb;have n3_:=bk (by (with_reducible repeat first|apply bN|apply bD|apply bA);exact BK211.out) hb;have n4_:=bk (by (with_reducible repeat first|apply bN|apply bD|apply bA);exact BK232.out) hb;have n5_:=Aside0.mk (below_step (by repeat (first|(with_reducible first|exact HB.out|apply xA|apply xN|apply xD|refine xS ?_ GE197.out|refine xS ?_ GE198.out|refine xS ?_ GE199.out|refine xS ?_ GE211.out|refine xS ?_ GE232.out)|exact HB.out)) hb);have n6_:=Aside0.mk (hbox);have n7_:=Aside0.mk ((by rw [hg];exact (below_size (by repeat (first|(with_reducible first|exact HB.out|apply xA|apply xN|apply xD|refine xS ?_ GE197.out|refine xS ?_ GE198.out|refine xS ?_ GE199.out|refine xS ?_ GE211.out|refine xS ?_ GE232.out)|exact HB.out))) : w.heap.size ≤ gb237));have n8_:=Aside0.mk ((by rw [hg];exact (below_size (by repeat (first|(with_reducible first|exact HB.out|apply xA|apply xN|apply xD|refine xS ?_ GE197.out|refine xS ?_ GE198.out|refine xS ?_ GE199.out|refine xS ?_ GE211.out|refine xS ?_ GE232.out)|exact HB.out))) : w.heap.size ≤ gb237));have n9_:=Aside0.mk ((by rw [hg];exact Nat.ne_of_lt (blk_lt (g:=gb197) (o:=.cells #[.string a0_0,.string a0_1,.bool a0_2] 23 (0,0)) (by (with_reducible repeat first|apply bN|apply bD|apply bA);exact BK197.out)) : gb197 ≠ gb237));have n10_:=Aside0.mk ((by rw [hg];exact Nat.ne_of_gt (blk_lt (g:=gb197) (o:=.cells #[.string a0_0,.string a0_1,.bool a0_2] 23 (0,0)) (by (with_reducible repeat first|apply bN|apply bD|apply bA);exact BK197.out)) : gb237 ≠ gb197));have n11_:=Aside0.mk ((by rw [hg];exact Nat.ne_of_lt (blk_lt (g:=gb198) (o:=.cells #[.string a1_0,.string a1_1,.bool a1_2] 23 (0,0)) (by (with_reducible repeat first|apply bN|apply bD|apply bA);exact BK198.out)) : gb198 ≠ gb237));have n12_:=Aside0.mk ((by rw [hg];exact Nat.ne_of_gt (blk_lt (g:=gb198) (o:=.cells #[.string a1_0,.string a1_1,.bool a1_2] 23 (0,0)) (by (with_reducible repeat first|apply bN|apply bD|apply bA);exact BK198.out)) : gb237 ≠ gb198));have n13_:=Aside0.mk ((by rw [hg];exact Nat.ne_of_lt (blk_lt (g:=gb199) (o:=.cells #[.string a2_0,.string a2_1,.bool a2_2] 23 (0,0)) (by (with_reducible repeat first|apply bN|apply bD|apply bA);exact BK199.out)) : gb199 ≠ gb237));have n14_:=Aside0.mk ((by rw [hg];exact Nat.ne_of_gt (blk_lt (g:=gb199) (o:=.cells #[.string a2_0,.string a2_1,.bool a2_2] 23 (0,0)) (by (with_reducible repeat first|apply bN|apply bD|apply bA);exact BK199.out)) : gb237 ≠ gb199));have n15_:=Aside0.mk ((by rw [hg];exact Nat.ne_of_lt (blk_lt (g:=gb211) (o:=.cells #[.string t207,.string t208,.bool t209] 23 (0,0)) (by (with_reducible repeat first|apply bN|apply bD|apply bA);exact BK211.out)) : gb211 ≠ gb237));have n16_:=Aside0.mk ((by rw [hg];exact Nat.ne_of_gt (blk_lt (g:=gb211) (o:=.cells #[.string t207,.string t208,.bool t209] 23 (0,0)) (by (with_reducible repeat first|apply bN|apply bD|apply bA);exact BK211.out)) : gb237 ≠ gb211));have n17_:=Aside0.mk ((by rw [hg];exact Nat.ne_of_lt (blk_lt (g:=gb232) (o:=.cells #[.string t228,.string t229,.bool t230] 23 (0,0)) (by (with_reducible repeat first|apply bN|apply bD|apply bA);exact BK232.out)) : gb232 ≠ gb237));have n18_:=Aside0.mk ((by rw [hg];exact Nat.ne_of_gt (blk_lt (g:=gb232) (o:=.cells #[.string t228,.string t229,.bool t230] 23 (0,0)) (by (with_reducible repeat first|apply bN|apply bD|apply bA);exact BK232.out)) : gb237 ≠ gb232));clear BK197;clear BK198;clear BK199;clear BK211;clear BK232;clear HB;have BK197:=n0_;have BK198:=n1_;have BK199:=n2_;have BK211:=n3_;have BK232:=n4_;have HB:=n5_;have BK237:=n6_;have GW237:=n7_;have GE237:=n8_;have NB197_237:=n9_;have NB237_197:=n10_;have NB198_237:=n11_;have NB237_198:=n12_;have NB199_237:=n13_;have NB237_199:=n14_;have NB211_237:=n15_;have NB237_211:=n16_;have NB232_237:=n17_;have NB237_232:=n18_;clear n0_ n1_ n2_ n3_ n4_ n5_ n6_ n7_ n8_ n9_ n10_ n11_ n12_ n13_ n14_ n15_ n16_ n17_ n18_;clear hb hbox hg;have hnb280:=NB237_197.out;have hnc280:=NB197_237.out;have hnb281:=NB237_198.out;have hnc281:=NB198_237.out;have hnb282:=NB237_199.out;have hnc282:=NB199_237.out;have hnb283:=NB237_211.out;have hnc283:=NB211_237.out;have hnb284:=NB237_232.out;have hnc284:=NB232_237.out;obtain ⟨hcz285_0,hcz285_1,hcz285_2⟩:=c3 BK237.out;obtain ⟨hfz285_0,hfz285_1,hfz285_2⟩:=f3 BK237.out;obtain ⟨hcz286_0,hcz286_1,hcz286_2⟩:=c3 BK197.out;obtain ⟨hfz286_0,hfz286_1,hfz286_2⟩:=f3 BK197.out)|((with_reducible refine gate_callee (f:=25) rfl ?_);refine goesL_ (some 129) rfl rfl Try.func25 (by kernel_rfl) rfl #[.agg #[.string a0_0,.string a0_1,.bool a0_2],.agg #[.string t233,.string t234,.bool t235]] rfl (by (try simp only [List.map_toArray,List.map_cons,List.map_nil]);first|done|rfl|(simp only [List.length_drop,List.length_take];rfl)) ?_;(with_reducible refine (span_Meet.calls kj182 a0_0 a0_1 a0_2 t233 t234 t235 t238 t239 t240 t241 _ A257.out).mono ?_);rintro e w287 ⟨rfl,hb⟩;refine ⟨_,rfl,?_⟩;replace BK197:=bk (g:=gb197) (o:=.cells #[.string a0_0,.string a0_1,.bool a0_2] 23 (0,0)) (by (with_reducible repeat (first|apply bN|apply bD|apply bA|refine blk_far ?_ NB197_237.out _));exact BK197.out) hb;replace BK198:=bk (g:=gb198) (o:=.cells #[.string a1_0,.string a1_1,.bool a1_2] 23 (0,0)) (by (with_reducible repeat (first|apply bN|apply bD|apply bA|refine blk_far ?_ NB198_237.out _));exact BK198.out) hb;replace BK199:=bk (g:=gb199) (o:=.cells #[.string a2_0,.string a2_1,.bool a2_2] 23 (0,0)) (by (with_reducible repeat (first|apply bN|apply bD|apply bA|refine blk_far ?_ NB199_237.out _));exact BK199.out) hb;replace BK211:=bk (g:=gb211) (o:=.cells #[.string t207,.string t208,.bool t209] 23 (0,0)) (by (with_reducible repeat (first|apply bN|apply bD|apply bA|refine blk_far ?_ NB211_237.out _));exact BK211.out) hb;replace BK232:=bk (g:=gb232) (o:=.cells #[.string t228,.string t229,.bool t230] 23 (0,0)) (by (with_reducible repeat (first|apply bN|apply bD|apply bA|refine blk_far ?_ NB232_237.out _));exact BK232.out) hb;replace BK237:=Aside0.mk (blk_below (g:=gb237) (o:=.cells #[.string t233,.string t234,.bool t235] 23 (0,0)) (by (with_reducible repeat first|apply bN|apply bD|apply bA);refine blk_put (cs:=#[.string t233,.string t234,.bool false]) ?_ 2 _ rfl;(with_reducible repeat first|apply bN|apply bD|apply bA);refine blk_put (cs:=#[.string t233,.string (⟨#[]⟩ : ByteArray),.bool false]) ?_ 1 _ rfl;(with_reducible repeat first|apply bN|apply bD|apply bA);refine blk_put (cs:=#[.string (⟨#[]⟩ : ByteArray),.string (⟨#[]⟩ : ByteArray),.bool false]) ?_ 0 _ rfl;(with_reducible repeat first|apply bN|apply bD|apply bA);exact BK237.out) hb);replace HB:=Aside0.mk (below_step (by repeat (first|(with_reducible first|exact HB.out|apply xA|apply xN|apply xD|refine xS ?_ GE197.out|refine xS ?_ GE198.out|refine xS ?_ GE199.out|refine xS ?_ GE211.out|refine xS ?_ GE232.out|refine xS ?_ GE237.out)|exact HB.out)) hb);(try clear hb);(try clear hb2);(try clear hk);(try clear hi))|((with_reducible refine gate_dst (N:=13) rfl ?_);refine box_event ?hg (N:=13) ?hd (cs:=#[.string (⟨#[]⟩ : ByteArray),.string (⟨#[]⟩ : ByteArray),.bool false]) (t:=23) ?hr ?_;(case hd => rfl);(case hg => rfl);(case hr => first|(go_simp;done)|(go_simp;rfl));intro gb242 hg w288 hbox hb;have n0_:=bk (by (with_reducible repeat first|apply bN|apply bD|apply bA);exact BK197.out) hb;have n1_:=bk (by (with_reducible repeat first|apply bN|apply bD|apply bA);exact BK198.out) hb;have n2_:=bk (by (with_reducible repeat first|apply bN|apply bD|apply bA);exact BK199.out) hb;have n3_:=bk (by (with_reducible repeat first|apply bN|apply bD|apply bA);exact BK211.out) hb;have n4_:=bk (by (with_reducible repeat first|apply bN|apply bD|apply bA);exact BK232.out) hb;have n5_:=bk (by (with_reducible repeat first|apply bN|apply bD|apply bA);exact BK237.out) hb;have n6_:=Aside0.mk (below_step (by repeat (first|(with_reducible first|exact HB.out|apply xA|apply xN|apply xD|refine xS ?_ GE197.out|refine xS ?_ GE198.out|refine xS ?_ GE199.out|refine xS ?_ GE211.out|refine xS ?_ GE232.out|refine xS ?_ GE237.out)|exact HB.out)) hb);have n7_:=Aside0.mk (hbox);have n8_:=Aside0.mk ((by rw [hg];exact (below_size (by repeat (first|(with_reducible first|exact HB.out|apply xA|apply xN|apply xD|refine xS ?_ GE197.out|refine xS ?_ GE198.out|refine xS ?_ GE199.out|refine xS ?_ GE211.out|refine xS ?_ GE232.out|refine xS ?_ GE237.out)|exact HB.out))) : w.heap.size ≤ gb242));have n9_:=Aside0.mk ((by rw [hg];exact (below_size (by repeat (first|(with_reducible first|exact HB.out|apply xA|apply xN|apply xD|refine xS ?_ GE197.out|refine xS ?_ GE198.out|refine xS ?_ GE199.out|refine xS ?_ GE211.out|refine xS ?_ GE232.out|refine xS ?_ GE237.out)|exact HB.out))) : w.heap.size ≤ gb242));have n10_:=Aside0.mk ((by rw [hg];exact Nat.ne_of_lt (blk_lt (g:=gb197) (o:=.cells #[.string a0_0,.string a0_1,.bool a0_2] 23 (0,0)) (by (with_reducible repeat first|apply bN|apply bD|apply bA);exact BK197.out)) : gb197 ≠ gb242));have n11_:=Aside0.mk ((by rw [hg];exact Nat.ne_of_gt (blk_lt (g:=gb197) (o:=.cells #[.string a0_0,.string a0_1,.bool a0_2] 23 (0,0)) (by (with_reducible repeat first|apply bN|apply bD|apply bA);exact BK197.out)) : gb242 ≠ gb197));have n12_:=Aside0.mk ((by rw [hg];exact Nat.ne_of_lt (blk_lt (g:=gb198) (o:=.cells #[.string a1_0,.string a1_1,.bool a1_2] 23 (0,0)) (by (with_reducible repeat first|apply bN|apply bD|apply bA);exact BK198.out)) : gb198 ≠ gb242));have n13_:=Aside0.mk ((by rw [hg];exact Nat.ne_of_gt (blk_lt (g:=gb198) (o:=.cells #[.string a1_0,.string a1_1,.bool a1_2] 23 (0,0)) (by (with_reducible repeat first|apply bN|apply bD|apply bA);exact BK198.out)) : gb242 ≠ gb198));have n14_:=Aside0.mk ((by rw [hg];exact Nat.ne_of_lt (blk_lt (g:=gb199) (o:=.cells #[.string a2_0,.string a2_1,.bool a2_2] 23 (0,0)) (by (with_reducible repeat first|apply bN|apply bD|apply bA);exact BK199.out)) : gb199 ≠ gb242));have n15_:=Aside0.mk ((by rw [hg];exact Nat.ne_of_gt (blk_lt (g:=gb199) (o:=.cells #[.string a2_0,.string a2_1,.bool a2_2] 23 (0,0)) (by (with_reducible repeat first|apply bN|apply bD|apply bA);exact BK199.out)) : gb242 ≠ gb199));have n16_:=Aside0.mk ((by rw [hg];exact Nat.ne_of_lt (blk_lt (g:=gb211) (o:=.cells #[.string t207,.string t208,.bool t209] 23 (0,0)) (by (with_reducible repeat first|apply bN|apply bD|apply bA);exact BK211.out)) : gb211 ≠ gb242));have n17_:=Aside0.mk ((by rw [hg];exact Nat.ne_of_gt (blk_lt (g:=gb211) (o:=.cells #[.string t207,.string t208,.bool t209] 23 (0,0)) (by (with_reducible repeat first|apply bN|apply bD|apply bA);exact BK211.out)) : gb242 ≠ gb211));have n18_:=Aside0.mk ((by rw [hg];exact Nat.ne_of_lt (blk_lt (g:=gb232) (o:=.cells #[.string t228,.string t229,.bool t230] 23 (0,0)) (by (with_reducible repeat first|apply bN|apply bD|apply bA);exact BK232.out)) : gb232 ≠ gb242));have n19_:=Aside0.mk ((by rw [hg];exact Nat.ne_of_gt (blk_lt (g:=gb232) (o:=.cells #[.string t228,.string t229,.bool t230] 23 (0,0)) (by (with_reducible repeat first|apply bN|apply bD|apply bA);exact BK232.out)) : gb242 ≠ gb232));have n20_:=Aside0.mk ((by rw [hg];exact Nat.ne_of_lt (blk_lt (g:=gb237) (o:=.cells #[.string t233,.string t234,.bool t235] 23 (0,0)) (by (with_reducible repeat first|apply bN|apply bD|apply bA);exact BK237.out)) : gb237 ≠ gb242));have n21_:=Aside0.mk ((by rw [hg];exact Nat.ne_of_gt (blk_lt (g:=gb237) (o:=.cells #[.string t233,.string t234,.bool t235] 23 (0,0)) (by (with_reducible repeat first|apply bN|apply bD|apply bA);exact BK237.out)) : gb242 ≠ gb237));clear BK197;clear BK198;clear BK199;clear BK211;clear BK232;clear BK237;clear HB;have BK197:=n0_;have BK198:=n1_;have BK199:=n2_;have BK211:=n3_;have BK232:=n4_;have BK237:=n5_;have HB:=n6_;have BK242:=n7_;have GW242:=n8_;have GE242:=n9_;have NB197_242:=n10_;have NB242_197:=n11_;have NB198_242:=n12_;have NB242_198:=n13_;have NB199_242:=n14_;have NB242_199:=n15_;have NB211_242:=n16_;have NB242_211:=n17_;have NB232_242:=n18_;have NB242_232:=n19_;have NB237_242:=n20_;have NB242_237:=n21_;clear n0_ n1_ n2_ n3_ n4_ n5_ n6_ n7_ n8_ n9_ n10_ n11_ n12_ n13_ n14_ n15_ n16_ n17_ n18_ n19_ n20_ n21_;clear hb hbox hg;have hnb289:=NB242_197.out;have hnc289:=NB197_242.out;have hnb290:=NB242_198.out;have hnc290:=NB198_242.out;have hnb291:=NB242_199.out;have hnc291:=NB199_242.out;have hnb292:=NB242_211.out;have hnc292:=NB211_242.out;have hnb293:=NB242_232.out;have hnc293:=NB232_242.out;have hnb294:=NB242_237.out;have hnc294:=NB237_242.out;obtain ⟨hcz295_0,hcz295_1,hcz295_2⟩:=c3 BK242.out;obtain ⟨hfz295_0,hfz295_1,hfz295_2⟩:=f3 BK242.out;obtain ⟨hcz296_0,hcz296_1,hcz296_2⟩:=c3 BK232.out;obtain ⟨hfz296_0,hfz296_1,hfz296_2⟩:=f3 BK232.out))
                 go_ret
                 exact ⟨by first|rfl|(simp [errW_none,errW_some] <;> rfl)|(simp [*,errW_none,errW_some] <;> rfl),by repeat (first|(with_reducible first|exact HB.out|apply xA|apply xN|apply xD|refine xS ?_ GE197.out|refine xS ?_ GE198.out|refine xS ?_ GE199.out|refine xS ?_ GE211.out|refine xS ?_ GE232.out|refine xS ?_ GE237.out|refine xS ?_ GE242.out)|exact HB.out)⟩
                ·rw [if_neg c260] at H
                 exact absurd H (by simp)
               ·replace c259:=Bool.eq_false_iff.mpr c259
                subst c259
                have H1 : (some true) = some r:=by rw [if_neg (show ¬ (false = true) by decide)] at H;exact H
                clear H
                have H:=H1
                clear H1
                obtain rfl:=Option.some.inj H
                have hnb297:=NB211_197.out
                have hnc297:=NB197_211.out
                have hnb298:=NB211_198.out
                have hnc298:=NB198_211.out
                have hnb299:=NB211_199.out
                have hnc299:=NB199_211.out
                obtain ⟨hcz300_0,hcz300_1,hcz300_2⟩:=c3 BK211.out
                obtain ⟨hfz300_0,hfz300_1,hfz300_2⟩:=f3 BK211.out
                have hnb301:=NB199_197.out
                have hnc301:=NB197_199.out
                have hnb302:=NB199_198.out
                have hnc302:=NB198_199.out
                obtain ⟨hcz303_0,hcz303_1,hcz303_2⟩:=c3 BK199.out
                obtain ⟨hfz303_0,hfz303_1,hfz303_2⟩:=f3 BK199.out
                go_wp2_with (first|((with_reducible refine gate_callee (f:=25) rfl ?_);refine goesL_ (some 117) rfl rfl Try.func25 (by kernel_rfl) rfl #[.agg #[.string t207,.string t208,.bool t209],.agg #[.string a2_0,.string a2_1,.bool a2_2]] rfl (by (try simp only [List.map_toArray,List.map_cons,List.map_nil]);first|done|rfl|(simp only [List.length_drop,List.length_take];rfl)) ?_;(with_reducible refine (span_Meet.calls kj182 t207 t208 t209 a2_0 a2_1 a2_2 t228 t229 t230 t231 _ A255.out).mono ?_);rintro e w304 ⟨rfl,hb⟩;refine ⟨_,rfl,?_⟩;replace BK197:=bk (by (with_reducible repeat first|apply bN|apply bD|apply bA);exact BK197.out) hb;replace BK198:=bk (by (with_reducible repeat first|apply bN|apply bD|apply bA);exact BK198.out) hb;replace BK199:=bk (by (with_reducible repeat first|apply bN|apply bD|apply bA);exact BK199.out) hb;replace BK211:=bk (by (with_reducible repeat first|apply bN|apply bD|apply bA);exact BK211.out) hb;replace HB:=Aside0.mk (below_step (by repeat (first|(with_reducible first|exact HB.out|apply xA|apply xN|apply xD|refine xS ?_ GE197.out|refine xS ?_ GE198.out|refine xS ?_ GE199.out|refine xS ?_ GE211.out)|exact HB.out)) hb);(try clear hb);(try clear hb2);(try clear hk);(try clear hi))|((with_reducible refine gate_dst (N:=9) rfl ?_);refine box_event ?hg (N:=9) ?hd (cs:=#[.string (⟨#[]⟩ : ByteArray),.string (⟨#[]⟩ : ByteArray),.bool false]) (t:=23) ?hr ?_;(case hd => rfl);(case hg => rfl);(case hr => first|(go_simp;done)|(go_simp;rfl));intro gb232 hg w305 hbox hb;have n0_:=bk (by (with_reducible repeat first|apply bN|apply bD|apply bA);exact BK197.out) hb;have n1_:=bk (by (with_reducible repeat first|apply bN|apply bD|apply bA);exact BK198.out) hb;have n2_:=bk (by (with_reducible repeat first|apply bN|apply bD|apply bA);exact BK199.out) hb;have n3_:=bk (by (with_reducible repeat first|apply bN|apply bD|apply bA);exact BK211.out) hb;have n4_:=Aside0.mk (below_step (by repeat (first|(with_reducible first|exact HB.out|apply xA|apply xN|apply xD|refine xS ?_ GE197.out|refine xS ?_ GE198.out|refine xS ?_ GE199.out|refine xS ?_ GE211.out)|exact HB.out)) hb);have n5_:=Aside0.mk (hbox);have n6_:=Aside0.mk ((by rw [hg];exact (below_size (by repeat (first|(with_reducible first|exact HB.out|apply xA|apply xN|apply xD|refine xS ?_ GE197.out|refine xS ?_ GE198.out|refine xS ?_ GE199.out|refine xS ?_ GE211.out)|exact HB.out))) : w.heap.size ≤ gb232));have n7_:=Aside0.mk ((by rw [hg];exact (below_size (by repeat (first|(with_reducible first|exact HB.out|apply xA|apply xN|apply xD|refine xS ?_ GE197.out|refine xS ?_ GE198.out|refine xS ?_ GE199.out|refine xS ?_ GE211.out)|exact HB.out))) : w.heap.size ≤ gb232));have n8_:=Aside0.mk ((by rw [hg];exact Nat.ne_of_lt (blk_lt (g:=gb197) (o:=.cells #[.string a0_0,.string a0_1,.bool a0_2] 23 (0,0)) (by (with_reducible repeat first|apply bN|apply bD|apply bA);exact BK197.out)) : gb197 ≠ gb232));have n9_:=Aside0.mk ((by rw [hg];exact Nat.ne_of_gt (blk_lt (g:=gb197) (o:=.cells #[.string a0_0,.string a0_1,.bool a0_2] 23 (0,0)) (by (with_reducible repeat first|apply bN|apply bD|apply bA);exact BK197.out)) : gb232 ≠ gb197));have n10_:=Aside0.mk ((by rw [hg];exact Nat.ne_of_lt (blk_lt (g:=gb198) (o:=.cells #[.string a1_0,.string a1_1,.bool a1_2] 23 (0,0)) (by (with_reducible repeat first|apply bN|apply bD|apply bA);exact BK198.out)) : gb198 ≠ gb232));have n11_:=Aside0.mk ((by rw [hg];exact Nat.ne_of_gt (blk_lt (g:=gb198) (o:=.cells #[.string a1_0,.string a1_1,.bool a1_2] 23 (0,0)) (by (with_reducible repeat first|apply bN|apply bD|apply bA);exact BK198.out)) : gb232 ≠ gb198));have n12_:=Aside0.mk ((by rw [hg];exact Nat.ne_of_lt (blk_lt (g:=gb199) (o:=.cells #[.string a2_0,.string a2_1,.bool a2_2] 23 (0,0)) (by (with_reducible repeat first|apply bN|apply bD|apply bA);exact BK199.out)) : gb199 ≠ gb232));have n13_:=Aside0.mk ((by rw [hg];exact Nat.ne_of_gt (blk_lt (g:=gb199) (o:=.cells #[.string a2_0,.string a2_1,.bool a2_2] 23 (0,0)) (by (with_reducible repeat first|apply bN|apply bD|apply bA);exact BK199.out)) : gb232 ≠ gb199));have n14_:=Aside0.mk ((by rw [hg];exact Nat.ne_of_lt (blk_lt (g:=gb211) (o:=.cells #[.string t207,.string t208,.bool t209] 23 (0,0)) (by (with_reducible repeat first|apply bN|apply bD|apply bA);exact BK211.out)) : gb211 ≠ gb232));have n15_:=Aside0.mk ((by rw [hg];exact Nat.ne_of_gt (blk_lt (g:=gb211) (o:=.cells #[.string t207,.string t208,.bool t209] 23 (0,0)) (by (with_reducible repeat first|apply bN|apply bD|apply bA);exact BK211.out)) : gb232 ≠ gb211));clear BK197;clear BK198;clear BK199;clear BK211;clear HB;have BK197:=n0_;have BK198:=n1_;have BK199:=n2_;have BK211:=n3_;have HB:=n4_;have BK232:=n5_;have GW232:=n6_;have GE232:=n7_;have NB197_232:=n8_;have NB232_197:=n9_;have NB198_232:=n10_;have NB232_198:=n11_;have NB199_232:=n12_;have NB232_199:=n13_;have NB211_232:=n14_;have NB232_211:=n15_;clear n0_ n1_ n2_ n3_ n4_ n5_ n6_ n7_ n8_ n9_ n10_ n11_ n12_ n13_ n14_ n15_;clear hb hbox hg;have hnb306:=NB232_197.out;have hnc306:=NB197_232.out;have hnb307:=NB232_198.out;have hnc307:=NB198_232.out;have hnb308:=NB232_199.out;have hnc308:=NB199_232.out;have hnb309:=NB232_211.out;have hnc309:=NB211_232.out;obtain ⟨hcz310_0,hcz310_1,hcz310_2⟩:=c3 BK232.out;obtain ⟨hfz310_0,hfz310_1,hfz310_2⟩:=f3 BK232.out;have hnb311:=NB198_197.out;have hnc311:=NB197_198.out;obtain ⟨hcz312_0,hcz312_1,hcz312_2⟩:=c3 BK198.out;obtain ⟨hfz312_0,hfz312_1,hfz312_2⟩:=f3 BK198.out;obtain ⟨hcz313_0,hcz313_1,hcz313_2⟩:=c3 BK199.out;obtain ⟨hfz313_0,hfz313_1,hfz313_2⟩:=f3 BK199.out)|((with_reducible refine gate_callee (f:=25) rfl ?_);refine goesL_ (some 123) rfl rfl Try.func25 (by kernel_rfl) rfl #[.agg #[.string a1_0,.string a1_1,.bool a1_2],.agg #[.string a2_0,.string a2_1,.bool a2_2]] rfl (by (try simp only [List.map_toArray,List.map_cons,List.map_nil]);first|done|rfl|(simp only [List.length_drop,List.length_take];rfl)) ?_;(with_reducible refine (span_Meet.calls kj182 a1_0 a1_1 a1_2 a2_0 a2_1 a2_2 t233 t234 t235 false _ A256.out).mono ?_);rintro e w314 ⟨rfl,hb⟩;refine ⟨_,rfl,?_⟩;replace BK197:=bk (g:=gb197) (o:=.cells #[.string a0_0,.string a0_1,.bool a0_2] 23 (0,0)) (by (with_reducible repeat (first|apply bN|apply bD|apply bA|refine blk_far ?_ NB197_232.out _));exact BK197.out) hb;replace BK198:=bk (g:=gb198) (o:=.cells #[.string a1_0,.string a1_1,.bool a1_2] 23 (0,0)) (by (with_reducible repeat (first|apply bN|apply bD|apply bA|refine blk_far ?_ NB198_232.out _));exact BK198.out) hb;replace BK199:=bk (g:=gb199) (o:=.cells #[.string a2_0,.string a2_1,.bool a2_2] 23 (0,0)) (by (with_reducible repeat (first|apply bN|apply bD|apply bA|refine blk_far ?_ NB199_232.out _));exact BK199.out) hb;replace BK211:=bk (g:=gb211) (o:=.cells #[.string t207,.string t208,.bool t209] 23 (0,0)) (by (with_reducible repeat (first|apply bN|apply bD|apply bA|refine blk_far ?_ NB211_232.out _));exact BK211.out) hb;replace BK232:=Aside0.mk (blk_below (g:=gb232) (o:=.cells #[.string t228,.string t229,.bool t230] 23 (0,0)) (by (with_reducible repeat first|apply bN|apply bD|apply bA);refine blk_put (cs:=#[.string t228,.string t229,.bool false]) ?_ 2 _ rfl;(with_reducible repeat first|apply bN|apply bD|apply bA);refine blk_put (cs:=#[.string t228,.string (⟨#[]⟩ : ByteArray),.bool false]) ?_ 1 _ rfl;(with_reducible repeat first|apply bN|apply bD|apply bA);refine blk_put (cs:=#[.string (⟨#[]⟩ : ByteArray),.string (⟨#[]⟩ : ByteArray),.bool false]) ?_ 0 _ rfl;(with_reducible repeat first|apply bN|apply bD|apply bA);exact BK232.out) hb);replace HB:=Aside0.mk (below_step (by repeat (first|(with_reducible first|exact HB.out|apply xA|apply xN|apply xD|refine xS ?_ GE197.out|refine xS ?_ GE198.out|refine xS ?_ GE199.out|refine xS ?_ GE211.out|refine xS ?_ GE232.out)|exact HB.out)) hb);(try clear hb);(try clear hb2);(try clear hk);(try clear hi))|((with_reducible refine gate_dst (N:=11) rfl ?_);refine box_event ?hg (N:=11) ?hd (cs:=#[.string (⟨#[]⟩ : ByteArray),.string (⟨#[]⟩ : ByteArray),.bool false]) (t:=23) ?hr ?_;(case hd => rfl);(case hg => rfl);(case hr => first|(go_simp;done)|(go_simp;rfl));intro gb237 hg w315 hbox hb;have n0_:=bk (by (with_reducible repeat first|apply bN|apply bD|apply bA);exact BK197.out) hb;have n1_:=bk (by (with_reducible repeat first|apply bN|apply bD|apply bA);exact BK198.out) hb;have n2_:=bk (by (with_reducible repeat first|apply bN|apply bD|apply bA);exact BK199.out) hb;have n3_:=bk (by (with_reducible repeat first|apply bN|apply bD|apply bA);exact BK211.out) hb;have n4_:=bk (by (with_reducible repeat first|apply bN|apply bD|apply bA);exact BK232.out) hb;have n5_:=Aside0.mk (below_step (by repeat (first|(with_reducible first|exact HB.out|apply xA|apply xN|apply xD|refine xS ?_ GE197.out|refine xS ?_ GE198.out|refine xS ?_ GE199.out|refine xS ?_ GE211.out|refine xS ?_ GE232.out)|exact HB.out)) hb);have n6_:=Aside0.mk (hbox);have n7_:=Aside0.mk ((by rw [hg];exact (below_size (by repeat (first|(with_reducible first|exact HB.out|apply xA|apply xN|apply xD|refine xS ?_ GE197.out|refine xS ?_ GE198.out|refine xS ?_ GE199.out|refine xS ?_ GE211.out|refine xS ?_ GE232.out)|exact HB.out))) : w.heap.size ≤ gb237));have n8_:=Aside0.mk ((by rw [hg];exact (below_size (by repeat (first|(with_reducible first|exact HB.out|apply xA|apply xN|apply xD|refine xS ?_ GE197.out|refine xS ?_ GE198.out|refine xS ?_ GE199.out|refine xS ?_ GE211.out|refine xS ?_ GE232.out)|exact HB.out))) : w.heap.size ≤ gb237));have n9_:=Aside0.mk ((by rw [hg];exact Nat.ne_of_lt (blk_lt (g:=gb197) (o:=.cells #[.string a0_0,.string a0_1,.bool a0_2] 23 (0,0)) (by (with_reducible repeat first|apply bN|apply bD|apply bA);exact BK197.out)) : gb197 ≠ gb237));have n10_:=Aside0.mk ((by rw [hg];exact Nat.ne_of_gt (blk_lt (g:=gb197) (o:=.cells #[.string a0_0,.string a0_1,.bool a0_2] 23 (0,0)) (by (with_reducible repeat first|apply bN|apply bD|apply bA);exact BK197.out)) : gb237 ≠ gb197));have n11_:=Aside0.mk ((by rw [hg];exact Nat.ne_of_lt (blk_lt (g:=gb198) (o:=.cells #[.string a1_0,.string a1_1,.bool a1_2] 23 (0,0)) (by (with_reducible repeat first|apply bN|apply bD|apply bA);exact BK198.out)) : gb198 ≠ gb237));have n12_:=Aside0.mk ((by rw [hg];exact Nat.ne_of_gt (blk_lt (g:=gb198) (o:=.cells #[.string a1_0,.string a1_1,.bool a1_2] 23 (0,0)) (by (with_reducible repeat first|apply bN|apply bD|apply bA);exact BK198.out)) : gb237 ≠ gb198));have n13_:=Aside0.mk ((by rw [hg];exact Nat.ne_of_lt (blk_lt (g:=gb199) (o:=.cells #[.string a2_0,.string a2_1,.bool a2_2] 23 (0,0)) (by (with_reducible repeat first|apply bN|apply bD|apply bA);exact BK199.out)) : gb199 ≠ gb237));have n14_:=Aside0.mk ((by rw [hg];exact Nat.ne_of_gt (blk_lt (g:=gb199) (o:=.cells #[.string a2_0,.string a2_1,.bool a2_2] 23 (0,0)) (by (with_reducible repeat first|apply bN|apply bD|apply bA);exact BK199.out)) : gb237 ≠ gb199));have n15_:=Aside0.mk ((by rw [hg];exact Nat.ne_of_lt (blk_lt (g:=gb211) (o:=.cells #[.string t207,.string t208,.bool t209] 23 (0,0)) (by (with_reducible repeat first|apply bN|apply bD|apply bA);exact BK211.out)) : gb211 ≠ gb237));have n16_:=Aside0.mk ((by rw [hg];exact Nat.ne_of_gt (blk_lt (g:=gb211) (o:=.cells #[.string t207,.string t208,.bool t209] 23 (0,0)) (by (with_reducible repeat first|apply bN|apply bD|apply bA);exact BK211.out)) : gb237 ≠ gb211));have n17_:=Aside0.mk ((by rw [hg];exact Nat.ne_of_lt (blk_lt (g:=gb232) (o:=.cells #[.string t228,.string t229,.bool t230] 23 (0,0)) (by (with_reducible repeat first|apply bN|apply bD|apply bA);exact BK232.out)) : gb232 ≠ gb237));have n18_:=Aside0.mk ((by rw [hg];exact Nat.ne_of_gt (blk_lt (g:=gb232) (o:=.cells #[.string t228,.string t229,.bool t230] 23 (0,0)) (by (with_reducible repeat first|apply bN|apply bD|apply bA);exact BK232.out)) : gb237 ≠ gb232));clear BK197;clear BK198;clear BK199;clear BK211;clear BK232;clear HB;have BK197:=n0_;have BK198:=n1_;have BK199:=n2_;have BK211:=n3_;have BK232:=n4_;have HB:=n5_;have BK237:=n6_;have GW237:=n7_;have GE237:=n8_;have NB197_237:=n9_;have NB237_197:=n10_;have NB198_237:=n11_;have NB237_198:=n12_;have NB199_237:=n13_;have NB237_199:=n14_;have NB211_237:=n15_;have NB237_211:=n16_;have NB232_237:=n17_;have NB237_232:=n18_;clear n0_ n1_ n2_ n3_ n4_ n5_ n6_ n7_ n8_ n9_ n10_ n11_ n12_ n13_ n14_ n15_ n16_ n17_ n18_;clear hb hbox hg;have hnb316:=NB237_197.out;have hnc316:=NB197_237.out;have hnb317:=NB237_198.out;have hnc317:=NB198_237.out;have hnb318:=NB237_199.out;have hnc318:=NB199_237.out;have hnb319:=NB237_211.out;have hnc319:=NB211_237.out;have hnb320:=NB237_232.out;have hnc320:=NB232_237.out;obtain ⟨hcz321_0,hcz321_1,hcz321_2⟩:=c3 BK237.out;obtain ⟨hfz321_0,hfz321_1,hfz321_2⟩:=f3 BK237.out;obtain ⟨hcz322_0,hcz322_1,hcz322_2⟩:=c3 BK197.out;obtain ⟨hfz322_0,hfz322_1,hfz322_2⟩:=f3 BK197.out)|((with_reducible refine gate_callee (f:=25) rfl ?_);refine goesL_ (some 129) rfl rfl Try.func25 (by kernel_rfl) rfl #[.agg #[.string a0_0,.string a0_1,.bool a0_2],.agg #[.string t233,.string t234,.bool t235]] rfl (by (try simp only [List.map_toArray,List.map_cons,List.map_nil]);first|done|rfl|(simp only [List.length_drop,List.length_take];rfl)) ?_;(with_reducible refine (span_Meet.calls kj182 a0_0 a0_1 a0_2 t233 t234 t235 t238 t239 t240 t241 _ A257.out).mono ?_);rintro e w323 ⟨rfl,hb⟩;refine ⟨_,rfl,?_⟩;replace BK197:=bk (g:=gb197) (o:=.cells #[.string a0_0,.string a0_1,.bool a0_2] 23 (0,0)) (by (with_reducible repeat (first|apply bN|apply bD|apply bA|refine blk_far ?_ NB197_237.out _));exact BK197.out) hb;replace BK198:=bk (g:=gb198) (o:=.cells #[.string a1_0,.string a1_1,.bool a1_2] 23 (0,0)) (by (with_reducible repeat (first|apply bN|apply bD|apply bA|refine blk_far ?_ NB198_237.out _));exact BK198.out) hb;replace BK199:=bk (g:=gb199) (o:=.cells #[.string a2_0,.string a2_1,.bool a2_2] 23 (0,0)) (by (with_reducible repeat (first|apply bN|apply bD|apply bA|refine blk_far ?_ NB199_237.out _));exact BK199.out) hb;replace BK211:=bk (g:=gb211) (o:=.cells #[.string t207,.string t208,.bool t209] 23 (0,0)) (by (with_reducible repeat (first|apply bN|apply bD|apply bA|refine blk_far ?_ NB211_237.out _));exact BK211.out) hb;replace BK232:=bk (g:=gb232) (o:=.cells #[.string t228,.string t229,.bool t230] 23 (0,0)) (by (with_reducible repeat (first|apply bN|apply bD|apply bA|refine blk_far ?_ NB232_237.out _));exact BK232.out) hb;replace BK237:=Aside0.mk (blk_below (g:=gb237) (o:=.cells #[.string t233,.string t234,.bool t235] 23 (0,0)) (by (with_reducible repeat first|apply bN|apply bD|apply bA);refine blk_put (cs:=#[.string t233,.string t234,.bool false]) ?_ 2 _ rfl;(with_reducible repeat first|apply bN|apply bD|apply bA);refine blk_put (cs:=#[.string t233,.string (⟨#[]⟩ : ByteArray),.bool false]) ?_ 1 _ rfl;(with_reducible repeat first|apply bN|apply bD|apply bA);refine blk_put (cs:=#[.string (⟨#[]⟩ : ByteArray),.string (⟨#[]⟩ : ByteArray),.bool false]) ?_ 0 _ rfl;(with_reducible repeat first|apply bN|apply bD|apply bA);exact BK237.out) hb);replace HB:=Aside0.mk (below_step (by repeat (first|(with_reducible first|exact HB.out|apply xA|apply xN|apply xD|refine xS ?_ GE197.out|refine xS ?_ GE198.out|refine xS ?_ GE199.out|refine xS ?_ GE211.out|refine xS ?_ GE232.out|refine xS ?_ GE237.out)|exact HB.out)) hb);(try clear hb);(try clear hb2);(try clear hk);(try clear hi))|((with_reducible refine gate_dst (N:=13) rfl ?_);refine box_event ?hg (N:=13) ?hd (cs:=#[.string (⟨#[]⟩ : ByteArray),.string (⟨#[]⟩ : ByteArray),.bool false]) (t:=23) ?hr ?_;(case hd => rfl);(case hg => rfl);(case hr => first|(go_simp;done)|(go_simp;rfl));intro gb242 hg w324 hbox hb;have n0_:=bk (by (with_reducible repeat first|apply bN|apply bD|apply bA);exact BK197.out) hb;have n1_:=bk (by (with_reducible repeat first|apply bN|apply bD|apply bA);exact BK198.out) hb;have n2_:=bk (by (with_reducible repeat first|apply bN|apply bD|apply bA);exact BK199.out) hb;have n3_:=bk (by (with_reducible repeat first|apply bN|apply bD|apply bA);exact BK211.out) hb;have n4_:=bk (by (with_reducible repeat first|apply bN|apply bD|apply bA);exact BK232.out) hb;have n5_:=bk (by (with_reducible repeat first|apply bN|apply bD|apply bA);exact BK237.out) hb;have n6_:=Aside0.mk (below_step (by repeat (first|(with_reducible first|exact HB.out|apply xA|apply xN|apply xD|refine xS ?_ GE197.out|refine xS ?_ GE198.out|refine xS ?_ GE199.out|refine xS ?_ GE211.out|refine xS ?_ GE232.out|refine xS ?_ GE237.out)|exact HB.out)) hb);have n7_:=Aside0.mk (hbox);have n8_:=Aside0.mk ((by rw [hg];exact (below_size (by repeat (first|(with_reducible first|exact HB.out|apply xA|apply xN|apply xD|refine xS ?_ GE197.out|refine xS ?_ GE198.out|refine xS ?_ GE199.out|refine xS ?_ GE211.out|refine xS ?_ GE232.out|refine xS ?_ GE237.out)|exact HB.out))) : w.heap.size ≤ gb242));have n9_:=Aside0.mk ((by rw [hg];exact (below_size (by repeat (first|(with_reducible first|exact HB.out|apply xA|apply xN|apply xD|refine xS ?_ GE197.out|refine xS ?_ GE198.out|refine xS ?_ GE199.out|refine xS ?_ GE211.out|refine xS ?_ GE232.out|refine xS ?_ GE237.out)|exact HB.out))) : w.heap.size ≤ gb242));have n10_:=Aside0.mk ((by rw [hg];exact Nat.ne_of_lt (blk_lt (g:=gb197) (o:=.cells #[.string a0_0,.string a0_1,.bool a0_2] 23 (0,0)) (by (with_reducible repeat first|apply bN|apply bD|apply bA);exact BK197.out)) : gb197 ≠ gb242));have n11_:=Aside0.mk ((by rw [hg];exact Nat.ne_of_gt (blk_lt (g:=gb197) (o:=.cells #[.string a0_0,.string a0_1,.bool a0_2] 23 (0,0)) (by (with_reducible repeat first|apply bN|apply bD|apply bA);exact BK197.out)) : gb242 ≠ gb197));have n12_:=Aside0.mk ((by rw [hg];exact Nat.ne_of_lt (blk_lt (g:=gb198) (o:=.cells #[.string a1_0,.string a1_1,.bool a1_2] 23 (0,0)) (by (with_reducible repeat first|apply bN|apply bD|apply bA);exact BK198.out)) : gb198 ≠ gb242));have n13_:=Aside0.mk ((by rw [hg];exact Nat.ne_of_gt (blk_lt (g:=gb198) (o:=.cells #[.string a1_0,.string a1_1,.bool a1_2] 23 (0,0)) (by (with_reducible repeat first|apply bN|apply bD|apply bA);exact BK198.out)) : gb242 ≠ gb198));have n14_:=Aside0.mk ((by rw [hg];exact Nat.ne_of_lt (blk_lt (g:=gb199) (o:=.cells #[.string a2_0,.string a2_1,.bool a2_2] 23 (0,0)) (by (with_reducible repeat first|apply bN|apply bD|apply bA);exact BK199.out)) : gb199 ≠ gb242));have n15_:=Aside0.mk ((by rw [hg];exact Nat.ne_of_gt (blk_lt (g:=gb199) (o:=.cells #[.string a2_0,.string a2_1,.bool a2_2] 23 (0,0)) (by (with_reducible repeat first|apply bN|apply bD|apply bA);exact BK199.out)) : gb242 ≠ gb199));have n16_:=Aside0.mk ((by rw [hg];exact Nat.ne_of_lt (blk_lt (g:=gb211) (o:=.cells #[.string t207,.string t208,.bool t209] 23 (0,0)) (by (with_reducible repeat first|apply bN|apply bD|apply bA);exact BK211.out)) : gb211 ≠ gb242));have n17_:=Aside0.mk ((by rw [hg];exact Nat.ne_of_gt (blk_lt (g:=gb211) (o:=.cells #[.string t207,.string t208,.bool t209] 23 (0,0)) (by (with_reducible repeat first|apply bN|apply bD|apply bA);exact BK211.out)) : gb242 ≠ gb211));have n18_:=Aside0.mk ((by rw [hg];exact Nat.ne_of_lt (blk_lt (g:=gb232) (o:=.cells #[.string t228,.string t229,.bool t230] 23 (0,0)) (by (with_reducible repeat first|apply bN|apply bD|apply bA);exact BK232.out)) : gb232 ≠ gb242));have n19_:=Aside0.mk ((by rw [hg];exact Nat.ne_of_gt (blk_lt (g:=gb232) (o:=.cells #[.string t228,.string t229,.bool t230] 23 (0,0)) (by (with_reducible repeat first|apply bN|apply bD|apply bA);exact BK232.out)) : gb242 ≠ gb232));have n20_:=Aside0.mk ((by rw [hg];exact Nat.ne_of_lt (blk_lt (g:=gb237) (o:=.cells #[.string t233,.string t234,.bool t235] 23 (0,0)) (by (with_reducible repeat first|apply bN|apply bD|apply bA);exact BK237.out)) : gb237 ≠ gb242));have n21_:=Aside0.mk ((by rw [hg];exact Nat.ne_of_gt (blk_lt (g:=gb237) (o:=.cells #[.string t233,.string t234,.bool t235] 23 (0,0)) (by (with_reducible repeat first|apply bN|apply bD|apply bA);exact BK237.out)) : gb242 ≠ gb237));clear BK197;clear BK198;clear BK199;clear BK211;clear BK232;clear BK237;clear HB;have BK197:=n0_;have BK198:=n1_;have BK199:=n2_;have BK211:=n3_;have BK232:=n4_;have BK237:=n5_;have HB:=n6_;have BK242:=n7_;have GW242:=n8_;have GE242:=n9_;have NB197_242:=n10_;have NB242_197:=n11_;have NB198_242:=n12_;have NB242_198:=n13_;have NB199_242:=n14_;have NB242_199:=n15_;have NB211_242:=n16_;have NB242_211:=n17_;have NB232_242:=n18_;have NB242_232:=n19_;have NB237_242:=n20_;have NB242_237:=n21_;clear n0_ n1_ n2_ n3_ n4_ n5_ n6_ n7_ n8_ n9_ n10_ n11_ n12_ n13_ n14_ n15_ n16_ n17_ n18_ n19_ n20_ n21_;clear hb hbox hg;have hnb325:=NB242_197.out;have hnc325:=NB197_242.out;have hnb326:=NB242_198.out;have hnc326:=NB198_242.out;have hnb327:=NB242_199.out;have hnc327:=NB199_242.out;have hnb328:=NB242_211.out;have hnc328:=NB211_242.out;have hnb329:=NB242_232.out;have hnc329:=NB232_242.out;have hnb330:=NB242_237.out;have hnc330:=NB237_242.out;obtain ⟨hcz331_0,hcz331_1,hcz331_2⟩:=c3 BK242.out;obtain ⟨hfz331_0,hfz331_1,hfz331_2⟩:=f3 BK242.out))
                go_ret
                exact ⟨by first|rfl|(simp [errW_none,errW_some] <;> rfl)|(simp [*,errW_none,errW_some] <;> rfl),by repeat (first|(with_reducible first|exact HB.out|apply xA|apply xN|apply xD|refine xS ?_ GE197.out|refine xS ?_ GE198.out|refine xS ?_ GE199.out|refine xS ?_ GE211.out|refine xS ?_ GE232.out|refine xS ?_ GE237.out|refine xS ?_ GE242.out)|exact HB.out)⟩
              ·replace c258:=Bool.eq_false_iff.mpr c258
               subst c258
               have H1 : (some true) = some r:=by rw [if_neg (show ¬ (false = true) by decide)] at H;exact H
               clear H
               have H:=H1
               clear H1
               obtain rfl:=Option.some.inj H
               have hnb332:=NB211_197.out
               have hnc332:=NB197_211.out
               have hnb333:=NB211_198.out
               have hnc333:=NB198_211.out
               have hnb334:=NB211_199.out
               have hnc334:=NB199_211.out
               obtain ⟨hcz335_0,hcz335_1,hcz335_2⟩:=c3 BK211.out
               obtain ⟨hfz335_0,hfz335_1,hfz335_2⟩:=f3 BK211.out
               have hnb336:=NB199_197.out
               have hnc336:=NB197_199.out
               have hnb337:=NB199_198.out
               have hnc337:=NB198_199.out
               obtain ⟨hcz338_0,hcz338_1,hcz338_2⟩:=c3 BK199.out
               obtain ⟨hfz338_0,hfz338_1,hfz338_2⟩:=f3 BK199.out
               go_wp2_with (first|((with_reducible refine gate_callee (f:=25) rfl ?_);refine goesL_ (some 117) rfl rfl Try.func25 (by kernel_rfl) rfl #[.agg #[.string t207,.string t208,.bool t209],.agg #[.string a2_0,.string a2_1,.bool a2_2]] rfl (by (try simp only [List.map_toArray,List.map_cons,List.map_nil]);first|done|rfl|(simp only [List.length_drop,List.length_take];rfl)) ?_;(with_reducible refine (span_Meet.calls kj182 t207 t208 t209 a2_0 a2_1 a2_2 t228 t229 t230 t231 _ A255.out).mono ?_);rintro e w339 ⟨rfl,hb⟩;refine ⟨_,rfl,?_⟩;replace BK197:=bk (by (with_reducible repeat first|apply bN|apply bD|apply bA);exact BK197.out) hb;replace BK198:=bk (by (with_reducible repeat first|apply bN|apply bD|apply bA);exact BK198.out) hb;replace BK199:=bk (by (with_reducible repeat first|apply bN|apply bD|apply bA);exact BK199.out) hb;replace BK211:=bk (by (with_reducible repeat first|apply bN|apply bD|apply bA);exact BK211.out) hb;replace HB:=Aside0.mk (below_step (by repeat (first|(with_reducible first|exact HB.out|apply xA|apply xN|apply xD|refine xS ?_ GE197.out|refine xS ?_ GE198.out|refine xS ?_ GE199.out|refine xS ?_ GE211.out)|exact HB.out)) hb);(try clear hb);(try clear hb2);(try clear hk);(try clear hi))|((with_reducible refine gate_dst (N:=9) rfl ?_);refine box_event ?hg (N:=9) ?hd (cs:=#[.string (⟨#[]⟩ : ByteArray),.string (⟨#[]⟩ : ByteArray),.bool false]) (t:=23) ?hr ?_;(case hd => rfl);(case hg => rfl);(case hr => first|(go_simp;done)|(go_simp;rfl));intro gb232 hg w340 hbox hb;have n0_:=bk (by (with_reducible repeat first|apply bN|apply bD|apply bA);exact BK197.out) hb;have n1_:=bk (by (with_reducible repeat first|apply bN|apply bD|apply bA);exact BK198.out) hb;have n2_:=bk (by (with_reducible repeat first|apply bN|apply bD|apply bA);exact BK199.out) hb;have n3_:=bk (by (with_reducible repeat first|apply bN|apply bD|apply bA);exact BK211.out) hb;have n4_:=Aside0.mk (below_step (by repeat (first|(with_reducible first|exact HB.out|apply xA|apply xN|apply xD|refine xS ?_ GE197.out|refine xS ?_ GE198.out|refine xS ?_ GE199.out|refine xS ?_ GE211.out)|exact HB.out)) hb);have n5_:=Aside0.mk (hbox);have n6_:=Aside0.mk ((by rw [hg];exact (below_size (by repeat (first|(with_reducible first|exact HB.out|apply xA|apply xN|apply xD|refine xS ?_ GE197.out|refine xS ?_ GE198.out|refine xS ?_ GE199.out|refine xS ?_ GE211.out)|exact HB.out))) : w.heap.size ≤ gb232));have n7_:=Aside0.mk ((by rw [hg];exact (below_size (by repeat (first|(with_reducible first|exact HB.out|apply xA|apply xN|apply xD|refine xS ?_ GE197.out|refine xS ?_ GE198.out|refine xS ?_ GE199.out|refine xS ?_ GE211.out)|exact HB.out))) : w.heap.size ≤ gb232));have n8_:=Aside0.mk ((by rw [hg];exact Nat.ne_of_lt (blk_lt (g:=gb197) (o:=.cells #[.string a0_0,.string a0_1,.bool a0_2] 23 (0,0)) (by (with_reducible repeat first|apply bN|apply bD|apply bA);exact BK197.out)) : gb197 ≠ gb232));have n9_:=Aside0.mk ((by rw [hg];exact Nat.ne_of_gt (blk_lt (g:=gb197) (o:=.cells #[.string a0_0,.string a0_1,.bool a0_2] 23 (0,0)) (by (with_reducible repeat first|apply bN|apply bD|apply bA);exact BK197.out)) : gb232 ≠ gb197));have n10_:=Aside0.mk ((by rw [hg];exact Nat.ne_of_lt (blk_lt (g:=gb198) (o:=.cells #[.string a1_0,.string a1_1,.bool a1_2] 23 (0,0)) (by (with_reducible repeat first|apply bN|apply bD|apply bA);exact BK198.out)) : gb198 ≠ gb232));have n11_:=Aside0.mk ((by rw [hg];exact Nat.ne_of_gt (blk_lt (g:=gb198) (o:=.cells #[.string a1_0,.string a1_1,.bool a1_2] 23 (0,0)) (by (with_reducible repeat first|apply bN|apply bD|apply bA);exact BK198.out)) : gb232 ≠ gb198));have n12_:=Aside0.mk ((by rw [hg];exact Nat.ne_of_lt (blk_lt (g:=gb199) (o:=.cells #[.string a2_0,.string a2_1,.bool a2_2] 23 (0,0)) (by (with_reducible repeat first|apply bN|apply bD|apply bA);exact BK199.out)) : gb199 ≠ gb232));have n13_:=Aside0.mk ((by rw [hg];exact Nat.ne_of_gt (blk_lt (g:=gb199) (o:=.cells #[.string a2_0,.string a2_1,.bool a2_2] 23 (0,0)) (by (with_reducible repeat first|apply bN|apply bD|apply bA);exact BK199.out)) : gb232 ≠ gb199));have n14_:=Aside0.mk ((by rw [hg];exact Nat.ne_of_lt (blk_lt (g:=gb211) (o:=.cells #[.string t207,.string t208,.bool t209] 23 (0,0)) (by (with_reducible repeat first|apply bN|apply bD|apply bA);exact BK211.out)) : gb211 ≠ gb232));have n15_:=Aside0.mk ((by rw [hg];exact Nat.ne_of_gt (blk_lt (g:=gb211) (o:=.cells #[.string t207,.string t208,.bool t209] 23 (0,0)) (by (with_reducible repeat first|apply bN|apply bD|apply bA);exact BK211.out)) : gb232 ≠ gb211));clear BK197;clear BK198;clear BK199;clear BK211;clear HB;have BK197:=n0_;have BK198:=n1_;have BK199:=n2_;have BK211:=n3_;have HB:=n4_;have BK232:=n5_;have GW232:=n6_;have GE232:=n7_;have NB197_232:=n8_;have NB232_197:=n9_;have NB198_232:=n10_;have NB232_198:=n11_;have NB199_232:=n12_;have NB232_199:=n13_;have NB211_232:=n14_;have NB232_211:=n15_;clear n0_ n1_ n2_ n3_ n4_ n5_ n6_ n7_ n8_ n9_ n10_ n11_ n12_ n13_ n14_ n15_;clear hb hbox hg;have hnb341:=NB232_197.out;have hnc341:=NB197_232.out;have hnb342:=NB232_198.out;have hnc342:=NB198_232.out;have hnb343:=NB232_199.out;have hnc343:=NB199_232.out;have hnb344:=NB232_211.out;have hnc344:=NB211_232.out;obtain ⟨hcz345_0,hcz345_1,hcz345_2⟩:=c3 BK232.out;obtain ⟨hfz345_0,hfz345_1,hfz345_2⟩:=f3 BK232.out;have hnb346:=NB198_197.out;have hnc346:=NB197_198.out;obtain ⟨hcz347_0,hcz347_1,hcz347_2⟩:=c3 BK198.out;obtain ⟨hfz347_0,hfz347_1,hfz347_2⟩:=f3 BK198.out;obtain ⟨hcz348_0,hcz348_1,hcz348_2⟩:=c3 BK199.out;obtain ⟨hfz348_0,hfz348_1,hfz348_2⟩:=f3 BK199.out)|((with_reducible refine gate_callee (f:=25) rfl ?_);refine goesL_ (some 123) rfl rfl Try.func25 (by kernel_rfl) rfl #[.agg #[.string a1_0,.string a1_1,.bool a1_2],.agg #[.string a2_0,.string a2_1,.bool a2_2]] rfl (by (try simp only [List.map_toArray,List.map_cons,List.map_nil]);first|done|rfl|(simp only [List.length_drop,List.length_take];rfl)) ?_;(with_reducible refine (span_Meet.calls kj182 a1_0 a1_1 a1_2 a2_0 a2_1 a2_2 t233 t234 t235 t236 _ A256.out).mono ?_);rintro e w349 ⟨rfl,hb⟩;refine ⟨_,rfl,?_⟩;replace BK197:=bk (g:=gb197) (o:=.cells #[.string a0_0,.string a0_1,.bool a0_2] 23 (0,0)) (by (with_reducible repeat (first|apply bN|apply bD|apply bA|refine blk_far ?_ NB197_232.out _));exact BK197.out) hb;replace BK198:=bk (g:=gb198) (o:=.cells #[.string a1_0,.string a1_1,.bool a1_2] 23 (0,0)) (by (with_reducible repeat (first|apply bN|apply bD|apply bA|refine blk_far ?_ NB198_232.out _));exact BK198.out) hb;replace BK199:=bk (g:=gb199) (o:=.cells #[.string a2_0,.string a2_1,.bool a2_2] 23 (0,0)) (by (with_reducible repeat (first|apply bN|apply bD|apply bA|refine blk_far ?_ NB199_232.out _));exact BK199.out) hb;replace BK211:=bk (g:=gb211) (o:=.cells #[.string t207,.string t208,.bool t209] 23 (0,0)) (by (with_reducible repeat (first|apply bN|apply bD|apply bA|refine blk_far ?_ NB211_232.out _));exact BK211.out) hb;replace BK232:=Aside0.mk (blk_below (g:=gb232) (o:=.cells #[.string t228,.string t229,.bool t230] 23 (0,0)) (by (with_reducible repeat first|apply bN|apply bD|apply bA);refine blk_put (cs:=#[.string t228,.string t229,.bool false]) ?_ 2 _ rfl;(with_reducible repeat first|apply bN|apply bD|apply bA);refine blk_put (cs:=#[.string t228,.string (⟨#[]⟩ : ByteArray),.bool false]) ?_ 1 _ rfl;(with_reducible repeat first|apply bN|apply bD|apply bA);refine blk_put (cs:=#[.string (⟨#[]⟩ : ByteArray),.string (⟨#[]⟩ : ByteArray),.bool false]) ?_ 0 _ rfl;(with_reducible repeat first|apply bN|apply bD|apply bA);exact BK232.out) hb);replace HB:=Aside0.mk (below_step (by repeat (first|(with_reducible first|exact HB.out|apply xA|apply xN|apply xD|refine xS ?_ GE197.out|refine xS ?_ GE198.out|refine xS ?_ GE199.out|refine xS ?_ GE211.out|refine xS ?_ GE232.out)|exact HB.out)) hb);(try clear hb);(try clear hb2);(try clear hk);(try clear hi))|((with_reducible refine gate_dst (N:=11) rfl ?_);refine box_event ?hg (N:=11) ?hd (cs:=#[.string (⟨#[]⟩ : ByteArray),.string (⟨#[]⟩ : ByteArray),.bool false]) (t:=23) ?hr ?_;(case hd => rfl);(case hg => rfl);(case hr => first|(go_simp;done)|(go_simp;rfl));intro gb237 hg w350 hbox hb;have n0_:=bk (by (with_reducible repeat first|apply bN|apply bD|apply bA);exact BK197.out) hb;have n1_:=bk (by (with_reducible repeat first|apply bN|apply bD|apply bA);exact BK198.out) hb;have n2_:=bk (by (with_reducible repeat first|apply bN|apply bD|apply bA);exact BK199.out) hb;have n3_:=bk (by (with_reducible repeat first|apply bN|apply bD|apply bA);exact BK211.out) hb;have n4_:=bk (by (with_reducible repeat first|apply bN|apply bD|apply bA);exact BK232.out) hb;have n5_:=Aside0.mk (below_step (by repeat (first|(with_reducible first|exact HB.out|apply xA|apply xN|apply xD|refine xS ?_ GE197.out|refine xS ?_ GE198.out|refine xS ?_ GE199.out|refine xS ?_ GE211.out|refine xS ?_ GE232.out)|exact HB.out)) hb);have n6_:=Aside0.mk (hbox);have n7_:=Aside0.mk ((by rw [hg];exact (below_size (by repeat (first|(with_reducible first|exact HB.out|apply xA|apply xN|apply xD|refine xS ?_ GE197.out|refine xS ?_ GE198.out|refine xS ?_ GE199.out|refine xS ?_ GE211.out|refine xS ?_ GE232.out)|exact HB.out))) : w.heap.size ≤ gb237));have n8_:=Aside0.mk ((by rw [hg];exact (below_size (by repeat (first|(with_reducible first|exact HB.out|apply xA|apply xN|apply xD|refine xS ?_ GE197.out|refine xS ?_ GE198.out|refine xS ?_ GE199.out|refine xS ?_ GE211.out|refine xS ?_ GE232.out)|exact HB.out))) : w.heap.size ≤ gb237));have n9_:=Aside0.mk ((by rw [hg];exact Nat.ne_of_lt (blk_lt (g:=gb197) (o:=.cells #[.string a0_0,.string a0_1,.bool a0_2] 23 (0,0)) (by (with_reducible repeat first|apply bN|apply bD|apply bA);exact BK197.out)) : gb197 ≠ gb237));have n10_:=Aside0.mk ((by rw [hg];exact Nat.ne_of_gt (blk_lt (g:=gb197) (o:=.cells #[.string a0_0,.string a0_1,.bool a0_2] 23 (0,0)) (by (with_reducible repeat first|apply bN|apply bD|apply bA);exact BK197.out)) : gb237 ≠ gb197));have n11_:=Aside0.mk ((by rw [hg];exact Nat.ne_of_lt (blk_lt (g:=gb198) (o:=.cells #[.string a1_0,.string a1_1,.bool a1_2] 23 (0,0)) (by (with_reducible repeat first|apply bN|apply bD|apply bA);exact BK198.out)) : gb198 ≠ gb237));have n12_:=Aside0.mk ((by rw [hg];exact Nat.ne_of_gt (blk_lt (g:=gb198) (o:=.cells #[.string a1_0,.string a1_1,.bool a1_2] 23 (0,0)) (by (with_reducible repeat first|apply bN|apply bD|apply bA);exact BK198.out)) : gb237 ≠ gb198));have n13_:=Aside0.mk ((by rw [hg];exact Nat.ne_of_lt (blk_lt (g:=gb199) (o:=.cells #[.string a2_0,.string a2_1,.bool a2_2] 23 (0,0)) (by (with_reducible repeat first|apply bN|apply bD|apply bA);exact BK199.out)) : gb199 ≠ gb237));have n14_:=Aside0.mk ((by rw [hg];exact Nat.ne_of_gt (blk_lt (g:=gb199) (o:=.cells #[.string a2_0,.string a2_1,.bool a2_2] 23 (0,0)) (by (with_reducible repeat first|apply bN|apply bD|apply bA);exact BK199.out)) : gb237 ≠ gb199));have n15_:=Aside0.mk ((by rw [hg];exact Nat.ne_of_lt (blk_lt (g:=gb211) (o:=.cells #[.string t207,.string t208,.bool t209] 23 (0,0)) (by (with_reducible repeat first|apply bN|apply bD|apply bA);exact BK211.out)) : gb211 ≠ gb237));have n16_:=Aside0.mk ((by rw [hg];exact Nat.ne_of_gt (blk_lt (g:=gb211) (o:=.cells #[.string t207,.string t208,.bool t209] 23 (0,0)) (by (with_reducible repeat first|apply bN|apply bD|apply bA);exact BK211.out)) : gb237 ≠ gb211));have n17_:=Aside0.mk ((by rw [hg];exact Nat.ne_of_lt (blk_lt (g:=gb232) (o:=.cells #[.string t228,.string t229,.bool t230] 23 (0,0)) (by (with_reducible repeat first|apply bN|apply bD|apply bA);exact BK232.out)) : gb232 ≠ gb237));have n18_:=Aside0.mk ((by rw [hg];exact Nat.ne_of_gt (blk_lt (g:=gb232) (o:=.cells #[.string t228,.string t229,.bool t230] 23 (0,0)) (by (with_reducible repeat first|apply bN|apply bD|apply bA);exact BK232.out)) : gb237 ≠ gb232));clear BK197;clear BK198;clear BK199;clear BK211;clear BK232;clear HB;have BK197:=n0_;have BK198:=n1_;have BK199:=n2_;have BK211:=n3_;have BK232:=n4_;have HB:=n5_;have BK237:=n6_;have GW237:=n7_;have GE237:=n8_;have NB197_237:=n9_;have NB237_197:=n10_;have NB198_237:=n11_;have NB237_198:=n12_;have NB199_237:=n13_;have NB237_199:=n14_;have NB211_237:=n15_;have NB237_211:=n16_;have NB232_237:=n17_;have NB237_232:=n18_;clear n0_ n1_ n2_ n3_ n4_ n5_ n6_ n7_ n8_ n9_ n10_ n11_ n12_ n13_ n14_ n15_ n16_ n17_ n18_;clear hb hbox hg;have hnb351:=NB237_197.out;have hnc351:=NB197_237.out;have hnb352:=NB237_198.out;have hnc352:=NB198_237.out;have hnb353:=NB237_199.out;have hnc353:=NB199_237.out;have hnb354:=NB237_211.out;have hnc354:=NB211_237.out;have hnb355:=NB237_232.out;have hnc355:=NB232_237.out;obtain ⟨hcz356_0,hcz356_1,hcz356_2⟩:=c3 BK237.out;obtain ⟨hfz356_0,hfz356_1,hfz356_2⟩:=f3 BK237.out;obtain ⟨hcz357_0,hcz357_1,hcz357_2⟩:=c3 BK197.out;obtain ⟨hfz357_0,hfz357_1,hfz357_2⟩:=f3 BK197.out)|((with_reducible refine gate_callee (f:=25) rfl ?_);refine goesL_ (some 129) rfl rfl Try.func25 (by kernel_rfl) rfl #[.agg #[.string a0_0,.string a0_1,.bool a0_2],.agg #[.string t233,.string t234,.bool t235]] rfl (by (try simp only [List.map_toArray,List.map_cons,List.map_nil]);first|done|rfl|(simp only [List.length_drop,List.length_take];rfl)) ?_;(with_reducible refine (span_Meet.calls kj182 a0_0 a0_1 a0_2 t233 t234 t235 t238 t239 t240 t241 _ A257.out).mono ?_);rintro e w358 ⟨rfl,hb⟩;refine ⟨_,rfl,?_⟩;replace BK197:=bk (g:=gb197) (o:=.cells #[.string a0_0,.string a0_1,.bool a0_2] 23 (0,0)) (by (with_reducible repeat (first|apply bN|apply bD|apply bA|refine blk_far ?_ NB197_237.out _));exact BK197.out) hb;replace BK198:=bk (g:=gb198) (o:=.cells #[.string a1_0,.string a1_1,.bool a1_2] 23 (0,0)) (by (with_reducible repeat (first|apply bN|apply bD|apply bA|refine blk_far ?_ NB198_237.out _));exact BK198.out) hb;replace BK199:=bk (g:=gb199) (o:=.cells #[.string a2_0,.string a2_1,.bool a2_2] 23 (0,0)) (by (with_reducible repeat (first|apply bN|apply bD|apply bA|refine blk_far ?_ NB199_237.out _));exact BK199.out) hb;replace BK211:=bk (g:=gb211) (o:=.cells #[.string t207,.string t208,.bool t209] 23 (0,0)) (by (with_reducible repeat (first|apply bN|apply bD|apply bA|refine blk_far ?_ NB211_237.out _));exact BK211.out) hb;replace BK232:=bk (g:=gb232) (o:=.cells #[.string t228,.string t229,.bool t230] 23 (0,0)) (by (with_reducible repeat (first|apply bN|apply bD|apply bA|refine blk_far ?_ NB232_237.out _));exact BK232.out) hb;replace BK237:=Aside0.mk (blk_below (g:=gb237) (o:=.cells #[.string t233,.string t234,.bool t235] 23 (0,0)) (by (with_reducible repeat first|apply bN|apply bD|apply bA);refine blk_put (cs:=#[.string t233,.string t234,.bool false]) ?_ 2 _ rfl;(with_reducible repeat first|apply bN|apply bD|apply bA);refine blk_put (cs:=#[.string t233,.string (⟨#[]⟩ : ByteArray),.bool false]) ?_ 1 _ rfl;(with_reducible repeat first|apply bN|apply bD|apply bA);refine blk_put (cs:=#[.string (⟨#[]⟩ : ByteArray),.string (⟨#[]⟩ : ByteArray),.bool false]) ?_ 0 _ rfl;(with_reducible repeat first|apply bN|apply bD|apply bA);exact BK237.out) hb);replace HB:=Aside0.mk (below_step (by repeat (first|(with_reducible first|exact HB.out|apply xA|apply xN|apply xD|refine xS ?_ GE197.out|refine xS ?_ GE198.out|refine xS ?_ GE199.out|refine xS ?_ GE211.out|refine xS ?_ GE232.out|refine xS ?_ GE237.out)|exact HB.out)) hb);(try clear hb);(try clear hb2);(try clear hk);(try clear hi))|((with_reducible refine gate_dst (N:=13) rfl ?_);refine box_event ?hg (N:=13) ?hd (cs:=#[.string (⟨#[]⟩ : ByteArray),.string (⟨#[]⟩ : ByteArray),.bool false]) (t:=23) ?hr ?_;(case hd => rfl);(case hg => rfl);(case hr => first|(go_simp;done)|(go_simp;rfl));intro gb242 hg w359 hbox hb;have n0_:=bk (by (with_reducible repeat first|apply bN|apply bD|apply bA);exact BK197.out) hb;have n1_:=bk (by (with_reducible repeat first|apply bN|apply bD|apply bA);exact BK198.out) hb;have n2_:=bk (by (with_reducible repeat first|apply bN|apply bD|apply bA);exact BK199.out) hb;have n3_:=bk (by (with_reducible repeat first|apply bN|apply bD|apply bA);exact BK211.out) hb;have n4_:=bk (by (with_reducible repeat first|apply bN|apply bD|apply bA);exact BK232.out) hb;have n5_:=bk (by (with_reducible repeat first|apply bN|apply bD|apply bA);exact BK237.out) hb;have n6_:=Aside0.mk (below_step (by repeat (first|(with_reducible first|exact HB.out|apply xA|apply xN|apply xD|refine xS ?_ GE197.out|refine xS ?_ GE198.out|refine xS ?_ GE199.out|refine xS ?_ GE211.out|refine xS ?_ GE232.out|refine xS ?_ GE237.out)|exact HB.out)) hb);have n7_:=Aside0.mk (hbox);have n8_:=Aside0.mk ((by rw [hg];exact (below_size (by repeat (first|(with_reducible first|exact HB.out|apply xA|apply xN|apply xD|refine xS ?_ GE197.out|refine xS ?_ GE198.out|refine xS ?_ GE199.out|refine xS ?_ GE211.out|refine xS ?_ GE232.out|refine xS ?_ GE237.out)|exact HB.out))) : w.heap.size ≤ gb242));have n9_:=Aside0.mk ((by rw [hg];exact (below_size (by repeat (first|(with_reducible first|exact HB.out|apply xA|apply xN|apply xD|refine xS ?_ GE197.out|refine xS ?_ GE198.out|refine xS ?_ GE199.out|refine xS ?_ GE211.out|refine xS ?_ GE232.out|refine xS ?_ GE237.out)|exact HB.out))) : w.heap.size ≤ gb242));have n10_:=Aside0.mk ((by rw [hg];exact Nat.ne_of_lt (blk_lt (g:=gb197) (o:=.cells #[.string a0_0,.string a0_1,.bool a0_2] 23 (0,0)) (by (with_reducible repeat first|apply bN|apply bD|apply bA);exact BK197.out)) : gb197 ≠ gb242));have n11_:=Aside0.mk ((by rw [hg];exact Nat.ne_of_gt (blk_lt (g:=gb197) (o:=.cells #[.string a0_0,.string a0_1,.bool a0_2] 23 (0,0)) (by (with_reducible repeat first|apply bN|apply bD|apply bA);exact BK197.out)) : gb242 ≠ gb197));have n12_:=Aside0.mk ((by rw [hg];exact Nat.ne_of_lt (blk_lt (g:=gb198) (o:=.cells #[.string a1_0,.string a1_1,.bool a1_2] 23 (0,0)) (by (with_reducible repeat first|apply bN|apply bD|apply bA);exact BK198.out)) : gb198 ≠ gb242));have n13_:=Aside0.mk ((by rw [hg];exact Nat.ne_of_gt (blk_lt (g:=gb198) (o:=.cells #[.string a1_0,.string a1_1,.bool a1_2] 23 (0,0)) (by (with_reducible repeat first|apply bN|apply bD|apply bA);exact BK198.out)) : gb242 ≠ gb198));have n14_:=Aside0.mk ((by rw [hg];exact Nat.ne_of_lt (blk_lt (g:=gb199) (o:=.cells #[.string a2_0,.string a2_1,.bool a2_2] 23 (0,0)) (by (with_reducible repeat first|apply bN|apply bD|apply bA);exact BK199.out)) : gb199 ≠ gb242));have n15_:=Aside0.mk ((by rw [hg];exact Nat.ne_of_gt (blk_lt (g:=gb199) (o:=.cells #[.string a2_0,.string a2_1,.bool a2_2] 23 (0,0)) (by (with_reducible repeat first|apply bN|apply bD|apply bA);exact BK199.out)) : gb242 ≠ gb199));have n16_:=Aside0.mk ((by rw [hg];exact Nat.ne_of_lt (blk_lt (g:=gb211) (o:=.cells #[.string t207,.string t208,.bool t209] 23 (0,0)) (by (with_reducible repeat first|apply bN|apply bD|apply bA);exact BK211.out)) : gb211 ≠ gb242));have n17_:=Aside0.mk ((by rw [hg];exact Nat.ne_of_gt (blk_lt (g:=gb211) (o:=.cells #[.string t207,.string t208,.bool t209] 23 (0,0)) (by (with_reducible repeat first|apply bN|apply bD|apply bA);exact BK211.out)) : gb242 ≠ gb211));have n18_:=Aside0.mk ((by rw [hg];exact Nat.ne_of_lt (blk_lt (g:=gb232) (o:=.cells #[.string t228,.string t229,.bool t230] 23 (0,0)) (by (with_reducible repeat first|apply bN|apply bD|apply bA);exact BK232.out)) : gb232 ≠ gb242));have n19_:=Aside0.mk ((by rw [hg];exact Nat.ne_of_gt (blk_lt (g:=gb232) (o:=.cells #[.string t228,.string t229,.bool t230] 23 (0,0)) (by (with_reducible repeat first|apply bN|apply bD|apply bA);exact BK232.out)) : gb242 ≠ gb232));have n20_:=Aside0.mk ((by rw [hg];exact Nat.ne_of_lt (blk_lt (g:=gb237) (o:=.cells #[.string t233,.string t234,.bool t235] 23 (0,0)) (by (with_reducible repeat first|apply bN|apply bD|apply bA);exact BK237.out)) : gb237 ≠ gb242));have n21_:=Aside0.mk ((by rw [hg];exact Nat.ne_of_gt (blk_lt (g:=gb237) (o:=.cells #[.string t233,.string t234,.bool t235] 23 (0,0)) (by (with_reducible repeat first|apply bN|apply bD|apply bA);exact BK237.out)) : gb242 ≠ gb237));clear BK197;clear BK198;clear BK199;clear BK211;clear BK232;clear BK237;clear HB;have BK197:=n0_;have BK198:=n1_;have BK199:=n2_;have BK211:=n3_;have BK232:=n4_;have BK237:=n5_;have HB:=n6_;have BK242:=n7_;have GW242:=n8_;have GE242:=n9_;have NB197_242:=n10_;have NB242_197:=n11_;have NB198_242:=n12_;have NB242_198:=n13_;have NB199_242:=n14_;have NB242_199:=n15_;have NB211_242:=n16_;have NB242_211:=n17_;have NB232_242:=n18_;have NB242_232:=n19_;have NB237_242:=n20_;have NB242_237:=n21_;clear n0_ n1_ n2_ n3_ n4_ n5_ n6_ n7_ n8_ n9_ n10_ n11_ n12_ n13_ n14_ n15_ n16_ n17_ n18_ n19_ n20_ n21_;clear hb hbox hg;have hnb360:=NB242_197.out;have hnc360:=NB197_242.out;have hnb361:=NB242_198.out;have hnc361:=NB198_242.out;have hnb362:=NB242_199.out;have hnc362:=NB199_242.out;have hnb363:=NB242_211.out;have hnc363:=NB211_242.out;have hnb364:=NB242_232.out;have hnc364:=NB232_242.out;have hnb365:=NB242_237.out;have hnc365:=NB237_242.out;obtain ⟨hcz366_0,hcz366_1,hcz366_2⟩:=c3 BK242.out;obtain ⟨hfz366_0,hfz366_1,hfz366_2⟩:=f3 BK242.out))
               go_ret
               exact ⟨by first|rfl|(simp [errW_none,errW_some] <;> rfl)|(simp [*,errW_none,errW_some] <;> rfl),by repeat (first|(with_reducible first|exact HB.out|apply xA|apply xN|apply xD|refine xS ?_ GE197.out|refine xS ?_ GE198.out|refine xS ?_ GE199.out|refine xS ?_ GE211.out|refine xS ?_ GE232.out|refine xS ?_ GE237.out|refine xS ?_ GE242.out)|exact HB.out)⟩
 ·replace c5:=Bool.eq_false_iff.mpr c5
  subst c5
  have H1 : (none) = some r:=by rw [if_neg (show ¬ (false = true) by decide)] at H;exact H
  clear H
  have H:=H1
  clear H1
  exact absurd H (by simp)

end Go.Proofs.Ytgdhgamolenfgaa.PAll
