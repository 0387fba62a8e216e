-- By wip/pr.py (a program of this session, over the kit's print): lines written by program. Not trusted: Lean checks them.
import Derived.Test.YthalodnfecaccaaPAllx0
import Derived.Test.YthalodnfecaccaaPAllx1
import Derived.Test.YthalodnfecaccaaPAllx2
import Derived.Test.YthalodnfecaccaaPAllx3
namespace Go.Proofs.Ythalodnfecaccaa.PAll
open Go.RowKit Go.Proofs.YthalodnfecaccaaW.PrintWords Go.Proofs.YthalodnfecaccaaW.PrintLast Go.Proofs.YthalodnfecaccaaW.PrintMore
attribute [local go_sem] max2_int min2_int max_two min_two max_three min_three max_four min_four   -- for this text's walks alone
set_option linter.unusedVariables false
set_option linter.unusedSimpArgs false

attribute [local go_sem high] eqA23 eqA25
/-! ### tidelinelaw03_ItemBest: function 5 -/
mutual
def tidelinelaw03_ItemBest.j0 : Nat → Bool → ByteArray → Int → Int → ByteArray → Bool → ByteArray → Int → Int → ByteArray → Bool → ByteArray → Int → Int → ByteArray → Bool → Option (Bool)
  | 0, _, _, _, _, _, _, _, _, _, _, _, _, _, _, _, _ => none
  | k + 1, x19, x130000, x130001, x130002, x130003, x130004, x131000, x131001, x131002, x131003, x131004, x132000, x132001, x132002, x132003, x132004 => if x19 = true then (some true) else ((item_Newer.f k x130000 x130001 x130002 x130003 x130004 x131000 x131001 x131002 x131003 x131004).bind fun t135 => ((tidelineref03_Newer.f x130000 x130001 x130002 x130003 x130004 x131000 x131001 x131002 x131003 x131004).bind fun t136 => (if (t135 != t136) = true then (tidelinelaw03_ItemBest.j1 k true x130000 x130001 x130002 x130003 x130004 x131000 x131001 x131002 x131003 x131004 x132000 x132001 x132002 x132003 x132004) else ((item_Best.f k x130000 x130001 x130002 x130003 x130004 x131000 x131001 x131002 x131003 x131004).bind fun bt137 => ((tidelineref03_Best.f x130000 x130001 x130002 x130003 x130004 x131000 x131001 x131002 x131003 x131004).bind fun bt142 => (tidelinelaw03_ItemBest.j1 k (!(bt137.1.toList == bt142.1.toList) || ((!(bt137.2.1 == bt142.2.1) || (!(bt137.2.2.1 == bt142.2.2.1))) || (!(bt137.2.2.2.1.toList == bt142.2.2.2.1.toList) || (!(bt137.2.2.2.2 == bt142.2.2.2.2))))) x130000 x130001 x130002 x130003 x130004 x131000 x131001 x131002 x131003 x131004 x132000 x132001 x132002 x132003 x132004))))))
def tidelinelaw03_ItemBest.j1 : Nat → Bool → ByteArray → Int → Int → ByteArray → Bool → ByteArray → Int → Int → ByteArray → Bool → ByteArray → Int → Int → ByteArray → Bool → Option (Bool)
  | 0, _, _, _, _, _, _, _, _, _, _, _, _, _, _, _, _ => none
  | k + 1, x35, x130000, x130001, x130002, x130003, x130004, x131000, x131001, x131002, x131003, x131004, x132000, x132001, x132002, x132003, x132004 => if x35 = true then (none) else ((item_Best.f k x130000 x130001 x130002 x130003 x130004 x131000 x131001 x131002 x131003 x131004).bind fun bt147 => ((item_Best.f k bt147.1 bt147.2.1 bt147.2.2.1 bt147.2.2.2.1 bt147.2.2.2.2 x132000 x132001 x132002 x132003 x132004).bind fun bt152 => ((item_Best.f k x131000 x131001 x131002 x131003 x131004 x132000 x132001 x132002 x132003 x132004).bind fun bt158 => ((item_Best.f k x130000 x130001 x130002 x130003 x130004 bt158.1 bt158.2.1 bt158.2.2.1 bt158.2.2.2.1 bt158.2.2.2.2).bind fun bt163 => ((item_Best.f k x131000 x131001 x131002 x131003 x131004 x130000 x130001 x130002 x130003 x130004).bind fun bt169 => ((item_Best.f k x132000 x132001 x132002 x132003 x132004 bt169.1 bt169.2.1 bt169.2.2.1 bt169.2.2.2.1 bt169.2.2.2.2).bind fun bt174 => (if (x130001 == x131001 && (x130002 == x131002)) = true then (tidelinelaw03_ItemBest.j2 k true x130000 x130001 x130002 x130003 x130004 x131000 x131001 x131002 x131003 x131004 x132000 x132001 x132002 x132003 x132004 bt152.1 bt152.2.1 bt152.2.2.1 bt152.2.2.2.1 bt152.2.2.2.2 bt163.1 bt163.2.1 bt163.2.2.1 bt163.2.2.2.1 bt163.2.2.2.2 bt174.1 bt174.2.1 bt174.2.2.1 bt174.2.2.2.1 bt174.2.2.2.2) else (if (x131001 == x132001 && (x131002 == x132002)) = true then (tidelinelaw03_ItemBest.j2 k true x130000 x130001 x130002 x130003 x130004 x131000 x131001 x131002 x131003 x131004 x132000 x132001 x132002 x132003 x132004 bt152.1 bt152.2.1 bt152.2.2.1 bt152.2.2.2.1 bt152.2.2.2.2 bt163.1 bt163.2.1 bt163.2.2.1 bt163.2.2.2.1 bt163.2.2.2.2 bt174.1 bt174.2.1 bt174.2.2.1 bt174.2.2.2.1 bt174.2.2.2.2) else (tidelinelaw03_ItemBest.j2 k (x130001 == x132001 && (x130002 == x132002)) x130000 x130001 x130002 x130003 x130004 x131000 x131001 x131002 x131003 x131004 x132000 x132001 x132002 x132003 x132004 bt152.1 bt152.2.1 bt152.2.2.1 bt152.2.2.2.1 bt152.2.2.2.2 bt163.1 bt163.2.1 bt163.2.2.1 bt163.2.2.2.1 bt163.2.2.2.2 bt174.1 bt174.2.1 bt174.2.2.1 bt174.2.2.2.1 bt174.2.2.2.2)))))))))
def tidelinelaw03_ItemBest.j2 : Nat → Bool → ByteArray → Int → Int → ByteArray → Bool → ByteArray → Int → Int → ByteArray → Bool → ByteArray → Int → Int → ByteArray → Bool → ByteArray → Int → Int → ByteArray → Bool → ByteArray → Int → Int → ByteArray → Bool → ByteArray → Int → Int → ByteArray → Bool → Option (Bool)
  | 0, _, _, _, _, _, _, _, _, _, _, _, _, _, _, _, _, _, _, _, _, _, _, _, _, _, _, _, _, _, _, _ => none
  | k + 1, x69, x130000, x130001, x130002, x130003, x130004, x131000, x131001, x131002, x131003, x131004, x132000, x132001, x132002, x132003, x132004, x158000, x158001, x158002, x158003, x158004, x169000, x169001, x169002, x169003, x169004, x180000, x180001, x180002, x180003, x180004 => if x69 = true then (some (x158000.toList == x169000.toList && ((x158001 == x169001 && (x158002 == x169002)) && (x158003.toList == x169003.toList && (x158004 == x169004))))) else (if (x158000.toList == x169000.toList && ((x158001 == x169001 && (x158002 == x169002)) && (x158003.toList == x169003.toList && (x158004 == x169004)))) = true then (if (x158000.toList == x180000.toList && ((x158001 == x180001 && (x158002 == x180002)) && (x158003.toList == x180003.toList && (x158004 == x180004)))) = true then ((item_Newer.f k x130000 x130001 x130002 x130003 x130004 x158000 x158001 x158002 x158003 x158004).bind fun t180 => (if t180 = true then (none) else ((item_Newer.f k x131000 x131001 x131002 x131003 x131004 x158000 x158001 x158002 x158003 x158004).bind fun t181 => (if t181 = true then (none) else ((item_Newer.f k x132000 x132001 x132002 x132003 x132004 x158000 x158001 x158002 x158003 x158004).bind fun t182 => (some (!t182))))))) else (none)) else (none))
end
def tidelinelaw03_ItemBest.f (k : Nat) (a0_0 : ByteArray) (a0_1 : Int) (a0_2 : Int) (a0_3 : ByteArray) (a0_4 : Bool) (a1_0 : ByteArray) (a1_1 : Int) (a1_2 : Int) (a1_3 : ByteArray) (a1_4 : Bool) (a2_0 : ByteArray) (a2_1 : Int) (a2_2 : Int) (a2_3 : ByteArray) (a2_4 : Bool) : Option (Bool) := (tidelinelaw03_long.f a0_0 a0_1 a0_2 a0_3 a0_4).bind fun t132 => (if t132 = true then (tidelinelaw03_ItemBest.j0 k true a0_0 a0_1 a0_2 a0_3 a0_4 a1_0 a1_1 a1_2 a1_3 a1_4 a2_0 a2_1 a2_2 a2_3 a2_4) else ((tidelinelaw03_long.f a1_0 a1_1 a1_2 a1_3 a1_4).bind fun t133 => (if t133 = true then (tidelinelaw03_ItemBest.j0 k true a0_0 a0_1 a0_2 a0_3 a0_4 a1_0 a1_1 a1_2 a1_3 a1_4 a2_0 a2_1 a2_2 a2_3 a2_4) else ((tidelinelaw03_long.f a2_0 a2_1 a2_2 a2_3 a2_4).bind fun t134 => (tidelinelaw03_ItemBest.j0 k t134 a0_0 a0_1 a0_2 a0_3 a0_4 a1_0 a1_1 a1_2 a1_3 a1_4 a2_0 a2_1 a2_2 a2_3 a2_4)))))
theorem tidelinelaw03_ItemBest.mono_l : ∀ k, (∀ y0 y1 y2 y3 y4 y5 y6 y7 y8 y9 y10 y11 y12 y13 y14 y15, LeO (tidelinelaw03_ItemBest.j0 k y0 y1 y2 y3 y4 y5 y6 y7 y8 y9 y10 y11 y12 y13 y14 y15) (tidelinelaw03_ItemBest.j0 (k + 1) y0 y1 y2 y3 y4 y5 y6 y7 y8 y9 y10 y11 y12 y13 y14 y15)) ∧ (∀ y0 y1 y2 y3 y4 y5 y6 y7 y8 y9 y10 y11 y12 y13 y14 y15, LeO (tidelinelaw03_ItemBest.j1 k y0 y1 y2 y3 y4 y5 y6 y7 y8 y9 y10 y11 y12 y13 y14 y15) (tidelinelaw03_ItemBest.j1 (k + 1) y0 y1 y2 y3 y4 y5 y6 y7 y8 y9 y10 y11 y12 y13 y14 y15)) ∧ (∀ y0 y1 y2 y3 y4 y5 y6 y7 y8 y9 y10 y11 y12 y13 y14 y15 y16 y17 y18 y19 y20 y21 y22 y23 y24 y25 y26 y27 y28 y29 y30, LeO (tidelinelaw03_ItemBest.j2 k y0 y1 y2 y3 y4 y5 y6 y7 y8 y9 y10 y11 y12 y13 y14 y15 y16 y17 y18 y19 y20 y21 y22 y23 y24 y25 y26 y27 y28 y29 y30) (tidelinelaw03_ItemBest.j2 (k + 1) y0 y1 y2 y3 y4 y5 y6 y7 y8 y9 y10 y11 y12 y13 y14 y15 y16 y17 y18 y19 y20 y21 y22 y23 y24 y25 y26 y27 y28 y29 y30))
  | 0 => ⟨fun _ _ _ _ _ _ _ _ _ _ _ _ _ _ _ _ r h => by simp [tidelinelaw03_ItemBest.j0] at h, fun _ _ _ _ _ _ _ _ _ _ _ _ _ _ _ _ r h => by simp [tidelinelaw03_ItemBest.j1] at h, fun _ _ _ _ _ _ _ _ _ _ _ _ _ _ _ _ _ _ _ _ _ _ _ _ _ _ _ _ _ _ _ r h => by simp [tidelinelaw03_ItemBest.j2] at h⟩
  | k + 1 => by
    obtain ⟨ih0, ih1, ih2⟩ := tidelinelaw03_ItemBest.mono_l k
    refine ⟨?_, ?_, ?_⟩
    · intro y0 y1 y2 y3 y4 y5 y6 y7 y8 y9 y10 y11 y12 y13 y14 y15
      unfold tidelinelaw03_ItemBest.j0
      repeat' first
      | (with_reducible exact ih0 _ _ _ _ _ _ _ _ _ _ _ _ _ _ _ _)
      | (with_reducible exact ih1 _ _ _ _ _ _ _ _ _ _ _ _ _ _ _ _)
      | (with_reducible exact ih2 _ _ _ _ _ _ _ _ _ _ _ _ _ _ _ _ _ _ _ _ _ _ _ _ _ _ _ _ _ _ _)
      | (with_reducible exact item_Best.mono _ _ _ _ _ _ _ _ _ _ _)
      | (with_reducible exact item_Newer.mono _ _ _ _ _ _ _ _ _ _ _)
      | (with_reducible exact LeO.refl _)
      | (with_reducible exact LeO.none _)
      | (with_reducible refine LeO.ite ?_ ?_)
      | (with_reducible refine LeO.bind ?_ (fun _ => ?_))
      | exact ih0 _ _ _ _ _ _ _ _ _ _ _ _ _ _ _ _
      | exact ih1 _ _ _ _ _ _ _ _ _ _ _ _ _ _ _ _
      | exact ih2 _ _ _ _ _ _ _ _ _ _ _ _ _ _ _ _ _ _ _ _ _ _ _ _ _ _ _ _ _ _ _
      | exact item_Best.mono _ _ _ _ _ _ _ _ _ _ _
      | exact item_Newer.mono _ _ _ _ _ _ _ _ _ _ _
      | exact LeO.none _
      | refine LeO.ite ?_ ?_
      | refine LeO.bind ?_ (fun _ => ?_)
    · intro y0 y1 y2 y3 y4 y5 y6 y7 y8 y9 y10 y11 y12 y13 y14 y15
      unfold tidelinelaw03_ItemBest.j1
      repeat' first
      | (with_reducible exact ih0 _ _ _ _ _ _ _ _ _ _ _ _ _ _ _ _)
      | (with_reducible exact ih1 _ _ _ _ _ _ _ _ _ _ _ _ _ _ _ _)
      | (with_reducible exact ih2 _ _ _ _ _ _ _ _ _ _ _ _ _ _ _ _ _ _ _ _ _ _ _ _ _ _ _ _ _ _ _)
      | (with_reducible exact item_Best.mono _ _ _ _ _ _ _ _ _ _ _)
      | (with_reducible exact item_Newer.mono _ _ _ _ _ _ _ _ _ _ _)
      | (with_reducible exact LeO.refl _)
      | (with_reducible exact LeO.none _)
      | (with_reducible refine LeO.ite ?_ ?_)
      | (with_reducible refine LeO.bind ?_ (fun _ => ?_))
      | exact ih0 _ _ _ _ _ _ _ _ _ _ _ _ _ _ _ _
      | exact ih1 _ _ _ _ _ _ _ _ _ _ _ _ _ _ _ _
      | exact ih2 _ _ _ _ _ _ _ _ _ _ _ _ _ _ _ _ _ _ _ _ _ _ _ _ _ _ _ _ _ _ _
      | exact item_Best.mono _ _ _ _ _ _ _ _ _ _ _
      | exact item_Newer.mono _ _ _ _ _ _ _ _ _ _ _
      | exact LeO.none _
      | refine LeO.ite ?_ ?_
      | refine LeO.bind ?_ (fun _ => ?_)
    · intro y0 y1 y2 y3 y4 y5 y6 y7 y8 y9 y10 y11 y12 y13 y14 y15 y16 y17 y18 y19 y20 y21 y22 y23 y24 y25 y26 y27 y28 y29 y30
      unfold tidelinelaw03_ItemBest.j2
      repeat' first
      | (with_reducible exact ih0 _ _ _ _ _ _ _ _ _ _ _ _ _ _ _ _)
      | (with_reducible exact ih1 _ _ _ _ _ _ _ _ _ _ _ _ _ _ _ _)
      | (with_reducible exact ih2 _ _ _ _ _ _ _ _ _ _ _ _ _ _ _ _ _ _ _ _ _ _ _ _ _ _ _ _ _ _ _)
      | (with_reducible exact item_Best.mono _ _ _ _ _ _ _ _ _ _ _)
      | (with_reducible exact item_Newer.mono _ _ _ _ _ _ _ _ _ _ _)
      | (with_reducible exact LeO.refl _)
      | (with_reducible exact LeO.none _)
      | (with_reducible refine LeO.ite ?_ ?_)
      | (with_reducible refine LeO.bind ?_ (fun _ => ?_))
      | exact ih0 _ _ _ _ _ _ _ _ _ _ _ _ _ _ _ _
      | exact ih1 _ _ _ _ _ _ _ _ _ _ _ _ _ _ _ _
      | exact ih2 _ _ _ _ _ _ _ _ _ _ _ _ _ _ _ _ _ _ _ _ _ _ _ _ _ _ _ _ _ _ _
      | exact item_Best.mono _ _ _ _ _ _ _ _ _ _ _
      | exact item_Newer.mono _ _ _ _ _ _ _ _ _ _ _
      | exact LeO.none _
      | refine LeO.ite ?_ ?_
      | refine LeO.bind ?_ (fun _ => ?_)
theorem tidelinelaw03_ItemBest.mono : ∀ a0 a1 a2 a3 a4 a5 a6 a7 a8 a9 a10 a11 a12 a13 a14 k, LeO (tidelinelaw03_ItemBest.f k a0 a1 a2 a3 a4 a5 a6 a7 a8 a9 a10 a11 a12 a13 a14) (tidelinelaw03_ItemBest.f (k + 1) a0 a1 a2 a3 a4 a5 a6 a7 a8 a9 a10 a11 a12 a13 a14) := by
  intro a0 a1 a2 a3 a4 a5 a6 a7 a8 a9 a10 a11 a12 a13 a14 k
  obtain ⟨ih0, ih1, ih2⟩ := tidelinelaw03_ItemBest.mono_l k
  unfold tidelinelaw03_ItemBest.f
  repeat' first
      | (with_reducible exact ih0 _ _ _ _ _ _ _ _ _ _ _ _ _ _ _ _)
      | (with_reducible exact ih1 _ _ _ _ _ _ _ _ _ _ _ _ _ _ _ _)
      | (with_reducible exact ih2 _ _ _ _ _ _ _ _ _ _ _ _ _ _ _ _ _ _ _ _ _ _ _ _ _ _ _ _ _ _ _)
      | (with_reducible exact item_Best.mono _ _ _ _ _ _ _ _ _ _ _)
      | (with_reducible exact item_Newer.mono _ _ _ _ _ _ _ _ _ _ _)
      | (with_reducible exact LeO.refl _)
      | (with_reducible exact LeO.none _)
      | (with_reducible refine LeO.ite ?_ ?_)
      | (with_reducible refine LeO.bind ?_ (fun _ => ?_))
      | exact ih0 _ _ _ _ _ _ _ _ _ _ _ _ _ _ _ _
      | exact ih1 _ _ _ _ _ _ _ _ _ _ _ _ _ _ _ _
      | exact ih2 _ _ _ _ _ _ _ _ _ _ _ _ _ _ _ _ _ _ _ _ _ _ _ _ _ _ _ _ _ _ _
      | exact item_Best.mono _ _ _ _ _ _ _ _ _ _ _
      | exact item_Newer.mono _ _ _ _ _ _ _ _ _ _ _
      | exact LeO.none _
      | refine LeO.ite ?_ ?_
      | refine LeO.bind ?_ (fun _ => ?_)
def tidelinelaw03_ItemBest.T3 : Bool × List (List Nat × List Nat) := (true, [([], []), ([], []), ([0, 1], [0, 1]), ([], []), ([], []), ([3, 4, 2], [3, 4]), ([2, 5], [2, 5]), ([6, 5], [6]), ([7], [7]), ([7], [7]), ([8, 9, 7, 7], [7, 8, 9]), ([7], [7]), ([7], [7]), ([11, 12, 10, 7], [7, 11, 12]), ([10, 13, 7], [7, 10, 13]), ([7, 14], [7, 14])])
def tidelinelaw03_ItemBest.B3 : List Nat := [0, 0, 3, 0, 0, 31, 63, 127, 255, 255, 1023, 255, 255, 8191, 16383, 32767]
theorem tidelinelaw03_ItemBest.tab3 : rtab .any (opsOf Try.f5 3) = tidelinelaw03_ItemBest.T3 := by kernel_rfl
theorem tidelinelaw03_ItemBest.bits3 : waitsOk tidelinelaw03_ItemBest.T3.2 tidelinelaw03_ItemBest.B3 = true := by kernel_rfl
set_option maxHeartbeats 8000000 in
set_option maxRecDepth 100000 in
theorem tidelinelaw03_ItemBest.calls (k : Nat) (a0_0 : ByteArray) (a0_1 : Int) (a0_2 : Int) (a0_3 : ByteArray) (a0_4 : Bool) (a1_0 : ByteArray) (a1_1 : Int) (a1_2 : Int) (a1_3 : ByteArray) (a1_4 : Bool) (a2_0 : ByteArray) (a2_1 : Int) (a2_2 : Int) (a2_3 : ByteArray) (a2_4 : Bool) (r : Bool) (w : World) (h : tidelinelaw03_ItemBest.f k a0_0 a0_1 a0_2 a0_3 a0_4 a1_0 a1_1 a1_2 a1_3 a1_4 a2_0 a2_1 a2_2 a2_3 a2_4 = some r) :
    Calls Try.prog 5 #[.agg #[.string a0_0, .int .i64 a0_1, .int .i64 a0_2, .string a0_3, .bool a0_4], .agg #[.string a1_0, .int .i64 a1_1, .int .i64 a1_2, .string a1_3, .bool a1_4], .agg #[.string a2_0, .int .i64 a2_1, .int .i64 a2_2, .string a2_3, .bool a2_4]] w fun e w' => e = .returned (.bool r) ∧ Below w.heap.size w w' := by
 have hu25:=Try.underlying25
 have hu23:=Try.underlying23
 have HB:=Aside0.mk (Below.refl w.heap.size w)
 have H : ((tidelinelaw03_long.f a0_0 a0_1 a0_2 a0_3 a0_4).bind fun t132 => (if t132 = true then (tidelinelaw03_ItemBest.j0 k true a0_0 a0_1 a0_2 a0_3 a0_4 a1_0 a1_1 a1_2 a1_3 a1_4 a2_0 a2_1 a2_2 a2_3 a2_4) else ((tidelinelaw03_long.f a1_0 a1_1 a1_2 a1_3 a1_4).bind fun t133 => (if t133 = true then (tidelinelaw03_ItemBest.j0 k true a0_0 a0_1 a0_2 a0_3 a0_4 a1_0 a1_1 a1_2 a1_3 a1_4 a2_0 a2_1 a2_2 a2_3 a2_4) else ((tidelinelaw03_long.f a2_0 a2_1 a2_2 a2_3 a2_4).bind fun t134 => (tidelinelaw03_ItemBest.j0 k t134 a0_0 a0_1 a0_2 a0_3 a0_4 a1_0 a1_1 a1_2 a1_3 a1_4 a2_0 a2_1 a2_2 a2_3 a2_4)))))) = some r:=h
 clear h
 have HC4:=Aside0.mk H
 clear H
 go_enter Try.func5,Try.ntmps5
 go_upto_region 1 with (first | ((with_reducible refine gate_dst (N:=3) rfl ?_);refine box_event ?hg (N:=3) ?hd (cs:=#[.string a0_0,.int .i64 a0_1,.int .i64 a0_2,.string a0_3,.bool a0_4]) (t:=25) ?hr ?_;(case hd => rfl);(case hg => rfl);(case hr => first | (go_simp;done) | (go_simp;rfl));intro gb129 hg w5 hbox hb;have n0_:=Aside0.mk (below_step (by repeat (first | (with_reducible first | exact HB.out | apply below_alloc | apply pw_below_drewN | apply below_drew1) | exact HB.out)) hb);have n1_:=Aside0.mk (hbox);have n2_:=Aside0.mk ((by rw [hg];exact (below_size (by repeat (first | (with_reducible first | exact HB.out | apply below_alloc | apply pw_below_drewN | apply below_drew1) | exact HB.out))) : w.heap.size ≤ gb129));have n3_:=Aside0.mk ((by rw [hg];exact (below_size (by repeat (first | (with_reducible first | exact HB.out | apply below_alloc | apply pw_below_drewN | apply below_drew1) | exact HB.out))) : w.heap.size ≤ gb129));clear HB;have HB:=n0_;have BK129:=n1_;have GW129:=n2_;have GE129:=n3_;clear n0_ n1_ n2_ n3_;clear hb hbox hg) | ((with_reducible refine gate_dst (N:=4) rfl ?_);refine box_event ?hg (N:=4) ?hd (cs:=#[.string a1_0,.int .i64 a1_1,.int .i64 a1_2,.string a1_3,.bool a1_4]) (t:=25) ?hr ?_;(case hd => rfl);(case hg => rfl);(case hr => first | (go_simp;done) | (go_simp;rfl));intro gb130 hg w6 hbox hb;have n0_:=Aside0.mk (blk_below (g:=gb129) (o:=.cells #[.string a0_0,.int .i64 a0_1,.int .i64 a0_2,.string a0_3,.bool a0_4] 25 (0,0)) (by (with_reducible repeat first|apply bN|apply bD|apply bA);exact BK129.out) hb);have n1_:=Aside0.mk (below_step (by repeat (first | (with_reducible first | exact HB.out | apply below_alloc | apply pw_below_drewN | apply below_drew1 | refine below_set ?_ GE129.out) | exact HB.out)) hb);have n2_:=Aside0.mk (hbox);have n3_:=Aside0.mk ((by rw [hg];exact (below_size (by repeat (first | (with_reducible first | exact HB.out | apply below_alloc | apply pw_below_drewN | apply below_drew1 | refine below_set ?_ GE129.out) | exact HB.out))) : w.heap.size ≤ gb130));have n4_:=Aside0.mk ((by rw [hg];exact (below_size (by repeat (first | (with_reducible first | exact HB.out | apply below_alloc | apply pw_below_drewN | apply below_drew1 | refine below_set ?_ GE129.out) | exact HB.out))) : w.heap.size ≤ gb130));have n5_:=Aside0.mk ((by rw [hg];exact Nat.ne_of_lt (blk_lt (g:=gb129) (o:=.cells #[.string a0_0,.int .i64 a0_1,.int .i64 a0_2,.string a0_3,.bool a0_4] 25 (0,0)) (by (with_reducible repeat first|apply bN|apply bD|apply bA);exact BK129.out)) : gb129 ≠ gb130));have n6_:=Aside0.mk ((by rw [hg];exact Nat.ne_of_gt (blk_lt (g:=gb129) (o:=.cells #[.string a0_0,.int .i64 a0_1,.int .i64 a0_2,.string a0_3,.bool a0_4] 25 (0,0)) (by (with_reducible repeat first|apply bN|apply bD|apply bA);exact BK129.out)) : gb130 ≠ gb129));clear BK129;clear HB;have BK129:=n0_;have HB:=n1_;have BK130:=n2_;have GW130:=n3_;have GE130:=n4_;have NB129_130:=n5_;have NB130_129:=n6_;clear n0_ n1_ n2_ n3_ n4_ n5_ n6_;clear hb hbox hg) | ((with_reducible refine gate_dst (N:=5) rfl ?_);refine box_event ?hg (N:=5) ?hd (cs:=#[.string a2_0,.int .i64 a2_1,.int .i64 a2_2,.string a2_3,.bool a2_4]) (t:=25) ?hr ?_;(case hd => rfl);(case hg => rfl);(case hr => first | (go_simp;done) | (go_simp;rfl));intro gb131 hg w7 hbox hb;have n0_:=Aside0.mk (blk_below (g:=gb129) (o:=.cells #[.string a0_0,.int .i64 a0_1,.int .i64 a0_2,.string a0_3,.bool a0_4] 25 (0,0)) (by (with_reducible repeat first|apply bN|apply bD|apply bA);exact BK129.out) hb);have n1_:=Aside0.mk (blk_below (g:=gb130) (o:=.cells #[.string a1_0,.int .i64 a1_1,.int .i64 a1_2,.string a1_3,.bool a1_4] 25 (0,0)) (by (with_reducible repeat first|apply bN|apply bD|apply bA);exact BK130.out) hb);have n2_:=Aside0.mk (below_step (by repeat (first | (with_reducible first | exact HB.out | apply below_alloc | apply pw_below_drewN | apply below_drew1 | refine below_set ?_ GE129.out | refine below_set ?_ GE130.out) | exact HB.out)) hb);have n3_:=Aside0.mk (hbox);have n4_:=Aside0.mk ((by rw [hg];exact (below_size (by repeat (first | (with_reducible first | exact HB.out | apply below_alloc | apply pw_below_drewN | apply below_drew1 | refine below_set ?_ GE129.out | refine below_set ?_ GE130.out) | exact HB.out))) : w.heap.size ≤ gb131));have n5_:=Aside0.mk ((by rw [hg];exact (below_size (by repeat (first | (with_reducible first | exact HB.out | apply below_alloc | apply pw_below_drewN | apply below_drew1 | refine below_set ?_ GE129.out | refine below_set ?_ GE130.out) | exact HB.out))) : w.heap.size ≤ gb131));have n6_:=Aside0.mk ((by rw [hg];exact Nat.ne_of_lt (blk_lt (g:=gb129) (o:=.cells #[.string a0_0,.int .i64 a0_1,.int .i64 a0_2,.string a0_3,.bool a0_4] 25 (0,0)) (by (with_reducible repeat first|apply bN|apply bD|apply bA);exact BK129.out)) : gb129 ≠ gb131));have n7_:=Aside0.mk ((by rw [hg];exact Nat.ne_of_gt (blk_lt (g:=gb129) (o:=.cells #[.string a0_0,.int .i64 a0_1,.int .i64 a0_2,.string a0_3,.bool a0_4] 25 (0,0)) (by (with_reducible repeat first|apply bN|apply bD|apply bA);exact BK129.out)) : gb131 ≠ gb129));have n8_:=Aside0.mk ((by rw [hg];exact Nat.ne_of_lt (blk_lt (g:=gb130) (o:=.cells #[.string a1_0,.int .i64 a1_1,.int .i64 a1_2,.string a1_3,.bool a1_4] 25 (0,0)) (by (with_reducible repeat first|apply bN|apply bD|apply bA);exact BK130.out)) : gb130 ≠ gb131));have n9_:=Aside0.mk ((by rw [hg];exact Nat.ne_of_gt (blk_lt (g:=gb130) (o:=.cells #[.string a1_0,.int .i64 a1_1,.int .i64 a1_2,.string a1_3,.bool a1_4] 25 (0,0)) (by (with_reducible repeat first|apply bN|apply bD|apply bA);exact BK130.out)) : gb131 ≠ gb130));clear BK129;clear BK130;clear HB;have BK129:=n0_;have BK130:=n1_;have HB:=n2_;have BK131:=n3_;have GW131:=n4_;have GE131:=n5_;have NB129_131:=n6_;have NB131_129:=n7_;have NB130_131:=n8_;have NB131_130:=n9_;clear n0_ n1_ n2_ n3_ n4_ n5_ n6_ n7_ n8_ n9_;clear hb hbox hg))
 (try simp only [Act.put,List.setIfInBounds_toArray,List.set_cons_zero,List.set_cons_succ])
 go_cut [19] (fun v19 wc => ∃ (kq : Nat) (x19_3 : Bool),v19 = .bool x19_3 ∧ Aside0 (tidelinelaw03_ItemBest.j0 kq x19_3 a0_0 a0_1 a0_2 a0_3 a0_4 a1_0 a1_1 a1_2 a1_3 a1_4 a2_0 a2_1 a2_2 a2_3 a2_4 = some r) ∧ Aside0 (kq ≤ k) ∧ Aside0 (wc.heap[gb129]? = some (.cells #[.string a0_0,.int .i64 a0_1,.int .i64 a0_2,.string a0_3,.bool a0_4] 25 (0,0))) ∧ Aside0 (wc.heap[gb130]? = some (.cells #[.string a1_0,.int .i64 a1_1,.int .i64 a1_2,.string a1_3,.bool a1_4] 25 (0,0))) ∧ Aside0 (wc.heap[gb131]? = some (.cells #[.string a2_0,.int .i64 a2_1,.int .i64 a2_2,.string a2_3,.bool a2_4] 25 (0,0))) ∧ Aside0 (Below w.heap.size w wc))
 case first =>
  have H:=HC4.out
  clear HC4
  replace H:=Option.bind_eq_some_iff.mp H
  obtain ⟨t132,A80,H⟩:=H
  replace H : (if t132 = true then (tidelinelaw03_ItemBest.j0 k true a0_0 a0_1 a0_2 a0_3 a0_4 a1_0 a1_1 a1_2 a1_3 a1_4 a2_0 a2_1 a2_2 a2_3 a2_4) else ((tidelinelaw03_long.f a1_0 a1_1 a1_2 a1_3 a1_4).bind fun t133 => (if t133 = true then (tidelinelaw03_ItemBest.j0 k true a0_0 a0_1 a0_2 a0_3 a0_4 a1_0 a1_1 a1_2 a1_3 a1_4 a2_0 a2_1 a2_2 a2_3 a2_4) else ((tidelinelaw03_long.f a2_0 a2_1 a2_2 a2_3 a2_4).bind fun t134 => (tidelinelaw03_ItemBest.j0 k t134 a0_0 a0_1 a0_2 a0_3 a0_4 a1_0 a1_1 a1_2 a1_3 a1_4 a2_0 a2_1 a2_2 a2_3 a2_4))))) = some r:=H
  have A8:=Aside0.mk A80
  clear A80
  by_cases c9 : t132 = true
  ·subst c9
   have H1 : (tidelinelaw03_ItemBest.j0 k true a0_0 a0_1 a0_2 a0_3 a0_4 a1_0 a1_1 a1_2 a1_3 a1_4 a2_0 a2_1 a2_2 a2_3 a2_4) = some r:=by rw [if_pos rfl] at H;exact H
   clear H
   have H:=H1
   clear H1
   have H':=Aside0.mk H
   clear H
   have hnb10:=NB129_130.out
   have hnc10:=NB130_129.out
   have hnb11:=NB129_131.out
   have hnc11:=NB131_129.out
   have hcz12_0 : w7.cell? ⟨gb129,0,none⟩ = some (.string a0_0):=(blk_cell BK129.out 0).trans rfl
   have hcz12_1 : w7.cell? ⟨gb129,1,none⟩ = some (.int .i64 a0_1):=(blk_cell BK129.out 1).trans rfl
   have hcz12_2 : w7.cell? ⟨gb129,2,none⟩ = some (.int .i64 a0_2):=(blk_cell BK129.out 2).trans rfl
   have hcz12_3 : w7.cell? ⟨gb129,3,none⟩ = some (.string a0_3):=(blk_cell BK129.out 3).trans rfl
   have hcz12_4 : w7.cell? ⟨gb129,4,none⟩ = some (.bool a0_4):=(blk_cell BK129.out 4).trans rfl
   have hfz12_0:=blk_frozen BK129.out 0
   have hfz12_1:=blk_frozen BK129.out 1
   have hfz12_2:=blk_frozen BK129.out 2
   have hfz12_3:=blk_frozen BK129.out 3
   have hfz12_4:=blk_frozen BK129.out 4
   go_wp2_with (first | ((with_reducible refine gate_callee (f:=11) rfl ?_);refine goesL_ (some 11) rfl rfl Try.func11 (by kernel_rfl) rfl #[.agg #[.string a0_0,.int .i64 a0_1,.int .i64 a0_2,.string a0_3,.bool a0_4]] rfl (by (try simp only [List.map_toArray,List.map_cons,List.map_nil]);first | done | rfl | (simp only [List.length_drop,List.length_take];rfl)) ?_;(with_reducible refine (tidelinelaw03_long.calls a0_0 a0_1 a0_2 a0_3 a0_4 true _ A8.out).mono ?_);rintro e w13 ⟨rfl,hb⟩;refine ⟨_,rfl,?_⟩;replace BK129:=Aside0.mk (blk_below (g:=gb129) (o:=.cells #[.string a0_0,.int .i64 a0_1,.int .i64 a0_2,.string a0_3,.bool a0_4] 25 (0,0)) (by (with_reducible repeat first|apply bN|apply bD|apply bA);exact BK129.out) hb);replace BK130:=Aside0.mk (blk_below (g:=gb130) (o:=.cells #[.string a1_0,.int .i64 a1_1,.int .i64 a1_2,.string a1_3,.bool a1_4] 25 (0,0)) (by (with_reducible repeat first|apply bN|apply bD|apply bA);exact BK130.out) hb);replace BK131:=Aside0.mk (blk_below (g:=gb131) (o:=.cells #[.string a2_0,.int .i64 a2_1,.int .i64 a2_2,.string a2_3,.bool a2_4] 25 (0,0)) (by (with_reducible repeat first|apply bN|apply bD|apply bA);exact BK131.out) hb);replace HB:=Aside0.mk (below_step (by repeat (first | (with_reducible first | exact HB.out | apply below_alloc | apply pw_below_drewN | apply below_drew1 | refine below_set ?_ GE129.out | refine below_set ?_ GE130.out | refine below_set ?_ GE131.out) | exact HB.out)) hb);(try clear hb);(try clear hb2);(try clear hk);(try clear hi)))
   go_meet
   case rel => exact ⟨_,(true),(by first | rfl | (simp;done) | (simp [*];done) | (simp [*,Go.Proofs.Ythalodnfecaccaa.Str.bne_nil];done)),H',⟨by first | omega | exact Nat.le_refl _⟩,⟨by (with_reducible repeat first|apply bN|apply bD|apply bA);exact BK129.out⟩,⟨by (with_reducible repeat first|apply bN|apply bD|apply bA);exact BK130.out⟩,⟨by (with_reducible repeat first|apply bN|apply bD|apply bA);exact BK131.out⟩,⟨by repeat (first | (with_reducible first | exact HB.out | apply below_alloc | apply pw_below_drewN | apply below_drew1 | refine below_set ?_ GE129.out | refine below_set ?_ GE130.out | refine below_set ?_ GE131.out) | exact HB.out)⟩⟩
  ·replace c9:=Bool.eq_false_iff.mpr c9
   subst c9
   have H1 : ((tidelinelaw03_long.f a1_0 a1_1 a1_2 a1_3 a1_4).bind fun t133 => (if t133 = true then (tidelinelaw03_ItemBest.j0 k true a0_0 a0_1 a0_2 a0_3 a0_4 a1_0 a1_1 a1_2 a1_3 a1_4 a2_0 a2_1 a2_2 a2_3 a2_4) else ((tidelinelaw03_long.f a2_0 a2_1 a2_2 a2_3 a2_4).bind fun t134 => (tidelinelaw03_ItemBest.j0 k t134 a0_0 a0_1 a0_2 a0_3 a0_4 a1_0 a1_1 a1_2 a1_3 a1_4 a2_0 a2_1 a2_2 a2_3 a2_4)))) = some r:=by rw [if_neg (show ¬ (false = true) by decide)] at H;exact H
   clear H
   have H:=H1
   clear H1
   replace H:=Option.bind_eq_some_iff.mp H
   obtain ⟨t133,A140,H⟩:=H
   replace H : (if t133 = true then (tidelinelaw03_ItemBest.j0 k true a0_0 a0_1 a0_2 a0_3 a0_4 a1_0 a1_1 a1_2 a1_3 a1_4 a2_0 a2_1 a2_2 a2_3 a2_4) else ((tidelinelaw03_long.f a2_0 a2_1 a2_2 a2_3 a2_4).bind fun t134 => (tidelinelaw03_ItemBest.j0 k t134 a0_0 a0_1 a0_2 a0_3 a0_4 a1_0 a1_1 a1_2 a1_3 a1_4 a2_0 a2_1 a2_2 a2_3 a2_4))) = some r:=H
   have A14:=Aside0.mk A140
   clear A140
   by_cases c15 : t133 = true
   ·subst c15
    have H1 : (tidelinelaw03_ItemBest.j0 k true a0_0 a0_1 a0_2 a0_3 a0_4 a1_0 a1_1 a1_2 a1_3 a1_4 a2_0 a2_1 a2_2 a2_3 a2_4) = some r:=by rw [if_pos rfl] at H;exact H
    clear H
    have H:=H1
    clear H1
    have H':=Aside0.mk H
    clear H
    have hnb16:=NB129_130.out
    have hnc16:=NB130_129.out
    have hnb17:=NB129_131.out
    have hnc17:=NB131_129.out
    have hcz18_0 : w7.cell? ⟨gb129,0,none⟩ = some (.string a0_0):=(blk_cell BK129.out 0).trans rfl
    have hcz18_1 : w7.cell? ⟨gb129,1,none⟩ = some (.int .i64 a0_1):=(blk_cell BK129.out 1).trans rfl
    have hcz18_2 : w7.cell? ⟨gb129,2,none⟩ = some (.int .i64 a0_2):=(blk_cell BK129.out 2).trans rfl
    have hcz18_3 : w7.cell? ⟨gb129,3,none⟩ = some (.string a0_3):=(blk_cell BK129.out 3).trans rfl
    have hcz18_4 : w7.cell? ⟨gb129,4,none⟩ = some (.bool a0_4):=(blk_cell BK129.out 4).trans rfl
    have hfz18_0:=blk_frozen BK129.out 0
    have hfz18_1:=blk_frozen BK129.out 1
    have hfz18_2:=blk_frozen BK129.out 2
    have hfz18_3:=blk_frozen BK129.out 3
    have hfz18_4:=blk_frozen BK129.out 4
    go_wp2_with (first | ((with_reducible refine gate_callee (f:=11) rfl ?_);refine goesL_ (some 11) rfl rfl Try.func11 (by kernel_rfl) rfl #[.agg #[.string a0_0,.int .i64 a0_1,.int .i64 a0_2,.string a0_3,.bool a0_4]] rfl (by (try simp only [List.map_toArray,List.map_cons,List.map_nil]);first | done | rfl | (simp only [List.length_drop,List.length_take];rfl)) ?_;(with_reducible refine (tidelinelaw03_long.calls a0_0 a0_1 a0_2 a0_3 a0_4 false _ A8.out).mono ?_);rintro e w19 ⟨rfl,hb⟩;refine ⟨_,rfl,?_⟩;replace BK129:=Aside0.mk (blk_below (g:=gb129) (o:=.cells #[.string a0_0,.int .i64 a0_1,.int .i64 a0_2,.string a0_3,.bool a0_4] 25 (0,0)) (by (with_reducible repeat first|apply bN|apply bD|apply bA);exact BK129.out) hb);replace BK130:=Aside0.mk (blk_below (g:=gb130) (o:=.cells #[.string a1_0,.int .i64 a1_1,.int .i64 a1_2,.string a1_3,.bool a1_4] 25 (0,0)) (by (with_reducible repeat first|apply bN|apply bD|apply bA);exact BK130.out) hb);replace BK131:=Aside0.mk (blk_below (g:=gb131) (o:=.cells #[.string a2_0,.int .i64 a2_1,.int .i64 a2_2,.string a2_3,.bool a2_4] 25 (0,0)) (by (with_reducible repeat first|apply bN|apply bD|apply bA);exact BK131.out) hb);replace HB:=Aside0.mk (below_step (by repeat (first | (with_reducible first | exact HB.out | apply below_alloc | apply pw_below_drewN | apply below_drew1 | refine below_set ?_ GE129.out | refine below_set ?_ GE130.out | refine below_set ?_ GE131.out) | exact HB.out)) hb);(try clear hb);(try clear hb2);(try clear hk);(try clear hi);have hnb20:=NB130_131.out;have hnc20:=NB131_130.out;have hcz21_0 : w19.cell? ⟨gb130,0,none⟩ = some (.string a1_0):=(blk_cell BK130.out 0).trans rfl;have hcz21_1 : w19.cell? ⟨gb130,1,none⟩ = some (.int .i64 a1_1):=(blk_cell BK130.out 1).trans rfl;have hcz21_2 : w19.cell? ⟨gb130,2,none⟩ = some (.int .i64 a1_2):=(blk_cell BK130.out 2).trans rfl;have hcz21_3 : w19.cell? ⟨gb130,3,none⟩ = some (.string a1_3):=(blk_cell BK130.out 3).trans rfl;have hcz21_4 : w19.cell? ⟨gb130,4,none⟩ = some (.bool a1_4):=(blk_cell BK130.out 4).trans rfl;have hfz21_0:=blk_frozen BK130.out 0;have hfz21_1:=blk_frozen BK130.out 1;have hfz21_2:=blk_frozen BK130.out 2;have hfz21_3:=blk_frozen BK130.out 3;have hfz21_4:=blk_frozen BK130.out 4) | (go_at_call 11;(with_reducible refine (tidelinelaw03_long.calls a1_0 a1_1 a1_2 a1_3 a1_4 true _ A14.out).mono ?_);rintro e w22 ⟨rfl,hb⟩;replace BK129:=Aside0.mk (blk_below (g:=gb129) (o:=.cells #[.string a0_0,.int .i64 a0_1,.int .i64 a0_2,.string a0_3,.bool a0_4] 25 (0,0)) (by (with_reducible repeat first|apply bN|apply bD|apply bA);exact BK129.out) hb);replace BK130:=Aside0.mk (blk_below (g:=gb130) (o:=.cells #[.string a1_0,.int .i64 a1_1,.int .i64 a1_2,.string a1_3,.bool a1_4] 25 (0,0)) (by (with_reducible repeat first|apply bN|apply bD|apply bA);exact BK130.out) hb);replace BK131:=Aside0.mk (blk_below (g:=gb131) (o:=.cells #[.string a2_0,.int .i64 a2_1,.int .i64 a2_2,.string a2_3,.bool a2_4] 25 (0,0)) (by (with_reducible repeat first|apply bN|apply bD|apply bA);exact BK131.out) hb);replace HB:=Aside0.mk (below_step (by repeat (first | (with_reducible first | exact HB.out | apply below_alloc | apply pw_below_drewN | apply below_drew1 | refine below_set ?_ GE129.out | refine below_set ?_ GE130.out | refine below_set ?_ GE131.out) | exact HB.out)) hb);(try clear hb);(try clear hb2);(try clear hk);(try clear hi)))
    go_meet
    case rel => exact ⟨_,(true),(by first | rfl | (simp;done) | (simp [*];done) | (simp [*,Go.Proofs.Ythalodnfecaccaa.Str.bne_nil];done)),H',⟨by first | omega | exact Nat.le_refl _⟩,⟨by (with_reducible repeat first|apply bN|apply bD|apply bA);exact BK129.out⟩,⟨by (with_reducible repeat first|apply bN|apply bD|apply bA);exact BK130.out⟩,⟨by (with_reducible repeat first|apply bN|apply bD|apply bA);exact BK131.out⟩,⟨by repeat (first | (with_reducible first | exact HB.out | apply below_alloc | apply pw_below_drewN | apply below_drew1 | refine below_set ?_ GE129.out | refine below_set ?_ GE130.out | refine below_set ?_ GE131.out) | exact HB.out)⟩⟩
   ·replace c15:=Bool.eq_false_iff.mpr c15
    subst c15
    have H1 : ((tidelinelaw03_long.f a2_0 a2_1 a2_2 a2_3 a2_4).bind fun t134 => (tidelinelaw03_ItemBest.j0 k t134 a0_0 a0_1 a0_2 a0_3 a0_4 a1_0 a1_1 a1_2 a1_3 a1_4 a2_0 a2_1 a2_2 a2_3 a2_4)) = some r:=by rw [if_neg (show ¬ (false = true) by decide)] at H;exact H
    clear H
    have H:=H1
    clear H1
    replace H:=Option.bind_eq_some_iff.mp H
    obtain ⟨t134,A230,H⟩:=H
    replace H : (tidelinelaw03_ItemBest.j0 k t134 a0_0 a0_1 a0_2 a0_3 a0_4 a1_0 a1_1 a1_2 a1_3 a1_4 a2_0 a2_1 a2_2 a2_3 a2_4) = some r:=H
    have A23:=Aside0.mk A230
    clear A230
    have H':=Aside0.mk H
    clear H
    have hnb24:=NB129_130.out
    have hnc24:=NB130_129.out
    have hnb25:=NB129_131.out
    have hnc25:=NB131_129.out
    have hcz26_0 : w7.cell? ⟨gb129,0,none⟩ = some (.string a0_0):=(blk_cell BK129.out 0).trans rfl
    have hcz26_1 : w7.cell? ⟨gb129,1,none⟩ = some (.int .i64 a0_1):=(blk_cell BK129.out 1).trans rfl
    have hcz26_2 : w7.cell? ⟨gb129,2,none⟩ = some (.int .i64 a0_2):=(blk_cell BK129.out 2).trans rfl
    have hcz26_3 : w7.cell? ⟨gb129,3,none⟩ = some (.string a0_3):=(blk_cell BK129.out 3).trans rfl
    have hcz26_4 : w7.cell? ⟨gb129,4,none⟩ = some (.bool a0_4):=(blk_cell BK129.out 4).trans rfl
    have hfz26_0:=blk_frozen BK129.out 0
    have hfz26_1:=blk_frozen BK129.out 1
    have hfz26_2:=blk_frozen BK129.out 2
    have hfz26_3:=blk_frozen BK129.out 3
    have hfz26_4:=blk_frozen BK129.out 4
    go_wp2_with (first | ((with_reducible refine gate_callee (f:=11) rfl ?_);refine goesL_ (some 11) rfl rfl Try.func11 (by kernel_rfl) rfl #[.agg #[.string a0_0,.int .i64 a0_1,.int .i64 a0_2,.string a0_3,.bool a0_4]] rfl (by (try simp only [List.map_toArray,List.map_cons,List.map_nil]);first | done | rfl | (simp only [List.length_drop,List.length_take];rfl)) ?_;(with_reducible refine (tidelinelaw03_long.calls a0_0 a0_1 a0_2 a0_3 a0_4 false _ A8.out).mono ?_);rintro e w27 ⟨rfl,hb⟩;refine ⟨_,rfl,?_⟩;replace BK129:=Aside0.mk (blk_below (g:=gb129) (o:=.cells #[.string a0_0,.int .i64 a0_1,.int .i64 a0_2,.string a0_3,.bool a0_4] 25 (0,0)) (by (with_reducible repeat first|apply bN|apply bD|apply bA);exact BK129.out) hb);replace BK130:=Aside0.mk (blk_below (g:=gb130) (o:=.cells #[.string a1_0,.int .i64 a1_1,.int .i64 a1_2,.string a1_3,.bool a1_4] 25 (0,0)) (by (with_reducible repeat first|apply bN|apply bD|apply bA);exact BK130.out) hb);replace BK131:=Aside0.mk (blk_below (g:=gb131) (o:=.cells #[.string a2_0,.int .i64 a2_1,.int .i64 a2_2,.string a2_3,.bool a2_4] 25 (0,0)) (by (with_reducible repeat first|apply bN|apply bD|apply bA);exact BK131.out) hb);replace HB:=Aside0.mk (below_step (by repeat (first | (with_reducible first | exact HB.out | apply below_alloc | apply pw_below_drewN | apply below_drew1 | refine below_set ?_ GE129.out | refine below_set ?_ GE130.out | refine below_set ?_ GE131.out) | exact HB.out)) hb);(try clear hb);(try clear hb2);(try clear hk);(try clear hi);have hnb28:=NB130_131.out;have hnc28:=NB131_130.out;have hcz29_0 : w27.cell? ⟨gb130,0,none⟩ = some (.string a1_0):=(blk_cell BK130.out 0).trans rfl;have hcz29_1 : w27.cell? ⟨gb130,1,none⟩ = some (.int .i64 a1_1):=(blk_cell BK130.out 1).trans rfl;have hcz29_2 : w27.cell? ⟨gb130,2,none⟩ = some (.int .i64 a1_2):=(blk_cell BK130.out 2).trans rfl;have hcz29_3 : w27.cell? ⟨gb130,3,none⟩ = some (.string a1_3):=(blk_cell BK130.out 3).trans rfl;have hcz29_4 : w27.cell? ⟨gb130,4,none⟩ = some (.bool a1_4):=(blk_cell BK130.out 4).trans rfl;have hfz29_0:=blk_frozen BK130.out 0;have hfz29_1:=blk_frozen BK130.out 1;have hfz29_2:=blk_frozen BK130.out 2;have hfz29_3:=blk_frozen BK130.out 3;have hfz29_4:=blk_frozen BK130.out 4) | (go_at_call 11;(with_reducible refine (tidelinelaw03_long.calls a1_0 a1_1 a1_2 a1_3 a1_4 false _ A14.out).mono ?_);rintro e w30 ⟨rfl,hb⟩;replace BK129:=Aside0.mk (blk_below (g:=gb129) (o:=.cells #[.string a0_0,.int .i64 a0_1,.int .i64 a0_2,.string a0_3,.bool a0_4] 25 (0,0)) (by (with_reducible repeat first|apply bN|apply bD|apply bA);exact BK129.out) hb);replace BK130:=Aside0.mk (blk_below (g:=gb130) (o:=.cells #[.string a1_0,.int .i64 a1_1,.int .i64 a1_2,.string a1_3,.bool a1_4] 25 (0,0)) (by (with_reducible repeat first|apply bN|apply bD|apply bA);exact BK130.out) hb);replace BK131:=Aside0.mk (blk_below (g:=gb131) (o:=.cells #[.string a2_0,.int .i64 a2_1,.int .i64 a2_2,.string a2_3,.bool a2_4] 25 (0,0)) (by (with_reducible repeat first|apply bN|apply bD|apply bA);exact BK131.out) hb);replace HB:=Aside0.mk (below_step (by repeat (first | (with_reducible first | exact HB.out | apply below_alloc | apply pw_below_drewN | apply below_drew1 | refine below_set ?_ GE129.out | refine below_set ?_ GE130.out | refine below_set ?_ GE131.out) | exact HB.out)) hb);(try clear hb);(try clear hb2);(try clear hk);(try clear hi);have hcz31_0 : w30.cell? ⟨gb131,0,none⟩ = some (.string a2_0):=(blk_cell BK131.out 0).trans rfl;have hcz31_1 : w30.cell? ⟨gb131,1,none⟩ = some (.int .i64 a2_1):=(blk_cell BK131.out 1).trans rfl;have hcz31_2 : w30.cell? ⟨gb131,2,none⟩ = some (.int .i64 a2_2):=(blk_cell BK131.out 2).trans rfl;have hcz31_3 : w30.cell? ⟨gb131,3,none⟩ = some (.string a2_3):=(blk_cell BK131.out 3).trans rfl;have hcz31_4 : w30.cell? ⟨gb131,4,none⟩ = some (.bool a2_4):=(blk_cell BK131.out 4).trans rfl;have hfz31_0:=blk_frozen BK131.out 0;have hfz31_1:=blk_frozen BK131.out 1;have hfz31_2:=blk_frozen BK131.out 2;have hfz31_3:=blk_frozen BK131.out 3;have hfz31_4:=blk_frozen BK131.out 4) | (go_at_call 11;(with_reducible refine (tidelinelaw03_long.calls a2_0 a2_1 a2_2 a2_3 a2_4 t134 _ A23.out).mono ?_);rintro e w32 ⟨rfl,hb⟩;replace BK129:=Aside0.mk (blk_below (g:=gb129) (o:=.cells #[.string a0_0,.int .i64 a0_1,.int .i64 a0_2,.string a0_3,.bool a0_4] 25 (0,0)) (by (with_reducible repeat first|apply bN|apply bD|apply bA);exact BK129.out) hb);replace BK130:=Aside0.mk (blk_below (g:=gb130) (o:=.cells #[.string a1_0,.int .i64 a1_1,.int .i64 a1_2,.string a1_3,.bool a1_4] 25 (0,0)) (by (with_reducible repeat first|apply bN|apply bD|apply bA);exact BK130.out) hb);replace BK131:=Aside0.mk (blk_below (g:=gb131) (o:=.cells #[.string a2_0,.int .i64 a2_1,.int .i64 a2_2,.string a2_3,.bool a2_4] 25 (0,0)) (by (with_reducible repeat first|apply bN|apply bD|apply bA);exact BK131.out) hb);replace HB:=Aside0.mk (below_step (by repeat (first | (with_reducible first | exact HB.out | apply below_alloc | apply pw_below_drewN | apply below_drew1 | refine below_set ?_ GE129.out | refine below_set ?_ GE130.out | refine below_set ?_ GE131.out) | exact HB.out)) hb);(try clear hb);(try clear hb2);(try clear hk);(try clear hi)))
    go_meet
    case rel => exact ⟨_,(t134),(by first | rfl | (simp;done) | (simp [*];done) | (simp [*,Go.Proofs.Ythalodnfecaccaa.Str.bne_nil];done)),H',⟨by first | omega | exact Nat.le_refl _⟩,⟨by (with_reducible repeat first|apply bN|apply bD|apply bA);exact BK129.out⟩,⟨by (with_reducible repeat first|apply bN|apply bD|apply bA);exact BK130.out⟩,⟨by (with_reducible repeat first|apply bN|apply bD|apply bA);exact BK131.out⟩,⟨by repeat (first | (with_reducible first | exact HB.out | apply below_alloc | apply pw_below_drewN | apply below_drew1 | refine below_set ?_ GE129.out | refine below_set ?_ GE130.out | refine below_set ?_ GE131.out) | exact HB.out)⟩⟩
 case rest =>
  clear HC4
  try clear c1
  try clear c2
  try clear p2
  try clear c5
  try clear c9
  try clear c10
  try clear c11
  try clear c15
  try clear c16
  try clear c17
  try clear c20
  try clear c24
  try clear c25
  try clear c28
  try clear hcz12_0
  try clear hcz12_1
  try clear hcz12_2
  try clear hcz12_3
  try clear hcz12_4
  try clear hcz18_0
  try clear hcz18_1
  try clear hcz18_2
  try clear hcz18_3
  try clear hcz18_4
  try clear hcz21_0
  try clear hcz21_1
  try clear hcz21_2
  try clear hcz21_3
  try clear hcz21_4
  try clear hcz26_0
  try clear hcz26_1
  try clear hcz26_2
  try clear hcz26_3
  try clear hcz26_4
  try clear hcz29_0
  try clear hcz29_1
  try clear hcz29_2
  try clear hcz29_3
  try clear hcz29_4
  try clear hcz31_0
  try clear hcz31_1
  try clear hcz31_2
  try clear hcz31_3
  try clear hcz31_4
  try clear hfz12_0
  try clear hfz12_1
  try clear hfz12_2
  try clear hfz12_3
  try clear hfz12_4
  try clear hfz18_0
  try clear hfz18_1
  try clear hfz18_2
  try clear hfz18_3
  try clear hfz18_4
  try clear hfz21_0
  try clear hfz21_1
  try clear hfz21_2
  try clear hfz21_3
  try clear hfz21_4
  try clear hfz26_0
  try clear hfz26_1
  try clear hfz26_2
  try clear hfz26_3
  try clear hfz26_4
  try clear hfz29_0
  try clear hfz29_1
  try clear hfz29_2
  try clear hfz29_3
  try clear hfz29_4
  try clear hfz31_0
  try clear hfz31_1
  try clear hfz31_2
  try clear hfz31_3
  try clear hfz31_4
  obtain ⟨kq,x19_3,rfl,HA,HJ3,BK129,BK130,BK131,HB⟩:=hcut
  cases kq with
  | zero => exact absurd HA.out (by simp [tidelinelaw03_ItemBest.j0])
  | succ kj3 =>
   have H:=HA.out
   clear HA
   simp only [tidelinelaw03_ItemBest.j0] at H
   by_cases c33 : x19_3 = true
   ·subst c33
    have H1 : (some true) = some r:=by rw [if_pos rfl] at H;exact H
    clear H
    have H:=H1
    clear H1
    obtain rfl:=Option.some.inj H
    go_wp2
    go_ret
    exact ⟨by first | rfl | (simp [errW_none,errW_some] <;> rfl) | (simp [*,errW_none,errW_some] <;> rfl),by repeat (first | (with_reducible first | exact HB.out | apply below_alloc | apply pw_below_drewN | apply below_drew1 | refine below_set ?_ GE129.out | refine below_set ?_ GE130.out | refine below_set ?_ GE131.out) | exact HB.out)⟩
   ·replace c33:=Bool.eq_false_iff.mpr c33
    subst c33
    have H1 : ((item_Newer.f kj3 a0_0 a0_1 a0_2 a0_3 a0_4 a1_0 a1_1 a1_2 a1_3 a1_4).bind fun t135 => ((tidelineref03_Newer.f a0_0 a0_1 a0_2 a0_3 a0_4 a1_0 a1_1 a1_2 a1_3 a1_4).bind fun t136 => (if (t135 != t136) = true then (tidelinelaw03_ItemBest.j1 kj3 true a0_0 a0_1 a0_2 a0_3 a0_4 a1_0 a1_1 a1_2 a1_3 a1_4 a2_0 a2_1 a2_2 a2_3 a2_4) else ((item_Best.f kj3 a0_0 a0_1 a0_2 a0_3 a0_4 a1_0 a1_1 a1_2 a1_3 a1_4).bind fun bt137 => ((tidelineref03_Best.f a0_0 a0_1 a0_2 a0_3 a0_4 a1_0 a1_1 a1_2 a1_3 a1_4).bind fun bt142 => (tidelinelaw03_ItemBest.j1 kj3 (!(bt137.1.toList == bt142.1.toList) || ((!(bt137.2.1 == bt142.2.1) || (!(bt137.2.2.1 == bt142.2.2.1))) || (!(bt137.2.2.2.1.toList == bt142.2.2.2.1.toList) || (!(bt137.2.2.2.2 == bt142.2.2.2.2))))) a0_0 a0_1 a0_2 a0_3 a0_4 a1_0 a1_1 a1_2 a1_3 a1_4 a2_0 a2_1 a2_2 a2_3 a2_4)))))) = some r:=by rw [if_neg (show ¬ (false = true) by decide)] at H;exact H
    clear H
    have H:=H1
    clear H1
    have HC34:=Aside0.mk H
    clear H
    go_upto_region 3 with (fail)
    go_cut [35] (fun v35 wc => ∃ (kq : Nat) (x35_33 : Bool),v35 = .bool x35_33 ∧ Aside0 (tidelinelaw03_ItemBest.j1 kq x35_33 a0_0 a0_1 a0_2 a0_3 a0_4 a1_0 a1_1 a1_2 a1_3 a1_4 a2_0 a2_1 a2_2 a2_3 a2_4 = some r) ∧ Aside0 (kq ≤ kj3) ∧ Aside0 (wc.heap[gb129]? = some (.cells #[.string a0_0,.int .i64 a0_1,.int .i64 a0_2,.string a0_3,.bool a0_4] 25 (0,0))) ∧ Aside0 (wc.heap[gb130]? = some (.cells #[.string a1_0,.int .i64 a1_1,.int .i64 a1_2,.string a1_3,.bool a1_4] 25 (0,0))) ∧ Aside0 (wc.heap[gb131]? = some (.cells #[.string a2_0,.int .i64 a2_1,.int .i64 a2_2,.string a2_3,.bool a2_4] 25 (0,0))) ∧ Aside0 (Below w.heap.size w wc))
    case first =>
     have H:=HC34.out
     clear HC34
     replace H:=Option.bind_eq_some_iff.mp H
     obtain ⟨t135,A350,H⟩:=H
     replace H : ((tidelineref03_Newer.f a0_0 a0_1 a0_2 a0_3 a0_4 a1_0 a1_1 a1_2 a1_3 a1_4).bind fun t136 => (if (t135 != t136) = true then (tidelinelaw03_ItemBest.j1 kj3 true a0_0 a0_1 a0_2 a0_3 a0_4 a1_0 a1_1 a1_2 a1_3 a1_4 a2_0 a2_1 a2_2 a2_3 a2_4) else ((item_Best.f kj3 a0_0 a0_1 a0_2 a0_3 a0_4 a1_0 a1_1 a1_2 a1_3 a1_4).bind fun bt137 => ((tidelineref03_Best.f a0_0 a0_1 a0_2 a0_3 a0_4 a1_0 a1_1 a1_2 a1_3 a1_4).bind fun bt142 => (tidelinelaw03_ItemBest.j1 kj3 (!(bt137.1.toList == bt142.1.toList) || ((!(bt137.2.1 == bt142.2.1) || (!(bt137.2.2.1 == bt142.2.2.1))) || (!(bt137.2.2.2.1.toList == bt142.2.2.2.1.toList) || (!(bt137.2.2.2.2 == bt142.2.2.2.2))))) a0_0 a0_1 a0_2 a0_3 a0_4 a1_0 a1_1 a1_2 a1_3 a1_4 a2_0 a2_1 a2_2 a2_3 a2_4))))) = some r:=H
     have A35:=Aside0.mk A350
     clear A350
     replace H:=Option.bind_eq_some_iff.mp H
     obtain ⟨t136,A360,H⟩:=H
     replace H : (if (t135 != t136) = true then (tidelinelaw03_ItemBest.j1 kj3 true a0_0 a0_1 a0_2 a0_3 a0_4 a1_0 a1_1 a1_2 a1_3 a1_4 a2_0 a2_1 a2_2 a2_3 a2_4) else ((item_Best.f kj3 a0_0 a0_1 a0_2 a0_3 a0_4 a1_0 a1_1 a1_2 a1_3 a1_4).bind fun bt137 => ((tidelineref03_Best.f a0_0 a0_1 a0_2 a0_3 a0_4 a1_0 a1_1 a1_2 a1_3 a1_4).bind fun bt142 => (tidelinelaw03_ItemBest.j1 kj3 (!(bt137.1.toList == bt142.1.toList) || ((!(bt137.2.1 == bt142.2.1) || (!(bt137.2.2.1 == bt142.2.2.1))) || (!(bt137.2.2.2.1.toList == bt142.2.2.2.1.toList) || (!(bt137.2.2.2.2 == bt142.2.2.2.2))))) a0_0 a0_1 a0_2 a0_3 a0_4 a1_0 a1_1 a1_2 a1_3 a1_4 a2_0 a2_1 a2_2 a2_3 a2_4)))) = some r:=H
     have A36:=Aside0.mk A360
     clear A360
     by_cases c37 : (t135 != t136) = true
     ·rw [if_pos c37] at H
      have c37b0 : (t135 != t136) = true:=c37
      (try (have c37b1 : decide (t135 = t136) = false:=by simpa using c37))
      (try (have c37b2 : (t135 == t136) = false:=by simpa using c37))
      (try (have c37b3 : ¬ (t135 = t136):=by simpa using c37))
      clear c37
      (first | rw [c37b0] | (simp only [i64_w,i32_w];rw [c37b0]) | skip)
      have H':=Aside0.mk H
      clear H
      try go_wp2
      replace BK129:=Aside0.mk (blk_drew BK129.out)
      replace BK130:=Aside0.mk (blk_drew BK130.out)
      replace BK131:=Aside0.mk (blk_drew BK131.out)
      replace HB:=Aside0.mk (below_drew1 HB.out)
      refine start_ (n:=16) (S:=fun w' => w'.cell? ⟨gb129,0,none⟩ = some (.string a0_0) ∧ w'.cell? ⟨gb129,1,none⟩ = some (.int .i64 a0_1) ∧ w'.cell? ⟨gb129,2,none⟩ = some (.int .i64 a0_2) ∧ w'.cell? ⟨gb129,3,none⟩ = some (.string a0_3) ∧ w'.cell? ⟨gb129,4,none⟩ = some (.bool a0_4) ∧ w'.cell? ⟨gb130,0,none⟩ = some (.string a1_0) ∧ w'.cell? ⟨gb130,1,none⟩ = some (.int .i64 a1_1) ∧ w'.cell? ⟨gb130,2,none⟩ = some (.int .i64 a1_2) ∧ w'.cell? ⟨gb130,3,none⟩ = some (.string a1_3) ∧ w'.cell? ⟨gb130,4,none⟩ = some (.bool a1_4)) (ds:=[]) #[false,false,false,false,false,false,false,false,false,false,false,false,false,false,false,false] (by kernel_rfl) rfl rfl ⟨(blk_cell BK129.out 0).trans rfl,(blk_cell BK129.out 1).trans rfl,(blk_cell BK129.out 2).trans rfl,(blk_cell BK129.out 3).trans rfl,(blk_cell BK129.out 4).trans rfl,(blk_cell BK130.out 0).trans rfl,(blk_cell BK130.out 1).trans rfl,(blk_cell BK130.out 2).trans rfl,(blk_cell BK130.out 3).trans rfl,(blk_cell BK130.out 4).trans rfl⟩ (fun hHeld => ?_);refine with_tabW tidelinelaw03_ItemBest.tab3 tidelinelaw03_ItemBest.bits3 (fun HT_ HW_ => ?_)
      generalize wc.drew = w38 at BK129 BK130 BK131 HB hHeld ⊢
      refine take_ (i:=0) (N:=some 20) (v:=?_) (a':=?_) #[true,false,false,false,false,false,false,false,false,false,false,false,false,false,false,false] rfl rfl (take_ofW HT_.out HW_.out (by kernel_rfl)) (fun _ _ _ h => h) (Or.inl ⟨by rfl,?_⟩) hHeld ?_ ?_
      rotate_left
      ·rintro w' ⟨s0,s1,s2,s3,s4,s5,s6,s7,s8,s9⟩
       go_simp
       with_reducible rfl
      rotate_left
      ·simp only [Act.put,List.setIfInBounds_toArray,List.set_cons_zero,List.set_cons_succ,i64_w,i32_w]
       rfl
      refine take_ (i:=1) (N:=some 21) (v:=?_) (a':=?_) #[true,true,false,false,false,false,false,false,false,false,false,false,false,false,false,false] rfl rfl (take_ofW HT_.out HW_.out (by kernel_rfl)) (fun _ _ _ h => h) (Or.inl ⟨by rfl,?_⟩) hHeld ?_ ?_
      rotate_left
      ·rintro w' ⟨s0,s1,s2,s3,s4,s5,s6,s7,s8,s9⟩
       go_simp
       with_reducible rfl
      rotate_left
      ·simp only [Act.put,List.setIfInBounds_toArray,List.set_cons_zero,List.set_cons_succ,i64_w,i32_w]
       rfl
      refine take_ (i:=3) (N:=some 23) (v:=?_) (a':=?_) #[true,true,false,true,false,false,false,false,false,false,false,false,false,false,false,false] rfl rfl (take_ofW HT_.out HW_.out (by kernel_rfl)) (fun _ _ _ h => h) (Or.inl ⟨by rfl,?_⟩) hHeld ?_ ?_
      rotate_left
      ·rintro w' ⟨s0,s1,s2,s3,s4,s5,s6,s7,s8,s9⟩
       go_simp
       with_reducible rfl
      rotate_left
      ·simp only [Act.put,List.setIfInBounds_toArray,List.set_cons_zero,List.set_cons_succ,i64_w,i32_w]
       rfl
      refine take_ (i:=4) (N:=some 24) (v:=?_) (a':=?_) #[true,true,false,true,true,false,false,false,false,false,false,false,false,false,false,false] rfl rfl (take_ofW HT_.out HW_.out (by kernel_rfl)) (fun _ _ _ h => h) (Or.inl ⟨by rfl,?_⟩) hHeld ?_ ?_
      rotate_left
      ·rintro w' ⟨s0,s1,s2,s3,s4,s5,s6,s7,s8,s9⟩
       go_simp
       with_reducible rfl
      rotate_left
      ·simp only [Act.put,List.setIfInBounds_toArray,List.set_cons_zero,List.set_cons_succ,i64_w,i32_w]
       rfl
      refine one_ (i:=2) (N:=some 22) #[true,true,true,true,true,false,false,false,false,false,false,false,false,false,false,false] rfl rfl (one_of HT_.out (by kernel_rfl)) (by decide) (fun K hK => ?_)
      refine goes_ Try.func16 (by kernel_rfl) rfl #[.agg #[.string a0_0,.int .i64 a0_1,.int .i64 a0_2,.string a0_3,.bool a0_4],.agg #[.string a1_0,.int .i64 a1_1,.int .i64 a1_2,.string a1_3,.bool a1_4]] (by rfl) rfl rfl (by (try simp only [List.map_toArray,List.map_cons,List.map_nil]);first | done | rfl | (simp only [List.length_drop,List.length_take];rfl)) ?_
      with_reducible refine (item_Newer.calls kj3 a0_0 a0_1 a0_2 a0_3 a0_4 a1_0 a1_1 a1_2 a1_3 a1_4 t135 _ A35.out).mono ?_
      rintro e w39 ⟨rfl,hb⟩
      refine ⟨_,rfl,?_⟩
      replace BK129:=Aside0.mk (blk_below (g:=gb129) (o:=.cells #[.string a0_0,.int .i64 a0_1,.int .i64 a0_2,.string a0_3,.bool a0_4] 25 (0,0)) (by (with_reducible repeat first|apply bN|apply bD|apply bA);exact BK129.out) hb)
      replace BK130:=Aside0.mk (blk_below (g:=gb130) (o:=.cells #[.string a1_0,.int .i64 a1_1,.int .i64 a1_2,.string a1_3,.bool a1_4] 25 (0,0)) (by (with_reducible repeat first|apply bN|apply bD|apply bA);exact BK130.out) hb)
      replace BK131:=Aside0.mk (blk_below (g:=gb131) (o:=.cells #[.string a2_0,.int .i64 a2_1,.int .i64 a2_2,.string a2_3,.bool a2_4] 25 (0,0)) (by (with_reducible repeat first|apply bN|apply bD|apply bA);exact BK131.out) hb)
      replace HB:=Aside0.mk (below_step (by repeat (first | (with_reducible first | exact HB.out | apply below_alloc | apply pw_below_drewN | apply below_drew1 | refine below_set ?_ GE129.out | refine below_set ?_ GE130.out | refine below_set ?_ GE131.out) | exact HB.out)) hb)
      (try clear hb)
      (try clear hb2)
      (try clear hk)
      (try clear hi)
      refine hK.out _ _ ⟨(blk_cell BK129.out 0).trans rfl,(blk_cell BK129.out 1).trans rfl,(blk_cell BK129.out 2).trans rfl,(blk_cell BK129.out 3).trans rfl,(blk_cell BK129.out 4).trans rfl,(blk_cell BK130.out 0).trans rfl,(blk_cell BK130.out 1).trans rfl,(blk_cell BK130.out 2).trans rfl,(blk_cell BK130.out 3).trans rfl,(blk_cell BK130.out 4).trans rfl⟩ (fun hHeld => ?_)
      clear hK K
      refine norm_ (a':=?_) ?_ ?_
      rotate_left
      ·show Act.put _ (some 22) _ = _
       simp only [Act.put,List.setIfInBounds_toArray,List.set_cons_zero,List.set_cons_succ,i64_w,i32_w]
       rfl
      refine one_ (i:=5) (N:=some 25) #[true,true,true,true,true,true,false,false,false,false,false,false,false,false,false,false] rfl rfl (one_of HT_.out (by kernel_rfl)) (by decide) (fun K hK => ?_)
      refine goes_ Try.func17 (by kernel_rfl) rfl #[.agg #[.string a0_0,.int .i64 a0_1,.int .i64 a0_2,.string a0_3,.bool a0_4],.agg #[.string a1_0,.int .i64 a1_1,.int .i64 a1_2,.string a1_3,.bool a1_4]] (by rfl) rfl rfl (by (try simp only [List.map_toArray,List.map_cons,List.map_nil]);first | done | rfl | (simp only [List.length_drop,List.length_take];rfl)) ?_
      with_reducible refine (tidelineref03_Newer.calls a0_0 a0_1 a0_2 a0_3 a0_4 a1_0 a1_1 a1_2 a1_3 a1_4 t136 _ A36.out).mono ?_
      rintro e w40 ⟨rfl,hb⟩
      refine ⟨_,rfl,?_⟩
      replace BK129:=Aside0.mk (blk_below (g:=gb129) (o:=.cells #[.string a0_0,.int .i64 a0_1,.int .i64 a0_2,.string a0_3,.bool a0_4] 25 (0,0)) (by (with_reducible repeat first|apply bN|apply bD|apply bA);exact BK129.out) hb)
      replace BK130:=Aside0.mk (blk_below (g:=gb130) (o:=.cells #[.string a1_0,.int .i64 a1_1,.int .i64 a1_2,.string a1_3,.bool a1_4] 25 (0,0)) (by (with_reducible repeat first|apply bN|apply bD|apply bA);exact BK130.out) hb)
      replace BK131:=Aside0.mk (blk_below (g:=gb131) (o:=.cells #[.string a2_0,.int .i64 a2_1,.int .i64 a2_2,.string a2_3,.bool a2_4] 25 (0,0)) (by (with_reducible repeat first|apply bN|apply bD|apply bA);exact BK131.out) hb)
      replace HB:=Aside0.mk (below_step (by repeat (first | (with_reducible first | exact HB.out | apply below_alloc | apply pw_below_drewN | apply below_drew1 | refine below_set ?_ GE129.out | refine below_set ?_ GE130.out | refine below_set ?_ GE131.out) | exact HB.out)) hb)
      (try clear hb)
      (try clear hb2)
      (try clear hk)
      (try clear hi)
      refine hK.out _ _ ⟨(blk_cell BK129.out 0).trans rfl,(blk_cell BK129.out 1).trans rfl,(blk_cell BK129.out 2).trans rfl,(blk_cell BK129.out 3).trans rfl,(blk_cell BK129.out 4).trans rfl,(blk_cell BK130.out 0).trans rfl,(blk_cell BK130.out 1).trans rfl,(blk_cell BK130.out 2).trans rfl,(blk_cell BK130.out 3).trans rfl,(blk_cell BK130.out 4).trans rfl⟩ (fun hHeld => ?_)
      clear hK K
      refine norm_ (a':=?_) ?_ ?_
      rotate_left
      ·show Act.put _ (some 25) _ = _
       simp only [Act.put,List.setIfInBounds_toArray,List.set_cons_zero,List.set_cons_succ,i64_w,i32_w]
       rfl
      refine pure_ (i:=6) (N:=some 26) (v:=?_) (a':=?_) #[true,true,true,true,true,true,true,false,false,false,false,false,false,false,false,false] rfl rfl (any_of HT_.out (by kernel_rfl)) (fun _ _ _ h => h) (Or.inl ⟨by rfl,?_⟩) ?_ ?_
      rotate_left
      ·intro w'
       go_simp
       with_reducible rfl
      rotate_left
      ·simp only [Act.put,List.setIfInBounds_toArray,List.set_cons_zero,List.set_cons_succ,i64_w,i32_w]
       rfl
      refine pure_ (i:=7) (N:=some 27) (v:=?_) (a':=?_) #[true,true,true,true,true,true,true,true,false,false,false,false,false,false,false,false] rfl rfl (any_of HT_.out (by kernel_rfl)) (fun _ _ _ h => h) (Or.inl ⟨by rfl,?_⟩) ?_ ?_
      rotate_left
      ·intro w'
       go_simp
       with_reducible rfl
      rotate_left
      ·simp only [Act.put,List.setIfInBounds_toArray,List.set_cons_zero,List.set_cons_succ,i64_w,i32_w]
       rfl
      refine pure_ (i:=8) (N:=some 28) (v:=undef) (a':=?_) #[true,true,true,true,true,true,true,true,true,false,false,false,false,false,false,false] rfl rfl (any_of HT_.out (by kernel_rfl)) (fun _ _ _ h => h) (Or.inr ⟨by rfl,rfl⟩) ?_ ?_
      rotate_left
      ·simp only [Act.put,List.setIfInBounds_toArray,List.set_cons_zero,List.set_cons_succ,i64_w,i32_w]
       rfl
      refine pure_ (i:=9) (N:=some 29) (v:=undef) (a':=?_) #[true,true,true,true,true,true,true,true,true,true,false,false,false,false,false,false] rfl rfl (any_of HT_.out (by kernel_rfl)) (fun _ _ _ h => h) (Or.inr ⟨by rfl,rfl⟩) ?_ ?_
      rotate_left
      ·simp only [Act.put,List.setIfInBounds_toArray,List.set_cons_zero,List.set_cons_succ,i64_w,i32_w]
       rfl
      refine pure_ (i:=10) (N:=some 30) (v:=undef) (a':=?_) #[true,true,true,true,true,true,true,true,true,true,true,false,false,false,false,false] rfl rfl (any_of HT_.out (by kernel_rfl)) (fun _ _ _ h => h) (Or.inr ⟨by rfl,rfl⟩) ?_ ?_
      rotate_left
      ·simp only [Act.put,List.setIfInBounds_toArray,List.set_cons_zero,List.set_cons_succ,i64_w,i32_w]
       rfl
      refine pure_ (i:=11) (N:=some 31) (v:=undef) (a':=?_) #[true,true,true,true,true,true,true,true,true,true,true,true,false,false,false,false] rfl rfl (any_of HT_.out (by kernel_rfl)) (fun _ _ _ h => h) (Or.inr ⟨by rfl,rfl⟩) ?_ ?_
      rotate_left
      ·simp only [Act.put,List.setIfInBounds_toArray,List.set_cons_zero,List.set_cons_succ,i64_w,i32_w]
       rfl
      refine pure_ (i:=12) (N:=some 32) (v:=undef) (a':=?_) #[true,true,true,true,true,true,true,true,true,true,true,true,true,false,false,false] rfl rfl (any_of HT_.out (by kernel_rfl)) (fun _ _ _ h => h) (Or.inr ⟨by rfl,rfl⟩) ?_ ?_
      rotate_left
      ·simp only [Act.put,List.setIfInBounds_toArray,List.set_cons_zero,List.set_cons_succ,i64_w,i32_w]
       rfl
      refine pure_ (i:=13) (N:=some 33) (v:=undef) (a':=?_) #[true,true,true,true,true,true,true,true,true,true,true,true,true,true,false,false] rfl rfl (any_of HT_.out (by kernel_rfl)) (fun _ _ _ h => h) (Or.inr ⟨by rfl,rfl⟩) ?_ ?_
      rotate_left
      ·simp only [Act.put,List.setIfInBounds_toArray,List.set_cons_zero,List.set_cons_succ,i64_w,i32_w]
       rfl
      refine pure_ (i:=14) (N:=some 34) (v:=undef) (a':=?_) #[true,true,true,true,true,true,true,true,true,true,true,true,true,true,true,false] rfl rfl (any_of HT_.out (by kernel_rfl)) (fun _ _ _ h => h) (Or.inr ⟨by rfl,rfl⟩) ?_ ?_
      rotate_left
      ·simp only [Act.put,List.setIfInBounds_toArray,List.set_cons_zero,List.set_cons_succ,i64_w,i32_w]
       rfl
      refine pure_ (i:=15) (N:=some 35) (v:=?_) (a':=?_) #[true,true,true,true,true,true,true,true,true,true,true,true,true,true,true,true] rfl rfl (any_of HT_.out (by kernel_rfl)) (fun _ _ _ h => h) (Or.inl ⟨by rfl,?_⟩) ?_ ?_
      rotate_left
      ·intro w'
       go_simp
       with_reducible rfl
      rotate_left
      ·simp only [Act.put,List.setIfInBounds_toArray,List.set_cons_zero,List.set_cons_succ,i64_w,i32_w]
       rfl
      refine done_ (done_of HT_.out (by kernel_rfl)) ?_
      try go_wp2
      go_meet
      case rel => exact ⟨_,(true),(by first | rfl | (simp;done) | (simp [*];done) | (simp [*,Go.Proofs.Ythalodnfecaccaa.Str.bne_nil];done)),H',⟨by have:=HJ3.out;first | omega | exact Nat.le_refl _⟩,⟨by (with_reducible repeat first|apply bN|apply bD|apply bA);exact BK129.out⟩,⟨by (with_reducible repeat first|apply bN|apply bD|apply bA);exact BK130.out⟩,⟨by (with_reducible repeat first|apply bN|apply bD|apply bA);exact BK131.out⟩,⟨by repeat (first | (with_reducible first | exact HB.out | apply below_alloc | apply pw_below_drewN | apply below_drew1 | refine below_set ?_ GE129.out | refine below_set ?_ GE130.out | refine below_set ?_ GE131.out) | exact HB.out)⟩⟩
     ·rw [if_neg c37] at H
      have c37b0 : (t135 != t136) = false:=by simpa using c37
      (try (have c37b1 : decide (t135 = t136) = true:=by simpa using c37))
      (try (have c37b2 : (t135 == t136) = true:=by simpa using c37))
      clear c37
      (first | rw [c37b0] | (simp only [i64_w,i32_w];rw [c37b0]) | skip)
      replace H:=Option.bind_eq_some_iff.mp H
      obtain ⟨⟨t137,t138,t139,t140,t141⟩,A410,H⟩:=H
      replace H : ((tidelineref03_Best.f a0_0 a0_1 a0_2 a0_3 a0_4 a1_0 a1_1 a1_2 a1_3 a1_4).bind fun bt142 => (tidelinelaw03_ItemBest.j1 kj3 (!(t137.toList == bt142.1.toList) || ((!(t138 == bt142.2.1) || (!(t139 == bt142.2.2.1))) || (!(t140.toList == bt142.2.2.2.1.toList) || (!(t141 == bt142.2.2.2.2))))) a0_0 a0_1 a0_2 a0_3 a0_4 a1_0 a1_1 a1_2 a1_3 a1_4 a2_0 a2_1 a2_2 a2_3 a2_4)) = some r:=H
      have A41:=Aside0.mk A410
      clear A410
      replace H:=Option.bind_eq_some_iff.mp H
      obtain ⟨⟨t142,t143,t144,t145,t146⟩,A420,H⟩:=H
      replace H : (tidelinelaw03_ItemBest.j1 kj3 (!(t137.toList == t142.toList) || ((!(t138 == t143) || (!(t139 == t144))) || (!(t140.toList == t145.toList) || (!(t141 == t146))))) a0_0 a0_1 a0_2 a0_3 a0_4 a1_0 a1_1 a1_2 a1_3 a1_4 a2_0 a2_1 a2_2 a2_3 a2_4) = some r:=H
      have A42:=Aside0.mk A420
      clear A420
      have H':=Aside0.mk H
      clear H
      try go_wp2
      replace BK129:=Aside0.mk (blk_drew BK129.out)
      replace BK130:=Aside0.mk (blk_drew BK130.out)
      replace BK131:=Aside0.mk (blk_drew BK131.out)
      replace HB:=Aside0.mk (below_drew1 HB.out)
      refine start_ (n:=16) (S:=fun w' => w'.cell? ⟨gb129,0,none⟩ = some (.string a0_0) ∧ w'.cell? ⟨gb129,1,none⟩ = some (.int .i64 a0_1) ∧ w'.cell? ⟨gb129,2,none⟩ = some (.int .i64 a0_2) ∧ w'.cell? ⟨gb129,3,none⟩ = some (.string a0_3) ∧ w'.cell? ⟨gb129,4,none⟩ = some (.bool a0_4) ∧ w'.cell? ⟨gb130,0,none⟩ = some (.string a1_0) ∧ w'.cell? ⟨gb130,1,none⟩ = some (.int .i64 a1_1) ∧ w'.cell? ⟨gb130,2,none⟩ = some (.int .i64 a1_2) ∧ w'.cell? ⟨gb130,3,none⟩ = some (.string a1_3) ∧ w'.cell? ⟨gb130,4,none⟩ = some (.bool a1_4)) (ds:=[]) #[false,false,false,false,false,false,false,false,false,false,false,false,false,false,false,false] (by kernel_rfl) rfl rfl ⟨(blk_cell BK129.out 0).trans rfl,(blk_cell BK129.out 1).trans rfl,(blk_cell BK129.out 2).trans rfl,(blk_cell BK129.out 3).trans rfl,(blk_cell BK129.out 4).trans rfl,(blk_cell BK130.out 0).trans rfl,(blk_cell BK130.out 1).trans rfl,(blk_cell BK130.out 2).trans rfl,(blk_cell BK130.out 3).trans rfl,(blk_cell BK130.out 4).trans rfl⟩ (fun hHeld => ?_);refine with_tabW tidelinelaw03_ItemBest.tab3 tidelinelaw03_ItemBest.bits3 (fun HT_ HW_ => ?_)
      generalize wc.drew = w43 at BK129 BK130 BK131 HB hHeld ⊢
      refine take_ (i:=0) (N:=some 20) (v:=?_) (a':=?_) #[true,false,false,false,false,false,false,false,false,false,false,false,false,false,false,false] rfl rfl (take_ofW HT_.out HW_.out (by kernel_rfl)) (fun _ _ _ h => h) (Or.inl ⟨by rfl,?_⟩) hHeld ?_ ?_
      rotate_left
      ·rintro w' ⟨s0,s1,s2,s3,s4,s5,s6,s7,s8,s9⟩
       go_simp
       with_reducible rfl
      rotate_left
      ·simp only [Act.put,List.setIfInBounds_toArray,List.set_cons_zero,List.set_cons_succ,i64_w,i32_w]
       rfl
      refine take_ (i:=1) (N:=some 21) (v:=?_) (a':=?_) #[true,true,false,false,false,false,false,false,false,false,false,false,false,false,false,false] rfl rfl (take_ofW HT_.out HW_.out (by kernel_rfl)) (fun _ _ _ h => h) (Or.inl ⟨by rfl,?_⟩) hHeld ?_ ?_
      rotate_left
      ·rintro w' ⟨s0,s1,s2,s3,s4,s5,s6,s7,s8,s9⟩
       go_simp
       with_reducible rfl
      rotate_left
      ·simp only [Act.put,List.setIfInBounds_toArray,List.set_cons_zero,List.set_cons_succ,i64_w,i32_w]
       rfl
      refine take_ (i:=3) (N:=some 23) (v:=?_) (a':=?_) #[true,true,false,true,false,false,false,false,false,false,false,false,false,false,false,false] rfl rfl (take_ofW HT_.out HW_.out (by kernel_rfl)) (fun _ _ _ h => h) (Or.inl ⟨by rfl,?_⟩) hHeld ?_ ?_
      rotate_left
      ·rintro w' ⟨s0,s1,s2,s3,s4,s5,s6,s7,s8,s9⟩
       go_simp
       with_reducible rfl
      rotate_left
      ·simp only [Act.put,List.setIfInBounds_toArray,List.set_cons_zero,List.set_cons_succ,i64_w,i32_w]
       rfl
      refine take_ (i:=4) (N:=some 24) (v:=?_) (a':=?_) #[true,true,false,true,true,false,false,false,false,false,false,false,false,false,false,false] rfl rfl (take_ofW HT_.out HW_.out (by kernel_rfl)) (fun _ _ _ h => h) (Or.inl ⟨by rfl,?_⟩) hHeld ?_ ?_
      rotate_left
      ·rintro w' ⟨s0,s1,s2,s3,s4,s5,s6,s7,s8,s9⟩
       go_simp
       with_reducible rfl
      rotate_left
      ·simp only [Act.put,List.setIfInBounds_toArray,List.set_cons_zero,List.set_cons_succ,i64_w,i32_w]
       rfl
      refine one_ (i:=2) (N:=some 22) #[true,true,true,true,true,false,false,false,false,false,false,false,false,false,false,false] rfl rfl (one_of HT_.out (by kernel_rfl)) (by decide) (fun K hK => ?_)
      refine goes_ Try.func16 (by kernel_rfl) rfl #[.agg #[.string a0_0,.int .i64 a0_1,.int .i64 a0_2,.string a0_3,.bool a0_4],.agg #[.string a1_0,.int .i64 a1_1,.int .i64 a1_2,.string a1_3,.bool a1_4]] (by rfl) rfl rfl (by (try simp only [List.map_toArray,List.map_cons,List.map_nil]);first | done | rfl | (simp only [List.length_drop,List.length_take];rfl)) ?_
      with_reducible refine (item_Newer.calls kj3 a0_0 a0_1 a0_2 a0_3 a0_4 a1_0 a1_1 a1_2 a1_3 a1_4 t135 _ A35.out).mono ?_
      rintro e w44 ⟨rfl,hb⟩
      refine ⟨_,rfl,?_⟩
      replace BK129:=Aside0.mk (blk_below (g:=gb129) (o:=.cells #[.string a0_0,.int .i64 a0_1,.int .i64 a0_2,.string a0_3,.bool a0_4] 25 (0,0)) (by (with_reducible repeat first|apply bN|apply bD|apply bA);exact BK129.out) hb)
      replace BK130:=Aside0.mk (blk_below (g:=gb130) (o:=.cells #[.string a1_0,.int .i64 a1_1,.int .i64 a1_2,.string a1_3,.bool a1_4] 25 (0,0)) (by (with_reducible repeat first|apply bN|apply bD|apply bA);exact BK130.out) hb)
      replace BK131:=Aside0.mk (blk_below (g:=gb131) (o:=.cells #[.string a2_0,.int .i64 a2_1,.int .i64 a2_2,.string a2_3,.bool a2_4] 25 (0,0)) (by (with_reducible repeat first|apply bN|apply bD|apply bA);exact BK131.out) hb)
      replace HB:=Aside0.mk (below_step (by repeat (first | (with_reducible first | exact HB.out | apply below_alloc | apply pw_below_drewN | apply below_drew1 | refine below_set ?_ GE129.out | refine below_set ?_ GE130.out | refine below_set ?_ GE131.out) | exact HB.out)) hb)
      (try clear hb)
      (try clear hb2)
      (try clear hk)
      (try clear hi)
      refine hK.out _ _ ⟨(blk_cell BK129.out 0).trans rfl,(blk_cell BK129.out 1).trans rfl,(blk_cell BK129.out 2).trans rfl,(blk_cell BK129.out 3).trans rfl,(blk_cell BK129.out 4).trans rfl,(blk_cell BK130.out 0).trans rfl,(blk_cell BK130.out 1).trans rfl,(blk_cell BK130.out 2).trans rfl,(blk_cell BK130.out 3).trans rfl,(blk_cell BK130.out 4).trans rfl⟩ (fun hHeld => ?_)
      clear hK K
      refine norm_ (a':=?_) ?_ ?_
      rotate_left
      ·show Act.put _ (some 22) _ = _
       simp only [Act.put,List.setIfInBounds_toArray,List.set_cons_zero,List.set_cons_succ,i64_w,i32_w]
       rfl
      refine one_ (i:=5) (N:=some 25) #[true,true,true,true,true,true,false,false,false,false,false,false,false,false,false,false] rfl rfl (one_of HT_.out (by kernel_rfl)) (by decide) (fun K hK => ?_)
      refine goes_ Try.func17 (by kernel_rfl) rfl #[.agg #[.string a0_0,.int .i64 a0_1,.int .i64 a0_2,.string a0_3,.bool a0_4],.agg #[.string a1_0,.int .i64 a1_1,.int .i64 a1_2,.string a1_3,.bool a1_4]] (by rfl) rfl rfl (by (try simp only [List.map_toArray,List.map_cons,List.map_nil]);first | done | rfl | (simp only [List.length_drop,List.length_take];rfl)) ?_
      with_reducible refine (tidelineref03_Newer.calls a0_0 a0_1 a0_2 a0_3 a0_4 a1_0 a1_1 a1_2 a1_3 a1_4 t136 _ A36.out).mono ?_
      rintro e w45 ⟨rfl,hb⟩
      refine ⟨_,rfl,?_⟩
      replace BK129:=Aside0.mk (blk_below (g:=gb129) (o:=.cells #[.string a0_0,.int .i64 a0_1,.int .i64 a0_2,.string a0_3,.bool a0_4] 25 (0,0)) (by (with_reducible repeat first|apply bN|apply bD|apply bA);exact BK129.out) hb)
      replace BK130:=Aside0.mk (blk_below (g:=gb130) (o:=.cells #[.string a1_0,.int .i64 a1_1,.int .i64 a1_2,.string a1_3,.bool a1_4] 25 (0,0)) (by (with_reducible repeat first|apply bN|apply bD|apply bA);exact BK130.out) hb)
      replace BK131:=Aside0.mk (blk_below (g:=gb131) (o:=.cells #[.string a2_0,.int .i64 a2_1,.int .i64 a2_2,.string a2_3,.bool a2_4] 25 (0,0)) (by (with_reducible repeat first|apply bN|apply bD|apply bA);exact BK131.out) hb)
      replace HB:=Aside0.mk (below_step (by repeat (first | (with_reducible first | exact HB.out | apply below_alloc | apply pw_below_drewN | apply below_drew1 | refine below_set ?_ GE129.out | refine below_set ?_ GE130.out | refine below_set ?_ GE131.out) | exact HB.out)) hb)
      (try clear hb)
      (try clear hb2)
      (try clear hk)
      (try clear hi)
      refine hK.out _ _ ⟨(blk_cell BK129.out 0).trans rfl,(blk_cell BK129.out 1).trans rfl,(blk_cell BK129.out 2).trans rfl,(blk_cell BK129.out 3).trans rfl,(blk_cell BK129.out 4).trans rfl,(blk_cell BK130.out 0).trans rfl,(blk_cell BK130.out 1).trans rfl,(blk_cell BK130.out 2).trans rfl,(blk_cell BK130.out 3).trans rfl,(blk_cell BK130.out 4).trans rfl⟩ (fun hHeld => ?_)
      clear hK K
      refine norm_ (a':=?_) ?_ ?_
      rotate_left
      ·show Act.put _ (some 25) _ = _
       simp only [Act.put,List.setIfInBounds_toArray,List.set_cons_zero,List.set_cons_succ,i64_w,i32_w]
       rfl
      refine pure_ (i:=6) (N:=some 26) (v:=?_) (a':=?_) #[true,true,true,true,true,true,true,false,false,false,false,false,false,false,false,false] rfl rfl (any_of HT_.out (by kernel_rfl)) (fun _ _ _ h => h) (Or.inl ⟨by rfl,?_⟩) ?_ ?_
      rotate_left
      ·intro w'
       go_simp
       with_reducible rfl
      rotate_left
      ·simp only [Act.put,List.setIfInBounds_toArray,List.set_cons_zero,List.set_cons_succ,i64_w,i32_w]
       rfl
      refine pure_ (i:=7) (N:=some 27) (v:=?_) (a':=?_) #[true,true,true,true,true,true,true,true,false,false,false,false,false,false,false,false] rfl rfl (any_of HT_.out (by kernel_rfl)) (fun _ _ _ h => h) (Or.inl ⟨by rfl,?_⟩) ?_ ?_
      rotate_left
      ·intro w'
       go_simp
       with_reducible rfl
      rotate_left
      ·simp only [Act.put,List.setIfInBounds_toArray,List.set_cons_zero,List.set_cons_succ,i64_w,i32_w]
       rfl
      refine take_ (i:=8) (N:=some 28) (v:=?_) (a':=?_) #[true,true,true,true,true,true,true,true,true,false,false,false,false,false,false,false] rfl rfl (take_ofW HT_.out HW_.out (by kernel_rfl)) (fun _ _ _ h => h) (Or.inl ⟨by rfl,?_⟩) hHeld ?_ ?_
      rotate_left
      ·rintro w' ⟨s0,s1,s2,s3,s4,s5,s6,s7,s8,s9⟩
       go_simp
       with_reducible rfl
      rotate_left
      ·simp only [Act.put,List.setIfInBounds_toArray,List.set_cons_zero,List.set_cons_succ,i64_w,i32_w]
       rfl
      refine take_ (i:=9) (N:=some 29) (v:=?_) (a':=?_) #[true,true,true,true,true,true,true,true,true,true,false,false,false,false,false,false] rfl rfl (take_ofW HT_.out HW_.out (by kernel_rfl)) (fun _ _ _ h => h) (Or.inl ⟨by rfl,?_⟩) hHeld ?_ ?_
      rotate_left
      ·rintro w' ⟨s0,s1,s2,s3,s4,s5,s6,s7,s8,s9⟩
       go_simp
       with_reducible rfl
      rotate_left
      ·simp only [Act.put,List.setIfInBounds_toArray,List.set_cons_zero,List.set_cons_succ,i64_w,i32_w]
       rfl
      refine take_ (i:=11) (N:=some 31) (v:=?_) (a':=?_) #[true,true,true,true,true,true,true,true,true,true,false,true,false,false,false,false] rfl rfl (take_ofW HT_.out HW_.out (by kernel_rfl)) (fun _ _ _ h => h) (Or.inl ⟨by rfl,?_⟩) hHeld ?_ ?_
      rotate_left
      ·rintro w' ⟨s0,s1,s2,s3,s4,s5,s6,s7,s8,s9⟩
       go_simp
       with_reducible rfl
      rotate_left
      ·simp only [Act.put,List.setIfInBounds_toArray,List.set_cons_zero,List.set_cons_succ,i64_w,i32_w]
       rfl
      refine take_ (i:=12) (N:=some 32) (v:=?_) (a':=?_) #[true,true,true,true,true,true,true,true,true,true,false,true,true,false,false,false] rfl rfl (take_ofW HT_.out HW_.out (by kernel_rfl)) (fun _ _ _ h => h) (Or.inl ⟨by rfl,?_⟩) hHeld ?_ ?_
      rotate_left
      ·rintro w' ⟨s0,s1,s2,s3,s4,s5,s6,s7,s8,s9⟩
       go_simp
       with_reducible rfl
      rotate_left
      ·simp only [Act.put,List.setIfInBounds_toArray,List.set_cons_zero,List.set_cons_succ,i64_w,i32_w]
       rfl
      refine one_ (i:=10) (N:=some 30) #[true,true,true,true,true,true,true,true,true,true,true,true,true,false,false,false] rfl rfl (one_of HT_.out (by kernel_rfl)) (by decide) (fun K hK => ?_)
      refine goes_ Try.func18 (by kernel_rfl) rfl #[.agg #[.string a0_0,.int .i64 a0_1,.int .i64 a0_2,.string a0_3,.bool a0_4],.agg #[.string a1_0,.int .i64 a1_1,.int .i64 a1_2,.string a1_3,.bool a1_4]] (by rfl) rfl rfl (by (try simp only [List.map_toArray,List.map_cons,List.map_nil]);first | done | rfl | (simp only [List.length_drop,List.length_take];rfl)) ?_
      with_reducible refine (item_Best.calls kj3 a0_0 a0_1 a0_2 a0_3 a0_4 a1_0 a1_1 a1_2 a1_3 a1_4 t137 t138 t139 t140 t141 _ A41.out).mono ?_
      rintro e w46 ⟨rfl,hb⟩
      refine ⟨_,rfl,?_⟩
      replace BK129:=Aside0.mk (blk_below (g:=gb129) (o:=.cells #[.string a0_0,.int .i64 a0_1,.int .i64 a0_2,.string a0_3,.bool a0_4] 25 (0,0)) (by (with_reducible repeat first|apply bN|apply bD|apply bA);exact BK129.out) hb)
      replace BK130:=Aside0.mk (blk_below (g:=gb130) (o:=.cells #[.string a1_0,.int .i64 a1_1,.int .i64 a1_2,.string a1_3,.bool a1_4] 25 (0,0)) (by (with_reducible repeat first|apply bN|apply bD|apply bA);exact BK130.out) hb)
      replace BK131:=Aside0.mk (blk_below (g:=gb131) (o:=.cells #[.string a2_0,.int .i64 a2_1,.int .i64 a2_2,.string a2_3,.bool a2_4] 25 (0,0)) (by (with_reducible repeat first|apply bN|apply bD|apply bA);exact BK131.out) hb)
      replace HB:=Aside0.mk (below_step (by repeat (first | (with_reducible first | exact HB.out | apply below_alloc | apply pw_below_drewN | apply below_drew1 | refine below_set ?_ GE129.out | refine below_set ?_ GE130.out | refine below_set ?_ GE131.out) | exact HB.out)) hb)
      (try clear hb)
      (try clear hb2)
      (try clear hk)
      (try clear hi)
      refine hK.out _ _ ⟨(blk_cell BK129.out 0).trans rfl,(blk_cell BK129.out 1).trans rfl,(blk_cell BK129.out 2).trans rfl,(blk_cell BK129.out 3).trans rfl,(blk_cell BK129.out 4).trans rfl,(blk_cell BK130.out 0).trans rfl,(blk_cell BK130.out 1).trans rfl,(blk_cell BK130.out 2).trans rfl,(blk_cell BK130.out 3).trans rfl,(blk_cell BK130.out 4).trans rfl⟩ (fun hHeld => ?_)
      clear hK K
      refine norm_ (a':=?_) ?_ ?_
      rotate_left
      ·show Act.put _ (some 30) _ = _
       simp only [Act.put,List.setIfInBounds_toArray,List.set_cons_zero,List.set_cons_succ,i64_w,i32_w]
       rfl
      refine one_ (i:=13) (N:=some 33) #[true,true,true,true,true,true,true,true,true,true,true,true,true,true,false,false] rfl rfl (one_of HT_.out (by kernel_rfl)) (by decide) (fun K hK => ?_)
      refine goes_ Try.func19 (by kernel_rfl) rfl #[.agg #[.string a0_0,.int .i64 a0_1,.int .i64 a0_2,.string a0_3,.bool a0_4],.agg #[.string a1_0,.int .i64 a1_1,.int .i64 a1_2,.string a1_3,.bool a1_4]] (by rfl) rfl rfl (by (try simp only [List.map_toArray,List.map_cons,List.map_nil]);first | done | rfl | (simp only [List.length_drop,List.length_take];rfl)) ?_
      with_reducible refine (tidelineref03_Best.calls a0_0 a0_1 a0_2 a0_3 a0_4 a1_0 a1_1 a1_2 a1_3 a1_4 t142 t143 t144 t145 t146 _ A42.out).mono ?_
      rintro e w47 ⟨rfl,hb⟩
      refine ⟨_,rfl,?_⟩
      replace BK129:=Aside0.mk (blk_below (g:=gb129) (o:=.cells #[.string a0_0,.int .i64 a0_1,.int .i64 a0_2,.string a0_3,.bool a0_4] 25 (0,0)) (by (with_reducible repeat first|apply bN|apply bD|apply bA);exact BK129.out) hb)
      replace BK130:=Aside0.mk (blk_below (g:=gb130) (o:=.cells #[.string a1_0,.int .i64 a1_1,.int .i64 a1_2,.string a1_3,.bool a1_4] 25 (0,0)) (by (with_reducible repeat first|apply bN|apply bD|apply bA);exact BK130.out) hb)
      replace BK131:=Aside0.mk (blk_below (g:=gb131) (o:=.cells #[.string a2_0,.int .i64 a2_1,.int .i64 a2_2,.string a2_3,.bool a2_4] 25 (0,0)) (by (with_reducible repeat first|apply bN|apply bD|apply bA);exact BK131.out) hb)
      replace HB:=Aside0.mk (below_step (by repeat (first | (with_reducible first | exact HB.out | apply below_alloc | apply pw_below_drewN | apply below_drew1 | refine below_set ?_ GE129.out | refine below_set ?_ GE130.out | refine below_set ?_ GE131.out) | exact HB.out)) hb)
      (try clear hb)
      (try clear hb2)
      (try clear hk)
      (try clear hi)
      refine hK.out _ _ ⟨(blk_cell BK129.out 0).trans rfl,(blk_cell BK129.out 1).trans rfl,(blk_cell BK129.out 2).trans rfl,(blk_cell BK129.out 3).trans rfl,(blk_cell BK129.out 4).trans rfl,(blk_cell BK130.out 0).trans rfl,(blk_cell BK130.out 1).trans rfl,(blk_cell BK130.out 2).trans rfl,(blk_cell BK130.out 3).trans rfl,(blk_cell BK130.out 4).trans rfl⟩ (fun hHeld => ?_)
      clear hK K
      refine norm_ (a':=?_) ?_ ?_
      rotate_left
      ·show Act.put _ (some 33) _ = _
       simp only [Act.put,List.setIfInBounds_toArray,List.set_cons_zero,List.set_cons_succ,i64_w,i32_w]
       rfl
      refine pure_ (i:=14) (N:=some 34) (v:=?_) (a':=?_) #[true,true,true,true,true,true,true,true,true,true,true,true,true,true,true,false] rfl rfl (any_of HT_.out (by kernel_rfl)) (fun _ _ _ h => h) (Or.inl ⟨by rfl,?_⟩) ?_ ?_
      rotate_left
      ·intro w'
       go_simp
       with_reducible rfl
      rotate_left
      ·simp only [Act.put,List.setIfInBounds_toArray,List.set_cons_zero,List.set_cons_succ,i64_w,i32_w]
       rfl
      refine pure_ (i:=15) (N:=some 35) (v:=?_) (a':=?_) #[true,true,true,true,true,true,true,true,true,true,true,true,true,true,true,true] rfl rfl (any_of HT_.out (by kernel_rfl)) (fun _ _ _ h => h) (Or.inl ⟨by rfl,?_⟩) ?_ ?_
      rotate_left
      ·intro w'
       go_simp
       with_reducible rfl
      rotate_left
      ·simp only [Act.put,List.setIfInBounds_toArray,List.set_cons_zero,List.set_cons_succ,i64_w,i32_w]
       rfl
      refine done_ (done_of HT_.out (by kernel_rfl)) ?_
      try go_wp2
      go_meet
      case rel => exact ⟨_,((!(t137.toList == t142.toList) || ((!(t138 == t143) || (!(t139 == t144))) || (!(t140.toList == t145.toList) || (!(t141 == t146)))))),(by first | rfl | (simp;done) | (simp [*];done) | (simp [*,Go.Proofs.Ythalodnfecaccaa.Str.bne_nil];done)),H',⟨by have:=HJ3.out;first | omega | exact Nat.le_refl _⟩,⟨by (with_reducible repeat first|apply bN|apply bD|apply bA);exact BK129.out⟩,⟨by (with_reducible repeat first|apply bN|apply bD|apply bA);exact BK130.out⟩,⟨by (with_reducible repeat first|apply bN|apply bD|apply bA);exact BK131.out⟩,⟨by repeat (first | (with_reducible first | exact HB.out | apply below_alloc | apply pw_below_drewN | apply below_drew1 | refine below_set ?_ GE129.out | refine below_set ?_ GE130.out | refine below_set ?_ GE131.out) | exact HB.out)⟩⟩
    case rest =>
     clear HC34
     try clear c1
     try clear c2
     try clear p2
     try clear c3
     try clear c5
     try clear c9
     try clear c10
     try clear c11
     try clear c15
     try clear c16
     try clear c17
     try clear c18
     try clear c19
     try clear c20
     try clear c24
     try clear c25
     try clear c28
     try clear c33
     try clear c37
     try clear c37b0
     try clear c37b1
     try clear c37b2
     try clear hcz12_0
     try clear hcz12_1
     try clear hcz12_2
     try clear hcz12_3
     try clear hcz12_4
     try clear hcz18_0
     try clear hcz18_1
     try clear hcz18_2
     try clear hcz18_3
     try clear hcz18_4
     try clear hcz21_0
     try clear hcz21_1
     try clear hcz21_2
     try clear hcz21_3
     try clear hcz21_4
     try clear hcz26_0
     try clear hcz26_1
     try clear hcz26_2
     try clear hcz26_3
     try clear hcz26_4
     try clear hcz29_0
     try clear hcz29_1
     try clear hcz29_2
     try clear hcz29_3
     try clear hcz29_4
     try clear hcz31_0
     try clear hcz31_1
     try clear hcz31_2
     try clear hcz31_3
     try clear hcz31_4
     try clear hfz12_0
     try clear hfz12_1
     try clear hfz12_2
     try clear hfz12_3
     try clear hfz12_4
     try clear hfz18_0
     try clear hfz18_1
     try clear hfz18_2
     try clear hfz18_3
     try clear hfz18_4
     try clear hfz21_0
     try clear hfz21_1
     try clear hfz21_2
     try clear hfz21_3
     try clear hfz21_4
     try clear hfz26_0
     try clear hfz26_1
     try clear hfz26_2
     try clear hfz26_3
     try clear hfz26_4
     try clear hfz29_0
     try clear hfz29_1
     try clear hfz29_2
     try clear hfz29_3
     try clear hfz29_4
     try clear hfz31_0
     try clear hfz31_1
     try clear hfz31_2
     try clear hfz31_3
     try clear hfz31_4
     try clear p2
     obtain ⟨kq,x35_33,rfl,HA,HJ33,BK129,BK130,BK131,HB⟩:=hcut
     cases kq with
     | zero => exact absurd HA.out (by simp [tidelinelaw03_ItemBest.j1])
     | succ kj33 =>
      have H:=HA.out
      clear HA
      simp only [tidelinelaw03_ItemBest.j1] at H
      by_cases c48 : x35_33 = true
      ·subst c48
       have H1 : (none) = some r:=by rw [if_pos rfl] at H;exact H
       clear H
       have H:=H1
       clear H1
       exact absurd H (by simp)
      ·replace c48:=Bool.eq_false_iff.mpr c48
       subst c48
       have H1 : ((item_Best.f kj33 a0_0 a0_1 a0_2 a0_3 a0_4 a1_0 a1_1 a1_2 a1_3 a1_4).bind fun bt147 => ((item_Best.f kj33 bt147.1 bt147.2.1 bt147.2.2.1 bt147.2.2.2.1 bt147.2.2.2.2 a2_0 a2_1 a2_2 a2_3 a2_4).bind fun bt152 => ((item_Best.f kj33 a1_0 a1_1 a1_2 a1_3 a1_4 a2_0 a2_1 a2_2 a2_3 a2_4).bind fun bt158 => ((item_Best.f kj33 a0_0 a0_1 a0_2 a0_3 a0_4 bt158.1 bt158.2.1 bt158.2.2.1 bt158.2.2.2.1 bt158.2.2.2.2).bind fun bt163 => ((item_Best.f kj33 a1_0 a1_1 a1_2 a1_3 a1_4 a0_0 a0_1 a0_2 a0_3 a0_4).bind fun bt169 => ((item_Best.f kj33 a2_0 a2_1 a2_2 a2_3 a2_4 bt169.1 bt169.2.1 bt169.2.2.1 bt169.2.2.2.1 bt169.2.2.2.2).bind fun bt174 => (if (a0_1 == a1_1 && (a0_2 == a1_2)) = true then (tidelinelaw03_ItemBest.j2 kj33 true a0_0 a0_1 a0_2 a0_3 a0_4 a1_0 a1_1 a1_2 a1_3 a1_4 a2_0 a2_1 a2_2 a2_3 a2_4 bt152.1 bt152.2.1 bt152.2.2.1 bt152.2.2.2.1 bt152.2.2.2.2 bt163.1 bt163.2.1 bt163.2.2.1 bt163.2.2.2.1 bt163.2.2.2.2 bt174.1 bt174.2.1 bt174.2.2.1 bt174.2.2.2.1 bt174.2.2.2.2) else (if (a1_1 == a2_1 && (a1_2 == a2_2)) = true then (tidelinelaw03_ItemBest.j2 kj33 true a0_0 a0_1 a0_2 a0_3 a0_4 a1_0 a1_1 a1_2 a1_3 a1_4 a2_0 a2_1 a2_2 a2_3 a2_4 bt152.1 bt152.2.1 bt152.2.2.1 bt152.2.2.2.1 bt152.2.2.2.2 bt163.1 bt163.2.1 bt163.2.2.1 bt163.2.2.2.1 bt163.2.2.2.2 bt174.1 bt174.2.1 bt174.2.2.1 bt174.2.2.2.1 bt174.2.2.2.2) else (tidelinelaw03_ItemBest.j2 kj33 (a0_1 == a2_1 && (a0_2 == a2_2)) a0_0 a0_1 a0_2 a0_3 a0_4 a1_0 a1_1 a1_2 a1_3 a1_4 a2_0 a2_1 a2_2 a2_3 a2_4 bt152.1 bt152.2.1 bt152.2.2.1 bt152.2.2.2.1 bt152.2.2.2.2 bt163.1 bt163.2.1 bt163.2.2.1 bt163.2.2.2.1 bt163.2.2.2.2 bt174.1 bt174.2.1 bt174.2.2.1 bt174.2.2.2.1 bt174.2.2.2.2))))))))) = some r:=by rw [if_neg (show ¬ (false = true) by decide)] at H;exact H
       clear H
       have H:=H1
       clear H1
       replace H:=Option.bind_eq_some_iff.mp H
       obtain ⟨⟨t147,t148,t149,t150,t151⟩,A490,H⟩:=H
       replace H : ((item_Best.f kj33 t147 t148 t149 t150 t151 a2_0 a2_1 a2_2 a2_3 a2_4).bind fun bt152 => ((item_Best.f kj33 a1_0 a1_1 a1_2 a1_3 a1_4 a2_0 a2_1 a2_2 a2_3 a2_4).bind fun bt158 => ((item_Best.f kj33 a0_0 a0_1 a0_2 a0_3 a0_4 bt158.1 bt158.2.1 bt158.2.2.1 bt158.2.2.2.1 bt158.2.2.2.2).bind fun bt163 => ((item_Best.f kj33 a1_0 a1_1 a1_2 a1_3 a1_4 a0_0 a0_1 a0_2 a0_3 a0_4).bind fun bt169 => ((item_Best.f kj33 a2_0 a2_1 a2_2 a2_3 a2_4 bt169.1 bt169.2.1 bt169.2.2.1 bt169.2.2.2.1 bt169.2.2.2.2).bind fun bt174 => (if (a0_1 == a1_1 && (a0_2 == a1_2)) = true then (tidelinelaw03_ItemBest.j2 kj33 true a0_0 a0_1 a0_2 a0_3 a0_4 a1_0 a1_1 a1_2 a1_3 a1_4 a2_0 a2_1 a2_2 a2_3 a2_4 bt152.1 bt152.2.1 bt152.2.2.1 bt152.2.2.2.1 bt152.2.2.2.2 bt163.1 bt163.2.1 bt163.2.2.1 bt163.2.2.2.1 bt163.2.2.2.2 bt174.1 bt174.2.1 bt174.2.2.1 bt174.2.2.2.1 bt174.2.2.2.2) else (if (a1_1 == a2_1 && (a1_2 == a2_2)) = true then (tidelinelaw03_ItemBest.j2 kj33 true a0_0 a0_1 a0_2 a0_3 a0_4 a1_0 a1_1 a1_2 a1_3 a1_4 a2_0 a2_1 a2_2 a2_3 a2_4 bt152.1 bt152.2.1 bt152.2.2.1 bt152.2.2.2.1 bt152.2.2.2.2 bt163.1 bt163.2.1 bt163.2.2.1 bt163.2.2.2.1 bt163.2.2.2.2 bt174.1 bt174.2.1 bt174.2.2.1 bt174.2.2.2.1 bt174.2.2.2.2) else (tidelinelaw03_ItemBest.j2 kj33 (a0_1 == a2_1 && (a0_2 == a2_2)) a0_0 a0_1 a0_2 a0_3 a0_4 a1_0 a1_1 a1_2 a1_3 a1_4 a2_0 a2_1 a2_2 a2_3 a2_4 bt152.1 bt152.2.1 bt152.2.2.1 bt152.2.2.2.1 bt152.2.2.2.2 bt163.1 bt163.2.1 bt163.2.2.1 bt163.2.2.2.1 bt163.2.2.2.2 bt174.1 bt174.2.1 bt174.2.2.1 bt174.2.2.2.1 bt174.2.2.2.2)))))))) = some r:=H
       have A49:=Aside0.mk A490
       clear A490
       replace H:=Option.bind_eq_some_iff.mp H
       obtain ⟨⟨t152,t153,t154,t155,t156⟩,A500,H⟩:=H
       replace H : ((item_Best.f kj33 a1_0 a1_1 a1_2 a1_3 a1_4 a2_0 a2_1 a2_2 a2_3 a2_4).bind fun bt158 => ((item_Best.f kj33 a0_0 a0_1 a0_2 a0_3 a0_4 bt158.1 bt158.2.1 bt158.2.2.1 bt158.2.2.2.1 bt158.2.2.2.2).bind fun bt163 => ((item_Best.f kj33 a1_0 a1_1 a1_2 a1_3 a1_4 a0_0 a0_1 a0_2 a0_3 a0_4).bind fun bt169 => ((item_Best.f kj33 a2_0 a2_1 a2_2 a2_3 a2_4 bt169.1 bt169.2.1 bt169.2.2.1 bt169.2.2.2.1 bt169.2.2.2.2).bind fun bt174 => (if (a0_1 == a1_1 && (a0_2 == a1_2)) = true then (tidelinelaw03_ItemBest.j2 kj33 true a0_0 a0_1 a0_2 a0_3 a0_4 a1_0 a1_1 a1_2 a1_3 a1_4 a2_0 a2_1 a2_2 a2_3 a2_4 t152 t153 t154 t155 t156 bt163.1 bt163.2.1 bt163.2.2.1 bt163.2.2.2.1 bt163.2.2.2.2 bt174.1 bt174.2.1 bt174.2.2.1 bt174.2.2.2.1 bt174.2.2.2.2) else (if (a1_1 == a2_1 && (a1_2 == a2_2)) = true then (tidelinelaw03_ItemBest.j2 kj33 true a0_0 a0_1 a0_2 a0_3 a0_4 a1_0 a1_1 a1_2 a1_3 a1_4 a2_0 a2_1 a2_2 a2_3 a2_4 t152 t153 t154 t155 t156 bt163.1 bt163.2.1 bt163.2.2.1 bt163.2.2.2.1 bt163.2.2.2.2 bt174.1 bt174.2.1 bt174.2.2.1 bt174.2.2.2.1 bt174.2.2.2.2) else (tidelinelaw03_ItemBest.j2 kj33 (a0_1 == a2_1 && (a0_2 == a2_2)) a0_0 a0_1 a0_2 a0_3 a0_4 a1_0 a1_1 a1_2 a1_3 a1_4 a2_0 a2_1 a2_2 a2_3 a2_4 t152 t153 t154 t155 t156 bt163.1 bt163.2.1 bt163.2.2.1 bt163.2.2.2.1 bt163.2.2.2.2 bt174.1 bt174.2.1 bt174.2.2.1 bt174.2.2.2.1 bt174.2.2.2.2))))))) = some r:=H
       have A50:=Aside0.mk A500
       clear A500
       replace H:=Option.bind_eq_some_iff.mp H
       obtain ⟨⟨t158,t159,t160,t161,t162⟩,A510,H⟩:=H
       replace H : ((item_Best.f kj33 a0_0 a0_1 a0_2 a0_3 a0_4 t158 t159 t160 t161 t162).bind fun bt163 => ((item_Best.f kj33 a1_0 a1_1 a1_2 a1_3 a1_4 a0_0 a0_1 a0_2 a0_3 a0_4).bind fun bt169 => ((item_Best.f kj33 a2_0 a2_1 a2_2 a2_3 a2_4 bt169.1 bt169.2.1 bt169.2.2.1 bt169.2.2.2.1 bt169.2.2.2.2).bind fun bt174 => (if (a0_1 == a1_1 && (a0_2 == a1_2)) = true then (tidelinelaw03_ItemBest.j2 kj33 true a0_0 a0_1 a0_2 a0_3 a0_4 a1_0 a1_1 a1_2 a1_3 a1_4 a2_0 a2_1 a2_2 a2_3 a2_4 t152 t153 t154 t155 t156 bt163.1 bt163.2.1 bt163.2.2.1 bt163.2.2.2.1 bt163.2.2.2.2 bt174.1 bt174.2.1 bt174.2.2.1 bt174.2.2.2.1 bt174.2.2.2.2) else (if (a1_1 == a2_1 && (a1_2 == a2_2)) = true then (tidelinelaw03_ItemBest.j2 kj33 true a0_0 a0_1 a0_2 a0_3 a0_4 a1_0 a1_1 a1_2 a1_3 a1_4 a2_0 a2_1 a2_2 a2_3 a2_4 t152 t153 t154 t155 t156 bt163.1 bt163.2.1 bt163.2.2.1 bt163.2.2.2.1 bt163.2.2.2.2 bt174.1 bt174.2.1 bt174.2.2.1 bt174.2.2.2.1 bt174.2.2.2.2) else (tidelinelaw03_ItemBest.j2 kj33 (a0_1 == a2_1 && (a0_2 == a2_2)) a0_0 a0_1 a0_2 a0_3 a0_4 a1_0 a1_1 a1_2 a1_3 a1_4 a2_0 a2_1 a2_2 a2_3 a2_4 t152 t153 t154 t155 t156 bt163.1 bt163.2.1 bt163.2.2.1 bt163.2.2.2.1 bt163.2.2.2.2 bt174.1 bt174.2.1 bt174.2.2.1 bt174.2.2.2.1 bt174.2.2.2.2)))))) = some r:=H
       have A51:=Aside0.mk A510
       clear A510
       replace H:=Option.bind_eq_some_iff.mp H
       obtain ⟨⟨t163,t164,t165,t166,t167⟩,A520,H⟩:=H
       replace H : ((item_Best.f kj33 a1_0 a1_1 a1_2 a1_3 a1_4 a0_0 a0_1 a0_2 a0_3 a0_4).bind fun bt169 => ((item_Best.f kj33 a2_0 a2_1 a2_2 a2_3 a2_4 bt169.1 bt169.2.1 bt169.2.2.1 bt169.2.2.2.1 bt169.2.2.2.2).bind fun bt174 => (if (a0_1 == a1_1 && (a0_2 == a1_2)) = true then (tidelinelaw03_ItemBest.j2 kj33 true a0_0 a0_1 a0_2 a0_3 a0_4 a1_0 a1_1 a1_2 a1_3 a1_4 a2_0 a2_1 a2_2 a2_3 a2_4 t152 t153 t154 t155 t156 t163 t164 t165 t166 t167 bt174.1 bt174.2.1 bt174.2.2.1 bt174.2.2.2.1 bt174.2.2.2.2) else (if (a1_1 == a2_1 && (a1_2 == a2_2)) = true then (tidelinelaw03_ItemBest.j2 kj33 true a0_0 a0_1 a0_2 a0_3 a0_4 a1_0 a1_1 a1_2 a1_3 a1_4 a2_0 a2_1 a2_2 a2_3 a2_4 t152 t153 t154 t155 t156 t163 t164 t165 t166 t167 bt174.1 bt174.2.1 bt174.2.2.1 bt174.2.2.2.1 bt174.2.2.2.2) else (tidelinelaw03_ItemBest.j2 kj33 (a0_1 == a2_1 && (a0_2 == a2_2)) a0_0 a0_1 a0_2 a0_3 a0_4 a1_0 a1_1 a1_2 a1_3 a1_4 a2_0 a2_1 a2_2 a2_3 a2_4 t152 t153 t154 t155 t156 t163 t164 t165 t166 t167 bt174.1 bt174.2.1 bt174.2.2.1 bt174.2.2.2.1 bt174.2.2.2.2))))) = some r:=H
       have A52:=Aside0.mk A520
       clear A520
       replace H:=Option.bind_eq_some_iff.mp H
       obtain ⟨⟨t169,t170,t171,t172,t173⟩,A530,H⟩:=H
       replace H : ((item_Best.f kj33 a2_0 a2_1 a2_2 a2_3 a2_4 t169 t170 t171 t172 t173).bind fun bt174 => (if (a0_1 == a1_1 && (a0_2 == a1_2)) = true then (tidelinelaw03_ItemBest.j2 kj33 true a0_0 a0_1 a0_2 a0_3 a0_4 a1_0 a1_1 a1_2 a1_3 a1_4 a2_0 a2_1 a2_2 a2_3 a2_4 t152 t153 t154 t155 t156 t163 t164 t165 t166 t167 bt174.1 bt174.2.1 bt174.2.2.1 bt174.2.2.2.1 bt174.2.2.2.2) else (if (a1_1 == a2_1 && (a1_2 == a2_2)) = true then (tidelinelaw03_ItemBest.j2 kj33 true a0_0 a0_1 a0_2 a0_3 a0_4 a1_0 a1_1 a1_2 a1_3 a1_4 a2_0 a2_1 a2_2 a2_3 a2_4 t152 t153 t154 t155 t156 t163 t164 t165 t166 t167 bt174.1 bt174.2.1 bt174.2.2.1 bt174.2.2.2.1 bt174.2.2.2.2) else (tidelinelaw03_ItemBest.j2 kj33 (a0_1 == a2_1 && (a0_2 == a2_2)) a0_0 a0_1 a0_2 a0_3 a0_4 a1_0 a1_1 a1_2 a1_3 a1_4 a2_0 a2_1 a2_2 a2_3 a2_4 t152 t153 t154 t155 t156 t163 t164 t165 t166 t167 bt174.1 bt174.2.1 bt174.2.2.1 bt174.2.2.2.1 bt174.2.2.2.2)))) = some r:=H
       have A53:=Aside0.mk A530
       clear A530
       replace H:=Option.bind_eq_some_iff.mp H
       obtain ⟨⟨t174,t175,t176,t177,t178⟩,A540,H⟩:=H
       replace H : (if (a0_1 == a1_1 && (a0_2 == a1_2)) = true then (tidelinelaw03_ItemBest.j2 kj33 true a0_0 a0_1 a0_2 a0_3 a0_4 a1_0 a1_1 a1_2 a1_3 a1_4 a2_0 a2_1 a2_2 a2_3 a2_4 t152 t153 t154 t155 t156 t163 t164 t165 t166 t167 t174 t175 t176 t177 t178) else (if (a1_1 == a2_1 && (a1_2 == a2_2)) = true then (tidelinelaw03_ItemBest.j2 kj33 true a0_0 a0_1 a0_2 a0_3 a0_4 a1_0 a1_1 a1_2 a1_3 a1_4 a2_0 a2_1 a2_2 a2_3 a2_4 t152 t153 t154 t155 t156 t163 t164 t165 t166 t167 t174 t175 t176 t177 t178) else (tidelinelaw03_ItemBest.j2 kj33 (a0_1 == a2_1 && (a0_2 == a2_2)) a0_0 a0_1 a0_2 a0_3 a0_4 a1_0 a1_1 a1_2 a1_3 a1_4 a2_0 a2_1 a2_2 a2_3 a2_4 t152 t153 t154 t155 t156 t163 t164 t165 t166 t167 t174 t175 t176 t177 t178))) = some r:=H
       have A54:=Aside0.mk A540
       clear A540
       have HC55:=Aside0.mk H
       clear H
       try go_wp2
       replace BK129:=Aside0.mk (blk_drew BK129.out)
       replace BK130:=Aside0.mk (blk_drew BK130.out)
       replace BK131:=Aside0.mk (blk_drew BK131.out)
       replace HB:=Aside0.mk (below_drew1 HB.out)
       refine start_ (n:=7) (S:=fun w' => w'.cell? ⟨gb129,0,none⟩ = some (.string a0_0) ∧ w'.cell? ⟨gb129,1,none⟩ = some (.int .i64 a0_1) ∧ w'.cell? ⟨gb129,2,none⟩ = some (.int .i64 a0_2) ∧ w'.cell? ⟨gb129,3,none⟩ = some (.string a0_3) ∧ w'.cell? ⟨gb129,4,none⟩ = some (.bool a0_4) ∧ w'.cell? ⟨gb130,0,none⟩ = some (.string a1_0) ∧ w'.cell? ⟨gb130,1,none⟩ = some (.int .i64 a1_1) ∧ w'.cell? ⟨gb130,2,none⟩ = some (.int .i64 a1_2) ∧ w'.cell? ⟨gb130,3,none⟩ = some (.string a1_3) ∧ w'.cell? ⟨gb130,4,none⟩ = some (.bool a1_4) ∧ w'.cell? ⟨gb131,0,none⟩ = some (.string a2_0) ∧ w'.cell? ⟨gb131,1,none⟩ = some (.int .i64 a2_1) ∧ w'.cell? ⟨gb131,2,none⟩ = some (.int .i64 a2_2) ∧ w'.cell? ⟨gb131,3,none⟩ = some (.string a2_3) ∧ w'.cell? ⟨gb131,4,none⟩ = some (.bool a2_4)) (ds:=[]) #[false,false,false,false,false,false,false] (by kernel_rfl) rfl rfl ⟨(blk_cell BK129.out 0).trans rfl,(blk_cell BK129.out 1).trans rfl,(blk_cell BK129.out 2).trans rfl,(blk_cell BK129.out 3).trans rfl,(blk_cell BK129.out 4).trans rfl,(blk_cell BK130.out 0).trans rfl,(blk_cell BK130.out 1).trans rfl,(blk_cell BK130.out 2).trans rfl,(blk_cell BK130.out 3).trans rfl,(blk_cell BK130.out 4).trans rfl,(blk_cell BK131.out 0).trans rfl,(blk_cell BK131.out 1).trans rfl,(blk_cell BK131.out 2).trans rfl,(blk_cell BK131.out 3).trans rfl,(blk_cell BK131.out 4).trans rfl⟩ (fun hHeld => ?_)
       generalize wc.drew = w56 at BK129 BK130 BK131 HB hHeld ⊢
       refine take_ (i:=0) (N:=some 36) (v:=?_) (a':=?_) #[true,false,false,false,false,false,false] rfl rfl (by kernel_rfl) (fun _ _ _ h => h) (Or.inl ⟨by rfl,?_⟩) hHeld ?_ ?_
       rotate_left
       ·rintro w' ⟨s0,s1,s2,s3,s4,s5,s6,s7,s8,s9,s10,s11,s12,s13,s14⟩
        go_simp
        with_reducible rfl
       rotate_left
       ·simp only [Act.put,List.setIfInBounds_toArray,List.set_cons_zero,List.set_cons_succ,i64_w,i32_w]
        rfl
       refine take_ (i:=1) (N:=some 37) (v:=?_) (a':=?_) #[true,true,false,false,false,false,false] rfl rfl (by kernel_rfl) (fun _ _ _ h => h) (Or.inl ⟨by rfl,?_⟩) hHeld ?_ ?_
       rotate_left
       ·rintro w' ⟨s0,s1,s2,s3,s4,s5,s6,s7,s8,s9,s10,s11,s12,s13,s14⟩
        go_simp
        with_reducible rfl
       rotate_left
       ·simp only [Act.put,List.setIfInBounds_toArray,List.set_cons_zero,List.set_cons_succ,i64_w,i32_w]
        rfl
       refine take_ (i:=3) (N:=some 39) (v:=?_) (a':=?_) #[true,true,false,true,false,false,false] rfl rfl (by kernel_rfl) (fun _ _ _ h => h) (Or.inl ⟨by rfl,?_⟩) hHeld ?_ ?_
       rotate_left
       ·rintro w' ⟨s0,s1,s2,s3,s4,s5,s6,s7,s8,s9,s10,s11,s12,s13,s14⟩
        go_simp
        with_reducible rfl
       rotate_left
       ·simp only [Act.put,List.setIfInBounds_toArray,List.set_cons_zero,List.set_cons_succ,i64_w,i32_w]
        rfl
       refine join_ (σ:=Nat) 1 #[true,true,true,true,true,true,false] (fun s_ => [(38,.agg #[.string t147,.int .i64 t148,.int .i64 t149,.string t150,.bool t151]),(40,.agg #[.string t152,.int .i64 t153,.int .i64 t154,.string t155,.bool t156]),(7,.pointer (some ⟨s_,0,none⟩))]) (fun s_ w' => (w'.cell? ⟨gb129,0,none⟩ = some (.string a0_0) ∧ w'.cell? ⟨gb129,1,none⟩ = some (.int .i64 a0_1) ∧ w'.cell? ⟨gb129,2,none⟩ = some (.int .i64 a0_2) ∧ w'.cell? ⟨gb129,3,none⟩ = some (.string a0_3) ∧ w'.cell? ⟨gb129,4,none⟩ = some (.bool a0_4) ∧ w'.cell? ⟨gb130,0,none⟩ = some (.string a1_0) ∧ w'.cell? ⟨gb130,1,none⟩ = some (.int .i64 a1_1) ∧ w'.cell? ⟨gb130,2,none⟩ = some (.int .i64 a1_2) ∧ w'.cell? ⟨gb130,3,none⟩ = some (.string a1_3) ∧ w'.cell? ⟨gb130,4,none⟩ = some (.bool a1_4) ∧ w'.cell? ⟨gb131,0,none⟩ = some (.string a2_0) ∧ w'.cell? ⟨gb131,1,none⟩ = some (.int .i64 a2_1) ∧ w'.cell? ⟨gb131,2,none⟩ = some (.int .i64 a2_2) ∧ w'.cell? ⟨gb131,3,none⟩ = some (.string a2_3) ∧ w'.cell? ⟨gb131,4,none⟩ = some (.bool a2_4)) ∧ (w'.heap[gb129]? = some (.cells #[.string a0_0,.int .i64 a0_1,.int .i64 a0_2,.string a0_3,.bool a0_4] 25 (0,0))) ∧ (w'.heap[gb130]? = some (.cells #[.string a1_0,.int .i64 a1_1,.int .i64 a1_2,.string a1_3,.bool a1_4] 25 (0,0))) ∧ (w'.heap[gb131]? = some (.cells #[.string a2_0,.int .i64 a2_1,.int .i64 a2_2,.string a2_3,.bool a2_4] 25 (0,0))) ∧ (w'.heap[s_]? = some (.cells #[.string (⟨#[]⟩ : ByteArray),.int .i64 0,.int .i64 0,.string (⟨#[]⟩ : ByteArray),.bool false] 25 (0,0))) ∧ (w.heap.size ≤ s_) ∧ (w.heap.size ≤ s_) ∧ (gb129 ≠ s_) ∧ (s_ ≠ gb129) ∧ (gb130 ≠ s_) ∧ (s_ ≠ gb130) ∧ (gb131 ≠ s_) ∧ (s_ ≠ gb131) ∧ (Below w.heap.size w w')) ?_ ?_
       rotate_left
       ·intro hCont
        refine two_ (i:=2) (j:=5) (Ni:=some 38) (Nj:=some 7) #[true,true,true,true,false,false,false] #[true,true,false,true,false,true,false] rfl rfl rfl rfl (by kernel_rfl) (by decide) (by decide) (fun K hK => ?_) (fun K hK => ?_)
        ·skip
         refine goes_ Try.func18 (by kernel_rfl) rfl #[.agg #[.string a0_0,.int .i64 a0_1,.int .i64 a0_2,.string a0_3,.bool a0_4],.agg #[.string a1_0,.int .i64 a1_1,.int .i64 a1_2,.string a1_3,.bool a1_4]] (by rfl) rfl rfl (by (try simp only [List.map_toArray,List.map_cons,List.map_nil]);first | done | rfl | (simp only [List.length_drop,List.length_take];rfl)) ?_
         with_reducible refine (item_Best.calls kj33 a0_0 a0_1 a0_2 a0_3 a0_4 a1_0 a1_1 a1_2 a1_3 a1_4 t147 t148 t149 t150 t151 _ A49.out).mono ?_
         rintro e w57 ⟨rfl,hb⟩
         refine ⟨_,rfl,?_⟩
         replace BK129:=Aside0.mk (blk_below (g:=gb129) (o:=.cells #[.string a0_0,.int .i64 a0_1,.int .i64 a0_2,.string a0_3,.bool a0_4] 25 (0,0)) (by (with_reducible repeat first|apply bN|apply bD|apply bA);exact BK129.out) hb)
         replace BK130:=Aside0.mk (blk_below (g:=gb130) (o:=.cells #[.string a1_0,.int .i64 a1_1,.int .i64 a1_2,.string a1_3,.bool a1_4] 25 (0,0)) (by (with_reducible repeat first|apply bN|apply bD|apply bA);exact BK130.out) hb)
         replace BK131:=Aside0.mk (blk_below (g:=gb131) (o:=.cells #[.string a2_0,.int .i64 a2_1,.int .i64 a2_2,.string a2_3,.bool a2_4] 25 (0,0)) (by (with_reducible repeat first|apply bN|apply bD|apply bA);exact BK131.out) hb)
         replace HB:=Aside0.mk (below_step (by repeat (first | (with_reducible first | exact HB.out | apply below_alloc | apply pw_below_drewN | apply below_drew1 | refine below_set ?_ GE129.out | refine below_set ?_ GE130.out | refine below_set ?_ GE131.out) | exact HB.out)) hb)
         (try clear hb)
         (try clear hb2)
         (try clear hk)
         (try clear hi)
         refine hK.out _ _ ⟨(blk_cell BK129.out 0).trans rfl,(blk_cell BK129.out 1).trans rfl,(blk_cell BK129.out 2).trans rfl,(blk_cell BK129.out 3).trans rfl,(blk_cell BK129.out 4).trans rfl,(blk_cell BK130.out 0).trans rfl,(blk_cell BK130.out 1).trans rfl,(blk_cell BK130.out 2).trans rfl,(blk_cell BK130.out 3).trans rfl,(blk_cell BK130.out 4).trans rfl,(blk_cell BK131.out 0).trans rfl,(blk_cell BK131.out 1).trans rfl,(blk_cell BK131.out 2).trans rfl,(blk_cell BK131.out 3).trans rfl,(blk_cell BK131.out 4).trans rfl⟩ (fun hHeld => ?_)
         clear hK K
         refine norm_ (a':=?_) ?_ ?_
         rotate_left
         ·show Act.put _ (some 38) _ = _
          simp only [Act.put,List.setIfInBounds_toArray,List.set_cons_zero,List.set_cons_succ,i64_w,i32_w]
          rfl
         refine two_ (i:=4) (j:=5) (Ni:=some 40) (Nj:=some 7) #[true,true,true,true,true,false,false] #[true,true,true,true,false,true,false] rfl rfl rfl rfl (by kernel_rfl) (by decide) (by decide) (fun K hK => ?_) (fun K hK => ?_)
         ·skip
          refine goes_ Try.func18 (by kernel_rfl) rfl #[.agg #[.string t147,.int .i64 t148,.int .i64 t149,.string t150,.bool t151],.agg #[.string a2_0,.int .i64 a2_1,.int .i64 a2_2,.string a2_3,.bool a2_4]] (by rfl) rfl rfl (by (try simp only [List.map_toArray,List.map_cons,List.map_nil]);first | done | rfl | (simp only [List.length_drop,List.length_take];rfl)) ?_
          with_reducible refine (item_Best.calls kj33 t147 t148 t149 t150 t151 a2_0 a2_1 a2_2 a2_3 a2_4 t152 t153 t154 t155 t156 _ A50.out).mono ?_
          rintro e w58 ⟨rfl,hb⟩
          refine ⟨_,rfl,?_⟩
          replace BK129:=Aside0.mk (blk_below (g:=gb129) (o:=.cells #[.string a0_0,.int .i64 a0_1,.int .i64 a0_2,.string a0_3,.bool a0_4] 25 (0,0)) (by (with_reducible repeat first|apply bN|apply bD|apply bA);exact BK129.out) hb)
          replace BK130:=Aside0.mk (blk_below (g:=gb130) (o:=.cells #[.string a1_0,.int .i64 a1_1,.int .i64 a1_2,.string a1_3,.bool a1_4] 25 (0,0)) (by (with_reducible repeat first|apply bN|apply bD|apply bA);exact BK130.out) hb)
          replace BK131:=Aside0.mk (blk_below (g:=gb131) (o:=.cells #[.string a2_0,.int .i64 a2_1,.int .i64 a2_2,.string a2_3,.bool a2_4] 25 (0,0)) (by (with_reducible repeat first|apply bN|apply bD|apply bA);exact BK131.out) hb)
          replace HB:=Aside0.mk (below_step (by repeat (first | (with_reducible first | exact HB.out | apply below_alloc | apply pw_below_drewN | apply below_drew1 | refine below_set ?_ GE129.out | refine below_set ?_ GE130.out | refine below_set ?_ GE131.out) | exact HB.out)) hb)
          (try clear hb)
          (try clear hb2)
          (try clear hk)
          (try clear hi)
          refine hK.out _ _ ⟨(blk_cell BK129.out 0).trans rfl,(blk_cell BK129.out 1).trans rfl,(blk_cell BK129.out 2).trans rfl,(blk_cell BK129.out 3).trans rfl,(blk_cell BK129.out 4).trans rfl,(blk_cell BK130.out 0).trans rfl,(blk_cell BK130.out 1).trans rfl,(blk_cell BK130.out 2).trans rfl,(blk_cell BK130.out 3).trans rfl,(blk_cell BK130.out 4).trans rfl,(blk_cell BK131.out 0).trans rfl,(blk_cell BK131.out 1).trans rfl,(blk_cell BK131.out 2).trans rfl,(blk_cell BK131.out 3).trans rfl,(blk_cell BK131.out 4).trans rfl⟩ (fun hHeld => ?_)
          clear hK K
          refine norm_ (a':=?_) ?_ ?_
          rotate_left
          ·show Act.put _ (some 40) _ = _
           simp only [Act.put,List.setIfInBounds_toArray,List.set_cons_zero,List.set_cons_succ,i64_w,i32_w]
           rfl
          refine one_ (i:=5) (N:=some 7) #[true,true,true,true,true,true,false] rfl rfl (by kernel_rfl) (by decide) (fun K hK => ?_)
          refine box_step ?hg (N:=7) ?hd (cs:=#[.string (⟨#[]⟩ : ByteArray),.int .i64 0,.int .i64 0,.string (⟨#[]⟩ : ByteArray),.bool false]) (t:=25) ?hr ?_;(case hd => rfl);(case hg => rfl);(case hr => first | (go_simp;done) | (go_simp;rfl))
          intro gb157 hg w59 hbox hb
          have n0_:=Aside0.mk (blk_below (g:=gb129) (o:=.cells #[.string a0_0,.int .i64 a0_1,.int .i64 a0_2,.string a0_3,.bool a0_4] 25 (0,0)) (by (with_reducible repeat first|apply bN|apply bD|apply bA);exact BK129.out) hb)
          have n1_:=Aside0.mk (blk_below (g:=gb130) (o:=.cells #[.string a1_0,.int .i64 a1_1,.int .i64 a1_2,.string a1_3,.bool a1_4] 25 (0,0)) (by (with_reducible repeat first|apply bN|apply bD|apply bA);exact BK130.out) hb)
          have n2_:=Aside0.mk (blk_below (g:=gb131) (o:=.cells #[.string a2_0,.int .i64 a2_1,.int .i64 a2_2,.string a2_3,.bool a2_4] 25 (0,0)) (by (with_reducible repeat first|apply bN|apply bD|apply bA);exact BK131.out) hb)
          have n3_:=Aside0.mk (below_step (by repeat (first | (with_reducible first | exact HB.out | apply below_alloc | apply pw_below_drewN | apply below_drew1 | refine below_set ?_ GE129.out | refine below_set ?_ GE130.out | refine below_set ?_ GE131.out) | exact HB.out)) hb)
          have n4_:=Aside0.mk (hbox)
          have n5_:=Aside0.mk ((by rw [hg];exact (below_size (by repeat (first | (with_reducible first | exact HB.out | apply below_alloc | apply pw_below_drewN | apply below_drew1 | refine below_set ?_ GE129.out | refine below_set ?_ GE130.out | refine below_set ?_ GE131.out) | exact HB.out))) : w.heap.size ≤ gb157))
          have n6_:=Aside0.mk ((by rw [hg];exact (below_size (by repeat (first | (with_reducible first | exact HB.out | apply below_alloc | apply pw_below_drewN | apply below_drew1 | refine below_set ?_ GE129.out | refine below_set ?_ GE130.out | refine below_set ?_ GE131.out) | exact HB.out))) : w.heap.size ≤ gb157))
          have n7_:=Aside0.mk ((by rw [hg];exact Nat.ne_of_lt (blk_lt (g:=gb129) (o:=.cells #[.string a0_0,.int .i64 a0_1,.int .i64 a0_2,.string a0_3,.bool a0_4] 25 (0,0)) (by (with_reducible repeat first|apply bN|apply bD|apply bA);exact BK129.out)) : gb129 ≠ gb157))
          have n8_:=Aside0.mk ((by rw [hg];exact Nat.ne_of_gt (blk_lt (g:=gb129) (o:=.cells #[.string a0_0,.int .i64 a0_1,.int .i64 a0_2,.string a0_3,.bool a0_4] 25 (0,0)) (by (with_reducible repeat first|apply bN|apply bD|apply bA);exact BK129.out)) : gb157 ≠ gb129))
          have n9_:=Aside0.mk ((by rw [hg];exact Nat.ne_of_lt (blk_lt (g:=gb130) (o:=.cells #[.string a1_0,.int .i64 a1_1,.int .i64 a1_2,.string a1_3,.bool a1_4] 25 (0,0)) (by (with_reducible repeat first|apply bN|apply bD|apply bA);exact BK130.out)) : gb130 ≠ gb157))
          have n10_:=Aside0.mk ((by rw [hg];exact Nat.ne_of_gt (blk_lt (g:=gb130) (o:=.cells #[.string a1_0,.int .i64 a1_1,.int .i64 a1_2,.string a1_3,.bool a1_4] 25 (0,0)) (by (with_reducible repeat first|apply bN|apply bD|apply bA);exact BK130.out)) : gb157 ≠ gb130))
          have n11_:=Aside0.mk ((by rw [hg];exact Nat.ne_of_lt (blk_lt (g:=gb131) (o:=.cells #[.string a2_0,.int .i64 a2_1,.int .i64 a2_2,.string a2_3,.bool a2_4] 25 (0,0)) (by (with_reducible repeat first|apply bN|apply bD|apply bA);exact BK131.out)) : gb131 ≠ gb157))
          have n12_:=Aside0.mk ((by rw [hg];exact Nat.ne_of_gt (blk_lt (g:=gb131) (o:=.cells #[.string a2_0,.int .i64 a2_1,.int .i64 a2_2,.string a2_3,.bool a2_4] 25 (0,0)) (by (with_reducible repeat first|apply bN|apply bD|apply bA);exact BK131.out)) : gb157 ≠ gb131))
          clear BK129 BK130 BK131 HB
          have BK129:=n0_
          have BK130:=n1_
          have BK131:=n2_
          have HB:=n3_
          have BK157:=n4_
          have GW157:=n5_
          have GE157:=n6_
          have NB129_157:=n7_
          have NB157_129:=n8_
          have NB130_157:=n9_
          have NB157_130:=n10_
          have NB131_157:=n11_
          have NB157_131:=n12_
          clear n0_ n1_ n2_ n3_ n4_ n5_ n6_ n7_ n8_ n9_ n10_ n11_ n12_
          clear hb hbox hg
          refine hK.out _ _ ⟨(blk_cell BK129.out 0).trans rfl,(blk_cell BK129.out 1).trans rfl,(blk_cell BK129.out 2).trans rfl,(blk_cell BK129.out 3).trans rfl,(blk_cell BK129.out 4).trans rfl,(blk_cell BK130.out 0).trans rfl,(blk_cell BK130.out 1).trans rfl,(blk_cell BK130.out 2).trans rfl,(blk_cell BK130.out 3).trans rfl,(blk_cell BK130.out 4).trans rfl,(blk_cell BK131.out 0).trans rfl,(blk_cell BK131.out 1).trans rfl,(blk_cell BK131.out 2).trans rfl,(blk_cell BK131.out 3).trans rfl,(blk_cell BK131.out 4).trans rfl⟩ (fun hHeld => ?_)
          clear hK K
          refine norm_ (a':=?_) ?_ ?_
          rotate_left
          ·show Act.put _ (some 7) _ = _
           simp only [Act.put,List.setIfInBounds_toArray,List.set_cons_zero,List.set_cons_succ,i64_w,i32_w]
           rfl
          exact norm_ (by simp only [putAll,Act.put,List.setIfInBounds_toArray,List.set_cons_zero,List.set_cons_succ]) (hCont (gb157) _ ⟨hHeld,(by (with_reducible repeat first|apply bN|apply bD|apply bA);exact BK129.out),(by (with_reducible repeat first|apply bN|apply bD|apply bA);exact BK130.out),(by (with_reducible repeat first|apply bN|apply bD|apply bA);exact BK131.out),(by (with_reducible repeat first|apply bN|apply bD|apply bA);exact BK157.out),GW157.out,GE157.out,NB129_157.out,NB157_129.out,NB130_157.out,NB157_130.out,NB131_157.out,NB157_131.out,(by repeat (first | (with_reducible first | exact HB.out | apply below_alloc | apply pw_below_drewN | apply below_drew1 | refine below_set ?_ GE129.out | refine below_set ?_ GE130.out | refine below_set ?_ GE131.out | refine below_set ?_ GE157.out) | exact HB.out))⟩)
         ·skip
          refine box_step ?hg (N:=7) ?hd (cs:=#[.string (⟨#[]⟩ : ByteArray),.int .i64 0,.int .i64 0,.string (⟨#[]⟩ : ByteArray),.bool false]) (t:=25) ?hr ?_;(case hd => rfl);(case hg => rfl);(case hr => first | (go_simp;done) | (go_simp;rfl))
          intro gb157 hg w58 hbox hb
          have n0_:=Aside0.mk (blk_below (g:=gb129) (o:=.cells #[.string a0_0,.int .i64 a0_1,.int .i64 a0_2,.string a0_3,.bool a0_4] 25 (0,0)) (by (with_reducible repeat first|apply bN|apply bD|apply bA);exact BK129.out) hb)
          have n1_:=Aside0.mk (blk_below (g:=gb130) (o:=.cells #[.string a1_0,.int .i64 a1_1,.int .i64 a1_2,.string a1_3,.bool a1_4] 25 (0,0)) (by (with_reducible repeat first|apply bN|apply bD|apply bA);exact BK130.out) hb)
          have n2_:=Aside0.mk (blk_below (g:=gb131) (o:=.cells #[.string a2_0,.int .i64 a2_1,.int .i64 a2_2,.string a2_3,.bool a2_4] 25 (0,0)) (by (with_reducible repeat first|apply bN|apply bD|apply bA);exact BK131.out) hb)
          have n3_:=Aside0.mk (below_step (by repeat (first | (with_reducible first | exact HB.out | apply below_alloc | apply pw_below_drewN | apply below_drew1 | refine below_set ?_ GE129.out | refine below_set ?_ GE130.out | refine below_set ?_ GE131.out) | exact HB.out)) hb)
          have n4_:=Aside0.mk (hbox)
          have n5_:=Aside0.mk ((by rw [hg];exact (below_size (by repeat (first | (with_reducible first | exact HB.out | apply below_alloc | apply pw_below_drewN | apply below_drew1 | refine below_set ?_ GE129.out | refine below_set ?_ GE130.out | refine below_set ?_ GE131.out) | exact HB.out))) : w.heap.size ≤ gb157))
          have n6_:=Aside0.mk ((by rw [hg];exact (below_size (by repeat (first | (with_reducible first | exact HB.out | apply below_alloc | apply pw_below_drewN | apply below_drew1 | refine below_set ?_ GE129.out | refine below_set ?_ GE130.out | refine below_set ?_ GE131.out) | exact HB.out))) : w.heap.size ≤ gb157))
          have n7_:=Aside0.mk ((by rw [hg];exact Nat.ne_of_lt (blk_lt (g:=gb129) (o:=.cells #[.string a0_0,.int .i64 a0_1,.int .i64 a0_2,.string a0_3,.bool a0_4] 25 (0,0)) (by (with_reducible repeat first|apply bN|apply bD|apply bA);exact BK129.out)) : gb129 ≠ gb157))
          have n8_:=Aside0.mk ((by rw [hg];exact Nat.ne_of_gt (blk_lt (g:=gb129) (o:=.cells #[.string a0_0,.int .i64 a0_1,.int .i64 a0_2,.string a0_3,.bool a0_4] 25 (0,0)) (by (with_reducible repeat first|apply bN|apply bD|apply bA);exact BK129.out)) : gb157 ≠ gb129))
          have n9_:=Aside0.mk ((by rw [hg];exact Nat.ne_of_lt (blk_lt (g:=gb130) (o:=.cells #[.string a1_0,.int .i64 a1_1,.int .i64 a1_2,.string a1_3,.bool a1_4] 25 (0,0)) (by (with_reducible repeat first|apply bN|apply bD|apply bA);exact BK130.out)) : gb130 ≠ gb157))
          have n10_:=Aside0.mk ((by rw [hg];exact Nat.ne_of_gt (blk_lt (g:=gb130) (o:=.cells #[.string a1_0,.int .i64 a1_1,.int .i64 a1_2,.string a1_3,.bool a1_4] 25 (0,0)) (by (with_reducible repeat first|apply bN|apply bD|apply bA);exact BK130.out)) : gb157 ≠ gb130))
          have n11_:=Aside0.mk ((by rw [hg];exact Nat.ne_of_lt (blk_lt (g:=gb131) (o:=.cells #[.string a2_0,.int .i64 a2_1,.int .i64 a2_2,.string a2_3,.bool a2_4] 25 (0,0)) (by (with_reducible repeat first|apply bN|apply bD|apply bA);exact BK131.out)) : gb131 ≠ gb157))
          have n12_:=Aside0.mk ((by rw [hg];exact Nat.ne_of_gt (blk_lt (g:=gb131) (o:=.cells #[.string a2_0,.int .i64 a2_1,.int .i64 a2_2,.string a2_3,.bool a2_4] 25 (0,0)) (by (with_reducible repeat first|apply bN|apply bD|apply bA);exact BK131.out)) : gb157 ≠ gb131))
          clear BK129 BK130 BK131 HB
          have BK129:=n0_
          have BK130:=n1_
          have BK131:=n2_
          have HB:=n3_
          have BK157:=n4_
          have GW157:=n5_
          have GE157:=n6_
          have NB129_157:=n7_
          have NB157_129:=n8_
          have NB130_157:=n9_
          have NB157_130:=n10_
          have NB131_157:=n11_
          have NB157_131:=n12_
          clear n0_ n1_ n2_ n3_ n4_ n5_ n6_ n7_ n8_ n9_ n10_ n11_ n12_
          clear hb hbox hg
          refine hK.out _ _ ⟨(blk_cell BK129.out 0).trans rfl,(blk_cell BK129.out 1).trans rfl,(blk_cell BK129.out 2).trans rfl,(blk_cell BK129.out 3).trans rfl,(blk_cell BK129.out 4).trans rfl,(blk_cell BK130.out 0).trans rfl,(blk_cell BK130.out 1).trans rfl,(blk_cell BK130.out 2).trans rfl,(blk_cell BK130.out 3).trans rfl,(blk_cell BK130.out 4).trans rfl,(blk_cell BK131.out 0).trans rfl,(blk_cell BK131.out 1).trans rfl,(blk_cell BK131.out 2).trans rfl,(blk_cell BK131.out 3).trans rfl,(blk_cell BK131.out 4).trans rfl⟩ (fun hHeld => ?_)
          clear hK K
          refine norm_ (a':=?_) ?_ ?_
          rotate_left
          ·show Act.put _ (some 7) _ = _
           simp only [Act.put,List.setIfInBounds_toArray,List.set_cons_zero,List.set_cons_succ,i64_w,i32_w]
           rfl
          refine one_ (i:=4) (N:=some 40) #[true,true,true,true,true,true,false] rfl rfl (by kernel_rfl) (by decide) (fun K hK => ?_)
          refine goes_ Try.func18 (by kernel_rfl) rfl #[.agg #[.string t147,.int .i64 t148,.int .i64 t149,.string t150,.bool t151],.agg #[.string a2_0,.int .i64 a2_1,.int .i64 a2_2,.string a2_3,.bool a2_4]] (by rfl) rfl rfl (by (try simp only [List.map_toArray,List.map_cons,List.map_nil]);first | done | rfl | (simp only [List.length_drop,List.length_take];rfl)) ?_
          with_reducible refine (item_Best.calls kj33 t147 t148 t149 t150 t151 a2_0 a2_1 a2_2 a2_3 a2_4 t152 t153 t154 t155 t156 _ A50.out).mono ?_
          rintro e w59 ⟨rfl,hb⟩
          refine ⟨_,rfl,?_⟩
          replace BK129:=Aside0.mk (blk_below (g:=gb129) (o:=.cells #[.string a0_0,.int .i64 a0_1,.int .i64 a0_2,.string a0_3,.bool a0_4] 25 (0,0)) (by (with_reducible repeat first|apply bN|apply bD|apply bA);exact BK129.out) hb)
          replace BK130:=Aside0.mk (blk_below (g:=gb130) (o:=.cells #[.string a1_0,.int .i64 a1_1,.int .i64 a1_2,.string a1_3,.bool a1_4] 25 (0,0)) (by (with_reducible repeat first|apply bN|apply bD|apply bA);exact BK130.out) hb)
          replace BK131:=Aside0.mk (blk_below (g:=gb131) (o:=.cells #[.string a2_0,.int .i64 a2_1,.int .i64 a2_2,.string a2_3,.bool a2_4] 25 (0,0)) (by (with_reducible repeat first|apply bN|apply bD|apply bA);exact BK131.out) hb)
          replace BK157:=Aside0.mk (blk_below (g:=gb157) (o:=.cells #[.string (⟨#[]⟩ : ByteArray),.int .i64 0,.int .i64 0,.string (⟨#[]⟩ : ByteArray),.bool false] 25 (0,0)) (by (with_reducible repeat first|apply bN|apply bD|apply bA);exact BK157.out) hb)
          replace HB:=Aside0.mk (below_step (by repeat (first | (with_reducible first | exact HB.out | apply below_alloc | apply pw_below_drewN | apply below_drew1 | refine below_set ?_ GE129.out | refine below_set ?_ GE130.out | refine below_set ?_ GE131.out | refine below_set ?_ GE157.out) | exact HB.out)) hb)
          (try clear hb)
          (try clear hb2)
          (try clear hk)
          (try clear hi)
          refine hK.out _ _ ⟨(blk_cell BK129.out 0).trans rfl,(blk_cell BK129.out 1).trans rfl,(blk_cell BK129.out 2).trans rfl,(blk_cell BK129.out 3).trans rfl,(blk_cell BK129.out 4).trans rfl,(blk_cell BK130.out 0).trans rfl,(blk_cell BK130.out 1).trans rfl,(blk_cell BK130.out 2).trans rfl,(blk_cell BK130.out 3).trans rfl,(blk_cell BK130.out 4).trans rfl,(blk_cell BK131.out 0).trans rfl,(blk_cell BK131.out 1).trans rfl,(blk_cell BK131.out 2).trans rfl,(blk_cell BK131.out 3).trans rfl,(blk_cell BK131.out 4).trans rfl⟩ (fun hHeld => ?_)
          clear hK K
          refine norm_ (a':=?_) ?_ ?_
          rotate_left
          ·show Act.put _ (some 40) _ = _
           simp only [Act.put,List.setIfInBounds_toArray,List.set_cons_zero,List.set_cons_succ,i64_w,i32_w]
           rfl
          exact norm_ (by simp only [putAll,Act.put,List.setIfInBounds_toArray,List.set_cons_zero,List.set_cons_succ]) (hCont (gb157) _ ⟨hHeld,(by (with_reducible repeat first|apply bN|apply bD|apply bA);exact BK129.out),(by (with_reducible repeat first|apply bN|apply bD|apply bA);exact BK130.out),(by (with_reducible repeat first|apply bN|apply bD|apply bA);exact BK131.out),(by (with_reducible repeat first|apply bN|apply bD|apply bA);exact BK157.out),GW157.out,GE157.out,NB129_157.out,NB157_129.out,NB130_157.out,NB157_130.out,NB131_157.out,NB157_131.out,(by repeat (first | (with_reducible first | exact HB.out | apply below_alloc | apply pw_below_drewN | apply below_drew1 | refine below_set ?_ GE129.out | refine below_set ?_ GE130.out | refine below_set ?_ GE131.out | refine below_set ?_ GE157.out) | exact HB.out))⟩)
        ·skip
         refine box_step ?hg (N:=7) ?hd (cs:=#[.string (⟨#[]⟩ : ByteArray),.int .i64 0,.int .i64 0,.string (⟨#[]⟩ : ByteArray),.bool false]) (t:=25) ?hr ?_;(case hd => rfl);(case hg => rfl);(case hr => first | (go_simp;done) | (go_simp;rfl))
         intro gb157 hg w57 hbox hb
         have n0_:=Aside0.mk (blk_below (g:=gb129) (o:=.cells #[.string a0_0,.int .i64 a0_1,.int .i64 a0_2,.string a0_3,.bool a0_4] 25 (0,0)) (by (with_reducible repeat first|apply bN|apply bD|apply bA);exact BK129.out) hb)
         have n1_:=Aside0.mk (blk_below (g:=gb130) (o:=.cells #[.string a1_0,.int .i64 a1_1,.int .i64 a1_2,.string a1_3,.bool a1_4] 25 (0,0)) (by (with_reducible repeat first|apply bN|apply bD|apply bA);exact BK130.out) hb)
         have n2_:=Aside0.mk (blk_below (g:=gb131) (o:=.cells #[.string a2_0,.int .i64 a2_1,.int .i64 a2_2,.string a2_3,.bool a2_4] 25 (0,0)) (by (with_reducible repeat first|apply bN|apply bD|apply bA);exact BK131.out) hb)
         have n3_:=Aside0.mk (below_step (by repeat (first | (with_reducible first | exact HB.out | apply below_alloc | apply pw_below_drewN | apply below_drew1 | refine below_set ?_ GE129.out | refine below_set ?_ GE130.out | refine below_set ?_ GE131.out) | exact HB.out)) hb)
         have n4_:=Aside0.mk (hbox)
         have n5_:=Aside0.mk ((by rw [hg];exact (below_size (by repeat (first | (with_reducible first | exact HB.out | apply below_alloc | apply pw_below_drewN | apply below_drew1 | refine below_set ?_ GE129.out | refine below_set ?_ GE130.out | refine below_set ?_ GE131.out) | exact HB.out))) : w.heap.size ≤ gb157))
         have n6_:=Aside0.mk ((by rw [hg];exact (below_size (by repeat (first | (with_reducible first | exact HB.out | apply below_alloc | apply pw_below_drewN | apply below_drew1 | refine below_set ?_ GE129.out | refine below_set ?_ GE130.out | refine below_set ?_ GE131.out) | exact HB.out))) : w.heap.size ≤ gb157))
         have n7_:=Aside0.mk ((by rw [hg];exact Nat.ne_of_lt (blk_lt (g:=gb129) (o:=.cells #[.string a0_0,.int .i64 a0_1,.int .i64 a0_2,.string a0_3,.bool a0_4] 25 (0,0)) (by (with_reducible repeat first|apply bN|apply bD|apply bA);exact BK129.out)) : gb129 ≠ gb157))
         have n8_:=Aside0.mk ((by rw [hg];exact Nat.ne_of_gt (blk_lt (g:=gb129) (o:=.cells #[.string a0_0,.int .i64 a0_1,.int .i64 a0_2,.string a0_3,.bool a0_4] 25 (0,0)) (by (with_reducible repeat first|apply bN|apply bD|apply bA);exact BK129.out)) : gb157 ≠ gb129))
         have n9_:=Aside0.mk ((by rw [hg];exact Nat.ne_of_lt (blk_lt (g:=gb130) (o:=.cells #[.string a1_0,.int .i64 a1_1,.int .i64 a1_2,.string a1_3,.bool a1_4] 25 (0,0)) (by (with_reducible repeat first|apply bN|apply bD|apply bA);exact BK130.out)) : gb130 ≠ gb157))
         have n10_:=Aside0.mk ((by rw [hg];exact Nat.ne_of_gt (blk_lt (g:=gb130) (o:=.cells #[.string a1_0,.int .i64 a1_1,.int .i64 a1_2,.string a1_3,.bool a1_4] 25 (0,0)) (by (with_reducible repeat first|apply bN|apply bD|apply bA);exact BK130.out)) : gb157 ≠ gb130))
         have n11_:=Aside0.mk ((by rw [hg];exact Nat.ne_of_lt (blk_lt (g:=gb131) (o:=.cells #[.string a2_0,.int .i64 a2_1,.int .i64 a2_2,.string a2_3,.bool a2_4] 25 (0,0)) (by (with_reducible repeat first|apply bN|apply bD|apply bA);exact BK131.out)) : gb131 ≠ gb157))
         have n12_:=Aside0.mk ((by rw [hg];exact Nat.ne_of_gt (blk_lt (g:=gb131) (o:=.cells #[.string a2_0,.int .i64 a2_1,.int .i64 a2_2,.string a2_3,.bool a2_4] 25 (0,0)) (by (with_reducible repeat first|apply bN|apply bD|apply bA);exact BK131.out)) : gb157 ≠ gb131))
         clear BK129 BK130 BK131 HB
         have BK129:=n0_
         have BK130:=n1_
         have BK131:=n2_
         have HB:=n3_
         have BK157:=n4_
         have GW157:=n5_
         have GE157:=n6_
         have NB129_157:=n7_
         have NB157_129:=n8_
         have NB130_157:=n9_
         have NB157_130:=n10_
         have NB131_157:=n11_
         have NB157_131:=n12_
         clear n0_ n1_ n2_ n3_ n4_ n5_ n6_ n7_ n8_ n9_ n10_ n11_ n12_
         clear hb hbox hg
         refine hK.out _ _ ⟨(blk_cell BK129.out 0).trans rfl,(blk_cell BK129.out 1).trans rfl,(blk_cell BK129.out 2).trans rfl,(blk_cell BK129.out 3).trans rfl,(blk_cell BK129.out 4).trans rfl,(blk_cell BK130.out 0).trans rfl,(blk_cell BK130.out 1).trans rfl,(blk_cell BK130.out 2).trans rfl,(blk_cell BK130.out 3).trans rfl,(blk_cell BK130.out 4).trans rfl,(blk_cell BK131.out 0).trans rfl,(blk_cell BK131.out 1).trans rfl,(blk_cell BK131.out 2).trans rfl,(blk_cell BK131.out 3).trans rfl,(blk_cell BK131.out 4).trans rfl⟩ (fun hHeld => ?_)
         clear hK K
         refine norm_ (a':=?_) ?_ ?_
         rotate_left
         ·show Act.put _ (some 7) _ = _
          simp only [Act.put,List.setIfInBounds_toArray,List.set_cons_zero,List.set_cons_succ,i64_w,i32_w]
          rfl
         refine one_ (i:=2) (N:=some 38) #[true,true,true,true,false,true,false] rfl rfl (by kernel_rfl) (by decide) (fun K hK => ?_)
         refine goes_ Try.func18 (by kernel_rfl) rfl #[.agg #[.string a0_0,.int .i64 a0_1,.int .i64 a0_2,.string a0_3,.bool a0_4],.agg #[.string a1_0,.int .i64 a1_1,.int .i64 a1_2,.string a1_3,.bool a1_4]] (by rfl) rfl rfl (by (try simp only [List.map_toArray,List.map_cons,List.map_nil]);first | done | rfl | (simp only [List.length_drop,List.length_take];rfl)) ?_
         with_reducible refine (item_Best.calls kj33 a0_0 a0_1 a0_2 a0_3 a0_4 a1_0 a1_1 a1_2 a1_3 a1_4 t147 t148 t149 t150 t151 _ A49.out).mono ?_
         rintro e w58 ⟨rfl,hb⟩
         refine ⟨_,rfl,?_⟩
         replace BK129:=Aside0.mk (blk_below (g:=gb129) (o:=.cells #[.string a0_0,.int .i64 a0_1,.int .i64 a0_2,.string a0_3,.bool a0_4] 25 (0,0)) (by (with_reducible repeat first|apply bN|apply bD|apply bA);exact BK129.out) hb)
         replace BK130:=Aside0.mk (blk_below (g:=gb130) (o:=.cells #[.string a1_0,.int .i64 a1_1,.int .i64 a1_2,.string a1_3,.bool a1_4] 25 (0,0)) (by (with_reducible repeat first|apply bN|apply bD|apply bA);exact BK130.out) hb)
         replace BK131:=Aside0.mk (blk_below (g:=gb131) (o:=.cells #[.string a2_0,.int .i64 a2_1,.int .i64 a2_2,.string a2_3,.bool a2_4] 25 (0,0)) (by (with_reducible repeat first|apply bN|apply bD|apply bA);exact BK131.out) hb)
         replace BK157:=Aside0.mk (blk_below (g:=gb157) (o:=.cells #[.string (⟨#[]⟩ : ByteArray),.int .i64 0,.int .i64 0,.string (⟨#[]⟩ : ByteArray),.bool false] 25 (0,0)) (by (with_reducible repeat first|apply bN|apply bD|apply bA);exact BK157.out) hb)
         replace HB:=Aside0.mk (below_step (by repeat (first | (with_reducible first | exact HB.out | apply below_alloc | apply pw_below_drewN | apply below_drew1 | refine below_set ?_ GE129.out | refine below_set ?_ GE130.out | refine below_set ?_ GE131.out | refine below_set ?_ GE157.out) | exact HB.out)) hb)
         (try clear hb)
         (try clear hb2)
         (try clear hk)
         (try clear hi)
         refine hK.out _ _ ⟨(blk_cell BK129.out 0).trans rfl,(blk_cell BK129.out 1).trans rfl,(blk_cell BK129.out 2).trans rfl,(blk_cell BK129.out 3).trans rfl,(blk_cell BK129.out 4).trans rfl,(blk_cell BK130.out 0).trans rfl,(blk_cell BK130.out 1).trans rfl,(blk_cell BK130.out 2).trans rfl,(blk_cell BK130.out 3).trans rfl,(blk_cell BK130.out 4).trans rfl,(blk_cell BK131.out 0).trans rfl,(blk_cell BK131.out 1).trans rfl,(blk_cell BK131.out 2).trans rfl,(blk_cell BK131.out 3).trans rfl,(blk_cell BK131.out 4).trans rfl⟩ (fun hHeld => ?_)
         clear hK K
         refine norm_ (a':=?_) ?_ ?_
         rotate_left
         ·show Act.put _ (some 38) _ = _
          simp only [Act.put,List.setIfInBounds_toArray,List.set_cons_zero,List.set_cons_succ,i64_w,i32_w]
          rfl
         refine one_ (i:=4) (N:=some 40) #[true,true,true,true,true,true,false] rfl rfl (by kernel_rfl) (by decide) (fun K hK => ?_)
         refine goes_ Try.func18 (by kernel_rfl) rfl #[.agg #[.string t147,.int .i64 t148,.int .i64 t149,.string t150,.bool t151],.agg #[.string a2_0,.int .i64 a2_1,.int .i64 a2_2,.string a2_3,.bool a2_4]] (by rfl) rfl rfl (by (try simp only [List.map_toArray,List.map_cons,List.map_nil]);first | done | rfl | (simp only [List.length_drop,List.length_take];rfl)) ?_
         with_reducible refine (item_Best.calls kj33 t147 t148 t149 t150 t151 a2_0 a2_1 a2_2 a2_3 a2_4 t152 t153 t154 t155 t156 _ A50.out).mono ?_
         rintro e w59 ⟨rfl,hb⟩
         refine ⟨_,rfl,?_⟩
         replace BK129:=Aside0.mk (blk_below (g:=gb129) (o:=.cells #[.string a0_0,.int .i64 a0_1,.int .i64 a0_2,.string a0_3,.bool a0_4] 25 (0,0)) (by (with_reducible repeat first|apply bN|apply bD|apply bA);exact BK129.out) hb)
         replace BK130:=Aside0.mk (blk_below (g:=gb130) (o:=.cells #[.string a1_0,.int .i64 a1_1,.int .i64 a1_2,.string a1_3,.bool a1_4] 25 (0,0)) (by (with_reducible repeat first|apply bN|apply bD|apply bA);exact BK130.out) hb)
         replace BK131:=Aside0.mk (blk_below (g:=gb131) (o:=.cells #[.string a2_0,.int .i64 a2_1,.int .i64 a2_2,.string a2_3,.bool a2_4] 25 (0,0)) (by (with_reducible repeat first|apply bN|apply bD|apply bA);exact BK131.out) hb)
         replace BK157:=Aside0.mk (blk_below (g:=gb157) (o:=.cells #[.string (⟨#[]⟩ : ByteArray),.int .i64 0,.int .i64 0,.string (⟨#[]⟩ : ByteArray),.bool false] 25 (0,0)) (by (with_reducible repeat first|apply bN|apply bD|apply bA);exact BK157.out) hb)
         replace HB:=Aside0.mk (below_step (by repeat (first | (with_reducible first | exact HB.out | apply below_alloc | apply pw_below_drewN | apply below_drew1 | refine below_set ?_ GE129.out | refine below_set ?_ GE130.out | refine below_set ?_ GE131.out | refine below_set ?_ GE157.out) | exact HB.out)) hb)
         (try clear hb)
         (try clear hb2)
         (try clear hk)
         (try clear hi)
         refine hK.out _ _ ⟨(blk_cell BK129.out 0).trans rfl,(blk_cell BK129.out 1).trans rfl,(blk_cell BK129.out 2).trans rfl,(blk_cell BK129.out 3).trans rfl,(blk_cell BK129.out 4).trans rfl,(blk_cell BK130.out 0).trans rfl,(blk_cell BK130.out 1).trans rfl,(blk_cell BK130.out 2).trans rfl,(blk_cell BK130.out 3).trans rfl,(blk_cell BK130.out 4).trans rfl,(blk_cell BK131.out 0).trans rfl,(blk_cell BK131.out 1).trans rfl,(blk_cell BK131.out 2).trans rfl,(blk_cell BK131.out 3).trans rfl,(blk_cell BK131.out 4).trans rfl⟩ (fun hHeld => ?_)
         clear hK K
         refine norm_ (a':=?_) ?_ ?_
         rotate_left
         ·show Act.put _ (some 40) _ = _
          simp only [Act.put,List.setIfInBounds_toArray,List.set_cons_zero,List.set_cons_succ,i64_w,i32_w]
          rfl
         exact norm_ (by simp only [putAll,Act.put,List.setIfInBounds_toArray,List.set_cons_zero,List.set_cons_succ]) (hCont (gb157) _ ⟨hHeld,(by (with_reducible repeat first|apply bN|apply bD|apply bA);exact BK129.out),(by (with_reducible repeat first|apply bN|apply bD|apply bA);exact BK130.out),(by (with_reducible repeat first|apply bN|apply bD|apply bA);exact BK131.out),(by (with_reducible repeat first|apply bN|apply bD|apply bA);exact BK157.out),GW157.out,GE157.out,NB129_157.out,NB157_129.out,NB130_157.out,NB157_130.out,NB131_157.out,NB157_131.out,(by repeat (first | (with_reducible first | exact HB.out | apply below_alloc | apply pw_below_drewN | apply below_drew1 | refine below_set ?_ GE129.out | refine below_set ?_ GE130.out | refine below_set ?_ GE131.out | refine below_set ?_ GE157.out) | exact HB.out))⟩)
       rintro gb157 w60 ⟨hS_,h0_,h1_,h2_,h3_,h4_,h5_,h6_,h7_,h8_,h9_,h10_,h11_,h12_⟩
       have n0_ : Aside0 (w60.heap[gb129]? = some (.cells #[.string a0_0,.int .i64 a0_1,.int .i64 a0_2,.string a0_3,.bool a0_4] 25 (0,0))):=⟨h0_⟩
       have n1_ : Aside0 (w60.heap[gb130]? = some (.cells #[.string a1_0,.int .i64 a1_1,.int .i64 a1_2,.string a1_3,.bool a1_4] 25 (0,0))):=⟨h1_⟩
       have n2_ : Aside0 (w60.heap[gb131]? = some (.cells #[.string a2_0,.int .i64 a2_1,.int .i64 a2_2,.string a2_3,.bool a2_4] 25 (0,0))):=⟨h2_⟩
       have n3_ : Aside0 (w60.heap[gb157]? = some (.cells #[.string (⟨#[]⟩ : ByteArray),.int .i64 0,.int .i64 0,.string (⟨#[]⟩ : ByteArray),.bool false] 25 (0,0))):=⟨h3_⟩
       have n4_ : Aside0 (w.heap.size ≤ gb157):=⟨h4_⟩
       have n5_ : Aside0 (w.heap.size ≤ gb157):=⟨h5_⟩
       have n6_ : Aside0 (gb129 ≠ gb157):=⟨h6_⟩
       have n7_ : Aside0 (gb157 ≠ gb129):=⟨h7_⟩
       have n8_ : Aside0 (gb130 ≠ gb157):=⟨h8_⟩
       have n9_ : Aside0 (gb157 ≠ gb130):=⟨h9_⟩
       have n10_ : Aside0 (gb131 ≠ gb157):=⟨h10_⟩
       have n11_ : Aside0 (gb157 ≠ gb131):=⟨h11_⟩
       have n12_ : Aside0 (Below w.heap.size w w60):=⟨h12_⟩
       clear BK129 BK130 BK131 HB
       clear h0_ h1_ h2_ h3_ h4_ h5_ h6_ h7_ h8_ h9_ h10_ h11_ h12_
       have BK129:=n0_
       have BK130:=n1_
       have BK131:=n2_
       have BK157:=n3_
       have GW157:=n4_
       have GE157:=n5_
       have NB129_157:=n6_
       have NB157_129:=n7_
       have NB130_157:=n8_
       have NB157_130:=n9_
       have NB131_157:=n10_
       have NB157_131:=n11_
       have HB:=n12_
       clear n0_ n1_ n2_ n3_ n4_ n5_ n6_ n7_ n8_ n9_ n10_ n11_ n12_
       have hHeld : w60.cell? ⟨gb129,0,none⟩ = some (.string a0_0) ∧ w60.cell? ⟨gb129,1,none⟩ = some (.int .i64 a0_1) ∧ w60.cell? ⟨gb129,2,none⟩ = some (.int .i64 a0_2) ∧ w60.cell? ⟨gb129,3,none⟩ = some (.string a0_3) ∧ w60.cell? ⟨gb129,4,none⟩ = some (.bool a0_4) ∧ w60.cell? ⟨gb130,0,none⟩ = some (.string a1_0) ∧ w60.cell? ⟨gb130,1,none⟩ = some (.int .i64 a1_1) ∧ w60.cell? ⟨gb130,2,none⟩ = some (.int .i64 a1_2) ∧ w60.cell? ⟨gb130,3,none⟩ = some (.string a1_3) ∧ w60.cell? ⟨gb130,4,none⟩ = some (.bool a1_4) ∧ w60.cell? ⟨gb131,0,none⟩ = some (.string a2_0) ∧ w60.cell? ⟨gb131,1,none⟩ = some (.int .i64 a2_1) ∧ w60.cell? ⟨gb131,2,none⟩ = some (.int .i64 a2_2) ∧ w60.cell? ⟨gb131,3,none⟩ = some (.string a2_3) ∧ w60.cell? ⟨gb131,4,none⟩ = some (.bool a2_4):=hS_
       refine norm_ (a':=?_) ?_ ?_
       rotate_left
       ·simp only [putAll,Act.put,List.setIfInBounds_toArray,List.set_cons_zero,List.set_cons_succ]
        rfl
       refine one_ (i:=6) (N:=none) #[true,true,true,true,true,true,true] rfl rfl (by kernel_rfl) (by decide) (fun K hK => ?_)
       have hs61 : w60.cell? ⟨gb157,0,none⟩ = some (.string (⟨#[]⟩ : ByteArray)):=(blk_cell BK157.out 0).trans rfl
       have hfs61:=blk_frozen BK157.out 0
       have hns61_0:=NB129_157.out
       have hns61_1:=NB130_157.out
       have hns61_2:=NB131_157.out
       have hms61_0:=NB157_129.out
       have hms61_1:=NB157_130.out
       have hms61_2:=NB157_131.out
       have hs62 : w60.cell? ⟨gb157,1,none⟩ = some (.int .i64 0):=(blk_cell BK157.out 1).trans rfl
       have hfs62:=blk_frozen BK157.out 1
       have hns62_0:=NB129_157.out
       have hns62_1:=NB130_157.out
       have hns62_2:=NB131_157.out
       have hms62_0:=NB157_129.out
       have hms62_1:=NB157_130.out
       have hms62_2:=NB157_131.out
       have hs63 : w60.cell? ⟨gb157,2,none⟩ = some (.int .i64 0):=(blk_cell BK157.out 2).trans rfl
       have hfs63:=blk_frozen BK157.out 2
       have hns63_0:=NB129_157.out
       have hns63_1:=NB130_157.out
       have hns63_2:=NB131_157.out
       have hms63_0:=NB157_129.out
       have hms63_1:=NB157_130.out
       have hms63_2:=NB157_131.out
       have hs64 : w60.cell? ⟨gb157,3,none⟩ = some (.string (⟨#[]⟩ : ByteArray)):=(blk_cell BK157.out 3).trans rfl
       have hfs64:=blk_frozen BK157.out 3
       have hns64_0:=NB129_157.out
       have hns64_1:=NB130_157.out
       have hns64_2:=NB131_157.out
       have hms64_0:=NB157_129.out
       have hms64_1:=NB157_130.out
       have hms64_2:=NB157_131.out
       have hs65 : w60.cell? ⟨gb157,4,none⟩ = some (.bool false):=(blk_cell BK157.out 4).trans rfl
       have hfs65:=blk_frozen BK157.out 4
       have hns65_0:=NB129_157.out
       have hns65_1:=NB130_157.out
       have hns65_2:=NB131_157.out
       have hms65_0:=NB157_129.out
       have hms65_1:=NB157_130.out
       have hms65_2:=NB157_131.out
       refine skip_ (w1:=?_) (by rfl) rfl ?_ ?_
       rotate_left
       ·go_simp
        rfl
       refine hK.out _ _ ⟨((cell_far (p:=⟨gb157,_,none⟩) NB129_157.out _).trans (((cell_far (p:=⟨gb157,_,none⟩) NB129_157.out _).trans (((cell_far (p:=⟨gb157,_,none⟩) NB129_157.out _).trans (((cell_far (p:=⟨gb157,_,none⟩) NB129_157.out _).trans (((cell_far (p:=⟨gb157,_,none⟩) NB129_157.out _).trans (hHeld.1)))))))))),((cell_far (p:=⟨gb157,_,none⟩) NB129_157.out _).trans (((cell_far (p:=⟨gb157,_,none⟩) NB129_157.out _).trans (((cell_far (p:=⟨gb157,_,none⟩) NB129_157.out _).trans (((cell_far (p:=⟨gb157,_,none⟩) NB129_157.out _).trans (((cell_far (p:=⟨gb157,_,none⟩) NB129_157.out _).trans (hHeld.2.1)))))))))),((cell_far (p:=⟨gb157,_,none⟩) NB129_157.out _).trans (((cell_far (p:=⟨gb157,_,none⟩) NB129_157.out _).trans (((cell_far (p:=⟨gb157,_,none⟩) NB129_157.out _).trans (((cell_far (p:=⟨gb157,_,none⟩) NB129_157.out _).trans (((cell_far (p:=⟨gb157,_,none⟩) NB129_157.out _).trans (hHeld.2.2.1)))))))))),((cell_far (p:=⟨gb157,_,none⟩) NB129_157.out _).trans (((cell_far (p:=⟨gb157,_,none⟩) NB129_157.out _).trans (((cell_far (p:=⟨gb157,_,none⟩) NB129_157.out _).trans (((cell_far (p:=⟨gb157,_,none⟩) NB129_157.out _).trans (((cell_far (p:=⟨gb157,_,none⟩) NB129_157.out _).trans (hHeld.2.2.2.1)))))))))),((cell_far (p:=⟨gb157,_,none⟩) NB129_157.out _).trans (((cell_far (p:=⟨gb157,_,none⟩) NB129_157.out _).trans (((cell_far (p:=⟨gb157,_,none⟩) NB129_157.out _).trans (((cell_far (p:=⟨gb157,_,none⟩) NB129_157.out _).trans (((cell_far (p:=⟨gb157,_,none⟩) NB129_157.out _).trans (hHeld.2.2.2.2.1)))))))))),((cell_far (p:=⟨gb157,_,none⟩) NB130_157.out _).trans (((cell_far (p:=⟨gb157,_,none⟩) NB130_157.out _).trans (((cell_far (p:=⟨gb157,_,none⟩) NB130_157.out _).trans (((cell_far (p:=⟨gb157,_,none⟩) NB130_157.out _).trans (((cell_far (p:=⟨gb157,_,none⟩) NB130_157.out _).trans (hHeld.2.2.2.2.2.1)))))))))),((cell_far (p:=⟨gb157,_,none⟩) NB130_157.out _).trans (((cell_far (p:=⟨gb157,_,none⟩) NB130_157.out _).trans (((cell_far (p:=⟨gb157,_,none⟩) NB130_157.out _).trans (((cell_far (p:=⟨gb157,_,none⟩) NB130_157.out _).trans (((cell_far (p:=⟨gb157,_,none⟩) NB130_157.out _).trans (hHeld.2.2.2.2.2.2.1)))))))))),((cell_far (p:=⟨gb157,_,none⟩) NB130_157.out _).trans (((cell_far (p:=⟨gb157,_,none⟩) NB130_157.out _).trans (((cell_far (p:=⟨gb157,_,none⟩) NB130_157.out _).trans (((cell_far (p:=⟨gb157,_,none⟩) NB130_157.out _).trans (((cell_far (p:=⟨gb157,_,none⟩) NB130_157.out _).trans (hHeld.2.2.2.2.2.2.2.1)))))))))),((cell_far (p:=⟨gb157,_,none⟩) NB130_157.out _).trans (((cell_far (p:=⟨gb157,_,none⟩) NB130_157.out _).trans (((cell_far (p:=⟨gb157,_,none⟩) NB130_157.out _).trans (((cell_far (p:=⟨gb157,_,none⟩) NB130_157.out _).trans (((cell_far (p:=⟨gb157,_,none⟩) NB130_157.out _).trans (hHeld.2.2.2.2.2.2.2.2.1)))))))))),((cell_far (p:=⟨gb157,_,none⟩) NB130_157.out _).trans (((cell_far (p:=⟨gb157,_,none⟩) NB130_157.out _).trans (((cell_far (p:=⟨gb157,_,none⟩) NB130_157.out _).trans (((cell_far (p:=⟨gb157,_,none⟩) NB130_157.out _).trans (((cell_far (p:=⟨gb157,_,none⟩) NB130_157.out _).trans (hHeld.2.2.2.2.2.2.2.2.2.1)))))))))),((cell_far (p:=⟨gb157,_,none⟩) NB131_157.out _).trans (((cell_far (p:=⟨gb157,_,none⟩) NB131_157.out _).trans (((cell_far (p:=⟨gb157,_,none⟩) NB131_157.out _).trans (((cell_far (p:=⟨gb157,_,none⟩) NB131_157.out _).trans (((cell_far (p:=⟨gb157,_,none⟩) NB131_157.out _).trans (hHeld.2.2.2.2.2.2.2.2.2.2.1)))))))))),((cell_far (p:=⟨gb157,_,none⟩) NB131_157.out _).trans (((cell_far (p:=⟨gb157,_,none⟩) NB131_157.out _).trans (((cell_far (p:=⟨gb157,_,none⟩) NB131_157.out _).trans (((cell_far (p:=⟨gb157,_,none⟩) NB131_157.out _).trans (((cell_far (p:=⟨gb157,_,none⟩) NB131_157.out _).trans (hHeld.2.2.2.2.2.2.2.2.2.2.2.1)))))))))),((cell_far (p:=⟨gb157,_,none⟩) NB131_157.out _).trans (((cell_far (p:=⟨gb157,_,none⟩) NB131_157.out _).trans (((cell_far (p:=⟨gb157,_,none⟩) NB131_157.out _).trans (((cell_far (p:=⟨gb157,_,none⟩) NB131_157.out _).trans (((cell_far (p:=⟨gb157,_,none⟩) NB131_157.out _).trans (hHeld.2.2.2.2.2.2.2.2.2.2.2.2.1)))))))))),((cell_far (p:=⟨gb157,_,none⟩) NB131_157.out _).trans (((cell_far (p:=⟨gb157,_,none⟩) NB131_157.out _).trans (((cell_far (p:=⟨gb157,_,none⟩) NB131_157.out _).trans (((cell_far (p:=⟨gb157,_,none⟩) NB131_157.out _).trans (((cell_far (p:=⟨gb157,_,none⟩) NB131_157.out _).trans (hHeld.2.2.2.2.2.2.2.2.2.2.2.2.2.1)))))))))),((cell_far (p:=⟨gb157,_,none⟩) NB131_157.out _).trans (((cell_far (p:=⟨gb157,_,none⟩) NB131_157.out _).trans (((cell_far (p:=⟨gb157,_,none⟩) NB131_157.out _).trans (((cell_far (p:=⟨gb157,_,none⟩) NB131_157.out _).trans (((cell_far (p:=⟨gb157,_,none⟩) NB131_157.out _).trans (hHeld.2.2.2.2.2.2.2.2.2.2.2.2.2.2))))))))))⟩ (fun hHeld => ?_)
       clear hK K
       refine done_ (by kernel_rfl) ?_
       try go_wp2
       have n0_ : Aside0 ((((((w60.setCell ⟨gb157,0,none⟩ (.string t152)).setCell ⟨gb157,1,none⟩ (.int .i64 t153)).setCell ⟨gb157,2,none⟩ (.int .i64 t154)).setCell ⟨gb157,3,none⟩ (.string t155)).setCell ⟨gb157,4,none⟩ (.bool t156)).heap[gb129]? = some (.cells #[.string a0_0,.int .i64 a0_1,.int .i64 a0_2,.string a0_3,.bool a0_4] 25 (0,0))):=⟨by (with_reducible repeat (first|apply bN|apply bD|apply bA | refine blk_far ?_ NB129_157.out _));exact BK129.out⟩
       have n1_ : Aside0 ((((((w60.setCell ⟨gb157,0,none⟩ (.string t152)).setCell ⟨gb157,1,none⟩ (.int .i64 t153)).setCell ⟨gb157,2,none⟩ (.int .i64 t154)).setCell ⟨gb157,3,none⟩ (.string t155)).setCell ⟨gb157,4,none⟩ (.bool t156)).heap[gb130]? = some (.cells #[.string a1_0,.int .i64 a1_1,.int .i64 a1_2,.string a1_3,.bool a1_4] 25 (0,0))):=⟨by (with_reducible repeat (first|apply bN|apply bD|apply bA | refine blk_far ?_ NB130_157.out _));exact BK130.out⟩
       have n2_ : Aside0 ((((((w60.setCell ⟨gb157,0,none⟩ (.string t152)).setCell ⟨gb157,1,none⟩ (.int .i64 t153)).setCell ⟨gb157,2,none⟩ (.int .i64 t154)).setCell ⟨gb157,3,none⟩ (.string t155)).setCell ⟨gb157,4,none⟩ (.bool t156)).heap[gb131]? = some (.cells #[.string a2_0,.int .i64 a2_1,.int .i64 a2_2,.string a2_3,.bool a2_4] 25 (0,0))):=⟨by (with_reducible repeat (first|apply bN|apply bD|apply bA | refine blk_far ?_ NB131_157.out _));exact BK131.out⟩
       have n3_ : Aside0 ((((((w60.setCell ⟨gb157,0,none⟩ (.string t152)).setCell ⟨gb157,1,none⟩ (.int .i64 t153)).setCell ⟨gb157,2,none⟩ (.int .i64 t154)).setCell ⟨gb157,3,none⟩ (.string t155)).setCell ⟨gb157,4,none⟩ (.bool t156)).heap[gb157]? = some (.cells #[.string t152,.int .i64 t153,.int .i64 t154,.string t155,.bool t156] 25 (0,0))):=⟨by (with_reducible repeat first|apply bN|apply bD|apply bA);refine blk_put (cs:=#[.string t152,.int .i64 t153,.int .i64 t154,.string t155,.bool false]) ?_ 4 _ rfl;(with_reducible repeat first|apply bN|apply bD|apply bA);refine blk_put (cs:=#[.string t152,.int .i64 t153,.int .i64 t154,.string (⟨#[]⟩ : ByteArray),.bool false]) ?_ 3 _ rfl;(with_reducible repeat first|apply bN|apply bD|apply bA);refine blk_put (cs:=#[.string t152,.int .i64 t153,.int .i64 0,.string (⟨#[]⟩ : ByteArray),.bool false]) ?_ 2 _ rfl;(with_reducible repeat first|apply bN|apply bD|apply bA);refine blk_put (cs:=#[.string t152,.int .i64 0,.int .i64 0,.string (⟨#[]⟩ : ByteArray),.bool false]) ?_ 1 _ rfl;(with_reducible repeat first|apply bN|apply bD|apply bA);refine blk_put (cs:=#[.string (⟨#[]⟩ : ByteArray),.int .i64 0,.int .i64 0,.string (⟨#[]⟩ : ByteArray),.bool false]) ?_ 0 _ rfl;(with_reducible repeat first|apply bN|apply bD|apply bA);exact BK157.out⟩
       have n4_ : Aside0 (Below w.heap.size w (((((w60.setCell ⟨gb157,0,none⟩ (.string t152)).setCell ⟨gb157,1,none⟩ (.int .i64 t153)).setCell ⟨gb157,2,none⟩ (.int .i64 t154)).setCell ⟨gb157,3,none⟩ (.string t155)).setCell ⟨gb157,4,none⟩ (.bool t156))):=⟨by repeat (first | (with_reducible first | exact HB.out | apply below_alloc | apply pw_below_drewN | apply below_drew1 | refine below_set ?_ GE129.out | refine below_set ?_ GE130.out | refine below_set ?_ GE131.out | refine below_set ?_ GE157.out) | exact HB.out)⟩
       (try clear BK129)
       (try clear BK130)
       (try clear BK131)
       (try clear BK157)
       (try clear HB)
       generalize (((((w60.setCell ⟨gb157,0,none⟩ (.string t152)).setCell ⟨gb157,1,none⟩ (.int .i64 t153)).setCell ⟨gb157,2,none⟩ (.int .i64 t154)).setCell ⟨gb157,3,none⟩ (.string t155)).setCell ⟨gb157,4,none⟩ (.bool t156)) = w66 at n0_ n1_ n2_ n3_ n4_ ⊢
       have BK129:=n0_
       have BK130:=n1_
       have BK131:=n2_
       have BK157:=n3_
       have HB:=n4_
       clear n0_ n1_ n2_ n3_ n4_
       replace BK129:=Aside0.mk (blk_drew BK129.out)
       replace BK130:=Aside0.mk (blk_drew BK130.out)
       replace BK131:=Aside0.mk (blk_drew BK131.out)
       replace BK157:=Aside0.mk (blk_drew BK157.out)
       replace HB:=Aside0.mk (below_drew1 HB.out)
       refine start_ (n:=7) (S:=fun w' => w'.cell? ⟨gb129,0,none⟩ = some (.string a0_0) ∧ w'.cell? ⟨gb129,1,none⟩ = some (.int .i64 a0_1) ∧ w'.cell? ⟨gb129,2,none⟩ = some (.int .i64 a0_2) ∧ w'.cell? ⟨gb129,3,none⟩ = some (.string a0_3) ∧ w'.cell? ⟨gb129,4,none⟩ = some (.bool a0_4) ∧ w'.cell? ⟨gb130,0,none⟩ = some (.string a1_0) ∧ w'.cell? ⟨gb130,1,none⟩ = some (.int .i64 a1_1) ∧ w'.cell? ⟨gb130,2,none⟩ = some (.int .i64 a1_2) ∧ w'.cell? ⟨gb130,3,none⟩ = some (.string a1_3) ∧ w'.cell? ⟨gb130,4,none⟩ = some (.bool a1_4) ∧ w'.cell? ⟨gb131,0,none⟩ = some (.string a2_0) ∧ w'.cell? ⟨gb131,1,none⟩ = some (.int .i64 a2_1) ∧ w'.cell? ⟨gb131,2,none⟩ = some (.int .i64 a2_2) ∧ w'.cell? ⟨gb131,3,none⟩ = some (.string a2_3) ∧ w'.cell? ⟨gb131,4,none⟩ = some (.bool a2_4)) (ds:=[]) #[false,false,false,false,false,false,false] (by kernel_rfl) rfl rfl ⟨(blk_cell BK129.out 0).trans rfl,(blk_cell BK129.out 1).trans rfl,(blk_cell BK129.out 2).trans rfl,(blk_cell BK129.out 3).trans rfl,(blk_cell BK129.out 4).trans rfl,(blk_cell BK130.out 0).trans rfl,(blk_cell BK130.out 1).trans rfl,(blk_cell BK130.out 2).trans rfl,(blk_cell BK130.out 3).trans rfl,(blk_cell BK130.out 4).trans rfl,(blk_cell BK131.out 0).trans rfl,(blk_cell BK131.out 1).trans rfl,(blk_cell BK131.out 2).trans rfl,(blk_cell BK131.out 3).trans rfl,(blk_cell BK131.out 4).trans rfl⟩ (fun hHeld => ?_)
       generalize w66.drew = w67 at BK129 BK130 BK131 BK157 HB hHeld ⊢
       refine take_ (i:=0) (N:=some 41) (v:=?_) (a':=?_) #[true,false,false,false,false,false,false] rfl rfl (by kernel_rfl) (fun _ _ _ h => h) (Or.inl ⟨by rfl,?_⟩) hHeld ?_ ?_
       rotate_left
       ·rintro w' ⟨s0,s1,s2,s3,s4,s5,s6,s7,s8,s9,s10,s11,s12,s13,s14⟩
        go_simp
        with_reducible rfl
       rotate_left
       ·simp only [Act.put,List.setIfInBounds_toArray,List.set_cons_zero,List.set_cons_succ,i64_w,i32_w]
        rfl
       refine take_ (i:=1) (N:=some 42) (v:=?_) (a':=?_) #[true,true,false,false,false,false,false] rfl rfl (by kernel_rfl) (fun _ _ _ h => h) (Or.inl ⟨by rfl,?_⟩) hHeld ?_ ?_
       rotate_left
       ·rintro w' ⟨s0,s1,s2,s3,s4,s5,s6,s7,s8,s9,s10,s11,s12,s13,s14⟩
        go_simp
        with_reducible rfl
       rotate_left
       ·simp only [Act.put,List.setIfInBounds_toArray,List.set_cons_zero,List.set_cons_succ,i64_w,i32_w]
        rfl
       refine take_ (i:=2) (N:=some 43) (v:=?_) (a':=?_) #[true,true,true,false,false,false,false] rfl rfl (by kernel_rfl) (fun _ _ _ h => h) (Or.inl ⟨by rfl,?_⟩) hHeld ?_ ?_
       rotate_left
       ·rintro w' ⟨s0,s1,s2,s3,s4,s5,s6,s7,s8,s9,s10,s11,s12,s13,s14⟩
        go_simp
        with_reducible rfl
       rotate_left
       ·simp only [Act.put,List.setIfInBounds_toArray,List.set_cons_zero,List.set_cons_succ,i64_w,i32_w]
        rfl
       refine join_ (σ:=Nat) 1 #[true,true,true,true,true,true,false] (fun s_ => [(44,.agg #[.string t158,.int .i64 t159,.int .i64 t160,.string t161,.bool t162]),(45,.agg #[.string t163,.int .i64 t164,.int .i64 t165,.string t166,.bool t167]),(8,.pointer (some ⟨s_,0,none⟩))]) (fun s_ w' => (w'.cell? ⟨gb129,0,none⟩ = some (.string a0_0) ∧ w'.cell? ⟨gb129,1,none⟩ = some (.int .i64 a0_1) ∧ w'.cell? ⟨gb129,2,none⟩ = some (.int .i64 a0_2) ∧ w'.cell? ⟨gb129,3,none⟩ = some (.string a0_3) ∧ w'.cell? ⟨gb129,4,none⟩ = some (.bool a0_4) ∧ w'.cell? ⟨gb130,0,none⟩ = some (.string a1_0) ∧ w'.cell? ⟨gb130,1,none⟩ = some (.int .i64 a1_1) ∧ w'.cell? ⟨gb130,2,none⟩ = some (.int .i64 a1_2) ∧ w'.cell? ⟨gb130,3,none⟩ = some (.string a1_3) ∧ w'.cell? ⟨gb130,4,none⟩ = some (.bool a1_4) ∧ w'.cell? ⟨gb131,0,none⟩ = some (.string a2_0) ∧ w'.cell? ⟨gb131,1,none⟩ = some (.int .i64 a2_1) ∧ w'.cell? ⟨gb131,2,none⟩ = some (.int .i64 a2_2) ∧ w'.cell? ⟨gb131,3,none⟩ = some (.string a2_3) ∧ w'.cell? ⟨gb131,4,none⟩ = some (.bool a2_4)) ∧ (w'.heap[gb129]? = some (.cells #[.string a0_0,.int .i64 a0_1,.int .i64 a0_2,.string a0_3,.bool a0_4] 25 (0,0))) ∧ (w'.heap[gb130]? = some (.cells #[.string a1_0,.int .i64 a1_1,.int .i64 a1_2,.string a1_3,.bool a1_4] 25 (0,0))) ∧ (w'.heap[gb131]? = some (.cells #[.string a2_0,.int .i64 a2_1,.int .i64 a2_2,.string a2_3,.bool a2_4] 25 (0,0))) ∧ (w'.heap[gb157]? = some (.cells #[.string t152,.int .i64 t153,.int .i64 t154,.string t155,.bool t156] 25 (0,0))) ∧ (w'.heap[s_]? = some (.cells #[.string (⟨#[]⟩ : ByteArray),.int .i64 0,.int .i64 0,.string (⟨#[]⟩ : ByteArray),.bool false] 25 (0,0))) ∧ (w.heap.size ≤ s_) ∧ (w.heap.size ≤ s_) ∧ (gb129 ≠ s_) ∧ (s_ ≠ gb129) ∧ (gb130 ≠ s_) ∧ (s_ ≠ gb130) ∧ (gb131 ≠ s_) ∧ (s_ ≠ gb131) ∧ (gb157 ≠ s_) ∧ (s_ ≠ gb157) ∧ (Below w.heap.size w w')) ?_ ?_
       rotate_left
       ·intro hCont
        refine two_ (i:=3) (j:=5) (Ni:=some 44) (Nj:=some 8) #[true,true,true,true,false,false,false] #[true,true,true,false,false,true,false] rfl rfl rfl rfl (by kernel_rfl) (by decide) (by decide) (fun K hK => ?_) (fun K hK => ?_)
        ·skip
         refine goes_ Try.func18 (by kernel_rfl) rfl #[.agg #[.string a1_0,.int .i64 a1_1,.int .i64 a1_2,.string a1_3,.bool a1_4],.agg #[.string a2_0,.int .i64 a2_1,.int .i64 a2_2,.string a2_3,.bool a2_4]] (by rfl) rfl rfl (by (try simp only [List.map_toArray,List.map_cons,List.map_nil]);first | done | rfl | (simp only [List.length_drop,List.length_take];rfl)) ?_
         with_reducible refine (item_Best.calls kj33 a1_0 a1_1 a1_2 a1_3 a1_4 a2_0 a2_1 a2_2 a2_3 a2_4 t158 t159 t160 t161 t162 _ A51.out).mono ?_
         rintro e w68 ⟨rfl,hb⟩
         refine ⟨_,rfl,?_⟩
         replace BK129:=Aside0.mk (blk_below (g:=gb129) (o:=.cells #[.string a0_0,.int .i64 a0_1,.int .i64 a0_2,.string a0_3,.bool a0_4] 25 (0,0)) (by (with_reducible repeat first|apply bN|apply bD|apply bA);exact BK129.out) hb)
         replace BK130:=Aside0.mk (blk_below (g:=gb130) (o:=.cells #[.string a1_0,.int .i64 a1_1,.int .i64 a1_2,.string a1_3,.bool a1_4] 25 (0,0)) (by (with_reducible repeat first|apply bN|apply bD|apply bA);exact BK130.out) hb)
         replace BK131:=Aside0.mk (blk_below (g:=gb131) (o:=.cells #[.string a2_0,.int .i64 a2_1,.int .i64 a2_2,.string a2_3,.bool a2_4] 25 (0,0)) (by (with_reducible repeat first|apply bN|apply bD|apply bA);exact BK131.out) hb)
         replace BK157:=Aside0.mk (blk_below (g:=gb157) (o:=.cells #[.string t152,.int .i64 t153,.int .i64 t154,.string t155,.bool t156] 25 (0,0)) (by (with_reducible repeat first|apply bN|apply bD|apply bA);exact BK157.out) hb)
         replace HB:=Aside0.mk (below_step (by repeat (first | (with_reducible first | exact HB.out | apply below_alloc | apply pw_below_drewN | apply below_drew1 | refine below_set ?_ GE129.out | refine below_set ?_ GE130.out | refine below_set ?_ GE131.out | refine below_set ?_ GE157.out) | exact HB.out)) hb)
         (try clear hb)
         (try clear hb2)
         (try clear hk)
         (try clear hi)
         refine hK.out _ _ ⟨(blk_cell BK129.out 0).trans rfl,(blk_cell BK129.out 1).trans rfl,(blk_cell BK129.out 2).trans rfl,(blk_cell BK129.out 3).trans rfl,(blk_cell BK129.out 4).trans rfl,(blk_cell BK130.out 0).trans rfl,(blk_cell BK130.out 1).trans rfl,(blk_cell BK130.out 2).trans rfl,(blk_cell BK130.out 3).trans rfl,(blk_cell BK130.out 4).trans rfl,(blk_cell BK131.out 0).trans rfl,(blk_cell BK131.out 1).trans rfl,(blk_cell BK131.out 2).trans rfl,(blk_cell BK131.out 3).trans rfl,(blk_cell BK131.out 4).trans rfl⟩ (fun hHeld => ?_)
         clear hK K
         refine norm_ (a':=?_) ?_ ?_
         rotate_left
         ·show Act.put _ (some 44) _ = _
          simp only [Act.put,List.setIfInBounds_toArray,List.set_cons_zero,List.set_cons_succ,i64_w,i32_w]
          rfl
         refine two_ (i:=4) (j:=5) (Ni:=some 45) (Nj:=some 8) #[true,true,true,true,true,false,false] #[true,true,true,true,false,true,false] rfl rfl rfl rfl (by kernel_rfl) (by decide) (by decide) (fun K hK => ?_) (fun K hK => ?_)
         ·skip
          refine goes_ Try.func18 (by kernel_rfl) rfl #[.agg #[.string a0_0,.int .i64 a0_1,.int .i64 a0_2,.string a0_3,.bool a0_4],.agg #[.string t158,.int .i64 t159,.int .i64 t160,.string t161,.bool t162]] (by rfl) rfl rfl (by (try simp only [List.map_toArray,List.map_cons,List.map_nil]);first | done | rfl | (simp only [List.length_drop,List.length_take];rfl)) ?_
          with_reducible refine (item_Best.calls kj33 a0_0 a0_1 a0_2 a0_3 a0_4 t158 t159 t160 t161 t162 t163 t164 t165 t166 t167 _ A52.out).mono ?_
          rintro e w69 ⟨rfl,hb⟩
          refine ⟨_,rfl,?_⟩
          replace BK129:=Aside0.mk (blk_below (g:=gb129) (o:=.cells #[.string a0_0,.int .i64 a0_1,.int .i64 a0_2,.string a0_3,.bool a0_4] 25 (0,0)) (by (with_reducible repeat first|apply bN|apply bD|apply bA);exact BK129.out) hb)
          replace BK130:=Aside0.mk (blk_below (g:=gb130) (o:=.cells #[.string a1_0,.int .i64 a1_1,.int .i64 a1_2,.string a1_3,.bool a1_4] 25 (0,0)) (by (with_reducible repeat first|apply bN|apply bD|apply bA);exact BK130.out) hb)
          replace BK131:=Aside0.mk (blk_below (g:=gb131) (o:=.cells #[.string a2_0,.int .i64 a2_1,.int .i64 a2_2,.string a2_3,.bool a2_4] 25 (0,0)) (by (with_reducible repeat first|apply bN|apply bD|apply bA);exact BK131.out) hb)
          replace BK157:=Aside0.mk (blk_below (g:=gb157) (o:=.cells #[.string t152,.int .i64 t153,.int .i64 t154,.string t155,.bool t156] 25 (0,0)) (by (with_reducible repeat first|apply bN|apply bD|apply bA);exact BK157.out) hb)
          replace HB:=Aside0.mk (below_step (by repeat (first | (with_reducible first | exact HB.out | apply below_alloc | apply pw_below_drewN | apply below_drew1 | refine below_set ?_ GE129.out | refine below_set ?_ GE130.out | refine below_set ?_ GE131.out | refine below_set ?_ GE157.out) | exact HB.out)) hb)
          (try clear hb)
          (try clear hb2)
          (try clear hk)
          (try clear hi)
          refine hK.out _ _ ⟨(blk_cell BK129.out 0).trans rfl,(blk_cell BK129.out 1).trans rfl,(blk_cell BK129.out 2).trans rfl,(blk_cell BK129.out 3).trans rfl,(blk_cell BK129.out 4).trans rfl,(blk_cell BK130.out 0).trans rfl,(blk_cell BK130.out 1).trans rfl,(blk_cell BK130.out 2).trans rfl,(blk_cell BK130.out 3).trans rfl,(blk_cell BK130.out 4).trans rfl,(blk_cell BK131.out 0).trans rfl,(blk_cell BK131.out 1).trans rfl,(blk_cell BK131.out 2).trans rfl,(blk_cell BK131.out 3).trans rfl,(blk_cell BK131.out 4).trans rfl⟩ (fun hHeld => ?_)
          clear hK K
          refine norm_ (a':=?_) ?_ ?_
          rotate_left
          ·show Act.put _ (some 45) _ = _
           simp only [Act.put,List.setIfInBounds_toArray,List.set_cons_zero,List.set_cons_succ,i64_w,i32_w]
           rfl
          refine one_ (i:=5) (N:=some 8) #[true,true,true,true,true,true,false] rfl rfl (by kernel_rfl) (by decide) (fun K hK => ?_)
          refine box_step ?hg (N:=8) ?hd (cs:=#[.string (⟨#[]⟩ : ByteArray),.int .i64 0,.int .i64 0,.string (⟨#[]⟩ : ByteArray),.bool false]) (t:=25) ?hr ?_;(case hd => rfl);(case hg => rfl);(case hr => first | (go_simp;done) | (go_simp;rfl))
          intro gb168 hg w70 hbox hb
          have n0_:=Aside0.mk (blk_below (g:=gb129) (o:=.cells #[.string a0_0,.int .i64 a0_1,.int .i64 a0_2,.string a0_3,.bool a0_4] 25 (0,0)) (by (with_reducible repeat first|apply bN|apply bD|apply bA);exact BK129.out) hb)
          have n1_:=Aside0.mk (blk_below (g:=gb130) (o:=.cells #[.string a1_0,.int .i64 a1_1,.int .i64 a1_2,.string a1_3,.bool a1_4] 25 (0,0)) (by (with_reducible repeat first|apply bN|apply bD|apply bA);exact BK130.out) hb)
          have n2_:=Aside0.mk (blk_below (g:=gb131) (o:=.cells #[.string a2_0,.int .i64 a2_1,.int .i64 a2_2,.string a2_3,.bool a2_4] 25 (0,0)) (by (with_reducible repeat first|apply bN|apply bD|apply bA);exact BK131.out) hb)
          have n3_:=Aside0.mk (blk_below (g:=gb157) (o:=.cells #[.string t152,.int .i64 t153,.int .i64 t154,.string t155,.bool t156] 25 (0,0)) (by (with_reducible repeat first|apply bN|apply bD|apply bA);exact BK157.out) hb)
          have n4_:=Aside0.mk (below_step (by repeat (first | (with_reducible first | exact HB.out | apply below_alloc | apply pw_below_drewN | apply below_drew1 | refine below_set ?_ GE129.out | refine below_set ?_ GE130.out | refine below_set ?_ GE131.out | refine below_set ?_ GE157.out) | exact HB.out)) hb)
          have n5_:=Aside0.mk (hbox)
          have n6_:=Aside0.mk ((by rw [hg];exact (below_size (by repeat (first | (with_reducible first | exact HB.out | apply below_alloc | apply pw_below_drewN | apply below_drew1 | refine below_set ?_ GE129.out | refine below_set ?_ GE130.out | refine below_set ?_ GE131.out | refine below_set ?_ GE157.out) | exact HB.out))) : w.heap.size ≤ gb168))
          have n7_:=Aside0.mk ((by rw [hg];exact (below_size (by repeat (first | (with_reducible first | exact HB.out | apply below_alloc | apply pw_below_drewN | apply below_drew1 | refine below_set ?_ GE129.out | refine below_set ?_ GE130.out | refine below_set ?_ GE131.out | refine below_set ?_ GE157.out) | exact HB.out))) : w.heap.size ≤ gb168))
          have n8_:=Aside0.mk ((by rw [hg];exact Nat.ne_of_lt (blk_lt (g:=gb129) (o:=.cells #[.string a0_0,.int .i64 a0_1,.int .i64 a0_2,.string a0_3,.bool a0_4] 25 (0,0)) (by (with_reducible repeat first|apply bN|apply bD|apply bA);exact BK129.out)) : gb129 ≠ gb168))
          have n9_:=Aside0.mk ((by rw [hg];exact Nat.ne_of_gt (blk_lt (g:=gb129) (o:=.cells #[.string a0_0,.int .i64 a0_1,.int .i64 a0_2,.string a0_3,.bool a0_4] 25 (0,0)) (by (with_reducible repeat first|apply bN|apply bD|apply bA);exact BK129.out)) : gb168 ≠ gb129))
          have n10_:=Aside0.mk ((by rw [hg];exact Nat.ne_of_lt (blk_lt (g:=gb130) (o:=.cells #[.string a1_0,.int .i64 a1_1,.int .i64 a1_2,.string a1_3,.bool a1_4] 25 (0,0)) (by (with_reducible repeat first|apply bN|apply bD|apply bA);exact BK130.out)) : gb130 ≠ gb168))
          have n11_:=Aside0.mk ((by rw [hg];exact Nat.ne_of_gt (blk_lt (g:=gb130) (o:=.cells #[.string a1_0,.int .i64 a1_1,.int .i64 a1_2,.string a1_3,.bool a1_4] 25 (0,0)) (by (with_reducible repeat first|apply bN|apply bD|apply bA);exact BK130.out)) : gb168 ≠ gb130))
          have n12_:=Aside0.mk ((by rw [hg];exact Nat.ne_of_lt (blk_lt (g:=gb131) (o:=.cells #[.string a2_0,.int .i64 a2_1,.int .i64 a2_2,.string a2_3,.bool a2_4] 25 (0,0)) (by (with_reducible repeat first|apply bN|apply bD|apply bA);exact BK131.out)) : gb131 ≠ gb168))
          have n13_:=Aside0.mk ((by rw [hg];exact Nat.ne_of_gt (blk_lt (g:=gb131) (o:=.cells #[.string a2_0,.int .i64 a2_1,.int .i64 a2_2,.string a2_3,.bool a2_4] 25 (0,0)) (by (with_reducible repeat first|apply bN|apply bD|apply bA);exact BK131.out)) : gb168 ≠ gb131))
          have n14_:=Aside0.mk ((by rw [hg];exact Nat.ne_of_lt (blk_lt (g:=gb157) (o:=.cells #[.string t152,.int .i64 t153,.int .i64 t154,.string t155,.bool t156] 25 (0,0)) (by (with_reducible repeat first|apply bN|apply bD|apply bA);exact BK157.out)) : gb157 ≠ gb168))
          have n15_:=Aside0.mk ((by rw [hg];exact Nat.ne_of_gt (blk_lt (g:=gb157) (o:=.cells #[.string t152,.int .i64 t153,.int .i64 t154,.string t155,.bool t156] 25 (0,0)) (by (with_reducible repeat first|apply bN|apply bD|apply bA);exact BK157.out)) : gb168 ≠ gb157))
          clear BK129 BK130 BK131 BK157 HB
          have BK129:=n0_
          have BK130:=n1_
          have BK131:=n2_
          have BK157:=n3_
          have HB:=n4_
          have BK168:=n5_
          have GW168:=n6_
          have GE168:=n7_
          have NB129_168:=n8_
          have NB168_129:=n9_
          have NB130_168:=n10_
          have NB168_130:=n11_
          have NB131_168:=n12_
          have NB168_131:=n13_
          have NB157_168:=n14_
          have NB168_157:=n15_
          clear n0_ n1_ n2_ n3_ n4_ n5_ n6_ n7_ n8_ n9_ n10_ n11_ n12_ n13_ n14_ n15_
          clear hb hbox hg
          refine hK.out _ _ ⟨(blk_cell BK129.out 0).trans rfl,(blk_cell BK129.out 1).trans rfl,(blk_cell BK129.out 2).trans rfl,(blk_cell BK129.out 3).trans rfl,(blk_cell BK129.out 4).trans rfl,(blk_cell BK130.out 0).trans rfl,(blk_cell BK130.out 1).trans rfl,(blk_cell BK130.out 2).trans rfl,(blk_cell BK130.out 3).trans rfl,(blk_cell BK130.out 4).trans rfl,(blk_cell BK131.out 0).trans rfl,(blk_cell BK131.out 1).trans rfl,(blk_cell BK131.out 2).trans rfl,(blk_cell BK131.out 3).trans rfl,(blk_cell BK131.out 4).trans rfl⟩ (fun hHeld => ?_)
          clear hK K
          refine norm_ (a':=?_) ?_ ?_
          rotate_left
          ·show Act.put _ (some 8) _ = _
           simp only [Act.put,List.setIfInBounds_toArray,List.set_cons_zero,List.set_cons_succ,i64_w,i32_w]
           rfl
          exact norm_ (by simp only [putAll,Act.put,List.setIfInBounds_toArray,List.set_cons_zero,List.set_cons_succ]) (hCont (gb168) _ ⟨hHeld,(by (with_reducible repeat first|apply bN|apply bD|apply bA);exact BK129.out),(by (with_reducible repeat first|apply bN|apply bD|apply bA);exact BK130.out),(by (with_reducible repeat first|apply bN|apply bD|apply bA);exact BK131.out),(by (with_reducible repeat first|apply bN|apply bD|apply bA);exact BK157.out),(by (with_reducible repeat first|apply bN|apply bD|apply bA);exact BK168.out),GW168.out,GE168.out,NB129_168.out,NB168_129.out,NB130_168.out,NB168_130.out,NB131_168.out,NB168_131.out,NB157_168.out,NB168_157.out,(by repeat (first | (with_reducible first | exact HB.out | apply below_alloc | apply pw_below_drewN | apply below_drew1 | refine below_set ?_ GE129.out | refine below_set ?_ GE130.out | refine below_set ?_ GE131.out | refine below_set ?_ GE157.out | refine below_set ?_ GE168.out) | exact HB.out))⟩)
         ·skip
          refine box_step ?hg (N:=8) ?hd (cs:=#[.string (⟨#[]⟩ : ByteArray),.int .i64 0,.int .i64 0,.string (⟨#[]⟩ : ByteArray),.bool false]) (t:=25) ?hr ?_;(case hd => rfl);(case hg => rfl);(case hr => first | (go_simp;done) | (go_simp;rfl))
          intro gb168 hg w69 hbox hb
          have n0_:=Aside0.mk (blk_below (g:=gb129) (o:=.cells #[.string a0_0,.int .i64 a0_1,.int .i64 a0_2,.string a0_3,.bool a0_4] 25 (0,0)) (by (with_reducible repeat first|apply bN|apply bD|apply bA);exact BK129.out) hb)
          have n1_:=Aside0.mk (blk_below (g:=gb130) (o:=.cells #[.string a1_0,.int .i64 a1_1,.int .i64 a1_2,.string a1_3,.bool a1_4] 25 (0,0)) (by (with_reducible repeat first|apply bN|apply bD|apply bA);exact BK130.out) hb)
          have n2_:=Aside0.mk (blk_below (g:=gb131) (o:=.cells #[.string a2_0,.int .i64 a2_1,.int .i64 a2_2,.string a2_3,.bool a2_4] 25 (0,0)) (by (with_reducible repeat first|apply bN|apply bD|apply bA);exact BK131.out) hb)
          have n3_:=Aside0.mk (blk_below (g:=gb157) (o:=.cells #[.string t152,.int .i64 t153,.int .i64 t154,.string t155,.bool t156] 25 (0,0)) (by (with_reducible repeat first|apply bN|apply bD|apply bA);exact BK157.out) hb)
          have n4_:=Aside0.mk (below_step (by repeat (first | (with_reducible first | exact HB.out | apply below_alloc | apply pw_below_drewN | apply below_drew1 | refine below_set ?_ GE129.out | refine below_set ?_ GE130.out | refine below_set ?_ GE131.out | refine below_set ?_ GE157.out) | exact HB.out)) hb)
          have n5_:=Aside0.mk (hbox)
          have n6_:=Aside0.mk ((by rw [hg];exact (below_size (by repeat (first | (with_reducible first | exact HB.out | apply below_alloc | apply pw_below_drewN | apply below_drew1 | refine below_set ?_ GE129.out | refine below_set ?_ GE130.out | refine below_set ?_ GE131.out | refine below_set ?_ GE157.out) | exact HB.out))) : w.heap.size ≤ gb168))
          have n7_:=Aside0.mk ((by rw [hg];exact (below_size (by repeat (first | (with_reducible first | exact HB.out | apply below_alloc | apply pw_below_drewN | apply below_drew1 | refine below_set ?_ GE129.out | refine below_set ?_ GE130.out | refine below_set ?_ GE131.out | refine below_set ?_ GE157.out) | exact HB.out))) : w.heap.size ≤ gb168))
          have n8_:=Aside0.mk ((by rw [hg];exact Nat.ne_of_lt (blk_lt (g:=gb129) (o:=.cells #[.string a0_0,.int .i64 a0_1,.int .i64 a0_2,.string a0_3,.bool a0_4] 25 (0,0)) (by (with_reducible repeat first|apply bN|apply bD|apply bA);exact BK129.out)) : gb129 ≠ gb168))
          have n9_:=Aside0.mk ((by rw [hg];exact Nat.ne_of_gt (blk_lt (g:=gb129) (o:=.cells #[.string a0_0,.int .i64 a0_1,.int .i64 a0_2,.string a0_3,.bool a0_4] 25 (0,0)) (by (with_reducible repeat first|apply bN|apply bD|apply bA);exact BK129.out)) : gb168 ≠ gb129))
          have n10_:=Aside0.mk ((by rw [hg];exact Nat.ne_of_lt (blk_lt (g:=gb130) (o:=.cells #[.string a1_0,.int .i64 a1_1,.int .i64 a1_2,.string a1_3,.bool a1_4] 25 (0,0)) (by (with_reducible repeat first|apply bN|apply bD|apply bA);exact BK130.out)) : gb130 ≠ gb168))
          have n11_:=Aside0.mk ((by rw [hg];exact Nat.ne_of_gt (blk_lt (g:=gb130) (o:=.cells #[.string a1_0,.int .i64 a1_1,.int .i64 a1_2,.string a1_3,.bool a1_4] 25 (0,0)) (by (with_reducible repeat first|apply bN|apply bD|apply bA);exact BK130.out)) : gb168 ≠ gb130))
          have n12_:=Aside0.mk ((by rw [hg];exact Nat.ne_of_lt (blk_lt (g:=gb131) (o:=.cells #[.string a2_0,.int .i64 a2_1,.int .i64 a2_2,.string a2_3,.bool a2_4] 25 (0,0)) (by (with_reducible repeat first|apply bN|apply bD|apply bA);exact BK131.out)) : gb131 ≠ gb168))
          have n13_:=Aside0.mk ((by rw [hg];exact Nat.ne_of_gt (blk_lt (g:=gb131) (o:=.cells #[.string a2_0,.int .i64 a2_1,.int .i64 a2_2,.string a2_3,.bool a2_4] 25 (0,0)) (by (with_reducible repeat first|apply bN|apply bD|apply bA);exact BK131.out)) : gb168 ≠ gb131))
          have n14_:=Aside0.mk ((by rw [hg];exact Nat.ne_of_lt (blk_lt (g:=gb157) (o:=.cells #[.string t152,.int .i64 t153,.int .i64 t154,.string t155,.bool t156] 25 (0,0)) (by (with_reducible repeat first|apply bN|apply bD|apply bA);exact BK157.out)) : gb157 ≠ gb168))
          have n15_:=Aside0.mk ((by rw [hg];exact Nat.ne_of_gt (blk_lt (g:=gb157) (o:=.cells #[.string t152,.int .i64 t153,.int .i64 t154,.string t155,.bool t156] 25 (0,0)) (by (with_reducible repeat first|apply bN|apply bD|apply bA);exact BK157.out)) : gb168 ≠ gb157))
          clear BK129 BK130 BK131 BK157 HB
          have BK129:=n0_
          have BK130:=n1_
          have BK131:=n2_
          have BK157:=n3_
          have HB:=n4_
          have BK168:=n5_
          have GW168:=n6_
          have GE168:=n7_
          have NB129_168:=n8_
          have NB168_129:=n9_
          have NB130_168:=n10_
          have NB168_130:=n11_
          have NB131_168:=n12_
          have NB168_131:=n13_
          have NB157_168:=n14_
          have NB168_157:=n15_
          clear n0_ n1_ n2_ n3_ n4_ n5_ n6_ n7_ n8_ n9_ n10_ n11_ n12_ n13_ n14_ n15_
          clear hb hbox hg
          refine hK.out _ _ ⟨(blk_cell BK129.out 0).trans rfl,(blk_cell BK129.out 1).trans rfl,(blk_cell BK129.out 2).trans rfl,(blk_cell BK129.out 3).trans rfl,(blk_cell BK129.out 4).trans rfl,(blk_cell BK130.out 0).trans rfl,(blk_cell BK130.out 1).trans rfl,(blk_cell BK130.out 2).trans rfl,(blk_cell BK130.out 3).trans rfl,(blk_cell BK130.out 4).trans rfl,(blk_cell BK131.out 0).trans rfl,(blk_cell BK131.out 1).trans rfl,(blk_cell BK131.out 2).trans rfl,(blk_cell BK131.out 3).trans rfl,(blk_cell BK131.out 4).trans rfl⟩ (fun hHeld => ?_)
          clear hK K
          refine norm_ (a':=?_) ?_ ?_
          rotate_left
          ·show Act.put _ (some 8) _ = _
           simp only [Act.put,List.setIfInBounds_toArray,List.set_cons_zero,List.set_cons_succ,i64_w,i32_w]
           rfl
          refine one_ (i:=4) (N:=some 45) #[true,true,true,true,true,true,false] rfl rfl (by kernel_rfl) (by decide) (fun K hK => ?_)
          refine goes_ Try.func18 (by kernel_rfl) rfl #[.agg #[.string a0_0,.int .i64 a0_1,.int .i64 a0_2,.string a0_3,.bool a0_4],.agg #[.string t158,.int .i64 t159,.int .i64 t160,.string t161,.bool t162]] (by rfl) rfl rfl (by (try simp only [List.map_toArray,List.map_cons,List.map_nil]);first | done | rfl | (simp only [List.length_drop,List.length_take];rfl)) ?_
          with_reducible refine (item_Best.calls kj33 a0_0 a0_1 a0_2 a0_3 a0_4 t158 t159 t160 t161 t162 t163 t164 t165 t166 t167 _ A52.out).mono ?_
          rintro e w70 ⟨rfl,hb⟩
          refine ⟨_,rfl,?_⟩
          replace BK129:=Aside0.mk (blk_below (g:=gb129) (o:=.cells #[.string a0_0,.int .i64 a0_1,.int .i64 a0_2,.string a0_3,.bool a0_4] 25 (0,0)) (by (with_reducible repeat first|apply bN|apply bD|apply bA);exact BK129.out) hb)
          replace BK130:=Aside0.mk (blk_below (g:=gb130) (o:=.cells #[.string a1_0,.int .i64 a1_1,.int .i64 a1_2,.string a1_3,.bool a1_4] 25 (0,0)) (by (with_reducible repeat first|apply bN|apply bD|apply bA);exact BK130.out) hb)
          replace BK131:=Aside0.mk (blk_below (g:=gb131) (o:=.cells #[.string a2_0,.int .i64 a2_1,.int .i64 a2_2,.string a2_3,.bool a2_4] 25 (0,0)) (by (with_reducible repeat first|apply bN|apply bD|apply bA);exact BK131.out) hb)
          replace BK157:=Aside0.mk (blk_below (g:=gb157) (o:=.cells #[.string t152,.int .i64 t153,.int .i64 t154,.string t155,.bool t156] 25 (0,0)) (by (with_reducible repeat first|apply bN|apply bD|apply bA);exact BK157.out) hb)
          replace BK168:=Aside0.mk (blk_below (g:=gb168) (o:=.cells #[.string (⟨#[]⟩ : ByteArray),.int .i64 0,.int .i64 0,.string (⟨#[]⟩ : ByteArray),.bool false] 25 (0,0)) (by (with_reducible repeat first|apply bN|apply bD|apply bA);exact BK168.out) hb)
          replace HB:=Aside0.mk (below_step (by repeat (first | (with_reducible first | exact HB.out | apply below_alloc | apply pw_below_drewN | apply below_drew1 | refine below_set ?_ GE129.out | refine below_set ?_ GE130.out | refine below_set ?_ GE131.out | refine below_set ?_ GE157.out | refine below_set ?_ GE168.out) | exact HB.out)) hb)
          (try clear hb)
          (try clear hb2)
          (try clear hk)
          (try clear hi)
          refine hK.out _ _ ⟨(blk_cell BK129.out 0).trans rfl,(blk_cell BK129.out 1).trans rfl,(blk_cell BK129.out 2).trans rfl,(blk_cell BK129.out 3).trans rfl,(blk_cell BK129.out 4).trans rfl,(blk_cell BK130.out 0).trans rfl,(blk_cell BK130.out 1).trans rfl,(blk_cell BK130.out 2).trans rfl,(blk_cell BK130.out 3).trans rfl,(blk_cell BK130.out 4).trans rfl,(blk_cell BK131.out 0).trans rfl,(blk_cell BK131.out 1).trans rfl,(blk_cell BK131.out 2).trans rfl,(blk_cell BK131.out 3).trans rfl,(blk_cell BK131.out 4).trans rfl⟩ (fun hHeld => ?_)
          clear hK K
          refine norm_ (a':=?_) ?_ ?_
          rotate_left
          ·show Act.put _ (some 45) _ = _
           simp only [Act.put,List.setIfInBounds_toArray,List.set_cons_zero,List.set_cons_succ,i64_w,i32_w]
           rfl
          exact norm_ (by simp only [putAll,Act.put,List.setIfInBounds_toArray,List.set_cons_zero,List.set_cons_succ]) (hCont (gb168) _ ⟨hHeld,(by (with_reducible repeat first|apply bN|apply bD|apply bA);exact BK129.out),(by (with_reducible repeat first|apply bN|apply bD|apply bA);exact BK130.out),(by (with_reducible repeat first|apply bN|apply bD|apply bA);exact BK131.out),(by (with_reducible repeat first|apply bN|apply bD|apply bA);exact BK157.out),(by (with_reducible repeat first|apply bN|apply bD|apply bA);exact BK168.out),GW168.out,GE168.out,NB129_168.out,NB168_129.out,NB130_168.out,NB168_130.out,NB131_168.out,NB168_131.out,NB157_168.out,NB168_157.out,(by repeat (first | (with_reducible first | exact HB.out | apply below_alloc | apply pw_below_drewN | apply below_drew1 | refine below_set ?_ GE129.out | refine below_set ?_ GE130.out | refine below_set ?_ GE131.out | refine below_set ?_ GE157.out | refine below_set ?_ GE168.out) | exact HB.out))⟩)
        ·skip
         refine box_step ?hg (N:=8) ?hd (cs:=#[.string (⟨#[]⟩ : ByteArray),.int .i64 0,.int .i64 0,.string (⟨#[]⟩ : ByteArray),.bool false]) (t:=25) ?hr ?_;(case hd => rfl);(case hg => rfl);(case hr => first | (go_simp;done) | (go_simp;rfl))
         intro gb168 hg w68 hbox hb
         have n0_:=Aside0.mk (blk_below (g:=gb129) (o:=.cells #[.string a0_0,.int .i64 a0_1,.int .i64 a0_2,.string a0_3,.bool a0_4] 25 (0,0)) (by (with_reducible repeat first|apply bN|apply bD|apply bA);exact BK129.out) hb)
         have n1_:=Aside0.mk (blk_below (g:=gb130) (o:=.cells #[.string a1_0,.int .i64 a1_1,.int .i64 a1_2,.string a1_3,.bool a1_4] 25 (0,0)) (by (with_reducible repeat first|apply bN|apply bD|apply bA);exact BK130.out) hb)
         have n2_:=Aside0.mk (blk_below (g:=gb131) (o:=.cells #[.string a2_0,.int .i64 a2_1,.int .i64 a2_2,.string a2_3,.bool a2_4] 25 (0,0)) (by (with_reducible repeat first|apply bN|apply bD|apply bA);exact BK131.out) hb)
         have n3_:=Aside0.mk (blk_below (g:=gb157) (o:=.cells #[.string t152,.int .i64 t153,.int .i64 t154,.string t155,.bool t156] 25 (0,0)) (by (with_reducible repeat first|apply bN|apply bD|apply bA);exact BK157.out) hb)
         have n4_:=Aside0.mk (below_step (by repeat (first | (with_reducible first | exact HB.out | apply below_alloc | apply pw_below_drewN | apply below_drew1 | refine below_set ?_ GE129.out | refine below_set ?_ GE130.out | refine below_set ?_ GE131.out | refine below_set ?_ GE157.out) | exact HB.out)) hb)
         have n5_:=Aside0.mk (hbox)
         have n6_:=Aside0.mk ((by rw [hg];exact (below_size (by repeat (first | (with_reducible first | exact HB.out | apply below_alloc | apply pw_below_drewN | apply below_drew1 | refine below_set ?_ GE129.out | refine below_set ?_ GE130.out | refine below_set ?_ GE131.out | refine below_set ?_ GE157.out) | exact HB.out))) : w.heap.size ≤ gb168))
         have n7_:=Aside0.mk ((by rw [hg];exact (below_size (by repeat (first | (with_reducible first | exact HB.out | apply below_alloc | apply pw_below_drewN | apply below_drew1 | refine below_set ?_ GE129.out | refine below_set ?_ GE130.out | refine below_set ?_ GE131.out | refine below_set ?_ GE157.out) | exact HB.out))) : w.heap.size ≤ gb168))
         have n8_:=Aside0.mk ((by rw [hg];exact Nat.ne_of_lt (blk_lt (g:=gb129) (o:=.cells #[.string a0_0,.int .i64 a0_1,.int .i64 a0_2,.string a0_3,.bool a0_4] 25 (0,0)) (by (with_reducible repeat first|apply bN|apply bD|apply bA);exact BK129.out)) : gb129 ≠ gb168))
         have n9_:=Aside0.mk ((by rw [hg];exact Nat.ne_of_gt (blk_lt (g:=gb129) (o:=.cells #[.string a0_0,.int .i64 a0_1,.int .i64 a0_2,.string a0_3,.bool a0_4] 25 (0,0)) (by (with_reducible repeat first|apply bN|apply bD|apply bA);exact BK129.out)) : gb168 ≠ gb129))
         have n10_:=Aside0.mk ((by rw [hg];exact Nat.ne_of_lt (blk_lt (g:=gb130) (o:=.cells #[.string a1_0,.int .i64 a1_1,.int .i64 a1_2,.string a1_3,.bool a1_4] 25 (0,0)) (by (with_reducible repeat first|apply bN|apply bD|apply bA);exact BK130.out)) : gb130 ≠ gb168))
         have n11_:=Aside0.mk ((by rw [hg];exact Nat.ne_of_gt (blk_lt (g:=gb130) (o:=.cells #[.string a1_0,.int .i64 a1_1,.int .i64 a1_2,.string a1_3,.bool a1_4] 25 (0,0)) (by (with_reducible repeat first|apply bN|apply bD|apply bA);exact BK130.out)) : gb168 ≠ gb130))
         have n12_:=Aside0.mk ((by rw [hg];exact Nat.ne_of_lt (blk_lt (g:=gb131) (o:=.cells #[.string a2_0,.int .i64 a2_1,.int .i64 a2_2,.string a2_3,.bool a2_4] 25 (0,0)) (by (with_reducible repeat first|apply bN|apply bD|apply bA);exact BK131.out)) : gb131 ≠ gb168))
         have n13_:=Aside0.mk ((by rw [hg];exact Nat.ne_of_gt (blk_lt (g:=gb131) (o:=.cells #[.string a2_0,.int .i64 a2_1,.int .i64 a2_2,.string a2_3,.bool a2_4] 25 (0,0)) (by (with_reducible repeat first|apply bN|apply bD|apply bA);exact BK131.out)) : gb168 ≠ gb131))
         have n14_:=Aside0.mk ((by rw [hg];exact Nat.ne_of_lt (blk_lt (g:=gb157) (o:=.cells #[.string t152,.int .i64 t153,.int .i64 t154,.string t155,.bool t156] 25 (0,0)) (by (with_reducible repeat first|apply bN|apply bD|apply bA);exact BK157.out)) : gb157 ≠ gb168))
         have n15_:=Aside0.mk ((by rw [hg];exact Nat.ne_of_gt (blk_lt (g:=gb157) (o:=.cells #[.string t152,.int .i64 t153,.int .i64 t154,.string t155,.bool t156] 25 (0,0)) (by (with_reducible repeat first|apply bN|apply bD|apply bA);exact BK157.out)) : gb168 ≠ gb157))
         clear BK129 BK130 BK131 BK157 HB
         have BK129:=n0_
         have BK130:=n1_
         have BK131:=n2_
         have BK157:=n3_
         have HB:=n4_
         have BK168:=n5_
         have GW168:=n6_
         have GE168:=n7_
         have NB129_168:=n8_
         have NB168_129:=n9_
         have NB130_168:=n10_
         have NB168_130:=n11_
         have NB131_168:=n12_
         have NB168_131:=n13_
         have NB157_168:=n14_
         have NB168_157:=n15_
         clear n0_ n1_ n2_ n3_ n4_ n5_ n6_ n7_ n8_ n9_ n10_ n11_ n12_ n13_ n14_ n15_
         clear hb hbox hg
         refine hK.out _ _ ⟨(blk_cell BK129.out 0).trans rfl,(blk_cell BK129.out 1).trans rfl,(blk_cell BK129.out 2).trans rfl,(blk_cell BK129.out 3).trans rfl,(blk_cell BK129.out 4).trans rfl,(blk_cell BK130.out 0).trans rfl,(blk_cell BK130.out 1).trans rfl,(blk_cell BK130.out 2).trans rfl,(blk_cell BK130.out 3).trans rfl,(blk_cell BK130.out 4).trans rfl,(blk_cell BK131.out 0).trans rfl,(blk_cell BK131.out 1).trans rfl,(blk_cell BK131.out 2).trans rfl,(blk_cell BK131.out 3).trans rfl,(blk_cell BK131.out 4).trans rfl⟩ (fun hHeld => ?_)
         clear hK K
         refine norm_ (a':=?_) ?_ ?_
         rotate_left
         ·show Act.put _ (some 8) _ = _
          simp only [Act.put,List.setIfInBounds_toArray,List.set_cons_zero,List.set_cons_succ,i64_w,i32_w]
          rfl
         refine one_ (i:=3) (N:=some 44) #[true,true,true,true,false,true,false] rfl rfl (by kernel_rfl) (by decide) (fun K hK => ?_)
         refine goes_ Try.func18 (by kernel_rfl) rfl #[.agg #[.string a1_0,.int .i64 a1_1,.int .i64 a1_2,.string a1_3,.bool a1_4],.agg #[.string a2_0,.int .i64 a2_1,.int .i64 a2_2,.string a2_3,.bool a2_4]] (by rfl) rfl rfl (by (try simp only [List.map_toArray,List.map_cons,List.map_nil]);first | done | rfl | (simp only [List.length_drop,List.length_take];rfl)) ?_
         with_reducible refine (item_Best.calls kj33 a1_0 a1_1 a1_2 a1_3 a1_4 a2_0 a2_1 a2_2 a2_3 a2_4 t158 t159 t160 t161 t162 _ A51.out).mono ?_
         rintro e w69 ⟨rfl,hb⟩
         refine ⟨_,rfl,?_⟩
         replace BK129:=Aside0.mk (blk_below (g:=gb129) (o:=.cells #[.string a0_0,.int .i64 a0_1,.int .i64 a0_2,.string a0_3,.bool a0_4] 25 (0,0)) (by (with_reducible repeat first|apply bN|apply bD|apply bA);exact BK129.out) hb)
         replace BK130:=Aside0.mk (blk_below (g:=gb130) (o:=.cells #[.string a1_0,.int .i64 a1_1,.int .i64 a1_2,.string a1_3,.bool a1_4] 25 (0,0)) (by (with_reducible repeat first|apply bN|apply bD|apply bA);exact BK130.out) hb)
         replace BK131:=Aside0.mk (blk_below (g:=gb131) (o:=.cells #[.string a2_0,.int .i64 a2_1,.int .i64 a2_2,.string a2_3,.bool a2_4] 25 (0,0)) (by (with_reducible repeat first|apply bN|apply bD|apply bA);exact BK131.out) hb)
         replace BK157:=Aside0.mk (blk_below (g:=gb157) (o:=.cells #[.string t152,.int .i64 t153,.int .i64 t154,.string t155,.bool t156] 25 (0,0)) (by (with_reducible repeat first|apply bN|apply bD|apply bA);exact BK157.out) hb)
         replace BK168:=Aside0.mk (blk_below (g:=gb168) (o:=.cells #[.string (⟨#[]⟩ : ByteArray),.int .i64 0,.int .i64 0,.string (⟨#[]⟩ : ByteArray),.bool false] 25 (0,0)) (by (with_reducible repeat first|apply bN|apply bD|apply bA);exact BK168.out) hb)
         replace HB:=Aside0.mk (below_step (by repeat (first | (with_reducible first | exact HB.out | apply below_alloc | apply pw_below_drewN | apply below_drew1 | refine below_set ?_ GE129.out | refine below_set ?_ GE130.out | refine below_set ?_ GE131.out | refine below_set ?_ GE157.out | refine below_set ?_ GE168.out) | exact HB.out)) hb)
         (try clear hb)
         (try clear hb2)
         (try clear hk)
         (try clear hi)
         refine hK.out _ _ ⟨(blk_cell BK129.out 0).trans rfl,(blk_cell BK129.out 1).trans rfl,(blk_cell BK129.out 2).trans rfl,(blk_cell BK129.out 3).trans rfl,(blk_cell BK129.out 4).trans rfl,(blk_cell BK130.out 0).trans rfl,(blk_cell BK130.out 1).trans rfl,(blk_cell BK130.out 2).trans rfl,(blk_cell BK130.out 3).trans rfl,(blk_cell BK130.out 4).trans rfl,(blk_cell BK131.out 0).trans rfl,(blk_cell BK131.out 1).trans rfl,(blk_cell BK131.out 2).trans rfl,(blk_cell BK131.out 3).trans rfl,(blk_cell BK131.out 4).trans rfl⟩ (fun hHeld => ?_)
         clear hK K
         refine norm_ (a':=?_) ?_ ?_
         rotate_left
         ·show Act.put _ (some 44) _ = _
          simp only [Act.put,List.setIfInBounds_toArray,List.set_cons_zero,List.set_cons_succ,i64_w,i32_w]
          rfl
         refine one_ (i:=4) (N:=some 45) #[true,true,true,true,true,true,false] rfl rfl (by kernel_rfl) (by decide) (fun K hK => ?_)
         refine goes_ Try.func18 (by kernel_rfl) rfl #[.agg #[.string a0_0,.int .i64 a0_1,.int .i64 a0_2,.string a0_3,.bool a0_4],.agg #[.string t158,.int .i64 t159,.int .i64 t160,.string t161,.bool t162]] (by rfl) rfl rfl (by (try simp only [List.map_toArray,List.map_cons,List.map_nil]);first | done | rfl | (simp only [List.length_drop,List.length_take];rfl)) ?_
         with_reducible refine (item_Best.calls kj33 a0_0 a0_1 a0_2 a0_3 a0_4 t158 t159 t160 t161 t162 t163 t164 t165 t166 t167 _ A52.out).mono ?_
         rintro e w70 ⟨rfl,hb⟩
         refine ⟨_,rfl,?_⟩
         replace BK129:=Aside0.mk (blk_below (g:=gb129) (o:=.cells #[.string a0_0,.int .i64 a0_1,.int .i64 a0_2,.string a0_3,.bool a0_4] 25 (0,0)) (by (with_reducible repeat first|apply bN|apply bD|apply bA);exact BK129.out) hb)
         replace BK130:=Aside0.mk (blk_below (g:=gb130) (o:=.cells #[.string a1_0,.int .i64 a1_1,.int .i64 a1_2,.string a1_3,.bool a1_4] 25 (0,0)) (by (with_reducible repeat first|apply bN|apply bD|apply bA);exact BK130.out) hb)
         replace BK131:=Aside0.mk (blk_below (g:=gb131) (o:=.cells #[.string a2_0,.int .i64 a2_1,.int .i64 a2_2,.string a2_3,.bool a2_4] 25 (0,0)) (by (with_reducible repeat first|apply bN|apply bD|apply bA);exact BK131.out) hb)
         replace BK157:=Aside0.mk (blk_below (g:=gb157) (o:=.cells #[.string t152,.int .i64 t153,.int .i64 t154,.string t155,.bool t156] 25 (0,0)) (by (with_reducible repeat first|apply bN|apply bD|apply bA);exact BK157.out) hb)
         replace BK168:=Aside0.mk (blk_below (g:=gb168) (o:=.cells #[.string (⟨#[]⟩ : ByteArray),.int .i64 0,.int .i64 0,.string (⟨#[]⟩ : ByteArray),.bool false] 25 (0,0)) (by (with_reducible repeat first|apply bN|apply bD|apply bA);exact BK168.out) hb)
         replace HB:=Aside0.mk (below_step (by repeat (first | (with_reducible first | exact HB.out | apply below_alloc | apply pw_below_drewN | apply below_drew1 | refine below_set ?_ GE129.out | refine below_set ?_ GE130.out | refine below_set ?_ GE131.out | refine below_set ?_ GE157.out | refine below_set ?_ GE168.out) | exact HB.out)) hb)
         (try clear hb)
         (try clear hb2)
         (try clear hk)
         (try clear hi)
         refine hK.out _ _ ⟨(blk_cell BK129.out 0).trans rfl,(blk_cell BK129.out 1).trans rfl,(blk_cell BK129.out 2).trans rfl,(blk_cell BK129.out 3).trans rfl,(blk_cell BK129.out 4).trans rfl,(blk_cell BK130.out 0).trans rfl,(blk_cell BK130.out 1).trans rfl,(blk_cell BK130.out 2).trans rfl,(blk_cell BK130.out 3).trans rfl,(blk_cell BK130.out 4).trans rfl,(blk_cell BK131.out 0).trans rfl,(blk_cell BK131.out 1).trans rfl,(blk_cell BK131.out 2).trans rfl,(blk_cell BK131.out 3).trans rfl,(blk_cell BK131.out 4).trans rfl⟩ (fun hHeld => ?_)
         clear hK K
         refine norm_ (a':=?_) ?_ ?_
         rotate_left
         ·show Act.put _ (some 45) _ = _
          simp only [Act.put,List.setIfInBounds_toArray,List.set_cons_zero,List.set_cons_succ,i64_w,i32_w]
          rfl
         exact norm_ (by simp only [putAll,Act.put,List.setIfInBounds_toArray,List.set_cons_zero,List.set_cons_succ]) (hCont (gb168) _ ⟨hHeld,(by (with_reducible repeat first|apply bN|apply bD|apply bA);exact BK129.out),(by (with_reducible repeat first|apply bN|apply bD|apply bA);exact BK130.out),(by (with_reducible repeat first|apply bN|apply bD|apply bA);exact BK131.out),(by (with_reducible repeat first|apply bN|apply bD|apply bA);exact BK157.out),(by (with_reducible repeat first|apply bN|apply bD|apply bA);exact BK168.out),GW168.out,GE168.out,NB129_168.out,NB168_129.out,NB130_168.out,NB168_130.out,NB131_168.out,NB168_131.out,NB157_168.out,NB168_157.out,(by repeat (first | (with_reducible first | exact HB.out | apply below_alloc | apply pw_below_drewN | apply below_drew1 | refine below_set ?_ GE129.out | refine below_set ?_ GE130.out | refine below_set ?_ GE131.out | refine below_set ?_ GE157.out | refine below_set ?_ GE168.out) | exact HB.out))⟩)
       rintro gb168 w71 ⟨hS_,h0_,h1_,h2_,h3_,h4_,h5_,h6_,h7_,h8_,h9_,h10_,h11_,h12_,h13_,h14_,h15_⟩
       have n0_ : Aside0 (w71.heap[gb129]? = some (.cells #[.string a0_0,.int .i64 a0_1,.int .i64 a0_2,.string a0_3,.bool a0_4] 25 (0,0))):=⟨h0_⟩
       have n1_ : Aside0 (w71.heap[gb130]? = some (.cells #[.string a1_0,.int .i64 a1_1,.int .i64 a1_2,.string a1_3,.bool a1_4] 25 (0,0))):=⟨h1_⟩
       have n2_ : Aside0 (w71.heap[gb131]? = some (.cells #[.string a2_0,.int .i64 a2_1,.int .i64 a2_2,.string a2_3,.bool a2_4] 25 (0,0))):=⟨h2_⟩
       have n3_ : Aside0 (w71.heap[gb157]? = some (.cells #[.string t152,.int .i64 t153,.int .i64 t154,.string t155,.bool t156] 25 (0,0))):=⟨h3_⟩
       have n4_ : Aside0 (w71.heap[gb168]? = some (.cells #[.string (⟨#[]⟩ : ByteArray),.int .i64 0,.int .i64 0,.string (⟨#[]⟩ : ByteArray),.bool false] 25 (0,0))):=⟨h4_⟩
       have n5_ : Aside0 (w.heap.size ≤ gb168):=⟨h5_⟩
       have n6_ : Aside0 (w.heap.size ≤ gb168):=⟨h6_⟩
       have n7_ : Aside0 (gb129 ≠ gb168):=⟨h7_⟩
       have n8_ : Aside0 (gb168 ≠ gb129):=⟨h8_⟩
       have n9_ : Aside0 (gb130 ≠ gb168):=⟨h9_⟩
       have n10_ : Aside0 (gb168 ≠ gb130):=⟨h10_⟩
       have n11_ : Aside0 (gb131 ≠ gb168):=⟨h11_⟩
       have n12_ : Aside0 (gb168 ≠ gb131):=⟨h12_⟩
       have n13_ : Aside0 (gb157 ≠ gb168):=⟨h13_⟩
       have n14_ : Aside0 (gb168 ≠ gb157):=⟨h14_⟩
       have n15_ : Aside0 (Below w.heap.size w w71):=⟨h15_⟩
       clear BK129 BK130 BK131 BK157 HB
       clear h0_ h1_ h2_ h3_ h4_ h5_ h6_ h7_ h8_ h9_ h10_ h11_ h12_ h13_ h14_ h15_
       have BK129:=n0_
       have BK130:=n1_
       have BK131:=n2_
       have BK157:=n3_
       have BK168:=n4_
       have GW168:=n5_
       have GE168:=n6_
       have NB129_168:=n7_
       have NB168_129:=n8_
       have NB130_168:=n9_
       have NB168_130:=n10_
       have NB131_168:=n11_
       have NB168_131:=n12_
       have NB157_168:=n13_
       have NB168_157:=n14_
       have HB:=n15_
       clear n0_ n1_ n2_ n3_ n4_ n5_ n6_ n7_ n8_ n9_ n10_ n11_ n12_ n13_ n14_ n15_
       have hHeld : w71.cell? ⟨gb129,0,none⟩ = some (.string a0_0) ∧ w71.cell? ⟨gb129,1,none⟩ = some (.int .i64 a0_1) ∧ w71.cell? ⟨gb129,2,none⟩ = some (.int .i64 a0_2) ∧ w71.cell? ⟨gb129,3,none⟩ = some (.string a0_3) ∧ w71.cell? ⟨gb129,4,none⟩ = some (.bool a0_4) ∧ w71.cell? ⟨gb130,0,none⟩ = some (.string a1_0) ∧ w71.cell? ⟨gb130,1,none⟩ = some (.int .i64 a1_1) ∧ w71.cell? ⟨gb130,2,none⟩ = some (.int .i64 a1_2) ∧ w71.cell? ⟨gb130,3,none⟩ = some (.string a1_3) ∧ w71.cell? ⟨gb130,4,none⟩ = some (.bool a1_4) ∧ w71.cell? ⟨gb131,0,none⟩ = some (.string a2_0) ∧ w71.cell? ⟨gb131,1,none⟩ = some (.int .i64 a2_1) ∧ w71.cell? ⟨gb131,2,none⟩ = some (.int .i64 a2_2) ∧ w71.cell? ⟨gb131,3,none⟩ = some (.string a2_3) ∧ w71.cell? ⟨gb131,4,none⟩ = some (.bool a2_4):=hS_
       refine norm_ (a':=?_) ?_ ?_
       rotate_left
       ·simp only [putAll,Act.put,List.setIfInBounds_toArray,List.set_cons_zero,List.set_cons_succ]
        rfl
       refine one_ (i:=6) (N:=none) #[true,true,true,true,true,true,true] rfl rfl (by kernel_rfl) (by decide) (fun K hK => ?_)
       have hs72 : w71.cell? ⟨gb168,0,none⟩ = some (.string (⟨#[]⟩ : ByteArray)):=(blk_cell BK168.out 0).trans rfl
       have hfs72:=blk_frozen BK168.out 0
       have hns72_0:=NB129_168.out
       have hns72_1:=NB130_168.out
       have hns72_2:=NB131_168.out
       have hns72_3:=NB157_168.out
       have hms72_0:=NB168_129.out
       have hms72_1:=NB168_130.out
       have hms72_2:=NB168_131.out
       have hms72_3:=NB168_157.out
       have hs73 : w71.cell? ⟨gb168,1,none⟩ = some (.int .i64 0):=(blk_cell BK168.out 1).trans rfl
       have hfs73:=blk_frozen BK168.out 1
       have hns73_0:=NB129_168.out
       have hns73_1:=NB130_168.out
       have hns73_2:=NB131_168.out
       have hns73_3:=NB157_168.out
       have hms73_0:=NB168_129.out
       have hms73_1:=NB168_130.out
       have hms73_2:=NB168_131.out
       have hms73_3:=NB168_157.out
       have hs74 : w71.cell? ⟨gb168,2,none⟩ = some (.int .i64 0):=(blk_cell BK168.out 2).trans rfl
       have hfs74:=blk_frozen BK168.out 2
       have hns74_0:=NB129_168.out
       have hns74_1:=NB130_168.out
       have hns74_2:=NB131_168.out
       have hns74_3:=NB157_168.out
       have hms74_0:=NB168_129.out
       have hms74_1:=NB168_130.out
       have hms74_2:=NB168_131.out
       have hms74_3:=NB168_157.out
       have hs75 : w71.cell? ⟨gb168,3,none⟩ = some (.string (⟨#[]⟩ : ByteArray)):=(blk_cell BK168.out 3).trans rfl
       have hfs75:=blk_frozen BK168.out 3
       have hns75_0:=NB129_168.out
       have hns75_1:=NB130_168.out
       have hns75_2:=NB131_168.out
       have hns75_3:=NB157_168.out
       have hms75_0:=NB168_129.out
       have hms75_1:=NB168_130.out
       have hms75_2:=NB168_131.out
       have hms75_3:=NB168_157.out
       have hs76 : w71.cell? ⟨gb168,4,none⟩ = some (.bool false):=(blk_cell BK168.out 4).trans rfl
       have hfs76:=blk_frozen BK168.out 4
       have hns76_0:=NB129_168.out
       have hns76_1:=NB130_168.out
       have hns76_2:=NB131_168.out
       have hns76_3:=NB157_168.out
       have hms76_0:=NB168_129.out
       have hms76_1:=NB168_130.out
       have hms76_2:=NB168_131.out
       have hms76_3:=NB168_157.out
       refine skip_ (w1:=?_) (by rfl) rfl ?_ ?_
       rotate_left
       ·go_simp
        rfl
       refine hK.out _ _ ⟨((cell_far (p:=⟨gb168,_,none⟩) NB129_168.out _).trans (((cell_far (p:=⟨gb168,_,none⟩) NB129_168.out _).trans (((cell_far (p:=⟨gb168,_,none⟩) NB129_168.out _).trans (((cell_far (p:=⟨gb168,_,none⟩) NB129_168.out _).trans (((cell_far (p:=⟨gb168,_,none⟩) NB129_168.out _).trans (hHeld.1)))))))))),((cell_far (p:=⟨gb168,_,none⟩) NB129_168.out _).trans (((cell_far (p:=⟨gb168,_,none⟩) NB129_168.out _).trans (((cell_far (p:=⟨gb168,_,none⟩) NB129_168.out _).trans (((cell_far (p:=⟨gb168,_,none⟩) NB129_168.out _).trans (((cell_far (p:=⟨gb168,_,none⟩) NB129_168.out _).trans (hHeld.2.1)))))))))),((cell_far (p:=⟨gb168,_,none⟩) NB129_168.out _).trans (((cell_far (p:=⟨gb168,_,none⟩) NB129_168.out _).trans (((cell_far (p:=⟨gb168,_,none⟩) NB129_168.out _).trans (((cell_far (p:=⟨gb168,_,none⟩) NB129_168.out _).trans (((cell_far (p:=⟨gb168,_,none⟩) NB129_168.out _).trans (hHeld.2.2.1)))))))))),((cell_far (p:=⟨gb168,_,none⟩) NB129_168.out _).trans (((cell_far (p:=⟨gb168,_,none⟩) NB129_168.out _).trans (((cell_far (p:=⟨gb168,_,none⟩) NB129_168.out _).trans (((cell_far (p:=⟨gb168,_,none⟩) NB129_168.out _).trans (((cell_far (p:=⟨gb168,_,none⟩) NB129_168.out _).trans (hHeld.2.2.2.1)))))))))),((cell_far (p:=⟨gb168,_,none⟩) NB129_168.out _).trans (((cell_far (p:=⟨gb168,_,none⟩) NB129_168.out _).trans (((cell_far (p:=⟨gb168,_,none⟩) NB129_168.out _).trans (((cell_far (p:=⟨gb168,_,none⟩) NB129_168.out _).trans (((cell_far (p:=⟨gb168,_,none⟩) NB129_168.out _).trans (hHeld.2.2.2.2.1)))))))))),((cell_far (p:=⟨gb168,_,none⟩) NB130_168.out _).trans (((cell_far (p:=⟨gb168,_,none⟩) NB130_168.out _).trans (((cell_far (p:=⟨gb168,_,none⟩) NB130_168.out _).trans (((cell_far (p:=⟨gb168,_,none⟩) NB130_168.out _).trans (((cell_far (p:=⟨gb168,_,none⟩) NB130_168.out _).trans (hHeld.2.2.2.2.2.1)))))))))),((cell_far (p:=⟨gb168,_,none⟩) NB130_168.out _).trans (((cell_far (p:=⟨gb168,_,none⟩) NB130_168.out _).trans (((cell_far (p:=⟨gb168,_,none⟩) NB130_168.out _).trans (((cell_far (p:=⟨gb168,_,none⟩) NB130_168.out _).trans (((cell_far (p:=⟨gb168,_,none⟩) NB130_168.out _).trans (hHeld.2.2.2.2.2.2.1)))))))))),((cell_far (p:=⟨gb168,_,none⟩) NB130_168.out _).trans (((cell_far (p:=⟨gb168,_,none⟩) NB130_168.out _).trans (((cell_far (p:=⟨gb168,_,none⟩) NB130_168.out _).trans (((cell_far (p:=⟨gb168,_,none⟩) NB130_168.out _).trans (((cell_far (p:=⟨gb168,_,none⟩) NB130_168.out _).trans (hHeld.2.2.2.2.2.2.2.1)))))))))),((cell_far (p:=⟨gb168,_,none⟩) NB130_168.out _).trans (((cell_far (p:=⟨gb168,_,none⟩) NB130_168.out _).trans (((cell_far (p:=⟨gb168,_,none⟩) NB130_168.out _).trans (((cell_far (p:=⟨gb168,_,none⟩) NB130_168.out _).trans (((cell_far (p:=⟨gb168,_,none⟩) NB130_168.out _).trans (hHeld.2.2.2.2.2.2.2.2.1)))))))))),((cell_far (p:=⟨gb168,_,none⟩) NB130_168.out _).trans (((cell_far (p:=⟨gb168,_,none⟩) NB130_168.out _).trans (((cell_far (p:=⟨gb168,_,none⟩) NB130_168.out _).trans (((cell_far (p:=⟨gb168,_,none⟩) NB130_168.out _).trans (((cell_far (p:=⟨gb168,_,none⟩) NB130_168.out _).trans (hHeld.2.2.2.2.2.2.2.2.2.1)))))))))),((cell_far (p:=⟨gb168,_,none⟩) NB131_168.out _).trans (((cell_far (p:=⟨gb168,_,none⟩) NB131_168.out _).trans (((cell_far (p:=⟨gb168,_,none⟩) NB131_168.out _).trans (((cell_far (p:=⟨gb168,_,none⟩) NB131_168.out _).trans (((cell_far (p:=⟨gb168,_,none⟩) NB131_168.out _).trans (hHeld.2.2.2.2.2.2.2.2.2.2.1)))))))))),((cell_far (p:=⟨gb168,_,none⟩) NB131_168.out _).trans (((cell_far (p:=⟨gb168,_,none⟩) NB131_168.out _).trans (((cell_far (p:=⟨gb168,_,none⟩) NB131_168.out _).trans (((cell_far (p:=⟨gb168,_,none⟩) NB131_168.out _).trans (((cell_far (p:=⟨gb168,_,none⟩) NB131_168.out _).trans (hHeld.2.2.2.2.2.2.2.2.2.2.2.1)))))))))),((cell_far (p:=⟨gb168,_,none⟩) NB131_168.out _).trans (((cell_far (p:=⟨gb168,_,none⟩) NB131_168.out _).trans (((cell_far (p:=⟨gb168,_,none⟩) NB131_168.out _).trans (((cell_far (p:=⟨gb168,_,none⟩) NB131_168.out _).trans (((cell_far (p:=⟨gb168,_,none⟩) NB131_168.out _).trans (hHeld.2.2.2.2.2.2.2.2.2.2.2.2.1)))))))))),((cell_far (p:=⟨gb168,_,none⟩) NB131_168.out _).trans (((cell_far (p:=⟨gb168,_,none⟩) NB131_168.out _).trans (((cell_far (p:=⟨gb168,_,none⟩) NB131_168.out _).trans (((cell_far (p:=⟨gb168,_,none⟩) NB131_168.out _).trans (((cell_far (p:=⟨gb168,_,none⟩) NB131_168.out _).trans (hHeld.2.2.2.2.2.2.2.2.2.2.2.2.2.1)))))))))),((cell_far (p:=⟨gb168,_,none⟩) NB131_168.out _).trans (((cell_far (p:=⟨gb168,_,none⟩) NB131_168.out _).trans (((cell_far (p:=⟨gb168,_,none⟩) NB131_168.out _).trans (((cell_far (p:=⟨gb168,_,none⟩) NB131_168.out _).trans (((cell_far (p:=⟨gb168,_,none⟩) NB131_168.out _).trans (hHeld.2.2.2.2.2.2.2.2.2.2.2.2.2.2))))))))))⟩ (fun hHeld => ?_)
       clear hK K
       refine done_ (by kernel_rfl) ?_
       try go_wp2
       have n0_ : Aside0 ((((((w71.setCell ⟨gb168,0,none⟩ (.string t163)).setCell ⟨gb168,1,none⟩ (.int .i64 t164)).setCell ⟨gb168,2,none⟩ (.int .i64 t165)).setCell ⟨gb168,3,none⟩ (.string t166)).setCell ⟨gb168,4,none⟩ (.bool t167)).heap[gb129]? = some (.cells #[.string a0_0,.int .i64 a0_1,.int .i64 a0_2,.string a0_3,.bool a0_4] 25 (0,0))):=⟨by (with_reducible repeat (first|apply bN|apply bD|apply bA | refine blk_far ?_ NB129_168.out _));exact BK129.out⟩
       have n1_ : Aside0 ((((((w71.setCell ⟨gb168,0,none⟩ (.string t163)).setCell ⟨gb168,1,none⟩ (.int .i64 t164)).setCell ⟨gb168,2,none⟩ (.int .i64 t165)).setCell ⟨gb168,3,none⟩ (.string t166)).setCell ⟨gb168,4,none⟩ (.bool t167)).heap[gb130]? = some (.cells #[.string a1_0,.int .i64 a1_1,.int .i64 a1_2,.string a1_3,.bool a1_4] 25 (0,0))):=⟨by (with_reducible repeat (first|apply bN|apply bD|apply bA | refine blk_far ?_ NB130_168.out _));exact BK130.out⟩
       have n2_ : Aside0 ((((((w71.setCell ⟨gb168,0,none⟩ (.string t163)).setCell ⟨gb168,1,none⟩ (.int .i64 t164)).setCell ⟨gb168,2,none⟩ (.int .i64 t165)).setCell ⟨gb168,3,none⟩ (.string t166)).setCell ⟨gb168,4,none⟩ (.bool t167)).heap[gb131]? = some (.cells #[.string a2_0,.int .i64 a2_1,.int .i64 a2_2,.string a2_3,.bool a2_4] 25 (0,0))):=⟨by (with_reducible repeat (first|apply bN|apply bD|apply bA | refine blk_far ?_ NB131_168.out _));exact BK131.out⟩
       have n3_ : Aside0 ((((((w71.setCell ⟨gb168,0,none⟩ (.string t163)).setCell ⟨gb168,1,none⟩ (.int .i64 t164)).setCell ⟨gb168,2,none⟩ (.int .i64 t165)).setCell ⟨gb168,3,none⟩ (.string t166)).setCell ⟨gb168,4,none⟩ (.bool t167)).heap[gb157]? = some (.cells #[.string t152,.int .i64 t153,.int .i64 t154,.string t155,.bool t156] 25 (0,0))):=⟨by (with_reducible repeat (first|apply bN|apply bD|apply bA | refine blk_far ?_ NB157_168.out _));exact BK157.out⟩
       have n4_ : Aside0 ((((((w71.setCell ⟨gb168,0,none⟩ (.string t163)).setCell ⟨gb168,1,none⟩ (.int .i64 t164)).setCell ⟨gb168,2,none⟩ (.int .i64 t165)).setCell ⟨gb168,3,none⟩ (.string t166)).setCell ⟨gb168,4,none⟩ (.bool t167)).heap[gb168]? = some (.cells #[.string t163,.int .i64 t164,.int .i64 t165,.string t166,.bool t167] 25 (0,0))):=⟨by (with_reducible repeat first|apply bN|apply bD|apply bA);refine blk_put (cs:=#[.string t163,.int .i64 t164,.int .i64 t165,.string t166,.bool false]) ?_ 4 _ rfl;(with_reducible repeat first|apply bN|apply bD|apply bA);refine blk_put (cs:=#[.string t163,.int .i64 t164,.int .i64 t165,.string (⟨#[]⟩ : ByteArray),.bool false]) ?_ 3 _ rfl;(with_reducible repeat first|apply bN|apply bD|apply bA);refine blk_put (cs:=#[.string t163,.int .i64 t164,.int .i64 0,.string (⟨#[]⟩ : ByteArray),.bool false]) ?_ 2 _ rfl;(with_reducible repeat first|apply bN|apply bD|apply bA);refine blk_put (cs:=#[.string t163,.int .i64 0,.int .i64 0,.string (⟨#[]⟩ : ByteArray),.bool false]) ?_ 1 _ rfl;(with_reducible repeat first|apply bN|apply bD|apply bA);refine blk_put (cs:=#[.string (⟨#[]⟩ : ByteArray),.int .i64 0,.int .i64 0,.string (⟨#[]⟩ : ByteArray),.bool false]) ?_ 0 _ rfl;(with_reducible repeat first|apply bN|apply bD|apply bA);exact BK168.out⟩
       have n5_ : Aside0 (Below w.heap.size w (((((w71.setCell ⟨gb168,0,none⟩ (.string t163)).setCell ⟨gb168,1,none⟩ (.int .i64 t164)).setCell ⟨gb168,2,none⟩ (.int .i64 t165)).setCell ⟨gb168,3,none⟩ (.string t166)).setCell ⟨gb168,4,none⟩ (.bool t167))):=⟨by repeat (first | (with_reducible first | exact HB.out | apply below_alloc | apply pw_below_drewN | apply below_drew1 | refine below_set ?_ GE129.out | refine below_set ?_ GE130.out | refine below_set ?_ GE131.out | refine below_set ?_ GE157.out | refine below_set ?_ GE168.out) | exact HB.out)⟩
       (try clear BK129)
       (try clear BK130)
       (try clear BK131)
       (try clear BK157)
       (try clear BK168)
       (try clear HB)
       generalize (((((w71.setCell ⟨gb168,0,none⟩ (.string t163)).setCell ⟨gb168,1,none⟩ (.int .i64 t164)).setCell ⟨gb168,2,none⟩ (.int .i64 t165)).setCell ⟨gb168,3,none⟩ (.string t166)).setCell ⟨gb168,4,none⟩ (.bool t167)) = w77 at n0_ n1_ n2_ n3_ n4_ n5_ ⊢
       have BK129:=n0_
       have BK130:=n1_
       have BK131:=n2_
       have BK157:=n3_
       have BK168:=n4_
       have HB:=n5_
       clear n0_ n1_ n2_ n3_ n4_ n5_
       replace BK129:=Aside0.mk (blk_drew BK129.out)
       replace BK130:=Aside0.mk (blk_drew BK130.out)
       replace BK131:=Aside0.mk (blk_drew BK131.out)
       replace BK157:=Aside0.mk (blk_drew BK157.out)
       replace BK168:=Aside0.mk (blk_drew BK168.out)
       replace HB:=Aside0.mk (below_drew1 HB.out)
       refine start_ (n:=7) (S:=fun w' => w'.cell? ⟨gb131,0,none⟩ = some (.string a2_0) ∧ w'.cell? ⟨gb131,1,none⟩ = some (.int .i64 a2_1) ∧ w'.cell? ⟨gb131,2,none⟩ = some (.int .i64 a2_2) ∧ w'.cell? ⟨gb131,3,none⟩ = some (.string a2_3) ∧ w'.cell? ⟨gb131,4,none⟩ = some (.bool a2_4) ∧ w'.cell? ⟨gb130,0,none⟩ = some (.string a1_0) ∧ w'.cell? ⟨gb130,1,none⟩ = some (.int .i64 a1_1) ∧ w'.cell? ⟨gb130,2,none⟩ = some (.int .i64 a1_2) ∧ w'.cell? ⟨gb130,3,none⟩ = some (.string a1_3) ∧ w'.cell? ⟨gb130,4,none⟩ = some (.bool a1_4) ∧ w'.cell? ⟨gb129,0,none⟩ = some (.string a0_0) ∧ w'.cell? ⟨gb129,1,none⟩ = some (.int .i64 a0_1) ∧ w'.cell? ⟨gb129,2,none⟩ = some (.int .i64 a0_2) ∧ w'.cell? ⟨gb129,3,none⟩ = some (.string a0_3) ∧ w'.cell? ⟨gb129,4,none⟩ = some (.bool a0_4)) (ds:=[]) #[false,false,false,false,false,false,false] (by kernel_rfl) rfl rfl ⟨(blk_cell BK131.out 0).trans rfl,(blk_cell BK131.out 1).trans rfl,(blk_cell BK131.out 2).trans rfl,(blk_cell BK131.out 3).trans rfl,(blk_cell BK131.out 4).trans rfl,(blk_cell BK130.out 0).trans rfl,(blk_cell BK130.out 1).trans rfl,(blk_cell BK130.out 2).trans rfl,(blk_cell BK130.out 3).trans rfl,(blk_cell BK130.out 4).trans rfl,(blk_cell BK129.out 0).trans rfl,(blk_cell BK129.out 1).trans rfl,(blk_cell BK129.out 2).trans rfl,(blk_cell BK129.out 3).trans rfl,(blk_cell BK129.out 4).trans rfl⟩ (fun hHeld => ?_)
       generalize w77.drew = w78 at BK129 BK130 BK131 BK157 BK168 HB hHeld ⊢
       refine take_ (i:=0) (N:=some 46) (v:=?_) (a':=?_) #[true,false,false,false,false,false,false] rfl rfl (by kernel_rfl) (fun _ _ _ h => h) (Or.inl ⟨by rfl,?_⟩) hHeld ?_ ?_
       rotate_left
       ·rintro w' ⟨s0,s1,s2,s3,s4,s5,s6,s7,s8,s9,s10,s11,s12,s13,s14⟩
        go_simp
        with_reducible rfl
       rotate_left
       ·simp only [Act.put,List.setIfInBounds_toArray,List.set_cons_zero,List.set_cons_succ,i64_w,i32_w]
        rfl
       refine take_ (i:=1) (N:=some 47) (v:=?_) (a':=?_) #[true,true,false,false,false,false,false] rfl rfl (by kernel_rfl) (fun _ _ _ h => h) (Or.inl ⟨by rfl,?_⟩) hHeld ?_ ?_
       rotate_left
       ·rintro w' ⟨s0,s1,s2,s3,s4,s5,s6,s7,s8,s9,s10,s11,s12,s13,s14⟩
        go_simp
        with_reducible rfl
       rotate_left
       ·simp only [Act.put,List.setIfInBounds_toArray,List.set_cons_zero,List.set_cons_succ,i64_w,i32_w]
        rfl
       refine take_ (i:=2) (N:=some 48) (v:=?_) (a':=?_) #[true,true,true,false,false,false,false] rfl rfl (by kernel_rfl) (fun _ _ _ h => h) (Or.inl ⟨by rfl,?_⟩) hHeld ?_ ?_
       rotate_left
       ·rintro w' ⟨s0,s1,s2,s3,s4,s5,s6,s7,s8,s9,s10,s11,s12,s13,s14⟩
        go_simp
        with_reducible rfl
       rotate_left
       ·simp only [Act.put,List.setIfInBounds_toArray,List.set_cons_zero,List.set_cons_succ,i64_w,i32_w]
        rfl
       refine join_ (σ:=Nat) 1 #[true,true,true,true,true,true,false] (fun s_ => [(49,.agg #[.string t169,.int .i64 t170,.int .i64 t171,.string t172,.bool t173]),(50,.agg #[.string t174,.int .i64 t175,.int .i64 t176,.string t177,.bool t178]),(9,.pointer (some ⟨s_,0,none⟩))]) (fun s_ w' => (w'.cell? ⟨gb131,0,none⟩ = some (.string a2_0) ∧ w'.cell? ⟨gb131,1,none⟩ = some (.int .i64 a2_1) ∧ w'.cell? ⟨gb131,2,none⟩ = some (.int .i64 a2_2) ∧ w'.cell? ⟨gb131,3,none⟩ = some (.string a2_3) ∧ w'.cell? ⟨gb131,4,none⟩ = some (.bool a2_4) ∧ w'.cell? ⟨gb130,0,none⟩ = some (.string a1_0) ∧ w'.cell? ⟨gb130,1,none⟩ = some (.int .i64 a1_1) ∧ w'.cell? ⟨gb130,2,none⟩ = some (.int .i64 a1_2) ∧ w'.cell? ⟨gb130,3,none⟩ = some (.string a1_3) ∧ w'.cell? ⟨gb130,4,none⟩ = some (.bool a1_4) ∧ w'.cell? ⟨gb129,0,none⟩ = some (.string a0_0) ∧ w'.cell? ⟨gb129,1,none⟩ = some (.int .i64 a0_1) ∧ w'.cell? ⟨gb129,2,none⟩ = some (.int .i64 a0_2) ∧ w'.cell? ⟨gb129,3,none⟩ = some (.string a0_3) ∧ w'.cell? ⟨gb129,4,none⟩ = some (.bool a0_4)) ∧ (w'.heap[gb129]? = some (.cells #[.string a0_0,.int .i64 a0_1,.int .i64 a0_2,.string a0_3,.bool a0_4] 25 (0,0))) ∧ (w'.heap[gb130]? = some (.cells #[.string a1_0,.int .i64 a1_1,.int .i64 a1_2,.string a1_3,.bool a1_4] 25 (0,0))) ∧ (w'.heap[gb131]? = some (.cells #[.string a2_0,.int .i64 a2_1,.int .i64 a2_2,.string a2_3,.bool a2_4] 25 (0,0))) ∧ (w'.heap[gb157]? = some (.cells #[.string t152,.int .i64 t153,.int .i64 t154,.string t155,.bool t156] 25 (0,0))) ∧ (w'.heap[gb168]? = some (.cells #[.string t163,.int .i64 t164,.int .i64 t165,.string t166,.bool t167] 25 (0,0))) ∧ (w'.heap[s_]? = some (.cells #[.string (⟨#[]⟩ : ByteArray),.int .i64 0,.int .i64 0,.string (⟨#[]⟩ : ByteArray),.bool false] 25 (0,0))) ∧ (w.heap.size ≤ s_) ∧ (w.heap.size ≤ s_) ∧ (gb129 ≠ s_) ∧ (s_ ≠ gb129) ∧ (gb130 ≠ s_) ∧ (s_ ≠ gb130) ∧ (gb131 ≠ s_) ∧ (s_ ≠ gb131) ∧ (gb157 ≠ s_) ∧ (s_ ≠ gb157) ∧ (gb168 ≠ s_) ∧ (s_ ≠ gb168) ∧ (Below w.heap.size w w')) ?_ ?_
       rotate_left
       ·intro hCont
        refine two_ (i:=3) (j:=5) (Ni:=some 49) (Nj:=some 9) #[true,true,true,true,false,false,false] #[true,true,true,false,false,true,false] rfl rfl rfl rfl (by kernel_rfl) (by decide) (by decide) (fun K hK => ?_) (fun K hK => ?_)
        ·skip
         refine goes_ Try.func18 (by kernel_rfl) rfl #[.agg #[.string a1_0,.int .i64 a1_1,.int .i64 a1_2,.string a1_3,.bool a1_4],.agg #[.string a0_0,.int .i64 a0_1,.int .i64 a0_2,.string a0_3,.bool a0_4]] (by rfl) rfl rfl (by (try simp only [List.map_toArray,List.map_cons,List.map_nil]);first | done | rfl | (simp only [List.length_drop,List.length_take];rfl)) ?_
         with_reducible refine (item_Best.calls kj33 a1_0 a1_1 a1_2 a1_3 a1_4 a0_0 a0_1 a0_2 a0_3 a0_4 t169 t170 t171 t172 t173 _ A53.out).mono ?_
         rintro e w79 ⟨rfl,hb⟩
         refine ⟨_,rfl,?_⟩
         replace BK129:=Aside0.mk (blk_below (g:=gb129) (o:=.cells #[.string a0_0,.int .i64 a0_1,.int .i64 a0_2,.string a0_3,.bool a0_4] 25 (0,0)) (by (with_reducible repeat first|apply bN|apply bD|apply bA);exact BK129.out) hb)
         replace BK130:=Aside0.mk (blk_below (g:=gb130) (o:=.cells #[.string a1_0,.int .i64 a1_1,.int .i64 a1_2,.string a1_3,.bool a1_4] 25 (0,0)) (by (with_reducible repeat first|apply bN|apply bD|apply bA);exact BK130.out) hb)
         replace BK131:=Aside0.mk (blk_below (g:=gb131) (o:=.cells #[.string a2_0,.int .i64 a2_1,.int .i64 a2_2,.string a2_3,.bool a2_4] 25 (0,0)) (by (with_reducible repeat first|apply bN|apply bD|apply bA);exact BK131.out) hb)
         replace BK157:=Aside0.mk (blk_below (g:=gb157) (o:=.cells #[.string t152,.int .i64 t153,.int .i64 t154,.string t155,.bool t156] 25 (0,0)) (by (with_reducible repeat first|apply bN|apply bD|apply bA);exact BK157.out) hb)
         replace BK168:=Aside0.mk (blk_below (g:=gb168) (o:=.cells #[.string t163,.int .i64 t164,.int .i64 t165,.string t166,.bool t167] 25 (0,0)) (by (with_reducible repeat first|apply bN|apply bD|apply bA);exact BK168.out) hb)
         replace HB:=Aside0.mk (below_step (by repeat (first | (with_reducible first | exact HB.out | apply below_alloc | apply pw_below_drewN | apply below_drew1 | refine below_set ?_ GE129.out | refine below_set ?_ GE130.out | refine below_set ?_ GE131.out | refine below_set ?_ GE157.out | refine below_set ?_ GE168.out) | exact HB.out)) hb)
         (try clear hb)
         (try clear hb2)
         (try clear hk)
         (try clear hi)
         refine hK.out _ _ ⟨(blk_cell BK131.out 0).trans rfl,(blk_cell BK131.out 1).trans rfl,(blk_cell BK131.out 2).trans rfl,(blk_cell BK131.out 3).trans rfl,(blk_cell BK131.out 4).trans rfl,(blk_cell BK130.out 0).trans rfl,(blk_cell BK130.out 1).trans rfl,(blk_cell BK130.out 2).trans rfl,(blk_cell BK130.out 3).trans rfl,(blk_cell BK130.out 4).trans rfl,(blk_cell BK129.out 0).trans rfl,(blk_cell BK129.out 1).trans rfl,(blk_cell BK129.out 2).trans rfl,(blk_cell BK129.out 3).trans rfl,(blk_cell BK129.out 4).trans rfl⟩ (fun hHeld => ?_)
         clear hK K
         refine norm_ (a':=?_) ?_ ?_
         rotate_left
         ·show Act.put _ (some 49) _ = _
          simp only [Act.put,List.setIfInBounds_toArray,List.set_cons_zero,List.set_cons_succ,i64_w,i32_w]
          rfl
         refine two_ (i:=4) (j:=5) (Ni:=some 50) (Nj:=some 9) #[true,true,true,true,true,false,false] #[true,true,true,true,false,true,false] rfl rfl rfl rfl (by kernel_rfl) (by decide) (by decide) (fun K hK => ?_) (fun K hK => ?_)
         ·skip
          refine goes_ Try.func18 (by kernel_rfl) rfl #[.agg #[.string a2_0,.int .i64 a2_1,.int .i64 a2_2,.string a2_3,.bool a2_4],.agg #[.string t169,.int .i64 t170,.int .i64 t171,.string t172,.bool t173]] (by rfl) rfl rfl (by (try simp only [List.map_toArray,List.map_cons,List.map_nil]);first | done | rfl | (simp only [List.length_drop,List.length_take];rfl)) ?_
          with_reducible refine (item_Best.calls kj33 a2_0 a2_1 a2_2 a2_3 a2_4 t169 t170 t171 t172 t173 t174 t175 t176 t177 t178 _ A54.out).mono ?_
          rintro e w80 ⟨rfl,hb⟩
          refine ⟨_,rfl,?_⟩
          replace BK129:=Aside0.mk (blk_below (g:=gb129) (o:=.cells #[.string a0_0,.int .i64 a0_1,.int .i64 a0_2,.string a0_3,.bool a0_4] 25 (0,0)) (by (with_reducible repeat first|apply bN|apply bD|apply bA);exact BK129.out) hb)
          replace BK130:=Aside0.mk (blk_below (g:=gb130) (o:=.cells #[.string a1_0,.int .i64 a1_1,.int .i64 a1_2,.string a1_3,.bool a1_4] 25 (0,0)) (by (with_reducible repeat first|apply bN|apply bD|apply bA);exact BK130.out) hb)
          replace BK131:=Aside0.mk (blk_below (g:=gb131) (o:=.cells #[.string a2_0,.int .i64 a2_1,.int .i64 a2_2,.string a2_3,.bool a2_4] 25 (0,0)) (by (with_reducible repeat first|apply bN|apply bD|apply bA);exact BK131.out) hb)
          replace BK157:=Aside0.mk (blk_below (g:=gb157) (o:=.cells #[.string t152,.int .i64 t153,.int .i64 t154,.string t155,.bool t156] 25 (0,0)) (by (with_reducible repeat first|apply bN|apply bD|apply bA);exact BK157.out) hb)
          replace BK168:=Aside0.mk (blk_below (g:=gb168) (o:=.cells #[.string t163,.int .i64 t164,.int .i64 t165,.string t166,.bool t167] 25 (0,0)) (by (with_reducible repeat first|apply bN|apply bD|apply bA);exact BK168.out) hb)
          replace HB:=Aside0.mk (below_step (by repeat (first | (with_reducible first | exact HB.out | apply below_alloc | apply pw_below_drewN | apply below_drew1 | refine below_set ?_ GE129.out | refine below_set ?_ GE130.out | refine below_set ?_ GE131.out | refine below_set ?_ GE157.out | refine below_set ?_ GE168.out) | exact HB.out)) hb)
          (try clear hb)
          (try clear hb2)
          (try clear hk)
          (try clear hi)
          refine hK.out _ _ ⟨(blk_cell BK131.out 0).trans rfl,(blk_cell BK131.out 1).trans rfl,(blk_cell BK131.out 2).trans rfl,(blk_cell BK131.out 3).trans rfl,(blk_cell BK131.out 4).trans rfl,(blk_cell BK130.out 0).trans rfl,(blk_cell BK130.out 1).trans rfl,(blk_cell BK130.out 2).trans rfl,(blk_cell BK130.out 3).trans rfl,(blk_cell BK130.out 4).trans rfl,(blk_cell BK129.out 0).trans rfl,(blk_cell BK129.out 1).trans rfl,(blk_cell BK129.out 2).trans rfl,(blk_cell BK129.out 3).trans rfl,(blk_cell BK129.out 4).trans rfl⟩ (fun hHeld => ?_)
          clear hK K
          refine norm_ (a':=?_) ?_ ?_
          rotate_left
          ·show Act.put _ (some 50) _ = _
           simp only [Act.put,List.setIfInBounds_toArray,List.set_cons_zero,List.set_cons_succ,i64_w,i32_w]
           rfl
          refine one_ (i:=5) (N:=some 9) #[true,true,true,true,true,true,false] rfl rfl (by kernel_rfl) (by decide) (fun K hK => ?_)
          refine box_step ?hg (N:=9) ?hd (cs:=#[.string (⟨#[]⟩ : ByteArray),.int .i64 0,.int .i64 0,.string (⟨#[]⟩ : ByteArray),.bool false]) (t:=25) ?hr ?_;(case hd => rfl);(case hg => rfl);(case hr => first | (go_simp;done) | (go_simp;rfl))
          intro gb179 hg w81 hbox hb
          have n0_:=Aside0.mk (blk_below (g:=gb129) (o:=.cells #[.string a0_0,.int .i64 a0_1,.int .i64 a0_2,.string a0_3,.bool a0_4] 25 (0,0)) (by (with_reducible repeat first|apply bN|apply bD|apply bA);exact BK129.out) hb)
          have n1_:=Aside0.mk (blk_below (g:=gb130) (o:=.cells #[.string a1_0,.int .i64 a1_1,.int .i64 a1_2,.string a1_3,.bool a1_4] 25 (0,0)) (by (with_reducible repeat first|apply bN|apply bD|apply bA);exact BK130.out) hb)
          have n2_:=Aside0.mk (blk_below (g:=gb131) (o:=.cells #[.string a2_0,.int .i64 a2_1,.int .i64 a2_2,.string a2_3,.bool a2_4] 25 (0,0)) (by (with_reducible repeat first|apply bN|apply bD|apply bA);exact BK131.out) hb)
          have n3_:=Aside0.mk (blk_below (g:=gb157) (o:=.cells #[.string t152,.int .i64 t153,.int .i64 t154,.string t155,.bool t156] 25 (0,0)) (by (with_reducible repeat first|apply bN|apply bD|apply bA);exact BK157.out) hb)
          have n4_:=Aside0.mk (blk_below (g:=gb168) (o:=.cells #[.string t163,.int .i64 t164,.int .i64 t165,.string t166,.bool t167] 25 (0,0)) (by (with_reducible repeat first|apply bN|apply bD|apply bA);exact BK168.out) hb)
          have n5_:=Aside0.mk (below_step (by repeat (first | (with_reducible first | exact HB.out | apply below_alloc | apply pw_below_drewN | apply below_drew1 | refine below_set ?_ GE129.out | refine below_set ?_ GE130.out | refine below_set ?_ GE131.out | refine below_set ?_ GE157.out | refine below_set ?_ GE168.out) | exact HB.out)) hb)
          have n6_:=Aside0.mk (hbox)
          have n7_:=Aside0.mk ((by rw [hg];exact (below_size (by repeat (first | (with_reducible first | exact HB.out | apply below_alloc | apply pw_below_drewN | apply below_drew1 | refine below_set ?_ GE129.out | refine below_set ?_ GE130.out | refine below_set ?_ GE131.out | refine below_set ?_ GE157.out | refine below_set ?_ GE168.out) | exact HB.out))) : w.heap.size ≤ gb179))
          have n8_:=Aside0.mk ((by rw [hg];exact (below_size (by repeat (first | (with_reducible first | exact HB.out | apply below_alloc | apply pw_below_drewN | apply below_drew1 | refine below_set ?_ GE129.out | refine below_set ?_ GE130.out | refine below_set ?_ GE131.out | refine below_set ?_ GE157.out | refine below_set ?_ GE168.out) | exact HB.out))) : w.heap.size ≤ gb179))
          have n9_:=Aside0.mk ((by rw [hg];exact Nat.ne_of_lt (blk_lt (g:=gb129) (o:=.cells #[.string a0_0,.int .i64 a0_1,.int .i64 a0_2,.string a0_3,.bool a0_4] 25 (0,0)) (by (with_reducible repeat first|apply bN|apply bD|apply bA);exact BK129.out)) : gb129 ≠ gb179))
          have n10_:=Aside0.mk ((by rw [hg];exact Nat.ne_of_gt (blk_lt (g:=gb129) (o:=.cells #[.string a0_0,.int .i64 a0_1,.int .i64 a0_2,.string a0_3,.bool a0_4] 25 (0,0)) (by (with_reducible repeat first|apply bN|apply bD|apply bA);exact BK129.out)) : gb179 ≠ gb129))
          have n11_:=Aside0.mk ((by rw [hg];exact Nat.ne_of_lt (blk_lt (g:=gb130) (o:=.cells #[.string a1_0,.int .i64 a1_1,.int .i64 a1_2,.string a1_3,.bool a1_4] 25 (0,0)) (by (with_reducible repeat first|apply bN|apply bD|apply bA);exact BK130.out)) : gb130 ≠ gb179))
          have n12_:=Aside0.mk ((by rw [hg];exact Nat.ne_of_gt (blk_lt (g:=gb130) (o:=.cells #[.string a1_0,.int .i64 a1_1,.int .i64 a1_2,.string a1_3,.bool a1_4] 25 (0,0)) (by (with_reducible repeat first|apply bN|apply bD|apply bA);exact BK130.out)) : gb179 ≠ gb130))
          have n13_:=Aside0.mk ((by rw [hg];exact Nat.ne_of_lt (blk_lt (g:=gb131) (o:=.cells #[.string a2_0,.int .i64 a2_1,.int .i64 a2_2,.string a2_3,.bool a2_4] 25 (0,0)) (by (with_reducible repeat first|apply bN|apply bD|apply bA);exact BK131.out)) : gb131 ≠ gb179))
          have n14_:=Aside0.mk ((by rw [hg];exact Nat.ne_of_gt (blk_lt (g:=gb131) (o:=.cells #[.string a2_0,.int .i64 a2_1,.int .i64 a2_2,.string a2_3,.bool a2_4] 25 (0,0)) (by (with_reducible repeat first|apply bN|apply bD|apply bA);exact BK131.out)) : gb179 ≠ gb131))
          have n15_:=Aside0.mk ((by rw [hg];exact Nat.ne_of_lt (blk_lt (g:=gb157) (o:=.cells #[.string t152,.int .i64 t153,.int .i64 t154,.string t155,.bool t156] 25 (0,0)) (by (with_reducible repeat first|apply bN|apply bD|apply bA);exact BK157.out)) : gb157 ≠ gb179))
          have n16_:=Aside0.mk ((by rw [hg];exact Nat.ne_of_gt (blk_lt (g:=gb157) (o:=.cells #[.string t152,.int .i64 t153,.int .i64 t154,.string t155,.bool t156] 25 (0,0)) (by (with_reducible repeat first|apply bN|apply bD|apply bA);exact BK157.out)) : gb179 ≠ gb157))
          have n17_:=Aside0.mk ((by rw [hg];exact Nat.ne_of_lt (blk_lt (g:=gb168) (o:=.cells #[.string t163,.int .i64 t164,.int .i64 t165,.string t166,.bool t167] 25 (0,0)) (by (with_reducible repeat first|apply bN|apply bD|apply bA);exact BK168.out)) : gb168 ≠ gb179))
          have n18_:=Aside0.mk ((by rw [hg];exact Nat.ne_of_gt (blk_lt (g:=gb168) (o:=.cells #[.string t163,.int .i64 t164,.int .i64 t165,.string t166,.bool t167] 25 (0,0)) (by (with_reducible repeat first|apply bN|apply bD|apply bA);exact BK168.out)) : gb179 ≠ gb168))
          clear BK129 BK130 BK131 BK157 BK168 HB
          have BK129:=n0_
          have BK130:=n1_
          have BK131:=n2_
          have BK157:=n3_
          have BK168:=n4_
          have HB:=n5_
          have BK179:=n6_
          have GW179:=n7_
          have GE179:=n8_
          have NB129_179:=n9_
          have NB179_129:=n10_
          have NB130_179:=n11_
          have NB179_130:=n12_
          have NB131_179:=n13_
          have NB179_131:=n14_
          have NB157_179:=n15_
          have NB179_157:=n16_
          have NB168_179:=n17_
          have NB179_168:=n18_
          clear n0_ n1_ n2_ n3_ n4_ n5_ n6_ n7_ n8_ n9_ n10_ n11_ n12_ n13_ n14_ n15_ n16_ n17_ n18_
          clear hb hbox hg
          refine hK.out _ _ ⟨(blk_cell BK131.out 0).trans rfl,(blk_cell BK131.out 1).trans rfl,(blk_cell BK131.out 2).trans rfl,(blk_cell BK131.out 3).trans rfl,(blk_cell BK131.out 4).trans rfl,(blk_cell BK130.out 0).trans rfl,(blk_cell BK130.out 1).trans rfl,(blk_cell BK130.out 2).trans rfl,(blk_cell BK130.out 3).trans rfl,(blk_cell BK130.out 4).trans rfl,(blk_cell BK129.out 0).trans rfl,(blk_cell BK129.out 1).trans rfl,(blk_cell BK129.out 2).trans rfl,(blk_cell BK129.out 3).trans rfl,(blk_cell BK129.out 4).trans rfl⟩ (fun hHeld => ?_)
          clear hK K
          refine norm_ (a':=?_) ?_ ?_
          rotate_left
          ·show Act.put _ (some 9) _ = _
           simp only [Act.put,List.setIfInBounds_toArray,List.set_cons_zero,List.set_cons_succ,i64_w,i32_w]
           rfl
          exact norm_ (by simp only [putAll,Act.put,List.setIfInBounds_toArray,List.set_cons_zero,List.set_cons_succ]) (hCont (gb179) _ ⟨hHeld,(by (with_reducible repeat first|apply bN|apply bD|apply bA);exact BK129.out),(by (with_reducible repeat first|apply bN|apply bD|apply bA);exact BK130.out),(by (with_reducible repeat first|apply bN|apply bD|apply bA);exact BK131.out),(by (with_reducible repeat first|apply bN|apply bD|apply bA);exact BK157.out),(by (with_reducible repeat first|apply bN|apply bD|apply bA);exact BK168.out),(by (with_reducible repeat first|apply bN|apply bD|apply bA);exact BK179.out),GW179.out,GE179.out,NB129_179.out,NB179_129.out,NB130_179.out,NB179_130.out,NB131_179.out,NB179_131.out,NB157_179.out,NB179_157.out,NB168_179.out,NB179_168.out,(by repeat (first | (with_reducible first | exact HB.out | apply below_alloc | apply pw_below_drewN | apply below_drew1 | refine below_set ?_ GE129.out | refine below_set ?_ GE130.out | refine below_set ?_ GE131.out | refine below_set ?_ GE157.out | refine below_set ?_ GE168.out | refine below_set ?_ GE179.out) | exact HB.out))⟩)
         ·skip
          refine box_step ?hg (N:=9) ?hd (cs:=#[.string (⟨#[]⟩ : ByteArray),.int .i64 0,.int .i64 0,.string (⟨#[]⟩ : ByteArray),.bool false]) (t:=25) ?hr ?_;(case hd => rfl);(case hg => rfl);(case hr => first | (go_simp;done) | (go_simp;rfl))
          intro gb179 hg w80 hbox hb
          have n0_:=Aside0.mk (blk_below (g:=gb129) (o:=.cells #[.string a0_0,.int .i64 a0_1,.int .i64 a0_2,.string a0_3,.bool a0_4] 25 (0,0)) (by (with_reducible repeat first|apply bN|apply bD|apply bA);exact BK129.out) hb)
          have n1_:=Aside0.mk (blk_below (g:=gb130) (o:=.cells #[.string a1_0,.int .i64 a1_1,.int .i64 a1_2,.string a1_3,.bool a1_4] 25 (0,0)) (by (with_reducible repeat first|apply bN|apply bD|apply bA);exact BK130.out) hb)
          have n2_:=Aside0.mk (blk_below (g:=gb131) (o:=.cells #[.string a2_0,.int .i64 a2_1,.int .i64 a2_2,.string a2_3,.bool a2_4] 25 (0,0)) (by (with_reducible repeat first|apply bN|apply bD|apply bA);exact BK131.out) hb)
          have n3_:=Aside0.mk (blk_below (g:=gb157) (o:=.cells #[.string t152,.int .i64 t153,.int .i64 t154,.string t155,.bool t156] 25 (0,0)) (by (with_reducible repeat first|apply bN|apply bD|apply bA);exact BK157.out) hb)
          have n4_:=Aside0.mk (blk_below (g:=gb168) (o:=.cells #[.string t163,.int .i64 t164,.int .i64 t165,.string t166,.bool t167] 25 (0,0)) (by (with_reducible repeat first|apply bN|apply bD|apply bA);exact BK168.out) hb)
          have n5_:=Aside0.mk (below_step (by repeat (first | (with_reducible first | exact HB.out | apply below_alloc | apply pw_below_drewN | apply below_drew1 | refine below_set ?_ GE129.out | refine below_set ?_ GE130.out | refine below_set ?_ GE131.out | refine below_set ?_ GE157.out | refine below_set ?_ GE168.out) | exact HB.out)) hb)
          have n6_:=Aside0.mk (hbox)
          have n7_:=Aside0.mk ((by rw [hg];exact (below_size (by repeat (first | (with_reducible first | exact HB.out | apply below_alloc | apply pw_below_drewN | apply below_drew1 | refine below_set ?_ GE129.out | refine below_set ?_ GE130.out | refine below_set ?_ GE131.out | refine below_set ?_ GE157.out | refine below_set ?_ GE168.out) | exact HB.out))) : w.heap.size ≤ gb179))
          have n8_:=Aside0.mk ((by rw [hg];exact (below_size (by repeat (first | (with_reducible first | exact HB.out | apply below_alloc | apply pw_below_drewN | apply below_drew1 | refine below_set ?_ GE129.out | refine below_set ?_ GE130.out | refine below_set ?_ GE131.out | refine below_set ?_ GE157.out | refine below_set ?_ GE168.out) | exact HB.out))) : w.heap.size ≤ gb179))
          have n9_:=Aside0.mk ((by rw [hg];exact Nat.ne_of_lt (blk_lt (g:=gb129) (o:=.cells #[.string a0_0,.int .i64 a0_1,.int .i64 a0_2,.string a0_3,.bool a0_4] 25 (0,0)) (by (with_reducible repeat first|apply bN|apply bD|apply bA);exact BK129.out)) : gb129 ≠ gb179))
          have n10_:=Aside0.mk ((by rw [hg];exact Nat.ne_of_gt (blk_lt (g:=gb129) (o:=.cells #[.string a0_0,.int .i64 a0_1,.int .i64 a0_2,.string a0_3,.bool a0_4] 25 (0,0)) (by (with_reducible repeat first|apply bN|apply bD|apply bA);exact BK129.out)) : gb179 ≠ gb129))
          have n11_:=Aside0.mk ((by rw [hg];exact Nat.ne_of_lt (blk_lt (g:=gb130) (o:=.cells #[.string a1_0,.int .i64 a1_1,.int .i64 a1_2,.string a1_3,.bool a1_4] 25 (0,0)) (by (with_reducible repeat first|apply bN|apply bD|apply bA);exact BK130.out)) : gb130 ≠ gb179))
          have n12_:=Aside0.mk ((by rw [hg];exact Nat.ne_of_gt (blk_lt (g:=gb130) (o:=.cells #[.string a1_0,.int .i64 a1_1,.int .i64 a1_2,.string a1_3,.bool a1_4] 25 (0,0)) (by (with_reducible repeat first|apply bN|apply bD|apply bA);exact BK130.out)) : gb179 ≠ gb130))
          have n13_:=Aside0.mk ((by rw [hg];exact Nat.ne_of_lt (blk_lt (g:=gb131) (o:=.cells #[.string a2_0,.int .i64 a2_1,.int .i64 a2_2,.string a2_3,.bool a2_4] 25 (0,0)) (by (with_reducible repeat first|apply bN|apply bD|apply bA);exact BK131.out)) : gb131 ≠ gb179))
          have n14_:=Aside0.mk ((by rw [hg];exact Nat.ne_of_gt (blk_lt (g:=gb131) (o:=.cells #[.string a2_0,.int .i64 a2_1,.int .i64 a2_2,.string a2_3,.bool a2_4] 25 (0,0)) (by (with_reducible repeat first|apply bN|apply bD|apply bA);exact BK131.out)) : gb179 ≠ gb131))
          have n15_:=Aside0.mk ((by rw [hg];exact Nat.ne_of_lt (blk_lt (g:=gb157) (o:=.cells #[.string t152,.int .i64 t153,.int .i64 t154,.string t155,.bool t156] 25 (0,0)) (by (with_reducible repeat first|apply bN|apply bD|apply bA);exact BK157.out)) : gb157 ≠ gb179))
          have n16_:=Aside0.mk ((by rw [hg];exact Nat.ne_of_gt (blk_lt (g:=gb157) (o:=.cells #[.string t152,.int .i64 t153,.int .i64 t154,.string t155,.bool t156] 25 (0,0)) (by (with_reducible repeat first|apply bN|apply bD|apply bA);exact BK157.out)) : gb179 ≠ gb157))
          have n17_:=Aside0.mk ((by rw [hg];exact Nat.ne_of_lt (blk_lt (g:=gb168) (o:=.cells #[.string t163,.int .i64 t164,.int .i64 t165,.string t166,.bool t167] 25 (0,0)) (by (with_reducible repeat first|apply bN|apply bD|apply bA);exact BK168.out)) : gb168 ≠ gb179))
          have n18_:=Aside0.mk ((by rw [hg];exact Nat.ne_of_gt (blk_lt (g:=gb168) (o:=.cells #[.string t163,.int .i64 t164,.int .i64 t165,.string t166,.bool t167] 25 (0,0)) (by (with_reducible repeat first|apply bN|apply bD|apply bA);exact BK168.out)) : gb179 ≠ gb168))
          clear BK129 BK130 BK131 BK157 BK168 HB
          have BK129:=n0_
          have BK130:=n1_
          have BK131:=n2_
          have BK157:=n3_
          have BK168:=n4_
          have HB:=n5_
          have BK179:=n6_
          have GW179:=n7_
          have GE179:=n8_
          have NB129_179:=n9_
          have NB179_129:=n10_
          have NB130_179:=n11_
          have NB179_130:=n12_
          have NB131_179:=n13_
          have NB179_131:=n14_
          have NB157_179:=n15_
          have NB179_157:=n16_
          have NB168_179:=n17_
          have NB179_168:=n18_
          clear n0_ n1_ n2_ n3_ n4_ n5_ n6_ n7_ n8_ n9_ n10_ n11_ n12_ n13_ n14_ n15_ n16_ n17_ n18_
          clear hb hbox hg
          refine hK.out _ _ ⟨(blk_cell BK131.out 0).trans rfl,(blk_cell BK131.out 1).trans rfl,(blk_cell BK131.out 2).trans rfl,(blk_cell BK131.out 3).trans rfl,(blk_cell BK131.out 4).trans rfl,(blk_cell BK130.out 0).trans rfl,(blk_cell BK130.out 1).trans rfl,(blk_cell BK130.out 2).trans rfl,(blk_cell BK130.out 3).trans rfl,(blk_cell BK130.out 4).trans rfl,(blk_cell BK129.out 0).trans rfl,(blk_cell BK129.out 1).trans rfl,(blk_cell BK129.out 2).trans rfl,(blk_cell BK129.out 3).trans rfl,(blk_cell BK129.out 4).trans rfl⟩ (fun hHeld => ?_)
          clear hK K
          refine norm_ (a':=?_) ?_ ?_
          rotate_left
          ·show Act.put _ (some 9) _ = _
           simp only [Act.put,List.setIfInBounds_toArray,List.set_cons_zero,List.set_cons_succ,i64_w,i32_w]
           rfl
          refine one_ (i:=4) (N:=some 50) #[true,true,true,true,true,true,false] rfl rfl (by kernel_rfl) (by decide) (fun K hK => ?_)
          refine goes_ Try.func18 (by kernel_rfl) rfl #[.agg #[.string a2_0,.int .i64 a2_1,.int .i64 a2_2,.string a2_3,.bool a2_4],.agg #[.string t169,.int .i64 t170,.int .i64 t171,.string t172,.bool t173]] (by rfl) rfl rfl (by (try simp only [List.map_toArray,List.map_cons,List.map_nil]);first | done | rfl | (simp only [List.length_drop,List.length_take];rfl)) ?_
          with_reducible refine (item_Best.calls kj33 a2_0 a2_1 a2_2 a2_3 a2_4 t169 t170 t171 t172 t173 t174 t175 t176 t177 t178 _ A54.out).mono ?_
          rintro e w81 ⟨rfl,hb⟩
          refine ⟨_,rfl,?_⟩
          replace BK129:=Aside0.mk (blk_below (g:=gb129) (o:=.cells #[.string a0_0,.int .i64 a0_1,.int .i64 a0_2,.string a0_3,.bool a0_4] 25 (0,0)) (by (with_reducible repeat first|apply bN|apply bD|apply bA);exact BK129.out) hb)
          replace BK130:=Aside0.mk (blk_below (g:=gb130) (o:=.cells #[.string a1_0,.int .i64 a1_1,.int .i64 a1_2,.string a1_3,.bool a1_4] 25 (0,0)) (by (with_reducible repeat first|apply bN|apply bD|apply bA);exact BK130.out) hb)
          replace BK131:=Aside0.mk (blk_below (g:=gb131) (o:=.cells #[.string a2_0,.int .i64 a2_1,.int .i64 a2_2,.string a2_3,.bool a2_4] 25 (0,0)) (by (with_reducible repeat first|apply bN|apply bD|apply bA);exact BK131.out) hb)
          replace BK157:=Aside0.mk (blk_below (g:=gb157) (o:=.cells #[.string t152,.int .i64 t153,.int .i64 t154,.string t155,.bool t156] 25 (0,0)) (by (with_reducible repeat first|apply bN|apply bD|apply bA);exact BK157.out) hb)
          replace BK168:=Aside0.mk (blk_below (g:=gb168) (o:=.cells #[.string t163,.int .i64 t164,.int .i64 t165,.string t166,.bool t167] 25 (0,0)) (by (with_reducible repeat first|apply bN|apply bD|apply bA);exact BK168.out) hb)
          replace BK179:=Aside0.mk (blk_below (g:=gb179) (o:=.cells #[.string (⟨#[]⟩ : ByteArray),.int .i64 0,.int .i64 0,.string (⟨#[]⟩ : ByteArray),.bool false] 25 (0,0)) (by (with_reducible repeat first|apply bN|apply bD|apply bA);exact BK179.out) hb)
          replace HB:=Aside0.mk (below_step (by repeat (first | (with_reducible first | exact HB.out | apply below_alloc | apply pw_below_drewN | apply below_drew1 | refine below_set ?_ GE129.out | refine below_set ?_ GE130.out | refine below_set ?_ GE131.out | refine below_set ?_ GE157.out | refine below_set ?_ GE168.out | refine below_set ?_ GE179.out) | exact HB.out)) hb)
          (try clear hb)
          (try clear hb2)
          (try clear hk)
          (try clear hi)
          refine hK.out _ _ ⟨(blk_cell BK131.out 0).trans rfl,(blk_cell BK131.out 1).trans rfl,(blk_cell BK131.out 2).trans rfl,(blk_cell BK131.out 3).trans rfl,(blk_cell BK131.out 4).trans rfl,(blk_cell BK130.out 0).trans rfl,(blk_cell BK130.out 1).trans rfl,(blk_cell BK130.out 2).trans rfl,(blk_cell BK130.out 3).trans rfl,(blk_cell BK130.out 4).trans rfl,(blk_cell BK129.out 0).trans rfl,(blk_cell BK129.out 1).trans rfl,(blk_cell BK129.out 2).trans rfl,(blk_cell BK129.out 3).trans rfl,(blk_cell BK129.out 4).trans rfl⟩ (fun hHeld => ?_)
          clear hK K
          refine norm_ (a':=?_) ?_ ?_
          rotate_left
          ·show Act.put _ (some 50) _ = _
           simp only [Act.put,List.setIfInBounds_toArray,List.set_cons_zero,List.set_cons_succ,i64_w,i32_w]
           rfl
          exact norm_ (by simp only [putAll,Act.put,List.setIfInBounds_toArray,List.set_cons_zero,List.set_cons_succ]) (hCont (gb179) _ ⟨hHeld,(by (with_reducible repeat first|apply bN|apply bD|apply bA);exact BK129.out),(by (with_reducible repeat first|apply bN|apply bD|apply bA);exact BK130.out),(by (with_reducible repeat first|apply bN|apply bD|apply bA);exact BK131.out),(by (with_reducible repeat first|apply bN|apply bD|apply bA);exact BK157.out),(by (with_reducible repeat first|apply bN|apply bD|apply bA);exact BK168.out),(by (with_reducible repeat first|apply bN|apply bD|apply bA);exact BK179.out),GW179.out,GE179.out,NB129_179.out,NB179_129.out,NB130_179.out,NB179_130.out,NB131_179.out,NB179_131.out,NB157_179.out,NB179_157.out,NB168_179.out,NB179_168.out,(by repeat (first | (with_reducible first | exact HB.out | apply below_alloc | apply pw_below_drewN | apply below_drew1 | refine below_set ?_ GE129.out | refine below_set ?_ GE130.out | refine below_set ?_ GE131.out | refine below_set ?_ GE157.out | refine below_set ?_ GE168.out | refine below_set ?_ GE179.out) | exact HB.out))⟩)
        ·skip
         refine box_step ?hg (N:=9) ?hd (cs:=#[.string (⟨#[]⟩ : ByteArray),.int .i64 0,.int .i64 0,.string (⟨#[]⟩ : ByteArray),.bool false]) (t:=25) ?hr ?_;(case hd => rfl);(case hg => rfl);(case hr => first | (go_simp;done) | (go_simp;rfl))
         intro gb179 hg w79 hbox hb
         have n0_:=Aside0.mk (blk_below (g:=gb129) (o:=.cells #[.string a0_0,.int .i64 a0_1,.int .i64 a0_2,.string a0_3,.bool a0_4] 25 (0,0)) (by (with_reducible repeat first|apply bN|apply bD|apply bA);exact BK129.out) hb)
         have n1_:=Aside0.mk (blk_below (g:=gb130) (o:=.cells #[.string a1_0,.int .i64 a1_1,.int .i64 a1_2,.string a1_3,.bool a1_4] 25 (0,0)) (by (with_reducible repeat first|apply bN|apply bD|apply bA);exact BK130.out) hb)
         have n2_:=Aside0.mk (blk_below (g:=gb131) (o:=.cells #[.string a2_0,.int .i64 a2_1,.int .i64 a2_2,.string a2_3,.bool a2_4] 25 (0,0)) (by (with_reducible repeat first|apply bN|apply bD|apply bA);exact BK131.out) hb)
         have n3_:=Aside0.mk (blk_below (g:=gb157) (o:=.cells #[.string t152,.int .i64 t153,.int .i64 t154,.string t155,.bool t156] 25 (0,0)) (by (with_reducible repeat first|apply bN|apply bD|apply bA);exact BK157.out) hb)
         have n4_:=Aside0.mk (blk_below (g:=gb168) (o:=.cells #[.string t163,.int .i64 t164,.int .i64 t165,.string t166,.bool t167] 25 (0,0)) (by (with_reducible repeat first|apply bN|apply bD|apply bA);exact BK168.out) hb)
         have n5_:=Aside0.mk (below_step (by repeat (first | (with_reducible first | exact HB.out | apply below_alloc | apply pw_below_drewN | apply below_drew1 | refine below_set ?_ GE129.out | refine below_set ?_ GE130.out | refine below_set ?_ GE131.out | refine below_set ?_ GE157.out | refine below_set ?_ GE168.out) | exact HB.out)) hb)
         have n6_:=Aside0.mk (hbox)
         have n7_:=Aside0.mk ((by rw [hg];exact (below_size (by repeat (first | (with_reducible first | exact HB.out | apply below_alloc | apply pw_below_drewN | apply below_drew1 | refine below_set ?_ GE129.out | refine below_set ?_ GE130.out | refine below_set ?_ GE131.out | refine below_set ?_ GE157.out | refine below_set ?_ GE168.out) | exact HB.out))) : w.heap.size ≤ gb179))
         have n8_:=Aside0.mk ((by rw [hg];exact (below_size (by repeat (first | (with_reducible first | exact HB.out | apply below_alloc | apply pw_below_drewN | apply below_drew1 | refine below_set ?_ GE129.out | refine below_set ?_ GE130.out | refine below_set ?_ GE131.out | refine below_set ?_ GE157.out | refine below_set ?_ GE168.out) | exact HB.out))) : w.heap.size ≤ gb179))
         have n9_:=Aside0.mk ((by rw [hg];exact Nat.ne_of_lt (blk_lt (g:=gb129) (o:=.cells #[.string a0_0,.int .i64 a0_1,.int .i64 a0_2,.string a0_3,.bool a0_4] 25 (0,0)) (by (with_reducible repeat first|apply bN|apply bD|apply bA);exact BK129.out)) : gb129 ≠ gb179))
         have n10_:=Aside0.mk ((by rw [hg];exact Nat.ne_of_gt (blk_lt (g:=gb129) (o:=.cells #[.string a0_0,.int .i64 a0_1,.int .i64 a0_2,.string a0_3,.bool a0_4] 25 (0,0)) (by (with_reducible repeat first|apply bN|apply bD|apply bA);exact BK129.out)) : gb179 ≠ gb129))
         have n11_:=Aside0.mk ((by rw [hg];exact Nat.ne_of_lt (blk_lt (g:=gb130) (o:=.cells #[.string a1_0,.int .i64 a1_1,.int .i64 a1_2,.string a1_3,.bool a1_4] 25 (0,0)) (by (with_reducible repeat first|apply bN|apply bD|apply bA);exact BK130.out)) : gb130 ≠ gb179))
         have n12_:=Aside0.mk ((by rw [hg];exact Nat.ne_of_gt (blk_lt (g:=gb130) (o:=.cells #[.string a1_0,.int .i64 a1_1,.int .i64 a1_2,.string a1_3,.bool a1_4] 25 (0,0)) (by (with_reducible repeat first|apply bN|apply bD|apply bA);exact BK130.out)) : gb179 ≠ gb130))
         have n13_:=Aside0.mk ((by rw [hg];exact Nat.ne_of_lt (blk_lt (g:=gb131) (o:=.cells #[.string a2_0,.int .i64 a2_1,.int .i64 a2_2,.string a2_3,.bool a2_4] 25 (0,0)) (by (with_reducible repeat first|apply bN|apply bD|apply bA);exact BK131.out)) : gb131 ≠ gb179))
         have n14_:=Aside0.mk ((by rw [hg];exact Nat.ne_of_gt (blk_lt (g:=gb131) (o:=.cells #[.string a2_0,.int .i64 a2_1,.int .i64 a2_2,.string a2_3,.bool a2_4] 25 (0,0)) (by (with_reducible repeat first|apply bN|apply bD|apply bA);exact BK131.out)) : gb179 ≠ gb131))
         have n15_:=Aside0.mk ((by rw [hg];exact Nat.ne_of_lt (blk_lt (g:=gb157) (o:=.cells #[.string t152,.int .i64 t153,.int .i64 t154,.string t155,.bool t156] 25 (0,0)) (by (with_reducible repeat first|apply bN|apply bD|apply bA);exact BK157.out)) : gb157 ≠ gb179))
         have n16_:=Aside0.mk ((by rw [hg];exact Nat.ne_of_gt (blk_lt (g:=gb157) (o:=.cells #[.string t152,.int .i64 t153,.int .i64 t154,.string t155,.bool t156] 25 (0,0)) (by (with_reducible repeat first|apply bN|apply bD|apply bA);exact BK157.out)) : gb179 ≠ gb157))
         have n17_:=Aside0.mk ((by rw [hg];exact Nat.ne_of_lt (blk_lt (g:=gb168) (o:=.cells #[.string t163,.int .i64 t164,.int .i64 t165,.string t166,.bool t167] 25 (0,0)) (by (with_reducible repeat first|apply bN|apply bD|apply bA);exact BK168.out)) : gb168 ≠ gb179))
         have n18_:=Aside0.mk ((by rw [hg];exact Nat.ne_of_gt (blk_lt (g:=gb168) (o:=.cells #[.string t163,.int .i64 t164,.int .i64 t165,.string t166,.bool t167] 25 (0,0)) (by (with_reducible repeat first|apply bN|apply bD|apply bA);exact BK168.out)) : gb179 ≠ gb168))
         clear BK129 BK130 BK131 BK157 BK168 HB
         have BK129:=n0_
         have BK130:=n1_
         have BK131:=n2_
         have BK157:=n3_
         have BK168:=n4_
         have HB:=n5_
         have BK179:=n6_
         have GW179:=n7_
         have GE179:=n8_
         have NB129_179:=n9_
         have NB179_129:=n10_
         have NB130_179:=n11_
         have NB179_130:=n12_
         have NB131_179:=n13_
         have NB179_131:=n14_
         have NB157_179:=n15_
         have NB179_157:=n16_
         have NB168_179:=n17_
         have NB179_168:=n18_
         clear n0_ n1_ n2_ n3_ n4_ n5_ n6_ n7_ n8_ n9_ n10_ n11_ n12_ n13_ n14_ n15_ n16_ n17_ n18_
         clear hb hbox hg
         refine hK.out _ _ ⟨(blk_cell BK131.out 0).trans rfl,(blk_cell BK131.out 1).trans rfl,(blk_cell BK131.out 2).trans rfl,(blk_cell BK131.out 3).trans rfl,(blk_cell BK131.out 4).trans rfl,(blk_cell BK130.out 0).trans rfl,(blk_cell BK130.out 1).trans rfl,(blk_cell BK130.out 2).trans rfl,(blk_cell BK130.out 3).trans rfl,(blk_cell BK130.out 4).trans rfl,(blk_cell BK129.out 0).trans rfl,(blk_cell BK129.out 1).trans rfl,(blk_cell BK129.out 2).trans rfl,(blk_cell BK129.out 3).trans rfl,(blk_cell BK129.out 4).trans rfl⟩ (fun hHeld => ?_)
         clear hK K
         refine norm_ (a':=?_) ?_ ?_
         rotate_left
         ·show Act.put _ (some 9) _ = _
          simp only [Act.put,List.setIfInBounds_toArray,List.set_cons_zero,List.set_cons_succ,i64_w,i32_w]
          rfl
         refine one_ (i:=3) (N:=some 49) #[true,true,true,true,false,true,false] rfl rfl (by kernel_rfl) (by decide) (fun K hK => ?_)
         refine goes_ Try.func18 (by kernel_rfl) rfl #[.agg #[.string a1_0,.int .i64 a1_1,.int .i64 a1_2,.string a1_3,.bool a1_4],.agg #[.string a0_0,.int .i64 a0_1,.int .i64 a0_2,.string a0_3,.bool a0_4]] (by rfl) rfl rfl (by (try simp only [List.map_toArray,List.map_cons,List.map_nil]);first | done | rfl | (simp only [List.length_drop,List.length_take];rfl)) ?_
         with_reducible refine (item_Best.calls kj33 a1_0 a1_1 a1_2 a1_3 a1_4 a0_0 a0_1 a0_2 a0_3 a0_4 t169 t170 t171 t172 t173 _ A53.out).mono ?_
         rintro e w80 ⟨rfl,hb⟩
         refine ⟨_,rfl,?_⟩
         replace BK129:=Aside0.mk (blk_below (g:=gb129) (o:=.cells #[.string a0_0,.int .i64 a0_1,.int .i64 a0_2,.string a0_3,.bool a0_4] 25 (0,0)) (by (with_reducible repeat first|apply bN|apply bD|apply bA);exact BK129.out) hb)
         replace BK130:=Aside0.mk (blk_below (g:=gb130) (o:=.cells #[.string a1_0,.int .i64 a1_1,.int .i64 a1_2,.string a1_3,.bool a1_4] 25 (0,0)) (by (with_reducible repeat first|apply bN|apply bD|apply bA);exact BK130.out) hb)
         replace BK131:=Aside0.mk (blk_below (g:=gb131) (o:=.cells #[.string a2_0,.int .i64 a2_1,.int .i64 a2_2,.string a2_3,.bool a2_4] 25 (0,0)) (by (with_reducible repeat first|apply bN|apply bD|apply bA);exact BK131.out) hb)
         replace BK157:=Aside0.mk (blk_below (g:=gb157) (o:=.cells #[.string t152,.int .i64 t153,.int .i64 t154,.string t155,.bool t156] 25 (0,0)) (by (with_reducible repeat first|apply bN|apply bD|apply bA);exact BK157.out) hb)
         replace BK168:=Aside0.mk (blk_below (g:=gb168) (o:=.cells #[.string t163,.int .i64 t164,.int .i64 t165,.string t166,.bool t167] 25 (0,0)) (by (with_reducible repeat first|apply bN|apply bD|apply bA);exact BK168.out) hb)
         replace BK179:=Aside0.mk (blk_below (g:=gb179) (o:=.cells #[.string (⟨#[]⟩ : ByteArray),.int .i64 0,.int .i64 0,.string (⟨#[]⟩ : ByteArray),.bool false] 25 (0,0)) (by (with_reducible repeat first|apply bN|apply bD|apply bA);exact BK179.out) hb)
         replace HB:=Aside0.mk (below_step (by repeat (first | (with_reducible first | exact HB.out | apply below_alloc | apply pw_below_drewN | apply below_drew1 | refine below_set ?_ GE129.out | refine below_set ?_ GE130.out | refine below_set ?_ GE131.out | refine below_set ?_ GE157.out | refine below_set ?_ GE168.out | refine below_set ?_ GE179.out) | exact HB.out)) hb)
         (try clear hb)
         (try clear hb2)
         (try clear hk)
         (try clear hi)
         refine hK.out _ _ ⟨(blk_cell BK131.out 0).trans rfl,(blk_cell BK131.out 1).trans rfl,(blk_cell BK131.out 2).trans rfl,(blk_cell BK131.out 3).trans rfl,(blk_cell BK131.out 4).trans rfl,(blk_cell BK130.out 0).trans rfl,(blk_cell BK130.out 1).trans rfl,(blk_cell BK130.out 2).trans rfl,(blk_cell BK130.out 3).trans rfl,(blk_cell BK130.out 4).trans rfl,(blk_cell BK129.out 0).trans rfl,(blk_cell BK129.out 1).trans rfl,(blk_cell BK129.out 2).trans rfl,(blk_cell BK129.out 3).trans rfl,(blk_cell BK129.out 4).trans rfl⟩ (fun hHeld => ?_)
         clear hK K
         refine norm_ (a':=?_) ?_ ?_
         rotate_left
         ·show Act.put _ (some 49) _ = _
          simp only [Act.put,List.setIfInBounds_toArray,List.set_cons_zero,List.set_cons_succ,i64_w,i32_w]
          rfl
         refine one_ (i:=4) (N:=some 50) #[true,true,true,true,true,true,false] rfl rfl (by kernel_rfl) (by decide) (fun K hK => ?_)
         refine goes_ Try.func18 (by kernel_rfl) rfl #[.agg #[.string a2_0,.int .i64 a2_1,.int .i64 a2_2,.string a2_3,.bool a2_4],.agg #[.string t169,.int .i64 t170,.int .i64 t171,.string t172,.bool t173]] (by rfl) rfl rfl (by (try simp only [List.map_toArray,List.map_cons,List.map_nil]);first | done | rfl | (simp only [List.length_drop,List.length_take];rfl)) ?_
         with_reducible refine (item_Best.calls kj33 a2_0 a2_1 a2_2 a2_3 a2_4 t169 t170 t171 t172 t173 t174 t175 t176 t177 t178 _ A54.out).mono ?_
         rintro e w81 ⟨rfl,hb⟩
         refine ⟨_,rfl,?_⟩
         replace BK129:=Aside0.mk (blk_below (g:=gb129) (o:=.cells #[.string a0_0,.int .i64 a0_1,.int .i64 a0_2,.string a0_3,.bool a0_4] 25 (0,0)) (by (with_reducible repeat first|apply bN|apply bD|apply bA);exact BK129.out) hb)
         replace BK130:=Aside0.mk (blk_below (g:=gb130) (o:=.cells #[.string a1_0,.int .i64 a1_1,.int .i64 a1_2,.string a1_3,.bool a1_4] 25 (0,0)) (by (with_reducible repeat first|apply bN|apply bD|apply bA);exact BK130.out) hb)
         replace BK131:=Aside0.mk (blk_below (g:=gb131) (o:=.cells #[.string a2_0,.int .i64 a2_1,.int .i64 a2_2,.string a2_3,.bool a2_4] 25 (0,0)) (by (with_reducible repeat first|apply bN|apply bD|apply bA);exact BK131.out) hb)
         replace BK157:=Aside0.mk (blk_below (g:=gb157) (o:=.cells #[.string t152,.int .i64 t153,.int .i64 t154,.string t155,.bool t156] 25 (0,0)) (by (with_reducible repeat first|apply bN|apply bD|apply bA);exact BK157.out) hb)
         replace BK168:=Aside0.mk (blk_below (g:=gb168) (o:=.cells #[.string t163,.int .i64 t164,.int .i64 t165,.string t166,.bool t167] 25 (0,0)) (by (with_reducible repeat first|apply bN|apply bD|apply bA);exact BK168.out) hb)
         replace BK179:=Aside0.mk (blk_below (g:=gb179) (o:=.cells #[.string (⟨#[]⟩ : ByteArray),.int .i64 0,.int .i64 0,.string (⟨#[]⟩ : ByteArray),.bool false] 25 (0,0)) (by (with_reducible repeat first|apply bN|apply bD|apply bA);exact BK179.out) hb)
         replace HB:=Aside0.mk (below_step (by repeat (first | (with_reducible first | exact HB.out | apply below_alloc | apply pw_below_drewN | apply below_drew1 | refine below_set ?_ GE129.out | refine below_set ?_ GE130.out | refine below_set ?_ GE131.out | refine below_set ?_ GE157.out | refine below_set ?_ GE168.out | refine below_set ?_ GE179.out) | exact HB.out)) hb)
         (try clear hb)
         (try clear hb2)
         (try clear hk)
         (try clear hi)
         refine hK.out _ _ ⟨(blk_cell BK131.out 0).trans rfl,(blk_cell BK131.out 1).trans rfl,(blk_cell BK131.out 2).trans rfl,(blk_cell BK131.out 3).trans rfl,(blk_cell BK131.out 4).trans rfl,(blk_cell BK130.out 0).trans rfl,(blk_cell BK130.out 1).trans rfl,(blk_cell BK130.out 2).trans rfl,(blk_cell BK130.out 3).trans rfl,(blk_cell BK130.out 4).trans rfl,(blk_cell BK129.out 0).trans rfl,(blk_cell BK129.out 1).trans rfl,(blk_cell BK129.out 2).trans rfl,(blk_cell BK129.out 3).trans rfl,(blk_cell BK129.out 4).trans rfl⟩ (fun hHeld => ?_)
         clear hK K
         refine norm_ (a':=?_) ?_ ?_
         rotate_left
         ·show Act.put _ (some 50) _ = _
          simp only [Act.put,List.setIfInBounds_toArray,List.set_cons_zero,List.set_cons_succ,i64_w,i32_w]
          rfl
         exact norm_ (by simp only [putAll,Act.put,List.setIfInBounds_toArray,List.set_cons_zero,List.set_cons_succ]) (hCont (gb179) _ ⟨hHeld,(by (with_reducible repeat first|apply bN|apply bD|apply bA);exact BK129.out),(by (with_reducible repeat first|apply bN|apply bD|apply bA);exact BK130.out),(by (with_reducible repeat first|apply bN|apply bD|apply bA);exact BK131.out),(by (with_reducible repeat first|apply bN|apply bD|apply bA);exact BK157.out),(by (with_reducible repeat first|apply bN|apply bD|apply bA);exact BK168.out),(by (with_reducible repeat first|apply bN|apply bD|apply bA);exact BK179.out),GW179.out,GE179.out,NB129_179.out,NB179_129.out,NB130_179.out,NB179_130.out,NB131_179.out,NB179_131.out,NB157_179.out,NB179_157.out,NB168_179.out,NB179_168.out,(by repeat (first | (with_reducible first | exact HB.out | apply below_alloc | apply pw_below_drewN | apply below_drew1 | refine below_set ?_ GE129.out | refine below_set ?_ GE130.out | refine below_set ?_ GE131.out | refine below_set ?_ GE157.out | refine below_set ?_ GE168.out | refine below_set ?_ GE179.out) | exact HB.out))⟩)
       rintro gb179 w82 ⟨hS_,h0_,h1_,h2_,h3_,h4_,h5_,h6_,h7_,h8_,h9_,h10_,h11_,h12_,h13_,h14_,h15_,h16_,h17_,h18_⟩
       have n0_ : Aside0 (w82.heap[gb129]? = some (.cells #[.string a0_0,.int .i64 a0_1,.int .i64 a0_2,.string a0_3,.bool a0_4] 25 (0,0))):=⟨h0_⟩
       have n1_ : Aside0 (w82.heap[gb130]? = some (.cells #[.string a1_0,.int .i64 a1_1,.int .i64 a1_2,.string a1_3,.bool a1_4] 25 (0,0))):=⟨h1_⟩
       have n2_ : Aside0 (w82.heap[gb131]? = some (.cells #[.string a2_0,.int .i64 a2_1,.int .i64 a2_2,.string a2_3,.bool a2_4] 25 (0,0))):=⟨h2_⟩
       have n3_ : Aside0 (w82.heap[gb157]? = some (.cells #[.string t152,.int .i64 t153,.int .i64 t154,.string t155,.bool t156] 25 (0,0))):=⟨h3_⟩
       have n4_ : Aside0 (w82.heap[gb168]? = some (.cells #[.string t163,.int .i64 t164,.int .i64 t165,.string t166,.bool t167] 25 (0,0))):=⟨h4_⟩
       have n5_ : Aside0 (w82.heap[gb179]? = some (.cells #[.string (⟨#[]⟩ : ByteArray),.int .i64 0,.int .i64 0,.string (⟨#[]⟩ : ByteArray),.bool false] 25 (0,0))):=⟨h5_⟩
       have n6_ : Aside0 (w.heap.size ≤ gb179):=⟨h6_⟩
       have n7_ : Aside0 (w.heap.size ≤ gb179):=⟨h7_⟩
       have n8_ : Aside0 (gb129 ≠ gb179):=⟨h8_⟩
       have n9_ : Aside0 (gb179 ≠ gb129):=⟨h9_⟩
       have n10_ : Aside0 (gb130 ≠ gb179):=⟨h10_⟩
       have n11_ : Aside0 (gb179 ≠ gb130):=⟨h11_⟩
       have n12_ : Aside0 (gb131 ≠ gb179):=⟨h12_⟩
       have n13_ : Aside0 (gb179 ≠ gb131):=⟨h13_⟩
       have n14_ : Aside0 (gb157 ≠ gb179):=⟨h14_⟩
       have n15_ : Aside0 (gb179 ≠ gb157):=⟨h15_⟩
       have n16_ : Aside0 (gb168 ≠ gb179):=⟨h16_⟩
       have n17_ : Aside0 (gb179 ≠ gb168):=⟨h17_⟩
       have n18_ : Aside0 (Below w.heap.size w w82):=⟨h18_⟩
       clear BK129 BK130 BK131 BK157 BK168 HB
       clear h0_ h1_ h2_ h3_ h4_ h5_ h6_ h7_ h8_ h9_ h10_ h11_ h12_ h13_ h14_ h15_ h16_ h17_ h18_
       have BK129:=n0_
       have BK130:=n1_
       have BK131:=n2_
       have BK157:=n3_
       have BK168:=n4_
       have BK179:=n5_
       have GW179:=n6_
       have GE179:=n7_
       have NB129_179:=n8_
       have NB179_129:=n9_
       have NB130_179:=n10_
       have NB179_130:=n11_
       have NB131_179:=n12_
       have NB179_131:=n13_
       have NB157_179:=n14_
       have NB179_157:=n15_
       have NB168_179:=n16_
       have NB179_168:=n17_
       have HB:=n18_
       clear n0_ n1_ n2_ n3_ n4_ n5_ n6_ n7_ n8_ n9_ n10_ n11_ n12_ n13_ n14_ n15_ n16_ n17_ n18_
       have hHeld : w82.cell? ⟨gb131,0,none⟩ = some (.string a2_0) ∧ w82.cell? ⟨gb131,1,none⟩ = some (.int .i64 a2_1) ∧ w82.cell? ⟨gb131,2,none⟩ = some (.int .i64 a2_2) ∧ w82.cell? ⟨gb131,3,none⟩ = some (.string a2_3) ∧ w82.cell? ⟨gb131,4,none⟩ = some (.bool a2_4) ∧ w82.cell? ⟨gb130,0,none⟩ = some (.string a1_0) ∧ w82.cell? ⟨gb130,1,none⟩ = some (.int .i64 a1_1) ∧ w82.cell? ⟨gb130,2,none⟩ = some (.int .i64 a1_2) ∧ w82.cell? ⟨gb130,3,none⟩ = some (.string a1_3) ∧ w82.cell? ⟨gb130,4,none⟩ = some (.bool a1_4) ∧ w82.cell? ⟨gb129,0,none⟩ = some (.string a0_0) ∧ w82.cell? ⟨gb129,1,none⟩ = some (.int .i64 a0_1) ∧ w82.cell? ⟨gb129,2,none⟩ = some (.int .i64 a0_2) ∧ w82.cell? ⟨gb129,3,none⟩ = some (.string a0_3) ∧ w82.cell? ⟨gb129,4,none⟩ = some (.bool a0_4):=hS_
       refine norm_ (a':=?_) ?_ ?_
       rotate_left
       ·simp only [putAll,Act.put,List.setIfInBounds_toArray,List.set_cons_zero,List.set_cons_succ]
        rfl
       refine one_ (i:=6) (N:=none) #[true,true,true,true,true,true,true] rfl rfl (by kernel_rfl) (by decide) (fun K hK => ?_)
       have hs83 : w82.cell? ⟨gb179,0,none⟩ = some (.string (⟨#[]⟩ : ByteArray)):=(blk_cell BK179.out 0).trans rfl
       have hfs83:=blk_frozen BK179.out 0
       have hns83_0:=NB129_179.out
       have hns83_1:=NB130_179.out
       have hns83_2:=NB131_179.out
       have hns83_3:=NB157_179.out
       have hns83_4:=NB168_179.out
       have hms83_0:=NB179_129.out
       have hms83_1:=NB179_130.out
       have hms83_2:=NB179_131.out
       have hms83_3:=NB179_157.out
       have hms83_4:=NB179_168.out
       have hs84 : w82.cell? ⟨gb179,1,none⟩ = some (.int .i64 0):=(blk_cell BK179.out 1).trans rfl
       have hfs84:=blk_frozen BK179.out 1
       have hns84_0:=NB129_179.out
       have hns84_1:=NB130_179.out
       have hns84_2:=NB131_179.out
       have hns84_3:=NB157_179.out
       have hns84_4:=NB168_179.out
       have hms84_0:=NB179_129.out
       have hms84_1:=NB179_130.out
       have hms84_2:=NB179_131.out
       have hms84_3:=NB179_157.out
       have hms84_4:=NB179_168.out
       have hs85 : w82.cell? ⟨gb179,2,none⟩ = some (.int .i64 0):=(blk_cell BK179.out 2).trans rfl
       have hfs85:=blk_frozen BK179.out 2
       have hns85_0:=NB129_179.out
       have hns85_1:=NB130_179.out
       have hns85_2:=NB131_179.out
       have hns85_3:=NB157_179.out
       have hns85_4:=NB168_179.out
       have hms85_0:=NB179_129.out
       have hms85_1:=NB179_130.out
       have hms85_2:=NB179_131.out
       have hms85_3:=NB179_157.out
       have hms85_4:=NB179_168.out
       have hs86 : w82.cell? ⟨gb179,3,none⟩ = some (.string (⟨#[]⟩ : ByteArray)):=(blk_cell BK179.out 3).trans rfl
       have hfs86:=blk_frozen BK179.out 3
       have hns86_0:=NB129_179.out
       have hns86_1:=NB130_179.out
       have hns86_2:=NB131_179.out
       have hns86_3:=NB157_179.out
       have hns86_4:=NB168_179.out
       have hms86_0:=NB179_129.out
       have hms86_1:=NB179_130.out
       have hms86_2:=NB179_131.out
       have hms86_3:=NB179_157.out
       have hms86_4:=NB179_168.out
       have hs87 : w82.cell? ⟨gb179,4,none⟩ = some (.bool false):=(blk_cell BK179.out 4).trans rfl
       have hfs87:=blk_frozen BK179.out 4
       have hns87_0:=NB129_179.out
       have hns87_1:=NB130_179.out
       have hns87_2:=NB131_179.out
       have hns87_3:=NB157_179.out
       have hns87_4:=NB168_179.out
       have hms87_0:=NB179_129.out
       have hms87_1:=NB179_130.out
       have hms87_2:=NB179_131.out
       have hms87_3:=NB179_157.out
       have hms87_4:=NB179_168.out
       refine skip_ (w1:=?_) (by rfl) rfl ?_ ?_
       rotate_left
       ·go_simp
        rfl
       refine hK.out _ _ ⟨((cell_far (p:=⟨gb179,_,none⟩) NB131_179.out _).trans (((cell_far (p:=⟨gb179,_,none⟩) NB131_179.out _).trans (((cell_far (p:=⟨gb179,_,none⟩) NB131_179.out _).trans (((cell_far (p:=⟨gb179,_,none⟩) NB131_179.out _).trans (((cell_far (p:=⟨gb179,_,none⟩) NB131_179.out _).trans (hHeld.1)))))))))),((cell_far (p:=⟨gb179,_,none⟩) NB131_179.out _).trans (((cell_far (p:=⟨gb179,_,none⟩) NB131_179.out _).trans (((cell_far (p:=⟨gb179,_,none⟩) NB131_179.out _).trans (((cell_far (p:=⟨gb179,_,none⟩) NB131_179.out _).trans (((cell_far (p:=⟨gb179,_,none⟩) NB131_179.out _).trans (hHeld.2.1)))))))))),((cell_far (p:=⟨gb179,_,none⟩) NB131_179.out _).trans (((cell_far (p:=⟨gb179,_,none⟩) NB131_179.out _).trans (((cell_far (p:=⟨gb179,_,none⟩) NB131_179.out _).trans (((cell_far (p:=⟨gb179,_,none⟩) NB131_179.out _).trans (((cell_far (p:=⟨gb179,_,none⟩) NB131_179.out _).trans (hHeld.2.2.1)))))))))),((cell_far (p:=⟨gb179,_,none⟩) NB131_179.out _).trans (((cell_far (p:=⟨gb179,_,none⟩) NB131_179.out _).trans (((cell_far (p:=⟨gb179,_,none⟩) NB131_179.out _).trans (((cell_far (p:=⟨gb179,_,none⟩) NB131_179.out _).trans (((cell_far (p:=⟨gb179,_,none⟩) NB131_179.out _).trans (hHeld.2.2.2.1)))))))))),((cell_far (p:=⟨gb179,_,none⟩) NB131_179.out _).trans (((cell_far (p:=⟨gb179,_,none⟩) NB131_179.out _).trans (((cell_far (p:=⟨gb179,_,none⟩) NB131_179.out _).trans (((cell_far (p:=⟨gb179,_,none⟩) NB131_179.out _).trans (((cell_far (p:=⟨gb179,_,none⟩) NB131_179.out _).trans (hHeld.2.2.2.2.1)))))))))),((cell_far (p:=⟨gb179,_,none⟩) NB130_179.out _).trans (((cell_far (p:=⟨gb179,_,none⟩) NB130_179.out _).trans (((cell_far (p:=⟨gb179,_,none⟩) NB130_179.out _).trans (((cell_far (p:=⟨gb179,_,none⟩) NB130_179.out _).trans (((cell_far (p:=⟨gb179,_,none⟩) NB130_179.out _).trans (hHeld.2.2.2.2.2.1)))))))))),((cell_far (p:=⟨gb179,_,none⟩) NB130_179.out _).trans (((cell_far (p:=⟨gb179,_,none⟩) NB130_179.out _).trans (((cell_far (p:=⟨gb179,_,none⟩) NB130_179.out _).trans (((cell_far (p:=⟨gb179,_,none⟩) NB130_179.out _).trans (((cell_far (p:=⟨gb179,_,none⟩) NB130_179.out _).trans (hHeld.2.2.2.2.2.2.1)))))))))),((cell_far (p:=⟨gb179,_,none⟩) NB130_179.out _).trans (((cell_far (p:=⟨gb179,_,none⟩) NB130_179.out _).trans (((cell_far (p:=⟨gb179,_,none⟩) NB130_179.out _).trans (((cell_far (p:=⟨gb179,_,none⟩) NB130_179.out _).trans (((cell_far (p:=⟨gb179,_,none⟩) NB130_179.out _).trans (hHeld.2.2.2.2.2.2.2.1)))))))))),((cell_far (p:=⟨gb179,_,none⟩) NB130_179.out _).trans (((cell_far (p:=⟨gb179,_,none⟩) NB130_179.out _).trans (((cell_far (p:=⟨gb179,_,none⟩) NB130_179.out _).trans (((cell_far (p:=⟨gb179,_,none⟩) NB130_179.out _).trans (((cell_far (p:=⟨gb179,_,none⟩) NB130_179.out _).trans (hHeld.2.2.2.2.2.2.2.2.1)))))))))),((cell_far (p:=⟨gb179,_,none⟩) NB130_179.out _).trans (((cell_far (p:=⟨gb179,_,none⟩) NB130_179.out _).trans (((cell_far (p:=⟨gb179,_,none⟩) NB130_179.out _).trans (((cell_far (p:=⟨gb179,_,none⟩) NB130_179.out _).trans (((cell_far (p:=⟨gb179,_,none⟩) NB130_179.out _).trans (hHeld.2.2.2.2.2.2.2.2.2.1)))))))))),((cell_far (p:=⟨gb179,_,none⟩) NB129_179.out _).trans (((cell_far (p:=⟨gb179,_,none⟩) NB129_179.out _).trans (((cell_far (p:=⟨gb179,_,none⟩) NB129_179.out _).trans (((cell_far (p:=⟨gb179,_,none⟩) NB129_179.out _).trans (((cell_far (p:=⟨gb179,_,none⟩) NB129_179.out _).trans (hHeld.2.2.2.2.2.2.2.2.2.2.1)))))))))),((cell_far (p:=⟨gb179,_,none⟩) NB129_179.out _).trans (((cell_far (p:=⟨gb179,_,none⟩) NB129_179.out _).trans (((cell_far (p:=⟨gb179,_,none⟩) NB129_179.out _).trans (((cell_far (p:=⟨gb179,_,none⟩) NB129_179.out _).trans (((cell_far (p:=⟨gb179,_,none⟩) NB129_179.out _).trans (hHeld.2.2.2.2.2.2.2.2.2.2.2.1)))))))))),((cell_far (p:=⟨gb179,_,none⟩) NB129_179.out _).trans (((cell_far (p:=⟨gb179,_,none⟩) NB129_179.out _).trans (((cell_far (p:=⟨gb179,_,none⟩) NB129_179.out _).trans (((cell_far (p:=⟨gb179,_,none⟩) NB129_179.out _).trans (((cell_far (p:=⟨gb179,_,none⟩) NB129_179.out _).trans (hHeld.2.2.2.2.2.2.2.2.2.2.2.2.1)))))))))),((cell_far (p:=⟨gb179,_,none⟩) NB129_179.out _).trans (((cell_far (p:=⟨gb179,_,none⟩) NB129_179.out _).trans (((cell_far (p:=⟨gb179,_,none⟩) NB129_179.out _).trans (((cell_far (p:=⟨gb179,_,none⟩) NB129_179.out _).trans (((cell_far (p:=⟨gb179,_,none⟩) NB129_179.out _).trans (hHeld.2.2.2.2.2.2.2.2.2.2.2.2.2.1)))))))))),((cell_far (p:=⟨gb179,_,none⟩) NB129_179.out _).trans (((cell_far (p:=⟨gb179,_,none⟩) NB129_179.out _).trans (((cell_far (p:=⟨gb179,_,none⟩) NB129_179.out _).trans (((cell_far (p:=⟨gb179,_,none⟩) NB129_179.out _).trans (((cell_far (p:=⟨gb179,_,none⟩) NB129_179.out _).trans (hHeld.2.2.2.2.2.2.2.2.2.2.2.2.2.2))))))))))⟩ (fun hHeld => ?_)
       clear hK K
       refine done_ (by kernel_rfl) ?_
       go_upto_region 8 with (fail)
       go_cut [69] (fun v69 wc => ∃ (kq : Nat) (x69_54 : Bool),v69 = .bool x69_54 ∧ Aside0 (tidelinelaw03_ItemBest.j2 kq x69_54 a0_0 a0_1 a0_2 a0_3 a0_4 a1_0 a1_1 a1_2 a1_3 a1_4 a2_0 a2_1 a2_2 a2_3 a2_4 t152 t153 t154 t155 t156 t163 t164 t165 t166 t167 t174 t175 t176 t177 t178 = some r) ∧ Aside0 (kq ≤ kj33) ∧ Aside0 (wc.heap[gb129]? = some (.cells #[.string a0_0,.int .i64 a0_1,.int .i64 a0_2,.string a0_3,.bool a0_4] 25 (0,0))) ∧ Aside0 (wc.heap[gb130]? = some (.cells #[.string a1_0,.int .i64 a1_1,.int .i64 a1_2,.string a1_3,.bool a1_4] 25 (0,0))) ∧ Aside0 (wc.heap[gb131]? = some (.cells #[.string a2_0,.int .i64 a2_1,.int .i64 a2_2,.string a2_3,.bool a2_4] 25 (0,0))) ∧ Aside0 (wc.heap[gb157]? = some (.cells #[.string t152,.int .i64 t153,.int .i64 t154,.string t155,.bool t156] 25 (0,0))) ∧ Aside0 (wc.heap[gb168]? = some (.cells #[.string t163,.int .i64 t164,.int .i64 t165,.string t166,.bool t167] 25 (0,0))) ∧ Aside0 (wc.heap[gb179]? = some (.cells #[.string t174,.int .i64 t175,.int .i64 t176,.string t177,.bool t178] 25 (0,0))) ∧ Aside0 (Below w.heap.size w wc))
       case first =>
        have H:=HC55.out
        clear HC55
        by_cases c88 : (a0_1 == a1_1 && (a0_2 == a1_2)) = true
        ·rw [if_pos c88] at H
         have c88b0 : (a0_1 == a1_1 && (a0_2 == a1_2)) = true:=c88
         (try (have c88b1 : decide (a0_1 = a1_1 && (a0_2 == a1_2)) = true:=by simpa using c88))
         (try (have c88b2 : (a0_1 == a1_1 && (a0_2 == a1_2)) = true:=by simpa using c88))
         clear c88
         (first | rw [c88b0] | (simp only [i64_w,i32_w];rw [c88b0]) | skip)
         have H':=Aside0.mk H
         clear H
         have hnb89:=NB129_130.out
         have hnc89:=NB130_129.out
         have hnb90:=NB129_131.out
         have hnc90:=NB131_129.out
         have hnb91:=NB129_157.out
         have hnc91:=NB157_129.out
         have hnb92:=NB129_168.out
         have hnc92:=NB168_129.out
         have hnb93:=NB129_179.out
         have hnc93:=NB179_129.out
         have hcz94_0 : w82.cell? ⟨gb129,0,none⟩ = some (.string a0_0):=(blk_cell BK129.out 0).trans rfl
         have hcz94_1 : w82.cell? ⟨gb129,1,none⟩ = some (.int .i64 a0_1):=(blk_cell BK129.out 1).trans rfl
         have hcz94_2 : w82.cell? ⟨gb129,2,none⟩ = some (.int .i64 a0_2):=(blk_cell BK129.out 2).trans rfl
         have hcz94_3 : w82.cell? ⟨gb129,3,none⟩ = some (.string a0_3):=(blk_cell BK129.out 3).trans rfl
         have hcz94_4 : w82.cell? ⟨gb129,4,none⟩ = some (.bool a0_4):=(blk_cell BK129.out 4).trans rfl
         have hfz94_0:=blk_frozen BK129.out 0
         have hfz94_1:=blk_frozen BK129.out 1
         have hfz94_2:=blk_frozen BK129.out 2
         have hfz94_3:=blk_frozen BK129.out 3
         have hfz94_4:=blk_frozen BK129.out 4
         have hnb95:=NB130_131.out
         have hnc95:=NB131_130.out
         have hnb96:=NB130_157.out
         have hnc96:=NB157_130.out
         have hnb97:=NB130_168.out
         have hnc97:=NB168_130.out
         have hnb98:=NB130_179.out
         have hnc98:=NB179_130.out
         have hcz99_0 : w82.cell? ⟨gb130,0,none⟩ = some (.string a1_0):=(blk_cell BK130.out 0).trans rfl
         have hcz99_1 : w82.cell? ⟨gb130,1,none⟩ = some (.int .i64 a1_1):=(blk_cell BK130.out 1).trans rfl
         have hcz99_2 : w82.cell? ⟨gb130,2,none⟩ = some (.int .i64 a1_2):=(blk_cell BK130.out 2).trans rfl
         have hcz99_3 : w82.cell? ⟨gb130,3,none⟩ = some (.string a1_3):=(blk_cell BK130.out 3).trans rfl
         have hcz99_4 : w82.cell? ⟨gb130,4,none⟩ = some (.bool a1_4):=(blk_cell BK130.out 4).trans rfl
         have hfz99_0:=blk_frozen BK130.out 0
         have hfz99_1:=blk_frozen BK130.out 1
         have hfz99_2:=blk_frozen BK130.out 2
         have hfz99_3:=blk_frozen BK130.out 3
         have hfz99_4:=blk_frozen BK130.out 4
         go_wp2
         go_meet
         case rel => exact ⟨_,(true),(by first | rfl | (simp;done) | (simp [*];done) | (simp [*,Go.Proofs.Ythalodnfecaccaa.Str.bne_nil];done)),H',⟨by have:=HJ3.out;have:=HJ33.out;first | omega | exact Nat.le_refl _⟩,⟨by (with_reducible repeat (first|apply bN|apply bD|apply bA | refine blk_far ?_ NB129_179.out _));exact BK129.out⟩,⟨by (with_reducible repeat (first|apply bN|apply bD|apply bA | refine blk_far ?_ NB130_179.out _));exact BK130.out⟩,⟨by (with_reducible repeat (first|apply bN|apply bD|apply bA | refine blk_far ?_ NB131_179.out _));exact BK131.out⟩,⟨by (with_reducible repeat (first|apply bN|apply bD|apply bA | refine blk_far ?_ NB157_179.out _));exact BK157.out⟩,⟨by (with_reducible repeat (first|apply bN|apply bD|apply bA | refine blk_far ?_ NB168_179.out _));exact BK168.out⟩,⟨by (with_reducible repeat first|apply bN|apply bD|apply bA);refine blk_put (cs:=#[.string t174,.int .i64 t175,.int .i64 t176,.string t177,.bool false]) ?_ 4 _ rfl;(with_reducible repeat first|apply bN|apply bD|apply bA);refine blk_put (cs:=#[.string t174,.int .i64 t175,.int .i64 t176,.string (⟨#[]⟩ : ByteArray),.bool false]) ?_ 3 _ rfl;(with_reducible repeat first|apply bN|apply bD|apply bA);refine blk_put (cs:=#[.string t174,.int .i64 t175,.int .i64 0,.string (⟨#[]⟩ : ByteArray),.bool false]) ?_ 2 _ rfl;(with_reducible repeat first|apply bN|apply bD|apply bA);refine blk_put (cs:=#[.string t174,.int .i64 0,.int .i64 0,.string (⟨#[]⟩ : ByteArray),.bool false]) ?_ 1 _ rfl;(with_reducible repeat first|apply bN|apply bD|apply bA);refine blk_put (cs:=#[.string (⟨#[]⟩ : ByteArray),.int .i64 0,.int .i64 0,.string (⟨#[]⟩ : ByteArray),.bool false]) ?_ 0 _ rfl;(with_reducible repeat first|apply bN|apply bD|apply bA);exact BK179.out⟩,⟨by repeat (first | (with_reducible first | exact HB.out | apply below_alloc | apply pw_below_drewN | apply below_drew1 | refine below_set ?_ GE129.out | refine below_set ?_ GE130.out | refine below_set ?_ GE131.out | refine below_set ?_ GE157.out | refine below_set ?_ GE168.out | refine below_set ?_ GE179.out) | exact HB.out)⟩⟩
        ·rw [if_neg c88] at H
         have c88b0 : (a0_1 == a1_1 && (a0_2 == a1_2)) = false:=by simpa using c88
         (try (have c88b1 : decide (a0_1 = a1_1 && (a0_2 == a1_2)) = false:=by simpa using c88))
         (try (have c88b2 : (a0_1 == a1_1 && (a0_2 == a1_2)) = false:=by simpa using c88))
         (try (have c88b3 : ¬ (a0_1 = a1_1 && (a0_2 == a1_2)):=by simpa using c88))
         clear c88
         (first | rw [c88b0] | (simp only [i64_w,i32_w];rw [c88b0]) | skip)
         by_cases c100 : (a1_1 == a2_1 && (a1_2 == a2_2)) = true
         ·rw [if_pos c100] at H
          have c100b0 : (a1_1 == a2_1 && (a1_2 == a2_2)) = true:=c100
          (try (have c100b1 : decide (a1_1 = a2_1 && (a1_2 == a2_2)) = true:=by simpa using c100))
          (try (have c100b2 : (a1_1 == a2_1 && (a1_2 == a2_2)) = true:=by simpa using c100))
          clear c100
          have H':=Aside0.mk H
          clear H
          have hnb101:=NB129_130.out
          have hnc101:=NB130_129.out
          have hnb102:=NB129_131.out
          have hnc102:=NB131_129.out
          have hnb103:=NB129_157.out
          have hnc103:=NB157_129.out
          have hnb104:=NB129_168.out
          have hnc104:=NB168_129.out
          have hnb105:=NB129_179.out
          have hnc105:=NB179_129.out
          have hcz106_0 : w82.cell? ⟨gb129,0,none⟩ = some (.string a0_0):=(blk_cell BK129.out 0).trans rfl
          have hcz106_1 : w82.cell? ⟨gb129,1,none⟩ = some (.int .i64 a0_1):=(blk_cell BK129.out 1).trans rfl
          have hcz106_2 : w82.cell? ⟨gb129,2,none⟩ = some (.int .i64 a0_2):=(blk_cell BK129.out 2).trans rfl
          have hcz106_3 : w82.cell? ⟨gb129,3,none⟩ = some (.string a0_3):=(blk_cell BK129.out 3).trans rfl
          have hcz106_4 : w82.cell? ⟨gb129,4,none⟩ = some (.bool a0_4):=(blk_cell BK129.out 4).trans rfl
          have hfz106_0:=blk_frozen BK129.out 0
          have hfz106_1:=blk_frozen BK129.out 1
          have hfz106_2:=blk_frozen BK129.out 2
          have hfz106_3:=blk_frozen BK129.out 3
          have hfz106_4:=blk_frozen BK129.out 4
          have hnb107:=NB130_131.out
          have hnc107:=NB131_130.out
          have hnb108:=NB130_157.out
          have hnc108:=NB157_130.out
          have hnb109:=NB130_168.out
          have hnc109:=NB168_130.out
          have hnb110:=NB130_179.out
          have hnc110:=NB179_130.out
          have hcz111_0 : w82.cell? ⟨gb130,0,none⟩ = some (.string a1_0):=(blk_cell BK130.out 0).trans rfl
          have hcz111_1 : w82.cell? ⟨gb130,1,none⟩ = some (.int .i64 a1_1):=(blk_cell BK130.out 1).trans rfl
          have hcz111_2 : w82.cell? ⟨gb130,2,none⟩ = some (.int .i64 a1_2):=(blk_cell BK130.out 2).trans rfl
          have hcz111_3 : w82.cell? ⟨gb130,3,none⟩ = some (.string a1_3):=(blk_cell BK130.out 3).trans rfl
          have hcz111_4 : w82.cell? ⟨gb130,4,none⟩ = some (.bool a1_4):=(blk_cell BK130.out 4).trans rfl
          have hfz111_0:=blk_frozen BK130.out 0
          have hfz111_1:=blk_frozen BK130.out 1
          have hfz111_2:=blk_frozen BK130.out 2
          have hfz111_3:=blk_frozen BK130.out 3
          have hfz111_4:=blk_frozen BK130.out 4
          have hnb112:=NB131_157.out
          have hnc112:=NB157_131.out
          have hnb113:=NB131_168.out
          have hnc113:=NB168_131.out
          have hnb114:=NB131_179.out
          have hnc114:=NB179_131.out
          have hcz115_0 : w82.cell? ⟨gb131,0,none⟩ = some (.string a2_0):=(blk_cell BK131.out 0).trans rfl
          have hcz115_1 : w82.cell? ⟨gb131,1,none⟩ = some (.int .i64 a2_1):=(blk_cell BK131.out 1).trans rfl
          have hcz115_2 : w82.cell? ⟨gb131,2,none⟩ = some (.int .i64 a2_2):=(blk_cell BK131.out 2).trans rfl
          have hcz115_3 : w82.cell? ⟨gb131,3,none⟩ = some (.string a2_3):=(blk_cell BK131.out 3).trans rfl
          have hcz115_4 : w82.cell? ⟨gb131,4,none⟩ = some (.bool a2_4):=(blk_cell BK131.out 4).trans rfl
          have hfz115_0:=blk_frozen BK131.out 0
          have hfz115_1:=blk_frozen BK131.out 1
          have hfz115_2:=blk_frozen BK131.out 2
          have hfz115_3:=blk_frozen BK131.out 3
          have hfz115_4:=blk_frozen BK131.out 4
          go_wp2
          go_meet
          case rel => exact ⟨_,(true),(by first | rfl | (simp;done) | (simp [*];done) | (simp [*,Go.Proofs.Ythalodnfecaccaa.Str.bne_nil];done)),H',⟨by have:=HJ3.out;have:=HJ33.out;first | omega | exact Nat.le_refl _⟩,⟨by (with_reducible repeat (first|apply bN|apply bD|apply bA | refine blk_far ?_ NB129_179.out _));exact BK129.out⟩,⟨by (with_reducible repeat (first|apply bN|apply bD|apply bA | refine blk_far ?_ NB130_179.out _));exact BK130.out⟩,⟨by (with_reducible repeat (first|apply bN|apply bD|apply bA | refine blk_far ?_ NB131_179.out _));exact BK131.out⟩,⟨by (with_reducible repeat (first|apply bN|apply bD|apply bA | refine blk_far ?_ NB157_179.out _));exact BK157.out⟩,⟨by (with_reducible repeat (first|apply bN|apply bD|apply bA | refine blk_far ?_ NB168_179.out _));exact BK168.out⟩,⟨by (with_reducible repeat first|apply bN|apply bD|apply bA);refine blk_put (cs:=#[.string t174,.int .i64 t175,.int .i64 t176,.string t177,.bool false]) ?_ 4 _ rfl;(with_reducible repeat first|apply bN|apply bD|apply bA);refine blk_put (cs:=#[.string t174,.int .i64 t175,.int .i64 t176,.string (⟨#[]⟩ : ByteArray),.bool false]) ?_ 3 _ rfl;(with_reducible repeat first|apply bN|apply bD|apply bA);refine blk_put (cs:=#[.string t174,.int .i64 t175,.int .i64 0,.string (⟨#[]⟩ : ByteArray),.bool false]) ?_ 2 _ rfl;(with_reducible repeat first|apply bN|apply bD|apply bA);refine blk_put (cs:=#[.string t174,.int .i64 0,.int .i64 0,.string (⟨#[]⟩ : ByteArray),.bool false]) ?_ 1 _ rfl;(with_reducible repeat first|apply bN|apply bD|apply bA);refine blk_put (cs:=#[.string (⟨#[]⟩ : ByteArray),.int .i64 0,.int .i64 0,.string (⟨#[]⟩ : ByteArray),.bool false]) ?_ 0 _ rfl;(with_reducible repeat first|apply bN|apply bD|apply bA);exact BK179.out⟩,⟨by repeat (first | (with_reducible first | exact HB.out | apply below_alloc | apply pw_below_drewN | apply below_drew1 | refine below_set ?_ GE129.out | refine below_set ?_ GE130.out | refine below_set ?_ GE131.out | refine below_set ?_ GE157.out | refine below_set ?_ GE168.out | refine below_set ?_ GE179.out) | exact HB.out)⟩⟩
         ·rw [if_neg c100] at H
          have c100b0 : (a1_1 == a2_1 && (a1_2 == a2_2)) = false:=by simpa using c100
          (try (have c100b1 : decide (a1_1 = a2_1 && (a1_2 == a2_2)) = false:=by simpa using c100))
          (try (have c100b2 : (a1_1 == a2_1 && (a1_2 == a2_2)) = false:=by simpa using c100))
          (try (have c100b3 : ¬ (a1_1 = a2_1 && (a1_2 == a2_2)):=by simpa using c100))
          clear c100
          have H':=Aside0.mk H
          clear H
          have hnb116:=NB129_130.out
          have hnc116:=NB130_129.out
          have hnb117:=NB129_131.out
          have hnc117:=NB131_129.out
          have hnb118:=NB129_157.out
          have hnc118:=NB157_129.out
          have hnb119:=NB129_168.out
          have hnc119:=NB168_129.out
          have hnb120:=NB129_179.out
          have hnc120:=NB179_129.out
          have hcz121_0 : w82.cell? ⟨gb129,0,none⟩ = some (.string a0_0):=(blk_cell BK129.out 0).trans rfl
          have hcz121_1 : w82.cell? ⟨gb129,1,none⟩ = some (.int .i64 a0_1):=(blk_cell BK129.out 1).trans rfl
          have hcz121_2 : w82.cell? ⟨gb129,2,none⟩ = some (.int .i64 a0_2):=(blk_cell BK129.out 2).trans rfl
          have hcz121_3 : w82.cell? ⟨gb129,3,none⟩ = some (.string a0_3):=(blk_cell BK129.out 3).trans rfl
          have hcz121_4 : w82.cell? ⟨gb129,4,none⟩ = some (.bool a0_4):=(blk_cell BK129.out 4).trans rfl
          have hfz121_0:=blk_frozen BK129.out 0
          have hfz121_1:=blk_frozen BK129.out 1
          have hfz121_2:=blk_frozen BK129.out 2
          have hfz121_3:=blk_frozen BK129.out 3
          have hfz121_4:=blk_frozen BK129.out 4
          have hnb122:=NB130_131.out
          have hnc122:=NB131_130.out
          have hnb123:=NB130_157.out
          have hnc123:=NB157_130.out
          have hnb124:=NB130_168.out
          have hnc124:=NB168_130.out
          have hnb125:=NB130_179.out
          have hnc125:=NB179_130.out
          have hcz126_0 : w82.cell? ⟨gb130,0,none⟩ = some (.string a1_0):=(blk_cell BK130.out 0).trans rfl
          have hcz126_1 : w82.cell? ⟨gb130,1,none⟩ = some (.int .i64 a1_1):=(blk_cell BK130.out 1).trans rfl
          have hcz126_2 : w82.cell? ⟨gb130,2,none⟩ = some (.int .i64 a1_2):=(blk_cell BK130.out 2).trans rfl
          have hcz126_3 : w82.cell? ⟨gb130,3,none⟩ = some (.string a1_3):=(blk_cell BK130.out 3).trans rfl
          have hcz126_4 : w82.cell? ⟨gb130,4,none⟩ = some (.bool a1_4):=(blk_cell BK130.out 4).trans rfl
          have hfz126_0:=blk_frozen BK130.out 0
          have hfz126_1:=blk_frozen BK130.out 1
          have hfz126_2:=blk_frozen BK130.out 2
          have hfz126_3:=blk_frozen BK130.out 3
          have hfz126_4:=blk_frozen BK130.out 4
          have hnb127:=NB131_157.out
          have hnc127:=NB157_131.out
          have hnb128:=NB131_168.out
          have hnc128:=NB168_131.out
          have hnb129:=NB131_179.out
          have hnc129:=NB179_131.out
          have hcz130_0 : w82.cell? ⟨gb131,0,none⟩ = some (.string a2_0):=(blk_cell BK131.out 0).trans rfl
          have hcz130_1 : w82.cell? ⟨gb131,1,none⟩ = some (.int .i64 a2_1):=(blk_cell BK131.out 1).trans rfl
          have hcz130_2 : w82.cell? ⟨gb131,2,none⟩ = some (.int .i64 a2_2):=(blk_cell BK131.out 2).trans rfl
          have hcz130_3 : w82.cell? ⟨gb131,3,none⟩ = some (.string a2_3):=(blk_cell BK131.out 3).trans rfl
          have hcz130_4 : w82.cell? ⟨gb131,4,none⟩ = some (.bool a2_4):=(blk_cell BK131.out 4).trans rfl
          have hfz130_0:=blk_frozen BK131.out 0
          have hfz130_1:=blk_frozen BK131.out 1
          have hfz130_2:=blk_frozen BK131.out 2
          have hfz130_3:=blk_frozen BK131.out 3
          have hfz130_4:=blk_frozen BK131.out 4
          go_wp2
          go_meet
          case rel => exact ⟨_,((a0_1 == a2_1 && (a0_2 == a2_2))),(by first | rfl | (simp;done) | (simp [*];done) | (simp [*,Go.Proofs.Ythalodnfecaccaa.Str.bne_nil];done)),H',⟨by have:=HJ3.out;have:=HJ33.out;first | omega | exact Nat.le_refl _⟩,⟨by (with_reducible repeat (first|apply bN|apply bD|apply bA | refine blk_far ?_ NB129_179.out _));exact BK129.out⟩,⟨by (with_reducible repeat (first|apply bN|apply bD|apply bA | refine blk_far ?_ NB130_179.out _));exact BK130.out⟩,⟨by (with_reducible repeat (first|apply bN|apply bD|apply bA | refine blk_far ?_ NB131_179.out _));exact BK131.out⟩,⟨by (with_reducible repeat (first|apply bN|apply bD|apply bA | refine blk_far ?_ NB157_179.out _));exact BK157.out⟩,⟨by (with_reducible repeat (first|apply bN|apply bD|apply bA | refine blk_far ?_ NB168_179.out _));exact BK168.out⟩,⟨by (with_reducible repeat first|apply bN|apply bD|apply bA);refine blk_put (cs:=#[.string t174,.int .i64 t175,.int .i64 t176,.string t177,.bool false]) ?_ 4 _ rfl;(with_reducible repeat first|apply bN|apply bD|apply bA);refine blk_put (cs:=#[.string t174,.int .i64 t175,.int .i64 t176,.string (⟨#[]⟩ : ByteArray),.bool false]) ?_ 3 _ rfl;(with_reducible repeat first|apply bN|apply bD|apply bA);refine blk_put (cs:=#[.string t174,.int .i64 t175,.int .i64 0,.string (⟨#[]⟩ : ByteArray),.bool false]) ?_ 2 _ rfl;(with_reducible repeat first|apply bN|apply bD|apply bA);refine blk_put (cs:=#[.string t174,.int .i64 0,.int .i64 0,.string (⟨#[]⟩ : ByteArray),.bool false]) ?_ 1 _ rfl;(with_reducible repeat first|apply bN|apply bD|apply bA);refine blk_put (cs:=#[.string (⟨#[]⟩ : ByteArray),.int .i64 0,.int .i64 0,.string (⟨#[]⟩ : ByteArray),.bool false]) ?_ 0 _ rfl;(with_reducible repeat first|apply bN|apply bD|apply bA);exact BK179.out⟩,⟨by repeat (first | (with_reducible first | exact HB.out | apply below_alloc | apply pw_below_drewN | apply below_drew1 | refine below_set ?_ GE129.out | refine below_set ?_ GE130.out | refine below_set ?_ GE131.out | refine below_set ?_ GE157.out | refine below_set ?_ GE168.out | refine below_set ?_ GE179.out) | exact HB.out)⟩⟩
       case rest =>
        clear HC55
        try clear c1
        try clear p2
        try clear c8
        try clear c9
        try clear c10
        try clear c11
        try clear c12
        try clear c18
        try clear c88
        try clear c88b0
        try clear c88b1
        try clear c88b2
        try clear c89
        try clear c90
        try clear c91
        try clear c92
        try clear c93
        try clear c95
        try clear c96
        try clear c97
        try clear c98
        try clear c100
        try clear c100b0
        try clear c100b1
        try clear c100b2
        try clear c101
        try clear c102
        try clear c103
        try clear c104
        try clear c105
        try clear c107
        try clear c108
        try clear c109
        try clear c110
        try clear c112
        try clear c113
        try clear c114
        try clear c116
        try clear c117
        try clear c118
        try clear c119
        try clear c120
        try clear c122
        try clear c123
        try clear c124
        try clear c125
        try clear c127
        try clear c128
        try clear c129
        try clear hcz106_0
        try clear hcz106_1
        try clear hcz106_2
        try clear hcz106_3
        try clear hcz106_4
        try clear hcz111_0
        try clear hcz111_1
        try clear hcz111_2
        try clear hcz111_3
        try clear hcz111_4
        try clear hcz115_0
        try clear hcz115_1
        try clear hcz115_2
        try clear hcz115_3
        try clear hcz115_4
        try clear hcz121_0
        try clear hcz121_1
        try clear hcz121_2
        try clear hcz121_3
        try clear hcz121_4
        try clear hcz126_0
        try clear hcz126_1
        try clear hcz126_2
        try clear hcz126_3
        try clear hcz126_4
        try clear hcz130_0
        try clear hcz130_1
        try clear hcz130_2
        try clear hcz130_3
        try clear hcz130_4
        try clear hcz94_0
        try clear hcz94_1
        try clear hcz94_2
        try clear hcz94_3
        try clear hcz94_4
        try clear hcz99_0
        try clear hcz99_1
        try clear hcz99_2
        try clear hcz99_3
        try clear hcz99_4
        try clear hfz106_0
        try clear hfz106_1
        try clear hfz106_2
        try clear hfz106_3
        try clear hfz106_4
        try clear hfz111_0
        try clear hfz111_1
        try clear hfz111_2
        try clear hfz111_3
        try clear hfz111_4
        try clear hfz115_0
        try clear hfz115_1
        try clear hfz115_2
        try clear hfz115_3
        try clear hfz115_4
        try clear hfz121_0
        try clear hfz121_1
        try clear hfz121_2
        try clear hfz121_3
        try clear hfz121_4
        try clear hfz126_0
        try clear hfz126_1
        try clear hfz126_2
        try clear hfz126_3
        try clear hfz126_4
        try clear hfz130_0
        try clear hfz130_1
        try clear hfz130_2
        try clear hfz130_3
        try clear hfz130_4
        try clear hfz94_0
        try clear hfz94_1
        try clear hfz94_2
        try clear hfz94_3
        try clear hfz94_4
        try clear hfz99_0
        try clear hfz99_1
        try clear hfz99_2
        try clear hfz99_3
        try clear hfz99_4
        obtain ⟨kq,x69_54,rfl,HA,HJ54,BK129,BK130,BK131,BK157,BK168,BK179,HB⟩:=hcut
        cases kq with
        | zero => exact absurd HA.out (by simp [tidelinelaw03_ItemBest.j2])
        | succ kj54 =>
         have H:=HA.out
         clear HA
         simp only [tidelinelaw03_ItemBest.j2] at H
         by_cases c131 : x69_54 = true
         ·subst c131
          have H1 : (some (t152.toList == t163.toList && ((t153 == t164 && (t154 == t165)) && (t155.toList == t166.toList && (t156 == t167))))) = some r:=by rw [if_pos rfl] at H;exact H
          clear H
          have H:=H1
          clear H1
          obtain rfl:=Option.some.inj H
          have hnb132:=NB157_129.out
          have hnc132:=NB129_157.out
          have hnb133:=NB157_130.out
          have hnc133:=NB130_157.out
          have hnb134:=NB157_131.out
          have hnc134:=NB131_157.out
          have hnb135:=NB157_168.out
          have hnc135:=NB168_157.out
          have hnb136:=NB157_179.out
          have hnc136:=NB179_157.out
          have hcz137_0 : wc.cell? ⟨gb157,0,none⟩ = some (.string t152):=(blk_cell BK157.out 0).trans rfl
          have hcz137_1 : wc.cell? ⟨gb157,1,none⟩ = some (.int .i64 t153):=(blk_cell BK157.out 1).trans rfl
          have hcz137_2 : wc.cell? ⟨gb157,2,none⟩ = some (.int .i64 t154):=(blk_cell BK157.out 2).trans rfl
          have hcz137_3 : wc.cell? ⟨gb157,3,none⟩ = some (.string t155):=(blk_cell BK157.out 3).trans rfl
          have hcz137_4 : wc.cell? ⟨gb157,4,none⟩ = some (.bool t156):=(blk_cell BK157.out 4).trans rfl
          have hfz137_0:=blk_frozen BK157.out 0
          have hfz137_1:=blk_frozen BK157.out 1
          have hfz137_2:=blk_frozen BK157.out 2
          have hfz137_3:=blk_frozen BK157.out 3
          have hfz137_4:=blk_frozen BK157.out 4
          have hnb138:=NB168_129.out
          have hnc138:=NB129_168.out
          have hnb139:=NB168_130.out
          have hnc139:=NB130_168.out
          have hnb140:=NB168_131.out
          have hnc140:=NB131_168.out
          have hnb141:=NB168_179.out
          have hnc141:=NB179_168.out
          have hcz142_0 : wc.cell? ⟨gb168,0,none⟩ = some (.string t163):=(blk_cell BK168.out 0).trans rfl
          have hcz142_1 : wc.cell? ⟨gb168,1,none⟩ = some (.int .i64 t164):=(blk_cell BK168.out 1).trans rfl
          have hcz142_2 : wc.cell? ⟨gb168,2,none⟩ = some (.int .i64 t165):=(blk_cell BK168.out 2).trans rfl
          have hcz142_3 : wc.cell? ⟨gb168,3,none⟩ = some (.string t166):=(blk_cell BK168.out 3).trans rfl
          have hcz142_4 : wc.cell? ⟨gb168,4,none⟩ = some (.bool t167):=(blk_cell BK168.out 4).trans rfl
          have hfz142_0:=blk_frozen BK168.out 0
          have hfz142_1:=blk_frozen BK168.out 1
          have hfz142_2:=blk_frozen BK168.out 2
          have hfz142_3:=blk_frozen BK168.out 3
          have hfz142_4:=blk_frozen BK168.out 4
          go_wp2
          go_ret
          exact ⟨by first | rfl | (simp [errW_none,errW_some] <;> rfl) | (simp [*,errW_none,errW_some] <;> rfl),by repeat (first | (with_reducible first | exact HB.out | apply below_alloc | apply pw_below_drewN | apply below_drew1 | refine below_set ?_ GE129.out | refine below_set ?_ GE130.out | refine below_set ?_ GE131.out | refine below_set ?_ GE157.out | refine below_set ?_ GE168.out | refine below_set ?_ GE179.out) | exact HB.out)⟩
         ·replace c131:=Bool.eq_false_iff.mpr c131
          subst c131
          have H1 : (if (t152.toList == t163.toList && ((t153 == t164 && (t154 == t165)) && (t155.toList == t166.toList && (t156 == t167)))) = true then (if (t152.toList == t174.toList && ((t153 == t175 && (t154 == t176)) && (t155.toList == t177.toList && (t156 == t178)))) = true then ((item_Newer.f kj54 a0_0 a0_1 a0_2 a0_3 a0_4 t152 t153 t154 t155 t156).bind fun t180 => (if t180 = true then (none) else ((item_Newer.f kj54 a1_0 a1_1 a1_2 a1_3 a1_4 t152 t153 t154 t155 t156).bind fun t181 => (if t181 = true then (none) else ((item_Newer.f kj54 a2_0 a2_1 a2_2 a2_3 a2_4 t152 t153 t154 t155 t156).bind fun t182 => (some (!t182))))))) else (none)) else (none)) = some r:=by rw [if_neg (show ¬ (false = true) by decide)] at H;exact H
          clear H
          have H:=H1
          clear H1
          by_cases c143 : (t152.toList == t163.toList && ((t153 == t164 && (t154 == t165)) && (t155.toList == t166.toList && (t156 == t167)))) = true
          ·rw [if_pos c143] at H
           have c143b0 : (t152.toList == t163.toList && ((t153 == t164 && (t154 == t165)) && (t155.toList == t166.toList && (t156 == t167)))) = true:=c143
           (try (have c143b1 : decide (t152.toList = t163.toList && ((t153 == t164 && (t154 == t165)) && (t155.toList == t166.toList && (t156 == t167)))) = true:=by simpa using c143))
           (try (have c143b2 : (t152.toList == t163.toList && ((t153 == t164 && (t154 == t165)) && (t155.toList == t166.toList && (t156 == t167)))) = true:=by simpa using c143))
           clear c143
           by_cases c144 : (t152.toList == t174.toList && ((t153 == t175 && (t154 == t176)) && (t155.toList == t177.toList && (t156 == t178)))) = true
           ·rw [if_pos c144] at H
            have c144b0 : (t152.toList == t174.toList && ((t153 == t175 && (t154 == t176)) && (t155.toList == t177.toList && (t156 == t178)))) = true:=c144
            (try (have c144b1 : decide (t152.toList = t174.toList && ((t153 == t175 && (t154 == t176)) && (t155.toList == t177.toList && (t156 == t178)))) = true:=by simpa using c144))
            (try (have c144b2 : (t152.toList == t174.toList && ((t153 == t175 && (t154 == t176)) && (t155.toList == t177.toList && (t156 == t178)))) = true:=by simpa using c144))
            clear c144
            replace H:=Option.bind_eq_some_iff.mp H
            obtain ⟨t180,A1450,H⟩:=H
            replace H : (if t180 = true then (none) else ((item_Newer.f kj54 a1_0 a1_1 a1_2 a1_3 a1_4 t152 t153 t154 t155 t156).bind fun t181 => (if t181 = true then (none) else ((item_Newer.f kj54 a2_0 a2_1 a2_2 a2_3 a2_4 t152 t153 t154 t155 t156).bind fun t182 => (some (!t182)))))) = some r:=H
            have A145:=Aside0.mk A1450
            clear A1450
            by_cases c146 : t180 = true
            ·subst c146
             have H1 : (none) = some r:=by rw [if_pos rfl] at H;exact H
             clear H
             have H:=H1
             clear H1
             exact absurd H (by simp)
            ·replace c146:=Bool.eq_false_iff.mpr c146
             subst c146
             have H1 : ((item_Newer.f kj54 a1_0 a1_1 a1_2 a1_3 a1_4 t152 t153 t154 t155 t156).bind fun t181 => (if t181 = true then (none) else ((item_Newer.f kj54 a2_0 a2_1 a2_2 a2_3 a2_4 t152 t153 t154 t155 t156).bind fun t182 => (some (!t182))))) = some r:=by rw [if_neg (show ¬ (false = true) by decide)] at H;exact H
             clear H
             have H:=H1
             clear H1
             replace H:=Option.bind_eq_some_iff.mp H
             obtain ⟨t181,A1470,H⟩:=H
             replace H : (if t181 = true then (none) else ((item_Newer.f kj54 a2_0 a2_1 a2_2 a2_3 a2_4 t152 t153 t154 t155 t156).bind fun t182 => (some (!t182)))) = some r:=H
             have A147:=Aside0.mk A1470
             clear A1470
             by_cases c148 : t181 = true
             ·subst c148
              have H1 : (none) = some r:=by rw [if_pos rfl] at H;exact H
              clear H
              have H:=H1
              clear H1
              exact absurd H (by simp)
             ·replace c148:=Bool.eq_false_iff.mpr c148
              subst c148
              have H1 : ((item_Newer.f kj54 a2_0 a2_1 a2_2 a2_3 a2_4 t152 t153 t154 t155 t156).bind fun t182 => (some (!t182))) = some r:=by rw [if_neg (show ¬ (false = true) by decide)] at H;exact H
              clear H
              have H:=H1
              clear H1
              replace H:=Option.bind_eq_some_iff.mp H
              obtain ⟨t182,A1490,H⟩:=H
              replace H : (some (!t182)) = some r:=H
              have A149:=Aside0.mk A1490
              clear A1490
              obtain rfl:=Option.some.inj H
              have hnb150:=NB157_129.out
              have hnc150:=NB129_157.out
              have hnb151:=NB157_130.out
              have hnc151:=NB130_157.out
              have hnb152:=NB157_131.out
              have hnc152:=NB131_157.out
              have hnb153:=NB157_168.out
              have hnc153:=NB168_157.out
              have hnb154:=NB157_179.out
              have hnc154:=NB179_157.out
              have hcz155_0 : wc.cell? ⟨gb157,0,none⟩ = some (.string t152):=(blk_cell BK157.out 0).trans rfl
              have hcz155_1 : wc.cell? ⟨gb157,1,none⟩ = some (.int .i64 t153):=(blk_cell BK157.out 1).trans rfl
              have hcz155_2 : wc.cell? ⟨gb157,2,none⟩ = some (.int .i64 t154):=(blk_cell BK157.out 2).trans rfl
              have hcz155_3 : wc.cell? ⟨gb157,3,none⟩ = some (.string t155):=(blk_cell BK157.out 3).trans rfl
              have hcz155_4 : wc.cell? ⟨gb157,4,none⟩ = some (.bool t156):=(blk_cell BK157.out 4).trans rfl
              have hfz155_0:=blk_frozen BK157.out 0
              have hfz155_1:=blk_frozen BK157.out 1
              have hfz155_2:=blk_frozen BK157.out 2
              have hfz155_3:=blk_frozen BK157.out 3
              have hfz155_4:=blk_frozen BK157.out 4
              have hnb156:=NB168_129.out
              have hnc156:=NB129_168.out
              have hnb157:=NB168_130.out
              have hnc157:=NB130_168.out
              have hnb158:=NB168_131.out
              have hnc158:=NB131_168.out
              have hnb159:=NB168_179.out
              have hnc159:=NB179_168.out
              have hcz160_0 : wc.cell? ⟨gb168,0,none⟩ = some (.string t163):=(blk_cell BK168.out 0).trans rfl
              have hcz160_1 : wc.cell? ⟨gb168,1,none⟩ = some (.int .i64 t164):=(blk_cell BK168.out 1).trans rfl
              have hcz160_2 : wc.cell? ⟨gb168,2,none⟩ = some (.int .i64 t165):=(blk_cell BK168.out 2).trans rfl
              have hcz160_3 : wc.cell? ⟨gb168,3,none⟩ = some (.string t166):=(blk_cell BK168.out 3).trans rfl
              have hcz160_4 : wc.cell? ⟨gb168,4,none⟩ = some (.bool t167):=(blk_cell BK168.out 4).trans rfl
              have hfz160_0:=blk_frozen BK168.out 0
              have hfz160_1:=blk_frozen BK168.out 1
              have hfz160_2:=blk_frozen BK168.out 2
              have hfz160_3:=blk_frozen BK168.out 3
              have hfz160_4:=blk_frozen BK168.out 4
              have hnb161:=NB179_129.out
              have hnc161:=NB129_179.out
              have hnb162:=NB179_130.out
              have hnc162:=NB130_179.out
              have hnb163:=NB179_131.out
              have hnc163:=NB131_179.out
              have hcz164_0 : wc.cell? ⟨gb179,0,none⟩ = some (.string t174):=(blk_cell BK179.out 0).trans rfl
              have hcz164_1 : wc.cell? ⟨gb179,1,none⟩ = some (.int .i64 t175):=(blk_cell BK179.out 1).trans rfl
              have hcz164_2 : wc.cell? ⟨gb179,2,none⟩ = some (.int .i64 t176):=(blk_cell BK179.out 2).trans rfl
              have hcz164_3 : wc.cell? ⟨gb179,3,none⟩ = some (.string t177):=(blk_cell BK179.out 3).trans rfl
              have hcz164_4 : wc.cell? ⟨gb179,4,none⟩ = some (.bool t178):=(blk_cell BK179.out 4).trans rfl
              have hfz164_0:=blk_frozen BK179.out 0
              have hfz164_1:=blk_frozen BK179.out 1
              have hfz164_2:=blk_frozen BK179.out 2
              have hfz164_3:=blk_frozen BK179.out 3
              have hfz164_4:=blk_frozen BK179.out 4
              have hnb165:=NB129_130.out
              have hnc165:=NB130_129.out
              have hnb166:=NB129_131.out
              have hnc166:=NB131_129.out
              have hcz167_0 : wc.cell? ⟨gb129,0,none⟩ = some (.string a0_0):=(blk_cell BK129.out 0).trans rfl
              have hcz167_1 : wc.cell? ⟨gb129,1,none⟩ = some (.int .i64 a0_1):=(blk_cell BK129.out 1).trans rfl
              have hcz167_2 : wc.cell? ⟨gb129,2,none⟩ = some (.int .i64 a0_2):=(blk_cell BK129.out 2).trans rfl
              have hcz167_3 : wc.cell? ⟨gb129,3,none⟩ = some (.string a0_3):=(blk_cell BK129.out 3).trans rfl
              have hcz167_4 : wc.cell? ⟨gb129,4,none⟩ = some (.bool a0_4):=(blk_cell BK129.out 4).trans rfl
              have hfz167_0:=blk_frozen BK129.out 0
              have hfz167_1:=blk_frozen BK129.out 1
              have hfz167_2:=blk_frozen BK129.out 2
              have hfz167_3:=blk_frozen BK129.out 3
              have hfz167_4:=blk_frozen BK129.out 4
              go_wp2_with (first | (go_at_call 16;(with_reducible refine (item_Newer.calls kj54 a0_0 a0_1 a0_2 a0_3 a0_4 t152 t153 t154 t155 t156 false _ A145.out).mono ?_);rintro e w168 ⟨rfl,hb⟩;replace BK129:=Aside0.mk (blk_below (g:=gb129) (o:=.cells #[.string a0_0,.int .i64 a0_1,.int .i64 a0_2,.string a0_3,.bool a0_4] 25 (0,0)) (by (with_reducible repeat first|apply bN|apply bD|apply bA);exact BK129.out) hb);replace BK130:=Aside0.mk (blk_below (g:=gb130) (o:=.cells #[.string a1_0,.int .i64 a1_1,.int .i64 a1_2,.string a1_3,.bool a1_4] 25 (0,0)) (by (with_reducible repeat first|apply bN|apply bD|apply bA);exact BK130.out) hb);replace BK131:=Aside0.mk (blk_below (g:=gb131) (o:=.cells #[.string a2_0,.int .i64 a2_1,.int .i64 a2_2,.string a2_3,.bool a2_4] 25 (0,0)) (by (with_reducible repeat first|apply bN|apply bD|apply bA);exact BK131.out) hb);replace BK157:=Aside0.mk (blk_below (g:=gb157) (o:=.cells #[.string t152,.int .i64 t153,.int .i64 t154,.string t155,.bool t156] 25 (0,0)) (by (with_reducible repeat first|apply bN|apply bD|apply bA);exact BK157.out) hb);replace BK168:=Aside0.mk (blk_below (g:=gb168) (o:=.cells #[.string t163,.int .i64 t164,.int .i64 t165,.string t166,.bool t167] 25 (0,0)) (by (with_reducible repeat first|apply bN|apply bD|apply bA);exact BK168.out) hb);replace BK179:=Aside0.mk (blk_below (g:=gb179) (o:=.cells #[.string t174,.int .i64 t175,.int .i64 t176,.string t177,.bool t178] 25 (0,0)) (by (with_reducible repeat first|apply bN|apply bD|apply bA);exact BK179.out) hb);replace HB:=Aside0.mk (below_step (by repeat (first | (with_reducible first | exact HB.out | apply below_alloc | apply pw_below_drewN | apply below_drew1 | refine below_set ?_ GE129.out | refine below_set ?_ GE130.out | refine below_set ?_ GE131.out | refine below_set ?_ GE157.out | refine below_set ?_ GE168.out | refine below_set ?_ GE179.out) | exact HB.out)) hb);(try clear hb);(try clear hb2);(try clear hk);(try clear hi);have hnb169:=NB130_131.out;have hnc169:=NB131_130.out;have hcz170_0 : w168.cell? ⟨gb130,0,none⟩ = some (.string a1_0):=(blk_cell BK130.out 0).trans rfl;have hcz170_1 : w168.cell? ⟨gb130,1,none⟩ = some (.int .i64 a1_1):=(blk_cell BK130.out 1).trans rfl;have hcz170_2 : w168.cell? ⟨gb130,2,none⟩ = some (.int .i64 a1_2):=(blk_cell BK130.out 2).trans rfl;have hcz170_3 : w168.cell? ⟨gb130,3,none⟩ = some (.string a1_3):=(blk_cell BK130.out 3).trans rfl;have hcz170_4 : w168.cell? ⟨gb130,4,none⟩ = some (.bool a1_4):=(blk_cell BK130.out 4).trans rfl;have hfz170_0:=blk_frozen BK130.out 0;have hfz170_1:=blk_frozen BK130.out 1;have hfz170_2:=blk_frozen BK130.out 2;have hfz170_3:=blk_frozen BK130.out 3;have hfz170_4:=blk_frozen BK130.out 4;have hcz171_0 : w168.cell? ⟨gb157,0,none⟩ = some (.string t152):=(blk_cell BK157.out 0).trans rfl;have hcz171_1 : w168.cell? ⟨gb157,1,none⟩ = some (.int .i64 t153):=(blk_cell BK157.out 1).trans rfl;have hcz171_2 : w168.cell? ⟨gb157,2,none⟩ = some (.int .i64 t154):=(blk_cell BK157.out 2).trans rfl;have hcz171_3 : w168.cell? ⟨gb157,3,none⟩ = some (.string t155):=(blk_cell BK157.out 3).trans rfl;have hcz171_4 : w168.cell? ⟨gb157,4,none⟩ = some (.bool t156):=(blk_cell BK157.out 4).trans rfl;have hfz171_0:=blk_frozen BK157.out 0;have hfz171_1:=blk_frozen BK157.out 1;have hfz171_2:=blk_frozen BK157.out 2;have hfz171_3:=blk_frozen BK157.out 3;have hfz171_4:=blk_frozen BK157.out 4) | (go_at_call 16;(with_reducible refine (item_Newer.calls kj54 a1_0 a1_1 a1_2 a1_3 a1_4 t152 t153 t154 t155 t156 false _ A147.out).mono ?_);rintro e w172 ⟨rfl,hb⟩;replace BK129:=Aside0.mk (blk_below (g:=gb129) (o:=.cells #[.string a0_0,.int .i64 a0_1,.int .i64 a0_2,.string a0_3,.bool a0_4] 25 (0,0)) (by (with_reducible repeat first|apply bN|apply bD|apply bA);exact BK129.out) hb);replace BK130:=Aside0.mk (blk_below (g:=gb130) (o:=.cells #[.string a1_0,.int .i64 a1_1,.int .i64 a1_2,.string a1_3,.bool a1_4] 25 (0,0)) (by (with_reducible repeat first|apply bN|apply bD|apply bA);exact BK130.out) hb);replace BK131:=Aside0.mk (blk_below (g:=gb131) (o:=.cells #[.string a2_0,.int .i64 a2_1,.int .i64 a2_2,.string a2_3,.bool a2_4] 25 (0,0)) (by (with_reducible repeat first|apply bN|apply bD|apply bA);exact BK131.out) hb);replace BK157:=Aside0.mk (blk_below (g:=gb157) (o:=.cells #[.string t152,.int .i64 t153,.int .i64 t154,.string t155,.bool t156] 25 (0,0)) (by (with_reducible repeat first|apply bN|apply bD|apply bA);exact BK157.out) hb);replace BK168:=Aside0.mk (blk_below (g:=gb168) (o:=.cells #[.string t163,.int .i64 t164,.int .i64 t165,.string t166,.bool t167] 25 (0,0)) (by (with_reducible repeat first|apply bN|apply bD|apply bA);exact BK168.out) hb);replace BK179:=Aside0.mk (blk_below (g:=gb179) (o:=.cells #[.string t174,.int .i64 t175,.int .i64 t176,.string t177,.bool t178] 25 (0,0)) (by (with_reducible repeat first|apply bN|apply bD|apply bA);exact BK179.out) hb);replace HB:=Aside0.mk (below_step (by repeat (first | (with_reducible first | exact HB.out | apply below_alloc | apply pw_below_drewN | apply below_drew1 | refine below_set ?_ GE129.out | refine below_set ?_ GE130.out | refine below_set ?_ GE131.out | refine below_set ?_ GE157.out | refine below_set ?_ GE168.out | refine below_set ?_ GE179.out) | exact HB.out)) hb);(try clear hb);(try clear hb2);(try clear hk);(try clear hi);have hcz173_0 : w172.cell? ⟨gb131,0,none⟩ = some (.string a2_0):=(blk_cell BK131.out 0).trans rfl;have hcz173_1 : w172.cell? ⟨gb131,1,none⟩ = some (.int .i64 a2_1):=(blk_cell BK131.out 1).trans rfl;have hcz173_2 : w172.cell? ⟨gb131,2,none⟩ = some (.int .i64 a2_2):=(blk_cell BK131.out 2).trans rfl;have hcz173_3 : w172.cell? ⟨gb131,3,none⟩ = some (.string a2_3):=(blk_cell BK131.out 3).trans rfl;have hcz173_4 : w172.cell? ⟨gb131,4,none⟩ = some (.bool a2_4):=(blk_cell BK131.out 4).trans rfl;have hfz173_0:=blk_frozen BK131.out 0;have hfz173_1:=blk_frozen BK131.out 1;have hfz173_2:=blk_frozen BK131.out 2;have hfz173_3:=blk_frozen BK131.out 3;have hfz173_4:=blk_frozen BK131.out 4;have hcz174_0 : w172.cell? ⟨gb157,0,none⟩ = some (.string t152):=(blk_cell BK157.out 0).trans rfl;have hcz174_1 : w172.cell? ⟨gb157,1,none⟩ = some (.int .i64 t153):=(blk_cell BK157.out 1).trans rfl;have hcz174_2 : w172.cell? ⟨gb157,2,none⟩ = some (.int .i64 t154):=(blk_cell BK157.out 2).trans rfl;have hcz174_3 : w172.cell? ⟨gb157,3,none⟩ = some (.string t155):=(blk_cell BK157.out 3).trans rfl;have hcz174_4 : w172.cell? ⟨gb157,4,none⟩ = some (.bool t156):=(blk_cell BK157.out 4).trans rfl;have hfz174_0:=blk_frozen BK157.out 0;have hfz174_1:=blk_frozen BK157.out 1;have hfz174_2:=blk_frozen BK157.out 2;have hfz174_3:=blk_frozen BK157.out 3;have hfz174_4:=blk_frozen BK157.out 4) | (go_at_call 16;(with_reducible refine (item_Newer.calls kj54 a2_0 a2_1 a2_2 a2_3 a2_4 t152 t153 t154 t155 t156 t182 _ A149.out).mono ?_);rintro e w175 ⟨rfl,hb⟩;replace BK129:=Aside0.mk (blk_below (g:=gb129) (o:=.cells #[.string a0_0,.int .i64 a0_1,.int .i64 a0_2,.string a0_3,.bool a0_4] 25 (0,0)) (by (with_reducible repeat first|apply bN|apply bD|apply bA);exact BK129.out) hb);replace BK130:=Aside0.mk (blk_below (g:=gb130) (o:=.cells #[.string a1_0,.int .i64 a1_1,.int .i64 a1_2,.string a1_3,.bool a1_4] 25 (0,0)) (by (with_reducible repeat first|apply bN|apply bD|apply bA);exact BK130.out) hb);replace BK131:=Aside0.mk (blk_below (g:=gb131) (o:=.cells #[.string a2_0,.int .i64 a2_1,.int .i64 a2_2,.string a2_3,.bool a2_4] 25 (0,0)) (by (with_reducible repeat first|apply bN|apply bD|apply bA);exact BK131.out) hb);replace BK157:=Aside0.mk (blk_below (g:=gb157) (o:=.cells #[.string t152,.int .i64 t153,.int .i64 t154,.string t155,.bool t156] 25 (0,0)) (by (with_reducible repeat first|apply bN|apply bD|apply bA);exact BK157.out) hb);replace BK168:=Aside0.mk (blk_below (g:=gb168) (o:=.cells #[.string t163,.int .i64 t164,.int .i64 t165,.string t166,.bool t167] 25 (0,0)) (by (with_reducible repeat first|apply bN|apply bD|apply bA);exact BK168.out) hb);replace BK179:=Aside0.mk (blk_below (g:=gb179) (o:=.cells #[.string t174,.int .i64 t175,.int .i64 t176,.string t177,.bool t178] 25 (0,0)) (by (with_reducible repeat first|apply bN|apply bD|apply bA);exact BK179.out) hb);replace HB:=Aside0.mk (below_step (by repeat (first | (with_reducible first | exact HB.out | apply below_alloc | apply pw_below_drewN | apply below_drew1 | refine below_set ?_ GE129.out | refine below_set ?_ GE130.out | refine below_set ?_ GE131.out | refine below_set ?_ GE157.out | refine below_set ?_ GE168.out | refine below_set ?_ GE179.out) | exact HB.out)) hb);(try clear hb);(try clear hb2);(try clear hk);(try clear hi)))
              go_ret
              exact ⟨by first | rfl | (simp [errW_none,errW_some] <;> rfl) | (simp [*,errW_none,errW_some] <;> rfl),by repeat (first | (with_reducible first | exact HB.out | apply below_alloc | apply pw_below_drewN | apply below_drew1 | refine below_set ?_ GE129.out | refine below_set ?_ GE130.out | refine below_set ?_ GE131.out | refine below_set ?_ GE157.out | refine below_set ?_ GE168.out | refine below_set ?_ GE179.out) | exact HB.out)⟩
           ·rw [if_neg c144] at H
            exact absurd H (by simp)
          ·rw [if_neg c143] at H
           exact absurd H (by simp)

end Go.Proofs.Ythalodnfecaccaa.PAll
