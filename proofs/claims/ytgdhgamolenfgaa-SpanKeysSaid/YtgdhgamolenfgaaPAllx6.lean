-- By wip/pr.py (a program of this session, over the kit's print): lines written by program. Not trusted: Lean checks them.
import Derived.Test.YtgdhgamolenfgaaPAllx0
import Derived.Test.YtgdhgamolenfgaaPAllx2
import Derived.Test.YtgdhgamolenfgaaPAllx4
import Derived.Test.YtgdhgamolenfgaaPAllx5
namespace Go.Proofs.Ytgdhgamolenfgaa.PAll
open Go.RowKit Go.Proofs.YtgdhgamolenfgaaW.PrintWords Go.Proofs.YtgdhgamolenfgaaW.PrintLast Go.Proofs.YtgdhgamolenfgaaW.PrintMore
attribute [local go_sem] max2_int min2_int max_two min_two max_three min_three max_four min_four   -- for this text's walks alone
set_option linter.unusedVariables false
set_option linter.unusedSimpArgs false

/-! ### tidelinelaw02_SpanKeys: function 8 -/
mutual
def tidelinelaw02_SpanKeys.j0 : Nat → ByteArray → Bool → ByteArray → ByteArray → Bool → ByteArray → ByteArray → Bool → Option (Bool)
  | 0, _, _, _, _, _, _, _, _ => none
  | k + 1, x2, x32, x198000, x198001, x198002, x199000, x199001, x199002 => if x32 = true then (none) else ((span_Within.f k x198000 x198001 x198002 x199000 x199001 x199002).bind fun t210 => (if t210 = true then ((span_Holds.f k x198000 x198001 x198002 x2).bind fun t211 => (if t211 = true then ((span_Holds.f k x199000 x199001 x199002 x2).bind fun t212 => (tidelinelaw02_SpanKeys.j1 k x2 t210 (!t212) x198000 x198001 x198002 x199000 x199001 x199002)) else (tidelinelaw02_SpanKeys.j1 k x2 t210 false x198000 x198001 x198002 x199000 x199001 x199002))) else (tidelinelaw02_SpanKeys.j1 k x2 t210 false x198000 x198001 x198002 x199000 x199001 x199002)))
def tidelinelaw02_SpanKeys.j1 : Nat → ByteArray → Bool → Bool → ByteArray → ByteArray → Bool → ByteArray → ByteArray → Bool → Option (Bool)
  | 0, _, _, _, _, _, _, _, _, _ => none
  | k + 1, x2, x9, x47, x198000, x198001, x198002, x199000, x199001, x199002 => if x47 = true then (none) else ((span_Check.f k x198000 x198001 x198002).bind fun t213 => (if t213 = 0 then ((span_Check.f k x199000 x199001 x199002).bind fun t214 => (if t214 = 0 then (if x9 = true then (tidelinelaw02_SpanKeys.j2 k x2 false x198000 x198001 x198002) else ((span_Empty.f k x198000 x198001 x198002).bind fun t215 => (if t215 = true then (tidelinelaw02_SpanKeys.j2 k x2 true x198000 x198001 x198002) else ((span_Holds.f k x198000 x198001 x198002 x198000).bind fun t216 => (if t216 = true then ((span_Holds.f k x199000 x199001 x199002 x198000).bind fun t217 => (if t217 = true then ((span_Holds.f k x198000 x198001 x198002 x199001).bind fun t218 => (if t218 = true then ((span_Holds.f k x199000 x199001 x199002 x199001).bind fun t219 => (tidelinelaw02_SpanKeys.j2 k x2 t219 x198000 x198001 x198002)) else (tidelinelaw02_SpanKeys.j2 k x2 true x198000 x198001 x198002))) else (tidelinelaw02_SpanKeys.j2 k x2 false x198000 x198001 x198002))) else ((span_Holds.f k x198000 x198001 x198002 x199001).bind fun t220 => (if t220 = true then ((span_Holds.f k x199000 x199001 x199002 x199001).bind fun t221 => (tidelinelaw02_SpanKeys.j2 k x2 t221 x198000 x198001 x198002)) else (tidelinelaw02_SpanKeys.j2 k x2 true x198000 x198001 x198002)))))))) else (tidelinelaw02_SpanKeys.j2 k x2 false x198000 x198001 x198002))) else (tidelinelaw02_SpanKeys.j2 k x2 false x198000 x198001 x198002)))
def tidelinelaw02_SpanKeys.j2 : Nat → ByteArray → Bool → ByteArray → ByteArray → Bool → Option (Bool)
  | 0, _, _, _, _, _ => none
  | k + 1, x2, x89, x198000, x198001, x198002 => if x89 = true then (none) else ((span_Empty.f k x198000 x198001 x198002).bind fun t222 => (if t222 = true then ((span_Holds.f k x198000 x198001 x198002 x2).bind fun t223 => (if t223 = true then (none) else ((span_Holds.f k x198000 x198001 x198002 x198000).bind fun t224 => (some (!t224))))) else ((span_Holds.f k x198000 x198001 x198002 x198000).bind fun t225 => (some t225))))
end
def tidelinelaw02_SpanKeys.f (k : Nat) (a0_0 : ByteArray) (a0_1 : ByteArray) (a0_2 : Bool) (a1_0 : ByteArray) (a1_1 : ByteArray) (a1_2 : Bool) (a2 : ByteArray) : Option (Bool) := (tidelinelaw02_shown.f k).bind fun t199 => (if t199 = true then ((span_Meet.f k a0_0 a0_1 a0_2 a1_0 a1_1 a1_2).bind fun bt200 => (if bt200.2.2.2 = true then ((span_Holds.f k bt200.1 bt200.2.1 bt200.2.2.1 a2).bind fun t205 => ((span_Holds.f k a0_0 a0_1 a0_2 a2).bind fun t206 => (if t206 = true then ((span_Holds.f k a1_0 a1_1 a1_2 a2).bind fun t207 => (tidelinelaw02_SpanKeys.j0 k a2 (t205 != t207) a0_0 a0_1 a0_2 a1_0 a1_1 a1_2)) else (tidelinelaw02_SpanKeys.j0 k a2 (t205 != false) a0_0 a0_1 a0_2 a1_0 a1_1 a1_2)))) else ((span_Holds.f k a0_0 a0_1 a0_2 a2).bind fun t208 => (if t208 = true then ((span_Holds.f k a1_0 a1_1 a1_2 a2).bind fun t209 => (tidelinelaw02_SpanKeys.j0 k a2 (false != t209) a0_0 a0_1 a0_2 a1_0 a1_1 a1_2)) else (tidelinelaw02_SpanKeys.j0 k a2 (false != false) a0_0 a0_1 a0_2 a1_0 a1_1 a1_2))))) else (none))
theorem tidelinelaw02_SpanKeys.mono_l : ∀ k, (∀ y0 y1 y2 y3 y4 y5 y6 y7, LeO (tidelinelaw02_SpanKeys.j0 k y0 y1 y2 y3 y4 y5 y6 y7) (tidelinelaw02_SpanKeys.j0 (k + 1) y0 y1 y2 y3 y4 y5 y6 y7)) ∧ (∀ y0 y1 y2 y3 y4 y5 y6 y7 y8, LeO (tidelinelaw02_SpanKeys.j1 k y0 y1 y2 y3 y4 y5 y6 y7 y8) (tidelinelaw02_SpanKeys.j1 (k + 1) y0 y1 y2 y3 y4 y5 y6 y7 y8)) ∧ (∀ y0 y1 y2 y3 y4, LeO (tidelinelaw02_SpanKeys.j2 k y0 y1 y2 y3 y4) (tidelinelaw02_SpanKeys.j2 (k + 1) y0 y1 y2 y3 y4))
  | 0 => ⟨fun _ _ _ _ _ _ _ _ r h => by simp [tidelinelaw02_SpanKeys.j0] at h, fun _ _ _ _ _ _ _ _ _ r h => by simp [tidelinelaw02_SpanKeys.j1] at h, fun _ _ _ _ _ r h => by simp [tidelinelaw02_SpanKeys.j2] at h⟩
  | k + 1 => by
    obtain ⟨ih0, ih1, ih2⟩ := tidelinelaw02_SpanKeys.mono_l k
    refine ⟨?_, ?_, ?_⟩
    · intro y0 y1 y2 y3 y4 y5 y6 y7
      unfold tidelinelaw02_SpanKeys.j0
      repeat' first
      | (with_reducible exact ih0 _ _ _ _ _ _ _ _)
      | (with_reducible exact ih1 _ _ _ _ _ _ _ _ _)
      | (with_reducible exact ih2 _ _ _ _ _)
      | (with_reducible exact span_Check.mono _ _ _ _)
      | (with_reducible exact span_Empty.mono _ _ _ _)
      | (with_reducible exact span_Holds.mono _ _ _ _ _)
      | (with_reducible exact span_Meet.mono _ _ _ _ _ _ _)
      | (with_reducible exact span_Within.mono _ _ _ _ _ _ _)
      | (with_reducible exact tidelinelaw02_shown.mono _)
      | (with_reducible exact LeO.refl _)
      | (with_reducible exact LeO.none _)
      | (with_reducible refine LeO.ite ?_ ?_)
      | (with_reducible refine LeO.bind ?_ (fun _ => ?_))
      | exact ih0 _ _ _ _ _ _ _ _
      | exact ih1 _ _ _ _ _ _ _ _ _
      | exact ih2 _ _ _ _ _
      | exact span_Check.mono _ _ _ _
      | exact span_Empty.mono _ _ _ _
      | exact span_Holds.mono _ _ _ _ _
      | exact span_Meet.mono _ _ _ _ _ _ _
      | exact span_Within.mono _ _ _ _ _ _ _
      | exact tidelinelaw02_shown.mono _
      | exact LeO.none _
      | refine LeO.ite ?_ ?_
      | refine LeO.bind ?_ (fun _ => ?_)
    · intro y0 y1 y2 y3 y4 y5 y6 y7 y8
      unfold tidelinelaw02_SpanKeys.j1
      repeat' first
      | (with_reducible exact ih0 _ _ _ _ _ _ _ _)
      | (with_reducible exact ih1 _ _ _ _ _ _ _ _ _)
      | (with_reducible exact ih2 _ _ _ _ _)
      | (with_reducible exact span_Check.mono _ _ _ _)
      | (with_reducible exact span_Empty.mono _ _ _ _)
      | (with_reducible exact span_Holds.mono _ _ _ _ _)
      | (with_reducible exact span_Meet.mono _ _ _ _ _ _ _)
      | (with_reducible exact span_Within.mono _ _ _ _ _ _ _)
      | (with_reducible exact tidelinelaw02_shown.mono _)
      | (with_reducible exact LeO.refl _)
      | (with_reducible exact LeO.none _)
      | (with_reducible refine LeO.ite ?_ ?_)
      | (with_reducible refine LeO.bind ?_ (fun _ => ?_))
      | exact ih0 _ _ _ _ _ _ _ _
      | exact ih1 _ _ _ _ _ _ _ _ _
      | exact ih2 _ _ _ _ _
      | exact span_Check.mono _ _ _ _
      | exact span_Empty.mono _ _ _ _
      | exact span_Holds.mono _ _ _ _ _
      | exact span_Meet.mono _ _ _ _ _ _ _
      | exact span_Within.mono _ _ _ _ _ _ _
      | exact tidelinelaw02_shown.mono _
      | exact LeO.none _
      | refine LeO.ite ?_ ?_
      | refine LeO.bind ?_ (fun _ => ?_)
    · intro y0 y1 y2 y3 y4
      unfold tidelinelaw02_SpanKeys.j2
      repeat' first
      | (with_reducible exact ih0 _ _ _ _ _ _ _ _)
      | (with_reducible exact ih1 _ _ _ _ _ _ _ _ _)
      | (with_reducible exact ih2 _ _ _ _ _)
      | (with_reducible exact span_Check.mono _ _ _ _)
      | (with_reducible exact span_Empty.mono _ _ _ _)
      | (with_reducible exact span_Holds.mono _ _ _ _ _)
      | (with_reducible exact span_Meet.mono _ _ _ _ _ _ _)
      | (with_reducible exact span_Within.mono _ _ _ _ _ _ _)
      | (with_reducible exact tidelinelaw02_shown.mono _)
      | (with_reducible exact LeO.refl _)
      | (with_reducible exact LeO.none _)
      | (with_reducible refine LeO.ite ?_ ?_)
      | (with_reducible refine LeO.bind ?_ (fun _ => ?_))
      | exact ih0 _ _ _ _ _ _ _ _
      | exact ih1 _ _ _ _ _ _ _ _ _
      | exact ih2 _ _ _ _ _
      | exact span_Check.mono _ _ _ _
      | exact span_Empty.mono _ _ _ _
      | exact span_Holds.mono _ _ _ _ _
      | exact span_Meet.mono _ _ _ _ _ _ _
      | exact span_Within.mono _ _ _ _ _ _ _
      | exact tidelinelaw02_shown.mono _
      | exact LeO.none _
      | refine LeO.ite ?_ ?_
      | refine LeO.bind ?_ (fun _ => ?_)
theorem tidelinelaw02_SpanKeys.mono : ∀ a0 a1 a2 a3 a4 a5 a6 k, LeO (tidelinelaw02_SpanKeys.f k a0 a1 a2 a3 a4 a5 a6) (tidelinelaw02_SpanKeys.f (k + 1) a0 a1 a2 a3 a4 a5 a6) := by
  intro a0 a1 a2 a3 a4 a5 a6 k
  obtain ⟨ih0, ih1, ih2⟩ := tidelinelaw02_SpanKeys.mono_l k
  unfold tidelinelaw02_SpanKeys.f
  repeat' first
      | (with_reducible exact ih0 _ _ _ _ _ _ _ _)
      | (with_reducible exact ih1 _ _ _ _ _ _ _ _ _)
      | (with_reducible exact ih2 _ _ _ _ _)
      | (with_reducible exact span_Check.mono _ _ _ _)
      | (with_reducible exact span_Empty.mono _ _ _ _)
      | (with_reducible exact span_Holds.mono _ _ _ _ _)
      | (with_reducible exact span_Meet.mono _ _ _ _ _ _ _)
      | (with_reducible exact span_Within.mono _ _ _ _ _ _ _)
      | (with_reducible exact tidelinelaw02_shown.mono _)
      | (with_reducible exact LeO.refl _)
      | (with_reducible exact LeO.none _)
      | (with_reducible refine LeO.ite ?_ ?_)
      | (with_reducible refine LeO.bind ?_ (fun _ => ?_))
      | exact ih0 _ _ _ _ _ _ _ _
      | exact ih1 _ _ _ _ _ _ _ _ _
      | exact ih2 _ _ _ _ _
      | exact span_Check.mono _ _ _ _
      | exact span_Empty.mono _ _ _ _
      | exact span_Holds.mono _ _ _ _ _
      | exact span_Meet.mono _ _ _ _ _ _ _
      | exact span_Within.mono _ _ _ _ _ _ _
      | exact tidelinelaw02_shown.mono _
      | exact LeO.none _
      | refine LeO.ite ?_ ?_
      | refine LeO.bind ?_ (fun _ => ?_)
def tidelinelaw02_SpanKeys.T4 : Bool × List (List Nat × List Nat) := (true, [([], []), ([0], [0]), ([1], [1]), ([1], [1]), ([2, 3, 1, 1], [1, 2, 3]), ([1, 4], [1, 4]), ([], []), ([], []), ([6, 7, 4], [6, 7]), ([8, 8], [8]), ([9], [9]), ([9], [9]), ([10, 11, 9, 9], [9, 10, 11]), ([9, 12], [9, 12]), ([5, 13], [5, 13])])
def tidelinelaw02_SpanKeys.B4 : List Nat := [0, 1, 3, 3, 15, 31, 0, 0, 223, 479, 991, 991, 4063, 8159, 16383]
theorem tidelinelaw02_SpanKeys.tab4 : rtab .any (opsOf Try.f8 4) = tidelinelaw02_SpanKeys.T4 := by kernel_rfl
theorem tidelinelaw02_SpanKeys.bits4 : waitsOk tidelinelaw02_SpanKeys.T4.2 tidelinelaw02_SpanKeys.B4 = true := by kernel_rfl
set_option maxHeartbeats 8000000 in
set_option maxRecDepth 100000 in
theorem tidelinelaw02_SpanKeys.calls (k : Nat) (a0_0 : ByteArray) (a0_1 : ByteArray) (a0_2 : Bool) (a1_0 : ByteArray) (a1_1 : ByteArray) (a1_2 : Bool) (a2 : ByteArray) (r : Bool) (w : World) (hG : Glob.GlobOK w) (h : tidelinelaw02_SpanKeys.f k a0_0 a0_1 a0_2 a1_0 a1_1 a1_2 a2 = some r) :
    Calls Try.prog 8 #[.agg #[.string a0_0, .string a0_1, .bool a0_2], .agg #[.string a1_0, .string a1_1, .bool a1_2], .string a2] w fun e w' => e = .returned (.bool r) ∧ Below w.heap.size w w' := by
  have HG := Aside0.mk hG
  clear hG
  have hu23 := Try.underlying23
  have HB := Aside0.mk (Below.refl w.heap.size w)
  have H : ((tidelinelaw02_shown.f k).bind fun t199 => (if t199 = true then ((span_Meet.f k a0_0 a0_1 a0_2 a1_0 a1_1 a1_2).bind fun bt200 => (if bt200.2.2.2 = true then ((span_Holds.f k bt200.1 bt200.2.1 bt200.2.2.1 a2).bind fun t205 => ((span_Holds.f k a0_0 a0_1 a0_2 a2).bind fun t206 => (if t206 = true then ((span_Holds.f k a1_0 a1_1 a1_2 a2).bind fun t207 => (tidelinelaw02_SpanKeys.j0 k a2 (t205 != t207) a0_0 a0_1 a0_2 a1_0 a1_1 a1_2)) else (tidelinelaw02_SpanKeys.j0 k a2 (t205 != false) a0_0 a0_1 a0_2 a1_0 a1_1 a1_2)))) else ((span_Holds.f k a0_0 a0_1 a0_2 a2).bind fun t208 => (if t208 = true then ((span_Holds.f k a1_0 a1_1 a1_2 a2).bind fun t209 => (tidelinelaw02_SpanKeys.j0 k a2 (false != t209) a0_0 a0_1 a0_2 a1_0 a1_1 a1_2)) else (tidelinelaw02_SpanKeys.j0 k a2 (false != false) a0_0 a0_1 a0_2 a1_0 a1_1 a1_2))))) else (none))) = some r := h
  clear h
  replace H := Option.bind_eq_some_iff.mp H
  obtain ⟨t199, A40, H⟩ := H
  replace H : (if t199 = true then ((span_Meet.f k a0_0 a0_1 a0_2 a1_0 a1_1 a1_2).bind fun bt200 => (if bt200.2.2.2 = true then ((span_Holds.f k bt200.1 bt200.2.1 bt200.2.2.1 a2).bind fun t205 => ((span_Holds.f k a0_0 a0_1 a0_2 a2).bind fun t206 => (if t206 = true then ((span_Holds.f k a1_0 a1_1 a1_2 a2).bind fun t207 => (tidelinelaw02_SpanKeys.j0 k a2 (t205 != t207) a0_0 a0_1 a0_2 a1_0 a1_1 a1_2)) else (tidelinelaw02_SpanKeys.j0 k a2 (t205 != false) a0_0 a0_1 a0_2 a1_0 a1_1 a1_2)))) else ((span_Holds.f k a0_0 a0_1 a0_2 a2).bind fun t208 => (if t208 = true then ((span_Holds.f k a1_0 a1_1 a1_2 a2).bind fun t209 => (tidelinelaw02_SpanKeys.j0 k a2 (false != t209) a0_0 a0_1 a0_2 a1_0 a1_1 a1_2)) else (tidelinelaw02_SpanKeys.j0 k a2 (false != false) a0_0 a0_1 a0_2 a1_0 a1_1 a1_2))))) else (none)) = some r := H
  have A4 := Aside0.mk A40
  clear A40
  by_cases c5 : t199 = true
  · subst c5
    have H1 : ((span_Meet.f k a0_0 a0_1 a0_2 a1_0 a1_1 a1_2).bind fun bt200 => (if bt200.2.2.2 = true then ((span_Holds.f k bt200.1 bt200.2.1 bt200.2.2.1 a2).bind fun t205 => ((span_Holds.f k a0_0 a0_1 a0_2 a2).bind fun t206 => (if t206 = true then ((span_Holds.f k a1_0 a1_1 a1_2 a2).bind fun t207 => (tidelinelaw02_SpanKeys.j0 k a2 (t205 != t207) a0_0 a0_1 a0_2 a1_0 a1_1 a1_2)) else (tidelinelaw02_SpanKeys.j0 k a2 (t205 != false) a0_0 a0_1 a0_2 a1_0 a1_1 a1_2)))) else ((span_Holds.f k a0_0 a0_1 a0_2 a2).bind fun t208 => (if t208 = true then ((span_Holds.f k a1_0 a1_1 a1_2 a2).bind fun t209 => (tidelinelaw02_SpanKeys.j0 k a2 (false != t209) a0_0 a0_1 a0_2 a1_0 a1_1 a1_2)) else (tidelinelaw02_SpanKeys.j0 k a2 (false != false) a0_0 a0_1 a0_2 a1_0 a1_1 a1_2))))) = some r := by rw [if_pos rfl] at H; exact H
    clear H
    have H := H1
    clear H1
    replace H := Option.bind_eq_some_iff.mp H
    obtain ⟨⟨t200, t201, t202, t203⟩, A60, H⟩ := H
    replace H : (if t203 = true then ((span_Holds.f k t200 t201 t202 a2).bind fun t205 => ((span_Holds.f k a0_0 a0_1 a0_2 a2).bind fun t206 => (if t206 = true then ((span_Holds.f k a1_0 a1_1 a1_2 a2).bind fun t207 => (tidelinelaw02_SpanKeys.j0 k a2 (t205 != t207) a0_0 a0_1 a0_2 a1_0 a1_1 a1_2)) else (tidelinelaw02_SpanKeys.j0 k a2 (t205 != false) a0_0 a0_1 a0_2 a1_0 a1_1 a1_2)))) else ((span_Holds.f k a0_0 a0_1 a0_2 a2).bind fun t208 => (if t208 = true then ((span_Holds.f k a1_0 a1_1 a1_2 a2).bind fun t209 => (tidelinelaw02_SpanKeys.j0 k a2 (false != t209) a0_0 a0_1 a0_2 a1_0 a1_1 a1_2)) else (tidelinelaw02_SpanKeys.j0 k a2 (false != false) a0_0 a0_1 a0_2 a1_0 a1_1 a1_2)))) = some r := H
    have A6 := Aside0.mk A60
    clear A60
    have HC7 := Aside0.mk H
    clear H
    go_enter Try.func8, Try.ntmps8
    go_upto_region 4 with (first | ((with_reducible refine gate_dst (N := 3) rfl ?_); refine box_event ?hg (N := 3) ?hd (cs := #[.string a0_0, .string a0_1, .bool a0_2]) (t := 23) ?hr ?_; (case hd => rfl); (case hg => rfl); (case hr => first | (go_simp; done) | (go_simp; rfl)); intro gb197 hg w8 hbox hb; have n0_ := Aside0.mk (below_step (by repeat (first | (with_reducible first | exact HB.out | apply below_alloc | apply pw_below_drewN | apply below_drew1) | exact HB.out)) hb); have n1_ := Aside0.mk (hbox); have n2_ := Aside0.mk ((by rw [hg]; exact (below_size (by repeat (first | (with_reducible first | exact HB.out | apply below_alloc | apply pw_below_drewN | apply below_drew1) | exact HB.out))) : w.heap.size ≤ gb197)); have n3_ := Aside0.mk ((by rw [hg]; exact (below_size (by repeat (first | (with_reducible first | exact HB.out | apply below_alloc | apply pw_below_drewN | apply below_drew1) | exact HB.out))) : w.heap.size ≤ gb197)); clear HB; have HB := n0_; have BK197 := n1_; have GW197 := n2_; have GE197 := n3_; clear n0_ n1_ n2_ n3_; clear hb hbox hg) | ((with_reducible refine gate_dst (N := 4) rfl ?_); refine box_event ?hg (N := 4) ?hd (cs := #[.string a1_0, .string a1_1, .bool a1_2]) (t := 23) ?hr ?_; (case hd => rfl); (case hg => rfl); (case hr => first | (go_simp; done) | (go_simp; rfl)); intro gb198 hg w9 hbox hb; have n0_ := Aside0.mk (blk_below (g := gb197) (o := .cells #[.string a0_0, .string a0_1, .bool a0_2] 23 (0, 0)) (by (with_reducible repeat (first | refine blk_drewN ?_ _ | refine blk_drew ?_ | refine blk_alloc ?_ _)); exact BK197.out) hb); have n1_ := Aside0.mk (below_step (by repeat (first | (with_reducible first | exact HB.out | apply below_alloc | apply pw_below_drewN | apply below_drew1 | refine below_set ?_ GE197.out) | exact HB.out)) hb); have n2_ := Aside0.mk (hbox); have n3_ := Aside0.mk ((by rw [hg]; exact (below_size (by repeat (first | (with_reducible first | exact HB.out | apply below_alloc | apply pw_below_drewN | apply below_drew1 | refine below_set ?_ GE197.out) | exact HB.out))) : w.heap.size ≤ gb198)); have n4_ := Aside0.mk ((by rw [hg]; exact (below_size (by repeat (first | (with_reducible first | exact HB.out | apply below_alloc | apply pw_below_drewN | apply below_drew1 | refine below_set ?_ GE197.out) | exact HB.out))) : w.heap.size ≤ gb198)); have n5_ := Aside0.mk ((by rw [hg]; exact Nat.ne_of_lt (blk_lt (g := gb197) (o := .cells #[.string a0_0, .string a0_1, .bool a0_2] 23 (0, 0)) (by (with_reducible repeat (first | refine blk_drewN ?_ _ | refine blk_drew ?_ | refine blk_alloc ?_ _)); exact BK197.out)) : gb197 ≠ gb198)); have n6_ := Aside0.mk ((by rw [hg]; exact Nat.ne_of_gt (blk_lt (g := gb197) (o := .cells #[.string a0_0, .string a0_1, .bool a0_2] 23 (0, 0)) (by (with_reducible repeat (first | refine blk_drewN ?_ _ | refine blk_drew ?_ | refine blk_alloc ?_ _)); exact BK197.out)) : gb198 ≠ gb197)); clear BK197; clear HB; have BK197 := n0_; have HB := n1_; have BK198 := n2_; have GW198 := n3_; have GE198 := n4_; have NB197_198 := n5_; have NB198_197 := n6_; clear n0_ n1_ n2_ n3_ n4_ n5_ n6_; clear hb hbox hg) | ((with_reducible refine gate_callee (f := 11) rfl ?_); refine goesL_ (some 10) rfl rfl Try.func11 (by kernel_rfl) rfl #[] rfl (by (try simp only [List.map_toArray, List.map_cons, List.map_nil]); first | done | rfl | (simp only [List.length_drop, List.length_take]; rfl)) ?_; (with_reducible refine (tidelinelaw02_shown.calls k  true _ ?sideG A4.out).mono ?_); (case sideG => exact Glob.GlobOK.below HG.out (by repeat (first | (with_reducible first | exact HB.out | apply below_alloc | apply pw_below_drewN | apply below_drew1) | exact HB.out))); rintro e w10 ⟨rfl, hb⟩; refine ⟨_, rfl, ?_⟩; have n0_ := Aside0.mk (blk_below (g := gb197) (o := .cells #[.string a0_0, .string a0_1, .bool a0_2] 23 (0, 0)) (by (with_reducible repeat (first | refine blk_drewN ?_ _ | refine blk_drew ?_ | refine blk_alloc ?_ _)); exact BK197.out) hb); have n1_ := Aside0.mk (blk_below (g := gb198) (o := .cells #[.string a1_0, .string a1_1, .bool a1_2] 23 (0, 0)) (by (with_reducible repeat (first | refine blk_drewN ?_ _ | refine blk_drew ?_ | refine blk_alloc ?_ _)); exact BK198.out) hb); have n2_ := Aside0.mk (below_step (by repeat (first | (with_reducible first | exact HB.out | apply below_alloc | apply pw_below_drewN | apply below_drew1 | refine below_set ?_ GE197.out | refine below_set ?_ GE198.out) | exact HB.out)) hb); clear BK197; clear BK198; clear HB; have BK197 := n0_; have BK198 := n1_; have HB := n2_; clear n0_ n1_ n2_; (try clear hb); (try clear hb2); (try clear hk); (try clear hi); have hnb11 := NB197_198.out; have hnc11 := NB198_197.out; have hcz12_0 : w10.cell? ⟨gb197, 0, none⟩ = some (.string a0_0) := (blk_cell BK197.out 0).trans rfl; have hcz12_1 : w10.cell? ⟨gb197, 1, none⟩ = some (.string a0_1) := (blk_cell BK197.out 1).trans rfl; have hcz12_2 : w10.cell? ⟨gb197, 2, none⟩ = some (.bool a0_2) := (blk_cell BK197.out 2).trans rfl; have hfz12_0 := blk_frozen BK197.out 0; have hfz12_1 := blk_frozen BK197.out 1; have hfz12_2 := blk_frozen BK197.out 2; have hcz13_0 : w10.cell? ⟨gb198, 0, none⟩ = some (.string a1_0) := (blk_cell BK198.out 0).trans rfl; have hcz13_1 : w10.cell? ⟨gb198, 1, none⟩ = some (.string a1_1) := (blk_cell BK198.out 1).trans rfl; have hcz13_2 : w10.cell? ⟨gb198, 2, none⟩ = some (.bool a1_2) := (blk_cell BK198.out 2).trans rfl; have hfz13_0 := blk_frozen BK198.out 0; have hfz13_1 := blk_frozen BK198.out 1; have hfz13_2 := blk_frozen BK198.out 2) | ((with_reducible refine gate_callee (f := 25) rfl ?_); refine goesL_ (some 15) rfl rfl Try.func25 (by kernel_rfl) rfl #[.agg #[.string a0_0, .string a0_1, .bool a0_2], .agg #[.string a1_0, .string a1_1, .bool a1_2]] rfl (by (try simp only [List.map_toArray, List.map_cons, List.map_nil]); first | done | rfl | (simp only [List.length_drop, List.length_take]; rfl)) ?_; (with_reducible refine (span_Meet.calls k a0_0 a0_1 a0_2 a1_0 a1_1 a1_2 t200 t201 t202 t203 _ A6.out).mono ?_); rintro e w14 ⟨rfl, hb⟩; refine ⟨_, rfl, ?_⟩; have n0_ := Aside0.mk (blk_below (g := gb197) (o := .cells #[.string a0_0, .string a0_1, .bool a0_2] 23 (0, 0)) (by (with_reducible repeat (first | refine blk_drewN ?_ _ | refine blk_drew ?_ | refine blk_alloc ?_ _)); exact BK197.out) hb); have n1_ := Aside0.mk (blk_below (g := gb198) (o := .cells #[.string a1_0, .string a1_1, .bool a1_2] 23 (0, 0)) (by (with_reducible repeat (first | refine blk_drewN ?_ _ | refine blk_drew ?_ | refine blk_alloc ?_ _)); exact BK198.out) hb); have n2_ := Aside0.mk (below_step (by repeat (first | (with_reducible first | exact HB.out | apply below_alloc | apply pw_below_drewN | apply below_drew1 | refine below_set ?_ GE197.out | refine below_set ?_ GE198.out) | exact HB.out)) hb); clear BK197; clear BK198; clear HB; have BK197 := n0_; have BK198 := n1_; have HB := n2_; clear n0_ n1_ n2_; (try clear hb); (try clear hb2); (try clear hk); (try clear hi)) | ((with_reducible refine gate_dst (N := 7) rfl ?_); refine box_event ?hg (N := 7) ?hd (cs := #[.string (⟨#[]⟩ : ByteArray), .string (⟨#[]⟩ : ByteArray), .bool false]) (t := 23) ?hr ?_; (case hd => rfl); (case hg => rfl); (case hr => first | (go_simp; done) | (go_simp; rfl)); intro gb204 hg w15 hbox hb; have n0_ := Aside0.mk (blk_below (g := gb197) (o := .cells #[.string a0_0, .string a0_1, .bool a0_2] 23 (0, 0)) (by (with_reducible repeat (first | refine blk_drewN ?_ _ | refine blk_drew ?_ | refine blk_alloc ?_ _)); exact BK197.out) hb); have n1_ := Aside0.mk (blk_below (g := gb198) (o := .cells #[.string a1_0, .string a1_1, .bool a1_2] 23 (0, 0)) (by (with_reducible repeat (first | refine blk_drewN ?_ _ | refine blk_drew ?_ | refine blk_alloc ?_ _)); exact BK198.out) hb); have n2_ := Aside0.mk (below_step (by repeat (first | (with_reducible first | exact HB.out | apply below_alloc | apply pw_below_drewN | apply below_drew1 | refine below_set ?_ GE197.out | refine below_set ?_ GE198.out) | exact HB.out)) hb); have n3_ := Aside0.mk (hbox); have n4_ := Aside0.mk ((by rw [hg]; exact (below_size (by repeat (first | (with_reducible first | exact HB.out | apply below_alloc | apply pw_below_drewN | apply below_drew1 | refine below_set ?_ GE197.out | refine below_set ?_ GE198.out) | exact HB.out))) : w.heap.size ≤ gb204)); have n5_ := Aside0.mk ((by rw [hg]; exact (below_size (by repeat (first | (with_reducible first | exact HB.out | apply below_alloc | apply pw_below_drewN | apply below_drew1 | refine below_set ?_ GE197.out | refine below_set ?_ GE198.out) | exact HB.out))) : w.heap.size ≤ gb204)); have n6_ := Aside0.mk ((by rw [hg]; exact Nat.ne_of_lt (blk_lt (g := gb197) (o := .cells #[.string a0_0, .string a0_1, .bool a0_2] 23 (0, 0)) (by (with_reducible repeat (first | refine blk_drewN ?_ _ | refine blk_drew ?_ | refine blk_alloc ?_ _)); exact BK197.out)) : gb197 ≠ gb204)); have n7_ := Aside0.mk ((by rw [hg]; exact Nat.ne_of_gt (blk_lt (g := gb197) (o := .cells #[.string a0_0, .string a0_1, .bool a0_2] 23 (0, 0)) (by (with_reducible repeat (first | refine blk_drewN ?_ _ | refine blk_drew ?_ | refine blk_alloc ?_ _)); exact BK197.out)) : gb204 ≠ gb197)); have n8_ := Aside0.mk ((by rw [hg]; exact Nat.ne_of_lt (blk_lt (g := gb198) (o := .cells #[.string a1_0, .string a1_1, .bool a1_2] 23 (0, 0)) (by (with_reducible repeat (first | refine blk_drewN ?_ _ | refine blk_drew ?_ | refine blk_alloc ?_ _)); exact BK198.out)) : gb198 ≠ gb204)); have n9_ := Aside0.mk ((by rw [hg]; exact Nat.ne_of_gt (blk_lt (g := gb198) (o := .cells #[.string a1_0, .string a1_1, .bool a1_2] 23 (0, 0)) (by (with_reducible repeat (first | refine blk_drewN ?_ _ | refine blk_drew ?_ | refine blk_alloc ?_ _)); exact BK198.out)) : gb204 ≠ gb198)); clear BK197; clear BK198; clear HB; have BK197 := n0_; have BK198 := n1_; have HB := n2_; have BK204 := n3_; have GW204 := n4_; have GE204 := n5_; have NB197_204 := n6_; have NB204_197 := n7_; have NB198_204 := n8_; have NB204_198 := n9_; clear n0_ n1_ n2_ n3_ n4_ n5_ n6_ n7_ n8_ n9_; clear hb hbox hg; have hnb16 := NB204_197.out; have hnc16 := NB197_204.out; have hnb17 := NB204_198.out; have hnc17 := NB198_204.out; have hcz18_0 : w15.cell? ⟨gb204, 0, none⟩ = some (.string (⟨#[]⟩ : ByteArray)) := (blk_cell BK204.out 0).trans rfl; have hcz18_1 : w15.cell? ⟨gb204, 1, none⟩ = some (.string (⟨#[]⟩ : ByteArray)) := (blk_cell BK204.out 1).trans rfl; have hcz18_2 : w15.cell? ⟨gb204, 2, none⟩ = some (.bool false) := (blk_cell BK204.out 2).trans rfl; have hfz18_0 := blk_frozen BK204.out 0; have hfz18_1 := blk_frozen BK204.out 1; have hfz18_2 := blk_frozen BK204.out 2))
    (try simp only [Act.put, List.setIfInBounds_toArray, List.set_cons_zero, List.set_cons_succ])
    go_cut [32] (fun v32 wc => ∃ (kq : Nat) (x32_6 : Bool), v32 = .bool x32_6 ∧ Aside0 (tidelinelaw02_SpanKeys.j0 kq a2 x32_6 a0_0 a0_1 a0_2 a1_0 a1_1 a1_2 = some r) ∧ Aside0 (kq ≤ k) ∧ Aside0 (wc.heap[gb197]? = some (.cells #[.string a0_0, .string a0_1, .bool a0_2] 23 (0, 0))) ∧ Aside0 (wc.heap[gb198]? = some (.cells #[.string a1_0, .string a1_1, .bool a1_2] 23 (0, 0))) ∧ Aside0 (wc.heap[gb204]? = some (.cells #[.string t200, .string t201, .bool t202] 23 (0, 0))) ∧ Aside0 (Below w.heap.size w wc))
    case first =>
      have H := HC7.out
      clear HC7
      by_cases c19 : t203 = true
      · subst c19
        have H1 : ((span_Holds.f k t200 t201 t202 a2).bind fun t205 => ((span_Holds.f k a0_0 a0_1 a0_2 a2).bind fun t206 => (if t206 = true then ((span_Holds.f k a1_0 a1_1 a1_2 a2).bind fun t207 => (tidelinelaw02_SpanKeys.j0 k a2 (t205 != t207) a0_0 a0_1 a0_2 a1_0 a1_1 a1_2)) else (tidelinelaw02_SpanKeys.j0 k a2 (t205 != false) a0_0 a0_1 a0_2 a1_0 a1_1 a1_2)))) = some r := by rw [if_pos rfl] at H; exact H
        clear H
        have H := H1
        clear H1
        replace H := Option.bind_eq_some_iff.mp H
        obtain ⟨t205, A200, H⟩ := H
        replace H : ((span_Holds.f k a0_0 a0_1 a0_2 a2).bind fun t206 => (if t206 = true then ((span_Holds.f k a1_0 a1_1 a1_2 a2).bind fun t207 => (tidelinelaw02_SpanKeys.j0 k a2 (t205 != t207) a0_0 a0_1 a0_2 a1_0 a1_1 a1_2)) else (tidelinelaw02_SpanKeys.j0 k a2 (t205 != false) a0_0 a0_1 a0_2 a1_0 a1_1 a1_2))) = some r := H
        have A20 := Aside0.mk A200
        clear A200
        replace H := Option.bind_eq_some_iff.mp H
        obtain ⟨t206, A210, H⟩ := H
        replace H : (if t206 = true then ((span_Holds.f k a1_0 a1_1 a1_2 a2).bind fun t207 => (tidelinelaw02_SpanKeys.j0 k a2 (t205 != t207) a0_0 a0_1 a0_2 a1_0 a1_1 a1_2)) else (tidelinelaw02_SpanKeys.j0 k a2 (t205 != false) a0_0 a0_1 a0_2 a1_0 a1_1 a1_2)) = some r := H
        have A21 := Aside0.mk A210
        clear A210
        by_cases c22 : t206 = true
        · subst c22
          have H1 : ((span_Holds.f k a1_0 a1_1 a1_2 a2).bind fun t207 => (tidelinelaw02_SpanKeys.j0 k a2 (t205 != t207) a0_0 a0_1 a0_2 a1_0 a1_1 a1_2)) = some r := by rw [if_pos rfl] at H; exact H
          clear H
          have H := H1
          clear H1
          replace H := Option.bind_eq_some_iff.mp H
          obtain ⟨t207, A230, H⟩ := H
          replace H : (tidelinelaw02_SpanKeys.j0 k a2 (t205 != t207) a0_0 a0_1 a0_2 a1_0 a1_1 a1_2) = some r := H
          have A23 := Aside0.mk A230
          clear A230
          have H' := Aside0.mk H
          clear H
          try go_wp2
          have n0_ : Aside0 ((((w15.setCell ⟨gb204, 0, none⟩ (.string t200)).setCell ⟨gb204, 1, none⟩ (.string t201)).setCell ⟨gb204, 2, none⟩ (.bool t202)).heap[gb197]? = some (.cells #[.string a0_0, .string a0_1, .bool a0_2] 23 (0, 0))) := ⟨by (with_reducible repeat (first | refine blk_drewN ?_ _ | refine blk_drew ?_ | refine blk_alloc ?_ _)); refine blk_far ?_ NB197_204.out _; (with_reducible repeat (first | refine blk_drewN ?_ _ | refine blk_drew ?_ | refine blk_alloc ?_ _)); refine blk_far ?_ NB197_204.out _; (with_reducible repeat (first | refine blk_drewN ?_ _ | refine blk_drew ?_ | refine blk_alloc ?_ _)); refine blk_far ?_ NB197_204.out _; (with_reducible repeat (first | refine blk_drewN ?_ _ | refine blk_drew ?_ | refine blk_alloc ?_ _)); exact BK197.out⟩
          have n1_ : Aside0 ((((w15.setCell ⟨gb204, 0, none⟩ (.string t200)).setCell ⟨gb204, 1, none⟩ (.string t201)).setCell ⟨gb204, 2, none⟩ (.bool t202)).heap[gb198]? = some (.cells #[.string a1_0, .string a1_1, .bool a1_2] 23 (0, 0))) := ⟨by (with_reducible repeat (first | refine blk_drewN ?_ _ | refine blk_drew ?_ | refine blk_alloc ?_ _)); refine blk_far ?_ NB198_204.out _; (with_reducible repeat (first | refine blk_drewN ?_ _ | refine blk_drew ?_ | refine blk_alloc ?_ _)); refine blk_far ?_ NB198_204.out _; (with_reducible repeat (first | refine blk_drewN ?_ _ | refine blk_drew ?_ | refine blk_alloc ?_ _)); refine blk_far ?_ NB198_204.out _; (with_reducible repeat (first | refine blk_drewN ?_ _ | refine blk_drew ?_ | refine blk_alloc ?_ _)); exact BK198.out⟩
          have n2_ : Aside0 ((((w15.setCell ⟨gb204, 0, none⟩ (.string t200)).setCell ⟨gb204, 1, none⟩ (.string t201)).setCell ⟨gb204, 2, none⟩ (.bool t202)).heap[gb204]? = some (.cells #[.string t200, .string t201, .bool t202] 23 (0, 0))) := ⟨by (with_reducible repeat (first | refine blk_drewN ?_ _ | refine blk_drew ?_ | refine blk_alloc ?_ _)); refine blk_put (cs := #[.string t200, .string t201, .bool false]) ?_ 2 _ rfl; (with_reducible repeat (first | refine blk_drewN ?_ _ | refine blk_drew ?_ | refine blk_alloc ?_ _)); refine blk_put (cs := #[.string t200, .string (⟨#[]⟩ : ByteArray), .bool false]) ?_ 1 _ rfl; (with_reducible repeat (first | refine blk_drewN ?_ _ | refine blk_drew ?_ | refine blk_alloc ?_ _)); refine blk_put (cs := #[.string (⟨#[]⟩ : ByteArray), .string (⟨#[]⟩ : ByteArray), .bool false]) ?_ 0 _ rfl; (with_reducible repeat (first | refine blk_drewN ?_ _ | refine blk_drew ?_ | refine blk_alloc ?_ _)); exact BK204.out⟩
          have n3_ : Aside0 (Below w.heap.size w (((w15.setCell ⟨gb204, 0, none⟩ (.string t200)).setCell ⟨gb204, 1, none⟩ (.string t201)).setCell ⟨gb204, 2, none⟩ (.bool t202))) := ⟨by repeat (first | (with_reducible first | exact HB.out | apply below_alloc | apply pw_below_drewN | apply below_drew1 | refine below_set ?_ GE197.out | refine below_set ?_ GE198.out | refine below_set ?_ GE204.out) | exact HB.out)⟩
          (try clear BK197)
          (try clear BK198)
          (try clear BK204)
          (try clear HB)
          generalize (((w15.setCell ⟨gb204, 0, none⟩ (.string t200)).setCell ⟨gb204, 1, none⟩ (.string t201)).setCell ⟨gb204, 2, none⟩ (.bool t202)) = w24 at n0_ n1_ n2_ n3_ ⊢
          have BK197 := n0_
          have BK198 := n1_
          have BK204 := n2_
          have HB := n3_
          clear n0_ n1_ n2_ n3_
          have n0_ := Aside0.mk (blk_drew BK197.out)
          have n1_ := Aside0.mk (blk_drew BK198.out)
          have n2_ := Aside0.mk (blk_drew BK204.out)
          have n3_ := Aside0.mk (below_drew1 HB.out)
          clear BK197
          clear BK198
          clear BK204
          clear HB
          have BK197 := n0_
          have BK198 := n1_
          have BK204 := n2_
          have HB := n3_
          clear n0_ n1_ n2_ n3_
          refine start_ (n := 15) (S := fun w' => w'.cell? ⟨gb204, 0, none⟩ = some (.string t200) ∧ w'.cell? ⟨gb204, 1, none⟩ = some (.string t201) ∧ w'.cell? ⟨gb204, 2, none⟩ = some (.bool t202) ∧ w'.cell? ⟨gb197, 0, none⟩ = some (.string a0_0) ∧ w'.cell? ⟨gb197, 1, none⟩ = some (.string a0_1) ∧ w'.cell? ⟨gb197, 2, none⟩ = some (.bool a0_2) ∧ w'.cell? ⟨gb198, 0, none⟩ = some (.string a1_0) ∧ w'.cell? ⟨gb198, 1, none⟩ = some (.string a1_1) ∧ w'.cell? ⟨gb198, 2, none⟩ = some (.bool a1_2)) (ds := []) #[false, false, false, false, false, false, false, false, false, false, false, false, false, false, false] (by kernel_rfl) rfl rfl ⟨(blk_cell BK204.out 0).trans rfl, (blk_cell BK204.out 1).trans rfl, (blk_cell BK204.out 2).trans rfl, (blk_cell BK197.out 0).trans rfl, (blk_cell BK197.out 1).trans rfl, (blk_cell BK197.out 2).trans rfl, (blk_cell BK198.out 0).trans rfl, (blk_cell BK198.out 1).trans rfl, (blk_cell BK198.out 2).trans rfl⟩ (fun hHeld => ?_); refine with_tabW tidelinelaw02_SpanKeys.tab4 tidelinelaw02_SpanKeys.bits4 (fun HT_ HW_ => ?_)
          generalize w24.drew = w25 at BK197 BK198 BK204 HB hHeld ⊢
          refine pure_ (i := 0) (N := some 18) (v := ?_) (a' := ?_) #[true, false, false, false, false, false, false, false, false, false, false, false, false, false, false] rfl rfl (any_of HT_.out (by kernel_rfl)) (fun _ _ _ h => h) (Or.inl ⟨by rfl, ?_⟩) ?_ ?_
          rotate_left
          · intro w'
            go_simp
            with_reducible rfl
          rotate_left
          · simp only [Act.put, List.setIfInBounds_toArray, List.set_cons_zero, List.set_cons_succ, i64_w, i32_w]
            rfl
          refine pure_ (i := 1) (N := some 19) (v := ?_) (a' := ?_) #[true, true, false, false, false, false, false, false, false, false, false, false, false, false, false] rfl rfl (any_of HT_.out (by kernel_rfl)) (fun _ _ _ h => h) (Or.inl ⟨by rfl, ?_⟩) ?_ ?_
          rotate_left
          · intro w'
            go_simp
            with_reducible rfl
          rotate_left
          · simp only [Act.put, List.setIfInBounds_toArray, List.set_cons_zero, List.set_cons_succ, i64_w, i32_w]
            rfl
          refine pure_ (i := 3) (N := some 21) (v := ?_) (a' := ?_) #[true, true, false, true, false, false, false, false, false, false, false, false, false, false, false] rfl rfl (any_of HT_.out (by kernel_rfl)) (fun _ _ _ h => h) (Or.inl ⟨by rfl, ?_⟩) ?_ ?_
          rotate_left
          · intro w'
            go_simp
            with_reducible rfl
          rotate_left
          · simp only [Act.put, List.setIfInBounds_toArray, List.set_cons_zero, List.set_cons_succ, i64_w, i32_w]
            rfl
          refine pure_ (i := 7) (N := some 25) (v := ?_) (a' := ?_) #[true, true, false, true, false, false, false, true, false, false, false, false, false, false, false] rfl rfl (any_of HT_.out (by kernel_rfl)) (fun _ _ _ h => h) (Or.inl ⟨by rfl, ?_⟩) ?_ ?_
          rotate_left
          · intro w'
            go_simp
            with_reducible rfl
          rotate_left
          · simp only [Act.put, List.setIfInBounds_toArray, List.set_cons_zero, List.set_cons_succ, i64_w, i32_w]
            rfl
          refine take_ (i := 2) (N := some 20) (v := ?_) (a' := ?_) #[true, true, true, true, false, false, false, true, false, false, false, false, false, false, false] rfl rfl (take_ofW HT_.out HW_.out (by kernel_rfl)) (fun _ _ _ h => h) (Or.inl ⟨by rfl, ?_⟩) hHeld ?_ ?_
          rotate_left
          · rintro w' ⟨s0, s1, s2, s3, s4, s5, s6, s7, s8⟩
            go_simp
            with_reducible rfl
          rotate_left
          · simp only [Act.put, List.setIfInBounds_toArray, List.set_cons_zero, List.set_cons_succ, i64_w, i32_w]
            rfl
          refine take_ (i := 6) (N := some 24) (v := ?_) (a' := ?_) #[true, true, true, true, false, false, true, true, false, false, false, false, false, false, false] rfl rfl (take_ofW HT_.out HW_.out (by kernel_rfl)) (fun _ _ _ h => h) (Or.inl ⟨by rfl, ?_⟩) hHeld ?_ ?_
          rotate_left
          · rintro w' ⟨s0, s1, s2, s3, s4, s5, s6, s7, s8⟩
            go_simp
            with_reducible rfl
          rotate_left
          · simp only [Act.put, List.setIfInBounds_toArray, List.set_cons_zero, List.set_cons_succ, i64_w, i32_w]
            rfl
          refine one_ (i := 4) (N := some 22) #[true, true, true, true, true, false, true, true, false, false, false, false, false, false, false] rfl rfl (one_of HT_.out (by kernel_rfl)) (by decide) (fun K hK => ?_)
          refine goes_ Try.func16 (by kernel_rfl) rfl #[.agg #[.string t200, .string t201, .bool t202], .string a2] (by rfl) rfl rfl (by (try simp only [List.map_toArray, List.map_cons, List.map_nil]); first | done | rfl | (simp only [List.length_drop, List.length_take]; rfl)) ?_
          with_reducible refine (span_Holds.calls k t200 t201 t202 a2 t205 _ A20.out).mono ?_
          rintro e w26 ⟨rfl, hb⟩
          refine ⟨_, rfl, ?_⟩
          have n0_ := Aside0.mk (blk_below (g := gb197) (o := .cells #[.string a0_0, .string a0_1, .bool a0_2] 23 (0, 0)) (by (with_reducible repeat (first | refine blk_drewN ?_ _ | refine blk_drew ?_ | refine blk_alloc ?_ _)); exact BK197.out) hb)
          have n1_ := Aside0.mk (blk_below (g := gb198) (o := .cells #[.string a1_0, .string a1_1, .bool a1_2] 23 (0, 0)) (by (with_reducible repeat (first | refine blk_drewN ?_ _ | refine blk_drew ?_ | refine blk_alloc ?_ _)); exact BK198.out) hb)
          have n2_ := Aside0.mk (blk_below (g := gb204) (o := .cells #[.string t200, .string t201, .bool t202] 23 (0, 0)) (by (with_reducible repeat (first | refine blk_drewN ?_ _ | refine blk_drew ?_ | refine blk_alloc ?_ _)); exact BK204.out) hb)
          have n3_ := Aside0.mk (below_step (by repeat (first | (with_reducible first | exact HB.out | apply below_alloc | apply pw_below_drewN | apply below_drew1 | refine below_set ?_ GE197.out | refine below_set ?_ GE198.out | refine below_set ?_ GE204.out) | exact HB.out)) hb)
          clear BK197
          clear BK198
          clear BK204
          clear HB
          have BK197 := n0_
          have BK198 := n1_
          have BK204 := n2_
          have HB := n3_
          clear n0_ n1_ n2_ n3_
          (try clear hb)
          (try clear hb2)
          (try clear hk)
          (try clear hi)
          refine hK.out _ _ ⟨(blk_cell BK204.out 0).trans rfl, (blk_cell BK204.out 1).trans rfl, (blk_cell BK204.out 2).trans rfl, (blk_cell BK197.out 0).trans rfl, (blk_cell BK197.out 1).trans rfl, (blk_cell BK197.out 2).trans rfl, (blk_cell BK198.out 0).trans rfl, (blk_cell BK198.out 1).trans rfl, (blk_cell BK198.out 2).trans rfl⟩ (fun hHeld => ?_)
          clear hK K
          refine norm_ (a' := ?_) ?_ ?_
          rotate_left
          · show Act.put _ (some 22) _ = _
            simp only [Act.put, List.setIfInBounds_toArray, List.set_cons_zero, List.set_cons_succ, i64_w, i32_w]
            rfl
          refine pure_ (i := 5) (N := some 23) (v := ?_) (a' := ?_) #[true, true, true, true, true, true, true, true, false, false, false, false, false, false, false] rfl rfl (any_of HT_.out (by kernel_rfl)) (fun _ _ _ h => h) (Or.inl ⟨by rfl, ?_⟩) ?_ ?_
          rotate_left
          · intro w'
            go_simp
            with_reducible rfl
          rotate_left
          · simp only [Act.put, List.setIfInBounds_toArray, List.set_cons_zero, List.set_cons_succ, i64_w, i32_w]
            rfl
          refine one_ (i := 8) (N := some 26) #[true, true, true, true, true, true, true, true, true, false, false, false, false, false, false] rfl rfl (one_of HT_.out (by kernel_rfl)) (by decide) (fun K hK => ?_)
          refine goes_ Try.func16 (by kernel_rfl) rfl #[.agg #[.string a0_0, .string a0_1, .bool a0_2], .string a2] (by rfl) rfl rfl (by (try simp only [List.map_toArray, List.map_cons, List.map_nil]); first | done | rfl | (simp only [List.length_drop, List.length_take]; rfl)) ?_
          with_reducible refine (span_Holds.calls k a0_0 a0_1 a0_2 a2 true _ A21.out).mono ?_
          rintro e w27 ⟨rfl, hb⟩
          refine ⟨_, rfl, ?_⟩
          have n0_ := Aside0.mk (blk_below (g := gb197) (o := .cells #[.string a0_0, .string a0_1, .bool a0_2] 23 (0, 0)) (by (with_reducible repeat (first | refine blk_drewN ?_ _ | refine blk_drew ?_ | refine blk_alloc ?_ _)); exact BK197.out) hb)
          have n1_ := Aside0.mk (blk_below (g := gb198) (o := .cells #[.string a1_0, .string a1_1, .bool a1_2] 23 (0, 0)) (by (with_reducible repeat (first | refine blk_drewN ?_ _ | refine blk_drew ?_ | refine blk_alloc ?_ _)); exact BK198.out) hb)
          have n2_ := Aside0.mk (blk_below (g := gb204) (o := .cells #[.string t200, .string t201, .bool t202] 23 (0, 0)) (by (with_reducible repeat (first | refine blk_drewN ?_ _ | refine blk_drew ?_ | refine blk_alloc ?_ _)); exact BK204.out) hb)
          have n3_ := Aside0.mk (below_step (by repeat (first | (with_reducible first | exact HB.out | apply below_alloc | apply pw_below_drewN | apply below_drew1 | refine below_set ?_ GE197.out | refine below_set ?_ GE198.out | refine below_set ?_ GE204.out) | exact HB.out)) hb)
          clear BK197
          clear BK198
          clear BK204
          clear HB
          have BK197 := n0_
          have BK198 := n1_
          have BK204 := n2_
          have HB := n3_
          clear n0_ n1_ n2_ n3_
          (try clear hb)
          (try clear hb2)
          (try clear hk)
          (try clear hi)
          refine hK.out _ _ ⟨(blk_cell BK204.out 0).trans rfl, (blk_cell BK204.out 1).trans rfl, (blk_cell BK204.out 2).trans rfl, (blk_cell BK197.out 0).trans rfl, (blk_cell BK197.out 1).trans rfl, (blk_cell BK197.out 2).trans rfl, (blk_cell BK198.out 0).trans rfl, (blk_cell BK198.out 1).trans rfl, (blk_cell BK198.out 2).trans rfl⟩ (fun hHeld => ?_)
          clear hK K
          refine norm_ (a' := ?_) ?_ ?_
          rotate_left
          · show Act.put _ (some 26) _ = _
            simp only [Act.put, List.setIfInBounds_toArray, List.set_cons_zero, List.set_cons_succ, i64_w, i32_w]
            rfl
          refine pure_ (i := 9) (N := some 27) (v := ?_) (a' := ?_) #[true, true, true, true, true, true, true, true, true, true, false, false, false, false, false] rfl rfl (any_of HT_.out (by kernel_rfl)) (fun _ _ _ h => h) (Or.inl ⟨by rfl, ?_⟩) ?_ ?_
          rotate_left
          · intro w'
            go_simp
            with_reducible rfl
          rotate_left
          · simp only [Act.put, List.setIfInBounds_toArray, List.set_cons_zero, List.set_cons_succ, i64_w, i32_w]
            rfl
          refine pure_ (i := 11) (N := some 29) (v := ?_) (a' := ?_) #[true, true, true, true, true, true, true, true, true, true, false, true, false, false, false] rfl rfl (any_of HT_.out (by kernel_rfl)) (fun _ _ _ h => h) (Or.inl ⟨by rfl, ?_⟩) ?_ ?_
          rotate_left
          · intro w'
            go_simp
            with_reducible rfl
          rotate_left
          · simp only [Act.put, List.setIfInBounds_toArray, List.set_cons_zero, List.set_cons_succ, i64_w, i32_w]
            rfl
          refine take_ (i := 10) (N := some 28) (v := ?_) (a' := ?_) #[true, true, true, true, true, true, true, true, true, true, true, true, false, false, false] rfl rfl (take_ofW HT_.out HW_.out (by kernel_rfl)) (fun _ _ _ h => h) (Or.inl ⟨by rfl, ?_⟩) hHeld ?_ ?_
          rotate_left
          · rintro w' ⟨s0, s1, s2, s3, s4, s5, s6, s7, s8⟩
            go_simp
            with_reducible rfl
          rotate_left
          · simp only [Act.put, List.setIfInBounds_toArray, List.set_cons_zero, List.set_cons_succ, i64_w, i32_w]
            rfl
          refine one_ (i := 12) (N := some 30) #[true, true, true, true, true, true, true, true, true, true, true, true, true, false, false] rfl rfl (one_of HT_.out (by kernel_rfl)) (by decide) (fun K hK => ?_)
          refine goes_ Try.func16 (by kernel_rfl) rfl #[.agg #[.string a1_0, .string a1_1, .bool a1_2], .string a2] (by rfl) rfl rfl (by (try simp only [List.map_toArray, List.map_cons, List.map_nil]); first | done | rfl | (simp only [List.length_drop, List.length_take]; rfl)) ?_
          with_reducible refine (span_Holds.calls k a1_0 a1_1 a1_2 a2 t207 _ A23.out).mono ?_
          rintro e w28 ⟨rfl, hb⟩
          refine ⟨_, rfl, ?_⟩
          have n0_ := Aside0.mk (blk_below (g := gb197) (o := .cells #[.string a0_0, .string a0_1, .bool a0_2] 23 (0, 0)) (by (with_reducible repeat (first | refine blk_drewN ?_ _ | refine blk_drew ?_ | refine blk_alloc ?_ _)); exact BK197.out) hb)
          have n1_ := Aside0.mk (blk_below (g := gb198) (o := .cells #[.string a1_0, .string a1_1, .bool a1_2] 23 (0, 0)) (by (with_reducible repeat (first | refine blk_drewN ?_ _ | refine blk_drew ?_ | refine blk_alloc ?_ _)); exact BK198.out) hb)
          have n2_ := Aside0.mk (blk_below (g := gb204) (o := .cells #[.string t200, .string t201, .bool t202] 23 (0, 0)) (by (with_reducible repeat (first | refine blk_drewN ?_ _ | refine blk_drew ?_ | refine blk_alloc ?_ _)); exact BK204.out) hb)
          have n3_ := Aside0.mk (below_step (by repeat (first | (with_reducible first | exact HB.out | apply below_alloc | apply pw_below_drewN | apply below_drew1 | refine below_set ?_ GE197.out | refine below_set ?_ GE198.out | refine below_set ?_ GE204.out) | exact HB.out)) hb)
          clear BK197
          clear BK198
          clear BK204
          clear HB
          have BK197 := n0_
          have BK198 := n1_
          have BK204 := n2_
          have HB := n3_
          clear n0_ n1_ n2_ n3_
          (try clear hb)
          (try clear hb2)
          (try clear hk)
          (try clear hi)
          refine hK.out _ _ ⟨(blk_cell BK204.out 0).trans rfl, (blk_cell BK204.out 1).trans rfl, (blk_cell BK204.out 2).trans rfl, (blk_cell BK197.out 0).trans rfl, (blk_cell BK197.out 1).trans rfl, (blk_cell BK197.out 2).trans rfl, (blk_cell BK198.out 0).trans rfl, (blk_cell BK198.out 1).trans rfl, (blk_cell BK198.out 2).trans rfl⟩ (fun hHeld => ?_)
          clear hK K
          refine norm_ (a' := ?_) ?_ ?_
          rotate_left
          · show Act.put _ (some 30) _ = _
            simp only [Act.put, List.setIfInBounds_toArray, List.set_cons_zero, List.set_cons_succ, i64_w, i32_w]
            rfl
          refine pure_ (i := 13) (N := some 31) (v := ?_) (a' := ?_) #[true, true, true, true, true, true, true, true, true, true, true, true, true, true, false] rfl rfl (any_of HT_.out (by kernel_rfl)) (fun _ _ _ h => h) (Or.inl ⟨by rfl, ?_⟩) ?_ ?_
          rotate_left
          · intro w'
            go_simp
            with_reducible rfl
          rotate_left
          · simp only [Act.put, List.setIfInBounds_toArray, List.set_cons_zero, List.set_cons_succ, i64_w, i32_w]
            rfl
          refine pure_ (i := 14) (N := some 32) (v := ?_) (a' := ?_) #[true, true, true, true, true, true, true, true, true, true, true, true, true, true, true] rfl rfl (any_of HT_.out (by kernel_rfl)) (fun _ _ _ h => h) (Or.inl ⟨by rfl, ?_⟩) ?_ ?_
          rotate_left
          · intro w'
            go_simp
            with_reducible rfl
          rotate_left
          · simp only [Act.put, List.setIfInBounds_toArray, List.set_cons_zero, List.set_cons_succ, i64_w, i32_w]
            rfl
          refine done_ (done_of HT_.out (by kernel_rfl)) ?_
          try go_wp2
          go_meet
          case rel => exact ⟨_, ((t205 != t207)), (by first | rfl | (simp; done) | (simp [*]; done) | (simp [*, Go.Proofs.Ytgdhgamolenfgaa.Str.bne_nil]; done)), H', ⟨by first | omega | exact Nat.le_refl _⟩, ⟨by (with_reducible repeat (first | refine blk_drewN ?_ _ | refine blk_drew ?_ | refine blk_alloc ?_ _)); exact BK197.out⟩, ⟨by (with_reducible repeat (first | refine blk_drewN ?_ _ | refine blk_drew ?_ | refine blk_alloc ?_ _)); exact BK198.out⟩, ⟨by (with_reducible repeat (first | refine blk_drewN ?_ _ | refine blk_drew ?_ | refine blk_alloc ?_ _)); exact BK204.out⟩, ⟨by repeat (first | (with_reducible first | exact HB.out | apply below_alloc | apply pw_below_drewN | apply below_drew1 | refine below_set ?_ GE197.out | refine below_set ?_ GE198.out | refine below_set ?_ GE204.out) | exact HB.out)⟩⟩
        · replace c22 := Bool.eq_false_iff.mpr c22
          subst c22
          have H1 : (tidelinelaw02_SpanKeys.j0 k a2 (t205 != false) a0_0 a0_1 a0_2 a1_0 a1_1 a1_2) = some r := by rw [if_neg (show ¬ (false = true) by decide)] at H; exact H
          clear H
          have H := H1
          clear H1
          have H' := Aside0.mk H
          clear H
          try go_wp2
          have n0_ : Aside0 ((((w15.setCell ⟨gb204, 0, none⟩ (.string t200)).setCell ⟨gb204, 1, none⟩ (.string t201)).setCell ⟨gb204, 2, none⟩ (.bool t202)).heap[gb197]? = some (.cells #[.string a0_0, .string a0_1, .bool a0_2] 23 (0, 0))) := ⟨by (with_reducible repeat (first | refine blk_drewN ?_ _ | refine blk_drew ?_ | refine blk_alloc ?_ _)); refine blk_far ?_ NB197_204.out _; (with_reducible repeat (first | refine blk_drewN ?_ _ | refine blk_drew ?_ | refine blk_alloc ?_ _)); refine blk_far ?_ NB197_204.out _; (with_reducible repeat (first | refine blk_drewN ?_ _ | refine blk_drew ?_ | refine blk_alloc ?_ _)); refine blk_far ?_ NB197_204.out _; (with_reducible repeat (first | refine blk_drewN ?_ _ | refine blk_drew ?_ | refine blk_alloc ?_ _)); exact BK197.out⟩
          have n1_ : Aside0 ((((w15.setCell ⟨gb204, 0, none⟩ (.string t200)).setCell ⟨gb204, 1, none⟩ (.string t201)).setCell ⟨gb204, 2, none⟩ (.bool t202)).heap[gb198]? = some (.cells #[.string a1_0, .string a1_1, .bool a1_2] 23 (0, 0))) := ⟨by (with_reducible repeat (first | refine blk_drewN ?_ _ | refine blk_drew ?_ | refine blk_alloc ?_ _)); refine blk_far ?_ NB198_204.out _; (with_reducible repeat (first | refine blk_drewN ?_ _ | refine blk_drew ?_ | refine blk_alloc ?_ _)); refine blk_far ?_ NB198_204.out _; (with_reducible repeat (first | refine blk_drewN ?_ _ | refine blk_drew ?_ | refine blk_alloc ?_ _)); refine blk_far ?_ NB198_204.out _; (with_reducible repeat (first | refine blk_drewN ?_ _ | refine blk_drew ?_ | refine blk_alloc ?_ _)); exact BK198.out⟩
          have n2_ : Aside0 ((((w15.setCell ⟨gb204, 0, none⟩ (.string t200)).setCell ⟨gb204, 1, none⟩ (.string t201)).setCell ⟨gb204, 2, none⟩ (.bool t202)).heap[gb204]? = some (.cells #[.string t200, .string t201, .bool t202] 23 (0, 0))) := ⟨by (with_reducible repeat (first | refine blk_drewN ?_ _ | refine blk_drew ?_ | refine blk_alloc ?_ _)); refine blk_put (cs := #[.string t200, .string t201, .bool false]) ?_ 2 _ rfl; (with_reducible repeat (first | refine blk_drewN ?_ _ | refine blk_drew ?_ | refine blk_alloc ?_ _)); refine blk_put (cs := #[.string t200, .string (⟨#[]⟩ : ByteArray), .bool false]) ?_ 1 _ rfl; (with_reducible repeat (first | refine blk_drewN ?_ _ | refine blk_drew ?_ | refine blk_alloc ?_ _)); refine blk_put (cs := #[.string (⟨#[]⟩ : ByteArray), .string (⟨#[]⟩ : ByteArray), .bool false]) ?_ 0 _ rfl; (with_reducible repeat (first | refine blk_drewN ?_ _ | refine blk_drew ?_ | refine blk_alloc ?_ _)); exact BK204.out⟩
          have n3_ : Aside0 (Below w.heap.size w (((w15.setCell ⟨gb204, 0, none⟩ (.string t200)).setCell ⟨gb204, 1, none⟩ (.string t201)).setCell ⟨gb204, 2, none⟩ (.bool t202))) := ⟨by repeat (first | (with_reducible first | exact HB.out | apply below_alloc | apply pw_below_drewN | apply below_drew1 | refine below_set ?_ GE197.out | refine below_set ?_ GE198.out | refine below_set ?_ GE204.out) | exact HB.out)⟩
          (try clear BK197)
          (try clear BK198)
          (try clear BK204)
          (try clear HB)
          generalize (((w15.setCell ⟨gb204, 0, none⟩ (.string t200)).setCell ⟨gb204, 1, none⟩ (.string t201)).setCell ⟨gb204, 2, none⟩ (.bool t202)) = w29 at n0_ n1_ n2_ n3_ ⊢
          have BK197 := n0_
          have BK198 := n1_
          have BK204 := n2_
          have HB := n3_
          clear n0_ n1_ n2_ n3_
          have n0_ := Aside0.mk (blk_drew BK197.out)
          have n1_ := Aside0.mk (blk_drew BK198.out)
          have n2_ := Aside0.mk (blk_drew BK204.out)
          have n3_ := Aside0.mk (below_drew1 HB.out)
          clear BK197
          clear BK198
          clear BK204
          clear HB
          have BK197 := n0_
          have BK198 := n1_
          have BK204 := n2_
          have HB := n3_
          clear n0_ n1_ n2_ n3_
          refine start_ (n := 15) (S := fun w' => w'.cell? ⟨gb204, 0, none⟩ = some (.string t200) ∧ w'.cell? ⟨gb204, 1, none⟩ = some (.string t201) ∧ w'.cell? ⟨gb204, 2, none⟩ = some (.bool t202) ∧ w'.cell? ⟨gb197, 0, none⟩ = some (.string a0_0) ∧ w'.cell? ⟨gb197, 1, none⟩ = some (.string a0_1) ∧ w'.cell? ⟨gb197, 2, none⟩ = some (.bool a0_2)) (ds := []) #[false, false, false, false, false, false, false, false, false, false, false, false, false, false, false] (by kernel_rfl) rfl rfl ⟨(blk_cell BK204.out 0).trans rfl, (blk_cell BK204.out 1).trans rfl, (blk_cell BK204.out 2).trans rfl, (blk_cell BK197.out 0).trans rfl, (blk_cell BK197.out 1).trans rfl, (blk_cell BK197.out 2).trans rfl⟩ (fun hHeld => ?_); refine with_tabW tidelinelaw02_SpanKeys.tab4 tidelinelaw02_SpanKeys.bits4 (fun HT_ HW_ => ?_)
          generalize w29.drew = w30 at BK197 BK198 BK204 HB hHeld ⊢
          refine pure_ (i := 0) (N := some 18) (v := ?_) (a' := ?_) #[true, false, false, false, false, false, false, false, false, false, false, false, false, false, false] rfl rfl (any_of HT_.out (by kernel_rfl)) (fun _ _ _ h => h) (Or.inl ⟨by rfl, ?_⟩) ?_ ?_
          rotate_left
          · intro w'
            go_simp
            with_reducible rfl
          rotate_left
          · simp only [Act.put, List.setIfInBounds_toArray, List.set_cons_zero, List.set_cons_succ, i64_w, i32_w]
            rfl
          refine pure_ (i := 1) (N := some 19) (v := ?_) (a' := ?_) #[true, true, false, false, false, false, false, false, false, false, false, false, false, false, false] rfl rfl (any_of HT_.out (by kernel_rfl)) (fun _ _ _ h => h) (Or.inl ⟨by rfl, ?_⟩) ?_ ?_
          rotate_left
          · intro w'
            go_simp
            with_reducible rfl
          rotate_left
          · simp only [Act.put, List.setIfInBounds_toArray, List.set_cons_zero, List.set_cons_succ, i64_w, i32_w]
            rfl
          refine pure_ (i := 3) (N := some 21) (v := ?_) (a' := ?_) #[true, true, false, true, false, false, false, false, false, false, false, false, false, false, false] rfl rfl (any_of HT_.out (by kernel_rfl)) (fun _ _ _ h => h) (Or.inl ⟨by rfl, ?_⟩) ?_ ?_
          rotate_left
          · intro w'
            go_simp
            with_reducible rfl
          rotate_left
          · simp only [Act.put, List.setIfInBounds_toArray, List.set_cons_zero, List.set_cons_succ, i64_w, i32_w]
            rfl
          refine pure_ (i := 7) (N := some 25) (v := ?_) (a' := ?_) #[true, true, false, true, false, false, false, true, false, false, false, false, false, false, false] rfl rfl (any_of HT_.out (by kernel_rfl)) (fun _ _ _ h => h) (Or.inl ⟨by rfl, ?_⟩) ?_ ?_
          rotate_left
          · intro w'
            go_simp
            with_reducible rfl
          rotate_left
          · simp only [Act.put, List.setIfInBounds_toArray, List.set_cons_zero, List.set_cons_succ, i64_w, i32_w]
            rfl
          refine take_ (i := 2) (N := some 20) (v := ?_) (a' := ?_) #[true, true, true, true, false, false, false, true, false, false, false, false, false, false, false] rfl rfl (take_ofW HT_.out HW_.out (by kernel_rfl)) (fun _ _ _ h => h) (Or.inl ⟨by rfl, ?_⟩) hHeld ?_ ?_
          rotate_left
          · rintro w' ⟨s0, s1, s2, s3, s4, s5⟩
            go_simp
            with_reducible rfl
          rotate_left
          · simp only [Act.put, List.setIfInBounds_toArray, List.set_cons_zero, List.set_cons_succ, i64_w, i32_w]
            rfl
          refine take_ (i := 6) (N := some 24) (v := ?_) (a' := ?_) #[true, true, true, true, false, false, true, true, false, false, false, false, false, false, false] rfl rfl (take_ofW HT_.out HW_.out (by kernel_rfl)) (fun _ _ _ h => h) (Or.inl ⟨by rfl, ?_⟩) hHeld ?_ ?_
          rotate_left
          · rintro w' ⟨s0, s1, s2, s3, s4, s5⟩
            go_simp
            with_reducible rfl
          rotate_left
          · simp only [Act.put, List.setIfInBounds_toArray, List.set_cons_zero, List.set_cons_succ, i64_w, i32_w]
            rfl
          refine one_ (i := 4) (N := some 22) #[true, true, true, true, true, false, true, true, false, false, false, false, false, false, false] rfl rfl (one_of HT_.out (by kernel_rfl)) (by decide) (fun K hK => ?_)
          refine goes_ Try.func16 (by kernel_rfl) rfl #[.agg #[.string t200, .string t201, .bool t202], .string a2] (by rfl) rfl rfl (by (try simp only [List.map_toArray, List.map_cons, List.map_nil]); first | done | rfl | (simp only [List.length_drop, List.length_take]; rfl)) ?_
          with_reducible refine (span_Holds.calls k t200 t201 t202 a2 t205 _ A20.out).mono ?_
          rintro e w31 ⟨rfl, hb⟩
          refine ⟨_, rfl, ?_⟩
          have n0_ := Aside0.mk (blk_below (g := gb197) (o := .cells #[.string a0_0, .string a0_1, .bool a0_2] 23 (0, 0)) (by (with_reducible repeat (first | refine blk_drewN ?_ _ | refine blk_drew ?_ | refine blk_alloc ?_ _)); exact BK197.out) hb)
          have n1_ := Aside0.mk (blk_below (g := gb198) (o := .cells #[.string a1_0, .string a1_1, .bool a1_2] 23 (0, 0)) (by (with_reducible repeat (first | refine blk_drewN ?_ _ | refine blk_drew ?_ | refine blk_alloc ?_ _)); exact BK198.out) hb)
          have n2_ := Aside0.mk (blk_below (g := gb204) (o := .cells #[.string t200, .string t201, .bool t202] 23 (0, 0)) (by (with_reducible repeat (first | refine blk_drewN ?_ _ | refine blk_drew ?_ | refine blk_alloc ?_ _)); exact BK204.out) hb)
          have n3_ := Aside0.mk (below_step (by repeat (first | (with_reducible first | exact HB.out | apply below_alloc | apply pw_below_drewN | apply below_drew1 | refine below_set ?_ GE197.out | refine below_set ?_ GE198.out | refine below_set ?_ GE204.out) | exact HB.out)) hb)
          clear BK197
          clear BK198
          clear BK204
          clear HB
          have BK197 := n0_
          have BK198 := n1_
          have BK204 := n2_
          have HB := n3_
          clear n0_ n1_ n2_ n3_
          (try clear hb)
          (try clear hb2)
          (try clear hk)
          (try clear hi)
          refine hK.out _ _ ⟨(blk_cell BK204.out 0).trans rfl, (blk_cell BK204.out 1).trans rfl, (blk_cell BK204.out 2).trans rfl, (blk_cell BK197.out 0).trans rfl, (blk_cell BK197.out 1).trans rfl, (blk_cell BK197.out 2).trans rfl⟩ (fun hHeld => ?_)
          clear hK K
          refine norm_ (a' := ?_) ?_ ?_
          rotate_left
          · show Act.put _ (some 22) _ = _
            simp only [Act.put, List.setIfInBounds_toArray, List.set_cons_zero, List.set_cons_succ, i64_w, i32_w]
            rfl
          refine pure_ (i := 5) (N := some 23) (v := ?_) (a' := ?_) #[true, true, true, true, true, true, true, true, false, false, false, false, false, false, false] rfl rfl (any_of HT_.out (by kernel_rfl)) (fun _ _ _ h => h) (Or.inl ⟨by rfl, ?_⟩) ?_ ?_
          rotate_left
          · intro w'
            go_simp
            with_reducible rfl
          rotate_left
          · simp only [Act.put, List.setIfInBounds_toArray, List.set_cons_zero, List.set_cons_succ, i64_w, i32_w]
            rfl
          refine one_ (i := 8) (N := some 26) #[true, true, true, true, true, true, true, true, true, false, false, false, false, false, false] rfl rfl (one_of HT_.out (by kernel_rfl)) (by decide) (fun K hK => ?_)
          refine goes_ Try.func16 (by kernel_rfl) rfl #[.agg #[.string a0_0, .string a0_1, .bool a0_2], .string a2] (by rfl) rfl rfl (by (try simp only [List.map_toArray, List.map_cons, List.map_nil]); first | done | rfl | (simp only [List.length_drop, List.length_take]; rfl)) ?_
          with_reducible refine (span_Holds.calls k a0_0 a0_1 a0_2 a2 false _ A21.out).mono ?_
          rintro e w32 ⟨rfl, hb⟩
          refine ⟨_, rfl, ?_⟩
          have n0_ := Aside0.mk (blk_below (g := gb197) (o := .cells #[.string a0_0, .string a0_1, .bool a0_2] 23 (0, 0)) (by (with_reducible repeat (first | refine blk_drewN ?_ _ | refine blk_drew ?_ | refine blk_alloc ?_ _)); exact BK197.out) hb)
          have n1_ := Aside0.mk (blk_below (g := gb198) (o := .cells #[.string a1_0, .string a1_1, .bool a1_2] 23 (0, 0)) (by (with_reducible repeat (first | refine blk_drewN ?_ _ | refine blk_drew ?_ | refine blk_alloc ?_ _)); exact BK198.out) hb)
          have n2_ := Aside0.mk (blk_below (g := gb204) (o := .cells #[.string t200, .string t201, .bool t202] 23 (0, 0)) (by (with_reducible repeat (first | refine blk_drewN ?_ _ | refine blk_drew ?_ | refine blk_alloc ?_ _)); exact BK204.out) hb)
          have n3_ := Aside0.mk (below_step (by repeat (first | (with_reducible first | exact HB.out | apply below_alloc | apply pw_below_drewN | apply below_drew1 | refine below_set ?_ GE197.out | refine below_set ?_ GE198.out | refine below_set ?_ GE204.out) | exact HB.out)) hb)
          clear BK197
          clear BK198
          clear BK204
          clear HB
          have BK197 := n0_
          have BK198 := n1_
          have BK204 := n2_
          have HB := n3_
          clear n0_ n1_ n2_ n3_
          (try clear hb)
          (try clear hb2)
          (try clear hk)
          (try clear hi)
          refine hK.out _ _ ⟨(blk_cell BK204.out 0).trans rfl, (blk_cell BK204.out 1).trans rfl, (blk_cell BK204.out 2).trans rfl, (blk_cell BK197.out 0).trans rfl, (blk_cell BK197.out 1).trans rfl, (blk_cell BK197.out 2).trans rfl⟩ (fun hHeld => ?_)
          clear hK K
          refine norm_ (a' := ?_) ?_ ?_
          rotate_left
          · show Act.put _ (some 26) _ = _
            simp only [Act.put, List.setIfInBounds_toArray, List.set_cons_zero, List.set_cons_succ, i64_w, i32_w]
            rfl
          refine pure_ (i := 9) (N := some 27) (v := ?_) (a' := ?_) #[true, true, true, true, true, true, true, true, true, true, false, false, false, false, false] rfl rfl (any_of HT_.out (by kernel_rfl)) (fun _ _ _ h => h) (Or.inl ⟨by rfl, ?_⟩) ?_ ?_
          rotate_left
          · intro w'
            go_simp
            with_reducible rfl
          rotate_left
          · simp only [Act.put, List.setIfInBounds_toArray, List.set_cons_zero, List.set_cons_succ, i64_w, i32_w]
            rfl
          refine pure_ (i := 10) (N := some 28) (v := undef) (a' := ?_) #[true, true, true, true, true, true, true, true, true, true, true, false, false, false, false] rfl rfl (any_of HT_.out (by kernel_rfl)) (fun _ _ _ h => h) (Or.inr ⟨by rfl, rfl⟩) ?_ ?_
          rotate_left
          · simp only [Act.put, List.setIfInBounds_toArray, List.set_cons_zero, List.set_cons_succ, i64_w, i32_w]
            rfl
          refine pure_ (i := 11) (N := some 29) (v := undef) (a' := ?_) #[true, true, true, true, true, true, true, true, true, true, true, true, false, false, false] rfl rfl (any_of HT_.out (by kernel_rfl)) (fun _ _ _ h => h) (Or.inr ⟨by rfl, rfl⟩) ?_ ?_
          rotate_left
          · simp only [Act.put, List.setIfInBounds_toArray, List.set_cons_zero, List.set_cons_succ, i64_w, i32_w]
            rfl
          refine pure_ (i := 12) (N := some 30) (v := undef) (a' := ?_) #[true, true, true, true, true, true, true, true, true, true, true, true, true, false, false] rfl rfl (any_of HT_.out (by kernel_rfl)) (fun _ _ _ h => h) (Or.inr ⟨by rfl, rfl⟩) ?_ ?_
          rotate_left
          · simp only [Act.put, List.setIfInBounds_toArray, List.set_cons_zero, List.set_cons_succ, i64_w, i32_w]
            rfl
          refine pure_ (i := 13) (N := some 31) (v := ?_) (a' := ?_) #[true, true, true, true, true, true, true, true, true, true, true, true, true, true, false] rfl rfl (any_of HT_.out (by kernel_rfl)) (fun _ _ _ h => h) (Or.inl ⟨by rfl, ?_⟩) ?_ ?_
          rotate_left
          · intro w'
            go_simp
            with_reducible rfl
          rotate_left
          · simp only [Act.put, List.setIfInBounds_toArray, List.set_cons_zero, List.set_cons_succ, i64_w, i32_w]
            rfl
          refine pure_ (i := 14) (N := some 32) (v := ?_) (a' := ?_) #[true, true, true, true, true, true, true, true, true, true, true, true, true, true, true] rfl rfl (any_of HT_.out (by kernel_rfl)) (fun _ _ _ h => h) (Or.inl ⟨by rfl, ?_⟩) ?_ ?_
          rotate_left
          · intro w'
            go_simp
            with_reducible rfl
          rotate_left
          · simp only [Act.put, List.setIfInBounds_toArray, List.set_cons_zero, List.set_cons_succ, i64_w, i32_w]
            rfl
          refine done_ (done_of HT_.out (by kernel_rfl)) ?_
          try go_wp2
          go_meet
          case rel => exact ⟨_, ((t205 != false)), (by first | rfl | (simp; done) | (simp [*]; done) | (simp [*, Go.Proofs.Ytgdhgamolenfgaa.Str.bne_nil]; done)), H', ⟨by first | omega | exact Nat.le_refl _⟩, ⟨by (with_reducible repeat (first | refine blk_drewN ?_ _ | refine blk_drew ?_ | refine blk_alloc ?_ _)); exact BK197.out⟩, ⟨by (with_reducible repeat (first | refine blk_drewN ?_ _ | refine blk_drew ?_ | refine blk_alloc ?_ _)); exact BK198.out⟩, ⟨by (with_reducible repeat (first | refine blk_drewN ?_ _ | refine blk_drew ?_ | refine blk_alloc ?_ _)); exact BK204.out⟩, ⟨by repeat (first | (with_reducible first | exact HB.out | apply below_alloc | apply pw_below_drewN | apply below_drew1 | refine below_set ?_ GE197.out | refine below_set ?_ GE198.out | refine below_set ?_ GE204.out) | exact HB.out)⟩⟩
      · replace c19 := Bool.eq_false_iff.mpr c19
        subst c19
        have H1 : ((span_Holds.f k a0_0 a0_1 a0_2 a2).bind fun t208 => (if t208 = true then ((span_Holds.f k a1_0 a1_1 a1_2 a2).bind fun t209 => (tidelinelaw02_SpanKeys.j0 k a2 (false != t209) a0_0 a0_1 a0_2 a1_0 a1_1 a1_2)) else (tidelinelaw02_SpanKeys.j0 k a2 (false != false) a0_0 a0_1 a0_2 a1_0 a1_1 a1_2))) = some r := by rw [if_neg (show ¬ (false = true) by decide)] at H; exact H
        clear H
        have H := H1
        clear H1
        replace H := Option.bind_eq_some_iff.mp H
        obtain ⟨t208, A330, H⟩ := H
        replace H : (if t208 = true then ((span_Holds.f k a1_0 a1_1 a1_2 a2).bind fun t209 => (tidelinelaw02_SpanKeys.j0 k a2 (false != t209) a0_0 a0_1 a0_2 a1_0 a1_1 a1_2)) else (tidelinelaw02_SpanKeys.j0 k a2 (false != false) a0_0 a0_1 a0_2 a1_0 a1_1 a1_2)) = some r := H
        have A33 := Aside0.mk A330
        clear A330
        by_cases c34 : t208 = true
        · subst c34
          have H1 : ((span_Holds.f k a1_0 a1_1 a1_2 a2).bind fun t209 => (tidelinelaw02_SpanKeys.j0 k a2 (false != t209) a0_0 a0_1 a0_2 a1_0 a1_1 a1_2)) = some r := by rw [if_pos rfl] at H; exact H
          clear H
          have H := H1
          clear H1
          replace H := Option.bind_eq_some_iff.mp H
          obtain ⟨t209, A350, H⟩ := H
          replace H : (tidelinelaw02_SpanKeys.j0 k a2 (false != t209) a0_0 a0_1 a0_2 a1_0 a1_1 a1_2) = some r := H
          have A35 := Aside0.mk A350
          clear A350
          have H' := Aside0.mk H
          clear H
          try go_wp2
          have n0_ : Aside0 ((((w15.setCell ⟨gb204, 0, none⟩ (.string t200)).setCell ⟨gb204, 1, none⟩ (.string t201)).setCell ⟨gb204, 2, none⟩ (.bool t202)).heap[gb197]? = some (.cells #[.string a0_0, .string a0_1, .bool a0_2] 23 (0, 0))) := ⟨by (with_reducible repeat (first | refine blk_drewN ?_ _ | refine blk_drew ?_ | refine blk_alloc ?_ _)); refine blk_far ?_ NB197_204.out _; (with_reducible repeat (first | refine blk_drewN ?_ _ | refine blk_drew ?_ | refine blk_alloc ?_ _)); refine blk_far ?_ NB197_204.out _; (with_reducible repeat (first | refine blk_drewN ?_ _ | refine blk_drew ?_ | refine blk_alloc ?_ _)); refine blk_far ?_ NB197_204.out _; (with_reducible repeat (first | refine blk_drewN ?_ _ | refine blk_drew ?_ | refine blk_alloc ?_ _)); exact BK197.out⟩
          have n1_ : Aside0 ((((w15.setCell ⟨gb204, 0, none⟩ (.string t200)).setCell ⟨gb204, 1, none⟩ (.string t201)).setCell ⟨gb204, 2, none⟩ (.bool t202)).heap[gb198]? = some (.cells #[.string a1_0, .string a1_1, .bool a1_2] 23 (0, 0))) := ⟨by (with_reducible repeat (first | refine blk_drewN ?_ _ | refine blk_drew ?_ | refine blk_alloc ?_ _)); refine blk_far ?_ NB198_204.out _; (with_reducible repeat (first | refine blk_drewN ?_ _ | refine blk_drew ?_ | refine blk_alloc ?_ _)); refine blk_far ?_ NB198_204.out _; (with_reducible repeat (first | refine blk_drewN ?_ _ | refine blk_drew ?_ | refine blk_alloc ?_ _)); refine blk_far ?_ NB198_204.out _; (with_reducible repeat (first | refine blk_drewN ?_ _ | refine blk_drew ?_ | refine blk_alloc ?_ _)); exact BK198.out⟩
          have n2_ : Aside0 ((((w15.setCell ⟨gb204, 0, none⟩ (.string t200)).setCell ⟨gb204, 1, none⟩ (.string t201)).setCell ⟨gb204, 2, none⟩ (.bool t202)).heap[gb204]? = some (.cells #[.string t200, .string t201, .bool t202] 23 (0, 0))) := ⟨by (with_reducible repeat (first | refine blk_drewN ?_ _ | refine blk_drew ?_ | refine blk_alloc ?_ _)); refine blk_put (cs := #[.string t200, .string t201, .bool false]) ?_ 2 _ rfl; (with_reducible repeat (first | refine blk_drewN ?_ _ | refine blk_drew ?_ | refine blk_alloc ?_ _)); refine blk_put (cs := #[.string t200, .string (⟨#[]⟩ : ByteArray), .bool false]) ?_ 1 _ rfl; (with_reducible repeat (first | refine blk_drewN ?_ _ | refine blk_drew ?_ | refine blk_alloc ?_ _)); refine blk_put (cs := #[.string (⟨#[]⟩ : ByteArray), .string (⟨#[]⟩ : ByteArray), .bool false]) ?_ 0 _ rfl; (with_reducible repeat (first | refine blk_drewN ?_ _ | refine blk_drew ?_ | refine blk_alloc ?_ _)); exact BK204.out⟩
          have n3_ : Aside0 (Below w.heap.size w (((w15.setCell ⟨gb204, 0, none⟩ (.string t200)).setCell ⟨gb204, 1, none⟩ (.string t201)).setCell ⟨gb204, 2, none⟩ (.bool t202))) := ⟨by repeat (first | (with_reducible first | exact HB.out | apply below_alloc | apply pw_below_drewN | apply below_drew1 | refine below_set ?_ GE197.out | refine below_set ?_ GE198.out | refine below_set ?_ GE204.out) | exact HB.out)⟩
          (try clear BK197)
          (try clear BK198)
          (try clear BK204)
          (try clear HB)
          generalize (((w15.setCell ⟨gb204, 0, none⟩ (.string t200)).setCell ⟨gb204, 1, none⟩ (.string t201)).setCell ⟨gb204, 2, none⟩ (.bool t202)) = w36 at n0_ n1_ n2_ n3_ ⊢
          have BK197 := n0_
          have BK198 := n1_
          have BK204 := n2_
          have HB := n3_
          clear n0_ n1_ n2_ n3_
          have n0_ := Aside0.mk (blk_drew BK197.out)
          have n1_ := Aside0.mk (blk_drew BK198.out)
          have n2_ := Aside0.mk (blk_drew BK204.out)
          have n3_ := Aside0.mk (below_drew1 HB.out)
          clear BK197
          clear BK198
          clear BK204
          clear HB
          have BK197 := n0_
          have BK198 := n1_
          have BK204 := n2_
          have HB := n3_
          clear n0_ n1_ n2_ n3_
          refine start_ (n := 15) (S := fun w' => w'.cell? ⟨gb197, 0, none⟩ = some (.string a0_0) ∧ w'.cell? ⟨gb197, 1, none⟩ = some (.string a0_1) ∧ w'.cell? ⟨gb197, 2, none⟩ = some (.bool a0_2) ∧ w'.cell? ⟨gb198, 0, none⟩ = some (.string a1_0) ∧ w'.cell? ⟨gb198, 1, none⟩ = some (.string a1_1) ∧ w'.cell? ⟨gb198, 2, none⟩ = some (.bool a1_2)) (ds := []) #[false, false, false, false, false, false, false, false, false, false, false, false, false, false, false] (by kernel_rfl) rfl rfl ⟨(blk_cell BK197.out 0).trans rfl, (blk_cell BK197.out 1).trans rfl, (blk_cell BK197.out 2).trans rfl, (blk_cell BK198.out 0).trans rfl, (blk_cell BK198.out 1).trans rfl, (blk_cell BK198.out 2).trans rfl⟩ (fun hHeld => ?_); refine with_tabW tidelinelaw02_SpanKeys.tab4 tidelinelaw02_SpanKeys.bits4 (fun HT_ HW_ => ?_)
          generalize w36.drew = w37 at BK197 BK198 BK204 HB hHeld ⊢
          refine pure_ (i := 0) (N := some 18) (v := ?_) (a' := ?_) #[true, false, false, false, false, false, false, false, false, false, false, false, false, false, false] rfl rfl (any_of HT_.out (by kernel_rfl)) (fun _ _ _ h => h) (Or.inl ⟨by rfl, ?_⟩) ?_ ?_
          rotate_left
          · intro w'
            go_simp
            with_reducible rfl
          rotate_left
          · simp only [Act.put, List.setIfInBounds_toArray, List.set_cons_zero, List.set_cons_succ, i64_w, i32_w]
            rfl
          refine pure_ (i := 1) (N := some 19) (v := ?_) (a' := ?_) #[true, true, false, false, false, false, false, false, false, false, false, false, false, false, false] rfl rfl (any_of HT_.out (by kernel_rfl)) (fun _ _ _ h => h) (Or.inl ⟨by rfl, ?_⟩) ?_ ?_
          rotate_left
          · intro w'
            go_simp
            with_reducible rfl
          rotate_left
          · simp only [Act.put, List.setIfInBounds_toArray, List.set_cons_zero, List.set_cons_succ, i64_w, i32_w]
            rfl
          refine pure_ (i := 2) (N := some 20) (v := undef) (a' := ?_) #[true, true, true, false, false, false, false, false, false, false, false, false, false, false, false] rfl rfl (any_of HT_.out (by kernel_rfl)) (fun _ _ _ h => h) (Or.inr ⟨by rfl, rfl⟩) ?_ ?_
          rotate_left
          · simp only [Act.put, List.setIfInBounds_toArray, List.set_cons_zero, List.set_cons_succ, i64_w, i32_w]
            rfl
          refine pure_ (i := 3) (N := some 21) (v := undef) (a' := ?_) #[true, true, true, true, false, false, false, false, false, false, false, false, false, false, false] rfl rfl (any_of HT_.out (by kernel_rfl)) (fun _ _ _ h => h) (Or.inr ⟨by rfl, rfl⟩) ?_ ?_
          rotate_left
          · simp only [Act.put, List.setIfInBounds_toArray, List.set_cons_zero, List.set_cons_succ, i64_w, i32_w]
            rfl
          refine pure_ (i := 4) (N := some 22) (v := undef) (a' := ?_) #[true, true, true, true, true, false, false, false, false, false, false, false, false, false, false] rfl rfl (any_of HT_.out (by kernel_rfl)) (fun _ _ _ h => h) (Or.inr ⟨by rfl, rfl⟩) ?_ ?_
          rotate_left
          · simp only [Act.put, List.setIfInBounds_toArray, List.set_cons_zero, List.set_cons_succ, i64_w, i32_w]
            rfl
          refine pure_ (i := 5) (N := some 23) (v := ?_) (a' := ?_) #[true, true, true, true, true, true, false, false, false, false, false, false, false, false, false] rfl rfl (any_of HT_.out (by kernel_rfl)) (fun _ _ _ h => h) (Or.inl ⟨by rfl, ?_⟩) ?_ ?_
          rotate_left
          · intro w'
            go_simp
            with_reducible rfl
          rotate_left
          · simp only [Act.put, List.setIfInBounds_toArray, List.set_cons_zero, List.set_cons_succ, i64_w, i32_w]
            rfl
          refine pure_ (i := 7) (N := some 25) (v := ?_) (a' := ?_) #[true, true, true, true, true, true, false, true, false, false, false, false, false, false, false] rfl rfl (any_of HT_.out (by kernel_rfl)) (fun _ _ _ h => h) (Or.inl ⟨by rfl, ?_⟩) ?_ ?_
          rotate_left
          · intro w'
            go_simp
            with_reducible rfl
          rotate_left
          · simp only [Act.put, List.setIfInBounds_toArray, List.set_cons_zero, List.set_cons_succ, i64_w, i32_w]
            rfl
          refine take_ (i := 6) (N := some 24) (v := ?_) (a' := ?_) #[true, true, true, true, true, true, true, true, false, false, false, false, false, false, false] rfl rfl (take_ofW HT_.out HW_.out (by kernel_rfl)) (fun _ _ _ h => h) (Or.inl ⟨by rfl, ?_⟩) hHeld ?_ ?_
          rotate_left
          · rintro w' ⟨s0, s1, s2, s3, s4, s5⟩
            go_simp
            with_reducible rfl
          rotate_left
          · simp only [Act.put, List.setIfInBounds_toArray, List.set_cons_zero, List.set_cons_succ, i64_w, i32_w]
            rfl
          refine one_ (i := 8) (N := some 26) #[true, true, true, true, true, true, true, true, true, false, false, false, false, false, false] rfl rfl (one_of HT_.out (by kernel_rfl)) (by decide) (fun K hK => ?_)
          refine goes_ Try.func16 (by kernel_rfl) rfl #[.agg #[.string a0_0, .string a0_1, .bool a0_2], .string a2] (by rfl) rfl rfl (by (try simp only [List.map_toArray, List.map_cons, List.map_nil]); first | done | rfl | (simp only [List.length_drop, List.length_take]; rfl)) ?_
          with_reducible refine (span_Holds.calls k a0_0 a0_1 a0_2 a2 true _ A33.out).mono ?_
          rintro e w38 ⟨rfl, hb⟩
          refine ⟨_, rfl, ?_⟩
          have n0_ := Aside0.mk (blk_below (g := gb197) (o := .cells #[.string a0_0, .string a0_1, .bool a0_2] 23 (0, 0)) (by (with_reducible repeat (first | refine blk_drewN ?_ _ | refine blk_drew ?_ | refine blk_alloc ?_ _)); exact BK197.out) hb)
          have n1_ := Aside0.mk (blk_below (g := gb198) (o := .cells #[.string a1_0, .string a1_1, .bool a1_2] 23 (0, 0)) (by (with_reducible repeat (first | refine blk_drewN ?_ _ | refine blk_drew ?_ | refine blk_alloc ?_ _)); exact BK198.out) hb)
          have n2_ := Aside0.mk (blk_below (g := gb204) (o := .cells #[.string t200, .string t201, .bool t202] 23 (0, 0)) (by (with_reducible repeat (first | refine blk_drewN ?_ _ | refine blk_drew ?_ | refine blk_alloc ?_ _)); exact BK204.out) hb)
          have n3_ := Aside0.mk (below_step (by repeat (first | (with_reducible first | exact HB.out | apply below_alloc | apply pw_below_drewN | apply below_drew1 | refine below_set ?_ GE197.out | refine below_set ?_ GE198.out | refine below_set ?_ GE204.out) | exact HB.out)) hb)
          clear BK197
          clear BK198
          clear BK204
          clear HB
          have BK197 := n0_
          have BK198 := n1_
          have BK204 := n2_
          have HB := n3_
          clear n0_ n1_ n2_ n3_
          (try clear hb)
          (try clear hb2)
          (try clear hk)
          (try clear hi)
          refine hK.out _ _ ⟨(blk_cell BK197.out 0).trans rfl, (blk_cell BK197.out 1).trans rfl, (blk_cell BK197.out 2).trans rfl, (blk_cell BK198.out 0).trans rfl, (blk_cell BK198.out 1).trans rfl, (blk_cell BK198.out 2).trans rfl⟩ (fun hHeld => ?_)
          clear hK K
          refine norm_ (a' := ?_) ?_ ?_
          rotate_left
          · show Act.put _ (some 26) _ = _
            simp only [Act.put, List.setIfInBounds_toArray, List.set_cons_zero, List.set_cons_succ, i64_w, i32_w]
            rfl
          refine pure_ (i := 9) (N := some 27) (v := ?_) (a' := ?_) #[true, true, true, true, true, true, true, true, true, true, false, false, false, false, false] rfl rfl (any_of HT_.out (by kernel_rfl)) (fun _ _ _ h => h) (Or.inl ⟨by rfl, ?_⟩) ?_ ?_
          rotate_left
          · intro w'
            go_simp
            with_reducible rfl
          rotate_left
          · simp only [Act.put, List.setIfInBounds_toArray, List.set_cons_zero, List.set_cons_succ, i64_w, i32_w]
            rfl
          refine pure_ (i := 11) (N := some 29) (v := ?_) (a' := ?_) #[true, true, true, true, true, true, true, true, true, true, false, true, false, false, false] rfl rfl (any_of HT_.out (by kernel_rfl)) (fun _ _ _ h => h) (Or.inl ⟨by rfl, ?_⟩) ?_ ?_
          rotate_left
          · intro w'
            go_simp
            with_reducible rfl
          rotate_left
          · simp only [Act.put, List.setIfInBounds_toArray, List.set_cons_zero, List.set_cons_succ, i64_w, i32_w]
            rfl
          refine take_ (i := 10) (N := some 28) (v := ?_) (a' := ?_) #[true, true, true, true, true, true, true, true, true, true, true, true, false, false, false] rfl rfl (take_ofW HT_.out HW_.out (by kernel_rfl)) (fun _ _ _ h => h) (Or.inl ⟨by rfl, ?_⟩) hHeld ?_ ?_
          rotate_left
          · rintro w' ⟨s0, s1, s2, s3, s4, s5⟩
            go_simp
            with_reducible rfl
          rotate_left
          · simp only [Act.put, List.setIfInBounds_toArray, List.set_cons_zero, List.set_cons_succ, i64_w, i32_w]
            rfl
          refine one_ (i := 12) (N := some 30) #[true, true, true, true, true, true, true, true, true, true, true, true, true, false, false] rfl rfl (one_of HT_.out (by kernel_rfl)) (by decide) (fun K hK => ?_)
          refine goes_ Try.func16 (by kernel_rfl) rfl #[.agg #[.string a1_0, .string a1_1, .bool a1_2], .string a2] (by rfl) rfl rfl (by (try simp only [List.map_toArray, List.map_cons, List.map_nil]); first | done | rfl | (simp only [List.length_drop, List.length_take]; rfl)) ?_
          with_reducible refine (span_Holds.calls k a1_0 a1_1 a1_2 a2 t209 _ A35.out).mono ?_
          rintro e w39 ⟨rfl, hb⟩
          refine ⟨_, rfl, ?_⟩
          have n0_ := Aside0.mk (blk_below (g := gb197) (o := .cells #[.string a0_0, .string a0_1, .bool a0_2] 23 (0, 0)) (by (with_reducible repeat (first | refine blk_drewN ?_ _ | refine blk_drew ?_ | refine blk_alloc ?_ _)); exact BK197.out) hb)
          have n1_ := Aside0.mk (blk_below (g := gb198) (o := .cells #[.string a1_0, .string a1_1, .bool a1_2] 23 (0, 0)) (by (with_reducible repeat (first | refine blk_drewN ?_ _ | refine blk_drew ?_ | refine blk_alloc ?_ _)); exact BK198.out) hb)
          have n2_ := Aside0.mk (blk_below (g := gb204) (o := .cells #[.string t200, .string t201, .bool t202] 23 (0, 0)) (by (with_reducible repeat (first | refine blk_drewN ?_ _ | refine blk_drew ?_ | refine blk_alloc ?_ _)); exact BK204.out) hb)
          have n3_ := Aside0.mk (below_step (by repeat (first | (with_reducible first | exact HB.out | apply below_alloc | apply pw_below_drewN | apply below_drew1 | refine below_set ?_ GE197.out | refine below_set ?_ GE198.out | refine below_set ?_ GE204.out) | exact HB.out)) hb)
          clear BK197
          clear BK198
          clear BK204
          clear HB
          have BK197 := n0_
          have BK198 := n1_
          have BK204 := n2_
          have HB := n3_
          clear n0_ n1_ n2_ n3_
          (try clear hb)
          (try clear hb2)
          (try clear hk)
          (try clear hi)
          refine hK.out _ _ ⟨(blk_cell BK197.out 0).trans rfl, (blk_cell BK197.out 1).trans rfl, (blk_cell BK197.out 2).trans rfl, (blk_cell BK198.out 0).trans rfl, (blk_cell BK198.out 1).trans rfl, (blk_cell BK198.out 2).trans rfl⟩ (fun hHeld => ?_)
          clear hK K
          refine norm_ (a' := ?_) ?_ ?_
          rotate_left
          · show Act.put _ (some 30) _ = _
            simp only [Act.put, List.setIfInBounds_toArray, List.set_cons_zero, List.set_cons_succ, i64_w, i32_w]
            rfl
          refine pure_ (i := 13) (N := some 31) (v := ?_) (a' := ?_) #[true, true, true, true, true, true, true, true, true, true, true, true, true, true, false] rfl rfl (any_of HT_.out (by kernel_rfl)) (fun _ _ _ h => h) (Or.inl ⟨by rfl, ?_⟩) ?_ ?_
          rotate_left
          · intro w'
            go_simp
            with_reducible rfl
          rotate_left
          · simp only [Act.put, List.setIfInBounds_toArray, List.set_cons_zero, List.set_cons_succ, i64_w, i32_w]
            rfl
          refine pure_ (i := 14) (N := some 32) (v := ?_) (a' := ?_) #[true, true, true, true, true, true, true, true, true, true, true, true, true, true, true] rfl rfl (any_of HT_.out (by kernel_rfl)) (fun _ _ _ h => h) (Or.inl ⟨by rfl, ?_⟩) ?_ ?_
          rotate_left
          · intro w'
            go_simp
            with_reducible rfl
          rotate_left
          · simp only [Act.put, List.setIfInBounds_toArray, List.set_cons_zero, List.set_cons_succ, i64_w, i32_w]
            rfl
          refine done_ (done_of HT_.out (by kernel_rfl)) ?_
          try go_wp2
          go_meet
          case rel => exact ⟨_, ((false != t209)), (by first | rfl | (simp; done) | (simp [*]; done) | (simp [*, Go.Proofs.Ytgdhgamolenfgaa.Str.bne_nil]; done)), H', ⟨by first | omega | exact Nat.le_refl _⟩, ⟨by (with_reducible repeat (first | refine blk_drewN ?_ _ | refine blk_drew ?_ | refine blk_alloc ?_ _)); exact BK197.out⟩, ⟨by (with_reducible repeat (first | refine blk_drewN ?_ _ | refine blk_drew ?_ | refine blk_alloc ?_ _)); exact BK198.out⟩, ⟨by (with_reducible repeat (first | refine blk_drewN ?_ _ | refine blk_drew ?_ | refine blk_alloc ?_ _)); exact BK204.out⟩, ⟨by repeat (first | (with_reducible first | exact HB.out | apply below_alloc | apply pw_below_drewN | apply below_drew1 | refine below_set ?_ GE197.out | refine below_set ?_ GE198.out | refine below_set ?_ GE204.out) | exact HB.out)⟩⟩
        · replace c34 := Bool.eq_false_iff.mpr c34
          subst c34
          have H1 : (tidelinelaw02_SpanKeys.j0 k a2 (false != false) a0_0 a0_1 a0_2 a1_0 a1_1 a1_2) = some r := by rw [if_neg (show ¬ (false = true) by decide)] at H; exact H
          clear H
          have H := H1
          clear H1
          have H' := Aside0.mk H
          clear H
          try go_wp2
          have n0_ : Aside0 ((((w15.setCell ⟨gb204, 0, none⟩ (.string t200)).setCell ⟨gb204, 1, none⟩ (.string t201)).setCell ⟨gb204, 2, none⟩ (.bool t202)).heap[gb197]? = some (.cells #[.string a0_0, .string a0_1, .bool a0_2] 23 (0, 0))) := ⟨by (with_reducible repeat (first | refine blk_drewN ?_ _ | refine blk_drew ?_ | refine blk_alloc ?_ _)); refine blk_far ?_ NB197_204.out _; (with_reducible repeat (first | refine blk_drewN ?_ _ | refine blk_drew ?_ | refine blk_alloc ?_ _)); refine blk_far ?_ NB197_204.out _; (with_reducible repeat (first | refine blk_drewN ?_ _ | refine blk_drew ?_ | refine blk_alloc ?_ _)); refine blk_far ?_ NB197_204.out _; (with_reducible repeat (first | refine blk_drewN ?_ _ | refine blk_drew ?_ | refine blk_alloc ?_ _)); exact BK197.out⟩
          have n1_ : Aside0 ((((w15.setCell ⟨gb204, 0, none⟩ (.string t200)).setCell ⟨gb204, 1, none⟩ (.string t201)).setCell ⟨gb204, 2, none⟩ (.bool t202)).heap[gb198]? = some (.cells #[.string a1_0, .string a1_1, .bool a1_2] 23 (0, 0))) := ⟨by (with_reducible repeat (first | refine blk_drewN ?_ _ | refine blk_drew ?_ | refine blk_alloc ?_ _)); refine blk_far ?_ NB198_204.out _; (with_reducible repeat (first | refine blk_drewN ?_ _ | refine blk_drew ?_ | refine blk_alloc ?_ _)); refine blk_far ?_ NB198_204.out _; (with_reducible repeat (first | refine blk_drewN ?_ _ | refine blk_drew ?_ | refine blk_alloc ?_ _)); refine blk_far ?_ NB198_204.out _; (with_reducible repeat (first | refine blk_drewN ?_ _ | refine blk_drew ?_ | refine blk_alloc ?_ _)); exact BK198.out⟩
          have n2_ : Aside0 ((((w15.setCell ⟨gb204, 0, none⟩ (.string t200)).setCell ⟨gb204, 1, none⟩ (.string t201)).setCell ⟨gb204, 2, none⟩ (.bool t202)).heap[gb204]? = some (.cells #[.string t200, .string t201, .bool t202] 23 (0, 0))) := ⟨by (with_reducible repeat (first | refine blk_drewN ?_ _ | refine blk_drew ?_ | refine blk_alloc ?_ _)); refine blk_put (cs := #[.string t200, .string t201, .bool false]) ?_ 2 _ rfl; (with_reducible repeat (first | refine blk_drewN ?_ _ | refine blk_drew ?_ | refine blk_alloc ?_ _)); refine blk_put (cs := #[.string t200, .string (⟨#[]⟩ : ByteArray), .bool false]) ?_ 1 _ rfl; (with_reducible repeat (first | refine blk_drewN ?_ _ | refine blk_drew ?_ | refine blk_alloc ?_ _)); refine blk_put (cs := #[.string (⟨#[]⟩ : ByteArray), .string (⟨#[]⟩ : ByteArray), .bool false]) ?_ 0 _ rfl; (with_reducible repeat (first | refine blk_drewN ?_ _ | refine blk_drew ?_ | refine blk_alloc ?_ _)); exact BK204.out⟩
          have n3_ : Aside0 (Below w.heap.size w (((w15.setCell ⟨gb204, 0, none⟩ (.string t200)).setCell ⟨gb204, 1, none⟩ (.string t201)).setCell ⟨gb204, 2, none⟩ (.bool t202))) := ⟨by repeat (first | (with_reducible first | exact HB.out | apply below_alloc | apply pw_below_drewN | apply below_drew1 | refine below_set ?_ GE197.out | refine below_set ?_ GE198.out | refine below_set ?_ GE204.out) | exact HB.out)⟩
          (try clear BK197)
          (try clear BK198)
          (try clear BK204)
          (try clear HB)
          generalize (((w15.setCell ⟨gb204, 0, none⟩ (.string t200)).setCell ⟨gb204, 1, none⟩ (.string t201)).setCell ⟨gb204, 2, none⟩ (.bool t202)) = w40 at n0_ n1_ n2_ n3_ ⊢
          have BK197 := n0_
          have BK198 := n1_
          have BK204 := n2_
          have HB := n3_
          clear n0_ n1_ n2_ n3_
          have n0_ := Aside0.mk (blk_drew BK197.out)
          have n1_ := Aside0.mk (blk_drew BK198.out)
          have n2_ := Aside0.mk (blk_drew BK204.out)
          have n3_ := Aside0.mk (below_drew1 HB.out)
          clear BK197
          clear BK198
          clear BK204
          clear HB
          have BK197 := n0_
          have BK198 := n1_
          have BK204 := n2_
          have HB := n3_
          clear n0_ n1_ n2_ n3_
          refine start_ (n := 15) (S := fun w' => w'.cell? ⟨gb197, 0, none⟩ = some (.string a0_0) ∧ w'.cell? ⟨gb197, 1, none⟩ = some (.string a0_1) ∧ w'.cell? ⟨gb197, 2, none⟩ = some (.bool a0_2)) (ds := []) #[false, false, false, false, false, false, false, false, false, false, false, false, false, false, false] (by kernel_rfl) rfl rfl ⟨(blk_cell BK197.out 0).trans rfl, (blk_cell BK197.out 1).trans rfl, (blk_cell BK197.out 2).trans rfl⟩ (fun hHeld => ?_); refine with_tabW tidelinelaw02_SpanKeys.tab4 tidelinelaw02_SpanKeys.bits4 (fun HT_ HW_ => ?_)
          generalize w40.drew = w41 at BK197 BK198 BK204 HB hHeld ⊢
          refine pure_ (i := 0) (N := some 18) (v := ?_) (a' := ?_) #[true, false, false, false, false, false, false, false, false, false, false, false, false, false, false] rfl rfl (any_of HT_.out (by kernel_rfl)) (fun _ _ _ h => h) (Or.inl ⟨by rfl, ?_⟩) ?_ ?_
          rotate_left
          · intro w'
            go_simp
            with_reducible rfl
          rotate_left
          · simp only [Act.put, List.setIfInBounds_toArray, List.set_cons_zero, List.set_cons_succ, i64_w, i32_w]
            rfl
          refine pure_ (i := 1) (N := some 19) (v := ?_) (a' := ?_) #[true, true, false, false, false, false, false, false, false, false, false, false, false, false, false] rfl rfl (any_of HT_.out (by kernel_rfl)) (fun _ _ _ h => h) (Or.inl ⟨by rfl, ?_⟩) ?_ ?_
          rotate_left
          · intro w'
            go_simp
            with_reducible rfl
          rotate_left
          · simp only [Act.put, List.setIfInBounds_toArray, List.set_cons_zero, List.set_cons_succ, i64_w, i32_w]
            rfl
          refine pure_ (i := 2) (N := some 20) (v := undef) (a' := ?_) #[true, true, true, false, false, false, false, false, false, false, false, false, false, false, false] rfl rfl (any_of HT_.out (by kernel_rfl)) (fun _ _ _ h => h) (Or.inr ⟨by rfl, rfl⟩) ?_ ?_
          rotate_left
          · simp only [Act.put, List.setIfInBounds_toArray, List.set_cons_zero, List.set_cons_succ, i64_w, i32_w]
            rfl
          refine pure_ (i := 3) (N := some 21) (v := undef) (a' := ?_) #[true, true, true, true, false, false, false, false, false, false, false, false, false, false, false] rfl rfl (any_of HT_.out (by kernel_rfl)) (fun _ _ _ h => h) (Or.inr ⟨by rfl, rfl⟩) ?_ ?_
          rotate_left
          · simp only [Act.put, List.setIfInBounds_toArray, List.set_cons_zero, List.set_cons_succ, i64_w, i32_w]
            rfl
          refine pure_ (i := 4) (N := some 22) (v := undef) (a' := ?_) #[true, true, true, true, true, false, false, false, false, false, false, false, false, false, false] rfl rfl (any_of HT_.out (by kernel_rfl)) (fun _ _ _ h => h) (Or.inr ⟨by rfl, rfl⟩) ?_ ?_
          rotate_left
          · simp only [Act.put, List.setIfInBounds_toArray, List.set_cons_zero, List.set_cons_succ, i64_w, i32_w]
            rfl
          refine pure_ (i := 5) (N := some 23) (v := ?_) (a' := ?_) #[true, true, true, true, true, true, false, false, false, false, false, false, false, false, false] rfl rfl (any_of HT_.out (by kernel_rfl)) (fun _ _ _ h => h) (Or.inl ⟨by rfl, ?_⟩) ?_ ?_
          rotate_left
          · intro w'
            go_simp
            with_reducible rfl
          rotate_left
          · simp only [Act.put, List.setIfInBounds_toArray, List.set_cons_zero, List.set_cons_succ, i64_w, i32_w]
            rfl
          refine pure_ (i := 7) (N := some 25) (v := ?_) (a' := ?_) #[true, true, true, true, true, true, false, true, false, false, false, false, false, false, false] rfl rfl (any_of HT_.out (by kernel_rfl)) (fun _ _ _ h => h) (Or.inl ⟨by rfl, ?_⟩) ?_ ?_
          rotate_left
          · intro w'
            go_simp
            with_reducible rfl
          rotate_left
          · simp only [Act.put, List.setIfInBounds_toArray, List.set_cons_zero, List.set_cons_succ, i64_w, i32_w]
            rfl
          refine take_ (i := 6) (N := some 24) (v := ?_) (a' := ?_) #[true, true, true, true, true, true, true, true, false, false, false, false, false, false, false] rfl rfl (take_ofW HT_.out HW_.out (by kernel_rfl)) (fun _ _ _ h => h) (Or.inl ⟨by rfl, ?_⟩) hHeld ?_ ?_
          rotate_left
          · rintro w' ⟨s0, s1, s2⟩
            go_simp
            with_reducible rfl
          rotate_left
          · simp only [Act.put, List.setIfInBounds_toArray, List.set_cons_zero, List.set_cons_succ, i64_w, i32_w]
            rfl
          refine one_ (i := 8) (N := some 26) #[true, true, true, true, true, true, true, true, true, false, false, false, false, false, false] rfl rfl (one_of HT_.out (by kernel_rfl)) (by decide) (fun K hK => ?_)
          refine goes_ Try.func16 (by kernel_rfl) rfl #[.agg #[.string a0_0, .string a0_1, .bool a0_2], .string a2] (by rfl) rfl rfl (by (try simp only [List.map_toArray, List.map_cons, List.map_nil]); first | done | rfl | (simp only [List.length_drop, List.length_take]; rfl)) ?_
          with_reducible refine (span_Holds.calls k a0_0 a0_1 a0_2 a2 false _ A33.out).mono ?_
          rintro e w42 ⟨rfl, hb⟩
          refine ⟨_, rfl, ?_⟩
          have n0_ := Aside0.mk (blk_below (g := gb197) (o := .cells #[.string a0_0, .string a0_1, .bool a0_2] 23 (0, 0)) (by (with_reducible repeat (first | refine blk_drewN ?_ _ | refine blk_drew ?_ | refine blk_alloc ?_ _)); exact BK197.out) hb)
          have n1_ := Aside0.mk (blk_below (g := gb198) (o := .cells #[.string a1_0, .string a1_1, .bool a1_2] 23 (0, 0)) (by (with_reducible repeat (first | refine blk_drewN ?_ _ | refine blk_drew ?_ | refine blk_alloc ?_ _)); exact BK198.out) hb)
          have n2_ := Aside0.mk (blk_below (g := gb204) (o := .cells #[.string t200, .string t201, .bool t202] 23 (0, 0)) (by (with_reducible repeat (first | refine blk_drewN ?_ _ | refine blk_drew ?_ | refine blk_alloc ?_ _)); exact BK204.out) hb)
          have n3_ := Aside0.mk (below_step (by repeat (first | (with_reducible first | exact HB.out | apply below_alloc | apply pw_below_drewN | apply below_drew1 | refine below_set ?_ GE197.out | refine below_set ?_ GE198.out | refine below_set ?_ GE204.out) | exact HB.out)) hb)
          clear BK197
          clear BK198
          clear BK204
          clear HB
          have BK197 := n0_
          have BK198 := n1_
          have BK204 := n2_
          have HB := n3_
          clear n0_ n1_ n2_ n3_
          (try clear hb)
          (try clear hb2)
          (try clear hk)
          (try clear hi)
          refine hK.out _ _ ⟨(blk_cell BK197.out 0).trans rfl, (blk_cell BK197.out 1).trans rfl, (blk_cell BK197.out 2).trans rfl⟩ (fun hHeld => ?_)
          clear hK K
          refine norm_ (a' := ?_) ?_ ?_
          rotate_left
          · show Act.put _ (some 26) _ = _
            simp only [Act.put, List.setIfInBounds_toArray, List.set_cons_zero, List.set_cons_succ, i64_w, i32_w]
            rfl
          refine pure_ (i := 9) (N := some 27) (v := ?_) (a' := ?_) #[true, true, true, true, true, true, true, true, true, true, false, false, false, false, false] rfl rfl (any_of HT_.out (by kernel_rfl)) (fun _ _ _ h => h) (Or.inl ⟨by rfl, ?_⟩) ?_ ?_
          rotate_left
          · intro w'
            go_simp
            with_reducible rfl
          rotate_left
          · simp only [Act.put, List.setIfInBounds_toArray, List.set_cons_zero, List.set_cons_succ, i64_w, i32_w]
            rfl
          refine pure_ (i := 10) (N := some 28) (v := undef) (a' := ?_) #[true, true, true, true, true, true, true, true, true, true, true, false, false, false, false] rfl rfl (any_of HT_.out (by kernel_rfl)) (fun _ _ _ h => h) (Or.inr ⟨by rfl, rfl⟩) ?_ ?_
          rotate_left
          · simp only [Act.put, List.setIfInBounds_toArray, List.set_cons_zero, List.set_cons_succ, i64_w, i32_w]
            rfl
          refine pure_ (i := 11) (N := some 29) (v := undef) (a' := ?_) #[true, true, true, true, true, true, true, true, true, true, true, true, false, false, false] rfl rfl (any_of HT_.out (by kernel_rfl)) (fun _ _ _ h => h) (Or.inr ⟨by rfl, rfl⟩) ?_ ?_
          rotate_left
          · simp only [Act.put, List.setIfInBounds_toArray, List.set_cons_zero, List.set_cons_succ, i64_w, i32_w]
            rfl
          refine pure_ (i := 12) (N := some 30) (v := undef) (a' := ?_) #[true, true, true, true, true, true, true, true, true, true, true, true, true, false, false] rfl rfl (any_of HT_.out (by kernel_rfl)) (fun _ _ _ h => h) (Or.inr ⟨by rfl, rfl⟩) ?_ ?_
          rotate_left
          · simp only [Act.put, List.setIfInBounds_toArray, List.set_cons_zero, List.set_cons_succ, i64_w, i32_w]
            rfl
          refine pure_ (i := 13) (N := some 31) (v := ?_) (a' := ?_) #[true, true, true, true, true, true, true, true, true, true, true, true, true, true, false] rfl rfl (any_of HT_.out (by kernel_rfl)) (fun _ _ _ h => h) (Or.inl ⟨by rfl, ?_⟩) ?_ ?_
          rotate_left
          · intro w'
            go_simp
            with_reducible rfl
          rotate_left
          · simp only [Act.put, List.setIfInBounds_toArray, List.set_cons_zero, List.set_cons_succ, i64_w, i32_w]
            rfl
          refine pure_ (i := 14) (N := some 32) (v := ?_) (a' := ?_) #[true, true, true, true, true, true, true, true, true, true, true, true, true, true, true] rfl rfl (any_of HT_.out (by kernel_rfl)) (fun _ _ _ h => h) (Or.inl ⟨by rfl, ?_⟩) ?_ ?_
          rotate_left
          · intro w'
            go_simp
            with_reducible rfl
          rotate_left
          · simp only [Act.put, List.setIfInBounds_toArray, List.set_cons_zero, List.set_cons_succ, i64_w, i32_w]
            rfl
          refine done_ (done_of HT_.out (by kernel_rfl)) ?_
          try go_wp2
          go_meet
          case rel => exact ⟨_, ((false != false)), (by first | rfl | (simp; done) | (simp [*]; done) | (simp [*, Go.Proofs.Ytgdhgamolenfgaa.Str.bne_nil]; done)), H', ⟨by first | omega | exact Nat.le_refl _⟩, ⟨by (with_reducible repeat (first | refine blk_drewN ?_ _ | refine blk_drew ?_ | refine blk_alloc ?_ _)); exact BK197.out⟩, ⟨by (with_reducible repeat (first | refine blk_drewN ?_ _ | refine blk_drew ?_ | refine blk_alloc ?_ _)); exact BK198.out⟩, ⟨by (with_reducible repeat (first | refine blk_drewN ?_ _ | refine blk_drew ?_ | refine blk_alloc ?_ _)); exact BK204.out⟩, ⟨by repeat (first | (with_reducible first | exact HB.out | apply below_alloc | apply pw_below_drewN | apply below_drew1 | refine below_set ?_ GE197.out | refine below_set ?_ GE198.out | refine below_set ?_ GE204.out) | exact HB.out)⟩⟩
    case rest =>
      clear HC7
      try clear c1
      try clear c2
      try clear p2
      try clear c3
      try clear c16
      try clear c19
      try clear c22
      try clear c34
      obtain ⟨kq, x32_6, rfl, HA, HJ6, BK197, BK198, BK204, HB⟩ := hcut
      cases kq with
      | zero => exact absurd HA.out (by simp [tidelinelaw02_SpanKeys.j0])
      | succ kj6 =>
        have H := HA.out
        clear HA
        simp only [tidelinelaw02_SpanKeys.j0] at H
        by_cases c43 : x32_6 = true
        · subst c43
          have H1 : (none) = some r := by rw [if_pos rfl] at H; exact H
          clear H
          have H := H1
          clear H1
          exact absurd H (by simp)
        · replace c43 := Bool.eq_false_iff.mpr c43
          subst c43
          have H1 : ((span_Within.f kj6 a0_0 a0_1 a0_2 a1_0 a1_1 a1_2).bind fun t210 => (if t210 = true then ((span_Holds.f kj6 a0_0 a0_1 a0_2 a2).bind fun t211 => (if t211 = true then ((span_Holds.f kj6 a1_0 a1_1 a1_2 a2).bind fun t212 => (tidelinelaw02_SpanKeys.j1 kj6 a2 t210 (!t212) a0_0 a0_1 a0_2 a1_0 a1_1 a1_2)) else (tidelinelaw02_SpanKeys.j1 kj6 a2 t210 false a0_0 a0_1 a0_2 a1_0 a1_1 a1_2))) else (tidelinelaw02_SpanKeys.j1 kj6 a2 t210 false a0_0 a0_1 a0_2 a1_0 a1_1 a1_2))) = some r := by rw [if_neg (show ¬ (false = true) by decide)] at H; exact H
          clear H
          have H := H1
          clear H1
          replace H := Option.bind_eq_some_iff.mp H
          obtain ⟨t210, A440, H⟩ := H
          replace H : (if t210 = true then ((span_Holds.f kj6 a0_0 a0_1 a0_2 a2).bind fun t211 => (if t211 = true then ((span_Holds.f kj6 a1_0 a1_1 a1_2 a2).bind fun t212 => (tidelinelaw02_SpanKeys.j1 kj6 a2 t210 (!t212) a0_0 a0_1 a0_2 a1_0 a1_1 a1_2)) else (tidelinelaw02_SpanKeys.j1 kj6 a2 t210 false a0_0 a0_1 a0_2 a1_0 a1_1 a1_2))) else (tidelinelaw02_SpanKeys.j1 kj6 a2 t210 false a0_0 a0_1 a0_2 a1_0 a1_1 a1_2)) = some r := H
          have A44 := Aside0.mk A440
          clear A440
          have HC45 := Aside0.mk H
          clear H
          have hnb46 := NB197_198.out
          have hnc46 := NB198_197.out
          have hnb47 := NB197_204.out
          have hnc47 := NB204_197.out
          have hcz48_0 : wc.cell? ⟨gb197, 0, none⟩ = some (.string a0_0) := (blk_cell BK197.out 0).trans rfl
          have hcz48_1 : wc.cell? ⟨gb197, 1, none⟩ = some (.string a0_1) := (blk_cell BK197.out 1).trans rfl
          have hcz48_2 : wc.cell? ⟨gb197, 2, none⟩ = some (.bool a0_2) := (blk_cell BK197.out 2).trans rfl
          have hfz48_0 := blk_frozen BK197.out 0
          have hfz48_1 := blk_frozen BK197.out 1
          have hfz48_2 := blk_frozen BK197.out 2
          have hnb49 := NB198_204.out
          have hnc49 := NB204_198.out
          have hcz50_0 : wc.cell? ⟨gb198, 0, none⟩ = some (.string a1_0) := (blk_cell BK198.out 0).trans rfl
          have hcz50_1 : wc.cell? ⟨gb198, 1, none⟩ = some (.string a1_1) := (blk_cell BK198.out 1).trans rfl
          have hcz50_2 : wc.cell? ⟨gb198, 2, none⟩ = some (.bool a1_2) := (blk_cell BK198.out 2).trans rfl
          have hfz50_0 := blk_frozen BK198.out 0
          have hfz50_1 := blk_frozen BK198.out 1
          have hfz50_2 := blk_frozen BK198.out 2
          go_upto_region 7 with (first | ((with_reducible refine gate_callee (f := 27) rfl ?_); refine goesL_ (some 35) rfl rfl Try.func27 (by kernel_rfl) rfl #[.agg #[.string a0_0, .string a0_1, .bool a0_2], .agg #[.string a1_0, .string a1_1, .bool a1_2]] rfl (by (try simp only [List.map_toArray, List.map_cons, List.map_nil]); first | done | rfl | (simp only [List.length_drop, List.length_take]; rfl)) ?_; (with_reducible refine (span_Within.calls kj6 a0_0 a0_1 a0_2 a1_0 a1_1 a1_2 t210 _ A44.out).mono ?_); rintro e w51 ⟨rfl, hb⟩; refine ⟨_, rfl, ?_⟩; have n0_ := Aside0.mk (blk_below (g := gb197) (o := .cells #[.string a0_0, .string a0_1, .bool a0_2] 23 (0, 0)) (by (with_reducible repeat (first | refine blk_drewN ?_ _ | refine blk_drew ?_ | refine blk_alloc ?_ _)); exact BK197.out) hb); have n1_ := Aside0.mk (blk_below (g := gb198) (o := .cells #[.string a1_0, .string a1_1, .bool a1_2] 23 (0, 0)) (by (with_reducible repeat (first | refine blk_drewN ?_ _ | refine blk_drew ?_ | refine blk_alloc ?_ _)); exact BK198.out) hb); have n2_ := Aside0.mk (blk_below (g := gb204) (o := .cells #[.string t200, .string t201, .bool t202] 23 (0, 0)) (by (with_reducible repeat (first | refine blk_drewN ?_ _ | refine blk_drew ?_ | refine blk_alloc ?_ _)); exact BK204.out) hb); have n3_ := Aside0.mk (below_step (by repeat (first | (with_reducible first | exact HB.out | apply below_alloc | apply pw_below_drewN | apply below_drew1 | refine below_set ?_ GE197.out | refine below_set ?_ GE198.out | refine below_set ?_ GE204.out) | exact HB.out)) hb); clear BK197; clear BK198; clear BK204; clear HB; have BK197 := n0_; have BK198 := n1_; have BK204 := n2_; have HB := n3_; clear n0_ n1_ n2_ n3_; (try clear hb); (try clear hb2); (try clear hk); (try clear hi)))
          (try simp only [Act.put, List.setIfInBounds_toArray, List.set_cons_zero, List.set_cons_succ])
          go_cut [47] (fun v47 wc => ∃ (kq : Nat) (x47_44 : Bool), v47 = .bool x47_44 ∧ Aside0 (tidelinelaw02_SpanKeys.j1 kq a2 t210 x47_44 a0_0 a0_1 a0_2 a1_0 a1_1 a1_2 = some r) ∧ Aside0 (kq ≤ kj6) ∧ Aside0 (wc.heap[gb197]? = some (.cells #[.string a0_0, .string a0_1, .bool a0_2] 23 (0, 0))) ∧ Aside0 (wc.heap[gb198]? = some (.cells #[.string a1_0, .string a1_1, .bool a1_2] 23 (0, 0))) ∧ Aside0 (wc.heap[gb204]? = some (.cells #[.string t200, .string t201, .bool t202] 23 (0, 0))) ∧ Aside0 (Below w.heap.size w wc))
          case first =>
            have H := HC45.out
            clear HC45
            by_cases c52 : t210 = true
            · subst c52
              have H1 : ((span_Holds.f kj6 a0_0 a0_1 a0_2 a2).bind fun t211 => (if t211 = true then ((span_Holds.f kj6 a1_0 a1_1 a1_2 a2).bind fun t212 => (tidelinelaw02_SpanKeys.j1 kj6 a2 true (!t212) a0_0 a0_1 a0_2 a1_0 a1_1 a1_2)) else (tidelinelaw02_SpanKeys.j1 kj6 a2 true false a0_0 a0_1 a0_2 a1_0 a1_1 a1_2))) = some r := by rw [if_pos rfl] at H; exact H
              clear H
              have H := H1
              clear H1
              replace H := Option.bind_eq_some_iff.mp H
              obtain ⟨t211, A530, H⟩ := H
              replace H : (if t211 = true then ((span_Holds.f kj6 a1_0 a1_1 a1_2 a2).bind fun t212 => (tidelinelaw02_SpanKeys.j1 kj6 a2 true (!t212) a0_0 a0_1 a0_2 a1_0 a1_1 a1_2)) else (tidelinelaw02_SpanKeys.j1 kj6 a2 true false a0_0 a0_1 a0_2 a1_0 a1_1 a1_2)) = some r := H
              have A53 := Aside0.mk A530
              clear A530
              by_cases c54 : t211 = true
              · subst c54
                have H1 : ((span_Holds.f kj6 a1_0 a1_1 a1_2 a2).bind fun t212 => (tidelinelaw02_SpanKeys.j1 kj6 a2 true (!t212) a0_0 a0_1 a0_2 a1_0 a1_1 a1_2)) = some r := by rw [if_pos rfl] at H; exact H
                clear H
                have H := H1
                clear H1
                replace H := Option.bind_eq_some_iff.mp H
                obtain ⟨t212, A550, H⟩ := H
                replace H : (tidelinelaw02_SpanKeys.j1 kj6 a2 true (!t212) a0_0 a0_1 a0_2 a1_0 a1_1 a1_2) = some r := H
                have A55 := Aside0.mk A550
                clear A550
                have H' := Aside0.mk H
                clear H
                have hnb56 := NB197_198.out
                have hnc56 := NB198_197.out
                have hnb57 := NB197_204.out
                have hnc57 := NB204_197.out
                have hcz58_0 : w51.cell? ⟨gb197, 0, none⟩ = some (.string a0_0) := (blk_cell BK197.out 0).trans rfl
                have hcz58_1 : w51.cell? ⟨gb197, 1, none⟩ = some (.string a0_1) := (blk_cell BK197.out 1).trans rfl
                have hcz58_2 : w51.cell? ⟨gb197, 2, none⟩ = some (.bool a0_2) := (blk_cell BK197.out 2).trans rfl
                have hfz58_0 := blk_frozen BK197.out 0
                have hfz58_1 := blk_frozen BK197.out 1
                have hfz58_2 := blk_frozen BK197.out 2
                go_wp2_with (first | (go_at_call 16; (with_reducible refine (span_Holds.calls kj6 a0_0 a0_1 a0_2 a2 true _ A53.out).mono ?_); rintro e w59 ⟨rfl, hb⟩; have n0_ := Aside0.mk (blk_below (g := gb197) (o := .cells #[.string a0_0, .string a0_1, .bool a0_2] 23 (0, 0)) (by (with_reducible repeat (first | refine blk_drewN ?_ _ | refine blk_drew ?_ | refine blk_alloc ?_ _)); exact BK197.out) hb); have n1_ := Aside0.mk (blk_below (g := gb198) (o := .cells #[.string a1_0, .string a1_1, .bool a1_2] 23 (0, 0)) (by (with_reducible repeat (first | refine blk_drewN ?_ _ | refine blk_drew ?_ | refine blk_alloc ?_ _)); exact BK198.out) hb); have n2_ := Aside0.mk (blk_below (g := gb204) (o := .cells #[.string t200, .string t201, .bool t202] 23 (0, 0)) (by (with_reducible repeat (first | refine blk_drewN ?_ _ | refine blk_drew ?_ | refine blk_alloc ?_ _)); exact BK204.out) hb); have n3_ := Aside0.mk (below_step (by repeat (first | (with_reducible first | exact HB.out | apply below_alloc | apply pw_below_drewN | apply below_drew1 | refine below_set ?_ GE197.out | refine below_set ?_ GE198.out | refine below_set ?_ GE204.out) | exact HB.out)) hb); clear BK197; clear BK198; clear BK204; clear HB; have BK197 := n0_; have BK198 := n1_; have BK204 := n2_; have HB := n3_; clear n0_ n1_ n2_ n3_; (try clear hb); (try clear hb2); (try clear hk); (try clear hi); have hnb60 := NB198_204.out; have hnc60 := NB204_198.out; have hcz61_0 : w59.cell? ⟨gb198, 0, none⟩ = some (.string a1_0) := (blk_cell BK198.out 0).trans rfl; have hcz61_1 : w59.cell? ⟨gb198, 1, none⟩ = some (.string a1_1) := (blk_cell BK198.out 1).trans rfl; have hcz61_2 : w59.cell? ⟨gb198, 2, none⟩ = some (.bool a1_2) := (blk_cell BK198.out 2).trans rfl; have hfz61_0 := blk_frozen BK198.out 0; have hfz61_1 := blk_frozen BK198.out 1; have hfz61_2 := blk_frozen BK198.out 2) | (go_at_call 16; (with_reducible refine (span_Holds.calls kj6 a1_0 a1_1 a1_2 a2 t212 _ A55.out).mono ?_); rintro e w62 ⟨rfl, hb⟩; have n0_ := Aside0.mk (blk_below (g := gb197) (o := .cells #[.string a0_0, .string a0_1, .bool a0_2] 23 (0, 0)) (by (with_reducible repeat (first | refine blk_drewN ?_ _ | refine blk_drew ?_ | refine blk_alloc ?_ _)); exact BK197.out) hb); have n1_ := Aside0.mk (blk_below (g := gb198) (o := .cells #[.string a1_0, .string a1_1, .bool a1_2] 23 (0, 0)) (by (with_reducible repeat (first | refine blk_drewN ?_ _ | refine blk_drew ?_ | refine blk_alloc ?_ _)); exact BK198.out) hb); have n2_ := Aside0.mk (blk_below (g := gb204) (o := .cells #[.string t200, .string t201, .bool t202] 23 (0, 0)) (by (with_reducible repeat (first | refine blk_drewN ?_ _ | refine blk_drew ?_ | refine blk_alloc ?_ _)); exact BK204.out) hb); have n3_ := Aside0.mk (below_step (by repeat (first | (with_reducible first | exact HB.out | apply below_alloc | apply pw_below_drewN | apply below_drew1 | refine below_set ?_ GE197.out | refine below_set ?_ GE198.out | refine below_set ?_ GE204.out) | exact HB.out)) hb); clear BK197; clear BK198; clear BK204; clear HB; have BK197 := n0_; have BK198 := n1_; have BK204 := n2_; have HB := n3_; clear n0_ n1_ n2_ n3_; (try clear hb); (try clear hb2); (try clear hk); (try clear hi)))
                go_meet
                case rel => exact ⟨_, (!t212), (by first | rfl | (simp; done) | (simp [*]; done) | (simp [*, Go.Proofs.Ytgdhgamolenfgaa.Str.bne_nil]; done)), H', ⟨by have := HJ6.out; first | omega | exact Nat.le_refl _⟩, ⟨by (with_reducible repeat (first | refine blk_drewN ?_ _ | refine blk_drew ?_ | refine blk_alloc ?_ _)); exact BK197.out⟩, ⟨by (with_reducible repeat (first | refine blk_drewN ?_ _ | refine blk_drew ?_ | refine blk_alloc ?_ _)); exact BK198.out⟩, ⟨by (with_reducible repeat (first | refine blk_drewN ?_ _ | refine blk_drew ?_ | refine blk_alloc ?_ _)); exact BK204.out⟩, ⟨by repeat (first | (with_reducible first | exact HB.out | apply below_alloc | apply pw_below_drewN | apply below_drew1 | refine below_set ?_ GE197.out | refine below_set ?_ GE198.out | refine below_set ?_ GE204.out) | exact HB.out)⟩⟩
              · replace c54 := Bool.eq_false_iff.mpr c54
                subst c54
                have H1 : (tidelinelaw02_SpanKeys.j1 kj6 a2 true false a0_0 a0_1 a0_2 a1_0 a1_1 a1_2) = some r := by rw [if_neg (show ¬ (false = true) by decide)] at H; exact H
                clear H
                have H := H1
                clear H1
                have H' := Aside0.mk H
                clear H
                have hnb63 := NB197_198.out
                have hnc63 := NB198_197.out
                have hnb64 := NB197_204.out
                have hnc64 := NB204_197.out
                have hcz65_0 : w51.cell? ⟨gb197, 0, none⟩ = some (.string a0_0) := (blk_cell BK197.out 0).trans rfl
                have hcz65_1 : w51.cell? ⟨gb197, 1, none⟩ = some (.string a0_1) := (blk_cell BK197.out 1).trans rfl
                have hcz65_2 : w51.cell? ⟨gb197, 2, none⟩ = some (.bool a0_2) := (blk_cell BK197.out 2).trans rfl
                have hfz65_0 := blk_frozen BK197.out 0
                have hfz65_1 := blk_frozen BK197.out 1
                have hfz65_2 := blk_frozen BK197.out 2
                go_wp2_with (first | (go_at_call 16; (with_reducible refine (span_Holds.calls kj6 a0_0 a0_1 a0_2 a2 false _ A53.out).mono ?_); rintro e w66 ⟨rfl, hb⟩; have n0_ := Aside0.mk (blk_below (g := gb197) (o := .cells #[.string a0_0, .string a0_1, .bool a0_2] 23 (0, 0)) (by (with_reducible repeat (first | refine blk_drewN ?_ _ | refine blk_drew ?_ | refine blk_alloc ?_ _)); exact BK197.out) hb); have n1_ := Aside0.mk (blk_below (g := gb198) (o := .cells #[.string a1_0, .string a1_1, .bool a1_2] 23 (0, 0)) (by (with_reducible repeat (first | refine blk_drewN ?_ _ | refine blk_drew ?_ | refine blk_alloc ?_ _)); exact BK198.out) hb); have n2_ := Aside0.mk (blk_below (g := gb204) (o := .cells #[.string t200, .string t201, .bool t202] 23 (0, 0)) (by (with_reducible repeat (first | refine blk_drewN ?_ _ | refine blk_drew ?_ | refine blk_alloc ?_ _)); exact BK204.out) hb); have n3_ := Aside0.mk (below_step (by repeat (first | (with_reducible first | exact HB.out | apply below_alloc | apply pw_below_drewN | apply below_drew1 | refine below_set ?_ GE197.out | refine below_set ?_ GE198.out | refine below_set ?_ GE204.out) | exact HB.out)) hb); clear BK197; clear BK198; clear BK204; clear HB; have BK197 := n0_; have BK198 := n1_; have BK204 := n2_; have HB := n3_; clear n0_ n1_ n2_ n3_; (try clear hb); (try clear hb2); (try clear hk); (try clear hi)))
                go_meet
                case rel => exact ⟨_, (false), (by first | rfl | (simp; done) | (simp [*]; done) | (simp [*, Go.Proofs.Ytgdhgamolenfgaa.Str.bne_nil]; done)), H', ⟨by have := HJ6.out; first | omega | exact Nat.le_refl _⟩, ⟨by (with_reducible repeat (first | refine blk_drewN ?_ _ | refine blk_drew ?_ | refine blk_alloc ?_ _)); exact BK197.out⟩, ⟨by (with_reducible repeat (first | refine blk_drewN ?_ _ | refine blk_drew ?_ | refine blk_alloc ?_ _)); exact BK198.out⟩, ⟨by (with_reducible repeat (first | refine blk_drewN ?_ _ | refine blk_drew ?_ | refine blk_alloc ?_ _)); exact BK204.out⟩, ⟨by repeat (first | (with_reducible first | exact HB.out | apply below_alloc | apply pw_below_drewN | apply below_drew1 | refine below_set ?_ GE197.out | refine below_set ?_ GE198.out | refine below_set ?_ GE204.out) | exact HB.out)⟩⟩
            · replace c52 := Bool.eq_false_iff.mpr c52
              subst c52
              have H1 : (tidelinelaw02_SpanKeys.j1 kj6 a2 false false a0_0 a0_1 a0_2 a1_0 a1_1 a1_2) = some r := by rw [if_neg (show ¬ (false = true) by decide)] at H; exact H
              clear H
              have H := H1
              clear H1
              have H' := Aside0.mk H
              clear H
              go_wp2
              go_meet
              case rel => exact ⟨_, (false), (by first | rfl | (simp; done) | (simp [*]; done) | (simp [*, Go.Proofs.Ytgdhgamolenfgaa.Str.bne_nil]; done)), H', ⟨by have := HJ6.out; first | omega | exact Nat.le_refl _⟩, ⟨by (with_reducible repeat (first | refine blk_drewN ?_ _ | refine blk_drew ?_ | refine blk_alloc ?_ _)); exact BK197.out⟩, ⟨by (with_reducible repeat (first | refine blk_drewN ?_ _ | refine blk_drew ?_ | refine blk_alloc ?_ _)); exact BK198.out⟩, ⟨by (with_reducible repeat (first | refine blk_drewN ?_ _ | refine blk_drew ?_ | refine blk_alloc ?_ _)); exact BK204.out⟩, ⟨by repeat (first | (with_reducible first | exact HB.out | apply below_alloc | apply pw_below_drewN | apply below_drew1 | refine below_set ?_ GE197.out | refine below_set ?_ GE198.out | refine below_set ?_ GE204.out) | exact HB.out)⟩⟩
          case rest =>
            clear HC45
            try clear c1
            try clear c2
            try clear p2
            try clear c3
            try clear c4
            try clear c5
            try clear c6
            try clear c16
            try clear c19
            try clear c22
            try clear c27
            try clear c34
            try clear c43
            try clear c46
            try clear c47
            try clear c49
            try clear c52
            try clear c54
            try clear c56
            try clear c57
            try clear c60
            try clear c63
            try clear c64
            try clear hcz48_0
            try clear hcz48_1
            try clear hcz48_2
            try clear hcz50_0
            try clear hcz50_1
            try clear hcz50_2
            try clear hcz58_0
            try clear hcz58_1
            try clear hcz58_2
            try clear hcz61_0
            try clear hcz61_1
            try clear hcz61_2
            try clear hcz65_0
            try clear hcz65_1
            try clear hcz65_2
            try clear hfz48_0
            try clear hfz48_1
            try clear hfz48_2
            try clear hfz50_0
            try clear hfz50_1
            try clear hfz50_2
            try clear hfz58_0
            try clear hfz58_1
            try clear hfz58_2
            try clear hfz61_0
            try clear hfz61_1
            try clear hfz61_2
            try clear hfz65_0
            try clear hfz65_1
            try clear hfz65_2
            try clear p2
            obtain ⟨kq, x47_44, rfl, HA, HJ44, BK197, BK198, BK204, HB⟩ := hcut
            cases kq with
            | zero => exact absurd HA.out (by simp [tidelinelaw02_SpanKeys.j1])
            | succ kj44 =>
              have H := HA.out
              clear HA
              simp only [tidelinelaw02_SpanKeys.j1] at H
              by_cases c67 : x47_44 = true
              · subst c67
                have H1 : (none) = some r := by rw [if_pos rfl] at H; exact H
                clear H
                have H := H1
                clear H1
                exact absurd H (by simp)
              · replace c67 := Bool.eq_false_iff.mpr c67
                subst c67
                have H1 : ((span_Check.f kj44 a0_0 a0_1 a0_2).bind fun t213 => (if t213 = 0 then ((span_Check.f kj44 a1_0 a1_1 a1_2).bind fun t214 => (if t214 = 0 then (if t210 = true then (tidelinelaw02_SpanKeys.j2 kj44 a2 false a0_0 a0_1 a0_2) else ((span_Empty.f kj44 a0_0 a0_1 a0_2).bind fun t215 => (if t215 = true then (tidelinelaw02_SpanKeys.j2 kj44 a2 true a0_0 a0_1 a0_2) else ((span_Holds.f kj44 a0_0 a0_1 a0_2 a0_0).bind fun t216 => (if t216 = true then ((span_Holds.f kj44 a1_0 a1_1 a1_2 a0_0).bind fun t217 => (if t217 = true then ((span_Holds.f kj44 a0_0 a0_1 a0_2 a1_1).bind fun t218 => (if t218 = true then ((span_Holds.f kj44 a1_0 a1_1 a1_2 a1_1).bind fun t219 => (tidelinelaw02_SpanKeys.j2 kj44 a2 t219 a0_0 a0_1 a0_2)) else (tidelinelaw02_SpanKeys.j2 kj44 a2 true a0_0 a0_1 a0_2))) else (tidelinelaw02_SpanKeys.j2 kj44 a2 false a0_0 a0_1 a0_2))) else ((span_Holds.f kj44 a0_0 a0_1 a0_2 a1_1).bind fun t220 => (if t220 = true then ((span_Holds.f kj44 a1_0 a1_1 a1_2 a1_1).bind fun t221 => (tidelinelaw02_SpanKeys.j2 kj44 a2 t221 a0_0 a0_1 a0_2)) else (tidelinelaw02_SpanKeys.j2 kj44 a2 true a0_0 a0_1 a0_2)))))))) else (tidelinelaw02_SpanKeys.j2 kj44 a2 false a0_0 a0_1 a0_2))) else (tidelinelaw02_SpanKeys.j2 kj44 a2 false a0_0 a0_1 a0_2))) = some r := by rw [if_neg (show ¬ (false = true) by decide)] at H; exact H
                clear H
                have H := H1
                clear H1
                have HC68 := Aside0.mk H
                clear H
                go_upto_region 9 with (fail)
                go_cut [89] (fun v89 wc => ∃ (kq : Nat) (x89_67 : Bool), v89 = .bool x89_67 ∧ Aside0 (tidelinelaw02_SpanKeys.j2 kq a2 x89_67 a0_0 a0_1 a0_2 = some r) ∧ Aside0 (kq ≤ kj44) ∧ Aside0 (wc.heap[gb197]? = some (.cells #[.string a0_0, .string a0_1, .bool a0_2] 23 (0, 0))) ∧ Aside0 (wc.heap[gb198]? = some (.cells #[.string a1_0, .string a1_1, .bool a1_2] 23 (0, 0))) ∧ Aside0 (wc.heap[gb204]? = some (.cells #[.string t200, .string t201, .bool t202] 23 (0, 0))) ∧ Aside0 (Below w.heap.size w wc))
                case first =>
                  have H := HC68.out
                  clear HC68
                  replace H := Option.bind_eq_some_iff.mp H
                  obtain ⟨t213, A690, H⟩ := H
                  replace H : (if t213 = 0 then ((span_Check.f kj44 a1_0 a1_1 a1_2).bind fun t214 => (if t214 = 0 then (if t210 = true then (tidelinelaw02_SpanKeys.j2 kj44 a2 false a0_0 a0_1 a0_2) else ((span_Empty.f kj44 a0_0 a0_1 a0_2).bind fun t215 => (if t215 = true then (tidelinelaw02_SpanKeys.j2 kj44 a2 true a0_0 a0_1 a0_2) else ((span_Holds.f kj44 a0_0 a0_1 a0_2 a0_0).bind fun t216 => (if t216 = true then ((span_Holds.f kj44 a1_0 a1_1 a1_2 a0_0).bind fun t217 => (if t217 = true then ((span_Holds.f kj44 a0_0 a0_1 a0_2 a1_1).bind fun t218 => (if t218 = true then ((span_Holds.f kj44 a1_0 a1_1 a1_2 a1_1).bind fun t219 => (tidelinelaw02_SpanKeys.j2 kj44 a2 t219 a0_0 a0_1 a0_2)) else (tidelinelaw02_SpanKeys.j2 kj44 a2 true a0_0 a0_1 a0_2))) else (tidelinelaw02_SpanKeys.j2 kj44 a2 false a0_0 a0_1 a0_2))) else ((span_Holds.f kj44 a0_0 a0_1 a0_2 a1_1).bind fun t220 => (if t220 = true then ((span_Holds.f kj44 a1_0 a1_1 a1_2 a1_1).bind fun t221 => (tidelinelaw02_SpanKeys.j2 kj44 a2 t221 a0_0 a0_1 a0_2)) else (tidelinelaw02_SpanKeys.j2 kj44 a2 true a0_0 a0_1 a0_2)))))))) else (tidelinelaw02_SpanKeys.j2 kj44 a2 false a0_0 a0_1 a0_2))) else (tidelinelaw02_SpanKeys.j2 kj44 a2 false a0_0 a0_1 a0_2)) = some r := H
                  have A69 := Aside0.mk A690
                  clear A690
                  by_cases c70 : t213 = 0
                  · rw [if_pos c70] at H
                    have c70b0 : (t213 == 0) = true := beq_iff_eq.mpr c70
                    have c70b1 : (t213 != 0) = false := bne_eq_false_iff_eq.mpr c70
                    clear c70
                    (first | rw [c70b0] | (simp only [i64_w, i32_w]; rw [c70b0]) | skip)
                    replace H := Option.bind_eq_some_iff.mp H
                    obtain ⟨t214, A710, H⟩ := H
                    replace H : (if t214 = 0 then (if t210 = true then (tidelinelaw02_SpanKeys.j2 kj44 a2 false a0_0 a0_1 a0_2) else ((span_Empty.f kj44 a0_0 a0_1 a0_2).bind fun t215 => (if t215 = true then (tidelinelaw02_SpanKeys.j2 kj44 a2 true a0_0 a0_1 a0_2) else ((span_Holds.f kj44 a0_0 a0_1 a0_2 a0_0).bind fun t216 => (if t216 = true then ((span_Holds.f kj44 a1_0 a1_1 a1_2 a0_0).bind fun t217 => (if t217 = true then ((span_Holds.f kj44 a0_0 a0_1 a0_2 a1_1).bind fun t218 => (if t218 = true then ((span_Holds.f kj44 a1_0 a1_1 a1_2 a1_1).bind fun t219 => (tidelinelaw02_SpanKeys.j2 kj44 a2 t219 a0_0 a0_1 a0_2)) else (tidelinelaw02_SpanKeys.j2 kj44 a2 true a0_0 a0_1 a0_2))) else (tidelinelaw02_SpanKeys.j2 kj44 a2 false a0_0 a0_1 a0_2))) else ((span_Holds.f kj44 a0_0 a0_1 a0_2 a1_1).bind fun t220 => (if t220 = true then ((span_Holds.f kj44 a1_0 a1_1 a1_2 a1_1).bind fun t221 => (tidelinelaw02_SpanKeys.j2 kj44 a2 t221 a0_0 a0_1 a0_2)) else (tidelinelaw02_SpanKeys.j2 kj44 a2 true a0_0 a0_1 a0_2)))))))) else (tidelinelaw02_SpanKeys.j2 kj44 a2 false a0_0 a0_1 a0_2)) = some r := H
                    have A71 := Aside0.mk A710
                    clear A710
                    by_cases c72 : t214 = 0
                    · rw [if_pos c72] at H
                      have c72b0 : (t214 == 0) = true := beq_iff_eq.mpr c72
                      have c72b1 : (t214 != 0) = false := bne_eq_false_iff_eq.mpr c72
                      clear c72
                      by_cases c73 : t210 = true
                      · subst c73
                        have H1 : (tidelinelaw02_SpanKeys.j2 kj44 a2 false a0_0 a0_1 a0_2) = some r := by rw [if_pos rfl] at H; exact H
                        clear H
                        have H := H1
                        clear H1
                        have H' := Aside0.mk H
                        clear H
                        have hnb74 := NB197_198.out
                        have hnc74 := NB198_197.out
                        have hnb75 := NB197_204.out
                        have hnc75 := NB204_197.out
                        have hcz76_0 : wc.cell? ⟨gb197, 0, none⟩ = some (.string a0_0) := (blk_cell BK197.out 0).trans rfl
                        have hcz76_1 : wc.cell? ⟨gb197, 1, none⟩ = some (.string a0_1) := (blk_cell BK197.out 1).trans rfl
                        have hcz76_2 : wc.cell? ⟨gb197, 2, none⟩ = some (.bool a0_2) := (blk_cell BK197.out 2).trans rfl
                        have hfz76_0 := blk_frozen BK197.out 0
                        have hfz76_1 := blk_frozen BK197.out 1
                        have hfz76_2 := blk_frozen BK197.out 2
                        go_wp2_with (first | ((with_reducible refine gate_callee (f := 12) rfl ?_); refine goesL_ (some 49) rfl rfl Try.func12 (by kernel_rfl) rfl #[.agg #[.string a0_0, .string a0_1, .bool a0_2]] rfl (by (try simp only [List.map_toArray, List.map_cons, List.map_nil]); first | done | rfl | (simp only [List.length_drop, List.length_take]; rfl)) ?_; (with_reducible refine (span_Check.calls kj44 a0_0 a0_1 a0_2 t213 _ A69.out).mono ?_); rintro e w77 ⟨rfl, hb⟩; refine ⟨_, rfl, ?_⟩; have n0_ := Aside0.mk (blk_below (g := gb197) (o := .cells #[.string a0_0, .string a0_1, .bool a0_2] 23 (0, 0)) (by (with_reducible repeat (first | refine blk_drewN ?_ _ | refine blk_drew ?_ | refine blk_alloc ?_ _)); exact BK197.out) hb); have n1_ := Aside0.mk (blk_below (g := gb198) (o := .cells #[.string a1_0, .string a1_1, .bool a1_2] 23 (0, 0)) (by (with_reducible repeat (first | refine blk_drewN ?_ _ | refine blk_drew ?_ | refine blk_alloc ?_ _)); exact BK198.out) hb); have n2_ := Aside0.mk (blk_below (g := gb204) (o := .cells #[.string t200, .string t201, .bool t202] 23 (0, 0)) (by (with_reducible repeat (first | refine blk_drewN ?_ _ | refine blk_drew ?_ | refine blk_alloc ?_ _)); exact BK204.out) hb); have n3_ := Aside0.mk (below_step (by repeat (first | (with_reducible first | exact HB.out | apply below_alloc | apply pw_below_drewN | apply below_drew1 | refine below_set ?_ GE197.out | refine below_set ?_ GE198.out | refine below_set ?_ GE204.out) | exact HB.out)) hb); clear BK197; clear BK198; clear BK204; clear HB; have BK197 := n0_; have BK198 := n1_; have BK204 := n2_; have HB := n3_; clear n0_ n1_ n2_ n3_; (try clear hb); (try clear hb2); (try clear hk); (try clear hi); have hnb78 := NB198_204.out; have hnc78 := NB204_198.out; have hcz79_0 : w77.cell? ⟨gb198, 0, none⟩ = some (.string a1_0) := (blk_cell BK198.out 0).trans rfl; have hcz79_1 : w77.cell? ⟨gb198, 1, none⟩ = some (.string a1_1) := (blk_cell BK198.out 1).trans rfl; have hcz79_2 : w77.cell? ⟨gb198, 2, none⟩ = some (.bool a1_2) := (blk_cell BK198.out 2).trans rfl; have hfz79_0 := blk_frozen BK198.out 0; have hfz79_1 := blk_frozen BK198.out 1; have hfz79_2 := blk_frozen BK198.out 2) | (go_at_call 12; (with_reducible refine (span_Check.calls kj44 a1_0 a1_1 a1_2 t214 _ A71.out).mono ?_); rintro e w80 ⟨rfl, hb⟩; have n0_ := Aside0.mk (blk_below (g := gb197) (o := .cells #[.string a0_0, .string a0_1, .bool a0_2] 23 (0, 0)) (by (with_reducible repeat (first | refine blk_drewN ?_ _ | refine blk_drew ?_ | refine blk_alloc ?_ _)); exact BK197.out) hb); have n1_ := Aside0.mk (blk_below (g := gb198) (o := .cells #[.string a1_0, .string a1_1, .bool a1_2] 23 (0, 0)) (by (with_reducible repeat (first | refine blk_drewN ?_ _ | refine blk_drew ?_ | refine blk_alloc ?_ _)); exact BK198.out) hb); have n2_ := Aside0.mk (blk_below (g := gb204) (o := .cells #[.string t200, .string t201, .bool t202] 23 (0, 0)) (by (with_reducible repeat (first | refine blk_drewN ?_ _ | refine blk_drew ?_ | refine blk_alloc ?_ _)); exact BK204.out) hb); have n3_ := Aside0.mk (below_step (by repeat (first | (with_reducible first | exact HB.out | apply below_alloc | apply pw_below_drewN | apply below_drew1 | refine below_set ?_ GE197.out | refine below_set ?_ GE198.out | refine below_set ?_ GE204.out) | exact HB.out)) hb); clear BK197; clear BK198; clear BK204; clear HB; have BK197 := n0_; have BK198 := n1_; have BK204 := n2_; have HB := n3_; clear n0_ n1_ n2_ n3_; (try clear hb); (try clear hb2); (try clear hk); (try clear hi)))
                        go_meet
                        case rel => exact ⟨_, (false), (by first | rfl | (simp; done) | (simp [*]; done) | (simp [*, Go.Proofs.Ytgdhgamolenfgaa.Str.bne_nil]; done)), H', ⟨by have := HJ6.out; have := HJ44.out; first | omega | exact Nat.le_refl _⟩, ⟨by (with_reducible repeat (first | refine blk_drewN ?_ _ | refine blk_drew ?_ | refine blk_alloc ?_ _)); exact BK197.out⟩, ⟨by (with_reducible repeat (first | refine blk_drewN ?_ _ | refine blk_drew ?_ | refine blk_alloc ?_ _)); exact BK198.out⟩, ⟨by (with_reducible repeat (first | refine blk_drewN ?_ _ | refine blk_drew ?_ | refine blk_alloc ?_ _)); exact BK204.out⟩, ⟨by repeat (first | (with_reducible first | exact HB.out | apply below_alloc | apply pw_below_drewN | apply below_drew1 | refine below_set ?_ GE197.out | refine below_set ?_ GE198.out | refine below_set ?_ GE204.out) | exact HB.out)⟩⟩
                      · replace c73 := Bool.eq_false_iff.mpr c73
                        subst c73
                        have H1 : ((span_Empty.f kj44 a0_0 a0_1 a0_2).bind fun t215 => (if t215 = true then (tidelinelaw02_SpanKeys.j2 kj44 a2 true a0_0 a0_1 a0_2) else ((span_Holds.f kj44 a0_0 a0_1 a0_2 a0_0).bind fun t216 => (if t216 = true then ((span_Holds.f kj44 a1_0 a1_1 a1_2 a0_0).bind fun t217 => (if t217 = true then ((span_Holds.f kj44 a0_0 a0_1 a0_2 a1_1).bind fun t218 => (if t218 = true then ((span_Holds.f kj44 a1_0 a1_1 a1_2 a1_1).bind fun t219 => (tidelinelaw02_SpanKeys.j2 kj44 a2 t219 a0_0 a0_1 a0_2)) else (tidelinelaw02_SpanKeys.j2 kj44 a2 true a0_0 a0_1 a0_2))) else (tidelinelaw02_SpanKeys.j2 kj44 a2 false a0_0 a0_1 a0_2))) else ((span_Holds.f kj44 a0_0 a0_1 a0_2 a1_1).bind fun t220 => (if t220 = true then ((span_Holds.f kj44 a1_0 a1_1 a1_2 a1_1).bind fun t221 => (tidelinelaw02_SpanKeys.j2 kj44 a2 t221 a0_0 a0_1 a0_2)) else (tidelinelaw02_SpanKeys.j2 kj44 a2 true a0_0 a0_1 a0_2))))))) = some r := by rw [if_neg (show ¬ (false = true) by decide)] at H; exact H
                        clear H
                        have H := H1
                        clear H1
                        replace H := Option.bind_eq_some_iff.mp H
                        obtain ⟨t215, A810, H⟩ := H
                        replace H : (if t215 = true then (tidelinelaw02_SpanKeys.j2 kj44 a2 true a0_0 a0_1 a0_2) else ((span_Holds.f kj44 a0_0 a0_1 a0_2 a0_0).bind fun t216 => (if t216 = true then ((span_Holds.f kj44 a1_0 a1_1 a1_2 a0_0).bind fun t217 => (if t217 = true then ((span_Holds.f kj44 a0_0 a0_1 a0_2 a1_1).bind fun t218 => (if t218 = true then ((span_Holds.f kj44 a1_0 a1_1 a1_2 a1_1).bind fun t219 => (tidelinelaw02_SpanKeys.j2 kj44 a2 t219 a0_0 a0_1 a0_2)) else (tidelinelaw02_SpanKeys.j2 kj44 a2 true a0_0 a0_1 a0_2))) else (tidelinelaw02_SpanKeys.j2 kj44 a2 false a0_0 a0_1 a0_2))) else ((span_Holds.f kj44 a0_0 a0_1 a0_2 a1_1).bind fun t220 => (if t220 = true then ((span_Holds.f kj44 a1_0 a1_1 a1_2 a1_1).bind fun t221 => (tidelinelaw02_SpanKeys.j2 kj44 a2 t221 a0_0 a0_1 a0_2)) else (tidelinelaw02_SpanKeys.j2 kj44 a2 true a0_0 a0_1 a0_2)))))) = some r := H
                        have A81 := Aside0.mk A810
                        clear A810
                        by_cases c82 : t215 = true
                        · subst c82
                          have H1 : (tidelinelaw02_SpanKeys.j2 kj44 a2 true a0_0 a0_1 a0_2) = some r := by rw [if_pos rfl] at H; exact H
                          clear H
                          have H := H1
                          clear H1
                          have H' := Aside0.mk H
                          clear H
                          have hnb83 := NB197_198.out
                          have hnc83 := NB198_197.out
                          have hnb84 := NB197_204.out
                          have hnc84 := NB204_197.out
                          have hcz85_0 : wc.cell? ⟨gb197, 0, none⟩ = some (.string a0_0) := (blk_cell BK197.out 0).trans rfl
                          have hcz85_1 : wc.cell? ⟨gb197, 1, none⟩ = some (.string a0_1) := (blk_cell BK197.out 1).trans rfl
                          have hcz85_2 : wc.cell? ⟨gb197, 2, none⟩ = some (.bool a0_2) := (blk_cell BK197.out 2).trans rfl
                          have hfz85_0 := blk_frozen BK197.out 0
                          have hfz85_1 := blk_frozen BK197.out 1
                          have hfz85_2 := blk_frozen BK197.out 2
                          go_wp2_with (first | ((with_reducible refine gate_callee (f := 12) rfl ?_); refine goesL_ (some 49) rfl rfl Try.func12 (by kernel_rfl) rfl #[.agg #[.string a0_0, .string a0_1, .bool a0_2]] rfl (by (try simp only [List.map_toArray, List.map_cons, List.map_nil]); first | done | rfl | (simp only [List.length_drop, List.length_take]; rfl)) ?_; (with_reducible refine (span_Check.calls kj44 a0_0 a0_1 a0_2 t213 _ A69.out).mono ?_); rintro e w86 ⟨rfl, hb⟩; refine ⟨_, rfl, ?_⟩; have n0_ := Aside0.mk (blk_below (g := gb197) (o := .cells #[.string a0_0, .string a0_1, .bool a0_2] 23 (0, 0)) (by (with_reducible repeat (first | refine blk_drewN ?_ _ | refine blk_drew ?_ | refine blk_alloc ?_ _)); exact BK197.out) hb); have n1_ := Aside0.mk (blk_below (g := gb198) (o := .cells #[.string a1_0, .string a1_1, .bool a1_2] 23 (0, 0)) (by (with_reducible repeat (first | refine blk_drewN ?_ _ | refine blk_drew ?_ | refine blk_alloc ?_ _)); exact BK198.out) hb); have n2_ := Aside0.mk (blk_below (g := gb204) (o := .cells #[.string t200, .string t201, .bool t202] 23 (0, 0)) (by (with_reducible repeat (first | refine blk_drewN ?_ _ | refine blk_drew ?_ | refine blk_alloc ?_ _)); exact BK204.out) hb); have n3_ := Aside0.mk (below_step (by repeat (first | (with_reducible first | exact HB.out | apply below_alloc | apply pw_below_drewN | apply below_drew1 | refine below_set ?_ GE197.out | refine below_set ?_ GE198.out | refine below_set ?_ GE204.out) | exact HB.out)) hb); clear BK197; clear BK198; clear BK204; clear HB; have BK197 := n0_; have BK198 := n1_; have BK204 := n2_; have HB := n3_; clear n0_ n1_ n2_ n3_; (try clear hb); (try clear hb2); (try clear hk); (try clear hi); have hnb87 := NB198_204.out; have hnc87 := NB204_198.out; have hcz88_0 : w86.cell? ⟨gb198, 0, none⟩ = some (.string a1_0) := (blk_cell BK198.out 0).trans rfl; have hcz88_1 : w86.cell? ⟨gb198, 1, none⟩ = some (.string a1_1) := (blk_cell BK198.out 1).trans rfl; have hcz88_2 : w86.cell? ⟨gb198, 2, none⟩ = some (.bool a1_2) := (blk_cell BK198.out 2).trans rfl; have hfz88_0 := blk_frozen BK198.out 0; have hfz88_1 := blk_frozen BK198.out 1; have hfz88_2 := blk_frozen BK198.out 2) | (go_at_call 12; (with_reducible refine (span_Check.calls kj44 a1_0 a1_1 a1_2 t214 _ A71.out).mono ?_); rintro e w89 ⟨rfl, hb⟩; have n0_ := Aside0.mk (blk_below (g := gb197) (o := .cells #[.string a0_0, .string a0_1, .bool a0_2] 23 (0, 0)) (by (with_reducible repeat (first | refine blk_drewN ?_ _ | refine blk_drew ?_ | refine blk_alloc ?_ _)); exact BK197.out) hb); have n1_ := Aside0.mk (blk_below (g := gb198) (o := .cells #[.string a1_0, .string a1_1, .bool a1_2] 23 (0, 0)) (by (with_reducible repeat (first | refine blk_drewN ?_ _ | refine blk_drew ?_ | refine blk_alloc ?_ _)); exact BK198.out) hb); have n2_ := Aside0.mk (blk_below (g := gb204) (o := .cells #[.string t200, .string t201, .bool t202] 23 (0, 0)) (by (with_reducible repeat (first | refine blk_drewN ?_ _ | refine blk_drew ?_ | refine blk_alloc ?_ _)); exact BK204.out) hb); have n3_ := Aside0.mk (below_step (by repeat (first | (with_reducible first | exact HB.out | apply below_alloc | apply pw_below_drewN | apply below_drew1 | refine below_set ?_ GE197.out | refine below_set ?_ GE198.out | refine below_set ?_ GE204.out) | exact HB.out)) hb); clear BK197; clear BK198; clear BK204; clear HB; have BK197 := n0_; have BK198 := n1_; have BK204 := n2_; have HB := n3_; clear n0_ n1_ n2_ n3_; (try clear hb); (try clear hb2); (try clear hk); (try clear hi); have hcz90_0 : w89.cell? ⟨gb197, 0, none⟩ = some (.string a0_0) := (blk_cell BK197.out 0).trans rfl; have hcz90_1 : w89.cell? ⟨gb197, 1, none⟩ = some (.string a0_1) := (blk_cell BK197.out 1).trans rfl; have hcz90_2 : w89.cell? ⟨gb197, 2, none⟩ = some (.bool a0_2) := (blk_cell BK197.out 2).trans rfl; have hfz90_0 := blk_frozen BK197.out 0; have hfz90_1 := blk_frozen BK197.out 1; have hfz90_2 := blk_frozen BK197.out 2) | (go_at_call 14; (with_reducible refine (span_Empty.calls kj44 a0_0 a0_1 a0_2 true _ A81.out).mono ?_); rintro e w91 ⟨rfl, hb⟩; have n0_ := Aside0.mk (blk_below (g := gb197) (o := .cells #[.string a0_0, .string a0_1, .bool a0_2] 23 (0, 0)) (by (with_reducible repeat (first | refine blk_drewN ?_ _ | refine blk_drew ?_ | refine blk_alloc ?_ _)); exact BK197.out) hb); have n1_ := Aside0.mk (blk_below (g := gb198) (o := .cells #[.string a1_0, .string a1_1, .bool a1_2] 23 (0, 0)) (by (with_reducible repeat (first | refine blk_drewN ?_ _ | refine blk_drew ?_ | refine blk_alloc ?_ _)); exact BK198.out) hb); have n2_ := Aside0.mk (blk_below (g := gb204) (o := .cells #[.string t200, .string t201, .bool t202] 23 (0, 0)) (by (with_reducible repeat (first | refine blk_drewN ?_ _ | refine blk_drew ?_ | refine blk_alloc ?_ _)); exact BK204.out) hb); have n3_ := Aside0.mk (below_step (by repeat (first | (with_reducible first | exact HB.out | apply below_alloc | apply pw_below_drewN | apply below_drew1 | refine below_set ?_ GE197.out | refine below_set ?_ GE198.out | refine below_set ?_ GE204.out) | exact HB.out)) hb); clear BK197; clear BK198; clear BK204; clear HB; have BK197 := n0_; have BK198 := n1_; have BK204 := n2_; have HB := n3_; clear n0_ n1_ n2_ n3_; (try clear hb); (try clear hb2); (try clear hk); (try clear hi)))
                          go_meet
                          case rel => exact ⟨_, (true), (by first | rfl | (simp; done) | (simp [*]; done) | (simp [*, Go.Proofs.Ytgdhgamolenfgaa.Str.bne_nil]; done)), H', ⟨by have := HJ6.out; have := HJ44.out; first | omega | exact Nat.le_refl _⟩, ⟨by (with_reducible repeat (first | refine blk_drewN ?_ _ | refine blk_drew ?_ | refine blk_alloc ?_ _)); exact BK197.out⟩, ⟨by (with_reducible repeat (first | refine blk_drewN ?_ _ | refine blk_drew ?_ | refine blk_alloc ?_ _)); exact BK198.out⟩, ⟨by (with_reducible repeat (first | refine blk_drewN ?_ _ | refine blk_drew ?_ | refine blk_alloc ?_ _)); exact BK204.out⟩, ⟨by repeat (first | (with_reducible first | exact HB.out | apply below_alloc | apply pw_below_drewN | apply below_drew1 | refine below_set ?_ GE197.out | refine below_set ?_ GE198.out | refine below_set ?_ GE204.out) | exact HB.out)⟩⟩
                        · replace c82 := Bool.eq_false_iff.mpr c82
                          subst c82
                          have H1 : ((span_Holds.f kj44 a0_0 a0_1 a0_2 a0_0).bind fun t216 => (if t216 = true then ((span_Holds.f kj44 a1_0 a1_1 a1_2 a0_0).bind fun t217 => (if t217 = true then ((span_Holds.f kj44 a0_0 a0_1 a0_2 a1_1).bind fun t218 => (if t218 = true then ((span_Holds.f kj44 a1_0 a1_1 a1_2 a1_1).bind fun t219 => (tidelinelaw02_SpanKeys.j2 kj44 a2 t219 a0_0 a0_1 a0_2)) else (tidelinelaw02_SpanKeys.j2 kj44 a2 true a0_0 a0_1 a0_2))) else (tidelinelaw02_SpanKeys.j2 kj44 a2 false a0_0 a0_1 a0_2))) else ((span_Holds.f kj44 a0_0 a0_1 a0_2 a1_1).bind fun t220 => (if t220 = true then ((span_Holds.f kj44 a1_0 a1_1 a1_2 a1_1).bind fun t221 => (tidelinelaw02_SpanKeys.j2 kj44 a2 t221 a0_0 a0_1 a0_2)) else (tidelinelaw02_SpanKeys.j2 kj44 a2 true a0_0 a0_1 a0_2))))) = some r := by rw [if_neg (show ¬ (false = true) by decide)] at H; exact H
                          clear H
                          have H := H1
                          clear H1
                          replace H := Option.bind_eq_some_iff.mp H
                          obtain ⟨t216, A920, H⟩ := H
                          replace H : (if t216 = true then ((span_Holds.f kj44 a1_0 a1_1 a1_2 a0_0).bind fun t217 => (if t217 = true then ((span_Holds.f kj44 a0_0 a0_1 a0_2 a1_1).bind fun t218 => (if t218 = true then ((span_Holds.f kj44 a1_0 a1_1 a1_2 a1_1).bind fun t219 => (tidelinelaw02_SpanKeys.j2 kj44 a2 t219 a0_0 a0_1 a0_2)) else (tidelinelaw02_SpanKeys.j2 kj44 a2 true a0_0 a0_1 a0_2))) else (tidelinelaw02_SpanKeys.j2 kj44 a2 false a0_0 a0_1 a0_2))) else ((span_Holds.f kj44 a0_0 a0_1 a0_2 a1_1).bind fun t220 => (if t220 = true then ((span_Holds.f kj44 a1_0 a1_1 a1_2 a1_1).bind fun t221 => (tidelinelaw02_SpanKeys.j2 kj44 a2 t221 a0_0 a0_1 a0_2)) else (tidelinelaw02_SpanKeys.j2 kj44 a2 true a0_0 a0_1 a0_2)))) = some r := H
                          have A92 := Aside0.mk A920
                          clear A920
                          by_cases c93 : t216 = true
                          · subst c93
                            have H1 : ((span_Holds.f kj44 a1_0 a1_1 a1_2 a0_0).bind fun t217 => (if t217 = true then ((span_Holds.f kj44 a0_0 a0_1 a0_2 a1_1).bind fun t218 => (if t218 = true then ((span_Holds.f kj44 a1_0 a1_1 a1_2 a1_1).bind fun t219 => (tidelinelaw02_SpanKeys.j2 kj44 a2 t219 a0_0 a0_1 a0_2)) else (tidelinelaw02_SpanKeys.j2 kj44 a2 true a0_0 a0_1 a0_2))) else (tidelinelaw02_SpanKeys.j2 kj44 a2 false a0_0 a0_1 a0_2))) = some r := by rw [if_pos rfl] at H; exact H
                            clear H
                            have H := H1
                            clear H1
                            replace H := Option.bind_eq_some_iff.mp H
                            obtain ⟨t217, A940, H⟩ := H
                            replace H : (if t217 = true then ((span_Holds.f kj44 a0_0 a0_1 a0_2 a1_1).bind fun t218 => (if t218 = true then ((span_Holds.f kj44 a1_0 a1_1 a1_2 a1_1).bind fun t219 => (tidelinelaw02_SpanKeys.j2 kj44 a2 t219 a0_0 a0_1 a0_2)) else (tidelinelaw02_SpanKeys.j2 kj44 a2 true a0_0 a0_1 a0_2))) else (tidelinelaw02_SpanKeys.j2 kj44 a2 false a0_0 a0_1 a0_2)) = some r := H
                            have A94 := Aside0.mk A940
                            clear A940
                            by_cases c95 : t217 = true
                            · subst c95
                              have H1 : ((span_Holds.f kj44 a0_0 a0_1 a0_2 a1_1).bind fun t218 => (if t218 = true then ((span_Holds.f kj44 a1_0 a1_1 a1_2 a1_1).bind fun t219 => (tidelinelaw02_SpanKeys.j2 kj44 a2 t219 a0_0 a0_1 a0_2)) else (tidelinelaw02_SpanKeys.j2 kj44 a2 true a0_0 a0_1 a0_2))) = some r := by rw [if_pos rfl] at H; exact H
                              clear H
                              have H := H1
                              clear H1
                              replace H := Option.bind_eq_some_iff.mp H
                              obtain ⟨t218, A960, H⟩ := H
                              replace H : (if t218 = true then ((span_Holds.f kj44 a1_0 a1_1 a1_2 a1_1).bind fun t219 => (tidelinelaw02_SpanKeys.j2 kj44 a2 t219 a0_0 a0_1 a0_2)) else (tidelinelaw02_SpanKeys.j2 kj44 a2 true a0_0 a0_1 a0_2)) = some r := H
                              have A96 := Aside0.mk A960
                              clear A960
                              by_cases c97 : t218 = true
                              · subst c97
                                have H1 : ((span_Holds.f kj44 a1_0 a1_1 a1_2 a1_1).bind fun t219 => (tidelinelaw02_SpanKeys.j2 kj44 a2 t219 a0_0 a0_1 a0_2)) = some r := by rw [if_pos rfl] at H; exact H
                                clear H
                                have H := H1
                                clear H1
                                replace H := Option.bind_eq_some_iff.mp H
                                obtain ⟨t219, A980, H⟩ := H
                                replace H : (tidelinelaw02_SpanKeys.j2 kj44 a2 t219 a0_0 a0_1 a0_2) = some r := H
                                have A98 := Aside0.mk A980
                                clear A980
                                have H' := Aside0.mk H
                                clear H
                                have hnb99 := NB197_198.out
                                have hnc99 := NB198_197.out
                                have hnb100 := NB197_204.out
                                have hnc100 := NB204_197.out
                                have hcz101_0 : wc.cell? ⟨gb197, 0, none⟩ = some (.string a0_0) := (blk_cell BK197.out 0).trans rfl
                                have hcz101_1 : wc.cell? ⟨gb197, 1, none⟩ = some (.string a0_1) := (blk_cell BK197.out 1).trans rfl
                                have hcz101_2 : wc.cell? ⟨gb197, 2, none⟩ = some (.bool a0_2) := (blk_cell BK197.out 2).trans rfl
                                have hfz101_0 := blk_frozen BK197.out 0
                                have hfz101_1 := blk_frozen BK197.out 1
                                have hfz101_2 := blk_frozen BK197.out 2
                                go_wp2_with (first | ((with_reducible refine gate_callee (f := 12) rfl ?_); refine goesL_ (some 49) rfl rfl Try.func12 (by kernel_rfl) rfl #[.agg #[.string a0_0, .string a0_1, .bool a0_2]] rfl (by (try simp only [List.map_toArray, List.map_cons, List.map_nil]); first | done | rfl | (simp only [List.length_drop, List.length_take]; rfl)) ?_; (with_reducible refine (span_Check.calls kj44 a0_0 a0_1 a0_2 t213 _ A69.out).mono ?_); rintro e w102 ⟨rfl, hb⟩; refine ⟨_, rfl, ?_⟩; have n0_ := Aside0.mk (blk_below (g := gb197) (o := .cells #[.string a0_0, .string a0_1, .bool a0_2] 23 (0, 0)) (by (with_reducible repeat (first | refine blk_drewN ?_ _ | refine blk_drew ?_ | refine blk_alloc ?_ _)); exact BK197.out) hb); have n1_ := Aside0.mk (blk_below (g := gb198) (o := .cells #[.string a1_0, .string a1_1, .bool a1_2] 23 (0, 0)) (by (with_reducible repeat (first | refine blk_drewN ?_ _ | refine blk_drew ?_ | refine blk_alloc ?_ _)); exact BK198.out) hb); have n2_ := Aside0.mk (blk_below (g := gb204) (o := .cells #[.string t200, .string t201, .bool t202] 23 (0, 0)) (by (with_reducible repeat (first | refine blk_drewN ?_ _ | refine blk_drew ?_ | refine blk_alloc ?_ _)); exact BK204.out) hb); have n3_ := Aside0.mk (below_step (by repeat (first | (with_reducible first | exact HB.out | apply below_alloc | apply pw_below_drewN | apply below_drew1 | refine below_set ?_ GE197.out | refine below_set ?_ GE198.out | refine below_set ?_ GE204.out) | exact HB.out)) hb); clear BK197; clear BK198; clear BK204; clear HB; have BK197 := n0_; have BK198 := n1_; have BK204 := n2_; have HB := n3_; clear n0_ n1_ n2_ n3_; (try clear hb); (try clear hb2); (try clear hk); (try clear hi); have hnb103 := NB198_204.out; have hnc103 := NB204_198.out; have hcz104_0 : w102.cell? ⟨gb198, 0, none⟩ = some (.string a1_0) := (blk_cell BK198.out 0).trans rfl; have hcz104_1 : w102.cell? ⟨gb198, 1, none⟩ = some (.string a1_1) := (blk_cell BK198.out 1).trans rfl; have hcz104_2 : w102.cell? ⟨gb198, 2, none⟩ = some (.bool a1_2) := (blk_cell BK198.out 2).trans rfl; have hfz104_0 := blk_frozen BK198.out 0; have hfz104_1 := blk_frozen BK198.out 1; have hfz104_2 := blk_frozen BK198.out 2) | (go_at_call 12; (with_reducible refine (span_Check.calls kj44 a1_0 a1_1 a1_2 t214 _ A71.out).mono ?_); rintro e w105 ⟨rfl, hb⟩; have n0_ := Aside0.mk (blk_below (g := gb197) (o := .cells #[.string a0_0, .string a0_1, .bool a0_2] 23 (0, 0)) (by (with_reducible repeat (first | refine blk_drewN ?_ _ | refine blk_drew ?_ | refine blk_alloc ?_ _)); exact BK197.out) hb); have n1_ := Aside0.mk (blk_below (g := gb198) (o := .cells #[.string a1_0, .string a1_1, .bool a1_2] 23 (0, 0)) (by (with_reducible repeat (first | refine blk_drewN ?_ _ | refine blk_drew ?_ | refine blk_alloc ?_ _)); exact BK198.out) hb); have n2_ := Aside0.mk (blk_below (g := gb204) (o := .cells #[.string t200, .string t201, .bool t202] 23 (0, 0)) (by (with_reducible repeat (first | refine blk_drewN ?_ _ | refine blk_drew ?_ | refine blk_alloc ?_ _)); exact BK204.out) hb); have n3_ := Aside0.mk (below_step (by repeat (first | (with_reducible first | exact HB.out | apply below_alloc | apply pw_below_drewN | apply below_drew1 | refine below_set ?_ GE197.out | refine below_set ?_ GE198.out | refine below_set ?_ GE204.out) | exact HB.out)) hb); clear BK197; clear BK198; clear BK204; clear HB; have BK197 := n0_; have BK198 := n1_; have BK204 := n2_; have HB := n3_; clear n0_ n1_ n2_ n3_; (try clear hb); (try clear hb2); (try clear hk); (try clear hi); have hcz106_0 : w105.cell? ⟨gb197, 0, none⟩ = some (.string a0_0) := (blk_cell BK197.out 0).trans rfl; have hcz106_1 : w105.cell? ⟨gb197, 1, none⟩ = some (.string a0_1) := (blk_cell BK197.out 1).trans rfl; have hcz106_2 : w105.cell? ⟨gb197, 2, none⟩ = some (.bool a0_2) := (blk_cell BK197.out 2).trans rfl; have hfz106_0 := blk_frozen BK197.out 0; have hfz106_1 := blk_frozen BK197.out 1; have hfz106_2 := blk_frozen BK197.out 2) | (go_at_call 14; (with_reducible refine (span_Empty.calls kj44 a0_0 a0_1 a0_2 false _ A81.out).mono ?_); rintro e w107 ⟨rfl, hb⟩; have n0_ := Aside0.mk (blk_below (g := gb197) (o := .cells #[.string a0_0, .string a0_1, .bool a0_2] 23 (0, 0)) (by (with_reducible repeat (first | refine blk_drewN ?_ _ | refine blk_drew ?_ | refine blk_alloc ?_ _)); exact BK197.out) hb); have n1_ := Aside0.mk (blk_below (g := gb198) (o := .cells #[.string a1_0, .string a1_1, .bool a1_2] 23 (0, 0)) (by (with_reducible repeat (first | refine blk_drewN ?_ _ | refine blk_drew ?_ | refine blk_alloc ?_ _)); exact BK198.out) hb); have n2_ := Aside0.mk (blk_below (g := gb204) (o := .cells #[.string t200, .string t201, .bool t202] 23 (0, 0)) (by (with_reducible repeat (first | refine blk_drewN ?_ _ | refine blk_drew ?_ | refine blk_alloc ?_ _)); exact BK204.out) hb); have n3_ := Aside0.mk (below_step (by repeat (first | (with_reducible first | exact HB.out | apply below_alloc | apply pw_below_drewN | apply below_drew1 | refine below_set ?_ GE197.out | refine below_set ?_ GE198.out | refine below_set ?_ GE204.out) | exact HB.out)) hb); clear BK197; clear BK198; clear BK204; clear HB; have BK197 := n0_; have BK198 := n1_; have BK204 := n2_; have HB := n3_; clear n0_ n1_ n2_ n3_; (try clear hb); (try clear hb2); (try clear hk); (try clear hi); have hcz108_0 : w107.cell? ⟨gb197, 0, none⟩ = some (.string a0_0) := (blk_cell BK197.out 0).trans rfl; have hcz108_1 : w107.cell? ⟨gb197, 1, none⟩ = some (.string a0_1) := (blk_cell BK197.out 1).trans rfl; have hcz108_2 : w107.cell? ⟨gb197, 2, none⟩ = some (.bool a0_2) := (blk_cell BK197.out 2).trans rfl; have hfz108_0 := blk_frozen BK197.out 0; have hfz108_1 := blk_frozen BK197.out 1; have hfz108_2 := blk_frozen BK197.out 2) | (go_at_call 16; (with_reducible refine (span_Holds.calls kj44 a0_0 a0_1 a0_2 a0_0 true _ A92.out).mono ?_); rintro e w109 ⟨rfl, hb⟩; have n0_ := Aside0.mk (blk_below (g := gb197) (o := .cells #[.string a0_0, .string a0_1, .bool a0_2] 23 (0, 0)) (by (with_reducible repeat (first | refine blk_drewN ?_ _ | refine blk_drew ?_ | refine blk_alloc ?_ _)); exact BK197.out) hb); have n1_ := Aside0.mk (blk_below (g := gb198) (o := .cells #[.string a1_0, .string a1_1, .bool a1_2] 23 (0, 0)) (by (with_reducible repeat (first | refine blk_drewN ?_ _ | refine blk_drew ?_ | refine blk_alloc ?_ _)); exact BK198.out) hb); have n2_ := Aside0.mk (blk_below (g := gb204) (o := .cells #[.string t200, .string t201, .bool t202] 23 (0, 0)) (by (with_reducible repeat (first | refine blk_drewN ?_ _ | refine blk_drew ?_ | refine blk_alloc ?_ _)); exact BK204.out) hb); have n3_ := Aside0.mk (below_step (by repeat (first | (with_reducible first | exact HB.out | apply below_alloc | apply pw_below_drewN | apply below_drew1 | refine below_set ?_ GE197.out | refine below_set ?_ GE198.out | refine below_set ?_ GE204.out) | exact HB.out)) hb); clear BK197; clear BK198; clear BK204; clear HB; have BK197 := n0_; have BK198 := n1_; have BK204 := n2_; have HB := n3_; clear n0_ n1_ n2_ n3_; (try clear hb); (try clear hb2); (try clear hk); (try clear hi); have hcz110_0 : w109.cell? ⟨gb198, 0, none⟩ = some (.string a1_0) := (blk_cell BK198.out 0).trans rfl; have hcz110_1 : w109.cell? ⟨gb198, 1, none⟩ = some (.string a1_1) := (blk_cell BK198.out 1).trans rfl; have hcz110_2 : w109.cell? ⟨gb198, 2, none⟩ = some (.bool a1_2) := (blk_cell BK198.out 2).trans rfl; have hfz110_0 := blk_frozen BK198.out 0; have hfz110_1 := blk_frozen BK198.out 1; have hfz110_2 := blk_frozen BK198.out 2; have hcz111_0 : w109.cell? ⟨gb197, 0, none⟩ = some (.string a0_0) := (blk_cell BK197.out 0).trans rfl; have hcz111_1 : w109.cell? ⟨gb197, 1, none⟩ = some (.string a0_1) := (blk_cell BK197.out 1).trans rfl; have hcz111_2 : w109.cell? ⟨gb197, 2, none⟩ = some (.bool a0_2) := (blk_cell BK197.out 2).trans rfl; have hfz111_0 := blk_frozen BK197.out 0; have hfz111_1 := blk_frozen BK197.out 1; have hfz111_2 := blk_frozen BK197.out 2) | (go_at_call 16; (with_reducible refine (span_Holds.calls kj44 a1_0 a1_1 a1_2 a0_0 true _ A94.out).mono ?_); rintro e w112 ⟨rfl, hb⟩; have n0_ := Aside0.mk (blk_below (g := gb197) (o := .cells #[.string a0_0, .string a0_1, .bool a0_2] 23 (0, 0)) (by (with_reducible repeat (first | refine blk_drewN ?_ _ | refine blk_drew ?_ | refine blk_alloc ?_ _)); exact BK197.out) hb); have n1_ := Aside0.mk (blk_below (g := gb198) (o := .cells #[.string a1_0, .string a1_1, .bool a1_2] 23 (0, 0)) (by (with_reducible repeat (first | refine blk_drewN ?_ _ | refine blk_drew ?_ | refine blk_alloc ?_ _)); exact BK198.out) hb); have n2_ := Aside0.mk (blk_below (g := gb204) (o := .cells #[.string t200, .string t201, .bool t202] 23 (0, 0)) (by (with_reducible repeat (first | refine blk_drewN ?_ _ | refine blk_drew ?_ | refine blk_alloc ?_ _)); exact BK204.out) hb); have n3_ := Aside0.mk (below_step (by repeat (first | (with_reducible first | exact HB.out | apply below_alloc | apply pw_below_drewN | apply below_drew1 | refine below_set ?_ GE197.out | refine below_set ?_ GE198.out | refine below_set ?_ GE204.out) | exact HB.out)) hb); clear BK197; clear BK198; clear BK204; clear HB; have BK197 := n0_; have BK198 := n1_; have BK204 := n2_; have HB := n3_; clear n0_ n1_ n2_ n3_; (try clear hb); (try clear hb2); (try clear hk); (try clear hi); have hcz113_0 : w112.cell? ⟨gb197, 0, none⟩ = some (.string a0_0) := (blk_cell BK197.out 0).trans rfl; have hcz113_1 : w112.cell? ⟨gb197, 1, none⟩ = some (.string a0_1) := (blk_cell BK197.out 1).trans rfl; have hcz113_2 : w112.cell? ⟨gb197, 2, none⟩ = some (.bool a0_2) := (blk_cell BK197.out 2).trans rfl; have hfz113_0 := blk_frozen BK197.out 0; have hfz113_1 := blk_frozen BK197.out 1; have hfz113_2 := blk_frozen BK197.out 2; have hcz114_0 : w112.cell? ⟨gb198, 0, none⟩ = some (.string a1_0) := (blk_cell BK198.out 0).trans rfl; have hcz114_1 : w112.cell? ⟨gb198, 1, none⟩ = some (.string a1_1) := (blk_cell BK198.out 1).trans rfl; have hcz114_2 : w112.cell? ⟨gb198, 2, none⟩ = some (.bool a1_2) := (blk_cell BK198.out 2).trans rfl; have hfz114_0 := blk_frozen BK198.out 0; have hfz114_1 := blk_frozen BK198.out 1; have hfz114_2 := blk_frozen BK198.out 2) | (go_at_call 16; (with_reducible refine (span_Holds.calls kj44 a0_0 a0_1 a0_2 a1_1 true _ A96.out).mono ?_); rintro e w115 ⟨rfl, hb⟩; have n0_ := Aside0.mk (blk_below (g := gb197) (o := .cells #[.string a0_0, .string a0_1, .bool a0_2] 23 (0, 0)) (by (with_reducible repeat (first | refine blk_drewN ?_ _ | refine blk_drew ?_ | refine blk_alloc ?_ _)); exact BK197.out) hb); have n1_ := Aside0.mk (blk_below (g := gb198) (o := .cells #[.string a1_0, .string a1_1, .bool a1_2] 23 (0, 0)) (by (with_reducible repeat (first | refine blk_drewN ?_ _ | refine blk_drew ?_ | refine blk_alloc ?_ _)); exact BK198.out) hb); have n2_ := Aside0.mk (blk_below (g := gb204) (o := .cells #[.string t200, .string t201, .bool t202] 23 (0, 0)) (by (with_reducible repeat (first | refine blk_drewN ?_ _ | refine blk_drew ?_ | refine blk_alloc ?_ _)); exact BK204.out) hb); have n3_ := Aside0.mk (below_step (by repeat (first | (with_reducible first | exact HB.out | apply below_alloc | apply pw_below_drewN | apply below_drew1 | refine below_set ?_ GE197.out | refine below_set ?_ GE198.out | refine below_set ?_ GE204.out) | exact HB.out)) hb); clear BK197; clear BK198; clear BK204; clear HB; have BK197 := n0_; have BK198 := n1_; have BK204 := n2_; have HB := n3_; clear n0_ n1_ n2_ n3_; (try clear hb); (try clear hb2); (try clear hk); (try clear hi); have hcz116_0 : w115.cell? ⟨gb198, 0, none⟩ = some (.string a1_0) := (blk_cell BK198.out 0).trans rfl; have hcz116_1 : w115.cell? ⟨gb198, 1, none⟩ = some (.string a1_1) := (blk_cell BK198.out 1).trans rfl; have hcz116_2 : w115.cell? ⟨gb198, 2, none⟩ = some (.bool a1_2) := (blk_cell BK198.out 2).trans rfl; have hfz116_0 := blk_frozen BK198.out 0; have hfz116_1 := blk_frozen BK198.out 1; have hfz116_2 := blk_frozen BK198.out 2) | (go_at_call 16; (with_reducible refine (span_Holds.calls kj44 a1_0 a1_1 a1_2 a1_1 t219 _ A98.out).mono ?_); rintro e w117 ⟨rfl, hb⟩; have n0_ := Aside0.mk (blk_below (g := gb197) (o := .cells #[.string a0_0, .string a0_1, .bool a0_2] 23 (0, 0)) (by (with_reducible repeat (first | refine blk_drewN ?_ _ | refine blk_drew ?_ | refine blk_alloc ?_ _)); exact BK197.out) hb); have n1_ := Aside0.mk (blk_below (g := gb198) (o := .cells #[.string a1_0, .string a1_1, .bool a1_2] 23 (0, 0)) (by (with_reducible repeat (first | refine blk_drewN ?_ _ | refine blk_drew ?_ | refine blk_alloc ?_ _)); exact BK198.out) hb); have n2_ := Aside0.mk (blk_below (g := gb204) (o := .cells #[.string t200, .string t201, .bool t202] 23 (0, 0)) (by (with_reducible repeat (first | refine blk_drewN ?_ _ | refine blk_drew ?_ | refine blk_alloc ?_ _)); exact BK204.out) hb); have n3_ := Aside0.mk (below_step (by repeat (first | (with_reducible first | exact HB.out | apply below_alloc | apply pw_below_drewN | apply below_drew1 | refine below_set ?_ GE197.out | refine below_set ?_ GE198.out | refine below_set ?_ GE204.out) | exact HB.out)) hb); clear BK197; clear BK198; clear BK204; clear HB; have BK197 := n0_; have BK198 := n1_; have BK204 := n2_; have HB := n3_; clear n0_ n1_ n2_ n3_; (try clear hb); (try clear hb2); (try clear hk); (try clear hi)))
                                go_meet
                                case rel => exact ⟨_, (t219), (by first | rfl | (simp; done) | (simp [*]; done) | (simp [*, Go.Proofs.Ytgdhgamolenfgaa.Str.bne_nil]; done)), H', ⟨by have := HJ6.out; have := HJ44.out; first | omega | exact Nat.le_refl _⟩, ⟨by (with_reducible repeat (first | refine blk_drewN ?_ _ | refine blk_drew ?_ | refine blk_alloc ?_ _)); exact BK197.out⟩, ⟨by (with_reducible repeat (first | refine blk_drewN ?_ _ | refine blk_drew ?_ | refine blk_alloc ?_ _)); exact BK198.out⟩, ⟨by (with_reducible repeat (first | refine blk_drewN ?_ _ | refine blk_drew ?_ | refine blk_alloc ?_ _)); exact BK204.out⟩, ⟨by repeat (first | (with_reducible first | exact HB.out | apply below_alloc | apply pw_below_drewN | apply below_drew1 | refine below_set ?_ GE197.out | refine below_set ?_ GE198.out | refine below_set ?_ GE204.out) | exact HB.out)⟩⟩
                              · replace c97 := Bool.eq_false_iff.mpr c97
                                subst c97
                                have H1 : (tidelinelaw02_SpanKeys.j2 kj44 a2 true a0_0 a0_1 a0_2) = some r := by rw [if_neg (show ¬ (false = true) by decide)] at H; exact H
                                clear H
                                have H := H1
                                clear H1
                                have H' := Aside0.mk H
                                clear H
                                have hnb118 := NB197_198.out
                                have hnc118 := NB198_197.out
                                have hnb119 := NB197_204.out
                                have hnc119 := NB204_197.out
                                have hcz120_0 : wc.cell? ⟨gb197, 0, none⟩ = some (.string a0_0) := (blk_cell BK197.out 0).trans rfl
                                have hcz120_1 : wc.cell? ⟨gb197, 1, none⟩ = some (.string a0_1) := (blk_cell BK197.out 1).trans rfl
                                have hcz120_2 : wc.cell? ⟨gb197, 2, none⟩ = some (.bool a0_2) := (blk_cell BK197.out 2).trans rfl
                                have hfz120_0 := blk_frozen BK197.out 0
                                have hfz120_1 := blk_frozen BK197.out 1
                                have hfz120_2 := blk_frozen BK197.out 2
                                go_wp2_with (first | ((with_reducible refine gate_callee (f := 12) rfl ?_); refine goesL_ (some 49) rfl rfl Try.func12 (by kernel_rfl) rfl #[.agg #[.string a0_0, .string a0_1, .bool a0_2]] rfl (by (try simp only [List.map_toArray, List.map_cons, List.map_nil]); first | done | rfl | (simp only [List.length_drop, List.length_take]; rfl)) ?_; (with_reducible refine (span_Check.calls kj44 a0_0 a0_1 a0_2 t213 _ A69.out).mono ?_); rintro e w121 ⟨rfl, hb⟩; refine ⟨_, rfl, ?_⟩; have n0_ := Aside0.mk (blk_below (g := gb197) (o := .cells #[.string a0_0, .string a0_1, .bool a0_2] 23 (0, 0)) (by (with_reducible repeat (first | refine blk_drewN ?_ _ | refine blk_drew ?_ | refine blk_alloc ?_ _)); exact BK197.out) hb); have n1_ := Aside0.mk (blk_below (g := gb198) (o := .cells #[.string a1_0, .string a1_1, .bool a1_2] 23 (0, 0)) (by (with_reducible repeat (first | refine blk_drewN ?_ _ | refine blk_drew ?_ | refine blk_alloc ?_ _)); exact BK198.out) hb); have n2_ := Aside0.mk (blk_below (g := gb204) (o := .cells #[.string t200, .string t201, .bool t202] 23 (0, 0)) (by (with_reducible repeat (first | refine blk_drewN ?_ _ | refine blk_drew ?_ | refine blk_alloc ?_ _)); exact BK204.out) hb); have n3_ := Aside0.mk (below_step (by repeat (first | (with_reducible first | exact HB.out | apply below_alloc | apply pw_below_drewN | apply below_drew1 | refine below_set ?_ GE197.out | refine below_set ?_ GE198.out | refine below_set ?_ GE204.out) | exact HB.out)) hb); clear BK197; clear BK198; clear BK204; clear HB; have BK197 := n0_; have BK198 := n1_; have BK204 := n2_; have HB := n3_; clear n0_ n1_ n2_ n3_; (try clear hb); (try clear hb2); (try clear hk); (try clear hi); have hnb122 := NB198_204.out; have hnc122 := NB204_198.out; have hcz123_0 : w121.cell? ⟨gb198, 0, none⟩ = some (.string a1_0) := (blk_cell BK198.out 0).trans rfl; have hcz123_1 : w121.cell? ⟨gb198, 1, none⟩ = some (.string a1_1) := (blk_cell BK198.out 1).trans rfl; have hcz123_2 : w121.cell? ⟨gb198, 2, none⟩ = some (.bool a1_2) := (blk_cell BK198.out 2).trans rfl; have hfz123_0 := blk_frozen BK198.out 0; have hfz123_1 := blk_frozen BK198.out 1; have hfz123_2 := blk_frozen BK198.out 2) | (go_at_call 12; (with_reducible refine (span_Check.calls kj44 a1_0 a1_1 a1_2 t214 _ A71.out).mono ?_); rintro e w124 ⟨rfl, hb⟩; have n0_ := Aside0.mk (blk_below (g := gb197) (o := .cells #[.string a0_0, .string a0_1, .bool a0_2] 23 (0, 0)) (by (with_reducible repeat (first | refine blk_drewN ?_ _ | refine blk_drew ?_ | refine blk_alloc ?_ _)); exact BK197.out) hb); have n1_ := Aside0.mk (blk_below (g := gb198) (o := .cells #[.string a1_0, .string a1_1, .bool a1_2] 23 (0, 0)) (by (with_reducible repeat (first | refine blk_drewN ?_ _ | refine blk_drew ?_ | refine blk_alloc ?_ _)); exact BK198.out) hb); have n2_ := Aside0.mk (blk_below (g := gb204) (o := .cells #[.string t200, .string t201, .bool t202] 23 (0, 0)) (by (with_reducible repeat (first | refine blk_drewN ?_ _ | refine blk_drew ?_ | refine blk_alloc ?_ _)); exact BK204.out) hb); have n3_ := Aside0.mk (below_step (by repeat (first | (with_reducible first | exact HB.out | apply below_alloc | apply pw_below_drewN | apply below_drew1 | refine below_set ?_ GE197.out | refine below_set ?_ GE198.out | refine below_set ?_ GE204.out) | exact HB.out)) hb); clear BK197; clear BK198; clear BK204; clear HB; have BK197 := n0_; have BK198 := n1_; have BK204 := n2_; have HB := n3_; clear n0_ n1_ n2_ n3_; (try clear hb); (try clear hb2); (try clear hk); (try clear hi); have hcz125_0 : w124.cell? ⟨gb197, 0, none⟩ = some (.string a0_0) := (blk_cell BK197.out 0).trans rfl; have hcz125_1 : w124.cell? ⟨gb197, 1, none⟩ = some (.string a0_1) := (blk_cell BK197.out 1).trans rfl; have hcz125_2 : w124.cell? ⟨gb197, 2, none⟩ = some (.bool a0_2) := (blk_cell BK197.out 2).trans rfl; have hfz125_0 := blk_frozen BK197.out 0; have hfz125_1 := blk_frozen BK197.out 1; have hfz125_2 := blk_frozen BK197.out 2) | (go_at_call 14; (with_reducible refine (span_Empty.calls kj44 a0_0 a0_1 a0_2 false _ A81.out).mono ?_); rintro e w126 ⟨rfl, hb⟩; have n0_ := Aside0.mk (blk_below (g := gb197) (o := .cells #[.string a0_0, .string a0_1, .bool a0_2] 23 (0, 0)) (by (with_reducible repeat (first | refine blk_drewN ?_ _ | refine blk_drew ?_ | refine blk_alloc ?_ _)); exact BK197.out) hb); have n1_ := Aside0.mk (blk_below (g := gb198) (o := .cells #[.string a1_0, .string a1_1, .bool a1_2] 23 (0, 0)) (by (with_reducible repeat (first | refine blk_drewN ?_ _ | refine blk_drew ?_ | refine blk_alloc ?_ _)); exact BK198.out) hb); have n2_ := Aside0.mk (blk_below (g := gb204) (o := .cells #[.string t200, .string t201, .bool t202] 23 (0, 0)) (by (with_reducible repeat (first | refine blk_drewN ?_ _ | refine blk_drew ?_ | refine blk_alloc ?_ _)); exact BK204.out) hb); have n3_ := Aside0.mk (below_step (by repeat (first | (with_reducible first | exact HB.out | apply below_alloc | apply pw_below_drewN | apply below_drew1 | refine below_set ?_ GE197.out | refine below_set ?_ GE198.out | refine below_set ?_ GE204.out) | exact HB.out)) hb); clear BK197; clear BK198; clear BK204; clear HB; have BK197 := n0_; have BK198 := n1_; have BK204 := n2_; have HB := n3_; clear n0_ n1_ n2_ n3_; (try clear hb); (try clear hb2); (try clear hk); (try clear hi); have hcz127_0 : w126.cell? ⟨gb197, 0, none⟩ = some (.string a0_0) := (blk_cell BK197.out 0).trans rfl; have hcz127_1 : w126.cell? ⟨gb197, 1, none⟩ = some (.string a0_1) := (blk_cell BK197.out 1).trans rfl; have hcz127_2 : w126.cell? ⟨gb197, 2, none⟩ = some (.bool a0_2) := (blk_cell BK197.out 2).trans rfl; have hfz127_0 := blk_frozen BK197.out 0; have hfz127_1 := blk_frozen BK197.out 1; have hfz127_2 := blk_frozen BK197.out 2) | (go_at_call 16; (with_reducible refine (span_Holds.calls kj44 a0_0 a0_1 a0_2 a0_0 true _ A92.out).mono ?_); rintro e w128 ⟨rfl, hb⟩; have n0_ := Aside0.mk (blk_below (g := gb197) (o := .cells #[.string a0_0, .string a0_1, .bool a0_2] 23 (0, 0)) (by (with_reducible repeat (first | refine blk_drewN ?_ _ | refine blk_drew ?_ | refine blk_alloc ?_ _)); exact BK197.out) hb); have n1_ := Aside0.mk (blk_below (g := gb198) (o := .cells #[.string a1_0, .string a1_1, .bool a1_2] 23 (0, 0)) (by (with_reducible repeat (first | refine blk_drewN ?_ _ | refine blk_drew ?_ | refine blk_alloc ?_ _)); exact BK198.out) hb); have n2_ := Aside0.mk (blk_below (g := gb204) (o := .cells #[.string t200, .string t201, .bool t202] 23 (0, 0)) (by (with_reducible repeat (first | refine blk_drewN ?_ _ | refine blk_drew ?_ | refine blk_alloc ?_ _)); exact BK204.out) hb); have n3_ := Aside0.mk (below_step (by repeat (first | (with_reducible first | exact HB.out | apply below_alloc | apply pw_below_drewN | apply below_drew1 | refine below_set ?_ GE197.out | refine below_set ?_ GE198.out | refine below_set ?_ GE204.out) | exact HB.out)) hb); clear BK197; clear BK198; clear BK204; clear HB; have BK197 := n0_; have BK198 := n1_; have BK204 := n2_; have HB := n3_; clear n0_ n1_ n2_ n3_; (try clear hb); (try clear hb2); (try clear hk); (try clear hi); have hcz129_0 : w128.cell? ⟨gb198, 0, none⟩ = some (.string a1_0) := (blk_cell BK198.out 0).trans rfl; have hcz129_1 : w128.cell? ⟨gb198, 1, none⟩ = some (.string a1_1) := (blk_cell BK198.out 1).trans rfl; have hcz129_2 : w128.cell? ⟨gb198, 2, none⟩ = some (.bool a1_2) := (blk_cell BK198.out 2).trans rfl; have hfz129_0 := blk_frozen BK198.out 0; have hfz129_1 := blk_frozen BK198.out 1; have hfz129_2 := blk_frozen BK198.out 2; have hcz130_0 : w128.cell? ⟨gb197, 0, none⟩ = some (.string a0_0) := (blk_cell BK197.out 0).trans rfl; have hcz130_1 : w128.cell? ⟨gb197, 1, none⟩ = some (.string a0_1) := (blk_cell BK197.out 1).trans rfl; have hcz130_2 : w128.cell? ⟨gb197, 2, none⟩ = some (.bool a0_2) := (blk_cell BK197.out 2).trans rfl; have hfz130_0 := blk_frozen BK197.out 0; have hfz130_1 := blk_frozen BK197.out 1; have hfz130_2 := blk_frozen BK197.out 2) | (go_at_call 16; (with_reducible refine (span_Holds.calls kj44 a1_0 a1_1 a1_2 a0_0 true _ A94.out).mono ?_); rintro e w131 ⟨rfl, hb⟩; have n0_ := Aside0.mk (blk_below (g := gb197) (o := .cells #[.string a0_0, .string a0_1, .bool a0_2] 23 (0, 0)) (by (with_reducible repeat (first | refine blk_drewN ?_ _ | refine blk_drew ?_ | refine blk_alloc ?_ _)); exact BK197.out) hb); have n1_ := Aside0.mk (blk_below (g := gb198) (o := .cells #[.string a1_0, .string a1_1, .bool a1_2] 23 (0, 0)) (by (with_reducible repeat (first | refine blk_drewN ?_ _ | refine blk_drew ?_ | refine blk_alloc ?_ _)); exact BK198.out) hb); have n2_ := Aside0.mk (blk_below (g := gb204) (o := .cells #[.string t200, .string t201, .bool t202] 23 (0, 0)) (by (with_reducible repeat (first | refine blk_drewN ?_ _ | refine blk_drew ?_ | refine blk_alloc ?_ _)); exact BK204.out) hb); have n3_ := Aside0.mk (below_step (by repeat (first | (with_reducible first | exact HB.out | apply below_alloc | apply pw_below_drewN | apply below_drew1 | refine below_set ?_ GE197.out | refine below_set ?_ GE198.out | refine below_set ?_ GE204.out) | exact HB.out)) hb); clear BK197; clear BK198; clear BK204; clear HB; have BK197 := n0_; have BK198 := n1_; have BK204 := n2_; have HB := n3_; clear n0_ n1_ n2_ n3_; (try clear hb); (try clear hb2); (try clear hk); (try clear hi); have hcz132_0 : w131.cell? ⟨gb197, 0, none⟩ = some (.string a0_0) := (blk_cell BK197.out 0).trans rfl; have hcz132_1 : w131.cell? ⟨gb197, 1, none⟩ = some (.string a0_1) := (blk_cell BK197.out 1).trans rfl; have hcz132_2 : w131.cell? ⟨gb197, 2, none⟩ = some (.bool a0_2) := (blk_cell BK197.out 2).trans rfl; have hfz132_0 := blk_frozen BK197.out 0; have hfz132_1 := blk_frozen BK197.out 1; have hfz132_2 := blk_frozen BK197.out 2; have hcz133_0 : w131.cell? ⟨gb198, 0, none⟩ = some (.string a1_0) := (blk_cell BK198.out 0).trans rfl; have hcz133_1 : w131.cell? ⟨gb198, 1, none⟩ = some (.string a1_1) := (blk_cell BK198.out 1).trans rfl; have hcz133_2 : w131.cell? ⟨gb198, 2, none⟩ = some (.bool a1_2) := (blk_cell BK198.out 2).trans rfl; have hfz133_0 := blk_frozen BK198.out 0; have hfz133_1 := blk_frozen BK198.out 1; have hfz133_2 := blk_frozen BK198.out 2) | (go_at_call 16; (with_reducible refine (span_Holds.calls kj44 a0_0 a0_1 a0_2 a1_1 false _ A96.out).mono ?_); rintro e w134 ⟨rfl, hb⟩; have n0_ := Aside0.mk (blk_below (g := gb197) (o := .cells #[.string a0_0, .string a0_1, .bool a0_2] 23 (0, 0)) (by (with_reducible repeat (first | refine blk_drewN ?_ _ | refine blk_drew ?_ | refine blk_alloc ?_ _)); exact BK197.out) hb); have n1_ := Aside0.mk (blk_below (g := gb198) (o := .cells #[.string a1_0, .string a1_1, .bool a1_2] 23 (0, 0)) (by (with_reducible repeat (first | refine blk_drewN ?_ _ | refine blk_drew ?_ | refine blk_alloc ?_ _)); exact BK198.out) hb); have n2_ := Aside0.mk (blk_below (g := gb204) (o := .cells #[.string t200, .string t201, .bool t202] 23 (0, 0)) (by (with_reducible repeat (first | refine blk_drewN ?_ _ | refine blk_drew ?_ | refine blk_alloc ?_ _)); exact BK204.out) hb); have n3_ := Aside0.mk (below_step (by repeat (first | (with_reducible first | exact HB.out | apply below_alloc | apply pw_below_drewN | apply below_drew1 | refine below_set ?_ GE197.out | refine below_set ?_ GE198.out | refine below_set ?_ GE204.out) | exact HB.out)) hb); clear BK197; clear BK198; clear BK204; clear HB; have BK197 := n0_; have BK198 := n1_; have BK204 := n2_; have HB := n3_; clear n0_ n1_ n2_ n3_; (try clear hb); (try clear hb2); (try clear hk); (try clear hi)))
                                go_meet
                                case rel => exact ⟨_, (true), (by first | rfl | (simp; done) | (simp [*]; done) | (simp [*, Go.Proofs.Ytgdhgamolenfgaa.Str.bne_nil]; done)), H', ⟨by have := HJ6.out; have := HJ44.out; first | omega | exact Nat.le_refl _⟩, ⟨by (with_reducible repeat (first | refine blk_drewN ?_ _ | refine blk_drew ?_ | refine blk_alloc ?_ _)); exact BK197.out⟩, ⟨by (with_reducible repeat (first | refine blk_drewN ?_ _ | refine blk_drew ?_ | refine blk_alloc ?_ _)); exact BK198.out⟩, ⟨by (with_reducible repeat (first | refine blk_drewN ?_ _ | refine blk_drew ?_ | refine blk_alloc ?_ _)); exact BK204.out⟩, ⟨by repeat (first | (with_reducible first | exact HB.out | apply below_alloc | apply pw_below_drewN | apply below_drew1 | refine below_set ?_ GE197.out | refine below_set ?_ GE198.out | refine below_set ?_ GE204.out) | exact HB.out)⟩⟩
                            · replace c95 := Bool.eq_false_iff.mpr c95
                              subst c95
                              have H1 : (tidelinelaw02_SpanKeys.j2 kj44 a2 false a0_0 a0_1 a0_2) = some r := by rw [if_neg (show ¬ (false = true) by decide)] at H; exact H
                              clear H
                              have H := H1
                              clear H1
                              have H' := Aside0.mk H
                              clear H
                              have hnb135 := NB197_198.out
                              have hnc135 := NB198_197.out
                              have hnb136 := NB197_204.out
                              have hnc136 := NB204_197.out
                              have hcz137_0 : wc.cell? ⟨gb197, 0, none⟩ = some (.string a0_0) := (blk_cell BK197.out 0).trans rfl
                              have hcz137_1 : wc.cell? ⟨gb197, 1, none⟩ = some (.string a0_1) := (blk_cell BK197.out 1).trans rfl
                              have hcz137_2 : wc.cell? ⟨gb197, 2, none⟩ = some (.bool a0_2) := (blk_cell BK197.out 2).trans rfl
                              have hfz137_0 := blk_frozen BK197.out 0
                              have hfz137_1 := blk_frozen BK197.out 1
                              have hfz137_2 := blk_frozen BK197.out 2
                              go_wp2_with (first | ((with_reducible refine gate_callee (f := 12) rfl ?_); refine goesL_ (some 49) rfl rfl Try.func12 (by kernel_rfl) rfl #[.agg #[.string a0_0, .string a0_1, .bool a0_2]] rfl (by (try simp only [List.map_toArray, List.map_cons, List.map_nil]); first | done | rfl | (simp only [List.length_drop, List.length_take]; rfl)) ?_; (with_reducible refine (span_Check.calls kj44 a0_0 a0_1 a0_2 t213 _ A69.out).mono ?_); rintro e w138 ⟨rfl, hb⟩; refine ⟨_, rfl, ?_⟩; have n0_ := Aside0.mk (blk_below (g := gb197) (o := .cells #[.string a0_0, .string a0_1, .bool a0_2] 23 (0, 0)) (by (with_reducible repeat (first | refine blk_drewN ?_ _ | refine blk_drew ?_ | refine blk_alloc ?_ _)); exact BK197.out) hb); have n1_ := Aside0.mk (blk_below (g := gb198) (o := .cells #[.string a1_0, .string a1_1, .bool a1_2] 23 (0, 0)) (by (with_reducible repeat (first | refine blk_drewN ?_ _ | refine blk_drew ?_ | refine blk_alloc ?_ _)); exact BK198.out) hb); have n2_ := Aside0.mk (blk_below (g := gb204) (o := .cells #[.string t200, .string t201, .bool t202] 23 (0, 0)) (by (with_reducible repeat (first | refine blk_drewN ?_ _ | refine blk_drew ?_ | refine blk_alloc ?_ _)); exact BK204.out) hb); have n3_ := Aside0.mk (below_step (by repeat (first | (with_reducible first | exact HB.out | apply below_alloc | apply pw_below_drewN | apply below_drew1 | refine below_set ?_ GE197.out | refine below_set ?_ GE198.out | refine below_set ?_ GE204.out) | exact HB.out)) hb); clear BK197; clear BK198; clear BK204; clear HB; have BK197 := n0_; have BK198 := n1_; have BK204 := n2_; have HB := n3_; clear n0_ n1_ n2_ n3_; (try clear hb); (try clear hb2); (try clear hk); (try clear hi); have hnb139 := NB198_204.out; have hnc139 := NB204_198.out; have hcz140_0 : w138.cell? ⟨gb198, 0, none⟩ = some (.string a1_0) := (blk_cell BK198.out 0).trans rfl; have hcz140_1 : w138.cell? ⟨gb198, 1, none⟩ = some (.string a1_1) := (blk_cell BK198.out 1).trans rfl; have hcz140_2 : w138.cell? ⟨gb198, 2, none⟩ = some (.bool a1_2) := (blk_cell BK198.out 2).trans rfl; have hfz140_0 := blk_frozen BK198.out 0; have hfz140_1 := blk_frozen BK198.out 1; have hfz140_2 := blk_frozen BK198.out 2) | (go_at_call 12; (with_reducible refine (span_Check.calls kj44 a1_0 a1_1 a1_2 t214 _ A71.out).mono ?_); rintro e w141 ⟨rfl, hb⟩; have n0_ := Aside0.mk (blk_below (g := gb197) (o := .cells #[.string a0_0, .string a0_1, .bool a0_2] 23 (0, 0)) (by (with_reducible repeat (first | refine blk_drewN ?_ _ | refine blk_drew ?_ | refine blk_alloc ?_ _)); exact BK197.out) hb); have n1_ := Aside0.mk (blk_below (g := gb198) (o := .cells #[.string a1_0, .string a1_1, .bool a1_2] 23 (0, 0)) (by (with_reducible repeat (first | refine blk_drewN ?_ _ | refine blk_drew ?_ | refine blk_alloc ?_ _)); exact BK198.out) hb); have n2_ := Aside0.mk (blk_below (g := gb204) (o := .cells #[.string t200, .string t201, .bool t202] 23 (0, 0)) (by (with_reducible repeat (first | refine blk_drewN ?_ _ | refine blk_drew ?_ | refine blk_alloc ?_ _)); exact BK204.out) hb); have n3_ := Aside0.mk (below_step (by repeat (first | (with_reducible first | exact HB.out | apply below_alloc | apply pw_below_drewN | apply below_drew1 | refine below_set ?_ GE197.out | refine below_set ?_ GE198.out | refine below_set ?_ GE204.out) | exact HB.out)) hb); clear BK197; clear BK198; clear BK204; clear HB; have BK197 := n0_; have BK198 := n1_; have BK204 := n2_; have HB := n3_; clear n0_ n1_ n2_ n3_; (try clear hb); (try clear hb2); (try clear hk); (try clear hi); have hcz142_0 : w141.cell? ⟨gb197, 0, none⟩ = some (.string a0_0) := (blk_cell BK197.out 0).trans rfl; have hcz142_1 : w141.cell? ⟨gb197, 1, none⟩ = some (.string a0_1) := (blk_cell BK197.out 1).trans rfl; have hcz142_2 : w141.cell? ⟨gb197, 2, none⟩ = some (.bool a0_2) := (blk_cell BK197.out 2).trans rfl; have hfz142_0 := blk_frozen BK197.out 0; have hfz142_1 := blk_frozen BK197.out 1; have hfz142_2 := blk_frozen BK197.out 2) | (go_at_call 14; (with_reducible refine (span_Empty.calls kj44 a0_0 a0_1 a0_2 false _ A81.out).mono ?_); rintro e w143 ⟨rfl, hb⟩; have n0_ := Aside0.mk (blk_below (g := gb197) (o := .cells #[.string a0_0, .string a0_1, .bool a0_2] 23 (0, 0)) (by (with_reducible repeat (first | refine blk_drewN ?_ _ | refine blk_drew ?_ | refine blk_alloc ?_ _)); exact BK197.out) hb); have n1_ := Aside0.mk (blk_below (g := gb198) (o := .cells #[.string a1_0, .string a1_1, .bool a1_2] 23 (0, 0)) (by (with_reducible repeat (first | refine blk_drewN ?_ _ | refine blk_drew ?_ | refine blk_alloc ?_ _)); exact BK198.out) hb); have n2_ := Aside0.mk (blk_below (g := gb204) (o := .cells #[.string t200, .string t201, .bool t202] 23 (0, 0)) (by (with_reducible repeat (first | refine blk_drewN ?_ _ | refine blk_drew ?_ | refine blk_alloc ?_ _)); exact BK204.out) hb); have n3_ := Aside0.mk (below_step (by repeat (first | (with_reducible first | exact HB.out | apply below_alloc | apply pw_below_drewN | apply below_drew1 | refine below_set ?_ GE197.out | refine below_set ?_ GE198.out | refine below_set ?_ GE204.out) | exact HB.out)) hb); clear BK197; clear BK198; clear BK204; clear HB; have BK197 := n0_; have BK198 := n1_; have BK204 := n2_; have HB := n3_; clear n0_ n1_ n2_ n3_; (try clear hb); (try clear hb2); (try clear hk); (try clear hi); have hcz144_0 : w143.cell? ⟨gb197, 0, none⟩ = some (.string a0_0) := (blk_cell BK197.out 0).trans rfl; have hcz144_1 : w143.cell? ⟨gb197, 1, none⟩ = some (.string a0_1) := (blk_cell BK197.out 1).trans rfl; have hcz144_2 : w143.cell? ⟨gb197, 2, none⟩ = some (.bool a0_2) := (blk_cell BK197.out 2).trans rfl; have hfz144_0 := blk_frozen BK197.out 0; have hfz144_1 := blk_frozen BK197.out 1; have hfz144_2 := blk_frozen BK197.out 2) | (go_at_call 16; (with_reducible refine (span_Holds.calls kj44 a0_0 a0_1 a0_2 a0_0 true _ A92.out).mono ?_); rintro e w145 ⟨rfl, hb⟩; have n0_ := Aside0.mk (blk_below (g := gb197) (o := .cells #[.string a0_0, .string a0_1, .bool a0_2] 23 (0, 0)) (by (with_reducible repeat (first | refine blk_drewN ?_ _ | refine blk_drew ?_ | refine blk_alloc ?_ _)); exact BK197.out) hb); have n1_ := Aside0.mk (blk_below (g := gb198) (o := .cells #[.string a1_0, .string a1_1, .bool a1_2] 23 (0, 0)) (by (with_reducible repeat (first | refine blk_drewN ?_ _ | refine blk_drew ?_ | refine blk_alloc ?_ _)); exact BK198.out) hb); have n2_ := Aside0.mk (blk_below (g := gb204) (o := .cells #[.string t200, .string t201, .bool t202] 23 (0, 0)) (by (with_reducible repeat (first | refine blk_drewN ?_ _ | refine blk_drew ?_ | refine blk_alloc ?_ _)); exact BK204.out) hb); have n3_ := Aside0.mk (below_step (by repeat (first | (with_reducible first | exact HB.out | apply below_alloc | apply pw_below_drewN | apply below_drew1 | refine below_set ?_ GE197.out | refine below_set ?_ GE198.out | refine below_set ?_ GE204.out) | exact HB.out)) hb); clear BK197; clear BK198; clear BK204; clear HB; have BK197 := n0_; have BK198 := n1_; have BK204 := n2_; have HB := n3_; clear n0_ n1_ n2_ n3_; (try clear hb); (try clear hb2); (try clear hk); (try clear hi); have hcz146_0 : w145.cell? ⟨gb198, 0, none⟩ = some (.string a1_0) := (blk_cell BK198.out 0).trans rfl; have hcz146_1 : w145.cell? ⟨gb198, 1, none⟩ = some (.string a1_1) := (blk_cell BK198.out 1).trans rfl; have hcz146_2 : w145.cell? ⟨gb198, 2, none⟩ = some (.bool a1_2) := (blk_cell BK198.out 2).trans rfl; have hfz146_0 := blk_frozen BK198.out 0; have hfz146_1 := blk_frozen BK198.out 1; have hfz146_2 := blk_frozen BK198.out 2; have hcz147_0 : w145.cell? ⟨gb197, 0, none⟩ = some (.string a0_0) := (blk_cell BK197.out 0).trans rfl; have hcz147_1 : w145.cell? ⟨gb197, 1, none⟩ = some (.string a0_1) := (blk_cell BK197.out 1).trans rfl; have hcz147_2 : w145.cell? ⟨gb197, 2, none⟩ = some (.bool a0_2) := (blk_cell BK197.out 2).trans rfl; have hfz147_0 := blk_frozen BK197.out 0; have hfz147_1 := blk_frozen BK197.out 1; have hfz147_2 := blk_frozen BK197.out 2) | (go_at_call 16; (with_reducible refine (span_Holds.calls kj44 a1_0 a1_1 a1_2 a0_0 false _ A94.out).mono ?_); rintro e w148 ⟨rfl, hb⟩; have n0_ := Aside0.mk (blk_below (g := gb197) (o := .cells #[.string a0_0, .string a0_1, .bool a0_2] 23 (0, 0)) (by (with_reducible repeat (first | refine blk_drewN ?_ _ | refine blk_drew ?_ | refine blk_alloc ?_ _)); exact BK197.out) hb); have n1_ := Aside0.mk (blk_below (g := gb198) (o := .cells #[.string a1_0, .string a1_1, .bool a1_2] 23 (0, 0)) (by (with_reducible repeat (first | refine blk_drewN ?_ _ | refine blk_drew ?_ | refine blk_alloc ?_ _)); exact BK198.out) hb); have n2_ := Aside0.mk (blk_below (g := gb204) (o := .cells #[.string t200, .string t201, .bool t202] 23 (0, 0)) (by (with_reducible repeat (first | refine blk_drewN ?_ _ | refine blk_drew ?_ | refine blk_alloc ?_ _)); exact BK204.out) hb); have n3_ := Aside0.mk (below_step (by repeat (first | (with_reducible first | exact HB.out | apply below_alloc | apply pw_below_drewN | apply below_drew1 | refine below_set ?_ GE197.out | refine below_set ?_ GE198.out | refine below_set ?_ GE204.out) | exact HB.out)) hb); clear BK197; clear BK198; clear BK204; clear HB; have BK197 := n0_; have BK198 := n1_; have BK204 := n2_; have HB := n3_; clear n0_ n1_ n2_ n3_; (try clear hb); (try clear hb2); (try clear hk); (try clear hi)))
                              go_meet
                              case rel => exact ⟨_, (false), (by first | rfl | (simp; done) | (simp [*]; done) | (simp [*, Go.Proofs.Ytgdhgamolenfgaa.Str.bne_nil]; done)), H', ⟨by have := HJ6.out; have := HJ44.out; first | omega | exact Nat.le_refl _⟩, ⟨by (with_reducible repeat (first | refine blk_drewN ?_ _ | refine blk_drew ?_ | refine blk_alloc ?_ _)); exact BK197.out⟩, ⟨by (with_reducible repeat (first | refine blk_drewN ?_ _ | refine blk_drew ?_ | refine blk_alloc ?_ _)); exact BK198.out⟩, ⟨by (with_reducible repeat (first | refine blk_drewN ?_ _ | refine blk_drew ?_ | refine blk_alloc ?_ _)); exact BK204.out⟩, ⟨by repeat (first | (with_reducible first | exact HB.out | apply below_alloc | apply pw_below_drewN | apply below_drew1 | refine below_set ?_ GE197.out | refine below_set ?_ GE198.out | refine below_set ?_ GE204.out) | exact HB.out)⟩⟩
                          · replace c93 := Bool.eq_false_iff.mpr c93
                            subst c93
                            have H1 : ((span_Holds.f kj44 a0_0 a0_1 a0_2 a1_1).bind fun t220 => (if t220 = true then ((span_Holds.f kj44 a1_0 a1_1 a1_2 a1_1).bind fun t221 => (tidelinelaw02_SpanKeys.j2 kj44 a2 t221 a0_0 a0_1 a0_2)) else (tidelinelaw02_SpanKeys.j2 kj44 a2 true a0_0 a0_1 a0_2))) = some r := by rw [if_neg (show ¬ (false = true) by decide)] at H; exact H
                            clear H
                            have H := H1
                            clear H1
                            replace H := Option.bind_eq_some_iff.mp H
                            obtain ⟨t220, A1490, H⟩ := H
                            replace H : (if t220 = true then ((span_Holds.f kj44 a1_0 a1_1 a1_2 a1_1).bind fun t221 => (tidelinelaw02_SpanKeys.j2 kj44 a2 t221 a0_0 a0_1 a0_2)) else (tidelinelaw02_SpanKeys.j2 kj44 a2 true a0_0 a0_1 a0_2)) = some r := H
                            have A149 := Aside0.mk A1490
                            clear A1490
                            by_cases c150 : t220 = true
                            · subst c150
                              have H1 : ((span_Holds.f kj44 a1_0 a1_1 a1_2 a1_1).bind fun t221 => (tidelinelaw02_SpanKeys.j2 kj44 a2 t221 a0_0 a0_1 a0_2)) = some r := by rw [if_pos rfl] at H; exact H
                              clear H
                              have H := H1
                              clear H1
                              replace H := Option.bind_eq_some_iff.mp H
                              obtain ⟨t221, A1510, H⟩ := H
                              replace H : (tidelinelaw02_SpanKeys.j2 kj44 a2 t221 a0_0 a0_1 a0_2) = some r := H
                              have A151 := Aside0.mk A1510
                              clear A1510
                              have H' := Aside0.mk H
                              clear H
                              have hnb152 := NB197_198.out
                              have hnc152 := NB198_197.out
                              have hnb153 := NB197_204.out
                              have hnc153 := NB204_197.out
                              have hcz154_0 : wc.cell? ⟨gb197, 0, none⟩ = some (.string a0_0) := (blk_cell BK197.out 0).trans rfl
                              have hcz154_1 : wc.cell? ⟨gb197, 1, none⟩ = some (.string a0_1) := (blk_cell BK197.out 1).trans rfl
                              have hcz154_2 : wc.cell? ⟨gb197, 2, none⟩ = some (.bool a0_2) := (blk_cell BK197.out 2).trans rfl
                              have hfz154_0 := blk_frozen BK197.out 0
                              have hfz154_1 := blk_frozen BK197.out 1
                              have hfz154_2 := blk_frozen BK197.out 2
                              go_wp2_with (first | ((with_reducible refine gate_callee (f := 12) rfl ?_); refine goesL_ (some 49) rfl rfl Try.func12 (by kernel_rfl) rfl #[.agg #[.string a0_0, .string a0_1, .bool a0_2]] rfl (by (try simp only [List.map_toArray, List.map_cons, List.map_nil]); first | done | rfl | (simp only [List.length_drop, List.length_take]; rfl)) ?_; (with_reducible refine (span_Check.calls kj44 a0_0 a0_1 a0_2 t213 _ A69.out).mono ?_); rintro e w155 ⟨rfl, hb⟩; refine ⟨_, rfl, ?_⟩; have n0_ := Aside0.mk (blk_below (g := gb197) (o := .cells #[.string a0_0, .string a0_1, .bool a0_2] 23 (0, 0)) (by (with_reducible repeat (first | refine blk_drewN ?_ _ | refine blk_drew ?_ | refine blk_alloc ?_ _)); exact BK197.out) hb); have n1_ := Aside0.mk (blk_below (g := gb198) (o := .cells #[.string a1_0, .string a1_1, .bool a1_2] 23 (0, 0)) (by (with_reducible repeat (first | refine blk_drewN ?_ _ | refine blk_drew ?_ | refine blk_alloc ?_ _)); exact BK198.out) hb); have n2_ := Aside0.mk (blk_below (g := gb204) (o := .cells #[.string t200, .string t201, .bool t202] 23 (0, 0)) (by (with_reducible repeat (first | refine blk_drewN ?_ _ | refine blk_drew ?_ | refine blk_alloc ?_ _)); exact BK204.out) hb); have n3_ := Aside0.mk (below_step (by repeat (first | (with_reducible first | exact HB.out | apply below_alloc | apply pw_below_drewN | apply below_drew1 | refine below_set ?_ GE197.out | refine below_set ?_ GE198.out | refine below_set ?_ GE204.out) | exact HB.out)) hb); clear BK197; clear BK198; clear BK204; clear HB; have BK197 := n0_; have BK198 := n1_; have BK204 := n2_; have HB := n3_; clear n0_ n1_ n2_ n3_; (try clear hb); (try clear hb2); (try clear hk); (try clear hi); have hnb156 := NB198_204.out; have hnc156 := NB204_198.out; have hcz157_0 : w155.cell? ⟨gb198, 0, none⟩ = some (.string a1_0) := (blk_cell BK198.out 0).trans rfl; have hcz157_1 : w155.cell? ⟨gb198, 1, none⟩ = some (.string a1_1) := (blk_cell BK198.out 1).trans rfl; have hcz157_2 : w155.cell? ⟨gb198, 2, none⟩ = some (.bool a1_2) := (blk_cell BK198.out 2).trans rfl; have hfz157_0 := blk_frozen BK198.out 0; have hfz157_1 := blk_frozen BK198.out 1; have hfz157_2 := blk_frozen BK198.out 2) | (go_at_call 12; (with_reducible refine (span_Check.calls kj44 a1_0 a1_1 a1_2 t214 _ A71.out).mono ?_); rintro e w158 ⟨rfl, hb⟩; have n0_ := Aside0.mk (blk_below (g := gb197) (o := .cells #[.string a0_0, .string a0_1, .bool a0_2] 23 (0, 0)) (by (with_reducible repeat (first | refine blk_drewN ?_ _ | refine blk_drew ?_ | refine blk_alloc ?_ _)); exact BK197.out) hb); have n1_ := Aside0.mk (blk_below (g := gb198) (o := .cells #[.string a1_0, .string a1_1, .bool a1_2] 23 (0, 0)) (by (with_reducible repeat (first | refine blk_drewN ?_ _ | refine blk_drew ?_ | refine blk_alloc ?_ _)); exact BK198.out) hb); have n2_ := Aside0.mk (blk_below (g := gb204) (o := .cells #[.string t200, .string t201, .bool t202] 23 (0, 0)) (by (with_reducible repeat (first | refine blk_drewN ?_ _ | refine blk_drew ?_ | refine blk_alloc ?_ _)); exact BK204.out) hb); have n3_ := Aside0.mk (below_step (by repeat (first | (with_reducible first | exact HB.out | apply below_alloc | apply pw_below_drewN | apply below_drew1 | refine below_set ?_ GE197.out | refine below_set ?_ GE198.out | refine below_set ?_ GE204.out) | exact HB.out)) hb); clear BK197; clear BK198; clear BK204; clear HB; have BK197 := n0_; have BK198 := n1_; have BK204 := n2_; have HB := n3_; clear n0_ n1_ n2_ n3_; (try clear hb); (try clear hb2); (try clear hk); (try clear hi); have hcz159_0 : w158.cell? ⟨gb197, 0, none⟩ = some (.string a0_0) := (blk_cell BK197.out 0).trans rfl; have hcz159_1 : w158.cell? ⟨gb197, 1, none⟩ = some (.string a0_1) := (blk_cell BK197.out 1).trans rfl; have hcz159_2 : w158.cell? ⟨gb197, 2, none⟩ = some (.bool a0_2) := (blk_cell BK197.out 2).trans rfl; have hfz159_0 := blk_frozen BK197.out 0; have hfz159_1 := blk_frozen BK197.out 1; have hfz159_2 := blk_frozen BK197.out 2) | (go_at_call 14; (with_reducible refine (span_Empty.calls kj44 a0_0 a0_1 a0_2 false _ A81.out).mono ?_); rintro e w160 ⟨rfl, hb⟩; have n0_ := Aside0.mk (blk_below (g := gb197) (o := .cells #[.string a0_0, .string a0_1, .bool a0_2] 23 (0, 0)) (by (with_reducible repeat (first | refine blk_drewN ?_ _ | refine blk_drew ?_ | refine blk_alloc ?_ _)); exact BK197.out) hb); have n1_ := Aside0.mk (blk_below (g := gb198) (o := .cells #[.string a1_0, .string a1_1, .bool a1_2] 23 (0, 0)) (by (with_reducible repeat (first | refine blk_drewN ?_ _ | refine blk_drew ?_ | refine blk_alloc ?_ _)); exact BK198.out) hb); have n2_ := Aside0.mk (blk_below (g := gb204) (o := .cells #[.string t200, .string t201, .bool t202] 23 (0, 0)) (by (with_reducible repeat (first | refine blk_drewN ?_ _ | refine blk_drew ?_ | refine blk_alloc ?_ _)); exact BK204.out) hb); have n3_ := Aside0.mk (below_step (by repeat (first | (with_reducible first | exact HB.out | apply below_alloc | apply pw_below_drewN | apply below_drew1 | refine below_set ?_ GE197.out | refine below_set ?_ GE198.out | refine below_set ?_ GE204.out) | exact HB.out)) hb); clear BK197; clear BK198; clear BK204; clear HB; have BK197 := n0_; have BK198 := n1_; have BK204 := n2_; have HB := n3_; clear n0_ n1_ n2_ n3_; (try clear hb); (try clear hb2); (try clear hk); (try clear hi); have hcz161_0 : w160.cell? ⟨gb197, 0, none⟩ = some (.string a0_0) := (blk_cell BK197.out 0).trans rfl; have hcz161_1 : w160.cell? ⟨gb197, 1, none⟩ = some (.string a0_1) := (blk_cell BK197.out 1).trans rfl; have hcz161_2 : w160.cell? ⟨gb197, 2, none⟩ = some (.bool a0_2) := (blk_cell BK197.out 2).trans rfl; have hfz161_0 := blk_frozen BK197.out 0; have hfz161_1 := blk_frozen BK197.out 1; have hfz161_2 := blk_frozen BK197.out 2) | (go_at_call 16; (with_reducible refine (span_Holds.calls kj44 a0_0 a0_1 a0_2 a0_0 false _ A92.out).mono ?_); rintro e w162 ⟨rfl, hb⟩; have n0_ := Aside0.mk (blk_below (g := gb197) (o := .cells #[.string a0_0, .string a0_1, .bool a0_2] 23 (0, 0)) (by (with_reducible repeat (first | refine blk_drewN ?_ _ | refine blk_drew ?_ | refine blk_alloc ?_ _)); exact BK197.out) hb); have n1_ := Aside0.mk (blk_below (g := gb198) (o := .cells #[.string a1_0, .string a1_1, .bool a1_2] 23 (0, 0)) (by (with_reducible repeat (first | refine blk_drewN ?_ _ | refine blk_drew ?_ | refine blk_alloc ?_ _)); exact BK198.out) hb); have n2_ := Aside0.mk (blk_below (g := gb204) (o := .cells #[.string t200, .string t201, .bool t202] 23 (0, 0)) (by (with_reducible repeat (first | refine blk_drewN ?_ _ | refine blk_drew ?_ | refine blk_alloc ?_ _)); exact BK204.out) hb); have n3_ := Aside0.mk (below_step (by repeat (first | (with_reducible first | exact HB.out | apply below_alloc | apply pw_below_drewN | apply below_drew1 | refine below_set ?_ GE197.out | refine below_set ?_ GE198.out | refine below_set ?_ GE204.out) | exact HB.out)) hb); clear BK197; clear BK198; clear BK204; clear HB; have BK197 := n0_; have BK198 := n1_; have BK204 := n2_; have HB := n3_; clear n0_ n1_ n2_ n3_; (try clear hb); (try clear hb2); (try clear hk); (try clear hi); have hcz163_0 : w162.cell? ⟨gb197, 0, none⟩ = some (.string a0_0) := (blk_cell BK197.out 0).trans rfl; have hcz163_1 : w162.cell? ⟨gb197, 1, none⟩ = some (.string a0_1) := (blk_cell BK197.out 1).trans rfl; have hcz163_2 : w162.cell? ⟨gb197, 2, none⟩ = some (.bool a0_2) := (blk_cell BK197.out 2).trans rfl; have hfz163_0 := blk_frozen BK197.out 0; have hfz163_1 := blk_frozen BK197.out 1; have hfz163_2 := blk_frozen BK197.out 2; have hcz164_0 : w162.cell? ⟨gb198, 0, none⟩ = some (.string a1_0) := (blk_cell BK198.out 0).trans rfl; have hcz164_1 : w162.cell? ⟨gb198, 1, none⟩ = some (.string a1_1) := (blk_cell BK198.out 1).trans rfl; have hcz164_2 : w162.cell? ⟨gb198, 2, none⟩ = some (.bool a1_2) := (blk_cell BK198.out 2).trans rfl; have hfz164_0 := blk_frozen BK198.out 0; have hfz164_1 := blk_frozen BK198.out 1; have hfz164_2 := blk_frozen BK198.out 2) | (go_at_call 16; (with_reducible refine (span_Holds.calls kj44 a0_0 a0_1 a0_2 a1_1 true _ A149.out).mono ?_); rintro e w165 ⟨rfl, hb⟩; have n0_ := Aside0.mk (blk_below (g := gb197) (o := .cells #[.string a0_0, .string a0_1, .bool a0_2] 23 (0, 0)) (by (with_reducible repeat (first | refine blk_drewN ?_ _ | refine blk_drew ?_ | refine blk_alloc ?_ _)); exact BK197.out) hb); have n1_ := Aside0.mk (blk_below (g := gb198) (o := .cells #[.string a1_0, .string a1_1, .bool a1_2] 23 (0, 0)) (by (with_reducible repeat (first | refine blk_drewN ?_ _ | refine blk_drew ?_ | refine blk_alloc ?_ _)); exact BK198.out) hb); have n2_ := Aside0.mk (blk_below (g := gb204) (o := .cells #[.string t200, .string t201, .bool t202] 23 (0, 0)) (by (with_reducible repeat (first | refine blk_drewN ?_ _ | refine blk_drew ?_ | refine blk_alloc ?_ _)); exact BK204.out) hb); have n3_ := Aside0.mk (below_step (by repeat (first | (with_reducible first | exact HB.out | apply below_alloc | apply pw_below_drewN | apply below_drew1 | refine below_set ?_ GE197.out | refine below_set ?_ GE198.out | refine below_set ?_ GE204.out) | exact HB.out)) hb); clear BK197; clear BK198; clear BK204; clear HB; have BK197 := n0_; have BK198 := n1_; have BK204 := n2_; have HB := n3_; clear n0_ n1_ n2_ n3_; (try clear hb); (try clear hb2); (try clear hk); (try clear hi); have hcz166_0 : w165.cell? ⟨gb198, 0, none⟩ = some (.string a1_0) := (blk_cell BK198.out 0).trans rfl; have hcz166_1 : w165.cell? ⟨gb198, 1, none⟩ = some (.string a1_1) := (blk_cell BK198.out 1).trans rfl; have hcz166_2 : w165.cell? ⟨gb198, 2, none⟩ = some (.bool a1_2) := (blk_cell BK198.out 2).trans rfl; have hfz166_0 := blk_frozen BK198.out 0; have hfz166_1 := blk_frozen BK198.out 1; have hfz166_2 := blk_frozen BK198.out 2) | (go_at_call 16; (with_reducible refine (span_Holds.calls kj44 a1_0 a1_1 a1_2 a1_1 t221 _ A151.out).mono ?_); rintro e w167 ⟨rfl, hb⟩; have n0_ := Aside0.mk (blk_below (g := gb197) (o := .cells #[.string a0_0, .string a0_1, .bool a0_2] 23 (0, 0)) (by (with_reducible repeat (first | refine blk_drewN ?_ _ | refine blk_drew ?_ | refine blk_alloc ?_ _)); exact BK197.out) hb); have n1_ := Aside0.mk (blk_below (g := gb198) (o := .cells #[.string a1_0, .string a1_1, .bool a1_2] 23 (0, 0)) (by (with_reducible repeat (first | refine blk_drewN ?_ _ | refine blk_drew ?_ | refine blk_alloc ?_ _)); exact BK198.out) hb); have n2_ := Aside0.mk (blk_below (g := gb204) (o := .cells #[.string t200, .string t201, .bool t202] 23 (0, 0)) (by (with_reducible repeat (first | refine blk_drewN ?_ _ | refine blk_drew ?_ | refine blk_alloc ?_ _)); exact BK204.out) hb); have n3_ := Aside0.mk (below_step (by repeat (first | (with_reducible first | exact HB.out | apply below_alloc | apply pw_below_drewN | apply below_drew1 | refine below_set ?_ GE197.out | refine below_set ?_ GE198.out | refine below_set ?_ GE204.out) | exact HB.out)) hb); clear BK197; clear BK198; clear BK204; clear HB; have BK197 := n0_; have BK198 := n1_; have BK204 := n2_; have HB := n3_; clear n0_ n1_ n2_ n3_; (try clear hb); (try clear hb2); (try clear hk); (try clear hi)))
                              go_meet
                              case rel => exact ⟨_, (t221), (by first | rfl | (simp; done) | (simp [*]; done) | (simp [*, Go.Proofs.Ytgdhgamolenfgaa.Str.bne_nil]; done)), H', ⟨by have := HJ6.out; have := HJ44.out; first | omega | exact Nat.le_refl _⟩, ⟨by (with_reducible repeat (first | refine blk_drewN ?_ _ | refine blk_drew ?_ | refine blk_alloc ?_ _)); exact BK197.out⟩, ⟨by (with_reducible repeat (first | refine blk_drewN ?_ _ | refine blk_drew ?_ | refine blk_alloc ?_ _)); exact BK198.out⟩, ⟨by (with_reducible repeat (first | refine blk_drewN ?_ _ | refine blk_drew ?_ | refine blk_alloc ?_ _)); exact BK204.out⟩, ⟨by repeat (first | (with_reducible first | exact HB.out | apply below_alloc | apply pw_below_drewN | apply below_drew1 | refine below_set ?_ GE197.out | refine below_set ?_ GE198.out | refine below_set ?_ GE204.out) | exact HB.out)⟩⟩
                            · replace c150 := Bool.eq_false_iff.mpr c150
                              subst c150
                              have H1 : (tidelinelaw02_SpanKeys.j2 kj44 a2 true a0_0 a0_1 a0_2) = some r := by rw [if_neg (show ¬ (false = true) by decide)] at H; exact H
                              clear H
                              have H := H1
                              clear H1
                              have H' := Aside0.mk H
                              clear H
                              have hnb168 := NB197_198.out
                              have hnc168 := NB198_197.out
                              have hnb169 := NB197_204.out
                              have hnc169 := NB204_197.out
                              have hcz170_0 : wc.cell? ⟨gb197, 0, none⟩ = some (.string a0_0) := (blk_cell BK197.out 0).trans rfl
                              have hcz170_1 : wc.cell? ⟨gb197, 1, none⟩ = some (.string a0_1) := (blk_cell BK197.out 1).trans rfl
                              have hcz170_2 : wc.cell? ⟨gb197, 2, none⟩ = some (.bool a0_2) := (blk_cell BK197.out 2).trans rfl
                              have hfz170_0 := blk_frozen BK197.out 0
                              have hfz170_1 := blk_frozen BK197.out 1
                              have hfz170_2 := blk_frozen BK197.out 2
                              go_wp2_with (first | ((with_reducible refine gate_callee (f := 12) rfl ?_); refine goesL_ (some 49) rfl rfl Try.func12 (by kernel_rfl) rfl #[.agg #[.string a0_0, .string a0_1, .bool a0_2]] rfl (by (try simp only [List.map_toArray, List.map_cons, List.map_nil]); first | done | rfl | (simp only [List.length_drop, List.length_take]; rfl)) ?_; (with_reducible refine (span_Check.calls kj44 a0_0 a0_1 a0_2 t213 _ A69.out).mono ?_); rintro e w171 ⟨rfl, hb⟩; refine ⟨_, rfl, ?_⟩; have n0_ := Aside0.mk (blk_below (g := gb197) (o := .cells #[.string a0_0, .string a0_1, .bool a0_2] 23 (0, 0)) (by (with_reducible repeat (first | refine blk_drewN ?_ _ | refine blk_drew ?_ | refine blk_alloc ?_ _)); exact BK197.out) hb); have n1_ := Aside0.mk (blk_below (g := gb198) (o := .cells #[.string a1_0, .string a1_1, .bool a1_2] 23 (0, 0)) (by (with_reducible repeat (first | refine blk_drewN ?_ _ | refine blk_drew ?_ | refine blk_alloc ?_ _)); exact BK198.out) hb); have n2_ := Aside0.mk (blk_below (g := gb204) (o := .cells #[.string t200, .string t201, .bool t202] 23 (0, 0)) (by (with_reducible repeat (first | refine blk_drewN ?_ _ | refine blk_drew ?_ | refine blk_alloc ?_ _)); exact BK204.out) hb); have n3_ := Aside0.mk (below_step (by repeat (first | (with_reducible first | exact HB.out | apply below_alloc | apply pw_below_drewN | apply below_drew1 | refine below_set ?_ GE197.out | refine below_set ?_ GE198.out | refine below_set ?_ GE204.out) | exact HB.out)) hb); clear BK197; clear BK198; clear BK204; clear HB; have BK197 := n0_; have BK198 := n1_; have BK204 := n2_; have HB := n3_; clear n0_ n1_ n2_ n3_; (try clear hb); (try clear hb2); (try clear hk); (try clear hi); have hnb172 := NB198_204.out; have hnc172 := NB204_198.out; have hcz173_0 : w171.cell? ⟨gb198, 0, none⟩ = some (.string a1_0) := (blk_cell BK198.out 0).trans rfl; have hcz173_1 : w171.cell? ⟨gb198, 1, none⟩ = some (.string a1_1) := (blk_cell BK198.out 1).trans rfl; have hcz173_2 : w171.cell? ⟨gb198, 2, none⟩ = some (.bool a1_2) := (blk_cell BK198.out 2).trans rfl; have hfz173_0 := blk_frozen BK198.out 0; have hfz173_1 := blk_frozen BK198.out 1; have hfz173_2 := blk_frozen BK198.out 2) | (go_at_call 12; (with_reducible refine (span_Check.calls kj44 a1_0 a1_1 a1_2 t214 _ A71.out).mono ?_); rintro e w174 ⟨rfl, hb⟩; have n0_ := Aside0.mk (blk_below (g := gb197) (o := .cells #[.string a0_0, .string a0_1, .bool a0_2] 23 (0, 0)) (by (with_reducible repeat (first | refine blk_drewN ?_ _ | refine blk_drew ?_ | refine blk_alloc ?_ _)); exact BK197.out) hb); have n1_ := Aside0.mk (blk_below (g := gb198) (o := .cells #[.string a1_0, .string a1_1, .bool a1_2] 23 (0, 0)) (by (with_reducible repeat (first | refine blk_drewN ?_ _ | refine blk_drew ?_ | refine blk_alloc ?_ _)); exact BK198.out) hb); have n2_ := Aside0.mk (blk_below (g := gb204) (o := .cells #[.string t200, .string t201, .bool t202] 23 (0, 0)) (by (with_reducible repeat (first | refine blk_drewN ?_ _ | refine blk_drew ?_ | refine blk_alloc ?_ _)); exact BK204.out) hb); have n3_ := Aside0.mk (below_step (by repeat (first | (with_reducible first | exact HB.out | apply below_alloc | apply pw_below_drewN | apply below_drew1 | refine below_set ?_ GE197.out | refine below_set ?_ GE198.out | refine below_set ?_ GE204.out) | exact HB.out)) hb); clear BK197; clear BK198; clear BK204; clear HB; have BK197 := n0_; have BK198 := n1_; have BK204 := n2_; have HB := n3_; clear n0_ n1_ n2_ n3_; (try clear hb); (try clear hb2); (try clear hk); (try clear hi); have hcz175_0 : w174.cell? ⟨gb197, 0, none⟩ = some (.string a0_0) := (blk_cell BK197.out 0).trans rfl; have hcz175_1 : w174.cell? ⟨gb197, 1, none⟩ = some (.string a0_1) := (blk_cell BK197.out 1).trans rfl; have hcz175_2 : w174.cell? ⟨gb197, 2, none⟩ = some (.bool a0_2) := (blk_cell BK197.out 2).trans rfl; have hfz175_0 := blk_frozen BK197.out 0; have hfz175_1 := blk_frozen BK197.out 1; have hfz175_2 := blk_frozen BK197.out 2) | (go_at_call 14; (with_reducible refine (span_Empty.calls kj44 a0_0 a0_1 a0_2 false _ A81.out).mono ?_); rintro e w176 ⟨rfl, hb⟩; have n0_ := Aside0.mk (blk_below (g := gb197) (o := .cells #[.string a0_0, .string a0_1, .bool a0_2] 23 (0, 0)) (by (with_reducible repeat (first | refine blk_drewN ?_ _ | refine blk_drew ?_ | refine blk_alloc ?_ _)); exact BK197.out) hb); have n1_ := Aside0.mk (blk_below (g := gb198) (o := .cells #[.string a1_0, .string a1_1, .bool a1_2] 23 (0, 0)) (by (with_reducible repeat (first | refine blk_drewN ?_ _ | refine blk_drew ?_ | refine blk_alloc ?_ _)); exact BK198.out) hb); have n2_ := Aside0.mk (blk_below (g := gb204) (o := .cells #[.string t200, .string t201, .bool t202] 23 (0, 0)) (by (with_reducible repeat (first | refine blk_drewN ?_ _ | refine blk_drew ?_ | refine blk_alloc ?_ _)); exact BK204.out) hb); have n3_ := Aside0.mk (below_step (by repeat (first | (with_reducible first | exact HB.out | apply below_alloc | apply pw_below_drewN | apply below_drew1 | refine below_set ?_ GE197.out | refine below_set ?_ GE198.out | refine below_set ?_ GE204.out) | exact HB.out)) hb); clear BK197; clear BK198; clear BK204; clear HB; have BK197 := n0_; have BK198 := n1_; have BK204 := n2_; have HB := n3_; clear n0_ n1_ n2_ n3_; (try clear hb); (try clear hb2); (try clear hk); (try clear hi); have hcz177_0 : w176.cell? ⟨gb197, 0, none⟩ = some (.string a0_0) := (blk_cell BK197.out 0).trans rfl; have hcz177_1 : w176.cell? ⟨gb197, 1, none⟩ = some (.string a0_1) := (blk_cell BK197.out 1).trans rfl; have hcz177_2 : w176.cell? ⟨gb197, 2, none⟩ = some (.bool a0_2) := (blk_cell BK197.out 2).trans rfl; have hfz177_0 := blk_frozen BK197.out 0; have hfz177_1 := blk_frozen BK197.out 1; have hfz177_2 := blk_frozen BK197.out 2) | (go_at_call 16; (with_reducible refine (span_Holds.calls kj44 a0_0 a0_1 a0_2 a0_0 false _ A92.out).mono ?_); rintro e w178 ⟨rfl, hb⟩; have n0_ := Aside0.mk (blk_below (g := gb197) (o := .cells #[.string a0_0, .string a0_1, .bool a0_2] 23 (0, 0)) (by (with_reducible repeat (first | refine blk_drewN ?_ _ | refine blk_drew ?_ | refine blk_alloc ?_ _)); exact BK197.out) hb); have n1_ := Aside0.mk (blk_below (g := gb198) (o := .cells #[.string a1_0, .string a1_1, .bool a1_2] 23 (0, 0)) (by (with_reducible repeat (first | refine blk_drewN ?_ _ | refine blk_drew ?_ | refine blk_alloc ?_ _)); exact BK198.out) hb); have n2_ := Aside0.mk (blk_below (g := gb204) (o := .cells #[.string t200, .string t201, .bool t202] 23 (0, 0)) (by (with_reducible repeat (first | refine blk_drewN ?_ _ | refine blk_drew ?_ | refine blk_alloc ?_ _)); exact BK204.out) hb); have n3_ := Aside0.mk (below_step (by repeat (first | (with_reducible first | exact HB.out | apply below_alloc | apply pw_below_drewN | apply below_drew1 | refine below_set ?_ GE197.out | refine below_set ?_ GE198.out | refine below_set ?_ GE204.out) | exact HB.out)) hb); clear BK197; clear BK198; clear BK204; clear HB; have BK197 := n0_; have BK198 := n1_; have BK204 := n2_; have HB := n3_; clear n0_ n1_ n2_ n3_; (try clear hb); (try clear hb2); (try clear hk); (try clear hi); have hcz179_0 : w178.cell? ⟨gb197, 0, none⟩ = some (.string a0_0) := (blk_cell BK197.out 0).trans rfl; have hcz179_1 : w178.cell? ⟨gb197, 1, none⟩ = some (.string a0_1) := (blk_cell BK197.out 1).trans rfl; have hcz179_2 : w178.cell? ⟨gb197, 2, none⟩ = some (.bool a0_2) := (blk_cell BK197.out 2).trans rfl; have hfz179_0 := blk_frozen BK197.out 0; have hfz179_1 := blk_frozen BK197.out 1; have hfz179_2 := blk_frozen BK197.out 2; have hcz180_0 : w178.cell? ⟨gb198, 0, none⟩ = some (.string a1_0) := (blk_cell BK198.out 0).trans rfl; have hcz180_1 : w178.cell? ⟨gb198, 1, none⟩ = some (.string a1_1) := (blk_cell BK198.out 1).trans rfl; have hcz180_2 : w178.cell? ⟨gb198, 2, none⟩ = some (.bool a1_2) := (blk_cell BK198.out 2).trans rfl; have hfz180_0 := blk_frozen BK198.out 0; have hfz180_1 := blk_frozen BK198.out 1; have hfz180_2 := blk_frozen BK198.out 2) | (go_at_call 16; (with_reducible refine (span_Holds.calls kj44 a0_0 a0_1 a0_2 a1_1 false _ A149.out).mono ?_); rintro e w181 ⟨rfl, hb⟩; have n0_ := Aside0.mk (blk_below (g := gb197) (o := .cells #[.string a0_0, .string a0_1, .bool a0_2] 23 (0, 0)) (by (with_reducible repeat (first | refine blk_drewN ?_ _ | refine blk_drew ?_ | refine blk_alloc ?_ _)); exact BK197.out) hb); have n1_ := Aside0.mk (blk_below (g := gb198) (o := .cells #[.string a1_0, .string a1_1, .bool a1_2] 23 (0, 0)) (by (with_reducible repeat (first | refine blk_drewN ?_ _ | refine blk_drew ?_ | refine blk_alloc ?_ _)); exact BK198.out) hb); have n2_ := Aside0.mk (blk_below (g := gb204) (o := .cells #[.string t200, .string t201, .bool t202] 23 (0, 0)) (by (with_reducible repeat (first | refine blk_drewN ?_ _ | refine blk_drew ?_ | refine blk_alloc ?_ _)); exact BK204.out) hb); have n3_ := Aside0.mk (below_step (by repeat (first | (with_reducible first | exact HB.out | apply below_alloc | apply pw_below_drewN | apply below_drew1 | refine below_set ?_ GE197.out | refine below_set ?_ GE198.out | refine below_set ?_ GE204.out) | exact HB.out)) hb); clear BK197; clear BK198; clear BK204; clear HB; have BK197 := n0_; have BK198 := n1_; have BK204 := n2_; have HB := n3_; clear n0_ n1_ n2_ n3_; (try clear hb); (try clear hb2); (try clear hk); (try clear hi)))
                              go_meet
                              case rel => exact ⟨_, (true), (by first | rfl | (simp; done) | (simp [*]; done) | (simp [*, Go.Proofs.Ytgdhgamolenfgaa.Str.bne_nil]; done)), H', ⟨by have := HJ6.out; have := HJ44.out; first | omega | exact Nat.le_refl _⟩, ⟨by (with_reducible repeat (first | refine blk_drewN ?_ _ | refine blk_drew ?_ | refine blk_alloc ?_ _)); exact BK197.out⟩, ⟨by (with_reducible repeat (first | refine blk_drewN ?_ _ | refine blk_drew ?_ | refine blk_alloc ?_ _)); exact BK198.out⟩, ⟨by (with_reducible repeat (first | refine blk_drewN ?_ _ | refine blk_drew ?_ | refine blk_alloc ?_ _)); exact BK204.out⟩, ⟨by repeat (first | (with_reducible first | exact HB.out | apply below_alloc | apply pw_below_drewN | apply below_drew1 | refine below_set ?_ GE197.out | refine below_set ?_ GE198.out | refine below_set ?_ GE204.out) | exact HB.out)⟩⟩
                    · rw [if_neg c72] at H
                      have c72b0 : (t214 == 0) = false := beq_eq_false_iff_ne.mpr c72
                      have c72b1 : (t214 != 0) = true := bne_iff_ne.mpr c72
                      have H' := Aside0.mk H
                      clear H
                      have hnb182 := NB197_198.out
                      have hnc182 := NB198_197.out
                      have hnb183 := NB197_204.out
                      have hnc183 := NB204_197.out
                      have hcz184_0 : wc.cell? ⟨gb197, 0, none⟩ = some (.string a0_0) := (blk_cell BK197.out 0).trans rfl
                      have hcz184_1 : wc.cell? ⟨gb197, 1, none⟩ = some (.string a0_1) := (blk_cell BK197.out 1).trans rfl
                      have hcz184_2 : wc.cell? ⟨gb197, 2, none⟩ = some (.bool a0_2) := (blk_cell BK197.out 2).trans rfl
                      have hfz184_0 := blk_frozen BK197.out 0
                      have hfz184_1 := blk_frozen BK197.out 1
                      have hfz184_2 := blk_frozen BK197.out 2
                      go_wp2_with (first | ((with_reducible refine gate_callee (f := 12) rfl ?_); refine goesL_ (some 49) rfl rfl Try.func12 (by kernel_rfl) rfl #[.agg #[.string a0_0, .string a0_1, .bool a0_2]] rfl (by (try simp only [List.map_toArray, List.map_cons, List.map_nil]); first | done | rfl | (simp only [List.length_drop, List.length_take]; rfl)) ?_; (with_reducible refine (span_Check.calls kj44 a0_0 a0_1 a0_2 t213 _ A69.out).mono ?_); rintro e w185 ⟨rfl, hb⟩; refine ⟨_, rfl, ?_⟩; have n0_ := Aside0.mk (blk_below (g := gb197) (o := .cells #[.string a0_0, .string a0_1, .bool a0_2] 23 (0, 0)) (by (with_reducible repeat (first | refine blk_drewN ?_ _ | refine blk_drew ?_ | refine blk_alloc ?_ _)); exact BK197.out) hb); have n1_ := Aside0.mk (blk_below (g := gb198) (o := .cells #[.string a1_0, .string a1_1, .bool a1_2] 23 (0, 0)) (by (with_reducible repeat (first | refine blk_drewN ?_ _ | refine blk_drew ?_ | refine blk_alloc ?_ _)); exact BK198.out) hb); have n2_ := Aside0.mk (blk_below (g := gb204) (o := .cells #[.string t200, .string t201, .bool t202] 23 (0, 0)) (by (with_reducible repeat (first | refine blk_drewN ?_ _ | refine blk_drew ?_ | refine blk_alloc ?_ _)); exact BK204.out) hb); have n3_ := Aside0.mk (below_step (by repeat (first | (with_reducible first | exact HB.out | apply below_alloc | apply pw_below_drewN | apply below_drew1 | refine below_set ?_ GE197.out | refine below_set ?_ GE198.out | refine below_set ?_ GE204.out) | exact HB.out)) hb); clear BK197; clear BK198; clear BK204; clear HB; have BK197 := n0_; have BK198 := n1_; have BK204 := n2_; have HB := n3_; clear n0_ n1_ n2_ n3_; (try clear hb); (try clear hb2); (try clear hk); (try clear hi); have hnb186 := NB198_204.out; have hnc186 := NB204_198.out; have hcz187_0 : w185.cell? ⟨gb198, 0, none⟩ = some (.string a1_0) := (blk_cell BK198.out 0).trans rfl; have hcz187_1 : w185.cell? ⟨gb198, 1, none⟩ = some (.string a1_1) := (blk_cell BK198.out 1).trans rfl; have hcz187_2 : w185.cell? ⟨gb198, 2, none⟩ = some (.bool a1_2) := (blk_cell BK198.out 2).trans rfl; have hfz187_0 := blk_frozen BK198.out 0; have hfz187_1 := blk_frozen BK198.out 1; have hfz187_2 := blk_frozen BK198.out 2) | (go_at_call 12; (with_reducible refine (span_Check.calls kj44 a1_0 a1_1 a1_2 t214 _ A71.out).mono ?_); rintro e w188 ⟨rfl, hb⟩; have n0_ := Aside0.mk (blk_below (g := gb197) (o := .cells #[.string a0_0, .string a0_1, .bool a0_2] 23 (0, 0)) (by (with_reducible repeat (first | refine blk_drewN ?_ _ | refine blk_drew ?_ | refine blk_alloc ?_ _)); exact BK197.out) hb); have n1_ := Aside0.mk (blk_below (g := gb198) (o := .cells #[.string a1_0, .string a1_1, .bool a1_2] 23 (0, 0)) (by (with_reducible repeat (first | refine blk_drewN ?_ _ | refine blk_drew ?_ | refine blk_alloc ?_ _)); exact BK198.out) hb); have n2_ := Aside0.mk (blk_below (g := gb204) (o := .cells #[.string t200, .string t201, .bool t202] 23 (0, 0)) (by (with_reducible repeat (first | refine blk_drewN ?_ _ | refine blk_drew ?_ | refine blk_alloc ?_ _)); exact BK204.out) hb); have n3_ := Aside0.mk (below_step (by repeat (first | (with_reducible first | exact HB.out | apply below_alloc | apply pw_below_drewN | apply below_drew1 | refine below_set ?_ GE197.out | refine below_set ?_ GE198.out | refine below_set ?_ GE204.out) | exact HB.out)) hb); clear BK197; clear BK198; clear BK204; clear HB; have BK197 := n0_; have BK198 := n1_; have BK204 := n2_; have HB := n3_; clear n0_ n1_ n2_ n3_; (try clear hb); (try clear hb2); (try clear hk); (try clear hi)))
                      go_meet
                      case rel => exact ⟨_, (false), (by first | rfl | (simp; done) | (simp [*]; done) | (simp [*, Go.Proofs.Ytgdhgamolenfgaa.Str.bne_nil]; done)), H', ⟨by have := HJ6.out; have := HJ44.out; first | omega | exact Nat.le_refl _⟩, ⟨by (with_reducible repeat (first | refine blk_drewN ?_ _ | refine blk_drew ?_ | refine blk_alloc ?_ _)); exact BK197.out⟩, ⟨by (with_reducible repeat (first | refine blk_drewN ?_ _ | refine blk_drew ?_ | refine blk_alloc ?_ _)); exact BK198.out⟩, ⟨by (with_reducible repeat (first | refine blk_drewN ?_ _ | refine blk_drew ?_ | refine blk_alloc ?_ _)); exact BK204.out⟩, ⟨by repeat (first | (with_reducible first | exact HB.out | apply below_alloc | apply pw_below_drewN | apply below_drew1 | refine below_set ?_ GE197.out | refine below_set ?_ GE198.out | refine below_set ?_ GE204.out) | exact HB.out)⟩⟩
                  · rw [if_neg c70] at H
                    have c70b0 : (t213 == 0) = false := beq_eq_false_iff_ne.mpr c70
                    have c70b1 : (t213 != 0) = true := bne_iff_ne.mpr c70
                    (first | rw [c70b0] | (simp only [i64_w, i32_w]; rw [c70b0]) | skip)
                    have H' := Aside0.mk H
                    clear H
                    have hnb189 := NB197_198.out
                    have hnc189 := NB198_197.out
                    have hnb190 := NB197_204.out
                    have hnc190 := NB204_197.out
                    have hcz191_0 : wc.cell? ⟨gb197, 0, none⟩ = some (.string a0_0) := (blk_cell BK197.out 0).trans rfl
                    have hcz191_1 : wc.cell? ⟨gb197, 1, none⟩ = some (.string a0_1) := (blk_cell BK197.out 1).trans rfl
                    have hcz191_2 : wc.cell? ⟨gb197, 2, none⟩ = some (.bool a0_2) := (blk_cell BK197.out 2).trans rfl
                    have hfz191_0 := blk_frozen BK197.out 0
                    have hfz191_1 := blk_frozen BK197.out 1
                    have hfz191_2 := blk_frozen BK197.out 2
                    go_wp2_with (first | ((with_reducible refine gate_callee (f := 12) rfl ?_); refine goesL_ (some 49) rfl rfl Try.func12 (by kernel_rfl) rfl #[.agg #[.string a0_0, .string a0_1, .bool a0_2]] rfl (by (try simp only [List.map_toArray, List.map_cons, List.map_nil]); first | done | rfl | (simp only [List.length_drop, List.length_take]; rfl)) ?_; (with_reducible refine (span_Check.calls kj44 a0_0 a0_1 a0_2 t213 _ A69.out).mono ?_); rintro e w192 ⟨rfl, hb⟩; refine ⟨_, rfl, ?_⟩; have n0_ := Aside0.mk (blk_below (g := gb197) (o := .cells #[.string a0_0, .string a0_1, .bool a0_2] 23 (0, 0)) (by (with_reducible repeat (first | refine blk_drewN ?_ _ | refine blk_drew ?_ | refine blk_alloc ?_ _)); exact BK197.out) hb); have n1_ := Aside0.mk (blk_below (g := gb198) (o := .cells #[.string a1_0, .string a1_1, .bool a1_2] 23 (0, 0)) (by (with_reducible repeat (first | refine blk_drewN ?_ _ | refine blk_drew ?_ | refine blk_alloc ?_ _)); exact BK198.out) hb); have n2_ := Aside0.mk (blk_below (g := gb204) (o := .cells #[.string t200, .string t201, .bool t202] 23 (0, 0)) (by (with_reducible repeat (first | refine blk_drewN ?_ _ | refine blk_drew ?_ | refine blk_alloc ?_ _)); exact BK204.out) hb); have n3_ := Aside0.mk (below_step (by repeat (first | (with_reducible first | exact HB.out | apply below_alloc | apply pw_below_drewN | apply below_drew1 | refine below_set ?_ GE197.out | refine below_set ?_ GE198.out | refine below_set ?_ GE204.out) | exact HB.out)) hb); clear BK197; clear BK198; clear BK204; clear HB; have BK197 := n0_; have BK198 := n1_; have BK204 := n2_; have HB := n3_; clear n0_ n1_ n2_ n3_; (try clear hb); (try clear hb2); (try clear hk); (try clear hi)))
                    go_meet
                    case rel => exact ⟨_, (false), (by first | rfl | (simp; done) | (simp [*]; done) | (simp [*, Go.Proofs.Ytgdhgamolenfgaa.Str.bne_nil]; done)), H', ⟨by have := HJ6.out; have := HJ44.out; first | omega | exact Nat.le_refl _⟩, ⟨by (with_reducible repeat (first | refine blk_drewN ?_ _ | refine blk_drew ?_ | refine blk_alloc ?_ _)); exact BK197.out⟩, ⟨by (with_reducible repeat (first | refine blk_drewN ?_ _ | refine blk_drew ?_ | refine blk_alloc ?_ _)); exact BK198.out⟩, ⟨by (with_reducible repeat (first | refine blk_drewN ?_ _ | refine blk_drew ?_ | refine blk_alloc ?_ _)); exact BK204.out⟩, ⟨by repeat (first | (with_reducible first | exact HB.out | apply below_alloc | apply pw_below_drewN | apply below_drew1 | refine below_set ?_ GE197.out | refine below_set ?_ GE198.out | refine below_set ?_ GE204.out) | exact HB.out)⟩⟩
                case rest =>
                  clear HC68
                  try clear c1
                  try clear c2
                  try clear p2
                  try clear c3
                  try clear c4
                  try clear c5
                  try clear c6
                  try clear c7
                  try clear c8
                  try clear c9
                  try clear c10
                  try clear c11
                  try clear c12
                  try clear c13
                  try clear c15
                  try clear c16
                  try clear c17
                  try clear c18
                  try clear c19
                  try clear c22
                  try clear c27
                  try clear c34
                  try clear c43
                  try clear c46
                  try clear c47
                  try clear c49
                  try clear c52
                  try clear c54
                  try clear c56
                  try clear c57
                  try clear c60
                  try clear c63
                  try clear c64
                  try clear c67
                  try clear c70
                  try clear c70b0
                  try clear c70b1
                  try clear c72
                  try clear c72b0
                  try clear c72b1
                  try clear c73
                  try clear c74
                  try clear c75
                  try clear c78
                  try clear c82
                  try clear c83
                  try clear c84
                  try clear c87
                  try clear c93
                  try clear c95
                  try clear c97
                  try clear c99
                  try clear c100
                  try clear c103
                  try clear c118
                  try clear c119
                  try clear c122
                  try clear c135
                  try clear c136
                  try clear c139
                  try clear c150
                  try clear c152
                  try clear c153
                  try clear c156
                  try clear c168
                  try clear c169
                  try clear c172
                  try clear c182
                  try clear c183
                  try clear c186
                  try clear c189
                  try clear c190
                  try clear hcz101_0
                  try clear hcz101_1
                  try clear hcz101_2
                  try clear hcz104_0
                  try clear hcz104_1
                  try clear hcz104_2
                  try clear hcz106_0
                  try clear hcz106_1
                  try clear hcz106_2
                  try clear hcz108_0
                  try clear hcz108_1
                  try clear hcz108_2
                  try clear hcz110_0
                  try clear hcz110_1
                  try clear hcz110_2
                  try clear hcz111_0
                  try clear hcz111_1
                  try clear hcz111_2
                  try clear hcz113_0
                  try clear hcz113_1
                  try clear hcz113_2
                  try clear hcz114_0
                  try clear hcz114_1
                  try clear hcz114_2
                  try clear hcz116_0
                  try clear hcz116_1
                  try clear hcz116_2
                  try clear hcz120_0
                  try clear hcz120_1
                  try clear hcz120_2
                  try clear hcz123_0
                  try clear hcz123_1
                  try clear hcz123_2
                  try clear hcz125_0
                  try clear hcz125_1
                  try clear hcz125_2
                  try clear hcz127_0
                  try clear hcz127_1
                  try clear hcz127_2
                  try clear hcz129_0
                  try clear hcz129_1
                  try clear hcz129_2
                  try clear hcz130_0
                  try clear hcz130_1
                  try clear hcz130_2
                  try clear hcz132_0
                  try clear hcz132_1
                  try clear hcz132_2
                  try clear hcz133_0
                  try clear hcz133_1
                  try clear hcz133_2
                  try clear hcz137_0
                  try clear hcz137_1
                  try clear hcz137_2
                  try clear hcz140_0
                  try clear hcz140_1
                  try clear hcz140_2
                  try clear hcz142_0
                  try clear hcz142_1
                  try clear hcz142_2
                  try clear hcz144_0
                  try clear hcz144_1
                  try clear hcz144_2
                  try clear hcz146_0
                  try clear hcz146_1
                  try clear hcz146_2
                  try clear hcz147_0
                  try clear hcz147_1
                  try clear hcz147_2
                  try clear hcz154_0
                  try clear hcz154_1
                  try clear hcz154_2
                  try clear hcz157_0
                  try clear hcz157_1
                  try clear hcz157_2
                  try clear hcz159_0
                  try clear hcz159_1
                  try clear hcz159_2
                  try clear hcz161_0
                  try clear hcz161_1
                  try clear hcz161_2
                  try clear hcz163_0
                  try clear hcz163_1
                  try clear hcz163_2
                  try clear hcz164_0
                  try clear hcz164_1
                  try clear hcz164_2
                  try clear hcz166_0
                  try clear hcz166_1
                  try clear hcz166_2
                  try clear hcz170_0
                  try clear hcz170_1
                  try clear hcz170_2
                  try clear hcz173_0
                  try clear hcz173_1
                  try clear hcz173_2
                  try clear hcz175_0
                  try clear hcz175_1
                  try clear hcz175_2
                  try clear hcz177_0
                  try clear hcz177_1
                  try clear hcz177_2
                  try clear hcz179_0
                  try clear hcz179_1
                  try clear hcz179_2
                  try clear hcz180_0
                  try clear hcz180_1
                  try clear hcz180_2
                  try clear hcz184_0
                  try clear hcz184_1
                  try clear hcz184_2
                  try clear hcz187_0
                  try clear hcz187_1
                  try clear hcz187_2
                  try clear hcz191_0
                  try clear hcz191_1
                  try clear hcz191_2
                  try clear hcz48_0
                  try clear hcz48_1
                  try clear hcz48_2
                  try clear hcz50_0
                  try clear hcz50_1
                  try clear hcz50_2
                  try clear hcz58_0
                  try clear hcz58_1
                  try clear hcz58_2
                  try clear hcz61_0
                  try clear hcz61_1
                  try clear hcz61_2
                  try clear hcz65_0
                  try clear hcz65_1
                  try clear hcz65_2
                  try clear hcz76_0
                  try clear hcz76_1
                  try clear hcz76_2
                  try clear hcz79_0
                  try clear hcz79_1
                  try clear hcz79_2
                  try clear hcz85_0
                  try clear hcz85_1
                  try clear hcz85_2
                  try clear hcz88_0
                  try clear hcz88_1
                  try clear hcz88_2
                  try clear hcz90_0
                  try clear hcz90_1
                  try clear hcz90_2
                  try clear hfz101_0
                  try clear hfz101_1
                  try clear hfz101_2
                  try clear hfz104_0
                  try clear hfz104_1
                  try clear hfz104_2
                  try clear hfz106_0
                  try clear hfz106_1
                  try clear hfz106_2
                  try clear hfz108_0
                  try clear hfz108_1
                  try clear hfz108_2
                  try clear hfz110_0
                  try clear hfz110_1
                  try clear hfz110_2
                  try clear hfz111_0
                  try clear hfz111_1
                  try clear hfz111_2
                  try clear hfz113_0
                  try clear hfz113_1
                  try clear hfz113_2
                  try clear hfz114_0
                  try clear hfz114_1
                  try clear hfz114_2
                  try clear hfz116_0
                  try clear hfz116_1
                  try clear hfz116_2
                  try clear hfz120_0
                  try clear hfz120_1
                  try clear hfz120_2
                  try clear hfz123_0
                  try clear hfz123_1
                  try clear hfz123_2
                  try clear hfz125_0
                  try clear hfz125_1
                  try clear hfz125_2
                  try clear hfz127_0
                  try clear hfz127_1
                  try clear hfz127_2
                  try clear hfz129_0
                  try clear hfz129_1
                  try clear hfz129_2
                  try clear hfz130_0
                  try clear hfz130_1
                  try clear hfz130_2
                  try clear hfz132_0
                  try clear hfz132_1
                  try clear hfz132_2
                  try clear hfz133_0
                  try clear hfz133_1
                  try clear hfz133_2
                  try clear hfz137_0
                  try clear hfz137_1
                  try clear hfz137_2
                  try clear hfz140_0
                  try clear hfz140_1
                  try clear hfz140_2
                  try clear hfz142_0
                  try clear hfz142_1
                  try clear hfz142_2
                  try clear hfz144_0
                  try clear hfz144_1
                  try clear hfz144_2
                  try clear hfz146_0
                  try clear hfz146_1
                  try clear hfz146_2
                  try clear hfz147_0
                  try clear hfz147_1
                  try clear hfz147_2
                  try clear hfz154_0
                  try clear hfz154_1
                  try clear hfz154_2
                  try clear hfz157_0
                  try clear hfz157_1
                  try clear hfz157_2
                  try clear hfz159_0
                  try clear hfz159_1
                  try clear hfz159_2
                  try clear hfz161_0
                  try clear hfz161_1
                  try clear hfz161_2
                  try clear hfz163_0
                  try clear hfz163_1
                  try clear hfz163_2
                  try clear hfz164_0
                  try clear hfz164_1
                  try clear hfz164_2
                  try clear hfz166_0
                  try clear hfz166_1
                  try clear hfz166_2
                  try clear hfz170_0
                  try clear hfz170_1
                  try clear hfz170_2
                  try clear hfz173_0
                  try clear hfz173_1
                  try clear hfz173_2
                  try clear hfz175_0
                  try clear hfz175_1
                  try clear hfz175_2
                  try clear hfz177_0
                  try clear hfz177_1
                  try clear hfz177_2
                  try clear hfz179_0
                  try clear hfz179_1
                  try clear hfz179_2
                  try clear hfz180_0
                  try clear hfz180_1
                  try clear hfz180_2
                  try clear hfz184_0
                  try clear hfz184_1
                  try clear hfz184_2
                  try clear hfz187_0
                  try clear hfz187_1
                  try clear hfz187_2
                  try clear hfz191_0
                  try clear hfz191_1
                  try clear hfz191_2
                  try clear hfz48_0
                  try clear hfz48_1
                  try clear hfz48_2
                  try clear hfz50_0
                  try clear hfz50_1
                  try clear hfz50_2
                  try clear hfz58_0
                  try clear hfz58_1
                  try clear hfz58_2
                  try clear hfz61_0
                  try clear hfz61_1
                  try clear hfz61_2
                  try clear hfz65_0
                  try clear hfz65_1
                  try clear hfz65_2
                  try clear hfz76_0
                  try clear hfz76_1
                  try clear hfz76_2
                  try clear hfz79_0
                  try clear hfz79_1
                  try clear hfz79_2
                  try clear hfz85_0
                  try clear hfz85_1
                  try clear hfz85_2
                  try clear hfz88_0
                  try clear hfz88_1
                  try clear hfz88_2
                  try clear hfz90_0
                  try clear hfz90_1
                  try clear hfz90_2
                  try clear p2
                  obtain ⟨kq, x89_67, rfl, HA, HJ67, BK197, BK198, BK204, HB⟩ := hcut
                  cases kq with
                  | zero => exact absurd HA.out (by simp [tidelinelaw02_SpanKeys.j2])
                  | succ kj67 =>
                    have H := HA.out
                    clear HA
                    simp only [tidelinelaw02_SpanKeys.j2] at H
                    by_cases c193 : x89_67 = true
                    · subst c193
                      have H1 : (none) = some r := by rw [if_pos rfl] at H; exact H
                      clear H
                      have H := H1
                      clear H1
                      exact absurd H (by simp)
                    · replace c193 := Bool.eq_false_iff.mpr c193
                      subst c193
                      have H1 : ((span_Empty.f kj67 a0_0 a0_1 a0_2).bind fun t222 => (if t222 = true then ((span_Holds.f kj67 a0_0 a0_1 a0_2 a2).bind fun t223 => (if t223 = true then (none) else ((span_Holds.f kj67 a0_0 a0_1 a0_2 a0_0).bind fun t224 => (some (!t224))))) else ((span_Holds.f kj67 a0_0 a0_1 a0_2 a0_0).bind fun t225 => (some t225)))) = some r := by rw [if_neg (show ¬ (false = true) by decide)] at H; exact H
                      clear H
                      have H := H1
                      clear H1
                      replace H := Option.bind_eq_some_iff.mp H
                      obtain ⟨t222, A1940, H⟩ := H
                      replace H : (if t222 = true then ((span_Holds.f kj67 a0_0 a0_1 a0_2 a2).bind fun t223 => (if t223 = true then (none) else ((span_Holds.f kj67 a0_0 a0_1 a0_2 a0_0).bind fun t224 => (some (!t224))))) else ((span_Holds.f kj67 a0_0 a0_1 a0_2 a0_0).bind fun t225 => (some t225))) = some r := H
                      have A194 := Aside0.mk A1940
                      clear A1940
                      by_cases c195 : t222 = true
                      · subst c195
                        have H1 : ((span_Holds.f kj67 a0_0 a0_1 a0_2 a2).bind fun t223 => (if t223 = true then (none) else ((span_Holds.f kj67 a0_0 a0_1 a0_2 a0_0).bind fun t224 => (some (!t224))))) = some r := by rw [if_pos rfl] at H; exact H
                        clear H
                        have H := H1
                        clear H1
                        replace H := Option.bind_eq_some_iff.mp H
                        obtain ⟨t223, A1960, H⟩ := H
                        replace H : (if t223 = true then (none) else ((span_Holds.f kj67 a0_0 a0_1 a0_2 a0_0).bind fun t224 => (some (!t224)))) = some r := H
                        have A196 := Aside0.mk A1960
                        clear A1960
                        by_cases c197 : t223 = true
                        · subst c197
                          have H1 : (none) = some r := by rw [if_pos rfl] at H; exact H
                          clear H
                          have H := H1
                          clear H1
                          exact absurd H (by simp)
                        · replace c197 := Bool.eq_false_iff.mpr c197
                          subst c197
                          have H1 : ((span_Holds.f kj67 a0_0 a0_1 a0_2 a0_0).bind fun t224 => (some (!t224))) = some r := by rw [if_neg (show ¬ (false = true) by decide)] at H; exact H
                          clear H
                          have H := H1
                          clear H1
                          replace H := Option.bind_eq_some_iff.mp H
                          obtain ⟨t224, A1980, H⟩ := H
                          replace H : (some (!t224)) = some r := H
                          have A198 := Aside0.mk A1980
                          clear A1980
                          obtain rfl := Option.some.inj H
                          have hnb199 := NB197_198.out
                          have hnc199 := NB198_197.out
                          have hnb200 := NB197_204.out
                          have hnc200 := NB204_197.out
                          have hcz201_0 : wc.cell? ⟨gb197, 0, none⟩ = some (.string a0_0) := (blk_cell BK197.out 0).trans rfl
                          have hcz201_1 : wc.cell? ⟨gb197, 1, none⟩ = some (.string a0_1) := (blk_cell BK197.out 1).trans rfl
                          have hcz201_2 : wc.cell? ⟨gb197, 2, none⟩ = some (.bool a0_2) := (blk_cell BK197.out 2).trans rfl
                          have hfz201_0 := blk_frozen BK197.out 0
                          have hfz201_1 := blk_frozen BK197.out 1
                          have hfz201_2 := blk_frozen BK197.out 2
                          go_wp2_with (first | ((with_reducible refine gate_callee (f := 14) rfl ?_); refine goesL_ (some 91) rfl rfl Try.func14 (by kernel_rfl) rfl #[.agg #[.string a0_0, .string a0_1, .bool a0_2]] rfl (by (try simp only [List.map_toArray, List.map_cons, List.map_nil]); first | done | rfl | (simp only [List.length_drop, List.length_take]; rfl)) ?_; (with_reducible refine (span_Empty.calls kj67 a0_0 a0_1 a0_2 true _ A194.out).mono ?_); rintro e w202 ⟨rfl, hb⟩; refine ⟨_, rfl, ?_⟩; have n0_ := Aside0.mk (blk_below (g := gb197) (o := .cells #[.string a0_0, .string a0_1, .bool a0_2] 23 (0, 0)) (by (with_reducible repeat (first | refine blk_drewN ?_ _ | refine blk_drew ?_ | refine blk_alloc ?_ _)); exact BK197.out) hb); have n1_ := Aside0.mk (blk_below (g := gb198) (o := .cells #[.string a1_0, .string a1_1, .bool a1_2] 23 (0, 0)) (by (with_reducible repeat (first | refine blk_drewN ?_ _ | refine blk_drew ?_ | refine blk_alloc ?_ _)); exact BK198.out) hb); have n2_ := Aside0.mk (blk_below (g := gb204) (o := .cells #[.string t200, .string t201, .bool t202] 23 (0, 0)) (by (with_reducible repeat (first | refine blk_drewN ?_ _ | refine blk_drew ?_ | refine blk_alloc ?_ _)); exact BK204.out) hb); have n3_ := Aside0.mk (below_step (by repeat (first | (with_reducible first | exact HB.out | apply below_alloc | apply pw_below_drewN | apply below_drew1 | refine below_set ?_ GE197.out | refine below_set ?_ GE198.out | refine below_set ?_ GE204.out) | exact HB.out)) hb); clear BK197; clear BK198; clear BK204; clear HB; have BK197 := n0_; have BK198 := n1_; have BK204 := n2_; have HB := n3_; clear n0_ n1_ n2_ n3_; (try clear hb); (try clear hb2); (try clear hk); (try clear hi); have hcz203_0 : w202.cell? ⟨gb197, 0, none⟩ = some (.string a0_0) := (blk_cell BK197.out 0).trans rfl; have hcz203_1 : w202.cell? ⟨gb197, 1, none⟩ = some (.string a0_1) := (blk_cell BK197.out 1).trans rfl; have hcz203_2 : w202.cell? ⟨gb197, 2, none⟩ = some (.bool a0_2) := (blk_cell BK197.out 2).trans rfl; have hfz203_0 := blk_frozen BK197.out 0; have hfz203_1 := blk_frozen BK197.out 1; have hfz203_2 := blk_frozen BK197.out 2) | ((with_reducible refine gate_callee (f := 16) rfl ?_); refine goesL_ (some 94) rfl rfl Try.func16 (by kernel_rfl) rfl #[.agg #[.string a0_0, .string a0_1, .bool a0_2], .string a2] rfl (by (try simp only [List.map_toArray, List.map_cons, List.map_nil]); first | done | rfl | (simp only [List.length_drop, List.length_take]; rfl)) ?_; (with_reducible refine (span_Holds.calls kj67 a0_0 a0_1 a0_2 a2 false _ A196.out).mono ?_); rintro e w204 ⟨rfl, hb⟩; refine ⟨_, rfl, ?_⟩; have n0_ := Aside0.mk (blk_below (g := gb197) (o := .cells #[.string a0_0, .string a0_1, .bool a0_2] 23 (0, 0)) (by (with_reducible repeat (first | refine blk_drewN ?_ _ | refine blk_drew ?_ | refine blk_alloc ?_ _)); exact BK197.out) hb); have n1_ := Aside0.mk (blk_below (g := gb198) (o := .cells #[.string a1_0, .string a1_1, .bool a1_2] 23 (0, 0)) (by (with_reducible repeat (first | refine blk_drewN ?_ _ | refine blk_drew ?_ | refine blk_alloc ?_ _)); exact BK198.out) hb); have n2_ := Aside0.mk (blk_below (g := gb204) (o := .cells #[.string t200, .string t201, .bool t202] 23 (0, 0)) (by (with_reducible repeat (first | refine blk_drewN ?_ _ | refine blk_drew ?_ | refine blk_alloc ?_ _)); exact BK204.out) hb); have n3_ := Aside0.mk (below_step (by repeat (first | (with_reducible first | exact HB.out | apply below_alloc | apply pw_below_drewN | apply below_drew1 | refine below_set ?_ GE197.out | refine below_set ?_ GE198.out | refine below_set ?_ GE204.out) | exact HB.out)) hb); clear BK197; clear BK198; clear BK204; clear HB; have BK197 := n0_; have BK198 := n1_; have BK204 := n2_; have HB := n3_; clear n0_ n1_ n2_ n3_; (try clear hb); (try clear hb2); (try clear hk); (try clear hi); have hcz205_0 : w204.cell? ⟨gb197, 0, none⟩ = some (.string a0_0) := (blk_cell BK197.out 0).trans rfl; have hcz205_1 : w204.cell? ⟨gb197, 1, none⟩ = some (.string a0_1) := (blk_cell BK197.out 1).trans rfl; have hcz205_2 : w204.cell? ⟨gb197, 2, none⟩ = some (.bool a0_2) := (blk_cell BK197.out 2).trans rfl; have hfz205_0 := blk_frozen BK197.out 0; have hfz205_1 := blk_frozen BK197.out 1; have hfz205_2 := blk_frozen BK197.out 2) | (go_at_call 16; (with_reducible refine (span_Holds.calls kj67 a0_0 a0_1 a0_2 a0_0 t224 _ A198.out).mono ?_); rintro e w206 ⟨rfl, hb⟩; have n0_ := Aside0.mk (blk_below (g := gb197) (o := .cells #[.string a0_0, .string a0_1, .bool a0_2] 23 (0, 0)) (by (with_reducible repeat (first | refine blk_drewN ?_ _ | refine blk_drew ?_ | refine blk_alloc ?_ _)); exact BK197.out) hb); have n1_ := Aside0.mk (blk_below (g := gb198) (o := .cells #[.string a1_0, .string a1_1, .bool a1_2] 23 (0, 0)) (by (with_reducible repeat (first | refine blk_drewN ?_ _ | refine blk_drew ?_ | refine blk_alloc ?_ _)); exact BK198.out) hb); have n2_ := Aside0.mk (blk_below (g := gb204) (o := .cells #[.string t200, .string t201, .bool t202] 23 (0, 0)) (by (with_reducible repeat (first | refine blk_drewN ?_ _ | refine blk_drew ?_ | refine blk_alloc ?_ _)); exact BK204.out) hb); have n3_ := Aside0.mk (below_step (by repeat (first | (with_reducible first | exact HB.out | apply below_alloc | apply pw_below_drewN | apply below_drew1 | refine below_set ?_ GE197.out | refine below_set ?_ GE198.out | refine below_set ?_ GE204.out) | exact HB.out)) hb); clear BK197; clear BK198; clear BK204; clear HB; have BK197 := n0_; have BK198 := n1_; have BK204 := n2_; have HB := n3_; clear n0_ n1_ n2_ n3_; (try clear hb); (try clear hb2); (try clear hk); (try clear hi)))
                          go_ret
                          exact ⟨by first | rfl | (simp [errW_none, errW_some] <;> rfl) | (simp [*, errW_none, errW_some] <;> rfl), by repeat (first | (with_reducible first | exact HB.out | apply below_alloc | apply pw_below_drewN | apply below_drew1 | refine below_set ?_ GE197.out | refine below_set ?_ GE198.out | refine below_set ?_ GE204.out) | exact HB.out)⟩
                      · replace c195 := Bool.eq_false_iff.mpr c195
                        subst c195
                        have H1 : ((span_Holds.f kj67 a0_0 a0_1 a0_2 a0_0).bind fun t225 => (some t225)) = some r := by rw [if_neg (show ¬ (false = true) by decide)] at H; exact H
                        clear H
                        have H := H1
                        clear H1
                        replace H := Option.bind_eq_some_iff.mp H
                        obtain ⟨t225, A2070, H⟩ := H
                        replace H : (some t225) = some r := H
                        have A207 := Aside0.mk A2070
                        clear A2070
                        obtain rfl := Option.some.inj H
                        have hnb208 := NB197_198.out
                        have hnc208 := NB198_197.out
                        have hnb209 := NB197_204.out
                        have hnc209 := NB204_197.out
                        have hcz210_0 : wc.cell? ⟨gb197, 0, none⟩ = some (.string a0_0) := (blk_cell BK197.out 0).trans rfl
                        have hcz210_1 : wc.cell? ⟨gb197, 1, none⟩ = some (.string a0_1) := (blk_cell BK197.out 1).trans rfl
                        have hcz210_2 : wc.cell? ⟨gb197, 2, none⟩ = some (.bool a0_2) := (blk_cell BK197.out 2).trans rfl
                        have hfz210_0 := blk_frozen BK197.out 0
                        have hfz210_1 := blk_frozen BK197.out 1
                        have hfz210_2 := blk_frozen BK197.out 2
                        go_wp2_with (first | ((with_reducible refine gate_callee (f := 14) rfl ?_); refine goesL_ (some 91) rfl rfl Try.func14 (by kernel_rfl) rfl #[.agg #[.string a0_0, .string a0_1, .bool a0_2]] rfl (by (try simp only [List.map_toArray, List.map_cons, List.map_nil]); first | done | rfl | (simp only [List.length_drop, List.length_take]; rfl)) ?_; (with_reducible refine (span_Empty.calls kj67 a0_0 a0_1 a0_2 false _ A194.out).mono ?_); rintro e w211 ⟨rfl, hb⟩; refine ⟨_, rfl, ?_⟩; have n0_ := Aside0.mk (blk_below (g := gb197) (o := .cells #[.string a0_0, .string a0_1, .bool a0_2] 23 (0, 0)) (by (with_reducible repeat (first | refine blk_drewN ?_ _ | refine blk_drew ?_ | refine blk_alloc ?_ _)); exact BK197.out) hb); have n1_ := Aside0.mk (blk_below (g := gb198) (o := .cells #[.string a1_0, .string a1_1, .bool a1_2] 23 (0, 0)) (by (with_reducible repeat (first | refine blk_drewN ?_ _ | refine blk_drew ?_ | refine blk_alloc ?_ _)); exact BK198.out) hb); have n2_ := Aside0.mk (blk_below (g := gb204) (o := .cells #[.string t200, .string t201, .bool t202] 23 (0, 0)) (by (with_reducible repeat (first | refine blk_drewN ?_ _ | refine blk_drew ?_ | refine blk_alloc ?_ _)); exact BK204.out) hb); have n3_ := Aside0.mk (below_step (by repeat (first | (with_reducible first | exact HB.out | apply below_alloc | apply pw_below_drewN | apply below_drew1 | refine below_set ?_ GE197.out | refine below_set ?_ GE198.out | refine below_set ?_ GE204.out) | exact HB.out)) hb); clear BK197; clear BK198; clear BK204; clear HB; have BK197 := n0_; have BK198 := n1_; have BK204 := n2_; have HB := n3_; clear n0_ n1_ n2_ n3_; (try clear hb); (try clear hb2); (try clear hk); (try clear hi); have hcz212_0 : w211.cell? ⟨gb197, 0, none⟩ = some (.string a0_0) := (blk_cell BK197.out 0).trans rfl; have hcz212_1 : w211.cell? ⟨gb197, 1, none⟩ = some (.string a0_1) := (blk_cell BK197.out 1).trans rfl; have hcz212_2 : w211.cell? ⟨gb197, 2, none⟩ = some (.bool a0_2) := (blk_cell BK197.out 2).trans rfl; have hfz212_0 := blk_frozen BK197.out 0; have hfz212_1 := blk_frozen BK197.out 1; have hfz212_2 := blk_frozen BK197.out 2) | ((with_reducible refine gate_callee (f := 16) rfl ?_); refine goesL_ (some 106) rfl rfl Try.func16 (by kernel_rfl) rfl #[.agg #[.string a0_0, .string a0_1, .bool a0_2], .string a0_0] rfl (by (try simp only [List.map_toArray, List.map_cons, List.map_nil]); first | done | rfl | (simp only [List.length_drop, List.length_take]; rfl)) ?_; (with_reducible refine (span_Holds.calls kj67 a0_0 a0_1 a0_2 a0_0 t225 _ A207.out).mono ?_); rintro e w213 ⟨rfl, hb⟩; refine ⟨_, rfl, ?_⟩; have n0_ := Aside0.mk (blk_below (g := gb197) (o := .cells #[.string a0_0, .string a0_1, .bool a0_2] 23 (0, 0)) (by (with_reducible repeat (first | refine blk_drewN ?_ _ | refine blk_drew ?_ | refine blk_alloc ?_ _)); exact BK197.out) hb); have n1_ := Aside0.mk (blk_below (g := gb198) (o := .cells #[.string a1_0, .string a1_1, .bool a1_2] 23 (0, 0)) (by (with_reducible repeat (first | refine blk_drewN ?_ _ | refine blk_drew ?_ | refine blk_alloc ?_ _)); exact BK198.out) hb); have n2_ := Aside0.mk (blk_below (g := gb204) (o := .cells #[.string t200, .string t201, .bool t202] 23 (0, 0)) (by (with_reducible repeat (first | refine blk_drewN ?_ _ | refine blk_drew ?_ | refine blk_alloc ?_ _)); exact BK204.out) hb); have n3_ := Aside0.mk (below_step (by repeat (first | (with_reducible first | exact HB.out | apply below_alloc | apply pw_below_drewN | apply below_drew1 | refine below_set ?_ GE197.out | refine below_set ?_ GE198.out | refine below_set ?_ GE204.out) | exact HB.out)) hb); clear BK197; clear BK198; clear BK204; clear HB; have BK197 := n0_; have BK198 := n1_; have BK204 := n2_; have HB := n3_; clear n0_ n1_ n2_ n3_; (try clear hb); (try clear hb2); (try clear hk); (try clear hi)))
                        go_ret
                        exact ⟨by first | rfl | (simp [errW_none, errW_some] <;> rfl) | (simp [*, errW_none, errW_some] <;> rfl), by repeat (first | (with_reducible first | exact HB.out | apply below_alloc | apply pw_below_drewN | apply below_drew1 | refine below_set ?_ GE197.out | refine below_set ?_ GE198.out | refine below_set ?_ GE204.out) | exact HB.out)⟩
  · replace c5 := Bool.eq_false_iff.mpr c5
    subst c5
    have H1 : (none) = some r := by rw [if_neg (show ¬ (false = true) by decide)] at H; exact H
    clear H
    have H := H1
    clear H1
    exact absurd H (by simp)

end Go.Proofs.Ytgdhgamolenfgaa.PAll
