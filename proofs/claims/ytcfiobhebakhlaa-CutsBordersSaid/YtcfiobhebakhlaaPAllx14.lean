-- By wip/pr.py (a program of this session, over the kit's print): lines written by program. Not trusted: Lean checks them.
import Derived.Test.YtcfiobhebakhlaaPAllx0
import Derived.Test.YtcfiobhebakhlaaPAllx10
import Derived.Test.YtcfiobhebakhlaaPAllx11
import Derived.Test.YtcfiobhebakhlaaPAllx13
namespace Go.Proofs.Ytcfiobhebakhlaa.PAll
open Go.RowKit Go.Proofs.YtcfiobhebakhlaaW.PrintWords Go.Proofs.YtcfiobhebakhlaaW.PrintLast Go.Proofs.YtcfiobhebakhlaaW.PrintMore
attribute [local go_sem] max2_int min2_int max_two min_two max_three min_three max_four min_four   -- for this text's walks alone
set_option linter.unusedVariables false
set_option linter.unusedSimpArgs false

/-! ### tidelinelaw07_CutsBorders: function 6 -/
mutual
def tidelinelaw07_CutsBorders.j0 : Nat → List ByteArray → List ByteArray → List ByteArray → Bool → Option (Bool)
  | 0, _, _, _, _ => none
  | k + 1, x0, x5, x6, x44 => if x44 = true then (some false) else (tidelinelaw07_CutsBorders.l0 k x0 x5 x6 0)
def tidelinelaw07_CutsBorders.l0 : Nat → List ByteArray → List ByteArray → List ByteArray → Int → Option (Bool)
  | 0, _, _, _, _ => none
  | k + 1, x0, x5, x6, x10 => if x10 < (x6.length : Int) then (if 0 ≤ x10 then (tidelinelaw07_CutsBorders.l0 k x0 x5 (x6.set (x10 : Int).toNat (⟨#[116, 117, 114, 110, 101, 100]⟩ : ByteArray)) (wrap64 (x10 + 1))) else (none)) else ((tidelinelaw07_sameTexts.f k x5 x0).bind fun t223 => (some t223))
end
def tidelinelaw07_CutsBorders.f (k : Nat) (l0 : List ByteArray) (a1 : Int) : Option (Bool) := (tidelinelaw07_beyond.f k l0 (⟨#[]⟩ : ByteArray) (⟨#[]⟩ : ByteArray) false).bind fun t205 => (if t205 = true then (some true) else ((some (([] : List ByteArray) : List ByteArray)).bind fun y206 => (if y206.length + l0.length < 8796093022208 then ((some (y206 ++ l0 : List ByteArray)).bind fun y209 => ((cuts_Borders.f k y209 a1).bind fun bt212 => ((tidelineref07_Borders.f k l0 a1).bind fun bt216 => (if bt212.2 = bt216.2 then ((tidelinelaw07_sameTexts.f k bt212.1 bt216.1).bind fun t220 => (if t220 = true then ((tidelinelaw07_sameTexts.f k y209 l0).bind fun t221 => (tidelinelaw07_CutsBorders.j0 k l0 y209 bt212.1 (!t221))) else (tidelinelaw07_CutsBorders.j0 k l0 y209 bt212.1 true))) else (tidelinelaw07_CutsBorders.j0 k l0 y209 bt212.1 true))))) else (none))))
theorem tidelinelaw07_CutsBorders.mono_l : ∀ k, (∀ y0 y1 y2 y3, LeO (tidelinelaw07_CutsBorders.j0 k y0 y1 y2 y3) (tidelinelaw07_CutsBorders.j0 (k + 1) y0 y1 y2 y3)) ∧ (∀ y0 y1 y2 y3, LeO (tidelinelaw07_CutsBorders.l0 k y0 y1 y2 y3) (tidelinelaw07_CutsBorders.l0 (k + 1) y0 y1 y2 y3))
  | 0 => ⟨fun _ _ _ _ r h => by simp [tidelinelaw07_CutsBorders.j0] at h, fun _ _ _ _ r h => by simp [tidelinelaw07_CutsBorders.l0] at h⟩
  | k + 1 => by
    obtain ⟨ih0, ih1⟩ := tidelinelaw07_CutsBorders.mono_l k
    refine ⟨?_, ?_⟩
    · intro y0 y1 y2 y3
      unfold tidelinelaw07_CutsBorders.j0
      repeat' first
      | (with_reducible exact ih0 _ _ _ _)
      | (with_reducible exact ih1 _ _ _ _)
      | (with_reducible exact cuts_Borders.mono _ _ _)
      | (with_reducible exact tidelinelaw07_beyond.mono _ _ _ _ _)
      | (with_reducible exact tidelinelaw07_sameTexts.mono _ _ _)
      | (with_reducible exact tidelineref07_Borders.mono _ _ _)
      | (with_reducible exact LeO.refl _)
      | (with_reducible exact LeO.none _)
      | (with_reducible refine LeO.ite ?_ ?_)
      | (with_reducible refine LeO.bind ?_ (fun _ => ?_))
      | exact ih0 _ _ _ _
      | exact ih1 _ _ _ _
      | exact cuts_Borders.mono _ _ _
      | exact tidelinelaw07_beyond.mono _ _ _ _ _
      | exact tidelinelaw07_sameTexts.mono _ _ _
      | exact tidelineref07_Borders.mono _ _ _
      | exact LeO.none _
      | refine LeO.ite ?_ ?_
      | refine LeO.bind ?_ (fun _ => ?_)
    · intro y0 y1 y2 y3
      unfold tidelinelaw07_CutsBorders.l0
      repeat' first
      | (with_reducible exact ih0 _ _ _ _)
      | (with_reducible exact ih1 _ _ _ _)
      | (with_reducible exact cuts_Borders.mono _ _ _)
      | (with_reducible exact tidelinelaw07_beyond.mono _ _ _ _ _)
      | (with_reducible exact tidelinelaw07_sameTexts.mono _ _ _)
      | (with_reducible exact tidelineref07_Borders.mono _ _ _)
      | (with_reducible exact LeO.refl _)
      | (with_reducible exact LeO.none _)
      | (with_reducible refine LeO.ite ?_ ?_)
      | (with_reducible refine LeO.bind ?_ (fun _ => ?_))
      | exact ih0 _ _ _ _
      | exact ih1 _ _ _ _
      | exact cuts_Borders.mono _ _ _
      | exact tidelinelaw07_beyond.mono _ _ _ _ _
      | exact tidelinelaw07_sameTexts.mono _ _ _
      | exact tidelineref07_Borders.mono _ _ _
      | exact LeO.none _
      | refine LeO.ite ?_ ?_
      | refine LeO.bind ?_ (fun _ => ?_)
theorem tidelinelaw07_CutsBorders.mono : ∀ a0 a1 k, LeO (tidelinelaw07_CutsBorders.f k a0 a1) (tidelinelaw07_CutsBorders.f (k + 1) a0 a1) := by
  intro a0 a1 k
  obtain ⟨ih0, ih1⟩ := tidelinelaw07_CutsBorders.mono_l k
  unfold tidelinelaw07_CutsBorders.f
  repeat' first
      | (with_reducible exact ih0 _ _ _ _)
      | (with_reducible exact ih1 _ _ _ _)
      | (with_reducible exact cuts_Borders.mono _ _ _)
      | (with_reducible exact tidelinelaw07_beyond.mono _ _ _ _ _)
      | (with_reducible exact tidelinelaw07_sameTexts.mono _ _ _)
      | (with_reducible exact tidelineref07_Borders.mono _ _ _)
      | (with_reducible exact LeO.refl _)
      | (with_reducible exact LeO.none _)
      | (with_reducible refine LeO.ite ?_ ?_)
      | (with_reducible refine LeO.bind ?_ (fun _ => ?_))
      | exact ih0 _ _ _ _
      | exact ih1 _ _ _ _
      | exact cuts_Borders.mono _ _ _
      | exact tidelinelaw07_beyond.mono _ _ _ _ _
      | exact tidelinelaw07_sameTexts.mono _ _ _
      | exact tidelineref07_Borders.mono _ _ _
      | exact LeO.none _
      | refine LeO.ite ?_ ?_
      | refine LeO.bind ?_ (fun _ => ?_)
set_option maxHeartbeats 8000000 in
set_option maxRecDepth 100000 in
theorem tidelinelaw07_CutsBorders.calls (k : Nat) (A0 : Option Addr) (c0 : Nat) (l0 : List ByteArray) (a1 : Int) (r : Bool) (w : World) (hr0 : Kd.C Kd.string w A0 l0.length l0) (hc0 : l0.length ≤ c0) (h : tidelinelaw07_CutsBorders.f k l0 a1 = some r) :
    Calls Try.prog 6 #[.slice A0 l0.length c0, .int .i64 a1] w fun e w' => e = .returned (.bool r) ∧ Below w.heap.size w w' := by
  have hu36 := Try.underlying36
  have HR0 := Aside0.mk hr0
  have HC0 := Aside0.mk hc0
  clear hr0 hc0
  have HB := Aside0.mk (Below.refl w.heap.size w)
  have H : ((tidelinelaw07_beyond.f k l0 (⟨#[]⟩ : ByteArray) (⟨#[]⟩ : ByteArray) false).bind fun t205 => (if t205 = true then (some true) else ((some (([] : List ByteArray) : List ByteArray)).bind fun y206 => (if y206.length + l0.length < 8796093022208 then ((some (y206 ++ l0 : List ByteArray)).bind fun y209 => ((cuts_Borders.f k y209 a1).bind fun bt212 => ((tidelineref07_Borders.f k l0 a1).bind fun bt216 => (if bt212.2 = bt216.2 then ((tidelinelaw07_sameTexts.f k bt212.1 bt216.1).bind fun t220 => (if t220 = true then ((tidelinelaw07_sameTexts.f k y209 l0).bind fun t221 => (tidelinelaw07_CutsBorders.j0 k l0 y209 bt212.1 (!t221))) else (tidelinelaw07_CutsBorders.j0 k l0 y209 bt212.1 true))) else (tidelinelaw07_CutsBorders.j0 k l0 y209 bt212.1 true))))) else (none))))) = some r := h
  clear h
  replace H := Option.bind_eq_some_iff.mp H
  obtain ⟨t205, A30, H⟩ := H
  replace H : (if t205 = true then (some true) else ((some (([] : List ByteArray) : List ByteArray)).bind fun y206 => (if y206.length + l0.length < 8796093022208 then ((some (y206 ++ l0 : List ByteArray)).bind fun y209 => ((cuts_Borders.f k y209 a1).bind fun bt212 => ((tidelineref07_Borders.f k l0 a1).bind fun bt216 => (if bt212.2 = bt216.2 then ((tidelinelaw07_sameTexts.f k bt212.1 bt216.1).bind fun t220 => (if t220 = true then ((tidelinelaw07_sameTexts.f k y209 l0).bind fun t221 => (tidelinelaw07_CutsBorders.j0 k l0 y209 bt212.1 (!t221))) else (tidelinelaw07_CutsBorders.j0 k l0 y209 bt212.1 true))) else (tidelinelaw07_CutsBorders.j0 k l0 y209 bt212.1 true))))) else (none)))) = some r := H
  have A3 := Aside0.mk A30
  clear A30
  by_cases c4 : t205 = true
  · subst c4
    have H1 : (some true) = some r := by rw [if_pos rfl] at H; exact H
    clear H
    have H := H1
    clear H1
    obtain rfl := Option.some.inj H
    go_enter Try.func6, Try.ntmps6
    go_wp2_with (first | ((with_reducible refine gate_callee (f := 21) rfl ?_); refine goesL_ (some 13) rfl rfl Try.func21 (by kernel_rfl) rfl #[.slice A0 l0.length c0, .agg #[.string (⟨#[]⟩ : ByteArray), .string (⟨#[]⟩ : ByteArray), .bool false]] rfl (by (try simp only [List.map_toArray, List.map_cons, List.map_nil]); first | done | rfl | (simp only [List.length_drop, List.length_take]; rfl)) ?_; (with_reducible refine (tidelinelaw07_beyond.calls k _ _ l0 (⟨#[]⟩ : ByteArray) (⟨#[]⟩ : ByteArray) false true _ ?side1 ?side2 A3.out).mono ?_); (case side1 => repeat (first | exact HR0.out | (with_reducible refine Kd.C_alloc ?_ _) | (with_reducible refine Kd.C_drewN ?_ _) | (with_reducible refine Kd.C_drew ?_))); (case side2 => exact HC0.out); rintro e w5 ⟨rfl, hb⟩; refine ⟨_, rfl, ?_⟩; have n0_ := Aside0.mk (below_step (by repeat (first | (with_reducible first | exact HB.out | apply below_alloc | apply pw_below_drewN | apply below_drew1) | exact HB.out)) hb); clear HB; have HB := n0_; clear n0_; (try clear hb); (try clear hb2); (try clear hk); (try clear hi)))
    go_ret
    exact ⟨by first | rfl | (simp [errW_none, errW_some] <;> rfl) | (simp [*, errW_none, errW_some] <;> rfl), by repeat (first | (with_reducible first | exact HB.out | apply below_alloc | apply pw_below_drewN | apply below_drew1) | exact HB.out)⟩
  · replace c4 := Bool.eq_false_iff.mpr c4
    subst c4
    have H1 : ((some (([] : List ByteArray) : List ByteArray)).bind fun y206 => (if y206.length + l0.length < 8796093022208 then ((some (y206 ++ l0 : List ByteArray)).bind fun y209 => ((cuts_Borders.f k y209 a1).bind fun bt212 => ((tidelineref07_Borders.f k l0 a1).bind fun bt216 => (if bt212.2 = bt216.2 then ((tidelinelaw07_sameTexts.f k bt212.1 bt216.1).bind fun t220 => (if t220 = true then ((tidelinelaw07_sameTexts.f k y209 l0).bind fun t221 => (tidelinelaw07_CutsBorders.j0 k l0 y209 bt212.1 (!t221))) else (tidelinelaw07_CutsBorders.j0 k l0 y209 bt212.1 true))) else (tidelinelaw07_CutsBorders.j0 k l0 y209 bt212.1 true))))) else (none))) = some r := by rw [if_neg (show ¬ (false = true) by decide)] at H; exact H
    clear H
    have H := H1
    clear H1
    obtain ⟨y206, hy206⟩ : ∃ y_ : List ByteArray, y_ = (([] : List ByteArray)) := ⟨_, rfl⟩
    replace H : (if y206.length + l0.length < 8796093022208 then ((some (y206 ++ l0 : List ByteArray)).bind fun y209 => ((cuts_Borders.f k y209 a1).bind fun bt212 => ((tidelineref07_Borders.f k l0 a1).bind fun bt216 => (if bt212.2 = bt216.2 then ((tidelinelaw07_sameTexts.f k bt212.1 bt216.1).bind fun t220 => (if t220 = true then ((tidelinelaw07_sameTexts.f k y209 l0).bind fun t221 => (tidelinelaw07_CutsBorders.j0 k l0 y209 bt212.1 (!t221))) else (tidelinelaw07_CutsBorders.j0 k l0 y209 bt212.1 true))) else (tidelinelaw07_CutsBorders.j0 k l0 y209 bt212.1 true))))) else (none)) = some r := by first | (rw [hy206]; with_reducible exact H) | (have H2_ := (Option.bind_some _ _).symm.trans H; rw [hy206]; with_reducible exact H2_) | (have H2_ := (Option.bind_some _ _).symm.trans H; with_reducible exact H2_) | with_reducible exact H | (rw [hy206]; exact H) | exact H
    have Ny206 := Aside0.mk hy206
    clear hy206
    by_cases c6 : y206.length + l0.length < 8796093022208
    · rw [if_pos c6] at H
      have LMc6 := Aside0.mk c6
      clear c6
      obtain ⟨y209, hy209⟩ : ∃ y_ : List ByteArray, y_ = (y206 ++ l0) := ⟨_, rfl⟩
      replace H : ((cuts_Borders.f k y209 a1).bind fun bt212 => ((tidelineref07_Borders.f k l0 a1).bind fun bt216 => (if bt212.2 = bt216.2 then ((tidelinelaw07_sameTexts.f k bt212.1 bt216.1).bind fun t220 => (if t220 = true then ((tidelinelaw07_sameTexts.f k y209 l0).bind fun t221 => (tidelinelaw07_CutsBorders.j0 k l0 y209 bt212.1 (!t221))) else (tidelinelaw07_CutsBorders.j0 k l0 y209 bt212.1 true))) else (tidelinelaw07_CutsBorders.j0 k l0 y209 bt212.1 true)))) = some r := by first | (rw [hy209]; with_reducible exact H) | (have H2_ := (Option.bind_some _ _).symm.trans H; rw [hy209]; with_reducible exact H2_) | (have H2_ := (Option.bind_some _ _).symm.trans H; with_reducible exact H2_) | with_reducible exact H | (rw [hy209]; exact H) | exact H
      have Ny209 := Aside0.mk hy209
      clear hy209
      replace H := Option.bind_eq_some_iff.mp H
      obtain ⟨⟨t212, t213⟩, A70, H⟩ := H
      replace H : ((tidelineref07_Borders.f k l0 a1).bind fun bt216 => (if t213 = bt216.2 then ((tidelinelaw07_sameTexts.f k t212 bt216.1).bind fun t220 => (if t220 = true then ((tidelinelaw07_sameTexts.f k y209 l0).bind fun t221 => (tidelinelaw07_CutsBorders.j0 k l0 y209 t212 (!t221))) else (tidelinelaw07_CutsBorders.j0 k l0 y209 t212 true))) else (tidelinelaw07_CutsBorders.j0 k l0 y209 t212 true))) = some r := H
      have A7 := Aside0.mk A70
      clear A70
      replace H := Option.bind_eq_some_iff.mp H
      obtain ⟨⟨t216, t217⟩, A80, H⟩ := H
      replace H : (if t213 = t217 then ((tidelinelaw07_sameTexts.f k t212 t216).bind fun t220 => (if t220 = true then ((tidelinelaw07_sameTexts.f k y209 l0).bind fun t221 => (tidelinelaw07_CutsBorders.j0 k l0 y209 t212 (!t221))) else (tidelinelaw07_CutsBorders.j0 k l0 y209 t212 true))) else (tidelinelaw07_CutsBorders.j0 k l0 y209 t212 true)) = some r := H
      have A8 := Aside0.mk A80
      clear A80
      have HC9 := Aside0.mk H
      clear H
      go_enter Try.func6, Try.ntmps6
      go_upto_region 7 with (first | ((with_reducible refine gate_callee (f := 21) rfl ?_); refine goesL_ (some 13) rfl rfl Try.func21 (by kernel_rfl) rfl #[.slice A0 l0.length c0, .agg #[.string (⟨#[]⟩ : ByteArray), .string (⟨#[]⟩ : ByteArray), .bool false]] rfl (by (try simp only [List.map_toArray, List.map_cons, List.map_nil]); first | done | rfl | (simp only [List.length_drop, List.length_take]; rfl)) ?_; (with_reducible refine (tidelinelaw07_beyond.calls k _ _ l0 (⟨#[]⟩ : ByteArray) (⟨#[]⟩ : ByteArray) false false _ ?side1 ?side2 A3.out).mono ?_); (case side1 => repeat (first | exact HR0.out | (with_reducible refine Kd.C_alloc ?_ _) | (with_reducible refine Kd.C_drewN ?_ _) | (with_reducible refine Kd.C_drew ?_))); (case side2 => exact HC0.out); rintro e w10 ⟨rfl, hb⟩; refine ⟨_, rfl, ?_⟩; have n0_ := Aside0.mk (below_step (by repeat (first | (with_reducible first | exact HB.out | apply below_alloc | apply pw_below_drewN | apply below_drew1) | exact HB.out)) hb); clear HB; have HB := n0_; clear n0_; (try clear hb); (try clear hb2); (try clear hk); (try clear hi)) | ((with_reducible refine gate_dst (N := 14) rfl ?_); refine Kd.R_lit Kd.string _ 9 ?hg (N := 14) ?hd (xs := ([] : List ByteArray)) (inner := []) (ok := fun _ => True) (okp := fun _ => True) ?hr ?hp (fun _ hk => hk) trivial (Below.refl _ _) (Nat.le_refl _) (by simp) ?_; (case hd => rfl); (case hg => rfl); (case hr => first | (go_simp; done) | (go_simp; rfl)); (case hp => exact (Reps.none _ _)); intro v207 w11 ho12 hb hg_ hnew_; clear hg_ hnew_; (first | rw [← Ny206.out] at ho12 | (simp only [Int.reduceToNat] at ho12; rw [← Ny206.out] at ho12)); have n0_ := Aside0.mk (Kd.R_lower ho12 (below_size (by repeat (first | (with_reducible first | exact HB.out | apply below_alloc | apply pw_below_drewN | apply below_drew1) | exact HB.out)))); have n1_ := Aside0.mk (below_step (by repeat (first | (with_reducible first | exact HB.out | apply below_alloc | apply pw_below_drewN | apply below_drew1) | exact HB.out)) hb); clear HB; have HO208 := n0_; have HB := n1_; clear n0_ n1_; clear hb ho12) | ((with_reducible refine gate_builtin (b := .append) (xs := #[.tmp 15, .tmp 16]) rfl ?_); at_builtin; refine Kd.R_append_rows Kd.string (w0 := w) w.heap.size rfl (.tmp 15) (.tmp 16) 33 9 (.string ⟨#[]⟩) 16 rfl Try.underlying33 info9 rfl (by decide) (by omega) v207 y206 l0 _ _ _ (fun _ => True) (fun _ => False) rfl rfl ?aO ?aR (fun _ _ h => h) (fun _ h => h.elim) ?aF ?aB ?aS ?aL ?_; (case aR => repeat (first | exact (Kd.C_below HR0.out HB.out) | (with_reducible refine Kd.C_alloc ?_ _) | (with_reducible refine Kd.C_drewN ?_ _) | (with_reducible refine Kd.C_drew ?_))); (case aB => exact (by repeat (first | (with_reducible first | exact HB.out | apply below_alloc | apply pw_below_drewN | apply below_drew1) | exact HB.out))); (case aF => exact (fun _ _ => trivial)); (case aO => exact (by (with_reducible repeat (first | apply Kd.R_alloc | apply Kd.R_drewN | apply Kd.R_drew)); exact HO208.out)); (case aS => exact (below_size (by repeat (first | (with_reducible first | exact HB.out | apply below_alloc | apply pw_below_drewN | apply below_drew1) | exact HB.out)))); (case aL => have := LMc6.out; omega); intro v210 w13 ho hb hg hat; rw [← Ny209.out] at ho; have n0_ := Aside0.mk (hb); have n1_ := Aside0.mk (ho); clear HB; clear HO208; have HB := n0_; have HO211 := n1_; clear n0_ n1_; clear ho hb hg hat; obtain ⟨Ao14, co14, eo14⟩ := Kd.R_slice HO211.out; subst eo14) | ((with_reducible refine gate_callee (f := 22) rfl ?_); refine goesL_ (some 21) rfl rfl Try.func22 (by kernel_rfl) rfl #[.slice Ao14 y209.length co14, .int .i64 a1] rfl (by (try simp only [List.map_toArray, List.map_cons, List.map_nil]); first | done | rfl | (simp only [List.length_drop, List.length_take]; rfl)) ?_; (with_reducible refine (cuts_Borders.calls k _ _ y209 a1 t212 t213 _ ?side1 ?side2 A7.out).mono ?_); (case side1 => repeat (first | exact (Kd.R_reads' HO211.out).2.2 | (with_reducible refine Kd.C_alloc ?_ _) | (with_reducible refine Kd.C_drewN ?_ _) | (with_reducible refine Kd.C_drew ?_))); (case side2 => exact (Kd.R_reads' HO211.out).2.1); rintro e w15 ⟨v214, rfl, ho0, hb⟩; refine ⟨_, rfl, ?_⟩; have n0_ := Aside0.mk (Kd.R_elder' (by (with_reducible repeat (first | apply Kd.R_alloc | apply Kd.R_drewN | apply Kd.R_drew)); exact HO211.out) (Kd.R_base ho0) hb); have n1_ := Aside0.mk (Kd.R_lower (Kd.R_new' ho0 (Kd.R_lt (by (with_reducible repeat (first | apply Kd.R_alloc | apply Kd.R_drewN | apply Kd.R_drew)); exact HO211.out))) (below_size (by repeat (first | (with_reducible first | exact HB.out | apply below_alloc | apply pw_below_drewN | apply below_drew1) | exact HB.out)))); have n2_ := Aside0.mk (below_step (by repeat (first | (with_reducible first | exact HB.out | apply below_alloc | apply pw_below_drewN | apply below_drew1) | exact HB.out)) hb); clear HO211; clear HB; have HO211 := n0_; have HO215 := n1_; have HB := n2_; clear n0_ n1_ n2_; (try clear hb); (try clear hb2); (try clear hk); (try clear hi); (try clear ho0)) | ((with_reducible refine gate_callee (f := 23) rfl ?_); refine goesL_ (some 27) rfl rfl Try.func23 (by kernel_rfl) rfl #[.slice A0 l0.length c0, .int .i64 a1] rfl (by (try simp only [List.map_toArray, List.map_cons, List.map_nil]); first | done | rfl | (simp only [List.length_drop, List.length_take]; rfl)) ?_; (with_reducible refine (tidelineref07_Borders.calls k _ _ l0 a1 t216 t217 _ ?side1 ?side2 A8.out).mono ?_); (case side1 => repeat (first | exact (Kd.C_below HR0.out HB.out) | (with_reducible refine Kd.C_alloc ?_ _) | (with_reducible refine Kd.C_drewN ?_ _) | (with_reducible refine Kd.C_drew ?_))); (case side2 => exact HC0.out); rintro e w16 ⟨v218, rfl, ho0, hb⟩; refine ⟨_, rfl, ?_⟩; have n0_ := Aside0.mk (Kd.R_elder' (by (with_reducible repeat (first | apply Kd.R_alloc | apply Kd.R_drewN | apply Kd.R_drew)); exact HO211.out) (Kd.R_base ho0) hb); have n1_ := Aside0.mk (Kd.R_elder' (by (with_reducible repeat (first | apply Kd.R_alloc | apply Kd.R_drewN | apply Kd.R_drew)); exact HO215.out) (Kd.R_base ho0) hb); have n2_ := Aside0.mk (Kd.R_lower (Kd.R_new' (Kd.R_new' ho0 (Kd.R_lt (by (with_reducible repeat (first | apply Kd.R_alloc | apply Kd.R_drewN | apply Kd.R_drew)); exact HO211.out))) (Kd.R_lt (by (with_reducible repeat (first | apply Kd.R_alloc | apply Kd.R_drewN | apply Kd.R_drew)); exact HO215.out))) (below_size (by repeat (first | (with_reducible first | exact HB.out | apply below_alloc | apply pw_below_drewN | apply below_drew1) | exact HB.out)))); have n3_ := Aside0.mk (below_step (by repeat (first | (with_reducible first | exact HB.out | apply below_alloc | apply pw_below_drewN | apply below_drew1) | exact HB.out)) hb); clear HO211; clear HO215; clear HB; have HO211 := n0_; have HO215 := n1_; have HO219 := n2_; have HB := n3_; clear n0_ n1_ n2_ n3_; (try clear hb); (try clear hb2); (try clear hk); (try clear hi); (try clear ho0)))
      (try simp only [Act.put, List.setIfInBounds_toArray, List.set_cons_zero, List.set_cons_succ])
      go_cut [44] (fun v44 wc => ∃ (kq : Nat) (x44_8 : Bool), v44 = .bool x44_8 ∧ Aside0 (tidelinelaw07_CutsBorders.j0 kq l0 y209 t212 x44_8 = some r) ∧ Aside0 (kq ≤ k) ∧ Aside0 (Kd.R Kd.string 9 wc w.heap.size (fun k_ => some k_ ≠ (v214 : Value).ownBlock) (.slice Ao14 y209.length co14) y209) ∧ Aside0 (Kd.R Kd.string 9 wc w.heap.size (fun k_ => some k_ ≠ ((.slice Ao14 y209.length co14) : Value).ownBlock) v214 t212) ∧ Aside0 (Below w.heap.size w wc))
      case first =>
        have H := HC9.out
        clear HC9
        by_cases c17 : t213 = t217
        · rw [if_pos c17] at H
          have c17b0 : (t213 == t217) = true := beq_iff_eq.mpr c17
          have c17b1 : (t213 != t217) = false := bne_eq_false_iff_eq.mpr c17
          clear c17
          (first | rw [c17b0] | (simp only [i64_w, i32_w]; rw [c17b0]) | skip)
          replace H := Option.bind_eq_some_iff.mp H
          obtain ⟨t220, A180, H⟩ := H
          replace H : (if t220 = true then ((tidelinelaw07_sameTexts.f k y209 l0).bind fun t221 => (tidelinelaw07_CutsBorders.j0 k l0 y209 t212 (!t221))) else (tidelinelaw07_CutsBorders.j0 k l0 y209 t212 true)) = some r := H
          have A18 := Aside0.mk A180
          clear A180
          by_cases c19 : t220 = true
          · subst c19
            have H1 : ((tidelinelaw07_sameTexts.f k y209 l0).bind fun t221 => (tidelinelaw07_CutsBorders.j0 k l0 y209 t212 (!t221))) = some r := by rw [if_pos rfl] at H; exact H
            clear H
            have H := H1
            clear H1
            replace H := Option.bind_eq_some_iff.mp H
            obtain ⟨t221, A200, H⟩ := H
            replace H : (tidelinelaw07_CutsBorders.j0 k l0 y209 t212 (!t221)) = some r := H
            have A20 := Aside0.mk A200
            clear A200
            have H' := Aside0.mk H
            clear H
            obtain ⟨Ao21, co21, eo21⟩ := Kd.R_slice HO215.out
            subst eo21
            obtain ⟨Ao22, co22, eo22⟩ := Kd.R_slice HO219.out
            subst eo22
            go_wp2_with (first | (go_at_call 24; (with_reducible refine (tidelinelaw07_sameTexts.calls k _ _ t212 _ _ t216 true _ ?side1 ?side2 ?side3 ?side4 A18.out).mono ?_); (case side1 => repeat (first | exact (Kd.R_reads' HO215.out).2.2 | (with_reducible refine Kd.C_alloc ?_ _) | (with_reducible refine Kd.C_drewN ?_ _) | (with_reducible refine Kd.C_drew ?_))); (case side2 => exact (Kd.R_reads' HO215.out).2.1); (case side3 => repeat (first | exact (Kd.R_reads' HO219.out).2.2 | (with_reducible refine Kd.C_alloc ?_ _) | (with_reducible refine Kd.C_drewN ?_ _) | (with_reducible refine Kd.C_drew ?_))); (case side4 => exact (Kd.R_reads' HO219.out).2.1); rintro e w' ⟨rfl, ⟨nd, rfl⟩⟩) | (go_at_call 24; (with_reducible refine (tidelinelaw07_sameTexts.calls k _ _ y209 _ _ l0 t221 _ ?side1 ?side2 ?side3 ?side4 A20.out).mono ?_); (case side1 => repeat (first | exact (Kd.R_reads' HO211.out).2.2 | (with_reducible refine Kd.C_alloc ?_ _) | (with_reducible refine Kd.C_drewN ?_ _) | (with_reducible refine Kd.C_drew ?_))); (case side2 => exact (Kd.R_reads' HO211.out).2.1); (case side3 => repeat (first | exact (Kd.C_below HR0.out (by repeat (first | (with_reducible first | exact HB.out | apply below_alloc | apply pw_below_drewN | apply below_drew1) | exact HB.out))) | (with_reducible refine Kd.C_alloc ?_ _) | (with_reducible refine Kd.C_drewN ?_ _) | (with_reducible refine Kd.C_drew ?_))); (case side4 => exact HC0.out); rintro e w' ⟨rfl, ⟨nd, rfl⟩⟩))
            go_meet
            case rel => exact ⟨_, (!t221), (by first | rfl | (simp; done) | (simp [*]; done) | (simp [*, Go.Proofs.Ytcfiobhebakhlaa.Str.bne_nil]; done)), H', ⟨by first | omega | exact Nat.le_refl _⟩, ⟨by (with_reducible repeat (first | apply Kd.R_alloc | apply Kd.R_drewN | apply Kd.R_drew)); exact Kd.R_mono HO211.out (fun _ hk => hk.1.2)⟩, ⟨by (with_reducible repeat (first | apply Kd.R_alloc | apply Kd.R_drewN | apply Kd.R_drew)); exact Kd.R_mono HO215.out (fun _ hk => hk.1.2)⟩, ⟨by repeat (first | (with_reducible first | exact HB.out | apply below_alloc | apply pw_below_drewN | apply below_drew1) | exact HB.out)⟩⟩
          · replace c19 := Bool.eq_false_iff.mpr c19
            subst c19
            have H1 : (tidelinelaw07_CutsBorders.j0 k l0 y209 t212 true) = some r := by rw [if_neg (show ¬ (false = true) by decide)] at H; exact H
            clear H
            have H := H1
            clear H1
            have H' := Aside0.mk H
            clear H
            obtain ⟨Ao23, co23, eo23⟩ := Kd.R_slice HO215.out
            subst eo23
            obtain ⟨Ao24, co24, eo24⟩ := Kd.R_slice HO219.out
            subst eo24
            go_wp2_with (first | (go_at_call 24; (with_reducible refine (tidelinelaw07_sameTexts.calls k _ _ t212 _ _ t216 false _ ?side1 ?side2 ?side3 ?side4 A18.out).mono ?_); (case side1 => repeat (first | exact (Kd.R_reads' HO215.out).2.2 | (with_reducible refine Kd.C_alloc ?_ _) | (with_reducible refine Kd.C_drewN ?_ _) | (with_reducible refine Kd.C_drew ?_))); (case side2 => exact (Kd.R_reads' HO215.out).2.1); (case side3 => repeat (first | exact (Kd.R_reads' HO219.out).2.2 | (with_reducible refine Kd.C_alloc ?_ _) | (with_reducible refine Kd.C_drewN ?_ _) | (with_reducible refine Kd.C_drew ?_))); (case side4 => exact (Kd.R_reads' HO219.out).2.1); rintro e w' ⟨rfl, ⟨nd, rfl⟩⟩))
            go_meet
            case rel => exact ⟨_, (true), (by first | rfl | (simp; done) | (simp [*]; done) | (simp [*, Go.Proofs.Ytcfiobhebakhlaa.Str.bne_nil]; done)), H', ⟨by first | omega | exact Nat.le_refl _⟩, ⟨by (with_reducible repeat (first | apply Kd.R_alloc | apply Kd.R_drewN | apply Kd.R_drew)); exact Kd.R_mono HO211.out (fun _ hk => hk.1.2)⟩, ⟨by (with_reducible repeat (first | apply Kd.R_alloc | apply Kd.R_drewN | apply Kd.R_drew)); exact Kd.R_mono HO215.out (fun _ hk => hk.1.2)⟩, ⟨by repeat (first | (with_reducible first | exact HB.out | apply below_alloc | apply pw_below_drewN | apply below_drew1) | exact HB.out)⟩⟩
        · rw [if_neg c17] at H
          have c17b0 : (t213 == t217) = false := beq_eq_false_iff_ne.mpr c17
          have c17b1 : (t213 != t217) = true := bne_iff_ne.mpr c17
          (first | rw [c17b0] | (simp only [i64_w, i32_w]; rw [c17b0]) | skip)
          have H' := Aside0.mk H
          clear H
          go_wp2
          go_meet
          case rel => exact ⟨_, (true), (by first | rfl | (simp; done) | (simp [*]; done) | (simp [*, Go.Proofs.Ytcfiobhebakhlaa.Str.bne_nil]; done)), H', ⟨by first | omega | exact Nat.le_refl _⟩, ⟨by (with_reducible repeat (first | apply Kd.R_alloc | apply Kd.R_drewN | apply Kd.R_drew)); exact Kd.R_mono HO211.out (fun _ hk => hk.1.2)⟩, ⟨by (with_reducible repeat (first | apply Kd.R_alloc | apply Kd.R_drewN | apply Kd.R_drew)); exact Kd.R_mono HO215.out (fun _ hk => hk.1.2)⟩, ⟨by repeat (first | (with_reducible first | exact HB.out | apply below_alloc | apply pw_below_drewN | apply below_drew1) | exact HB.out)⟩⟩
      case rest =>
        clear HC9
        try clear c1
        try clear c2
        try clear p2
        try clear c4
        try clear c6
        try clear c17
        try clear c17b0
        try clear c17b1
        try clear c19
        try clear c21
        try clear c22
        try clear c23
        obtain ⟨kq, x44_8, rfl, HA, HJ8, HO_5, HO_6, HB⟩ := hcut
        cases kq with
        | zero => exact absurd HA.out (by simp [tidelinelaw07_CutsBorders.j0])
        | succ kj8 =>
          have H := HA.out
          clear HA
          simp only [tidelinelaw07_CutsBorders.j0] at H
          by_cases c25 : x44_8 = true
          · subst c25
            have H1 : (some false) = some r := by rw [if_pos rfl] at H; exact H
            clear H
            have H := H1
            clear H1
            obtain rfl := Option.some.inj H
            go_wp2
            go_ret
            exact ⟨by first | rfl | (simp [errW_none, errW_some] <;> rfl) | (simp [*, errW_none, errW_some] <;> rfl), by repeat (first | (with_reducible first | exact HB.out | apply below_alloc | apply pw_below_drewN | apply below_drew1) | exact HB.out)⟩
          · replace c25 := Bool.eq_false_iff.mpr c25
            subst c25
            have H1 : (tidelinelaw07_CutsBorders.l0 kj8 l0 y209 t212 0) = some r := by rw [if_neg (show ¬ (false = true) by decide)] at H; exact H
            clear H
            have H := H1
            clear H1
            have H' := Aside0.mk H
            clear H
            go_wp2
            go_loopg [10] kj8 (fun kq v10 w' => ∃ (x6_2 : List ByteArray) (x10_2 : Int), v10 = .int .i64 x10_2 ∧ Aside0 (tidelinelaw07_CutsBorders.l0 kq l0 y209 x6_2 x10_2 = some r) ∧ Aside0 (kq ≤ kj8) ∧ Aside0 (Kd.R Kd.string 9 w' w.heap.size (fun k_ => some k_ ≠ (v214 : Value).ownBlock) (.slice Ao14 y209.length co14) y209) ∧ Aside0 (Kd.R Kd.string 9 w' w.heap.size (fun k_ => some k_ ≠ ((.slice Ao14 y209.length co14) : Value).ownBlock) v214 x6_2) ∧ Aside0 (Below w.heap.size w w'))
            case atStart => exact ⟨(t212), (0), (by first | rfl | (simp; done) | (simp [*]; done) | (simp [*, Go.Proofs.Ytcfiobhebakhlaa.Str.bne_nil]; done)), H', ⟨Nat.le_refl _⟩, ⟨by (with_reducible repeat (first | apply Kd.R_alloc | apply Kd.R_drewN | apply Kd.R_drew)); exact HO_5.out⟩, ⟨by (with_reducible repeat (first | apply Kd.R_alloc | apply Kd.R_drewN | apply Kd.R_drew)); exact HO_6.out⟩, ⟨by repeat (first | (with_reducible first | exact HB.out | apply below_alloc | apply pw_below_drewN | apply below_drew1) | exact HB.out)⟩⟩
            case round =>
              clear H'
              try clear c1
              try clear c2
              try clear p2
              try clear c4
              try clear c6
              try clear c17
              try clear c17b0
              try clear c17b1
              try clear c19
              try clear c21
              try clear c22
              try clear c23
              try clear c25
              try clear p2
              obtain ⟨x6_2, x10_2, rfl, HA, HK2, HO_5, HO_6, HB⟩ := hrel
              cases gk with
              | zero => exact absurd HA.out (by simp [tidelinelaw07_CutsBorders.l0])
              | succ k2 =>
                have H := HA.out
                clear HA
                simp only [tidelinelaw07_CutsBorders.l0] at H
                by_cases c26 : x10_2 < (x6_2.length : Int)
                · rw [if_pos c26] at H
                  have c26b0 : decide (x10_2 < (x6_2.length : Int)) = true := decide_eq_true c26
                  clear c26
                  by_cases c27 : 0 ≤ x10_2
                  · rw [if_pos c27] at H
                    have c27b0 : decide (0 ≤ x10_2) = true := decide_eq_true c27
                    clear c27
                    obtain ⟨y222, hy222⟩ : ∃ y_ : List ByteArray, y_ = (x6_2.set (x10_2 : Int).toNat (⟨#[116, 117, 114, 110, 101, 100]⟩ : ByteArray)) := ⟨_, rfl⟩
                    replace H : (tidelinelaw07_CutsBorders.l0 k2 l0 y209 y222 (wrap64 (x10_2 + 1))) = some r := by first | (rw [hy222]; with_reducible exact H) | (have H2_ := (Option.bind_some _ _).symm.trans H; rw [hy222]; with_reducible exact H2_) | (have H2_ := (Option.bind_some _ _).symm.trans H; with_reducible exact H2_) | with_reducible exact H | (rw [hy222]; exact H) | exact H
                    have Ny222 := Aside0.mk hy222
                    clear hy222
                    have H' := Aside0.mk H
                    clear H
                    obtain ⟨Ao29, co29, eo29⟩ := Kd.R_slice HO_6.out
                    subst eo29
                    have p28 : 0 ≤ (x10_2 : Int) := of_decide_eq_true (by first | (with_reducible assumption) | assumption)
                    have q28 : (x10_2 : Int) < ((x6_2.length : Int) : Int) := of_decide_eq_true (by first | (with_reducible assumption) | assumption)
                    obtain ⟨go28, co28, eo28, gb28, gl28, cl28, HG28⟩ := Kd.R_form HO_6.out (by omega)
                    (first | cases eo28 | (injection eo28 with ea_ en_ ec_; (first | subst ea_ | (injection ea_ with ea_; subst ea_)); subst ec_; clear en_))
                    have GB28 := Aside0.mk gb28
                    have GG28 := Aside0.mk HG28
                    clear gb28 gl28 HG28
                    obtain ⟨hx28_0, hf28_0⟩ := Kd.R_celln (⟨#[]⟩ : ByteArray) HO_6.out (x10_2 : Int) p28 q28
                    replace p28 := eq_true p28
                    replace q28 := eq_true q28
                    have HP30 := Kd.R_putg HO_6.out (x10_2 : Int) (⟨#[116, 117, 114, 110, 101, 100]⟩ : ByteArray)
                    go_wp2_with (first | ((with_reducible refine gate_store (t := 9) (p := 53) rfl ?_); refine store_event (t := 9) (p := 53) (v := ?vo_w31) (w1 := (wr.setCell ⟨go28, (x10_2 : Int).toNat, none⟩ (.string (⟨#[116, 117, 114, 110, 101, 100]⟩ : ByteArray)))) ?hg ?ho ?hn ?hr ?_; (case ho => rfl); (case hg => rfl); (case hn => rfl); (case hr => first | (go_simp; done) | (go_simp; rfl)); intro w31 hw; have hg : wr.grownBy w31 (some go28) := (by rw [hw]; exact HP30.2); have hp_ : Kd.R Kd.string 9 w31 w.heap.size (fun k_ => some k_ ≠ (.slice Ao14 y209.length co14 : Value).ownBlock) (.slice (some ⟨go28, 0, none⟩) x6_2.length co29) y222 := (by rw [hw, Ny222.out]; exact HP30.1); clear HP30; have n0_ := Aside0.mk (Kd.R_after (v := (.slice (some ⟨go28, 0, none⟩) x6_2.length co29)) (v1 := (.slice (some ⟨go28, 0, none⟩) x6_2.length co29)) (ok := (fun _ => True)) (by (with_reducible repeat (first | apply Kd.R_alloc | apply Kd.R_drewN | apply Kd.R_drew)); exact Kd.R_mono HO_5.out (fun _ hk => ⟨trivial, hk⟩)) hg (.inl rfl)); have n1_ := Aside0.mk (hp_); have n2_ := Aside0.mk ((by rw [hw]; exact below_set (HB.out) GB28.out : Below w.heap.size w w31)); clear HO_5; clear HO_6; clear HB; have HO_5 := n0_; have HO_6 := n1_; have HB := n2_; clear n0_ n1_ n2_; clear hg hw hp_))
                    go_roundg k2
                    case measure => have := HJ8.out; have := HK2.out; omega
                    case rel => exact ⟨(y222), (wrap64 (x10_2 + 1)), (by first | rfl | (simp; done) | (simp [*]; done) | (simp [*, Go.Proofs.Ytcfiobhebakhlaa.Str.bne_nil]; done)), H', ⟨by have := HJ8.out; have := HK2.out; omega⟩, ⟨by (with_reducible repeat (first | apply Kd.R_alloc | apply Kd.R_drewN | apply Kd.R_drew)); exact Kd.R_mono HO_5.out (fun _ hk => hk.2)⟩, ⟨by (with_reducible repeat (first | apply Kd.R_alloc | apply Kd.R_drewN | apply Kd.R_drew)); exact HO_6.out⟩, ⟨by repeat (first | (with_reducible first | exact HB.out | apply below_alloc | apply pw_below_drewN | apply below_drew1) | exact HB.out)⟩⟩
                  · rw [if_neg c27] at H
                    exact absurd H (by simp)
                · rw [if_neg c26] at H
                  have c26b0 : decide (x10_2 < (x6_2.length : Int)) = false := decide_eq_false c26
                  clear c26
                  replace H := Option.bind_eq_some_iff.mp H
                  obtain ⟨t223, A320, H⟩ := H
                  replace H : (some t223) = some r := H
                  have A32 := Aside0.mk A320
                  clear A320
                  obtain rfl := Option.some.inj H
                  obtain ⟨Ao33, co33, eo33⟩ := Kd.R_slice HO_6.out
                  subst eo33
                  go_wp2_with (first | ((with_reducible refine gate_callee (f := 24) rfl ?_); refine goesL_ (some 56) rfl rfl Try.func24 (by kernel_rfl) rfl #[.slice Ao14 y209.length co14, .slice A0 l0.length c0] rfl (by (try simp only [List.map_toArray, List.map_cons, List.map_nil]); first | done | rfl | (simp only [List.length_drop, List.length_take]; rfl)) ?_; (with_reducible refine (tidelinelaw07_sameTexts.calls k2 _ _ y209 _ _ l0 t223 _ ?side1 ?side2 ?side3 ?side4 A32.out).mono ?_); (case side1 => repeat (first | exact (Kd.R_reads' HO_5.out).2.2 | (with_reducible refine Kd.C_alloc ?_ _) | (with_reducible refine Kd.C_drewN ?_ _) | (with_reducible refine Kd.C_drew ?_))); (case side2 => exact (Kd.R_reads' HO_5.out).2.1); (case side3 => repeat (first | exact (Kd.C_below HR0.out HB.out) | (with_reducible refine Kd.C_alloc ?_ _) | (with_reducible refine Kd.C_drewN ?_ _) | (with_reducible refine Kd.C_drew ?_))); (case side4 => exact HC0.out); rintro e w' ⟨rfl, ⟨nd, rfl⟩⟩; refine ⟨_, rfl, ?_⟩))
                  go_ret
                  exact ⟨by first | rfl | (simp [errW_none, errW_some] <;> rfl) | (simp [*, errW_none, errW_some] <;> rfl), by repeat (first | (with_reducible first | exact HB.out | apply below_alloc | apply pw_below_drewN | apply below_drew1) | exact HB.out)⟩
    · rw [if_neg c6] at H
      exact absurd H (by simp)

end Go.Proofs.Ytcfiobhebakhlaa.PAll
