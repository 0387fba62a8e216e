-- By wip/pr.py (a program of this session, over the kit's print): lines written by program. Not trusted: Lean checks them.
import Derived.Test.YthnjlbdkcpgcjaaDoorPAllx0
import Derived.Test.YthnjlbdkcpgcjaaDoorPAllx3
import Derived.Test.YthnjlbdkcpgcjaaDoorPAllx8
namespace Go.Proofs.YthnjlbdkcpgcjaaDoor.PAll
open Go.RowKit Go.Proofs.YthnjlbdkcpgcjaaDoorW.PrintWords Go.Proofs.YthnjlbdkcpgcjaaDoorW.PrintLast Go.Proofs.YthnjlbdkcpgcjaaDoorW.PrintMore
attribute [local go_sem] max2_int min2_int max_two min_two max_three min_three max_four min_four   -- for this text's walks alone
set_option linter.unusedVariables false
set_option linter.unusedSimpArgs false

/-! ### tidelineref03_Parse: function 8 -/
mutual
def tidelineref03_Parse.j0 : Nat → ByteArray → ByteArray → ByteArray → ByteArray → Bool → Option (ByteArray × Int × Int × ByteArray × Bool × Int)
  | 0, _, _, _, _, _ => none
  | k + 1, x4, x8, x10, x11, x63 => if x63 = true then (some ((⟨#[]⟩ : ByteArray), 0, 0, (⟨#[]⟩ : ByteArray), false, 23)) else (if (x8.toList = ([120] : List UInt8)) then (tidelineref03_Parse.j1 k x4 x8 x10 x11 false (⟨#[]⟩ : ByteArray) 0 0 (⟨#[]⟩ : ByteArray) (x8.toList == ([120] : List UInt8))) else (if 0 < (x8.size : Int) then (tidelineref03_Parse.j1 k x4 x8 x10 x11 ((bt x8 0) != 61) (⟨#[]⟩ : ByteArray) 0 0 (⟨#[]⟩ : ByteArray) (x8.toList == ([120] : List UInt8))) else (none)))
def tidelineref03_Parse.j1 : Nat → ByteArray → ByteArray → ByteArray → ByteArray → Bool → ByteArray → Int → Int → ByteArray → Bool → Option (ByteArray × Int × Int × ByteArray × Bool × Int)
  | 0, _, _, _, _, _, _, _, _, _, _ => none
  | k + 1, x4, x8, x10, x11, x75, x191000, x191001, x191002, x191003, x191004 => if x75 = true then (some ((⟨#[]⟩ : ByteArray), 0, 0, (⟨#[]⟩ : ByteArray), false, 23)) else (if 1 ≤ (x4.size : Int) then ((tidelineref01_Unhex.f k (x4.extract 1 x4.size)).bind fun bt191 => (if bt191.2 = 0 then (if x191004 = true then (tidelineref03_Parse.j2 k x10 x11 bt191.1 x191001 x191002 x191003 x191004) else (if 1 ≤ (x8.size : Int) then ((tidelineref01_Unhex.f k (x8.extract 1 x8.size)).bind fun bt193 => (if bt193.2 = 0 then (tidelineref03_Parse.j2 k x10 x11 bt191.1 x191001 x191002 bt193.1 x191004) else (some ((⟨#[]⟩ : ByteArray), 0, 0, (⟨#[]⟩ : ByteArray), false, 23)))) else (none))) else (some ((⟨#[]⟩ : ByteArray), 0, 0, (⟨#[]⟩ : ByteArray), false, 23)))) else (none))
def tidelineref03_Parse.j2 : Nat → ByteArray → ByteArray → ByteArray → Int → Int → ByteArray → Bool → Option (ByteArray × Int × Int × ByteArray × Bool × Int)
  | 0, _, _, _, _, _, _, _ => none
  | k + 1, x10, x11, x191000, x191001, x191002, x191003, x191004 => (tidelineref03_number.f k x10).bind fun bt195 => ((tidelineref03_number.f k x11).bind fun bt197 => (if bt195.2 = true then (tidelineref03_Parse.j3 k bt195.1 bt197.1 (!bt197.2) x191000 x191001 x191002 x191003 x191004) else (tidelineref03_Parse.j3 k bt195.1 bt197.1 true x191000 x191001 x191002 x191003 x191004)))
def tidelineref03_Parse.j3 : Nat → Int → Int → Bool → ByteArray → Int → Int → ByteArray → Bool → Option (ByteArray × Int × Int × ByteArray × Bool × Int)
  | 0, _, _, _, _, _, _, _, _ => none
  | k + 1, x18, x20, x117, x191000, x191001, x191002, x191003, x191004 => if x117 = true then (some ((⟨#[]⟩ : ByteArray), 0, 0, (⟨#[]⟩ : ByteArray), false, 23)) else ((tidelineref03_Check.f x191000 x18 x20 x191003 x191004).bind fun t199 => (if t199 = 0 then (some (x191000, x18, x20, x191003, x191004, 0)) else (some ((⟨#[]⟩ : ByteArray), 0, 0, (⟨#[]⟩ : ByteArray), false, t199))))
end
def tidelineref03_Parse.f (k : Nat) (a0 : ByteArray) : Option (ByteArray × Int × Int × ByteArray × Bool × Int) := (tidelineref03_cut.f k a0 32).bind fun bt181 => ((tidelineref03_cut.f k bt181.2.1 32).bind fun bt184 => ((tidelineref03_cut.f k bt184.1 46).bind fun bt187 => (if bt181.2.2 = true then (if bt184.2.2 = true then (if bt187.2.2 = true then (if bt181.1.toList = ([] : List UInt8) then (tidelineref03_Parse.j0 k bt181.1 bt184.2.1 bt187.1 bt187.2.1 true) else (if 0 < (bt181.1.size : Int) then (if (bt bt181.1 0) = 107 then (tidelineref03_Parse.j0 k bt181.1 bt184.2.1 bt187.1 bt187.2.1 (bt184.2.1.toList == ([] : List UInt8))) else (tidelineref03_Parse.j0 k bt181.1 bt184.2.1 bt187.1 bt187.2.1 true)) else (none))) else (tidelineref03_Parse.j0 k bt181.1 bt184.2.1 bt187.1 bt187.2.1 true)) else (tidelineref03_Parse.j0 k bt181.1 bt184.2.1 bt187.1 bt187.2.1 true)) else (tidelineref03_Parse.j0 k bt181.1 bt184.2.1 bt187.1 bt187.2.1 true))))
theorem tidelineref03_Parse.mono_l : ∀ k, (∀ y0 y1 y2 y3 y4, LeO (tidelineref03_Parse.j0 k y0 y1 y2 y3 y4) (tidelineref03_Parse.j0 (k + 1) y0 y1 y2 y3 y4)) ∧ (∀ y0 y1 y2 y3 y4 y5 y6 y7 y8 y9, LeO (tidelineref03_Parse.j1 k y0 y1 y2 y3 y4 y5 y6 y7 y8 y9) (tidelineref03_Parse.j1 (k + 1) y0 y1 y2 y3 y4 y5 y6 y7 y8 y9)) ∧ (∀ y0 y1 y2 y3 y4 y5 y6, LeO (tidelineref03_Parse.j2 k y0 y1 y2 y3 y4 y5 y6) (tidelineref03_Parse.j2 (k + 1) y0 y1 y2 y3 y4 y5 y6)) ∧ (∀ y0 y1 y2 y3 y4 y5 y6 y7, LeO (tidelineref03_Parse.j3 k y0 y1 y2 y3 y4 y5 y6 y7) (tidelineref03_Parse.j3 (k + 1) y0 y1 y2 y3 y4 y5 y6 y7))
  | 0 => ⟨fun _ _ _ _ _ r h => by simp [tidelineref03_Parse.j0] at h, fun _ _ _ _ _ _ _ _ _ _ r h => by simp [tidelineref03_Parse.j1] at h, fun _ _ _ _ _ _ _ r h => by simp [tidelineref03_Parse.j2] at h, fun _ _ _ _ _ _ _ _ r h => by simp [tidelineref03_Parse.j3] at h⟩
  | k + 1 => by
    obtain ⟨ih0, ih1, ih2, ih3⟩ := tidelineref03_Parse.mono_l k
    refine ⟨?_, ?_, ?_, ?_⟩
    · intro y0 y1 y2 y3 y4
      unfold tidelineref03_Parse.j0
      repeat' first
      | (with_reducible exact ih0 _ _ _ _ _)
      | (with_reducible exact ih1 _ _ _ _ _ _ _ _ _ _)
      | (with_reducible exact ih2 _ _ _ _ _ _ _)
      | (with_reducible exact ih3 _ _ _ _ _ _ _ _)
      | (with_reducible exact tidelineref01_Unhex.mono _ _)
      | (with_reducible exact tidelineref03_cut.mono _ _ _)
      | (with_reducible exact tidelineref03_number.mono _ _)
      | (with_reducible exact LeO.refl _)
      | (with_reducible exact LeO.none _)
      | (with_reducible refine LeO.ite ?_ ?_)
      | (with_reducible refine LeO.bind ?_ (fun _ => ?_))
      | exact ih0 _ _ _ _ _
      | exact ih1 _ _ _ _ _ _ _ _ _ _
      | exact ih2 _ _ _ _ _ _ _
      | exact ih3 _ _ _ _ _ _ _ _
      | exact tidelineref01_Unhex.mono _ _
      | exact tidelineref03_cut.mono _ _ _
      | exact tidelineref03_number.mono _ _
      | exact LeO.none _
      | refine LeO.ite ?_ ?_
      | refine LeO.bind ?_ (fun _ => ?_)
    · intro y0 y1 y2 y3 y4 y5 y6 y7 y8 y9
      unfold tidelineref03_Parse.j1
      repeat' first
      | (with_reducible exact ih0 _ _ _ _ _)
      | (with_reducible exact ih1 _ _ _ _ _ _ _ _ _ _)
      | (with_reducible exact ih2 _ _ _ _ _ _ _)
      | (with_reducible exact ih3 _ _ _ _ _ _ _ _)
      | (with_reducible exact tidelineref01_Unhex.mono _ _)
      | (with_reducible exact tidelineref03_cut.mono _ _ _)
      | (with_reducible exact tidelineref03_number.mono _ _)
      | (with_reducible exact LeO.refl _)
      | (with_reducible exact LeO.none _)
      | (with_reducible refine LeO.ite ?_ ?_)
      | (with_reducible refine LeO.bind ?_ (fun _ => ?_))
      | exact ih0 _ _ _ _ _
      | exact ih1 _ _ _ _ _ _ _ _ _ _
      | exact ih2 _ _ _ _ _ _ _
      | exact ih3 _ _ _ _ _ _ _ _
      | exact tidelineref01_Unhex.mono _ _
      | exact tidelineref03_cut.mono _ _ _
      | exact tidelineref03_number.mono _ _
      | exact LeO.none _
      | refine LeO.ite ?_ ?_
      | refine LeO.bind ?_ (fun _ => ?_)
    · intro y0 y1 y2 y3 y4 y5 y6
      unfold tidelineref03_Parse.j2
      repeat' first
      | (with_reducible exact ih0 _ _ _ _ _)
      | (with_reducible exact ih1 _ _ _ _ _ _ _ _ _ _)
      | (with_reducible exact ih2 _ _ _ _ _ _ _)
      | (with_reducible exact ih3 _ _ _ _ _ _ _ _)
      | (with_reducible exact tidelineref01_Unhex.mono _ _)
      | (with_reducible exact tidelineref03_cut.mono _ _ _)
      | (with_reducible exact tidelineref03_number.mono _ _)
      | (with_reducible exact LeO.refl _)
      | (with_reducible exact LeO.none _)
      | (with_reducible refine LeO.ite ?_ ?_)
      | (with_reducible refine LeO.bind ?_ (fun _ => ?_))
      | exact ih0 _ _ _ _ _
      | exact ih1 _ _ _ _ _ _ _ _ _ _
      | exact ih2 _ _ _ _ _ _ _
      | exact ih3 _ _ _ _ _ _ _ _
      | exact tidelineref01_Unhex.mono _ _
      | exact tidelineref03_cut.mono _ _ _
      | exact tidelineref03_number.mono _ _
      | exact LeO.none _
      | refine LeO.ite ?_ ?_
      | refine LeO.bind ?_ (fun _ => ?_)
    · intro y0 y1 y2 y3 y4 y5 y6 y7
      unfold tidelineref03_Parse.j3
      repeat' first
      | (with_reducible exact ih0 _ _ _ _ _)
      | (with_reducible exact ih1 _ _ _ _ _ _ _ _ _ _)
      | (with_reducible exact ih2 _ _ _ _ _ _ _)
      | (with_reducible exact ih3 _ _ _ _ _ _ _ _)
      | (with_reducible exact tidelineref01_Unhex.mono _ _)
      | (with_reducible exact tidelineref03_cut.mono _ _ _)
      | (with_reducible exact tidelineref03_number.mono _ _)
      | (with_reducible exact LeO.refl _)
      | (with_reducible exact LeO.none _)
      | (with_reducible refine LeO.ite ?_ ?_)
      | (with_reducible refine LeO.bind ?_ (fun _ => ?_))
      | exact ih0 _ _ _ _ _
      | exact ih1 _ _ _ _ _ _ _ _ _ _
      | exact ih2 _ _ _ _ _ _ _
      | exact ih3 _ _ _ _ _ _ _ _
      | exact tidelineref01_Unhex.mono _ _
      | exact tidelineref03_cut.mono _ _ _
      | exact tidelineref03_number.mono _ _
      | exact LeO.none _
      | refine LeO.ite ?_ ?_
      | refine LeO.bind ?_ (fun _ => ?_)
theorem tidelineref03_Parse.mono : ∀ a0 k, LeO (tidelineref03_Parse.f k a0) (tidelineref03_Parse.f (k + 1) a0) := by
  intro a0 k
  obtain ⟨ih0, ih1, ih2, ih3⟩ := tidelineref03_Parse.mono_l k
  unfold tidelineref03_Parse.f
  repeat' first
      | (with_reducible exact ih0 _ _ _ _ _)
      | (with_reducible exact ih1 _ _ _ _ _ _ _ _ _ _)
      | (with_reducible exact ih2 _ _ _ _ _ _ _)
      | (with_reducible exact ih3 _ _ _ _ _ _ _ _)
      | (with_reducible exact tidelineref01_Unhex.mono _ _)
      | (with_reducible exact tidelineref03_cut.mono _ _ _)
      | (with_reducible exact tidelineref03_number.mono _ _)
      | (with_reducible exact LeO.refl _)
      | (with_reducible exact LeO.none _)
      | (with_reducible refine LeO.ite ?_ ?_)
      | (with_reducible refine LeO.bind ?_ (fun _ => ?_))
      | exact ih0 _ _ _ _ _
      | exact ih1 _ _ _ _ _ _ _ _ _ _
      | exact ih2 _ _ _ _ _ _ _
      | exact ih3 _ _ _ _ _ _ _ _
      | exact tidelineref01_Unhex.mono _ _
      | exact tidelineref03_cut.mono _ _ _
      | exact tidelineref03_number.mono _ _
      | exact LeO.none _
      | refine LeO.ite ?_ ?_
      | refine LeO.bind ?_ (fun _ => ?_)
set_option maxHeartbeats 8000000 in
set_option maxRecDepth 100000 in
theorem tidelineref03_Parse.calls (k : Nat) (a0 : ByteArray) (r1 : ByteArray) (r2 : Int) (r3 : Int) (r4 : ByteArray) (r5 : Bool) (r6 : Int) (w : World) (h : tidelineref03_Parse.f k a0 = some (r1, r2, r3, r4, r5, r6)) :
    Calls Tryd.prog 8 #[.string a0] w fun e w' => e = .returned (.tuple #[.agg #[.string r1, .int .i64 r2, .int .i64 r3, .string r4, .bool r5], .int .i64 r6]) ∧ Below w.heap.size w w' := by
  have hu25 := Tryd.underlying25
  have hu23 := Tryd.underlying23
  have HB := Aside0.mk (Below.refl w.heap.size w)
  have H : ((tidelineref03_cut.f k a0 32).bind fun bt181 => ((tidelineref03_cut.f k bt181.2.1 32).bind fun bt184 => ((tidelineref03_cut.f k bt184.1 46).bind fun bt187 => (if bt181.2.2 = true then (if bt184.2.2 = true then (if bt187.2.2 = true then (if bt181.1.toList = ([] : List UInt8) then (tidelineref03_Parse.j0 k bt181.1 bt184.2.1 bt187.1 bt187.2.1 true) else (if 0 < (bt181.1.size : Int) then (if (bt bt181.1 0) = 107 then (tidelineref03_Parse.j0 k bt181.1 bt184.2.1 bt187.1 bt187.2.1 (bt184.2.1.toList == ([] : List UInt8))) else (tidelineref03_Parse.j0 k bt181.1 bt184.2.1 bt187.1 bt187.2.1 true)) else (none))) else (tidelineref03_Parse.j0 k bt181.1 bt184.2.1 bt187.1 bt187.2.1 true)) else (tidelineref03_Parse.j0 k bt181.1 bt184.2.1 bt187.1 bt187.2.1 true)) else (tidelineref03_Parse.j0 k bt181.1 bt184.2.1 bt187.1 bt187.2.1 true))))) = some (r1, r2, r3, r4, r5, r6) := h
  clear h
  replace H := Option.bind_eq_some_iff.mp H
  obtain ⟨⟨t181, t182, t183⟩, A20, H⟩ := H
  replace H : ((tidelineref03_cut.f k t182 32).bind fun bt184 => ((tidelineref03_cut.f k bt184.1 46).bind fun bt187 => (if t183 = true then (if bt184.2.2 = true then (if bt187.2.2 = true then (if t181.toList = ([] : List UInt8) then (tidelineref03_Parse.j0 k t181 bt184.2.1 bt187.1 bt187.2.1 true) else (if 0 < (t181.size : Int) then (if (bt t181 0) = 107 then (tidelineref03_Parse.j0 k t181 bt184.2.1 bt187.1 bt187.2.1 (bt184.2.1.toList == ([] : List UInt8))) else (tidelineref03_Parse.j0 k t181 bt184.2.1 bt187.1 bt187.2.1 true)) else (none))) else (tidelineref03_Parse.j0 k t181 bt184.2.1 bt187.1 bt187.2.1 true)) else (tidelineref03_Parse.j0 k t181 bt184.2.1 bt187.1 bt187.2.1 true)) else (tidelineref03_Parse.j0 k t181 bt184.2.1 bt187.1 bt187.2.1 true)))) = some (r1, r2, r3, r4, r5, r6) := H
  have A2 := Aside0.mk A20
  clear A20
  replace H := Option.bind_eq_some_iff.mp H
  obtain ⟨⟨t184, t185, t186⟩, A30, H⟩ := H
  replace H : ((tidelineref03_cut.f k t184 46).bind fun bt187 => (if t183 = true then (if t186 = true then (if bt187.2.2 = true then (if t181.toList = ([] : List UInt8) then (tidelineref03_Parse.j0 k t181 t185 bt187.1 bt187.2.1 true) else (if 0 < (t181.size : Int) then (if (bt t181 0) = 107 then (tidelineref03_Parse.j0 k t181 t185 bt187.1 bt187.2.1 (t185.toList == ([] : List UInt8))) else (tidelineref03_Parse.j0 k t181 t185 bt187.1 bt187.2.1 true)) else (none))) else (tidelineref03_Parse.j0 k t181 t185 bt187.1 bt187.2.1 true)) else (tidelineref03_Parse.j0 k t181 t185 bt187.1 bt187.2.1 true)) else (tidelineref03_Parse.j0 k t181 t185 bt187.1 bt187.2.1 true))) = some (r1, r2, r3, r4, r5, r6) := H
  have A3 := Aside0.mk A30
  clear A30
  replace H := Option.bind_eq_some_iff.mp H
  obtain ⟨⟨t187, t188, t189⟩, A40, H⟩ := H
  replace H : (if t183 = true then (if t186 = true then (if t189 = true then (if t181.toList = ([] : List UInt8) then (tidelineref03_Parse.j0 k t181 t185 t187 t188 true) else (if 0 < (t181.size : Int) then (if (bt t181 0) = 107 then (tidelineref03_Parse.j0 k t181 t185 t187 t188 (t185.toList == ([] : List UInt8))) else (tidelineref03_Parse.j0 k t181 t185 t187 t188 true)) else (none))) else (tidelineref03_Parse.j0 k t181 t185 t187 t188 true)) else (tidelineref03_Parse.j0 k t181 t185 t187 t188 true)) else (tidelineref03_Parse.j0 k t181 t185 t187 t188 true)) = some (r1, r2, r3, r4, r5, r6) := H
  have A4 := Aside0.mk A40
  clear A40
  have HC5 := Aside0.mk H
  clear H
  go_enter Tryd.func8, Tryd.ntmps8
  go_upto_region 4 with (first | ((with_reducible refine gate_dst (N := 2) rfl ?_); refine box_event ?hg (N := 2) ?hd (cs := #[.string (⟨#[]⟩ : ByteArray), .int .i64 0, .int .i64 0, .string (⟨#[]⟩ : ByteArray), .bool false]) (t := 25) ?hr ?_; (case hd => rfl); (case hg => rfl); (case hr => first | (go_simp; done) | (go_simp; rfl)); intro gb180 hg w6 hbox hb; have n0_ := Aside0.mk (below_step (by repeat (first | (with_reducible first | exact HB.out | apply below_alloc | apply pw_below_drewN | apply below_drew1) | exact HB.out)) hb); have n1_ := Aside0.mk (hbox); have n2_ := Aside0.mk ((by rw [hg]; exact (below_size (by repeat (first | (with_reducible first | exact HB.out | apply below_alloc | apply pw_below_drewN | apply below_drew1) | exact HB.out))) : w.heap.size ≤ gb180)); have n3_ := Aside0.mk ((by rw [hg]; exact (below_size (by repeat (first | (with_reducible first | exact HB.out | apply below_alloc | apply pw_below_drewN | apply below_drew1) | exact HB.out))) : w.heap.size ≤ gb180)); clear HB; have HB := n0_; have BK180 := n1_; have GW180 := n2_; have GE180 := n3_; clear n0_ n1_ n2_ n3_; clear hb hbox hg) | ((with_reducible refine gate_callee (f := 16) rfl ?_); refine goesL_ (some 25) rfl rfl Tryd.func16 (by kernel_rfl) rfl #[.string a0, .int .u8 32] rfl (by (try simp only [List.map_toArray, List.map_cons, List.map_nil]); first | done | rfl | (simp only [List.length_drop, List.length_take]; rfl)) ?_; (with_reducible refine (tidelineref03_cut.calls k a0 32 t181 t182 t183 _ A2.out).mono ?_); rintro e w' ⟨rfl, ⟨nd, rfl⟩⟩; refine ⟨_, rfl, ?_⟩) | ((with_reducible refine gate_callee (f := 16) rfl ?_); refine goesL_ (some 31) rfl rfl Tryd.func16 (by kernel_rfl) rfl #[.string t182, .int .u8 32] rfl (by (try simp only [List.map_toArray, List.map_cons, List.map_nil]); first | done | rfl | (simp only [List.length_drop, List.length_take]; rfl)) ?_; (with_reducible refine (tidelineref03_cut.calls k t182 32 t184 t185 t186 _ A3.out).mono ?_); rintro e w' ⟨rfl, ⟨nd, rfl⟩⟩; refine ⟨_, rfl, ?_⟩) | ((with_reducible refine gate_callee (f := 16) rfl ?_); refine goesL_ (some 37) rfl rfl Tryd.func16 (by kernel_rfl) rfl #[.string t184, .int .u8 46] rfl (by (try simp only [List.map_toArray, List.map_cons, List.map_nil]); first | done | rfl | (simp only [List.length_drop, List.length_take]; rfl)) ?_; (with_reducible refine (tidelineref03_cut.calls k t184 46 t187 t188 t189 _ A4.out).mono ?_); rintro e w' ⟨rfl, ⟨nd, rfl⟩⟩; refine ⟨_, rfl, ?_⟩))
  (try simp only [Act.put, List.setIfInBounds_toArray, List.set_cons_zero, List.set_cons_succ])
  go_cut [63] (fun v63 wc => ∃ (kq : Nat) (x63_4 : Bool), v63 = .bool x63_4 ∧ Aside0 (tidelineref03_Parse.j0 kq t181 t185 t187 t188 x63_4 = some (r1, r2, r3, r4, r5, r6)) ∧ Aside0 (kq ≤ k) ∧ Aside0 (wc.heap[gb180]? = some (.cells #[.string (⟨#[]⟩ : ByteArray), .int .i64 0, .int .i64 0, .string (⟨#[]⟩ : ByteArray), .bool false] 25 (0, 0))) ∧ Aside0 (Below w.heap.size w wc))
  case first =>
    have H := HC5.out
    clear HC5
    by_cases c7 : t183 = true
    · subst c7
      have H1 : (if t186 = true then (if t189 = true then (if t181.toList = ([] : List UInt8) then (tidelineref03_Parse.j0 k t181 t185 t187 t188 true) else (if 0 < (t181.size : Int) then (if (bt t181 0) = 107 then (tidelineref03_Parse.j0 k t181 t185 t187 t188 (t185.toList == ([] : List UInt8))) else (tidelineref03_Parse.j0 k t181 t185 t187 t188 true)) else (none))) else (tidelineref03_Parse.j0 k t181 t185 t187 t188 true)) else (tidelineref03_Parse.j0 k t181 t185 t187 t188 true)) = some (r1, r2, r3, r4, r5, r6) := by rw [if_pos rfl] at H; exact H
      clear H
      have H := H1
      clear H1
      by_cases c8 : t186 = true
      · subst c8
        have H1 : (if t189 = true then (if t181.toList = ([] : List UInt8) then (tidelineref03_Parse.j0 k t181 t185 t187 t188 true) else (if 0 < (t181.size : Int) then (if (bt t181 0) = 107 then (tidelineref03_Parse.j0 k t181 t185 t187 t188 (t185.toList == ([] : List UInt8))) else (tidelineref03_Parse.j0 k t181 t185 t187 t188 true)) else (none))) else (tidelineref03_Parse.j0 k t181 t185 t187 t188 true)) = some (r1, r2, r3, r4, r5, r6) := by rw [if_pos rfl] at H; exact H
        clear H
        have H := H1
        clear H1
        by_cases c9 : t189 = true
        · subst c9
          have H1 : (if t181.toList = ([] : List UInt8) then (tidelineref03_Parse.j0 k t181 t185 t187 t188 true) else (if 0 < (t181.size : Int) then (if (bt t181 0) = 107 then (tidelineref03_Parse.j0 k t181 t185 t187 t188 (t185.toList == ([] : List UInt8))) else (tidelineref03_Parse.j0 k t181 t185 t187 t188 true)) else (none))) = some (r1, r2, r3, r4, r5, r6) := by rw [if_pos rfl] at H; exact H
          clear H
          have H := H1
          clear H1
          by_cases c10 : t181.toList = ([] : List UInt8)
          · rw [if_pos c10] at H
            have c10b0 : (t181.toList == ([] : List UInt8)) = true := beq_iff_eq.mpr c10
            (try (have c10b8 := c10b0; simp only [List.beq_nil_eq] at c10b8))
            have c10b1 : (t181.toList != ([] : List UInt8)) = false := bne_eq_false_iff_eq.mpr c10
            clear c10
            (first | rw [c10b0] | (simp only [i64_w, i32_w]; rw [c10b0]) | skip)
            have H' := Aside0.mk H
            clear H
            go_wp2
            go_meet
            case rel => exact ⟨_, (true), (by first | rfl | (simp; done) | (simp [*]; done) | (simp [*, Go.Proofs.YthnjlbdkcpgcjaaDoor.Str.bne_nil]; done)), H', ⟨by first | omega | exact Nat.le_refl _⟩, ⟨by (with_reducible repeat (first | refine blk_drewN ?_ _ | refine blk_drew ?_ | refine blk_alloc ?_ _)); exact BK180.out⟩, ⟨by repeat (first | (with_reducible first | exact HB.out | apply below_alloc | apply pw_below_drewN | apply below_drew1 | refine below_set ?_ GE180.out) | exact HB.out)⟩⟩
          · rw [if_neg c10] at H
            have c10b0 : (t181.toList == ([] : List UInt8)) = false := beq_eq_false_iff_ne.mpr c10
            (try (have c10b8 := c10b0; simp only [List.beq_nil_eq] at c10b8))
            have c10b1 : (t181.toList != ([] : List UInt8)) = true := bne_iff_ne.mpr c10
            (first | rw [c10b0] | (simp only [i64_w, i32_w]; rw [c10b0]) | skip)
            by_cases c11 : 0 < (t181.size : Int)
            · rw [if_pos c11] at H
              have c11b0 : decide (0 < (t181.size : Int)) = true := decide_eq_true c11
              have c11b1 : decide (0 < t181.size) = true := decide_eq_true (by omega)
              clear c11
              by_cases c13 : (bt t181 0) = 107
              · rw [if_pos c13] at H
                have c13b0 : ((bt t181 0) == 107) = true := beq_iff_eq.mpr c13
                have c13b1 : ((bt t181 0) != 107) = false := bne_eq_false_iff_eq.mpr c13
                clear c13
                have H' := Aside0.mk H
                clear H
                have p12 : 0 ≤ (0 : Int) := (by omega)
                have q12 : 0 < t181.size := (by have : (0 : Int) < (t181.size : Int) := of_decide_eq_true (by first | (with_reducible assumption) | assumption); omega)
                have hx12 : ∀ h : 0 < t181.size, ((t181[0]'h).toNat : Int) = bt t181 0 := bt_at t181 0
                clear p12
                have qi12 : (0 < (t181.size : Int)) = True := eq_true (of_decide_eq_true (by first | (with_reducible assumption) | assumption))
                replace q12 := eq_true q12
                go_wp2
                go_meet
                case rel => exact ⟨_, ((t185.toList == ([] : List UInt8))), (by first | rfl | (simp; done) | (simp [*]; done) | (simp [*, Go.Proofs.YthnjlbdkcpgcjaaDoor.Str.bne_nil]; done)), H', ⟨by first | omega | exact Nat.le_refl _⟩, ⟨by (with_reducible repeat (first | refine blk_drewN ?_ _ | refine blk_drew ?_ | refine blk_alloc ?_ _)); exact BK180.out⟩, ⟨by repeat (first | (with_reducible first | exact HB.out | apply below_alloc | apply pw_below_drewN | apply below_drew1 | refine below_set ?_ GE180.out) | exact HB.out)⟩⟩
              · rw [if_neg c13] at H
                have c13b0 : ((bt t181 0) == 107) = false := beq_eq_false_iff_ne.mpr c13
                have c13b1 : ((bt t181 0) != 107) = true := bne_iff_ne.mpr c13
                have H' := Aside0.mk H
                clear H
                have p12 : 0 ≤ (0 : Int) := (by omega)
                have q12 : 0 < t181.size := (by have : (0 : Int) < (t181.size : Int) := of_decide_eq_true (by first | (with_reducible assumption) | assumption); omega)
                have hx12 : ∀ h : 0 < t181.size, ((t181[0]'h).toNat : Int) = bt t181 0 := bt_at t181 0
                clear p12
                have qi12 : (0 < (t181.size : Int)) = True := eq_true (of_decide_eq_true (by first | (with_reducible assumption) | assumption))
                replace q12 := eq_true q12
                go_wp2
                go_meet
                case rel => exact ⟨_, (true), (by first | rfl | (simp; done) | (simp [*]; done) | (simp [*, Go.Proofs.YthnjlbdkcpgcjaaDoor.Str.bne_nil]; done)), H', ⟨by first | omega | exact Nat.le_refl _⟩, ⟨by (with_reducible repeat (first | refine blk_drewN ?_ _ | refine blk_drew ?_ | refine blk_alloc ?_ _)); exact BK180.out⟩, ⟨by repeat (first | (with_reducible first | exact HB.out | apply below_alloc | apply pw_below_drewN | apply below_drew1 | refine below_set ?_ GE180.out) | exact HB.out)⟩⟩
            · rw [if_neg c11] at H
              exact absurd H (by simp)
        · replace c9 := Bool.eq_false_iff.mpr c9
          subst c9
          have H1 : (tidelineref03_Parse.j0 k t181 t185 t187 t188 true) = some (r1, r2, r3, r4, r5, r6) := by rw [if_neg (show ¬ (false = true) by decide)] at H; exact H
          clear H
          have H := H1
          clear H1
          have H' := Aside0.mk H
          clear H
          go_wp2
          go_meet
          case rel => exact ⟨_, (true), (by first | rfl | (simp; done) | (simp [*]; done) | (simp [*, Go.Proofs.YthnjlbdkcpgcjaaDoor.Str.bne_nil]; done)), H', ⟨by first | omega | exact Nat.le_refl _⟩, ⟨by (with_reducible repeat (first | refine blk_drewN ?_ _ | refine blk_drew ?_ | refine blk_alloc ?_ _)); exact BK180.out⟩, ⟨by repeat (first | (with_reducible first | exact HB.out | apply below_alloc | apply pw_below_drewN | apply below_drew1 | refine below_set ?_ GE180.out) | exact HB.out)⟩⟩
      · replace c8 := Bool.eq_false_iff.mpr c8
        subst c8
        have H1 : (tidelineref03_Parse.j0 k t181 t185 t187 t188 true) = some (r1, r2, r3, r4, r5, r6) := by rw [if_neg (show ¬ (false = true) by decide)] at H; exact H
        clear H
        have H := H1
        clear H1
        have H' := Aside0.mk H
        clear H
        go_wp2
        go_meet
        case rel => exact ⟨_, (true), (by first | rfl | (simp; done) | (simp [*]; done) | (simp [*, Go.Proofs.YthnjlbdkcpgcjaaDoor.Str.bne_nil]; done)), H', ⟨by first | omega | exact Nat.le_refl _⟩, ⟨by (with_reducible repeat (first | refine blk_drewN ?_ _ | refine blk_drew ?_ | refine blk_alloc ?_ _)); exact BK180.out⟩, ⟨by repeat (first | (with_reducible first | exact HB.out | apply below_alloc | apply pw_below_drewN | apply below_drew1 | refine below_set ?_ GE180.out) | exact HB.out)⟩⟩
    · replace c7 := Bool.eq_false_iff.mpr c7
      subst c7
      have H1 : (tidelineref03_Parse.j0 k t181 t185 t187 t188 true) = some (r1, r2, r3, r4, r5, r6) := by rw [if_neg (show ¬ (false = true) by decide)] at H; exact H
      clear H
      have H := H1
      clear H1
      have H' := Aside0.mk H
      clear H
      go_wp2
      go_meet
      case rel => exact ⟨_, (true), (by first | rfl | (simp; done) | (simp [*]; done) | (simp [*, Go.Proofs.YthnjlbdkcpgcjaaDoor.Str.bne_nil]; done)), H', ⟨by first | omega | exact Nat.le_refl _⟩, ⟨by (with_reducible repeat (first | refine blk_drewN ?_ _ | refine blk_drew ?_ | refine blk_alloc ?_ _)); exact BK180.out⟩, ⟨by repeat (first | (with_reducible first | exact HB.out | apply below_alloc | apply pw_below_drewN | apply below_drew1 | refine below_set ?_ GE180.out) | exact HB.out)⟩⟩
  case rest =>
    clear HC5
    try clear c1
    try clear p1
    try clear q1
    try clear hx1
    try clear qi1
    try clear p2
    try clear c7
    try clear c8
    try clear c9
    try clear c10
    try clear c10b0
    try clear c10b1
    try clear c11
    try clear c11b0
    try clear c11b1
    try clear p12
    try clear q12
    try clear hx12
    try clear qi12
    try clear c13
    try clear c13b0
    try clear c13b1
    try clear p12
    try clear q12
    obtain ⟨kq, x63_4, rfl, HA, HJ4, BK180, HB⟩ := hcut
    cases kq with
    | zero => exact absurd HA.out (by simp [tidelineref03_Parse.j0])
    | succ kj4 =>
      have H := HA.out
      clear HA
      simp only [tidelineref03_Parse.j0] at H
      by_cases c14 : x63_4 = true
      · subst c14
        have H1 : (some ((⟨#[]⟩ : ByteArray), 0, 0, (⟨#[]⟩ : ByteArray), false, 23)) = some (r1, r2, r3, r4, r5, r6) := by rw [if_pos rfl] at H; exact H
        clear H
        have H := H1
        clear H1
        simp only [Option.some.injEq, Prod.mk.injEq] at H
        obtain ⟨rfl, rfl, rfl, rfl, rfl, rfl⟩ := H
        have hcz15_0 : wc.cell? ⟨gb180, 0, none⟩ = some (.string (⟨#[]⟩ : ByteArray)) := (blk_cell BK180.out 0).trans rfl
        have hcz15_1 : wc.cell? ⟨gb180, 1, none⟩ = some (.int .i64 0) := (blk_cell BK180.out 1).trans rfl
        have hcz15_2 : wc.cell? ⟨gb180, 2, none⟩ = some (.int .i64 0) := (blk_cell BK180.out 2).trans rfl
        have hcz15_3 : wc.cell? ⟨gb180, 3, none⟩ = some (.string (⟨#[]⟩ : ByteArray)) := (blk_cell BK180.out 3).trans rfl
        have hcz15_4 : wc.cell? ⟨gb180, 4, none⟩ = some (.bool false) := (blk_cell BK180.out 4).trans rfl
        have hfz15_0 := blk_frozen BK180.out 0
        have hfz15_1 := blk_frozen BK180.out 1
        have hfz15_2 := blk_frozen BK180.out 2
        have hfz15_3 := blk_frozen BK180.out 3
        have hfz15_4 := blk_frozen BK180.out 4
        go_wp2
        refine bodyPost_ret (results_ct rfl _ _ gb180 25 #[.string (⟨#[]⟩ : ByteArray), .int .i64 0, .int .i64 0, .string (⟨#[]⟩ : ByteArray), .bool false] (0, 0) _ rfl (by (with_reducible repeat (first | refine blk_drewN ?_ _ | refine blk_drew ?_ | refine blk_alloc ?_ _)); refine blk_put (cs := #[.string (⟨#[]⟩ : ByteArray), .int .i64 0, .int .i64 0, .string (⟨#[]⟩ : ByteArray), .bool false]) ?_ 4 _ (by first | rfl | simp [*]); (with_reducible repeat (first | refine blk_drewN ?_ _ | refine blk_drew ?_ | refine blk_alloc ?_ _)); refine blk_put (cs := #[.string (⟨#[]⟩ : ByteArray), .int .i64 0, .int .i64 0, .string (⟨#[]⟩ : ByteArray), .bool false]) ?_ 3 _ (by first | rfl | simp [*]); (with_reducible repeat (first | refine blk_drewN ?_ _ | refine blk_drew ?_ | refine blk_alloc ?_ _)); refine blk_put (cs := #[.string (⟨#[]⟩ : ByteArray), .int .i64 0, .int .i64 0, .string (⟨#[]⟩ : ByteArray), .bool false]) ?_ 2 _ (by first | rfl | simp [*]); (with_reducible repeat (first | refine blk_drewN ?_ _ | refine blk_drew ?_ | refine blk_alloc ?_ _)); refine blk_put (cs := #[.string (⟨#[]⟩ : ByteArray), .int .i64 0, .int .i64 0, .string (⟨#[]⟩ : ByteArray), .bool false]) ?_ 1 _ (by first | rfl | simp [*]); (with_reducible repeat (first | refine blk_drewN ?_ _ | refine blk_drew ?_ | refine blk_alloc ?_ _)); refine blk_put (cs := #[.string (⟨#[]⟩ : ByteArray), .int .i64 0, .int .i64 0, .string (⟨#[]⟩ : ByteArray), .bool false]) ?_ 0 _ (by first | rfl | simp [*]); (with_reducible repeat (first | refine blk_drewN ?_ _ | refine blk_drew ?_ | refine blk_alloc ?_ _)); exact BK180.out) Tryd.underlying25 rfl (by kernel_rfl)) rfl ?_
        exact ⟨by first | rfl | (simp [errW_none, errW_some] <;> rfl) | (simp [*, errW_none, errW_some] <;> rfl), by repeat (first | (with_reducible first | exact HB.out | apply below_alloc | apply pw_below_drewN | apply below_drew1 | refine below_set ?_ GE180.out) | exact HB.out)⟩
      · replace c14 := Bool.eq_false_iff.mpr c14
        subst c14
        have H1 : (if (t185.toList = ([120] : List UInt8)) then (tidelineref03_Parse.j1 kj4 t181 t185 t187 t188 false (⟨#[]⟩ : ByteArray) 0 0 (⟨#[]⟩ : ByteArray) (t185.toList == ([120] : List UInt8))) else (if 0 < (t185.size : Int) then (tidelineref03_Parse.j1 kj4 t181 t185 t187 t188 ((bt t185 0) != 61) (⟨#[]⟩ : ByteArray) 0 0 (⟨#[]⟩ : ByteArray) (t185.toList == ([120] : List UInt8))) else (none))) = some (r1, r2, r3, r4, r5, r6) := by rw [if_neg (show ¬ (false = true) by decide)] at H; exact H
        clear H
        have H := H1
        clear H1
        have HC16 := Aside0.mk H
        clear H
        go_upto_region 7 with (first | ((with_reducible refine gate_dst (N := 13) rfl ?_); refine box_event ?hg (N := 13) ?hd (cs := #[.string (⟨#[]⟩ : ByteArray), .int .i64 0, .int .i64 0, .string (⟨#[]⟩ : ByteArray), .bool false]) (t := 25) ?hr ?_; (case hd => rfl); (case hg => rfl); (case hr => first | (go_simp; done) | (go_simp; rfl)); intro gb190 hg w17 hbox hb; have n0_ := Aside0.mk (blk_below (g := gb180) (o := .cells #[.string (⟨#[]⟩ : ByteArray), .int .i64 0, .int .i64 0, .string (⟨#[]⟩ : ByteArray), .bool false] 25 (0, 0)) (by (with_reducible repeat (first | refine blk_drewN ?_ _ | refine blk_drew ?_ | refine blk_alloc ?_ _)); exact BK180.out) hb); have n1_ := Aside0.mk (below_step (by repeat (first | (with_reducible first | exact HB.out | apply below_alloc | apply pw_below_drewN | apply below_drew1 | refine below_set ?_ GE180.out) | exact HB.out)) hb); have n2_ := Aside0.mk (hbox); have n3_ := Aside0.mk ((by rw [hg]; exact (below_size (by repeat (first | (with_reducible first | exact HB.out | apply below_alloc | apply pw_below_drewN | apply below_drew1 | refine below_set ?_ GE180.out) | exact HB.out))) : w.heap.size ≤ gb190)); have n4_ := Aside0.mk ((by rw [hg]; exact (below_size (by repeat (first | (with_reducible first | exact HB.out | apply below_alloc | apply pw_below_drewN | apply below_drew1 | refine below_set ?_ GE180.out) | exact HB.out))) : w.heap.size ≤ gb190)); have n5_ := Aside0.mk ((by rw [hg]; exact Nat.ne_of_lt (blk_lt (g := gb180) (o := .cells #[.string (⟨#[]⟩ : ByteArray), .int .i64 0, .int .i64 0, .string (⟨#[]⟩ : ByteArray), .bool false] 25 (0, 0)) (by (with_reducible repeat (first | refine blk_drewN ?_ _ | refine blk_drew ?_ | refine blk_alloc ?_ _)); exact BK180.out)) : gb180 ≠ gb190)); have n6_ := Aside0.mk ((by rw [hg]; exact Nat.ne_of_gt (blk_lt (g := gb180) (o := .cells #[.string (⟨#[]⟩ : ByteArray), .int .i64 0, .int .i64 0, .string (⟨#[]⟩ : ByteArray), .bool false] 25 (0, 0)) (by (with_reducible repeat (first | refine blk_drewN ?_ _ | refine blk_drew ?_ | refine blk_alloc ?_ _)); exact BK180.out)) : gb190 ≠ gb180)); clear BK180; clear HB; have BK180 := n0_; have HB := n1_; have BK190 := n2_; have GW190 := n3_; have GE190 := n4_; have NB180_190 := n5_; have NB190_180 := n6_; clear n0_ n1_ n2_ n3_ n4_ n5_ n6_; clear hb hbox hg; have hnb18 := NB190_180.out; have hnc18 := NB180_190.out; have hcz19_0 : w17.cell? ⟨gb190, 0, none⟩ = some (.string (⟨#[]⟩ : ByteArray)) := (blk_cell BK190.out 0).trans rfl; have hcz19_1 : w17.cell? ⟨gb190, 1, none⟩ = some (.int .i64 0) := (blk_cell BK190.out 1).trans rfl; have hcz19_2 : w17.cell? ⟨gb190, 2, none⟩ = some (.int .i64 0) := (blk_cell BK190.out 2).trans rfl; have hcz19_3 : w17.cell? ⟨gb190, 3, none⟩ = some (.string (⟨#[]⟩ : ByteArray)) := (blk_cell BK190.out 3).trans rfl; have hcz19_4 : w17.cell? ⟨gb190, 4, none⟩ = some (.bool false) := (blk_cell BK190.out 4).trans rfl; have hfz19_0 := blk_frozen BK190.out 0; have hfz19_1 := blk_frozen BK190.out 1; have hfz19_2 := blk_frozen BK190.out 2; have hfz19_3 := blk_frozen BK190.out 3; have hfz19_4 := blk_frozen BK190.out 4))
        (try simp only [Act.put, List.setIfInBounds_toArray, List.set_cons_zero, List.set_cons_succ])
        go_cut [75] (fun v75 wc => ∃ (kq : Nat) (x75_15 : Bool), v75 = .bool x75_15 ∧ Aside0 (tidelineref03_Parse.j1 kq t181 t185 t187 t188 x75_15 (⟨#[]⟩ : ByteArray) 0 0 (⟨#[]⟩ : ByteArray) (t185.toList == ([120] : List UInt8)) = some (r1, r2, r3, r4, r5, r6)) ∧ Aside0 (kq ≤ kj4) ∧ Aside0 (wc.heap[gb180]? = some (.cells #[.string (⟨#[]⟩ : ByteArray), .int .i64 0, .int .i64 0, .string (⟨#[]⟩ : ByteArray), .bool false] 25 (0, 0))) ∧ Aside0 (wc.heap[gb190]? = some (.cells #[.string (⟨#[]⟩ : ByteArray), .int .i64 0, .int .i64 0, .string (⟨#[]⟩ : ByteArray), .bool (t185.toList == ([120] : List UInt8))] 25 (0, 0))) ∧ Aside0 (Below w.heap.size w wc))
        case first =>
          have H := HC16.out
          clear HC16
          by_cases c20 : (t185.toList = ([120] : List UInt8))
          · rw [if_pos c20] at H
            have c20b0 : (t185.toList == ([120] : List UInt8)) = true := beq_iff_eq.mpr c20
            have c20b1 : (t185.toList != ([120] : List UInt8)) = false := bne_eq_false_iff_eq.mpr c20
            clear c20
            (first | rw [c20b0] | (simp only [i64_w, i32_w]; rw [c20b0]) | skip)
            have H' := Aside0.mk H
            clear H
            have hnb21 := NB190_180.out
            have hnc21 := NB180_190.out
            have hcz22_0 : w17.cell? ⟨gb190, 0, none⟩ = some (.string (⟨#[]⟩ : ByteArray)) := (blk_cell BK190.out 0).trans rfl
            have hcz22_1 : w17.cell? ⟨gb190, 1, none⟩ = some (.int .i64 0) := (blk_cell BK190.out 1).trans rfl
            have hcz22_2 : w17.cell? ⟨gb190, 2, none⟩ = some (.int .i64 0) := (blk_cell BK190.out 2).trans rfl
            have hcz22_3 : w17.cell? ⟨gb190, 3, none⟩ = some (.string (⟨#[]⟩ : ByteArray)) := (blk_cell BK190.out 3).trans rfl
            have hcz22_4 : w17.cell? ⟨gb190, 4, none⟩ = some (.bool false) := (blk_cell BK190.out 4).trans rfl
            have hfz22_0 := blk_frozen BK190.out 0
            have hfz22_1 := blk_frozen BK190.out 1
            have hfz22_2 := blk_frozen BK190.out 2
            have hfz22_3 := blk_frozen BK190.out 3
            have hfz22_4 := blk_frozen BK190.out 4
            go_wp2
            go_meet
            case rel => exact ⟨_, (false), (by first | rfl | (simp; done) | (simp [*]; done) | (simp [*, Go.Proofs.YthnjlbdkcpgcjaaDoor.Str.bne_nil]; done)), H', ⟨by have := HJ4.out; first | omega | exact Nat.le_refl _⟩, ⟨by (with_reducible repeat (first | refine blk_drewN ?_ _ | refine blk_drew ?_ | refine blk_alloc ?_ _)); refine blk_far ?_ NB180_190.out _; (with_reducible repeat (first | refine blk_drewN ?_ _ | refine blk_drew ?_ | refine blk_alloc ?_ _)); refine blk_far ?_ NB180_190.out _; (with_reducible repeat (first | refine blk_drewN ?_ _ | refine blk_drew ?_ | refine blk_alloc ?_ _)); refine blk_far ?_ NB180_190.out _; (with_reducible repeat (first | refine blk_drewN ?_ _ | refine blk_drew ?_ | refine blk_alloc ?_ _)); refine blk_far ?_ NB180_190.out _; (with_reducible repeat (first | refine blk_drewN ?_ _ | refine blk_drew ?_ | refine blk_alloc ?_ _)); refine blk_far ?_ NB180_190.out _; (with_reducible repeat (first | refine blk_drewN ?_ _ | refine blk_drew ?_ | refine blk_alloc ?_ _)); exact BK180.out⟩, ⟨by (with_reducible repeat (first | refine blk_drewN ?_ _ | refine blk_drew ?_ | refine blk_alloc ?_ _)); refine blk_put (cs := #[.string (⟨#[]⟩ : ByteArray), .int .i64 0, .int .i64 0, .string (⟨#[]⟩ : ByteArray), .bool false]) ?_ 4 _ (by first | rfl | simp [*]); (with_reducible repeat (first | refine blk_drewN ?_ _ | refine blk_drew ?_ | refine blk_alloc ?_ _)); refine blk_put (cs := #[.string (⟨#[]⟩ : ByteArray), .int .i64 0, .int .i64 0, .string (⟨#[]⟩ : ByteArray), .bool false]) ?_ 3 _ (by first | rfl | simp [*]); (with_reducible repeat (first | refine blk_drewN ?_ _ | refine blk_drew ?_ | refine blk_alloc ?_ _)); refine blk_put (cs := #[.string (⟨#[]⟩ : ByteArray), .int .i64 0, .int .i64 0, .string (⟨#[]⟩ : ByteArray), .bool false]) ?_ 2 _ (by first | rfl | simp [*]); (with_reducible repeat (first | refine blk_drewN ?_ _ | refine blk_drew ?_ | refine blk_alloc ?_ _)); refine blk_put (cs := #[.string (⟨#[]⟩ : ByteArray), .int .i64 0, .int .i64 0, .string (⟨#[]⟩ : ByteArray), .bool false]) ?_ 1 _ (by first | rfl | simp [*]); (with_reducible repeat (first | refine blk_drewN ?_ _ | refine blk_drew ?_ | refine blk_alloc ?_ _)); refine blk_put (cs := #[.string (⟨#[]⟩ : ByteArray), .int .i64 0, .int .i64 0, .string (⟨#[]⟩ : ByteArray), .bool false]) ?_ 0 _ (by first | rfl | simp [*]); (with_reducible repeat (first | refine blk_drewN ?_ _ | refine blk_drew ?_ | refine blk_alloc ?_ _)); exact BK190.out⟩, ⟨by repeat (first | (with_reducible first | exact HB.out | apply below_alloc | apply pw_below_drewN | apply below_drew1 | refine below_set ?_ GE180.out | refine below_set ?_ GE190.out) | exact HB.out)⟩⟩
          · rw [if_neg c20] at H
            have c20b0 : (t185.toList == ([120] : List UInt8)) = false := beq_eq_false_iff_ne.mpr c20
            have c20b1 : (t185.toList != ([120] : List UInt8)) = true := bne_iff_ne.mpr c20
            (first | rw [c20b0] | (simp only [i64_w, i32_w]; rw [c20b0]) | skip)
            by_cases c23 : 0 < (t185.size : Int)
            · rw [if_pos c23] at H
              have c23b0 : decide (0 < (t185.size : Int)) = true := decide_eq_true c23
              have c23b1 : decide (0 < t185.size) = true := decide_eq_true (by omega)
              clear c23
              have H' := Aside0.mk H
              clear H
              have hnb25 := NB190_180.out
              have hnc25 := NB180_190.out
              have hcz26_0 : w17.cell? ⟨gb190, 0, none⟩ = some (.string (⟨#[]⟩ : ByteArray)) := (blk_cell BK190.out 0).trans rfl
              have hcz26_1 : w17.cell? ⟨gb190, 1, none⟩ = some (.int .i64 0) := (blk_cell BK190.out 1).trans rfl
              have hcz26_2 : w17.cell? ⟨gb190, 2, none⟩ = some (.int .i64 0) := (blk_cell BK190.out 2).trans rfl
              have hcz26_3 : w17.cell? ⟨gb190, 3, none⟩ = some (.string (⟨#[]⟩ : ByteArray)) := (blk_cell BK190.out 3).trans rfl
              have hcz26_4 : w17.cell? ⟨gb190, 4, none⟩ = some (.bool false) := (blk_cell BK190.out 4).trans rfl
              have hfz26_0 := blk_frozen BK190.out 0
              have hfz26_1 := blk_frozen BK190.out 1
              have hfz26_2 := blk_frozen BK190.out 2
              have hfz26_3 := blk_frozen BK190.out 3
              have hfz26_4 := blk_frozen BK190.out 4
              have p24 : 0 ≤ (0 : Int) := (by omega)
              have q24 : 0 < t185.size := (by have : (0 : Int) < (t185.size : Int) := of_decide_eq_true (by first | (with_reducible assumption) | assumption); omega)
              have hx24 : ∀ h : 0 < t185.size, ((t185[0]'h).toNat : Int) = bt t185 0 := bt_at t185 0
              clear p24
              have qi24 : (0 < (t185.size : Int)) = True := eq_true (of_decide_eq_true (by first | (with_reducible assumption) | assumption))
              replace q24 := eq_true q24
              go_wp2
              go_meet
              case rel => exact ⟨_, (((bt t185 0) != 61)), (by first | rfl | (simp; done) | (simp [*]; done) | (simp [*, Go.Proofs.YthnjlbdkcpgcjaaDoor.Str.bne_nil]; done)), H', ⟨by have := HJ4.out; first | omega | exact Nat.le_refl _⟩, ⟨by (with_reducible repeat (first | refine blk_drewN ?_ _ | refine blk_drew ?_ | refine blk_alloc ?_ _)); refine blk_far ?_ NB180_190.out _; (with_reducible repeat (first | refine blk_drewN ?_ _ | refine blk_drew ?_ | refine blk_alloc ?_ _)); refine blk_far ?_ NB180_190.out _; (with_reducible repeat (first | refine blk_drewN ?_ _ | refine blk_drew ?_ | refine blk_alloc ?_ _)); refine blk_far ?_ NB180_190.out _; (with_reducible repeat (first | refine blk_drewN ?_ _ | refine blk_drew ?_ | refine blk_alloc ?_ _)); refine blk_far ?_ NB180_190.out _; (with_reducible repeat (first | refine blk_drewN ?_ _ | refine blk_drew ?_ | refine blk_alloc ?_ _)); refine blk_far ?_ NB180_190.out _; (with_reducible repeat (first | refine blk_drewN ?_ _ | refine blk_drew ?_ | refine blk_alloc ?_ _)); exact BK180.out⟩, ⟨by (with_reducible repeat (first | refine blk_drewN ?_ _ | refine blk_drew ?_ | refine blk_alloc ?_ _)); refine blk_put (cs := #[.string (⟨#[]⟩ : ByteArray), .int .i64 0, .int .i64 0, .string (⟨#[]⟩ : ByteArray), .bool false]) ?_ 4 _ (by first | rfl | simp [*]); (with_reducible repeat (first | refine blk_drewN ?_ _ | refine blk_drew ?_ | refine blk_alloc ?_ _)); refine blk_put (cs := #[.string (⟨#[]⟩ : ByteArray), .int .i64 0, .int .i64 0, .string (⟨#[]⟩ : ByteArray), .bool false]) ?_ 3 _ (by first | rfl | simp [*]); (with_reducible repeat (first | refine blk_drewN ?_ _ | refine blk_drew ?_ | refine blk_alloc ?_ _)); refine blk_put (cs := #[.string (⟨#[]⟩ : ByteArray), .int .i64 0, .int .i64 0, .string (⟨#[]⟩ : ByteArray), .bool false]) ?_ 2 _ (by first | rfl | simp [*]); (with_reducible repeat (first | refine blk_drewN ?_ _ | refine blk_drew ?_ | refine blk_alloc ?_ _)); refine blk_put (cs := #[.string (⟨#[]⟩ : ByteArray), .int .i64 0, .int .i64 0, .string (⟨#[]⟩ : ByteArray), .bool false]) ?_ 1 _ (by first | rfl | simp [*]); (with_reducible repeat (first | refine blk_drewN ?_ _ | refine blk_drew ?_ | refine blk_alloc ?_ _)); refine blk_put (cs := #[.string (⟨#[]⟩ : ByteArray), .int .i64 0, .int .i64 0, .string (⟨#[]⟩ : ByteArray), .bool false]) ?_ 0 _ (by first | rfl | simp [*]); (with_reducible repeat (first | refine blk_drewN ?_ _ | refine blk_drew ?_ | refine blk_alloc ?_ _)); exact BK190.out⟩, ⟨by repeat (first | (with_reducible first | exact HB.out | apply below_alloc | apply pw_below_drewN | apply below_drew1 | refine below_set ?_ GE180.out | refine below_set ?_ GE190.out) | exact HB.out)⟩⟩
            · rw [if_neg c23] at H
              exact absurd H (by simp)
        case rest =>
          clear HC16
          try clear c1
          try clear p1
          try clear q1
          try clear hx1
          try clear qi1
          try clear c2
          try clear p2
          try clear q2
          try clear hx2
          try clear qi2
          try clear c7
          try clear c8
          try clear c9
          try clear c10
          try clear c10b0
          try clear c10b1
          try clear c11
          try clear c11b0
          try clear c11b1
          try clear p12
          try clear q12
          try clear hx12
          try clear qi12
          try clear c13
          try clear c13b0
          try clear c13b1
          try clear c14
          try clear c16
          try clear c18
          try clear c20
          try clear c20b0
          try clear c20b1
          try clear c21
          try clear c23
          try clear c23b0
          try clear c23b1
          try clear p24
          try clear q24
          try clear hx24
          try clear qi24
          try clear c25
          try clear hcz15_0
          try clear hcz15_1
          try clear hcz15_2
          try clear hcz15_3
          try clear hcz15_4
          try clear hcz19_0
          try clear hcz19_1
          try clear hcz19_2
          try clear hcz19_3
          try clear hcz19_4
          try clear hcz22_0
          try clear hcz22_1
          try clear hcz22_2
          try clear hcz22_3
          try clear hcz22_4
          try clear hcz26_0
          try clear hcz26_1
          try clear hcz26_2
          try clear hcz26_3
          try clear hcz26_4
          try clear hfz15_0
          try clear hfz15_1
          try clear hfz15_2
          try clear hfz15_3
          try clear hfz15_4
          try clear hfz19_0
          try clear hfz19_1
          try clear hfz19_2
          try clear hfz19_3
          try clear hfz19_4
          try clear hfz22_0
          try clear hfz22_1
          try clear hfz22_2
          try clear hfz22_3
          try clear hfz22_4
          try clear hfz26_0
          try clear hfz26_1
          try clear hfz26_2
          try clear hfz26_3
          try clear hfz26_4
          try clear p1
          try clear p12
          try clear p2
          try clear p24
          try clear q1
          try clear q12
          try clear q24
          obtain ⟨kq, x75_15, rfl, HA, HJ15, BK180, BK190, HB⟩ := hcut
          cases kq with
          | zero => exact absurd HA.out (by simp [tidelineref03_Parse.j1])
          | succ kj15 =>
            have H := HA.out
            clear HA
            simp only [tidelineref03_Parse.j1] at H
            by_cases c27 : x75_15 = true
            · subst c27
              have H1 : (some ((⟨#[]⟩ : ByteArray), 0, 0, (⟨#[]⟩ : ByteArray), false, 23)) = some (r1, r2, r3, r4, r5, r6) := by rw [if_pos rfl] at H; exact H
              clear H
              have H := H1
              clear H1
              simp only [Option.some.injEq, Prod.mk.injEq] at H
              obtain ⟨rfl, rfl, rfl, rfl, rfl, rfl⟩ := H
              have hnb28 := NB180_190.out
              have hnc28 := NB190_180.out
              have hcz29_0 : wc.cell? ⟨gb180, 0, none⟩ = some (.string (⟨#[]⟩ : ByteArray)) := (blk_cell BK180.out 0).trans rfl
              have hcz29_1 : wc.cell? ⟨gb180, 1, none⟩ = some (.int .i64 0) := (blk_cell BK180.out 1).trans rfl
              have hcz29_2 : wc.cell? ⟨gb180, 2, none⟩ = some (.int .i64 0) := (blk_cell BK180.out 2).trans rfl
              have hcz29_3 : wc.cell? ⟨gb180, 3, none⟩ = some (.string (⟨#[]⟩ : ByteArray)) := (blk_cell BK180.out 3).trans rfl
              have hcz29_4 : wc.cell? ⟨gb180, 4, none⟩ = some (.bool false) := (blk_cell BK180.out 4).trans rfl
              have hfz29_0 := blk_frozen BK180.out 0
              have hfz29_1 := blk_frozen BK180.out 1
              have hfz29_2 := blk_frozen BK180.out 2
              have hfz29_3 := blk_frozen BK180.out 3
              have hfz29_4 := blk_frozen BK180.out 4
              go_wp2
              refine bodyPost_ret (results_ct rfl _ _ gb180 25 #[.string (⟨#[]⟩ : ByteArray), .int .i64 0, .int .i64 0, .string (⟨#[]⟩ : ByteArray), .bool false] (0, 0) _ rfl (by (with_reducible repeat (first | refine blk_drewN ?_ _ | refine blk_drew ?_ | refine blk_alloc ?_ _)); refine blk_put (cs := #[.string (⟨#[]⟩ : ByteArray), .int .i64 0, .int .i64 0, .string (⟨#[]⟩ : ByteArray), .bool false]) ?_ 4 _ (by first | rfl | simp [*]); (with_reducible repeat (first | refine blk_drewN ?_ _ | refine blk_drew ?_ | refine blk_alloc ?_ _)); refine blk_put (cs := #[.string (⟨#[]⟩ : ByteArray), .int .i64 0, .int .i64 0, .string (⟨#[]⟩ : ByteArray), .bool false]) ?_ 3 _ (by first | rfl | simp [*]); (with_reducible repeat (first | refine blk_drewN ?_ _ | refine blk_drew ?_ | refine blk_alloc ?_ _)); refine blk_put (cs := #[.string (⟨#[]⟩ : ByteArray), .int .i64 0, .int .i64 0, .string (⟨#[]⟩ : ByteArray), .bool false]) ?_ 2 _ (by first | rfl | simp [*]); (with_reducible repeat (first | refine blk_drewN ?_ _ | refine blk_drew ?_ | refine blk_alloc ?_ _)); refine blk_put (cs := #[.string (⟨#[]⟩ : ByteArray), .int .i64 0, .int .i64 0, .string (⟨#[]⟩ : ByteArray), .bool false]) ?_ 1 _ (by first | rfl | simp [*]); (with_reducible repeat (first | refine blk_drewN ?_ _ | refine blk_drew ?_ | refine blk_alloc ?_ _)); refine blk_put (cs := #[.string (⟨#[]⟩ : ByteArray), .int .i64 0, .int .i64 0, .string (⟨#[]⟩ : ByteArray), .bool false]) ?_ 0 _ (by first | rfl | simp [*]); (with_reducible repeat (first | refine blk_drewN ?_ _ | refine blk_drew ?_ | refine blk_alloc ?_ _)); exact BK180.out) Tryd.underlying25 rfl (by kernel_rfl)) rfl ?_
              exact ⟨by first | rfl | (simp [errW_none, errW_some] <;> rfl) | (simp [*, errW_none, errW_some] <;> rfl), by repeat (first | (with_reducible first | exact HB.out | apply below_alloc | apply pw_below_drewN | apply below_drew1 | refine below_set ?_ GE180.out | refine below_set ?_ GE190.out) | exact HB.out)⟩
            · replace c27 := Bool.eq_false_iff.mpr c27
              subst c27
              have H1 : (if 1 ≤ (t181.size : Int) then ((tidelineref01_Unhex.f kj15 (t181.extract 1 t181.size)).bind fun bt191 => (if bt191.2 = 0 then (if (t185.toList == ([120] : List UInt8)) = true then (tidelineref03_Parse.j2 kj15 t187 t188 bt191.1 0 0 (⟨#[]⟩ : ByteArray) (t185.toList == ([120] : List UInt8))) else (if 1 ≤ (t185.size : Int) then ((tidelineref01_Unhex.f kj15 (t185.extract 1 t185.size)).bind fun bt193 => (if bt193.2 = 0 then (tidelineref03_Parse.j2 kj15 t187 t188 bt191.1 0 0 bt193.1 (t185.toList == ([120] : List UInt8))) else (some ((⟨#[]⟩ : ByteArray), 0, 0, (⟨#[]⟩ : ByteArray), false, 23)))) else (none))) else (some ((⟨#[]⟩ : ByteArray), 0, 0, (⟨#[]⟩ : ByteArray), false, 23)))) else (none)) = some (r1, r2, r3, r4, r5, r6) := by rw [if_neg (show ¬ (false = true) by decide)] at H; exact H
              clear H
              have H := H1
              clear H1
              by_cases c30 : 1 ≤ (t181.size : Int)
              · rw [if_pos c30] at H
                have c30b0 := eq_true c30
                have c30b1 : decide (1 ≤ (t181.size : Int)) = true := decide_eq_true c30
                clear c30
                replace H := Option.bind_eq_some_iff.mp H
                obtain ⟨⟨t191, t192⟩, A310, H⟩ := H
                replace H : (if t192 = 0 then (if (t185.toList == ([120] : List UInt8)) = true then (tidelineref03_Parse.j2 kj15 t187 t188 t191 0 0 (⟨#[]⟩ : ByteArray) (t185.toList == ([120] : List UInt8))) else (if 1 ≤ (t185.size : Int) then ((tidelineref01_Unhex.f kj15 (t185.extract 1 t185.size)).bind fun bt193 => (if bt193.2 = 0 then (tidelineref03_Parse.j2 kj15 t187 t188 t191 0 0 bt193.1 (t185.toList == ([120] : List UInt8))) else (some ((⟨#[]⟩ : ByteArray), 0, 0, (⟨#[]⟩ : ByteArray), false, 23)))) else (none))) else (some ((⟨#[]⟩ : ByteArray), 0, 0, (⟨#[]⟩ : ByteArray), false, 23))) = some (r1, r2, r3, r4, r5, r6) := H
                have A31 := Aside0.mk A310
                clear A310
                by_cases c32 : t192 = 0
                · rw [if_pos c32] at H
                  have c32b0 : (t192 == 0) = true := beq_iff_eq.mpr c32
                  have c32b1 : (t192 != 0) = false := bne_eq_false_iff_eq.mpr c32
                  clear c32
                  have HC33 := Aside0.mk H
                  clear H
                  go_upto_if 90 with (first | ((with_reducible refine gate_callee (f := 17) rfl ?_); refine goesL_ (some 80) rfl rfl Tryd.func17 (by kernel_rfl) rfl #[.string (t181.extract 1 t181.size)] rfl (by (try simp only [List.map_toArray, List.map_cons, List.map_nil]); first | done | rfl | (simp only [List.length_drop, List.length_take]; rfl)) ?_; (with_reducible refine (tidelineref01_Unhex.calls kj15 (t181.extract 1 t181.size) t191 t192 _ A31.out).mono ?_); rintro e w34 ⟨rfl, hb⟩; refine ⟨_, rfl, ?_⟩; have n0_ := Aside0.mk (blk_below (g := gb180) (o := .cells #[.string (⟨#[]⟩ : ByteArray), .int .i64 0, .int .i64 0, .string (⟨#[]⟩ : ByteArray), .bool false] 25 (0, 0)) (by (with_reducible repeat (first | refine blk_drewN ?_ _ | refine blk_drew ?_ | refine blk_alloc ?_ _)); exact BK180.out) hb); have n1_ := Aside0.mk (blk_below (g := gb190) (o := .cells #[.string (⟨#[]⟩ : ByteArray), .int .i64 0, .int .i64 0, .string (⟨#[]⟩ : ByteArray), .bool (t185.toList == ([120] : List UInt8))] 25 (0, 0)) (by (with_reducible repeat (first | refine blk_drewN ?_ _ | refine blk_drew ?_ | refine blk_alloc ?_ _)); exact BK190.out) hb); have n2_ := Aside0.mk (below_step (by repeat (first | (with_reducible first | exact HB.out | apply below_alloc | apply pw_below_drewN | apply below_drew1 | refine below_set ?_ GE180.out | refine below_set ?_ GE190.out) | exact HB.out)) hb); clear BK180; clear BK190; clear HB; have BK180 := n0_; have BK190 := n1_; have HB := n2_; clear n0_ n1_ n2_; (try clear hb); (try clear hb2); (try clear hk); (try clear hi); have hnb35 := NB190_180.out; have hnc35 := NB180_190.out; have hcz36_0 : w34.cell? ⟨gb190, 0, none⟩ = some (.string (⟨#[]⟩ : ByteArray)) := (blk_cell BK190.out 0).trans rfl; have hcz36_1 : w34.cell? ⟨gb190, 1, none⟩ = some (.int .i64 0) := (blk_cell BK190.out 1).trans rfl; have hcz36_2 : w34.cell? ⟨gb190, 2, none⟩ = some (.int .i64 0) := (blk_cell BK190.out 2).trans rfl; have hcz36_3 : w34.cell? ⟨gb190, 3, none⟩ = some (.string (⟨#[]⟩ : ByteArray)) := (blk_cell BK190.out 3).trans rfl; have hcz36_4 : w34.cell? ⟨gb190, 4, none⟩ = some (.bool (t185.toList == ([120] : List UInt8))) := (blk_cell BK190.out 4).trans rfl; have hfz36_0 := blk_frozen BK190.out 0; have hfz36_1 := blk_frozen BK190.out 1; have hfz36_2 := blk_frozen BK190.out 2; have hfz36_3 := blk_frozen BK190.out 3; have hfz36_4 := blk_frozen BK190.out 4))
                  (try simp only [Act.put, List.setIfInBounds_toArray, List.set_cons_zero, List.set_cons_succ])
                  go_cut [] (fun wc => ∃ (kq : Nat) (x181000_32 : ByteArray) (x181001_32 : Int) (x181002_32 : Int) (x181003_32 : ByteArray) (x181004_32 : Bool) (x191003_32 : ByteArray), Aside0 (tidelineref03_Parse.j2 kq t187 t188 t191 0 0 x191003_32 (t185.toList == ([120] : List UInt8)) = some (r1, r2, r3, r4, r5, r6)) ∧ Aside0 (kq ≤ kj15) ∧ Aside0 (wc.heap[gb180]? = some (.cells #[.string x181000_32, .int .i64 x181001_32, .int .i64 x181002_32, .string x181003_32, .bool x181004_32] 25 (0, 0))) ∧ Aside0 (wc.heap[gb190]? = some (.cells #[.string t191, .int .i64 0, .int .i64 0, .string x191003_32, .bool (t185.toList == ([120] : List UInt8))] 25 (0, 0))) ∧ Aside0 (Below w.heap.size w wc))
                  case first =>
                    have H := HC33.out
                    clear HC33
                    by_cases c37 : (t185.toList == ([120] : List UInt8)) = true
                    · rw [if_pos c37] at H
                      have c37b0 : (t185.toList == ([120] : List UInt8)) = true := c37
                      (try (have c37b1 : decide (t185.toList = ([120] : List UInt8)) = true := by simpa using c37))
                      (try (have c37b2 : (t185.toList == ([120] : List UInt8)) = true := by simpa using c37))
                      clear c37
                      (first | rw [c37b0] | (simp only [i64_w, i32_w]; rw [c37b0]) | skip)
                      have H' := Aside0.mk H
                      clear H
                      go_wp2
                      go_meet
                      case rel => exact ⟨_, ((⟨#[]⟩ : ByteArray)), (0), (0), ((⟨#[]⟩ : ByteArray)), (false), ((⟨#[]⟩ : ByteArray)), H', ⟨by have := HJ4.out; have := HJ15.out; first | omega | exact Nat.le_refl _⟩, ⟨by (with_reducible repeat (first | refine blk_drewN ?_ _ | refine blk_drew ?_ | refine blk_alloc ?_ _)); refine blk_far ?_ NB180_190.out _; (with_reducible repeat (first | refine blk_drewN ?_ _ | refine blk_drew ?_ | refine blk_alloc ?_ _)); exact BK180.out⟩, ⟨by (with_reducible repeat (first | refine blk_drewN ?_ _ | refine blk_drew ?_ | refine blk_alloc ?_ _)); refine blk_put (cs := #[.string (⟨#[]⟩ : ByteArray), .int .i64 0, .int .i64 0, .string (⟨#[]⟩ : ByteArray), .bool (t185.toList == ([120] : List UInt8))]) ?_ 0 _ (by first | rfl | simp [*]); (with_reducible repeat (first | refine blk_drewN ?_ _ | refine blk_drew ?_ | refine blk_alloc ?_ _)); exact BK190.out⟩, ⟨by repeat (first | (with_reducible first | exact HB.out | apply below_alloc | apply pw_below_drewN | apply below_drew1 | refine below_set ?_ GE180.out | refine below_set ?_ GE190.out) | exact HB.out)⟩⟩
                    · rw [if_neg c37] at H
                      have c37b0 : (t185.toList == ([120] : List UInt8)) = false := by simpa using c37
                      (try (have c37b1 : decide (t185.toList = ([120] : List UInt8)) = false := by simpa using c37))
                      (try (have c37b2 : (t185.toList == ([120] : List UInt8)) = false := by simpa using c37))
                      (try (have c37b3 : ¬ (t185.toList = ([120] : List UInt8)) := by simpa using c37))
                      clear c37
                      (first | rw [c37b0] | (simp only [i64_w, i32_w]; rw [c37b0]) | skip)
                      by_cases c38 : 1 ≤ (t185.size : Int)
                      · rw [if_pos c38] at H
                        have c38b0 := eq_true c38
                        have c38b1 : decide (1 ≤ (t185.size : Int)) = true := decide_eq_true c38
                        clear c38
                        replace H := Option.bind_eq_some_iff.mp H
                        obtain ⟨⟨t193, t194⟩, A390, H⟩ := H
                        replace H : (if t194 = 0 then (tidelineref03_Parse.j2 kj15 t187 t188 t191 0 0 t193 (t185.toList == ([120] : List UInt8))) else (some ((⟨#[]⟩ : ByteArray), 0, 0, (⟨#[]⟩ : ByteArray), false, 23))) = some (r1, r2, r3, r4, r5, r6) := H
                        have A39 := Aside0.mk A390
                        clear A390
                        by_cases c40 : t194 = 0
                        · rw [if_pos c40] at H
                          have c40b0 : (t194 == 0) = true := beq_iff_eq.mpr c40
                          have c40b1 : (t194 != 0) = false := bne_eq_false_iff_eq.mpr c40
                          clear c40
                          have H' := Aside0.mk H
                          clear H
                          go_wp2_with (first | ((with_reducible refine gate_callee (f := 17) rfl ?_); refine goesL_ (some 94) rfl rfl Tryd.func17 (by kernel_rfl) rfl #[.string (t185.extract 1 t185.size)] rfl (by (try simp only [List.map_toArray, List.map_cons, List.map_nil]); first | done | rfl | (simp only [List.length_drop, List.length_take]; rfl)) ?_; (with_reducible refine (tidelineref01_Unhex.calls kj15 (t185.extract 1 t185.size) t193 t194 _ A39.out).mono ?_); rintro e w41 ⟨rfl, hb⟩; refine ⟨_, rfl, ?_⟩; have n0_ := Aside0.mk (blk_below (g := gb180) (o := .cells #[.string (⟨#[]⟩ : ByteArray), .int .i64 0, .int .i64 0, .string (⟨#[]⟩ : ByteArray), .bool false] 25 (0, 0)) (by (with_reducible repeat (first | refine blk_drewN ?_ _ | refine blk_drew ?_ | refine blk_alloc ?_ _)); refine blk_far ?_ NB180_190.out _; (with_reducible repeat (first | refine blk_drewN ?_ _ | refine blk_drew ?_ | refine blk_alloc ?_ _)); exact BK180.out) hb); have n1_ := Aside0.mk (blk_below (g := gb190) (o := .cells #[.string t191, .int .i64 0, .int .i64 0, .string (⟨#[]⟩ : ByteArray), .bool (t185.toList == ([120] : List UInt8))] 25 (0, 0)) (by (with_reducible repeat (first | refine blk_drewN ?_ _ | refine blk_drew ?_ | refine blk_alloc ?_ _)); refine blk_put (cs := #[.string (⟨#[]⟩ : ByteArray), .int .i64 0, .int .i64 0, .string (⟨#[]⟩ : ByteArray), .bool (t185.toList == ([120] : List UInt8))]) ?_ 0 _ (by first | rfl | simp [*]); (with_reducible repeat (first | refine blk_drewN ?_ _ | refine blk_drew ?_ | refine blk_alloc ?_ _)); exact BK190.out) hb); have n2_ := Aside0.mk (below_step (by repeat (first | (with_reducible first | exact HB.out | apply below_alloc | apply pw_below_drewN | apply below_drew1 | refine below_set ?_ GE180.out | refine below_set ?_ GE190.out) | exact HB.out)) hb); clear BK180; clear BK190; clear HB; have BK180 := n0_; have BK190 := n1_; have HB := n2_; clear n0_ n1_ n2_; (try clear hb); (try clear hb2); (try clear hk); (try clear hi); have hnb42 := NB190_180.out; have hnc42 := NB180_190.out; have hcz43_0 : w41.cell? ⟨gb190, 0, none⟩ = some (.string t191) := (blk_cell BK190.out 0).trans rfl; have hcz43_1 : w41.cell? ⟨gb190, 1, none⟩ = some (.int .i64 0) := (blk_cell BK190.out 1).trans rfl; have hcz43_2 : w41.cell? ⟨gb190, 2, none⟩ = some (.int .i64 0) := (blk_cell BK190.out 2).trans rfl; have hcz43_3 : w41.cell? ⟨gb190, 3, none⟩ = some (.string (⟨#[]⟩ : ByteArray)) := (blk_cell BK190.out 3).trans rfl; have hcz43_4 : w41.cell? ⟨gb190, 4, none⟩ = some (.bool (t185.toList == ([120] : List UInt8))) := (blk_cell BK190.out 4).trans rfl; have hfz43_0 := blk_frozen BK190.out 0; have hfz43_1 := blk_frozen BK190.out 1; have hfz43_2 := blk_frozen BK190.out 2; have hfz43_3 := blk_frozen BK190.out 3; have hfz43_4 := blk_frozen BK190.out 4))
                          go_meet
                          case rel => exact ⟨_, ((⟨#[]⟩ : ByteArray)), (0), (0), ((⟨#[]⟩ : ByteArray)), (false), (t193), H', ⟨by have := HJ4.out; have := HJ15.out; first | omega | exact Nat.le_refl _⟩, ⟨by (with_reducible repeat (first | refine blk_drewN ?_ _ | refine blk_drew ?_ | refine blk_alloc ?_ _)); refine blk_far ?_ NB180_190.out _; (with_reducible repeat (first | refine blk_drewN ?_ _ | refine blk_drew ?_ | refine blk_alloc ?_ _)); exact BK180.out⟩, ⟨by (with_reducible repeat (first | refine blk_drewN ?_ _ | refine blk_drew ?_ | refine blk_alloc ?_ _)); refine blk_put (cs := #[.string t191, .int .i64 0, .int .i64 0, .string (⟨#[]⟩ : ByteArray), .bool (t185.toList == ([120] : List UInt8))]) ?_ 3 _ (by first | rfl | simp [*]); (with_reducible repeat (first | refine blk_drewN ?_ _ | refine blk_drew ?_ | refine blk_alloc ?_ _)); exact BK190.out⟩, ⟨by repeat (first | (with_reducible first | exact HB.out | apply below_alloc | apply pw_below_drewN | apply below_drew1 | refine below_set ?_ GE180.out | refine below_set ?_ GE190.out) | exact HB.out)⟩⟩
                        · rw [if_neg c40] at H
                          have c40b0 : (t194 == 0) = false := beq_eq_false_iff_ne.mpr c40
                          have c40b1 : (t194 != 0) = true := bne_iff_ne.mpr c40
                          simp only [Option.some.injEq, Prod.mk.injEq] at H
                          obtain ⟨rfl, rfl, rfl, rfl, rfl, rfl⟩ := H
                          go_wp2_with (first | ((with_reducible refine gate_callee (f := 17) rfl ?_); refine goesL_ (some 94) rfl rfl Tryd.func17 (by kernel_rfl) rfl #[.string (t185.extract 1 t185.size)] rfl (by (try simp only [List.map_toArray, List.map_cons, List.map_nil]); first | done | rfl | (simp only [List.length_drop, List.length_take]; rfl)) ?_; (with_reducible refine (tidelineref01_Unhex.calls kj15 (t185.extract 1 t185.size) t193 t194 _ A39.out).mono ?_); rintro e w44 ⟨rfl, hb⟩; refine ⟨_, rfl, ?_⟩; have n0_ := Aside0.mk (blk_below (g := gb180) (o := .cells #[.string (⟨#[]⟩ : ByteArray), .int .i64 0, .int .i64 0, .string (⟨#[]⟩ : ByteArray), .bool false] 25 (0, 0)) (by (with_reducible repeat (first | refine blk_drewN ?_ _ | refine blk_drew ?_ | refine blk_alloc ?_ _)); refine blk_far ?_ NB180_190.out _; (with_reducible repeat (first | refine blk_drewN ?_ _ | refine blk_drew ?_ | refine blk_alloc ?_ _)); exact BK180.out) hb); have n1_ := Aside0.mk (blk_below (g := gb190) (o := .cells #[.string t191, .int .i64 0, .int .i64 0, .string (⟨#[]⟩ : ByteArray), .bool (t185.toList == ([120] : List UInt8))] 25 (0, 0)) (by (with_reducible repeat (first | refine blk_drewN ?_ _ | refine blk_drew ?_ | refine blk_alloc ?_ _)); refine blk_put (cs := #[.string (⟨#[]⟩ : ByteArray), .int .i64 0, .int .i64 0, .string (⟨#[]⟩ : ByteArray), .bool (t185.toList == ([120] : List UInt8))]) ?_ 0 _ (by first | rfl | simp [*]); (with_reducible repeat (first | refine blk_drewN ?_ _ | refine blk_drew ?_ | refine blk_alloc ?_ _)); exact BK190.out) hb); have n2_ := Aside0.mk (below_step (by repeat (first | (with_reducible first | exact HB.out | apply below_alloc | apply pw_below_drewN | apply below_drew1 | refine below_set ?_ GE180.out | refine below_set ?_ GE190.out) | exact HB.out)) hb); clear BK180; clear BK190; clear HB; have BK180 := n0_; have BK190 := n1_; have HB := n2_; clear n0_ n1_ n2_; (try clear hb); (try clear hb2); (try clear hk); (try clear hi); have hnb45 := NB180_190.out; have hnc45 := NB190_180.out; have hcz46_0 : w44.cell? ⟨gb180, 0, none⟩ = some (.string (⟨#[]⟩ : ByteArray)) := (blk_cell BK180.out 0).trans rfl; have hcz46_1 : w44.cell? ⟨gb180, 1, none⟩ = some (.int .i64 0) := (blk_cell BK180.out 1).trans rfl; have hcz46_2 : w44.cell? ⟨gb180, 2, none⟩ = some (.int .i64 0) := (blk_cell BK180.out 2).trans rfl; have hcz46_3 : w44.cell? ⟨gb180, 3, none⟩ = some (.string (⟨#[]⟩ : ByteArray)) := (blk_cell BK180.out 3).trans rfl; have hcz46_4 : w44.cell? ⟨gb180, 4, none⟩ = some (.bool false) := (blk_cell BK180.out 4).trans rfl; have hfz46_0 := blk_frozen BK180.out 0; have hfz46_1 := blk_frozen BK180.out 1; have hfz46_2 := blk_frozen BK180.out 2; have hfz46_3 := blk_frozen BK180.out 3; have hfz46_4 := blk_frozen BK180.out 4))
                          refine bodyPost_ret (results_ct rfl _ _ gb180 25 #[.string (⟨#[]⟩ : ByteArray), .int .i64 0, .int .i64 0, .string (⟨#[]⟩ : ByteArray), .bool false] (0, 0) _ rfl (by (with_reducible repeat (first | refine blk_drewN ?_ _ | refine blk_drew ?_ | refine blk_alloc ?_ _)); refine blk_put (cs := #[.string (⟨#[]⟩ : ByteArray), .int .i64 0, .int .i64 0, .string (⟨#[]⟩ : ByteArray), .bool false]) ?_ 4 _ (by first | rfl | simp [*]); (with_reducible repeat (first | refine blk_drewN ?_ _ | refine blk_drew ?_ | refine blk_alloc ?_ _)); refine blk_put (cs := #[.string (⟨#[]⟩ : ByteArray), .int .i64 0, .int .i64 0, .string (⟨#[]⟩ : ByteArray), .bool false]) ?_ 3 _ (by first | rfl | simp [*]); (with_reducible repeat (first | refine blk_drewN ?_ _ | refine blk_drew ?_ | refine blk_alloc ?_ _)); refine blk_put (cs := #[.string (⟨#[]⟩ : ByteArray), .int .i64 0, .int .i64 0, .string (⟨#[]⟩ : ByteArray), .bool false]) ?_ 2 _ (by first | rfl | simp [*]); (with_reducible repeat (first | refine blk_drewN ?_ _ | refine blk_drew ?_ | refine blk_alloc ?_ _)); refine blk_put (cs := #[.string (⟨#[]⟩ : ByteArray), .int .i64 0, .int .i64 0, .string (⟨#[]⟩ : ByteArray), .bool false]) ?_ 1 _ (by first | rfl | simp [*]); (with_reducible repeat (first | refine blk_drewN ?_ _ | refine blk_drew ?_ | refine blk_alloc ?_ _)); refine blk_put (cs := #[.string (⟨#[]⟩ : ByteArray), .int .i64 0, .int .i64 0, .string (⟨#[]⟩ : ByteArray), .bool false]) ?_ 0 _ (by first | rfl | simp [*]); (with_reducible repeat (first | refine blk_drewN ?_ _ | refine blk_drew ?_ | refine blk_alloc ?_ _)); exact BK180.out) Tryd.underlying25 rfl (by kernel_rfl)) rfl ?_
                          exact ⟨by first | rfl | (simp [errW_none, errW_some] <;> rfl) | (simp [*, errW_none, errW_some] <;> rfl), by repeat (first | (with_reducible first | exact HB.out | apply below_alloc | apply pw_below_drewN | apply below_drew1 | refine below_set ?_ GE180.out | refine below_set ?_ GE190.out) | exact HB.out)⟩
                      · rw [if_neg c38] at H
                        exact absurd H (by simp)
                  case rest =>
                    clear HC33
                    try clear c1
                    try clear p1
                    try clear q1
                    try clear hx1
                    try clear qi1
                    try clear c2
                    try clear p2
                    try clear q2
                    try clear hx2
                    try clear qi2
                    try clear c3
                    try clear c4
                    try clear c7
                    try clear c8
                    try clear c9
                    try clear c10
                    try clear c10b0
                    try clear c10b1
                    try clear c11
                    try clear c11b0
                    try clear c11b1
                    try clear p12
                    try clear q12
                    try clear hx12
                    try clear qi12
                    try clear c13
                    try clear c13b0
                    try clear c13b1
                    try clear c14
                    try clear c16
                    try clear c17
                    try clear c18
                    try clear c20
                    try clear c20b0
                    try clear c20b1
                    try clear c21
                    try clear c23
                    try clear c23b0
                    try clear c23b1
                    try clear p24
                    try clear q24
                    try clear hx24
                    try clear qi24
                    try clear c25
                    try clear c27
                    try clear c28
                    try clear c30
                    try clear c30b0
                    try clear c30b1
                    try clear c32
                    try clear c32b0
                    try clear c32b1
                    try clear c35
                    try clear c37
                    try clear c37b0
                    try clear c37b1
                    try clear c37b2
                    try clear c38
                    try clear c38b0
                    try clear c38b1
                    try clear c40
                    try clear c40b0
                    try clear c40b1
                    try clear c42
                    try clear c45
                    try clear hcz15_0
                    try clear hcz15_1
                    try clear hcz15_2
                    try clear hcz15_3
                    try clear hcz15_4
                    try clear hcz19_0
                    try clear hcz19_1
                    try clear hcz19_2
                    try clear hcz19_3
                    try clear hcz19_4
                    try clear hcz22_0
                    try clear hcz22_1
                    try clear hcz22_2
                    try clear hcz22_3
                    try clear hcz22_4
                    try clear hcz26_0
                    try clear hcz26_1
                    try clear hcz26_2
                    try clear hcz26_3
                    try clear hcz26_4
                    try clear hcz29_0
                    try clear hcz29_1
                    try clear hcz29_2
                    try clear hcz29_3
                    try clear hcz29_4
                    try clear hcz36_0
                    try clear hcz36_1
                    try clear hcz36_2
                    try clear hcz36_3
                    try clear hcz36_4
                    try clear hcz43_0
                    try clear hcz43_1
                    try clear hcz43_2
                    try clear hcz43_3
                    try clear hcz43_4
                    try clear hcz46_0
                    try clear hcz46_1
                    try clear hcz46_2
                    try clear hcz46_3
                    try clear hcz46_4
                    try clear hfz15_0
                    try clear hfz15_1
                    try clear hfz15_2
                    try clear hfz15_3
                    try clear hfz15_4
                    try clear hfz19_0
                    try clear hfz19_1
                    try clear hfz19_2
                    try clear hfz19_3
                    try clear hfz19_4
                    try clear hfz22_0
                    try clear hfz22_1
                    try clear hfz22_2
                    try clear hfz22_3
                    try clear hfz22_4
                    try clear hfz26_0
                    try clear hfz26_1
                    try clear hfz26_2
                    try clear hfz26_3
                    try clear hfz26_4
                    try clear hfz29_0
                    try clear hfz29_1
                    try clear hfz29_2
                    try clear hfz29_3
                    try clear hfz29_4
                    try clear hfz36_0
                    try clear hfz36_1
                    try clear hfz36_2
                    try clear hfz36_3
                    try clear hfz36_4
                    try clear hfz43_0
                    try clear hfz43_1
                    try clear hfz43_2
                    try clear hfz43_3
                    try clear hfz43_4
                    try clear hfz46_0
                    try clear hfz46_1
                    try clear hfz46_2
                    try clear hfz46_3
                    try clear hfz46_4
                    try clear p1
                    try clear p12
                    try clear p2
                    try clear p24
                    try clear q1
                    try clear q12
                    try clear q2
                    try clear q24
                    obtain ⟨kq, x181000_32, x181001_32, x181002_32, x181003_32, x181004_32, x191003_32, HA, HJ32, BK180, BK190, HB⟩ := hcut
                    cases kq with
                    | zero => exact absurd HA.out (by simp [tidelineref03_Parse.j2])
                    | succ kj32 =>
                      have H := HA.out
                      clear HA
                      simp only [tidelineref03_Parse.j2] at H
                      replace H := Option.bind_eq_some_iff.mp H
                      obtain ⟨⟨t195, t196⟩, A470, H⟩ := H
                      replace H : ((tidelineref03_number.f kj32 t188).bind fun bt197 => (if t196 = true then (tidelineref03_Parse.j3 kj32 t195 bt197.1 (!bt197.2) t191 0 0 x191003_32 (t185.toList == ([120] : List UInt8))) else (tidelineref03_Parse.j3 kj32 t195 bt197.1 true t191 0 0 x191003_32 (t185.toList == ([120] : List UInt8))))) = some (r1, r2, r3, r4, r5, r6) := H
                      have A47 := Aside0.mk A470
                      clear A470
                      replace H := Option.bind_eq_some_iff.mp H
                      obtain ⟨⟨t197, t198⟩, A480, H⟩ := H
                      replace H : (if t196 = true then (tidelineref03_Parse.j3 kj32 t195 t197 (!t198) t191 0 0 x191003_32 (t185.toList == ([120] : List UInt8))) else (tidelineref03_Parse.j3 kj32 t195 t197 true t191 0 0 x191003_32 (t185.toList == ([120] : List UInt8)))) = some (r1, r2, r3, r4, r5, r6) := H
                      have A48 := Aside0.mk A480
                      clear A480
                      have HC49 := Aside0.mk H
                      clear H
                      go_upto_region 20 with (first | ((with_reducible refine gate_callee (f := 18) rfl ?_); refine goesL_ (some 104) rfl rfl Tryd.func18 (by kernel_rfl) rfl #[.string t187] rfl (by (try simp only [List.map_toArray, List.map_cons, List.map_nil]); first | done | rfl | (simp only [List.length_drop, List.length_take]; rfl)) ?_; (with_reducible refine (tidelineref03_number.calls kj32 t187 t195 t196 _ A47.out).mono ?_); rintro e w' ⟨rfl, ⟨nd, rfl⟩⟩; refine ⟨_, rfl, ?_⟩) | ((with_reducible refine gate_callee (f := 18) rfl ?_); refine goesL_ (some 109) rfl rfl Tryd.func18 (by kernel_rfl) rfl #[.string t188] rfl (by (try simp only [List.map_toArray, List.map_cons, List.map_nil]); first | done | rfl | (simp only [List.length_drop, List.length_take]; rfl)) ?_; (with_reducible refine (tidelineref03_number.calls kj32 t188 t197 t198 _ A48.out).mono ?_); rintro e w' ⟨rfl, ⟨nd, rfl⟩⟩; refine ⟨_, rfl, ?_⟩))
                      (try simp only [Act.put, List.setIfInBounds_toArray, List.set_cons_zero, List.set_cons_succ])
                      go_cut [117] (fun v117 wc => ∃ (kq : Nat) (x117_48 : Bool), v117 = .bool x117_48 ∧ Aside0 (tidelineref03_Parse.j3 kq t195 t197 x117_48 t191 0 0 x191003_32 (t185.toList == ([120] : List UInt8)) = some (r1, r2, r3, r4, r5, r6)) ∧ Aside0 (kq ≤ kj32) ∧ Aside0 (wc.heap[gb180]? = some (.cells #[.string x181000_32, .int .i64 x181001_32, .int .i64 x181002_32, .string x181003_32, .bool x181004_32] 25 (0, 0))) ∧ Aside0 (wc.heap[gb190]? = some (.cells #[.string t191, .int .i64 0, .int .i64 0, .string x191003_32, .bool (t185.toList == ([120] : List UInt8))] 25 (0, 0))) ∧ Aside0 (Below w.heap.size w wc))
                      case first =>
                        have H := HC49.out
                        clear HC49
                        by_cases c50 : t196 = true
                        · subst c50
                          have H1 : (tidelineref03_Parse.j3 kj32 t195 t197 (!t198) t191 0 0 x191003_32 (t185.toList == ([120] : List UInt8))) = some (r1, r2, r3, r4, r5, r6) := by rw [if_pos rfl] at H; exact H
                          clear H
                          have H := H1
                          clear H1
                          have H' := Aside0.mk H
                          clear H
                          go_wp2
                          go_meet
                          case rel => exact ⟨_, (!t198), (by first | rfl | (simp; done) | (simp [*]; done) | (simp [*, Go.Proofs.YthnjlbdkcpgcjaaDoor.Str.bne_nil]; done)), H', ⟨by have := HJ4.out; have := HJ15.out; have := HJ32.out; first | omega | exact Nat.le_refl _⟩, ⟨by (with_reducible repeat (first | refine blk_drewN ?_ _ | refine blk_drew ?_ | refine blk_alloc ?_ _)); exact BK180.out⟩, ⟨by (with_reducible repeat (first | refine blk_drewN ?_ _ | refine blk_drew ?_ | refine blk_alloc ?_ _)); exact BK190.out⟩, ⟨by repeat (first | (with_reducible first | exact HB.out | apply below_alloc | apply pw_below_drewN | apply below_drew1 | refine below_set ?_ GE180.out | refine below_set ?_ GE190.out) | exact HB.out)⟩⟩
                        · replace c50 := Bool.eq_false_iff.mpr c50
                          subst c50
                          have H1 : (tidelineref03_Parse.j3 kj32 t195 t197 true t191 0 0 x191003_32 (t185.toList == ([120] : List UInt8))) = some (r1, r2, r3, r4, r5, r6) := by rw [if_neg (show ¬ (false = true) by decide)] at H; exact H
                          clear H
                          have H := H1
                          clear H1
                          have H' := Aside0.mk H
                          clear H
                          go_wp2
                          go_meet
                          case rel => exact ⟨_, (true), (by first | rfl | (simp; done) | (simp [*]; done) | (simp [*, Go.Proofs.YthnjlbdkcpgcjaaDoor.Str.bne_nil]; done)), H', ⟨by have := HJ4.out; have := HJ15.out; have := HJ32.out; first | omega | exact Nat.le_refl _⟩, ⟨by (with_reducible repeat (first | refine blk_drewN ?_ _ | refine blk_drew ?_ | refine blk_alloc ?_ _)); exact BK180.out⟩, ⟨by (with_reducible repeat (first | refine blk_drewN ?_ _ | refine blk_drew ?_ | refine blk_alloc ?_ _)); exact BK190.out⟩, ⟨by repeat (first | (with_reducible first | exact HB.out | apply below_alloc | apply pw_below_drewN | apply below_drew1 | refine below_set ?_ GE180.out | refine below_set ?_ GE190.out) | exact HB.out)⟩⟩
                      case rest =>
                        clear HC49
                        try clear c1
                        try clear p1
                        try clear q1
                        try clear hx1
                        try clear qi1
                        try clear c2
                        try clear p2
                        try clear q2
                        try clear hx2
                        try clear qi2
                        try clear c3
                        try clear c4
                        try clear c5
                        try clear c7
                        try clear c8
                        try clear c9
                        try clear c10
                        try clear c10b0
                        try clear c10b1
                        try clear c11
                        try clear c11b0
                        try clear c11b1
                        try clear p12
                        try clear q12
                        try clear hx12
                        try clear qi12
                        try clear c13
                        try clear c13b0
                        try clear c13b1
                        try clear c14
                        try clear c16
                        try clear c17
                        try clear c18
                        try clear c20
                        try clear c20b0
                        try clear c20b1
                        try clear c21
                        try clear c23
                        try clear c23b0
                        try clear c23b1
                        try clear p24
                        try clear q24
                        try clear hx24
                        try clear qi24
                        try clear c25
                        try clear c27
                        try clear c28
                        try clear c30
                        try clear c30b0
                        try clear c30b1
                        try clear c32
                        try clear c32b0
                        try clear c32b1
                        try clear c35
                        try clear c37
                        try clear c37b0
                        try clear c37b1
                        try clear c37b2
                        try clear c38
                        try clear c38b0
                        try clear c38b1
                        try clear c40
                        try clear c40b0
                        try clear c40b1
                        try clear c42
                        try clear c45
                        try clear c50
                        try clear hcz15_0
                        try clear hcz15_1
                        try clear hcz15_2
                        try clear hcz15_3
                        try clear hcz15_4
                        try clear hcz19_0
                        try clear hcz19_1
                        try clear hcz19_2
                        try clear hcz19_3
                        try clear hcz19_4
                        try clear hcz22_0
                        try clear hcz22_1
                        try clear hcz22_2
                        try clear hcz22_3
                        try clear hcz22_4
                        try clear hcz26_0
                        try clear hcz26_1
                        try clear hcz26_2
                        try clear hcz26_3
                        try clear hcz26_4
                        try clear hcz29_0
                        try clear hcz29_1
                        try clear hcz29_2
                        try clear hcz29_3
                        try clear hcz29_4
                        try clear hcz36_0
                        try clear hcz36_1
                        try clear hcz36_2
                        try clear hcz36_3
                        try clear hcz36_4
                        try clear hcz43_0
                        try clear hcz43_1
                        try clear hcz43_2
                        try clear hcz43_3
                        try clear hcz43_4
                        try clear hcz46_0
                        try clear hcz46_1
                        try clear hcz46_2
                        try clear hcz46_3
                        try clear hcz46_4
                        try clear hfz15_0
                        try clear hfz15_1
                        try clear hfz15_2
                        try clear hfz15_3
                        try clear hfz15_4
                        try clear hfz19_0
                        try clear hfz19_1
                        try clear hfz19_2
                        try clear hfz19_3
                        try clear hfz19_4
                        try clear hfz22_0
                        try clear hfz22_1
                        try clear hfz22_2
                        try clear hfz22_3
                        try clear hfz22_4
                        try clear hfz26_0
                        try clear hfz26_1
                        try clear hfz26_2
                        try clear hfz26_3
                        try clear hfz26_4
                        try clear hfz29_0
                        try clear hfz29_1
                        try clear hfz29_2
                        try clear hfz29_3
                        try clear hfz29_4
                        try clear hfz36_0
                        try clear hfz36_1
                        try clear hfz36_2
                        try clear hfz36_3
                        try clear hfz36_4
                        try clear hfz43_0
                        try clear hfz43_1
                        try clear hfz43_2
                        try clear hfz43_3
                        try clear hfz43_4
                        try clear hfz46_0
                        try clear hfz46_1
                        try clear hfz46_2
                        try clear hfz46_3
                        try clear hfz46_4
                        try clear p1
                        try clear p12
                        try clear p2
                        try clear p24
                        try clear q1
                        try clear q12
                        try clear q2
                        try clear q24
                        obtain ⟨kq, x117_48, rfl, HA, HJ48, BK180, BK190, HB⟩ := hcut
                        cases kq with
                        | zero => exact absurd HA.out (by simp [tidelineref03_Parse.j3])
                        | succ kj48 =>
                          have H := HA.out
                          clear HA
                          simp only [tidelineref03_Parse.j3] at H
                          by_cases c51 : x117_48 = true
                          · subst c51
                            have H1 : (some ((⟨#[]⟩ : ByteArray), 0, 0, (⟨#[]⟩ : ByteArray), false, 23)) = some (r1, r2, r3, r4, r5, r6) := by rw [if_pos rfl] at H; exact H
                            clear H
                            have H := H1
                            clear H1
                            simp only [Option.some.injEq, Prod.mk.injEq] at H
                            obtain ⟨rfl, rfl, rfl, rfl, rfl, rfl⟩ := H
                            have hnb52 := NB180_190.out
                            have hnc52 := NB190_180.out
                            have hcz53_0 : wc.cell? ⟨gb180, 0, none⟩ = some (.string x181000_32) := (blk_cell BK180.out 0).trans rfl
                            have hcz53_1 : wc.cell? ⟨gb180, 1, none⟩ = some (.int .i64 x181001_32) := (blk_cell BK180.out 1).trans rfl
                            have hcz53_2 : wc.cell? ⟨gb180, 2, none⟩ = some (.int .i64 x181002_32) := (blk_cell BK180.out 2).trans rfl
                            have hcz53_3 : wc.cell? ⟨gb180, 3, none⟩ = some (.string x181003_32) := (blk_cell BK180.out 3).trans rfl
                            have hcz53_4 : wc.cell? ⟨gb180, 4, none⟩ = some (.bool x181004_32) := (blk_cell BK180.out 4).trans rfl
                            have hfz53_0 := blk_frozen BK180.out 0
                            have hfz53_1 := blk_frozen BK180.out 1
                            have hfz53_2 := blk_frozen BK180.out 2
                            have hfz53_3 := blk_frozen BK180.out 3
                            have hfz53_4 := blk_frozen BK180.out 4
                            go_wp2
                            refine bodyPost_ret (results_ct rfl _ _ gb180 25 #[.string (⟨#[]⟩ : ByteArray), .int .i64 0, .int .i64 0, .string (⟨#[]⟩ : ByteArray), .bool false] (0, 0) _ rfl (by (with_reducible repeat (first | refine blk_drewN ?_ _ | refine blk_drew ?_ | refine blk_alloc ?_ _)); refine blk_put (cs := #[.string (⟨#[]⟩ : ByteArray), .int .i64 0, .int .i64 0, .string (⟨#[]⟩ : ByteArray), .bool x181004_32]) ?_ 4 _ (by first | rfl | simp [*]); (with_reducible repeat (first | refine blk_drewN ?_ _ | refine blk_drew ?_ | refine blk_alloc ?_ _)); refine blk_put (cs := #[.string (⟨#[]⟩ : ByteArray), .int .i64 0, .int .i64 0, .string x181003_32, .bool x181004_32]) ?_ 3 _ (by first | rfl | simp [*]); (with_reducible repeat (first | refine blk_drewN ?_ _ | refine blk_drew ?_ | refine blk_alloc ?_ _)); refine blk_put (cs := #[.string (⟨#[]⟩ : ByteArray), .int .i64 0, .int .i64 x181002_32, .string x181003_32, .bool x181004_32]) ?_ 2 _ (by first | rfl | simp [*]); (with_reducible repeat (first | refine blk_drewN ?_ _ | refine blk_drew ?_ | refine blk_alloc ?_ _)); refine blk_put (cs := #[.string (⟨#[]⟩ : ByteArray), .int .i64 x181001_32, .int .i64 x181002_32, .string x181003_32, .bool x181004_32]) ?_ 1 _ (by first | rfl | simp [*]); (with_reducible repeat (first | refine blk_drewN ?_ _ | refine blk_drew ?_ | refine blk_alloc ?_ _)); refine blk_put (cs := #[.string x181000_32, .int .i64 x181001_32, .int .i64 x181002_32, .string x181003_32, .bool x181004_32]) ?_ 0 _ (by first | rfl | simp [*]); (with_reducible repeat (first | refine blk_drewN ?_ _ | refine blk_drew ?_ | refine blk_alloc ?_ _)); exact BK180.out) Tryd.underlying25 rfl (by kernel_rfl)) rfl ?_
                            exact ⟨by first | rfl | (simp [errW_none, errW_some] <;> rfl) | (simp [*, errW_none, errW_some] <;> rfl), by repeat (first | (with_reducible first | exact HB.out | apply below_alloc | apply pw_below_drewN | apply below_drew1 | refine below_set ?_ GE180.out | refine below_set ?_ GE190.out) | exact HB.out)⟩
                          · replace c51 := Bool.eq_false_iff.mpr c51
                            subst c51
                            have H1 : ((tidelineref03_Check.f t191 t195 t197 x191003_32 (t185.toList == ([120] : List UInt8))).bind fun t199 => (if t199 = 0 then (some (t191, t195, t197, x191003_32, (t185.toList == ([120] : List UInt8)), 0)) else (some ((⟨#[]⟩ : ByteArray), 0, 0, (⟨#[]⟩ : ByteArray), false, t199)))) = some (r1, r2, r3, r4, r5, r6) := by rw [if_neg (show ¬ (false = true) by decide)] at H; exact H
                            clear H
                            have H := H1
                            clear H1
                            replace H := Option.bind_eq_some_iff.mp H
                            obtain ⟨t199, A540, H⟩ := H
                            replace H : (if t199 = 0 then (some (t191, t195, t197, x191003_32, (t185.toList == ([120] : List UInt8)), 0)) else (some ((⟨#[]⟩ : ByteArray), 0, 0, (⟨#[]⟩ : ByteArray), false, t199))) = some (r1, r2, r3, r4, r5, r6) := H
                            have A54 := Aside0.mk A540
                            clear A540
                            by_cases c55 : t199 = 0
                            · rw [if_pos c55] at H
                              have c55b0 : (t199 == 0) = true := beq_iff_eq.mpr c55
                              have c55b1 : (t199 != 0) = false := bne_eq_false_iff_eq.mpr c55
                              clear c55
                              simp only [Option.some.injEq, Prod.mk.injEq] at H
                              obtain ⟨rfl, rfl, rfl, rfl, rfl, rfl⟩ := H
                              have hnb56 := NB190_180.out
                              have hnc56 := NB180_190.out
                              have hcz57_0 : wc.cell? ⟨gb190, 0, none⟩ = some (.string t191) := (blk_cell BK190.out 0).trans rfl
                              have hcz57_1 : wc.cell? ⟨gb190, 1, none⟩ = some (.int .i64 0) := (blk_cell BK190.out 1).trans rfl
                              have hcz57_2 : wc.cell? ⟨gb190, 2, none⟩ = some (.int .i64 0) := (blk_cell BK190.out 2).trans rfl
                              have hcz57_3 : wc.cell? ⟨gb190, 3, none⟩ = some (.string x191003_32) := (blk_cell BK190.out 3).trans rfl
                              have hcz57_4 : wc.cell? ⟨gb190, 4, none⟩ = some (.bool (t185.toList == ([120] : List UInt8))) := (blk_cell BK190.out 4).trans rfl
                              have hfz57_0 := blk_frozen BK190.out 0
                              have hfz57_1 := blk_frozen BK190.out 1
                              have hfz57_2 := blk_frozen BK190.out 2
                              have hfz57_3 := blk_frozen BK190.out 3
                              have hfz57_4 := blk_frozen BK190.out 4
                              go_wp2_with (first | ((with_reducible refine gate_callee (f := 12) rfl ?_); refine goesL_ (some 124) rfl rfl Tryd.func12 (by kernel_rfl) rfl #[.agg #[.string t191, .int .i64 t195, .int .i64 t197, .string x191003_32, .bool (t185.toList == ([120] : List UInt8))]] rfl (by (try simp only [List.map_toArray, List.map_cons, List.map_nil]); first | done | rfl | (simp only [List.length_drop, List.length_take]; rfl)) ?_; (with_reducible refine (tidelineref03_Check.calls t191 t195 t197 x191003_32 (t185.toList == ([120] : List UInt8)) t199 _ A54.out).mono ?_); rintro e w58 ⟨rfl, hb⟩; refine ⟨_, rfl, ?_⟩; have n0_ := Aside0.mk (blk_below (g := gb180) (o := .cells #[.string x181000_32, .int .i64 x181001_32, .int .i64 x181002_32, .string x181003_32, .bool x181004_32] 25 (0, 0)) (by (with_reducible repeat (first | refine blk_drewN ?_ _ | refine blk_drew ?_ | refine blk_alloc ?_ _)); refine blk_far ?_ NB180_190.out _; (with_reducible repeat (first | refine blk_drewN ?_ _ | refine blk_drew ?_ | refine blk_alloc ?_ _)); refine blk_far ?_ NB180_190.out _; (with_reducible repeat (first | refine blk_drewN ?_ _ | refine blk_drew ?_ | refine blk_alloc ?_ _)); exact BK180.out) hb); have n1_ := Aside0.mk (blk_below (g := gb190) (o := .cells #[.string t191, .int .i64 t195, .int .i64 t197, .string x191003_32, .bool (t185.toList == ([120] : List UInt8))] 25 (0, 0)) (by (with_reducible repeat (first | refine blk_drewN ?_ _ | refine blk_drew ?_ | refine blk_alloc ?_ _)); refine blk_put (cs := #[.string t191, .int .i64 t195, .int .i64 0, .string x191003_32, .bool (t185.toList == ([120] : List UInt8))]) ?_ 2 _ (by first | rfl | simp [*]); (with_reducible repeat (first | refine blk_drewN ?_ _ | refine blk_drew ?_ | refine blk_alloc ?_ _)); refine blk_put (cs := #[.string t191, .int .i64 0, .int .i64 0, .string x191003_32, .bool (t185.toList == ([120] : List UInt8))]) ?_ 1 _ (by first | rfl | simp [*]); (with_reducible repeat (first | refine blk_drewN ?_ _ | refine blk_drew ?_ | refine blk_alloc ?_ _)); exact BK190.out) hb); have n2_ := Aside0.mk (below_step (by repeat (first | (with_reducible first | exact HB.out | apply below_alloc | apply pw_below_drewN | apply below_drew1 | refine below_set ?_ GE180.out | refine below_set ?_ GE190.out) | exact HB.out)) hb); clear BK180; clear BK190; clear HB; have BK180 := n0_; have BK190 := n1_; have HB := n2_; clear n0_ n1_ n2_; (try clear hb); (try clear hb2); (try clear hk); (try clear hi); have hcz59_0 : w58.cell? ⟨gb190, 0, none⟩ = some (.string t191) := (blk_cell BK190.out 0).trans rfl; have hcz59_1 : w58.cell? ⟨gb190, 1, none⟩ = some (.int .i64 t195) := (blk_cell BK190.out 1).trans rfl; have hcz59_2 : w58.cell? ⟨gb190, 2, none⟩ = some (.int .i64 t197) := (blk_cell BK190.out 2).trans rfl; have hcz59_3 : w58.cell? ⟨gb190, 3, none⟩ = some (.string x191003_32) := (blk_cell BK190.out 3).trans rfl; have hcz59_4 : w58.cell? ⟨gb190, 4, none⟩ = some (.bool (t185.toList == ([120] : List UInt8))) := (blk_cell BK190.out 4).trans rfl; have hfz59_0 := blk_frozen BK190.out 0; have hfz59_1 := blk_frozen BK190.out 1; have hfz59_2 := blk_frozen BK190.out 2; have hfz59_3 := blk_frozen BK190.out 3; have hfz59_4 := blk_frozen BK190.out 4; have hcz60_0 : w58.cell? ⟨gb180, 0, none⟩ = some (.string x181000_32) := (blk_cell BK180.out 0).trans rfl; have hcz60_1 : w58.cell? ⟨gb180, 1, none⟩ = some (.int .i64 x181001_32) := (blk_cell BK180.out 1).trans rfl; have hcz60_2 : w58.cell? ⟨gb180, 2, none⟩ = some (.int .i64 x181002_32) := (blk_cell BK180.out 2).trans rfl; have hcz60_3 : w58.cell? ⟨gb180, 3, none⟩ = some (.string x181003_32) := (blk_cell BK180.out 3).trans rfl; have hcz60_4 : w58.cell? ⟨gb180, 4, none⟩ = some (.bool x181004_32) := (blk_cell BK180.out 4).trans rfl; have hfz60_0 := blk_frozen BK180.out 0; have hfz60_1 := blk_frozen BK180.out 1; have hfz60_2 := blk_frozen BK180.out 2; have hfz60_3 := blk_frozen BK180.out 3; have hfz60_4 := blk_frozen BK180.out 4))
                              refine bodyPost_ret (results_ct rfl _ _ gb180 25 #[.string t191, .int .i64 t195, .int .i64 t197, .string x191003_32, .bool (t185.toList == ([120] : List UInt8))] (0, 0) _ rfl (by (with_reducible repeat (first | refine blk_drewN ?_ _ | refine blk_drew ?_ | refine blk_alloc ?_ _)); refine blk_put (cs := #[.string t191, .int .i64 t195, .int .i64 t197, .string x191003_32, .bool x181004_32]) ?_ 4 _ (by first | rfl | simp [*]); (with_reducible repeat (first | refine blk_drewN ?_ _ | refine blk_drew ?_ | refine blk_alloc ?_ _)); refine blk_put (cs := #[.string t191, .int .i64 t195, .int .i64 t197, .string x181003_32, .bool x181004_32]) ?_ 3 _ (by first | rfl | simp [*]); (with_reducible repeat (first | refine blk_drewN ?_ _ | refine blk_drew ?_ | refine blk_alloc ?_ _)); refine blk_put (cs := #[.string t191, .int .i64 t195, .int .i64 x181002_32, .string x181003_32, .bool x181004_32]) ?_ 2 _ (by first | rfl | simp [*]); (with_reducible repeat (first | refine blk_drewN ?_ _ | refine blk_drew ?_ | refine blk_alloc ?_ _)); refine blk_put (cs := #[.string t191, .int .i64 x181001_32, .int .i64 x181002_32, .string x181003_32, .bool x181004_32]) ?_ 1 _ (by first | rfl | simp [*]); (with_reducible repeat (first | refine blk_drewN ?_ _ | refine blk_drew ?_ | refine blk_alloc ?_ _)); refine blk_put (cs := #[.string x181000_32, .int .i64 x181001_32, .int .i64 x181002_32, .string x181003_32, .bool x181004_32]) ?_ 0 _ (by first | rfl | simp [*]); (with_reducible repeat (first | refine blk_drewN ?_ _ | refine blk_drew ?_ | refine blk_alloc ?_ _)); exact BK180.out) Tryd.underlying25 rfl (by kernel_rfl)) rfl ?_
                              exact ⟨by first | rfl | (simp [errW_none, errW_some] <;> rfl) | (simp [*, errW_none, errW_some] <;> rfl), by repeat (first | (with_reducible first | exact HB.out | apply below_alloc | apply pw_below_drewN | apply below_drew1 | refine below_set ?_ GE180.out | refine below_set ?_ GE190.out) | exact HB.out)⟩
                            · rw [if_neg c55] at H
                              have c55b0 : (t199 == 0) = false := beq_eq_false_iff_ne.mpr c55
                              have c55b1 : (t199 != 0) = true := bne_iff_ne.mpr c55
                              simp only [Option.some.injEq, Prod.mk.injEq] at H
                              obtain ⟨rfl, rfl, rfl, rfl, rfl, rfl⟩ := H
                              have hnb61 := NB190_180.out
                              have hnc61 := NB180_190.out
                              have hcz62_0 : wc.cell? ⟨gb190, 0, none⟩ = some (.string t191) := (blk_cell BK190.out 0).trans rfl
                              have hcz62_1 : wc.cell? ⟨gb190, 1, none⟩ = some (.int .i64 0) := (blk_cell BK190.out 1).trans rfl
                              have hcz62_2 : wc.cell? ⟨gb190, 2, none⟩ = some (.int .i64 0) := (blk_cell BK190.out 2).trans rfl
                              have hcz62_3 : wc.cell? ⟨gb190, 3, none⟩ = some (.string x191003_32) := (blk_cell BK190.out 3).trans rfl
                              have hcz62_4 : wc.cell? ⟨gb190, 4, none⟩ = some (.bool (t185.toList == ([120] : List UInt8))) := (blk_cell BK190.out 4).trans rfl
                              have hfz62_0 := blk_frozen BK190.out 0
                              have hfz62_1 := blk_frozen BK190.out 1
                              have hfz62_2 := blk_frozen BK190.out 2
                              have hfz62_3 := blk_frozen BK190.out 3
                              have hfz62_4 := blk_frozen BK190.out 4
                              go_wp2_with (first | ((with_reducible refine gate_callee (f := 12) rfl ?_); refine goesL_ (some 124) rfl rfl Tryd.func12 (by kernel_rfl) rfl #[.agg #[.string t191, .int .i64 t195, .int .i64 t197, .string x191003_32, .bool (t185.toList == ([120] : List UInt8))]] rfl (by (try simp only [List.map_toArray, List.map_cons, List.map_nil]); first | done | rfl | (simp only [List.length_drop, List.length_take]; rfl)) ?_; (with_reducible refine (tidelineref03_Check.calls t191 t195 t197 x191003_32 (t185.toList == ([120] : List UInt8)) t199 _ A54.out).mono ?_); rintro e w63 ⟨rfl, hb⟩; refine ⟨_, rfl, ?_⟩; have n0_ := Aside0.mk (blk_below (g := gb180) (o := .cells #[.string x181000_32, .int .i64 x181001_32, .int .i64 x181002_32, .string x181003_32, .bool x181004_32] 25 (0, 0)) (by (with_reducible repeat (first | refine blk_drewN ?_ _ | refine blk_drew ?_ | refine blk_alloc ?_ _)); refine blk_far ?_ NB180_190.out _; (with_reducible repeat (first | refine blk_drewN ?_ _ | refine blk_drew ?_ | refine blk_alloc ?_ _)); refine blk_far ?_ NB180_190.out _; (with_reducible repeat (first | refine blk_drewN ?_ _ | refine blk_drew ?_ | refine blk_alloc ?_ _)); exact BK180.out) hb); have n1_ := Aside0.mk (blk_below (g := gb190) (o := .cells #[.string t191, .int .i64 t195, .int .i64 t197, .string x191003_32, .bool (t185.toList == ([120] : List UInt8))] 25 (0, 0)) (by (with_reducible repeat (first | refine blk_drewN ?_ _ | refine blk_drew ?_ | refine blk_alloc ?_ _)); refine blk_put (cs := #[.string t191, .int .i64 t195, .int .i64 0, .string x191003_32, .bool (t185.toList == ([120] : List UInt8))]) ?_ 2 _ (by first | rfl | simp [*]); (with_reducible repeat (first | refine blk_drewN ?_ _ | refine blk_drew ?_ | refine blk_alloc ?_ _)); refine blk_put (cs := #[.string t191, .int .i64 0, .int .i64 0, .string x191003_32, .bool (t185.toList == ([120] : List UInt8))]) ?_ 1 _ (by first | rfl | simp [*]); (with_reducible repeat (first | refine blk_drewN ?_ _ | refine blk_drew ?_ | refine blk_alloc ?_ _)); exact BK190.out) hb); have n2_ := Aside0.mk (below_step (by repeat (first | (with_reducible first | exact HB.out | apply below_alloc | apply pw_below_drewN | apply below_drew1 | refine below_set ?_ GE180.out | refine below_set ?_ GE190.out) | exact HB.out)) hb); clear BK180; clear BK190; clear HB; have BK180 := n0_; have BK190 := n1_; have HB := n2_; clear n0_ n1_ n2_; (try clear hb); (try clear hb2); (try clear hk); (try clear hi); have hcz64_0 : w63.cell? ⟨gb180, 0, none⟩ = some (.string x181000_32) := (blk_cell BK180.out 0).trans rfl; have hcz64_1 : w63.cell? ⟨gb180, 1, none⟩ = some (.int .i64 x181001_32) := (blk_cell BK180.out 1).trans rfl; have hcz64_2 : w63.cell? ⟨gb180, 2, none⟩ = some (.int .i64 x181002_32) := (blk_cell BK180.out 2).trans rfl; have hcz64_3 : w63.cell? ⟨gb180, 3, none⟩ = some (.string x181003_32) := (blk_cell BK180.out 3).trans rfl; have hcz64_4 : w63.cell? ⟨gb180, 4, none⟩ = some (.bool x181004_32) := (blk_cell BK180.out 4).trans rfl; have hfz64_0 := blk_frozen BK180.out 0; have hfz64_1 := blk_frozen BK180.out 1; have hfz64_2 := blk_frozen BK180.out 2; have hfz64_3 := blk_frozen BK180.out 3; have hfz64_4 := blk_frozen BK180.out 4))
                              refine bodyPost_ret (results_ct rfl _ _ gb180 25 #[.string (⟨#[]⟩ : ByteArray), .int .i64 0, .int .i64 0, .string (⟨#[]⟩ : ByteArray), .bool false] (0, 0) _ rfl (by (with_reducible repeat (first | refine blk_drewN ?_ _ | refine blk_drew ?_ | refine blk_alloc ?_ _)); refine blk_put (cs := #[.string (⟨#[]⟩ : ByteArray), .int .i64 0, .int .i64 0, .string (⟨#[]⟩ : ByteArray), .bool x181004_32]) ?_ 4 _ (by first | rfl | simp [*]); (with_reducible repeat (first | refine blk_drewN ?_ _ | refine blk_drew ?_ | refine blk_alloc ?_ _)); refine blk_put (cs := #[.string (⟨#[]⟩ : ByteArray), .int .i64 0, .int .i64 0, .string x181003_32, .bool x181004_32]) ?_ 3 _ (by first | rfl | simp [*]); (with_reducible repeat (first | refine blk_drewN ?_ _ | refine blk_drew ?_ | refine blk_alloc ?_ _)); refine blk_put (cs := #[.string (⟨#[]⟩ : ByteArray), .int .i64 0, .int .i64 x181002_32, .string x181003_32, .bool x181004_32]) ?_ 2 _ (by first | rfl | simp [*]); (with_reducible repeat (first | refine blk_drewN ?_ _ | refine blk_drew ?_ | refine blk_alloc ?_ _)); refine blk_put (cs := #[.string (⟨#[]⟩ : ByteArray), .int .i64 x181001_32, .int .i64 x181002_32, .string x181003_32, .bool x181004_32]) ?_ 1 _ (by first | rfl | simp [*]); (with_reducible repeat (first | refine blk_drewN ?_ _ | refine blk_drew ?_ | refine blk_alloc ?_ _)); refine blk_put (cs := #[.string x181000_32, .int .i64 x181001_32, .int .i64 x181002_32, .string x181003_32, .bool x181004_32]) ?_ 0 _ (by first | rfl | simp [*]); (with_reducible repeat (first | refine blk_drewN ?_ _ | refine blk_drew ?_ | refine blk_alloc ?_ _)); exact BK180.out) Tryd.underlying25 rfl (by kernel_rfl)) rfl ?_
                              exact ⟨by first | rfl | (simp [errW_none, errW_some] <;> rfl) | (simp [*, errW_none, errW_some] <;> rfl), by repeat (first | (with_reducible first | exact HB.out | apply below_alloc | apply pw_below_drewN | apply below_drew1 | refine below_set ?_ GE180.out | refine below_set ?_ GE190.out) | exact HB.out)⟩
                · rw [if_neg c32] at H
                  have c32b0 : (t192 == 0) = false := beq_eq_false_iff_ne.mpr c32
                  have c32b1 : (t192 != 0) = true := bne_iff_ne.mpr c32
                  simp only [Option.some.injEq, Prod.mk.injEq] at H
                  obtain ⟨rfl, rfl, rfl, rfl, rfl, rfl⟩ := H
                  go_wp2_with (first | ((with_reducible refine gate_callee (f := 17) rfl ?_); refine goesL_ (some 80) rfl rfl Tryd.func17 (by kernel_rfl) rfl #[.string (t181.extract 1 t181.size)] rfl (by (try simp only [List.map_toArray, List.map_cons, List.map_nil]); first | done | rfl | (simp only [List.length_drop, List.length_take]; rfl)) ?_; (with_reducible refine (tidelineref01_Unhex.calls kj15 (t181.extract 1 t181.size) t191 t192 _ A31.out).mono ?_); rintro e w65 ⟨rfl, hb⟩; refine ⟨_, rfl, ?_⟩; have n0_ := Aside0.mk (blk_below (g := gb180) (o := .cells #[.string (⟨#[]⟩ : ByteArray), .int .i64 0, .int .i64 0, .string (⟨#[]⟩ : ByteArray), .bool false] 25 (0, 0)) (by (with_reducible repeat (first | refine blk_drewN ?_ _ | refine blk_drew ?_ | refine blk_alloc ?_ _)); exact BK180.out) hb); have n1_ := Aside0.mk (blk_below (g := gb190) (o := .cells #[.string (⟨#[]⟩ : ByteArray), .int .i64 0, .int .i64 0, .string (⟨#[]⟩ : ByteArray), .bool (t185.toList == ([120] : List UInt8))] 25 (0, 0)) (by (with_reducible repeat (first | refine blk_drewN ?_ _ | refine blk_drew ?_ | refine blk_alloc ?_ _)); exact BK190.out) hb); have n2_ := Aside0.mk (below_step (by repeat (first | (with_reducible first | exact HB.out | apply below_alloc | apply pw_below_drewN | apply below_drew1 | refine below_set ?_ GE180.out | refine below_set ?_ GE190.out) | exact HB.out)) hb); clear BK180; clear BK190; clear HB; have BK180 := n0_; have BK190 := n1_; have HB := n2_; clear n0_ n1_ n2_; (try clear hb); (try clear hb2); (try clear hk); (try clear hi); have hnb66 := NB180_190.out; have hnc66 := NB190_180.out; have hcz67_0 : w65.cell? ⟨gb180, 0, none⟩ = some (.string (⟨#[]⟩ : ByteArray)) := (blk_cell BK180.out 0).trans rfl; have hcz67_1 : w65.cell? ⟨gb180, 1, none⟩ = some (.int .i64 0) := (blk_cell BK180.out 1).trans rfl; have hcz67_2 : w65.cell? ⟨gb180, 2, none⟩ = some (.int .i64 0) := (blk_cell BK180.out 2).trans rfl; have hcz67_3 : w65.cell? ⟨gb180, 3, none⟩ = some (.string (⟨#[]⟩ : ByteArray)) := (blk_cell BK180.out 3).trans rfl; have hcz67_4 : w65.cell? ⟨gb180, 4, none⟩ = some (.bool false) := (blk_cell BK180.out 4).trans rfl; have hfz67_0 := blk_frozen BK180.out 0; have hfz67_1 := blk_frozen BK180.out 1; have hfz67_2 := blk_frozen BK180.out 2; have hfz67_3 := blk_frozen BK180.out 3; have hfz67_4 := blk_frozen BK180.out 4))
                  refine bodyPost_ret (results_ct rfl _ _ gb180 25 #[.string (⟨#[]⟩ : ByteArray), .int .i64 0, .int .i64 0, .string (⟨#[]⟩ : ByteArray), .bool false] (0, 0) _ rfl (by (with_reducible repeat (first | refine blk_drewN ?_ _ | refine blk_drew ?_ | refine blk_alloc ?_ _)); refine blk_put (cs := #[.string (⟨#[]⟩ : ByteArray), .int .i64 0, .int .i64 0, .string (⟨#[]⟩ : ByteArray), .bool false]) ?_ 4 _ (by first | rfl | simp [*]); (with_reducible repeat (first | refine blk_drewN ?_ _ | refine blk_drew ?_ | refine blk_alloc ?_ _)); refine blk_put (cs := #[.string (⟨#[]⟩ : ByteArray), .int .i64 0, .int .i64 0, .string (⟨#[]⟩ : ByteArray), .bool false]) ?_ 3 _ (by first | rfl | simp [*]); (with_reducible repeat (first | refine blk_drewN ?_ _ | refine blk_drew ?_ | refine blk_alloc ?_ _)); refine blk_put (cs := #[.string (⟨#[]⟩ : ByteArray), .int .i64 0, .int .i64 0, .string (⟨#[]⟩ : ByteArray), .bool false]) ?_ 2 _ (by first | rfl | simp [*]); (with_reducible repeat (first | refine blk_drewN ?_ _ | refine blk_drew ?_ | refine blk_alloc ?_ _)); refine blk_put (cs := #[.string (⟨#[]⟩ : ByteArray), .int .i64 0, .int .i64 0, .string (⟨#[]⟩ : ByteArray), .bool false]) ?_ 1 _ (by first | rfl | simp [*]); (with_reducible repeat (first | refine blk_drewN ?_ _ | refine blk_drew ?_ | refine blk_alloc ?_ _)); refine blk_put (cs := #[.string (⟨#[]⟩ : ByteArray), .int .i64 0, .int .i64 0, .string (⟨#[]⟩ : ByteArray), .bool false]) ?_ 0 _ (by first | rfl | simp [*]); (with_reducible repeat (first | refine blk_drewN ?_ _ | refine blk_drew ?_ | refine blk_alloc ?_ _)); exact BK180.out) Tryd.underlying25 rfl (by kernel_rfl)) rfl ?_
                  exact ⟨by first | rfl | (simp [errW_none, errW_some] <;> rfl) | (simp [*, errW_none, errW_some] <;> rfl), by repeat (first | (with_reducible first | exact HB.out | apply below_alloc | apply pw_below_drewN | apply below_drew1 | refine below_set ?_ GE180.out | refine below_set ?_ GE190.out) | exact HB.out)⟩
              · rw [if_neg c30] at H
                exact absurd H (by simp)

end Go.Proofs.YthnjlbdkcpgcjaaDoor.PAll
