-- By wip/late.py (a program of this session) out of wip/words.
import Derived.Test.YthnjlbdkcpgcjaaDoorProg
import Derived.Test.YthnjlbdkcpgcjaaDoorWWords
import Derived.Test.YthnjlbdkcpgcjaaDoorWLast
import Derived.Test.YthnjlbdkcpgcjaaDoorWMore
import Derived.Test.YthnjlbdkcpgcjaaDoorSDig
import Derived.Test.YthnjlbdkcpgcjaaDoorShelf
import Derived.Test.YthnjlbdkcpgcjaaDoorSStr
import Derived.Test.YthnjlbdkcpgcjaaDoorSMake
import Derived.WalkSmall
import Derived.Lib.AppendIntMem
import Derived.BigQuiet
import Derived.Deep.QuietTactic
import Derived.Lib.Hide
import Derived.WalkKit
set_option linter.unusedVariables false
set_option linter.unusedSimpArgs false
namespace Go.Proofs.YthnjlbdkcpgcjaaDoor.Dig
open Go.RowKit Go.Shelf Go.Lib Go.Proofs.YthnjlbdkcpgcjaaDoorW.PrintWords
/-! Texts as numbers. -/
theorem rdigits_neg (n : Int) (hn : n < 0) (w : World) : Calls Tryd.prog 14 #[.int .i64 n] w fun e w' => e = .returned (.string ⟨(decDigits 0).toArray⟩) ∧ ∃ q, w' = w.drewN q := by
  have c1 : decide (n < 10) = true := decide_eq_true (by omega)
  have c2 : decide (n < 0) = true := decide_eq_true hn
  have hsl : ∀ w, (Instr.slice 9 (.string ⟨#[48, 49, 50, 51, 52, 53, 54, 55, 56, 57]⟩) (some (.int .i64 0)) (some (.int .i64 1)) none).run Tryd.prog w = .ok (.string ⟨#[48]⟩) w := fun w => dslice 0 (by decide) w
  go_enter Tryd.func14, Tryd.ntmps14
  go_wp2
  go_ret
  exact ⟨by rw [decDigits, dif_pos (by decide)]; rfl, 0, rfl⟩
theorem below_bytes (w : World) (e : TypeId) (t : ByteArray) : Below w.heap.size w (bytesWorld w e t) := ⟨rfl, rfl, rfl, by rw [bytesWorld_size]; omega, fun k hk => bytesWorld_at_old w e t k hk⟩
theorem pu_ok (t : ByteArray) (hne : t.size ≠ 0) (hmax : t.size ≤ 9223372036854775806) (u : Nat) (h : parseUint10 0 t.data.toList = .ok u) (w : World) :
    Calls Tryd.prog 41 #[.string t, .int .i64 10, .int .i64 64] w fun e w' => e = .returned (.tuple #[.int .u64 u, .nilIface]) ∧ Below w.heap.size w w' := by
  have hI := Tryd.internal_strconv_ParseUint_10_b64 t hne hmax w
  rw [h] at hI
  have hI' : Calls Tryd.prog 54 #[.string t, .int .i64 10, .int .i64 64] w fun e w' => e = .returned (.tuple #[.int .u64 u, .nilIface]) ∧ w' = bytesWorld w 5 t := hI
  clear hI h
  go_enter Tryd.func41, Tryd.ntmps41
  go_wp2_with (go_at_call 54; refine hI'.mono ?_; rintro e W1 ⟨rfl, rfl⟩)
  go_ret2
  exact ⟨rfl, below_bytes _ _ _⟩
theorem pu_range (t : ByteArray) (hne : t.size ≠ 0) (hmax : t.size ≤ 9223372036854775806) (hlim : t.size ≤ 281474976710656) (h : parseUint10 0 t.data.toList = .range) (w : World) (hT : TabsOK w) :
    Calls Tryd.prog 41 #[.string t, .int .i64 10, .int .i64 64] w fun e w' => ∃ (v : Int) (N : Nat), e = .returned (.tuple #[.int .u64 v, .iface 88 (.pointer (some ⟨N, 0, none⟩))]) ∧ Below w.heap.size w w' := by
  have hI := Tryd.internal_strconv_ParseUint_10_b64 t hne hmax w
  rw [h] at hI
  have hI' : Calls Tryd.prog 54 #[.string t, .int .i64 10, .int .i64 64] w fun e w' => e = .returned (.tuple #[.int .u64 18446744073709551615, .iface 85 (.int .i64 1)]) ∧ w' = bytesWorld w 5 t := hI
  clear hI h
  go_enter Tryd.func41, Tryd.ntmps41
  go_wp2_with (first
    | (go_at_call 54; refine hI'.mono ?_; rintro e W1 ⟨rfl, hW⟩; have HB := Aside0.mk (hW ▸ below_bytes w 5 t : Below w.heap.size w W1); clear hW; obtain ⟨_, ev, hv, hev⟩ := hT.below HB.out)
    | (go_at_call 55; refine (Tryd.strconv_toError_range _ t _ _ ev _ hlim hv hev).mono ?_; rintro e W2 ⟨N, rfl, _, _, hb2⟩))
  go_ret2
  exact ⟨_, _, rfl, HB.out.trans (hb2.mono HB.out.size)⟩
/-- Is a byte a digit? -/
def isD (c : UInt8) : Bool := decide (48 ≤ c.toNat) && decide (c.toNat ≤ 57)
/-- A number that ParseUint tells, within a bound. -/
def numU (e : NumEnd Nat) (most : Int) : Int × Int :=
  match e with
  | .ok u => if 9223372036854775807 < u then (0, 12) else if most < (u : Int) then (0, 12) else ((u : Int), 0)
  | _ => (0, 12)
/-- What nums.Parse answers. -/
def numP (l : List UInt8) (most : Int) : Int × Int :=
  if l.length = 0 then (0, 23) else if l.getD 0 0 = 48 ∧ l ≠ [48] then (0, 23) else if l.all isD = true then numU (parseUint10 0 l) most else (0, 23)
theorem toL (t : ByteArray) : t.toList = t.data.toList := Go.ByteArray.toList_eq t
theorem digits_end : ∀ (l : List UInt8) (acc : Nat), l.all isD = true → (∃ u, parseUint10 acc l = .ok u) ∨ parseUint10 acc l = .range
  | [], acc, _ => .inl ⟨acc, by rw [parseUint10]⟩
  | c :: l, acc, h => by
    simp only [List.all_cons, Bool.and_eq_true] at h
    have hc : 48 ≤ c.toNat ∧ c.toNat ≤ 57 := by simpa [isD] using h.1
    rw [parseUint10, if_pos hc]
    split
    · exact .inr rfl
    · split
      · exact .inr rfl
      · exact digits_end l _ h.2
theorem all_at {l : List UInt8} {k : Nat} (hk : k < l.length) : (l.take (k + 1)).all isD = ((l.take k).all isD && isD (l.getD k 0)) := by
  rw [List.take_add_one, List.all_append, List.getD_eq_getElem?_getD, List.getElem?_eq_getElem hk]
  simp
theorem not_all {l : List UInt8} {k : Nat} (hk : k < l.length) (h : isD (l.getD k 0) = false) : l.all isD = false := by
  rw [Bool.eq_false_iff]
  intro ha
  have := List.all_eq_true.1 ha (l.getD k 0) (by rw [List.getD_eq_getElem?_getD, List.getElem?_eq_getElem hk]; exact List.getElem_mem hk)
  rw [h] at this
  cases this
set_option maxRecDepth 100000 in
set_option maxHeartbeats 4000000 in
theorem parse_calls (t : ByteArray) (most : Int) (hlim : t.size ≤ 4294967296) (w : World) (hT : TabsOK w) :
    Calls Tryd.prog 33 #[.string t, .int .i64 most] w fun e w' => e = .returned (.tuple #[.int .i64 (numP t.data.toList most).1, .int .i64 (numP t.data.toList most).2]) ∧ Below w.heap.size w w' := by
  have hLn : t.data.toList.length = t.size := Lib.size_eq t
  by_cases h0 : t.size = 0
  · have hr : numP t.data.toList most = (0, 23) := by unfold numP; rw [if_pos (by omega)]
    have ht : t = ⟨#[]⟩ := by
      apply ByteArray.ext
      exact Array.eq_empty_of_size_eq_zero h0
    rw [hr]
    subst ht
    go_enter Tryd.func33, Tryd.ntmps33
    go_wp2
    go_ret2
    exact ⟨rfl, Below.refl _ _⟩
  · have hp0 : 0 < t.size := Nat.pos_of_ne_zero h0
    have hemp : t.toList.isEmpty = false := by rw [toL]; cases h : t.data.toList with | nil => rw [h] at hLn; simp at hLn; omega | cons a l => rfl
    have hg0 : (t[0]'hp0) = t.data.toList.getD 0 0 := by
      rw [List.getD_eq_getElem?_getD, List.getElem?_eq_getElem (by omega)]; rfl
    have h48 : t.data.toList.getD 0 0 = 48 ↔ ((t[0]'hp0).toNat : Int) = 48 := by
      rw [← hg0]
      constructor
      · intro h; rw [h]; rfl
      · intro h; exact UInt8.toNat_inj.1 (by have : (48 : UInt8).toNat = 48 := rfl; omega)
    by_cases hbad : t.data.toList.getD 0 0 = 48 ∧ t.data.toList ≠ [48]
    · have hr : numP t.data.toList most = (0, 23) := by unfold numP; rw [if_neg (by omega), if_pos hbad]
      rw [hr]
      have e0 := h48.1 hbad.1
      have e1 : (!(t.toList == [48])) = true := by rw [toL]; simpa using hbad.2
      clear hg0 h48 hbad hr hLn
      go_enter Tryd.func33, Tryd.ntmps33
      go_wp2
      go_ret2
      exact ⟨rfl, Below.refl _ _⟩
    · have hE : (((t[0]'hp0).toNat : Int) = 48 ∧ (!(t.toList == [48])) = false) ∨ (((t[0]'hp0).toNat : Int) == 48) = false := by
        by_cases h1 : t.data.toList.getD 0 0 = 48
        · refine .inl ⟨h48.1 h1, ?_⟩
          rw [toL]
          have : t.data.toList = [48] := Classical.byContradiction fun h => hbad ⟨h1, h⟩
          rw [this]; rfl
        · exact .inr (by rw [beq_eq_false_iff_ne]; exact fun h => h1 (h48.2 h))
      have hr : numP t.data.toList most = if t.data.toList.all isD = true then numU (parseUint10 0 t.data.toList) most else (0, 23) := by unfold numP; rw [if_neg (by omega), if_neg hbad]
      have hcv := Go.Lib.run_convert_string_bytes (P := Tryd.prog) w 9 44 5 t Tryd.underlying9 Tryd.underlying44 Tryd.underlying5
      have hBW := Aside0.mk (below_bytes w 5 t)
      have hB := Aside0.mk (fun j (hj : j < t.size) => bytesWorld_cell w 5 t j hj)
      generalize bytesWorld w 5 t = W1 at hcv hBW hB
      generalize grownCap w t.size 0 5 = cc at hcv
      have HR := Aside0.mk hr
      have HT := Aside0.mk hT
      have HL := Aside0.mk hLn
      generalize hbs : t.data.toList = bs at HR HL hB
      have HBS := Aside0.mk hbs
      clear hg0 h48 hbad hr hT hLn hbs
      go_enter Tryd.func33, Tryd.ntmps33
      rcases hE with ⟨e0, e1⟩ | e0
      all_goals
        go_wp2
        go_loop [24] (fun v24 => ∃ k : Nat, v24 = .int .i64 k ∧ k ≤ t.size ∧ Aside0 ((bs.take k).all isD = true)) (fun v24 => t.size - (Go.RowKit.intOf v24).toNat)
        case atStart => exact ⟨0, rfl, by omega, ⟨by simp⟩⟩
        case round =>
          obtain ⟨k, rfl, hk, HA⟩ := hrel
          by_cases hkn : k < t.size
          · have hc := hB.out k hkn
            have HK := Aside0.mk (all_at (l := bs) (k := k) (by rw [HL.out]; exact hkn))
            have HN := Aside0.mk (not_all (l := bs) (k := k) (by rw [HL.out]; exact hkn))
            generalize bs.getD k 0 = c at hc HK HN
            have hc256 : c.toNat < 256 := c.toNat_lt
            by_cases hlo : c.toNat < 48
            · have i0 : (c.toNat : Int) < 48 := by omega
              have hd : isD c = false := by unfold isD; rw [decide_eq_false (by omega), Bool.false_and]
              have HZ := Aside0.mk (HN.out hd)
              clear HK HN hd hlo HA
              go_wp2
              go_ret2
              exact ⟨by rw [HR.out, HZ.out]; rfl, hBW.out⟩
            · have i0 : ¬ (c.toNat : Int) < 48 := by omega
              by_cases hhi : c.toNat > 57
              · have i1 : (c.toNat : Int) > 57 := by omega
                have hd : isD c = false := by unfold isD; rw [decide_eq_false (show ¬ c.toNat ≤ 57 by omega), Bool.and_false]
                have HZ := Aside0.mk (HN.out hd)
                clear HK HN hd hlo hhi HA
                go_wp2
                go_ret2
                exact ⟨by rw [HR.out, HZ.out]; rfl, hBW.out⟩
              · have i1 : ¬ (c.toNat : Int) > 57 := by omega
                have hd : isD c = true := by unfold isD; rw [decide_eq_true (by omega), decide_eq_true (by omega)]; rfl
                have HA' := Aside0.mk (show (bs.take (k + 1)).all isD = true by rw [HK.out, HA.out, hd]; rfl)
                clear HK HN hd hlo hhi HA
                go_wp2
                exact ⟨⟨k + 1, rfl, by omega, HA'⟩, by simp [Go.RowKit.intOf]; omega⟩
          · obtain rfl : k = t.size := by omega
            have HF := Aside0.mk (show bs.all isD = true by have := HA.out; rwa [← HL.out, List.take_length] at this)
            have HT1 := Aside0.mk (HT.out.below hBW.out)
            clear HA hkn
            rcases digits_end bs 0 HF.out with ⟨u, hp⟩ | hp
            rotate_left
            · have HP := Aside0.mk (show parseUint10 0 t.data.toList = .range by rw [HBS.out]; exact hp)
              have HX := Aside0.mk (show numP bs most = (0, 12) by rw [HR.out, if_pos HF.out, hp]; rfl)
              clear hp
              go_wp2_with (go_at_call 41; refine (pu_range t h0 (by omega) (by omega) HP.out _ HT1.out).mono ?_; rintro e W2 ⟨v, N, rfl, hb2⟩; have HB2 := Aside0.mk hb2; clear hb2)
              go_ret2
              exact ⟨by rw [HX.out]; rfl, hBW.out.trans (HB2.out.mono hBW.out.size)⟩
            · have HP := Aside0.mk (show parseUint10 0 t.data.toList = .ok u by rw [HBS.out]; exact hp)
              have HX := Aside0.mk (show numP bs most = if 9223372036854775807 < u then (0, 12) else if most < (u : Int) then (0, 12) else ((u : Int), 0) by rw [HR.out, if_pos HF.out, hp]; rfl)
              clear hp
              obtain ⟨z, hz⟩ : ∃ z : Int, z = (u : Int) := ⟨_, rfl⟩
              have HZ := Aside0.mk hz
              have z0 : 0 ≤ z := by omega
              have HPU : ∀ w, Calls Tryd.prog 41 #[.string t, .int .i64 10, .int .i64 64] w fun e w' => e = .returned (.tuple #[.int .u64 z, .nilIface]) ∧ Below w.heap.size w w' := fun w => by rw [hz]; exact pu_ok t h0 (by omega) u HP.out w
              clear hz
              by_cases h1 : 9223372036854775807 < z
              · have i1 : z > 9223372036854775807 := h1
                have HX' := Aside0.mk (show numP bs most = (0, 12) by rw [HX.out, if_pos (by have := HZ.out; omega)])
                go_wp2_with (go_at_call 41; refine (HPU _).mono ?_; rintro e W2 ⟨rfl, hb2⟩; have HB2 := Aside0.mk hb2; clear hb2)
                go_ret2
                exact ⟨by rw [HX'.out]; rfl, hBW.out.trans (HB2.out.mono hBW.out.size)⟩
              · have i1 : ¬ z > 9223372036854775807 := h1
                have hwr : IntKind.i64.wrap z = z := by rw [IntKind.wrap_i64]; omega
                by_cases h2 : most < z
                · have i2 : z > most := h2
                  have HX' := Aside0.mk (show numP bs most = (0, 12) by rw [HX.out, if_neg (by have := HZ.out; omega), if_pos (by have := HZ.out; omega)])
                  go_wp2_with (go_at_call 41; refine (HPU _).mono ?_; rintro e W2 ⟨rfl, hb2⟩; have HB2 := Aside0.mk hb2; clear hb2)
                  go_ret2
                  exact ⟨by rw [HX'.out]; rfl, hBW.out.trans (HB2.out.mono hBW.out.size)⟩
                · have i2 : ¬ z > most := h2
                  have HX' := Aside0.mk (show numP bs most = (z, 0) by rw [HX.out, if_neg (by have := HZ.out; omega), if_neg (by have := HZ.out; omega), HZ.out])
                  go_wp2_with (go_at_call 41; refine (HPU _).mono ?_; rintro e W2 ⟨rfl, hb2⟩; have HB2 := Aside0.mk hb2; clear hb2)
                  go_ret2
                  exact ⟨by rw [HX'.out]; rfl, hBW.out.trans (HB2.out.mono hBW.out.size)⟩
end Go.Proofs.YthnjlbdkcpgcjaaDoor.Dig
