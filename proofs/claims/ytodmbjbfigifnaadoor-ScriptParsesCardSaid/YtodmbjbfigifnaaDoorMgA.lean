import Derived.Test.YtodmbjbfigifnaaDoorProg
import Derived.Test.YtodmbjbfigifnaaDoorWWords
import Derived.Test.YtodmbjbfigifnaaDoorWLast
import Derived.Test.YtodmbjbfigifnaaDoorWMore
import Derived.Test.YtodmbjbfigifnaaDoorSTabs
import Derived.Test.YtodmbjbfigifnaaDoorShelf
import Derived.Test.YtodmbjbfigifnaaDoorSStr
import Derived.Test.YtodmbjbfigifnaaDoorSMake
import Derived.WalkSmall
import Derived.Lib.AppendIntMem
import Derived.BigQuiet
import Derived.Deep.QuietTactic
import Derived.Lib.Hide
import Derived.WalkKit
import Derived.Test.YtodmbjbfigifnaaDoorSGlobD
import Derived.Test.YtodmbjbfigifnaaDoorPAllx0
import Derived.Test.YtodmbjbfigifnaaDoorPAllx6
import Derived.Test.YtodmbjbfigifnaaDoorMgG
import Derived.Lib.IndexBytes
import Derived.Lib.CutLaws
import Derived.Lib.SplitLaws
import Derived.Lib.IndexMore
import Derived.Lib.Replace
section
-- By wip/late.py (a program of this session) out of wip/words.
set_option linter.unusedVariables false
set_option linter.unusedSimpArgs false
namespace Go.Proofs.YtodmbjbfigifnaaDoor.Dig
open Go.RowKit Go.Shelf Go.Lib Go.Proofs.YtodmbjbfigifnaaDoorW.PrintWords
/-! Numbers as text. -/
theorem itoa_nat (m : Nat) : itoa (m : Int) = decDigits m := by
  unfold itoa
  rw [if_neg (by omega), Int.toNat_natCast]
theorem digits_calls (m : Nat) (n : Int) (hm : max n 0 = (m : Int)) (h1 : n ≤ 9223372036854775807) (w : World) (hT : TabsOK w) :
    Calls Tryd.prog 34 #[.int .i64 n] w fun e w' => e = .returned (.string ⟨(decDigits m).toArray⟩) ∧ Below w.heap.size w w' := by
  go_enter Tryd.func34, Tryd.ntmps34
  go_wp2_with (go_at_call 49; refine (Tryd.strconv_Itoa (m : Int) (by omega) (by omega) _ hT.1).mono ?_; rintro e w1 ⟨rfl, q, os, rfl⟩)
  go_ret
  exact ⟨by rw [itoa_nat]; rfl, below_grow _ _ (Nat.le_refl _) _ _⟩
theorem digit_piece : ∀ i : Fin 10, (⟨#[48, 49, 50, 51, 52, 53, 54, 55, 56, 57]⟩ : ByteArray).extract i.val (i.val + 1) = ⟨#[UInt8.ofNat (48 + i.val)]⟩ := by decide +kernel
theorem dslice (i : Nat) (hi : i < 10) (w : World) : (Instr.slice 9 (.string ⟨#[48, 49, 50, 51, 52, 53, 54, 55, 56, 57]⟩) (some (.int .i64 (i : Int))) (some (.int .i64 ((i : Int) + 1))) none).run Tryd.prog w = .ok (.string ⟨#[UInt8.ofNat (48 + i)]⟩) w := by
  rw [run_slice_string _ 9 _ .i64 .i64 (i : Int) ((i : Int) + 1) Tryd.underlying9 (by omega) (by omega) (by show _ ≤ ((10 : Nat) : Int); omega)]
  rw [show ((i : Int) + 1).toNat = i + 1 by omega, Int.toNat_natCast, digit_piece ⟨i, hi⟩]
theorem nDigits_le (m : Nat) : nDigits m ≤ m + 1 := by
  induction m using Nat.strongRecOn with
  | _ m ih =>
    by_cases h : m < 10
    · rw [nDigits_small h]; omega
    · rw [nDigits_big h]
      have := ih (m / 10) (by omega)
      omega
theorem dec_size (m : Nat) : (⟨(decDigits m).toArray⟩ : ByteArray).size ≤ m + 1 := by
  show (decDigits m).toArray.size ≤ _
  rw [List.size_toArray, decDigits_length]
  exact nDigits_le m
theorem dec_snoc {m : Nat} (h : ¬ m < 10) : (⟨(decDigits (m / 10)).toArray⟩ : ByteArray) ++ ⟨#[UInt8.ofNat (48 + m % 10)]⟩ = ⟨(decDigits m).toArray⟩ := by
  rw [show decDigits m = decDigits (m / 10) ++ [UInt8.ofNat (48 + m % 10)] by rw [decDigits, dif_neg h]]
  apply ByteArray.ext
  simp
end Go.Proofs.YtodmbjbfigifnaaDoor.Dig
end

section
-- By wip/late.py (a program of this session) out of wip/words.
set_option linter.unusedVariables false
set_option linter.unusedSimpArgs false
namespace Go.Proofs.YtodmbjbfigifnaaDoor.Dig
open Go.RowKit Go.Shelf Go.Lib Go.Proofs.YtodmbjbfigifnaaDoorW.PrintWords
/-! Texts as numbers. -/
theorem below_bytes (w : World) (e : TypeId) (t : ByteArray) : Below w.heap.size w (bytesWorld w e t) := ⟨rfl, rfl, rfl, by rw [bytesWorld_size]; omega, fun k hk => bytesWorld_at_old w e t k hk⟩
theorem pu_ok (t : ByteArray) (hne : t.size ≠ 0) (hmax : t.size ≤ 9223372036854775806) (u : Nat) (h : parseUint10 0 t.data.toList = .ok u) (w : World) :
    Calls Tryd.prog 71 #[.string t, .int .i64 10, .int .i64 64] w fun e w' => e = .returned (.tuple #[.int .u64 u, .nilIface]) ∧ Below w.heap.size w w' := by
  have hI := Tryd.internal_strconv_ParseUint_10_b64 t hne hmax w
  rw [h] at hI
  have hI' : Calls Tryd.prog 78 #[.string t, .int .i64 10, .int .i64 64] w fun e w' => e = .returned (.tuple #[.int .u64 u, .nilIface]) ∧ w' = bytesWorld w 5 t := hI
  clear hI h
  go_enter Tryd.func71, Tryd.ntmps71
  go_wp2_with (go_at_call 78; refine hI'.mono ?_; rintro e W1 ⟨rfl, rfl⟩)
  go_ret2
  exact ⟨rfl, below_bytes _ _ _⟩
theorem pu_range (t : ByteArray) (hne : t.size ≠ 0) (hmax : t.size ≤ 9223372036854775806) (hlim : t.size ≤ 281474976710656) (h : parseUint10 0 t.data.toList = .range) (w : World) (hT : TabsOK w) :
    Calls Tryd.prog 71 #[.string t, .int .i64 10, .int .i64 64] w fun e w' => ∃ (v : Int) (N : Nat), e = .returned (.tuple #[.int .u64 v, .iface 123 (.pointer (some ⟨N, 0, none⟩))]) ∧ Below w.heap.size w w' := by
  have hI := Tryd.internal_strconv_ParseUint_10_b64 t hne hmax w
  rw [h] at hI
  have hI' : Calls Tryd.prog 78 #[.string t, .int .i64 10, .int .i64 64] w fun e w' => e = .returned (.tuple #[.int .u64 18446744073709551615, .iface 121 (.int .i64 1)]) ∧ w' = bytesWorld w 5 t := hI
  clear hI h
  go_enter Tryd.func71, Tryd.ntmps71
  go_wp2_with (first
    | (go_at_call 78; refine hI'.mono ?_; rintro e W1 ⟨rfl, hW⟩; have HB := Aside0.mk (hW ▸ below_bytes w 5 t : Below w.heap.size w W1); clear hW; obtain ⟨_, ev, hv, hev⟩ := hT.below HB.out)
    | (go_at_call 79; refine (Tryd.strconv_toError_range _ t _ _ ev _ hlim hv hev).mono ?_; rintro e W2 ⟨N, rfl, _, _, hb2⟩))
  go_ret2
  exact ⟨_, _, rfl, HB.out.trans (hb2.mono HB.out.size)⟩
/-- Is a byte a digit? -/
def isD (c : UInt8) : Bool := decide (48 ≤ c.toNat) && decide (c.toNat ≤ 57)
/-- A number that ParseUint tells, within a bound. -/
def numU (e : NumEnd Nat) (most : Int) : Int × Int :=
  match e with
  | .ok u => if 9223372036854775807 < u then (0, 12) else if most < (u : Int) then (0, 12) else ((u : Int), 0)
  | _ => (0, 12)
/-- What nums.Parse answers. -/
def numP (l : List UInt8) (most : Int) : Int × Int :=
  if l.length = 0 then (0, 23) else if l.getD 0 0 = 48 ∧ l ≠ [48] then (0, 23) else if l.all isD = true then numU (parseUint10 0 l) most else (0, 23)
theorem toL (t : ByteArray) : t.toList = t.data.toList := Go.ByteArray.toList_eq t
theorem digits_end : ∀ (l : List UInt8) (acc : Nat), l.all isD = true → (∃ u, parseUint10 acc l = .ok u) ∨ parseUint10 acc l = .range
  | [], acc, _ => .inl ⟨acc, by rw [parseUint10]⟩
  | c :: l, acc, h => by
    simp only [List.all_cons, Bool.and_eq_true] at h
    have hc : 48 ≤ c.toNat ∧ c.toNat ≤ 57 := by simpa [isD] using h.1
    rw [parseUint10, if_pos hc]
    split
    · exact .inr rfl
    · split
      · exact .inr rfl
      · exact digits_end l _ h.2
theorem all_at {l : List UInt8} {k : Nat} (hk : k < l.length) : (l.take (k + 1)).all isD = ((l.take k).all isD && isD (l.getD k 0)) := by
  rw [List.take_add_one, List.all_append, List.getD_eq_getElem?_getD, List.getElem?_eq_getElem hk]
  simp
theorem not_all {l : List UInt8} {k : Nat} (hk : k < l.length) (h : isD (l.getD k 0) = false) : l.all isD = false := by
  rw [Bool.eq_false_iff]
  intro ha
  have := List.all_eq_true.1 ha (l.getD k 0) (by rw [List.getD_eq_getElem?_getD, List.getElem?_eq_getElem hk]; exact List.getElem_mem hk)
  rw [h] at this
  cases this
set_option maxRecDepth 100000 in
set_option maxHeartbeats 4000000 in
theorem parse_calls (t : ByteArray) (most : Int) (hlim : t.size ≤ 4294967296) (w : World) (hT : TabsOK w) :
    Calls Tryd.prog 57 #[.string t, .int .i64 most] w fun e w' => e = .returned (.tuple #[.int .i64 (numP t.data.toList most).1, .int .i64 (numP t.data.toList most).2]) ∧ Below w.heap.size w w' := by
  have hLn : t.data.toList.length = t.size := Lib.size_eq t
  by_cases h0 : t.size = 0
  · have hr : numP t.data.toList most = (0, 23) := by unfold numP; rw [if_pos (by omega)]
    have ht : t = ⟨#[]⟩ := by
      apply ByteArray.ext
      exact Array.eq_empty_of_size_eq_zero h0
    rw [hr]
    subst ht
    go_enter Tryd.func57, Tryd.ntmps57
    go_wp2
    go_ret2
    exact ⟨rfl, Below.refl _ _⟩
  · have hp0 : 0 < t.size := Nat.pos_of_ne_zero h0
    have hemp : t.toList.isEmpty = false := by rw [toL]; cases h : t.data.toList with | nil => rw [h] at hLn; simp at hLn; omega | cons a l => rfl
    have hg0 : (t[0]'hp0) = t.data.toList.getD 0 0 := by
      rw [List.getD_eq_getElem?_getD, List.getElem?_eq_getElem (by omega)]; rfl
    have h48 : t.data.toList.getD 0 0 = 48 ↔ ((t[0]'hp0).toNat : Int) = 48 := by
      rw [← hg0]
      constructor
      · intro h; rw [h]; rfl
      · intro h; exact UInt8.toNat_inj.1 (by have : (48 : UInt8).toNat = 48 := rfl; omega)
    by_cases hbad : t.data.toList.getD 0 0 = 48 ∧ t.data.toList ≠ [48]
    · have hr : numP t.data.toList most = (0, 23) := by unfold numP; rw [if_neg (by omega), if_pos hbad]
      rw [hr]
      have e0 := h48.1 hbad.1
      have e1 : (!(t.toList == [48])) = true := by rw [toL]; simpa using hbad.2
      clear hg0 h48 hbad hr hLn
      go_enter Tryd.func57, Tryd.ntmps57
      go_wp2
      go_ret2
      exact ⟨rfl, Below.refl _ _⟩
    · have hE : (((t[0]'hp0).toNat : Int) = 48 ∧ (!(t.toList == [48])) = false) ∨ (((t[0]'hp0).toNat : Int) == 48) = false := by
        by_cases h1 : t.data.toList.getD 0 0 = 48
        · refine .inl ⟨h48.1 h1, ?_⟩
          rw [toL]
          have : t.data.toList = [48] := Classical.byContradiction fun h => hbad ⟨h1, h⟩
          rw [this]; rfl
        · exact .inr (by rw [beq_eq_false_iff_ne]; exact fun h => h1 (h48.2 h))
      have hr : numP t.data.toList most = if t.data.toList.all isD = true then numU (parseUint10 0 t.data.toList) most else (0, 23) := by unfold numP; rw [if_neg (by omega), if_neg hbad]
      have hcv := Go.Lib.run_convert_string_bytes (P := Tryd.prog) w 9 73 5 t Tryd.underlying9 Tryd.underlying73 Tryd.underlying5
      have hBW := Aside0.mk (below_bytes w 5 t)
      have hB := Aside0.mk (fun j (hj : j < t.size) => bytesWorld_cell w 5 t j hj)
      generalize bytesWorld w 5 t = W1 at hcv hBW hB
      generalize grownCap w t.size 0 5 = cc at hcv
      have HR := Aside0.mk hr
      have HT := Aside0.mk hT
      have HL := Aside0.mk hLn
      generalize hbs : t.data.toList = bs at HR HL hB
      have HBS := Aside0.mk hbs
      clear hg0 h48 hbad hr hT hLn hbs
      go_enter Tryd.func57, Tryd.ntmps57
      rcases hE with ⟨e0, e1⟩ | e0
      all_goals
        go_wp2
        go_loop [24] (fun v24 => ∃ k : Nat, v24 = .int .i64 k ∧ k ≤ t.size ∧ Aside0 ((bs.take k).all isD = true)) (fun v24 => t.size - (Go.RowKit.intOf v24).toNat)
        case atStart => exact ⟨0, rfl, by omega, ⟨by simp⟩⟩
        case round =>
          obtain ⟨k, rfl, hk, HA⟩ := hrel
          by_cases hkn : k < t.size
          · have hc := hB.out k hkn
            have HK := Aside0.mk (all_at (l := bs) (k := k) (by rw [HL.out]; exact hkn))
            have HN := Aside0.mk (not_all (l := bs) (k := k) (by rw [HL.out]; exact hkn))
            generalize bs.getD k 0 = c at hc HK HN
            have hc256 : c.toNat < 256 := c.toNat_lt
            by_cases hlo : c.toNat < 48
            · have i0 : (c.toNat : Int) < 48 := by omega
              have hd : isD c = false := by unfold isD; rw [decide_eq_false (by omega), Bool.false_and]
              have HZ := Aside0.mk (HN.out hd)
              clear HK HN hd hlo HA
              go_wp2
              go_ret2
              exact ⟨by rw [HR.out, HZ.out]; rfl, hBW.out⟩
            · have i0 : ¬ (c.toNat : Int) < 48 := by omega
              by_cases hhi : c.toNat > 57
              · have i1 : (c.toNat : Int) > 57 := by omega
                have hd : isD c = false := by unfold isD; rw [decide_eq_false (show ¬ c.toNat ≤ 57 by omega), Bool.and_false]
                have HZ := Aside0.mk (HN.out hd)
                clear HK HN hd hlo hhi HA
                go_wp2
                go_ret2
                exact ⟨by rw [HR.out, HZ.out]; rfl, hBW.out⟩
              · have i1 : ¬ (c.toNat : Int) > 57 := by omega
                have hd : isD c = true := by unfold isD; rw [decide_eq_true (by omega), decide_eq_true (by omega)]; rfl
                have HA' := Aside0.mk (show (bs.take (k + 1)).all isD = true by rw [HK.out, HA.out, hd]; rfl)
                clear HK HN hd hlo hhi HA
                go_wp2
                exact ⟨⟨k + 1, rfl, by omega, HA'⟩, by simp [Go.RowKit.intOf]; omega⟩
          · obtain rfl : k = t.size := by omega
            have HF := Aside0.mk (show bs.all isD = true by have := HA.out; rwa [← HL.out, List.take_length] at this)
            have HT1 := Aside0.mk (HT.out.below hBW.out)
            clear HA hkn
            rcases digits_end bs 0 HF.out with ⟨u, hp⟩ | hp
            rotate_left
            · have HP := Aside0.mk (show parseUint10 0 t.data.toList = .range by rw [HBS.out]; exact hp)
              have HX := Aside0.mk (show numP bs most = (0, 12) by rw [HR.out, if_pos HF.out, hp]; rfl)
              clear hp
              go_wp2_with (go_at_call 71; refine (pu_range t h0 (by omega) (by omega) HP.out _ HT1.out).mono ?_; rintro e W2 ⟨v, N, rfl, hb2⟩; have HB2 := Aside0.mk hb2; clear hb2)
              go_ret2
              exact ⟨by rw [HX.out]; rfl, hBW.out.trans (HB2.out.mono hBW.out.size)⟩
            · have HP := Aside0.mk (show parseUint10 0 t.data.toList = .ok u by rw [HBS.out]; exact hp)
              have HX := Aside0.mk (show numP bs most = if 9223372036854775807 < u then (0, 12) else if most < (u : Int) then (0, 12) else ((u : Int), 0) by rw [HR.out, if_pos HF.out, hp]; rfl)
              clear hp
              obtain ⟨z, hz⟩ : ∃ z : Int, z = (u : Int) := ⟨_, rfl⟩
              have HZ := Aside0.mk hz
              have z0 : 0 ≤ z := by omega
              have HPU : ∀ w, Calls Tryd.prog 71 #[.string t, .int .i64 10, .int .i64 64] w fun e w' => e = .returned (.tuple #[.int .u64 z, .nilIface]) ∧ Below w.heap.size w w' := fun w => by rw [hz]; exact pu_ok t h0 (by omega) u HP.out w
              clear hz
              by_cases h1 : 9223372036854775807 < z
              · have i1 : z > 9223372036854775807 := h1
                have HX' := Aside0.mk (show numP bs most = (0, 12) by rw [HX.out, if_pos (by have := HZ.out; omega)])
                go_wp2_with (go_at_call 71; refine (HPU _).mono ?_; rintro e W2 ⟨rfl, hb2⟩; have HB2 := Aside0.mk hb2; clear hb2)
                go_ret2
                exact ⟨by rw [HX'.out]; rfl, hBW.out.trans (HB2.out.mono hBW.out.size)⟩
              · have i1 : ¬ z > 9223372036854775807 := h1
                have hwr : IntKind.i64.wrap z = z := by rw [IntKind.wrap_i64]; omega
                by_cases h2 : most < z
                · have i2 : z > most := h2
                  have HX' := Aside0.mk (show numP bs most = (0, 12) by rw [HX.out, if_neg (by have := HZ.out; omega), if_pos (by have := HZ.out; omega)])
                  go_wp2_with (go_at_call 71; refine (HPU _).mono ?_; rintro e W2 ⟨rfl, hb2⟩; have HB2 := Aside0.mk hb2; clear hb2)
                  go_ret2
                  exact ⟨by rw [HX'.out]; rfl, hBW.out.trans (HB2.out.mono hBW.out.size)⟩
                · have i2 : ¬ z > most := h2
                  have HX' := Aside0.mk (show numP bs most = (z, 0) by rw [HX.out, if_neg (by have := HZ.out; omega), if_neg (by have := HZ.out; omega), HZ.out])
                  go_wp2_with (go_at_call 71; refine (HPU _).mono ?_; rintro e W2 ⟨rfl, hb2⟩; have HB2 := Aside0.mk hb2; clear hb2)
                  go_ret2
                  exact ⟨by rw [HX'.out]; rfl, hBW.out.trans (HB2.out.mono hBW.out.size)⟩
end Go.Proofs.YtodmbjbfigifnaaDoor.Dig
end

section
-- By wip/late.py (a program of this session) out of wip/words.
set_option linter.unusedVariables false
namespace Go.Proofs.YtodmbjbfigifnaaDoor.PAll
open Go.RowKit Go.Proofs.YtodmbjbfigifnaaDoor.Glob Go.Proofs.YtodmbjbfigifnaaDoor.Dig Go.Proofs.YtodmbjbfigifnaaDoorW.PrintWords
/-! Numbers as text, and texts as numbers: the contracts as the print wants them. -/
def nums_Digits.f (a0 : Int) : Option ByteArray := if a0 ≤ 9223372036854775807 then some ⟨(Lib.decDigits (max a0 0).toNat).toArray⟩ else none
theorem nums_Digits.calls (a0 : Int) (r : ByteArray) (w : World) (hG : GlobOK w) (h : nums_Digits.f a0 = some r) :
    Calls Tryd.prog 34 #[.int .i64 a0] w fun e w' => e = .returned (.string r) ∧ Below w.heap.size w w' := by
  unfold nums_Digits.f at h
  by_cases h1 : a0 ≤ 9223372036854775807
  · rw [if_pos h1] at h
    obtain rfl := Option.some.inj h
    exact digits_calls (max a0 0).toNat a0 (by omega) h1 w hG.1
  · rw [if_neg h1] at h; cases h
def tidelineref01_Digits.f (a0 : Int) : Option ByteArray := if a0 ≤ 9223372036854775807 then some ⟨(Lib.decDigits (max a0 0).toNat).toArray⟩ else none
def nums_Parse.f (a0 : ByteArray) (a1 : Int) : Option (Int × Int) := if a0.size ≤ 4294967296 then some (numP a0.data.toList a1) else none
theorem nums_Parse.calls (a0 : ByteArray) (a1 : Int) (r1 r2 : Int) (w : World) (hG : GlobOK w) (h : nums_Parse.f a0 a1 = some (r1, r2)) :
    Calls Tryd.prog 57 #[.string a0, .int .i64 a1] w fun e w' => e = .returned (.tuple #[.int .i64 r1, .int .i64 r2]) ∧ Below w.heap.size w w' := by
  unfold nums_Parse.f at h
  by_cases h1 : a0.size ≤ 4294967296
  · rw [if_pos h1] at h
    have h2 := Option.some.inj h
    have := parse_calls a0 a1 h1 w hG.1
    rwa [h2] at this
  · rw [if_neg h1] at h; cases h
end Go.Proofs.YtodmbjbfigifnaaDoor.PAll
end

section
set_option linter.unusedVariables false
set_option linter.unusedSimpArgs false
namespace Go.Proofs.YtodmbjbfigifnaaDoor.Pure
open Go.RowKit Go.Proofs.YtodmbjbfigifnaaDoor.PAll Go.Proofs.YtodmbjbfigifnaaDoorW.PrintWords Go.Proofs.YtodmbjbfigifnaaDoorW.PrintLast Go.Proofs.YtodmbjbfigifnaaDoorW.PrintMore
theorem wrap_id {x : Int} (h0 : -9223372036854775808 ≤ x) (h1 : x ≤ 9223372036854775807) : wrap64 x = x := by
  unfold wrap64; omega
theorem tdiv_nat (a b : Nat) : Int.tdiv (a : Int) (b : Int) = ((a / b : Nat) : Int) := by
  rw [Int.tdiv_eq_ediv_of_nonneg (Int.natCast_nonneg _)]; rfl
theorem Ev.val {α : Type} {g : Nat → Option α} {r q : α} (h : Ev g r) (e : r = q) : Ev g q := e ▸ h
theorem Ev.const {α : Type} {v : Option α} {r : α} (h : v = some r) : Ev (fun _ => v) r := ⟨0, fun _ _ => h⟩
theorem wrap_nat {q : Nat} (h : q ≤ 9223372036854775807) : wrap64 (q : Int) = (q : Int) := wrap_id (by omega) (by omega)
theorem wrap_succ {q : Nat} (h : q ≤ 9223372036854775806) : wrap64 ((q : Int) + 1) = ((q + 1 : Nat) : Int) := by rw [wrap_id (by omega) (by omega)]; rfl
end Go.Proofs.YtodmbjbfigifnaaDoor.Pure
end

section
set_option linter.unusedVariables false
set_option linter.unusedSimpArgs false
namespace Go.Proofs.YtodmbjbfigifnaaDoor.Pure
open Go.RowKit Go.Proofs.YtodmbjbfigifnaaDoor.PAll Go.Proofs.YtodmbjbfigifnaaDoorW.PrintWords Go.Proofs.YtodmbjbfigifnaaDoorW.PrintLast Go.Proofs.YtodmbjbfigifnaaDoorW.PrintMore
theorem rdOf_nat {α : Type} (d : α) (l : List α) (i : Nat) (h : i < l.length) : rdOf d l (i : Int) = l[i] := by
  unfold rdOf; rw [Int.toNat_natCast, List.getD_eq_getElem?_getD, List.getElem?_eq_getElem h]; rfl
theorem rd_nat (l : List Int) (i : Nat) (h : i < l.length) : rd l (i : Int) = l[i] := by
  unfold rd; rw [Int.toNat_natCast, List.getD_eq_getElem?_getD, List.getElem?_eq_getElem h]; rfl
theorem ba_eq {a b : ByteArray} : a.toList = b.toList ↔ a = b := by
  constructor
  · intro h
    rw [Go.ByteArray.toList_eq, Go.ByteArray.toList_eq] at h
    cases a; cases b
    simp only [ByteArray.mk.injEq]
    exact Array.toList_inj.1 h
  · rintro rfl; rfl
end Go.Proofs.YtodmbjbfigifnaaDoor.Pure
end

section
set_option linter.unusedVariables false
set_option linter.unusedSimpArgs false
namespace Go.Proofs.YtodmbjbfigifnaaDoor.Pure
open Go.RowKit Go.Proofs.YtodmbjbfigifnaaDoor.PAll Go.Proofs.YtodmbjbfigifnaaDoorW.PrintWords Go.Proofs.YtodmbjbfigifnaaDoorW.PrintLast Go.Proofs.YtodmbjbfigifnaaDoorW.PrintMore
/-- A digit to the base 16. -/
def hdI (n : Int) : Int := if n < 10 then 48 + n else 87 + n
def hexI (l : List Int) : List Int := l.flatMap fun b => [hdI (b / 16), hdI (b % 16)]
/-- A text's bytes, written. -/
def hexB (s : ByteArray) : ByteArray := strOfNums (hexI (bytesOf s))
theorem hexI_length (l : List Int) : (hexI l).length = 2 * l.length := by
  induction l with
  | nil => rfl
  | cons a l ih => simp only [hexI, List.flatMap_cons, List.length_append, List.length_cons, List.length_nil] at ih ⊢; omega
theorem hexI_append (a b : List Int) : hexI (a ++ b) = hexI a ++ hexI b := by simp [hexI]
theorem byte_bd (s : ByteArray) : ∀ x ∈ bytesOf s, 0 ≤ x ∧ x < 256 := by
  intro x hx
  unfold bytesOf at hx
  obtain ⟨b, _, rfl⟩ := List.mem_map.1 hx
  have := b.toNat_lt
  omega
theorem tab_hd : ∀ n : Fin 16, bt (⟨#[48, 49, 50, 51, 52, 53, 54, 55, 56, 57, 97, 98, 99, 100, 101, 102]⟩ : ByteArray) ((n.val : Nat) : Int) = hdI ((n.val : Nat) : Int) := by decide +kernel
theorem tab_hd' (n : Int) (h0 : 0 ≤ n) (h1 : n < 16) : bt (⟨#[48, 49, 50, 51, 52, 53, 54, 55, 56, 57, 97, 98, 99, 100, 101, 102]⟩ : ByteArray) n = hdI n := by
  have := tab_hd ⟨n.toNat, by omega⟩
  simpa [Int.toNat_of_nonneg h0] using this
theorem and15 : ∀ n : Fin 256, Go.bits .and .u8 ((n.val : Nat) : Int) 15 = ((n.val : Nat) : Int) % 16 := by decide +kernel
theorem and15' (n : Int) (h0 : 0 ≤ n) (h1 : n < 256) : Go.bits .and .u8 n 15 = n % 16 := by
  have := and15 ⟨n.toNat, by omega⟩
  simpa [Int.toNat_of_nonneg h0] using this
theorem take_snoc {α : Type} (l : List α) (i : Nat) (h : i < l.length) : l.take (i + 1) = l.take i ++ [l[i]] := by rw [List.take_succ_eq_append_getElem h]
theorem hex_loop (s : ByteArray) (hs : s.size ≤ 35184372088832) (d : Nat) : ∀ i : Nat, i + d = s.size → Ev (fun k => nums_Hex.l0 k (hexI ((bytesOf s).take i)) (bytesOf s) (s.size : Int) (i : Int)) (hexB s) := by
  induction d with
  | zero =>
    intro i hd
    refine Ev.step (fun k => by rw [nums_Hex.l0]) ?_
    simp only [if_neg (show ¬ (i : Int) < (s.size : Int) by omega)]
    rw [List.take_of_length_le (by rw [bytesOf_length]; omega)]
    exact Ev.const rfl
  | succ d ih =>
    intro i hd
    refine Ev.step (fun k => by rw [nums_Hex.l0]) ?_
    have hl : i < (bytesOf s).length := by rw [bytesOf_length]; omega
    rw [rd_nat _ i hl, bytesOf_length]
    have hb := byte_bd s _ (List.getElem_mem hl)
    have hih := ih (i + 1) (by omega)
    rw [take_snoc _ i hl, hexI_append] at hih
    have hlen : (hexI ((bytesOf s).take i)).length ≤ 2 * i := by rw [hexI_length, List.length_take]; omega
    generalize hx : (bytesOf s)[i] = x at hb hih
    simp only [if_pos (show (i : Int) < (s.size : Int) by omega), if_pos (show (0 : Int) ≤ (i : Int) by omega), if_pos (show 0 ≤ x / 16 by omega), if_pos (show x / 16 < 16 by omega), and15' x hb.1 hb.2,
      if_pos (show 0 ≤ x % 16 by omega), if_pos (show x % 16 < 16 by omega), tab_hd' (x / 16) (by omega) (by omega), tab_hd' (x % 16) (by omega) (by omega), Option.bind_some, List.length_cons, List.length_nil,
      if_pos (show (hexI ((bytesOf s).take i)).length + (0 + 1 + 1) < 140737488355328 by omega)]
    rw [wrap_succ (by omega)]
    exact hih
theorem hex_f (s : ByteArray) (hs : s.size ≤ 35184372088832) : Ev (fun k => nums_Hex.f k s) (hexB s) := by
  have e : wrap64 (2 * (s.size : Int)) = ((2 * s.size : Nat) : Int) := by rw [wrap_id (by omega) (by omega)]; omega
  refine Ev.congr (fun k => by rw [nums_Hex.f, e]) ?_
  simp only [if_pos (show (0 : Int) ≤ ((2 * s.size : Nat) : Int) by omega), Int.toNat_natCast, if_pos (show 2 * s.size ≤ 281474976710656 by omega), if_pos (show s.size ≤ 9223372036854775807 by omega), Option.bind_some, bytesOf_length]
  exact hex_loop s hs s.size 0 (by omega)
/-- What a digit is worth; -1: it is none. -/
def nibI (c : Int) : Int := if 48 ≤ c ∧ c ≤ 57 then c - 48 else if 97 ≤ c ∧ c ≤ 102 then c - 87 else -1
theorem nib_f (c : Int) (h0 : 0 ≤ c) (h1 : c < 256) : Ev (fun k => nums_nibble.f k c) (if 0 ≤ nibI c then (nibI c, true) else (0, false)) := by
  have g : ∀ k, nums_nibble.f k c = nums_nibble.j0 k c (decide (48 ≤ c ∧ c ≤ 57)) := by
    intro k
    unfold nums_nibble.f
    by_cases h : 48 ≤ c
    · rw [if_pos h]; congr 1; simp [h]
    · rw [if_neg h]; congr 1; simp [h]
  refine Ev.congr g (Ev.step (fun k => by rw [nums_nibble.j0]) ?_)
  unfold nibI
  by_cases h : 48 ≤ c ∧ c ≤ 57
  · simp only [decide_eq_true h, if_true, if_pos h, if_pos (show 0 ≤ c - 48 by omega)]
    exact Ev.const (by rw [show (c - 48) % 256 = c - 48 by omega])
  · simp only [decide_eq_false h, if_neg (show ¬ (false = true) by decide), if_neg h]
    by_cases h2 : 97 ≤ c
    · simp only [if_pos h2]
      by_cases h3 : c ≤ 102
      · simp only [if_pos h3, if_pos (show 97 ≤ c ∧ c ≤ 102 from ⟨h2, h3⟩), if_pos (show 0 ≤ c - 87 by omega)]
        exact Ev.const (by rw [show ((c - 97) % 256 + 10) % 256 = c - 87 by omega])
      · simp only [if_neg h3, if_neg (show ¬ (97 ≤ c ∧ c ≤ 102) by omega)]; exact Ev.const rfl
    · simp only [if_neg h2, if_neg (show ¬ (97 ≤ c ∧ c ≤ 102) by omega)]; exact Ev.const rfl
theorem nibI_bd (c : Int) : -1 ≤ nibI c ∧ nibI c < 16 := by unfold nibI; (repeat' split) <;> omega
/-- The bytes that digits say. -/
def unhexI : List Int → Option (List Int)
  | a :: b :: r => if 0 ≤ nibI a ∧ 0 ≤ nibI b then (unhexI r).map (fun x => (16 * nibI a + nibI b) :: x) else none
  | [] => some []
  | [_] => none
/-- What Unhex answers. -/
def unhE (s : ByteArray) : ByteArray × Int := match unhexI (bytesOf s) with | some l => (strOfNums l, 0) | none => (⟨#[]⟩, 23)
theorem or16 : ∀ a b : Fin 16, Go.bits .or .u8 ((((a.val : Nat) : Int) * 16) % 256) ((b.val : Nat) : Int) = 16 * ((a.val : Nat) : Int) + ((b.val : Nat) : Int) := by decide +kernel
theorem or16' (a b : Int) (h0 : 0 ≤ a) (h1 : a < 16) (h2 : 0 ≤ b) (h3 : b < 16) : Go.bits .or .u8 ((a * 16) % 256) b = 16 * a + b := by
  have := or16 ⟨a.toNat, by omega⟩ ⟨b.toNat, by omega⟩
  simpa [Int.toNat_of_nonneg h0, Int.toNat_of_nonneg h2] using this
theorem bytesOf_drop (s : ByteArray) (n : Nat) : bytesOf (s.extract n s.size) = (bytesOf s).drop n := by
  unfold bytesOf; rw [Go.Lib.extract_to_end, List.map_drop]
theorem bt_nat (s : ByteArray) (i : Nat) (h : i < (bytesOf s).length) : bt s (i : Int) = (bytesOf s)[i] := by rw [← rd_bytesOf, rd_nat _ i h]
theorem size_drop (s : ByteArray) (n : Nat) (h : n ≤ s.size) : (s.extract n s.size).size = s.size - n := by
  rw [← bytesOf_length, bytesOf_drop, List.length_drop, bytesOf_length]
theorem toList_nil (s : ByteArray) : s.toList = [] ↔ s.size = 0 := by
  rw [Go.ByteArray.toList_eq]
  constructor
  · intro h
    have := congrArg List.length h
    rw [Array.length_toList] at this
    exact this
  · intro h
    exact List.eq_nil_of_length_eq_zero (by rw [Array.length_toList]; exact h)
theorem unhex_loop (n : Nat) : ∀ (s : ByteArray) (acc : List Int), s.size = 2 * n → acc.length + n ≤ 70368744177664 →
    Ev (fun k => nums_Unhex.l0 k s acc) (match unhexI (bytesOf s) with | some l => (strOfNums (acc ++ l), 0) | none => (⟨#[]⟩, 23)) := by
  induction n with
  | zero =>
    intro s acc hs ha
    refine Ev.step (fun k => by rw [nums_Unhex.l0]) ?_
    simp only [if_pos ((toList_nil s).2 (by omega))]
    have : bytesOf s = [] := List.eq_nil_of_length_eq_zero (by rw [bytesOf_length]; omega)
    rw [this]
    simp only [unhexI, List.append_nil]
    exact Ev.const rfl
  | succ n ih =>
    intro s acc hs ha
    refine Ev.step (fun k => by rw [nums_Unhex.l0]) ?_
    have hne : ¬ s.toList = [] := fun h => by have := (toList_nil s).1 h; omega
    simp only [if_neg hne, if_pos (show (0 : Int) < (s.size : Int) by omega), if_pos (show (1 : Int) < (s.size : Int) by omega), if_pos (show (2 : Int) ≤ (s.size : Int) by omega), if_pos (show acc.length < 140737488355328 by omega)]
    have hl : (bytesOf s).length = 2 * (n + 1) := by rw [bytesOf_length, hs]
    have e0 := bt_nat s 0 (by omega)
    have e1 := bt_nat s 1 (by omega)
    have hb0 := byte_bd s _ (List.getElem_mem (show 0 < (bytesOf s).length by omega))
    have hb1 := byte_bd s _ (List.getElem_mem (show 1 < (bytesOf s).length by omega))
    have hcons : bytesOf s = (bytesOf s)[0] :: (bytesOf s)[1] :: bytesOf (s.extract 2 s.size) := by
      rw [bytesOf_drop]
      have h0 := List.drop_eq_getElem_cons (show 0 < (bytesOf s).length by omega)
      have h1 := List.drop_eq_getElem_cons (show 1 < (bytesOf s).length by omega)
      rw [List.drop_zero] at h0
      rw [h1] at h0
      exact h0
    have e0' : bt s 0 = (bytesOf s)[0] := e0
    have e1' : bt s 1 = (bytesOf s)[1] := e1
    rw [e0', e1']
    generalize (bytesOf s)[0] = a at *
    generalize (bytesOf s)[1] = b at *
    refine Ev.bind (nib_f a hb0.1 hb0.2) (Ev.bind (nib_f b hb1.1 hb1.2) ?_)
    have na := nibI_bd a
    have nb := nibI_bd b
    rw [hcons]
    by_cases ha' : 0 ≤ nibI a
    · by_cases hb' : 0 ≤ nibI b
      · simp only [if_pos ha', if_pos hb', if_true, unhexI, if_pos (show 0 ≤ nibI a ∧ 0 ≤ nibI b from ⟨ha', hb'⟩)]
        rw [or16' _ _ ha' na.2 hb' nb.2]
        have := ih (s.extract 2 s.size) (acc ++ [16 * nibI a + nibI b]) (by rw [size_drop s 2 (by omega)]; omega) (by simp; omega)
        refine Ev.val this ?_
        cases unhexI (bytesOf (s.extract 2 s.size)) <;> simp
      · simp only [if_pos ha', if_neg hb', if_true, unhexI, if_neg (show ¬ (0 ≤ nibI a ∧ 0 ≤ nibI b) from fun h => hb' h.2)]
        exact Ev.const rfl
    · simp only [if_neg ha', unhexI, if_neg (show ¬ (0 ≤ nibI a ∧ 0 ≤ nibI b) from fun h => ha' h.1)]
      exact Ev.const rfl
theorem unhexI_odd (l : List Int) : ∀ n, l.length = 2 * n + 1 → unhexI l = none := by
  intro n
  induction n generalizing l with
  | zero =>
    intro h
    match l, h with
    | [a], _ => rfl
  | succ n ih =>
    intro h
    match l, h with
    | a :: b :: r, h =>
      simp only [unhexI]
      rw [ih r (by simp at h; omega)]
      split <;> rfl
theorem unhex_f (s : ByteArray) (hs : s.size ≤ 70368744177664) : Ev (fun k => nums_Unhex.f k s) (unhE s) := by
  refine Ev.congr (fun k => by rw [nums_Unhex.f]) ?_
  unfold unhE
  by_cases h : (s.size : Int) % 2 = 0
  · rw [show wrap64 ((s.size : Int) / 2) = ((s.size / 2 : Nat) : Int) by rw [wrap_id (by omega) (by omega)]; rfl]
    simp only [if_pos h, if_pos (show (0 : Int) ≤ ((s.size / 2 : Nat) : Int) by omega), Int.toNat_natCast, if_pos (show s.size / 2 ≤ 281474976710656 by omega)]
    exact unhex_loop (s.size / 2) s [] (by omega) (by simp; omega)
  · simp only [if_neg h]
    rw [unhexI_odd _ (s.size / 2) (by rw [bytesOf_length]; omega)]
    exact Ev.const rfl
theorem nib_hd (n : Int) (h0 : 0 ≤ n) (h1 : n < 16) : nibI (hdI n) = n := by unfold nibI hdI; (repeat' split) <;> omega
theorem unhex_hex : ∀ l : List Int, (∀ x ∈ l, 0 ≤ x ∧ x < 256) → unhexI (hexI l) = some l
  | [], _ => rfl
  | a :: l, h => by
    have ha := h a List.mem_cons_self
    have ih := unhex_hex l (fun x hx => h x (List.mem_cons_of_mem a hx))
    show unhexI (hdI (a / 16) :: hdI (a % 16) :: hexI l) = _
    simp only [unhexI, nib_hd (a / 16) (by omega) (by omega), nib_hd (a % 16) (by omega) (by omega), if_pos (show 0 ≤ a / 16 ∧ 0 ≤ a % 16 by omega), ih, Option.map_some]
    rw [show 16 * (a / 16) + a % 16 = a by omega]
theorem hd_nib (c : Int) (h : 0 ≤ nibI c) : hdI (nibI c) = c := by unfold nibI at h ⊢; unfold hdI; (repeat' split) <;> (repeat' split at h) <;> omega
theorem hex_unhex : ∀ (l r : List Int), unhexI l = some r → hexI r = l ∧ ∀ x ∈ r, 0 ≤ x ∧ x < 256
  | [], r, h => by simp only [unhexI, Option.some.injEq] at h; subst h; exact ⟨rfl, by simp⟩
  | [a], r, h => by simp [unhexI] at h
  | a :: b :: l, r, h => by
    simp only [unhexI] at h
    by_cases hc : 0 ≤ nibI a ∧ 0 ≤ nibI b
    · rw [if_pos hc] at h
      obtain ⟨r', hr, rfl⟩ := Option.map_eq_some_iff.1 h
      obtain ⟨ih, ihb⟩ := hex_unhex l r' hr
      have na := nibI_bd a
      have nb := nibI_bd b
      refine ⟨?_, ?_⟩
      · show hdI ((16 * nibI a + nibI b) / 16) :: hdI ((16 * nibI a + nibI b) % 16) :: hexI r' = _
        rw [show (16 * nibI a + nibI b) / 16 = nibI a by omega, show (16 * nibI a + nibI b) % 16 = nibI b by omega, hd_nib a hc.1, hd_nib b hc.2, ih]
      · intro x hx
        rcases List.mem_cons.1 hx with rfl | hx
        · omega
        · exact ihb x hx
    · rw [if_neg hc] at h; cases h
theorem bytesOf_str (l : List Int) (h : ∀ x ∈ l, 0 ≤ x ∧ x < 256) : bytesOf (strOfNums l) = l := by
  unfold bytesOf
  rw [strOfNums_data, List.map_map]
  conv => rhs; rw [← List.map_id l]
  refine List.map_congr_left fun x hx => ?_
  have := h x hx
  simp only [Function.comp_apply, id_eq]
  rw [UInt8.toNat_ofNat']
  omega
theorem str_bytesOf (s : ByteArray) : strOfNums (bytesOf s) = s := by
  apply Go.WideShapes.bytes_inj
  rw [strOfNums_data]
  unfold bytesOf
  rw [List.map_map]
  conv => rhs; rw [← List.map_id s.data.toList]
  refine List.map_congr_left fun x _ => ?_
  simp
theorem hdI_bd (n : Int) (h0 : 0 ≤ n) (h1 : n < 16) : 48 ≤ hdI n ∧ hdI n < 103 := by unfold hdI; split <;> omega
theorem hexI_bd (l : List Int) (h : ∀ x ∈ l, 0 ≤ x ∧ x < 256) : ∀ x ∈ hexI l, 48 ≤ x ∧ x < 103 := by
  intro x hx
  unfold hexI at hx
  obtain ⟨b, hb, hx⟩ := List.mem_flatMap.1 hx
  have := h b hb
  simp only [List.mem_cons, List.not_mem_nil, or_false] at hx
  rcases hx with rfl | rfl
  · exact hdI_bd _ (by omega) (by omega)
  · exact hdI_bd _ (by omega) (by omega)
theorem bytes_hexB (s : ByteArray) : bytesOf (hexB s) = hexI (bytesOf s) := bytesOf_str _ (fun x hx => by have := hexI_bd _ (byte_bd s) x hx; omega)
theorem hexB_size (s : ByteArray) : (hexB s).size = 2 * s.size := by unfold hexB; rw [strOfNums_size, hexI_length, bytesOf_length]
/-- There and back. -/
theorem unhE_hexB (s : ByteArray) : unhE (hexB s) = (s, 0) := by
  unfold unhE
  rw [bytes_hexB, unhex_hex _ (byte_bd s)]
  show (strOfNums (bytesOf s), (0 : Int)) = _
  rw [str_bytesOf]
theorem hexB_unhE (t : ByteArray) (h : (unhE t).2 = 0) : hexB (unhE t).1 = t := by
  unfold unhE at h ⊢
  cases hu : unhexI (bytesOf t) with
  | none => rw [hu] at h; simp at h
  | some l =>
    obtain ⟨h1, h2⟩ := hex_unhex _ _ hu
    simp only
    unfold hexB
    rw [bytesOf_str l h2, h1, str_bytesOf]
end Go.Proofs.YtodmbjbfigifnaaDoor.Pure
end

section
set_option linter.unusedVariables false
set_option linter.unusedSimpArgs false
namespace Go.Proofs.YtodmbjbfigifnaaDoor.Pure
open Go.RowKit Go.Proofs.YtodmbjbfigifnaaDoor.PAll Go.Proofs.YtodmbjbfigifnaaDoorW.PrintWords Go.Proofs.YtodmbjbfigifnaaDoorW.PrintLast Go.Proofs.YtodmbjbfigifnaaDoorW.PrintMore
/-- What is wrong with a range. -/
def rgE (lo hi : ByteArray) (op : Bool) : Int := if lo.size > 16 ∨ hi.size > 16 then 20 else if op = true then (if hi.toList = [] then 0 else 21) else if Op.bytesLess hi.toList lo.toList = true then 21 else 0
/-- Has a range a key? -/
def hasK (lo hi : ByteArray) (op : Bool) (key : ByteArray) : Bool := decide (rgE lo hi op = 0) && decide (key.size ≤ 16) && !(Op.bytesLess key.toList lo.toList) && (op || Op.bytesLess key.toList hi.toList)
theorem rgE_f (lo hi : ByteArray) (op : Bool) : Ev (fun k => span_Check.f k lo hi op) (rgE lo hi op) := by
  have g : ∀ k, span_Check.f k lo hi op = span_Check.j0 k (decide (lo.size > 16 ∨ hi.size > 16)) lo hi op := by
    intro k
    unfold span_Check.f
    by_cases h : (lo.size : Int) > 16
    · rw [if_pos h, decide_eq_true h, decide_eq_true (show lo.size > 16 ∨ hi.size > 16 by omega)]
    · rw [if_neg h]
      by_cases h2 : (hi.size : Int) > 16
      · rw [decide_eq_true h2, decide_eq_true (show lo.size > 16 ∨ hi.size > 16 by omega)]
      · rw [decide_eq_false h2, decide_eq_false (show ¬ (lo.size > 16 ∨ hi.size > 16) by omega)]
  refine Ev.congr g (Ev.step (fun k => by rw [span_Check.j0]) ?_)
  unfold rgE
  by_cases h : lo.size > 16 ∨ hi.size > 16
  · rw [decide_eq_true h, if_pos h]; exact Ev.const rfl
  · rw [decide_eq_false h, if_neg h]
    simp only [if_neg (show ¬ (false = true) by decide)]
    cases op with
    | true =>
      simp only [if_true]
      refine Ev.step (fun k => by rw [span_Check.j1]) ?_
      by_cases h2 : hi.toList = []
      · simp only [h2, if_true]; exact Ev.const rfl
      · have : (hi.toList != ([] : List UInt8)) = true := by rw [bne_iff_ne]; exact h2
        simp only [this, if_neg h2, if_true]; exact Ev.const rfl
    | false =>
      simp only [if_neg (show ¬ (false = true) by decide)]
      refine Ev.step (fun k => by rw [span_Check.j1]) ?_
      simp only [if_neg (show ¬ (false = true) by decide)]
      by_cases h2 : Op.bytesLess hi.toList lo.toList = true
      · simp only [if_pos h2]; exact Ev.const rfl
      · simp only [if_neg h2]; exact Ev.const rfl
end Go.Proofs.YtodmbjbfigifnaaDoor.Pure
end

section
set_option linter.unusedVariables false
set_option linter.unusedSimpArgs false
namespace Go.Proofs.YtodmbjbfigifnaaDoor.Pure
open Go.RowKit Go.Proofs.YtodmbjbfigifnaaDoor.PAll Go.Proofs.YtodmbjbfigifnaaDoorW.PrintWords Go.Proofs.YtodmbjbfigifnaaDoorW.PrintLast Go.Proofs.YtodmbjbfigifnaaDoorW.PrintMore
/-- What Parse answers, of what Cut has cut. -/
def parV (lo hi : ByteArray) (ok : Bool) : ByteArray × ByteArray × Bool × Int :=
  let op := hi.toList == ([42] : List UInt8)
  let h := unhE (if op = true then (⟨#[]⟩ : ByteArray) else hi)
  if ok = true ∧ (unhE lo).2 = 0 ∧ h.2 = 0 ∧ rgE (unhE lo).1 h.1 op = 0 then ((unhE lo).1, h.1, op, 0) else ((⟨#[]⟩ : ByteArray), (⟨#[]⟩ : ByteArray), false, 23)
theorem parse_j0 (lo hi : ByteArray) (ok op : Bool) (hl : lo.size ≤ 70368744177664) (hh : hi.size ≤ 70368744177664) :
    Ev (fun k => span_Parse.j0 k lo hi ok (⟨#[]⟩ : ByteArray) (⟨#[]⟩ : ByteArray) op)
      (if ok = true ∧ (unhE lo).2 = 0 ∧ (unhE hi).2 = 0 ∧ rgE (unhE lo).1 (unhE hi).1 op = 0 then ((unhE lo).1, (unhE hi).1, op, 0) else ((⟨#[]⟩ : ByteArray), (⟨#[]⟩ : ByteArray), false, 23)) := by
  refine Ev.step (fun k => by rw [span_Parse.j0]) ?_
  refine Ev.bind (unhex_f lo hl) (Ev.bind (unhex_f hi hh) ?_)
  by_cases h1 : ok = true
  · by_cases h2 : (unhE lo).2 = 0
    · by_cases h3 : (unhE hi).2 = 0
      · simp only [if_pos h1, if_pos h2, if_pos h3]
        refine Ev.bind (rgE_f _ _ op) ?_
        by_cases h4 : rgE (unhE lo).1 (unhE hi).1 op = 0
        · simp only [if_pos h4, h1, h2, h3, h4, and_self, if_true]; exact Ev.const rfl
        · simp only [if_neg h4, h4, and_false, if_false]; exact Ev.const rfl
      · simp only [if_pos h1, if_pos h2, if_neg h3, h3, false_and, and_false, if_false]; exact Ev.const rfl
    · simp only [if_pos h1, if_neg h2, h2, false_and, and_false, if_false]; exact Ev.const rfl
  · simp only [if_neg h1, h1, false_and, if_false]; exact Ev.const rfl
theorem parse_of (s lo hi : ByteArray) (ok : Bool) (hc : strings_Cut.f s (⟨#[46, 46]⟩ : ByteArray) = some (lo, hi, ok)) (hl : lo.size ≤ 70368744177664) (hh : hi.size ≤ 70368744177664) :
    Ev (fun k => span_Parse.f k s) (parV lo hi ok) := by
  refine Ev.congr (fun k => by rw [span_Parse.f, hc, Option.bind_some]) ?_
  unfold parV
  by_cases h : hi.toList = ([42] : List UInt8)
  · have e : (hi.toList == ([42] : List UInt8)) = true := by simpa using h
    simp only [if_pos h, e]
    exact parse_j0 lo ⟨#[]⟩ ok true hl (by show (0 : Nat) ≤ _; omega)
  · have e : (hi.toList == ([42] : List UInt8)) = false := by simpa using h
    simp only [if_neg h, e, if_neg (show ¬ (false = true) by decide)]
    exact parse_j0 lo hi ok false hl hh
/-- Cut at the first two dots. -/
theorem cut_at (a b : ByteArray) (ha : ∀ x ∈ a.data.toList, x ≠ 46) (hs : a.size + b.size < 4294967200) :
    strings_Cut.f (a ++ (⟨#[46, 46]⟩ : ByteArray) ++ b) (⟨#[46, 46]⟩ : ByteArray) = some (a, b, true) := by
  have e : (a ++ (⟨#[46, 46]⟩ : ByteArray) ++ b).data.toList = a.data.toList ++ (46 :: 46 :: b.data.toList) := by simp
  have sz : (a ++ (⟨#[46, 46]⟩ : ByteArray) ++ b).size = a.size + 2 + b.size := by rw [ByteArray.size_append, ByteArray.size_append]; rfl
  have al : a.data.toList.length = a.size := Array.length_toList
  have hi : Lib.index (a.data.toList ++ (46 :: 46 :: b.data.toList)) [46, 46] = (a.size : Int) := by
    refine Lib.index_first (by simp [al]) ?_ ?_
    · unfold Lib.occAt
      rw [← al, List.drop_left]
      simp
    · intro j hj
      unfold Lib.occAt
      rw [List.drop_append_of_le_length (by omega), List.drop_eq_getElem_cons (by omega : j < a.data.toList.length)]
      have := ha _ (List.getElem_mem (by omega : j < a.data.toList.length))
      simp [List.isPrefixOf]
      intro h
      exact absurd h.symm this
  unfold strings_Cut.f
  rw [if_pos (by rw [sz]; omega)]
  have c : Lib.cut (a ++ (⟨#[46, 46]⟩ : ByteArray) ++ b).data.toList (⟨#[46, 46]⟩ : ByteArray).data.toList = (a.data.toList, b.data.toList, true) := by
    unfold Lib.cut
    rw [e]
    show (if 0 ≤ Lib.index (a.data.toList ++ (46 :: 46 :: b.data.toList)) [46, 46] then ((a.data.toList ++ (46 :: 46 :: b.data.toList)).take (Lib.index (a.data.toList ++ (46 :: 46 :: b.data.toList)) [46, 46]).toNat, (a.data.toList ++ (46 :: 46 :: b.data.toList)).drop ((Lib.index (a.data.toList ++ (46 :: 46 :: b.data.toList)) [46, 46]).toNat + 2), true) else _) = _
    rw [hi, if_pos (by omega), Int.toNat_natCast, ← al, List.take_left, List.drop_append, List.drop_of_length_le (by omega)]
    simp
  rw [c]
theorem hex_nodot (s : ByteArray) : ∀ x ∈ (hexB s).data.toList, x ≠ 46 := by
  intro x hx h
  have hb : ((x.toNat : Nat) : Int) ∈ bytesOf (hexB s) := by
    unfold bytesOf
    exact List.mem_map.2 ⟨x, hx, rfl⟩
  rw [bytes_hexB] at hb
  unfold hexI at hb
  obtain ⟨b, hb1, hb2⟩ := List.mem_flatMap.1 hb
  have hbd := byte_bd s b hb1
  subst h
  simp only [List.mem_cons, List.not_mem_nil, or_false, hdI] at hb2
  have e46 : (((46 : UInt8).toNat : Nat) : Int) = 46 := rfl
  rw [e46] at hb2
  rcases hb2 with h | h <;> split at h <;> omega
end Go.Proofs.YtodmbjbfigifnaaDoor.Pure
end

section
set_option linter.unusedVariables false
set_option linter.unusedSimpArgs false
namespace Go.Proofs.YtodmbjbfigifnaaDoor.Pure
open Go.RowKit Go.Proofs.YtodmbjbfigifnaaDoor.PAll Go.Proofs.YtodmbjbfigifnaaDoorW.PrintWords Go.Proofs.YtodmbjbfigifnaaDoorW.PrintLast Go.Proofs.YtodmbjbfigifnaaDoorW.PrintMore
/-! A text's pieces between the bytes c; texts joined with c between. -/
/-- The pieces. -/
def piecesL (c : UInt8) : List UInt8 → List (List UInt8)
  | [] => [[]]
  | b :: l => if b = c then [] :: piecesL c l else match piecesL c l with
    | [] => [[b]]
    | p :: ps => (b :: p) :: ps
theorem piecesL_ne (c : UInt8) (l : List UInt8) : piecesL c l ≠ [] := by
  cases l with
  | nil => simp [piecesL]
  | cons b l =>
    unfold piecesL
    split
    · simp
    · split <;> simp
/-- Joined. -/
def joinL (c : UInt8) : List (List UInt8) → List UInt8
  | [] => []
  | [p] => p
  | p :: q :: r => p ++ c :: joinL c (q :: r)
theorem joinL_cons (c : UInt8) (p : List UInt8) (ps : List (List UInt8)) (h : ps ≠ []) : joinL c (p :: ps) = p ++ c :: joinL c ps := by
  cases ps with
  | nil => exact absurd rfl h
  | cons q r => rfl
theorem join_pieces (c : UInt8) : ∀ l, joinL c (piecesL c l) = l
  | [] => rfl
  | b :: l => by
    have ih := join_pieces c l
    have hne := piecesL_ne c l
    unfold piecesL
    split
    · rename_i h
      rw [joinL_cons c [] _ hne, ih, h]; rfl
    · cases hp : piecesL c l with
      | nil => exact absurd hp hne
      | cons p ps =>
        rw [hp] at ih
        simp only []
        cases ps with
        | nil => simp only [joinL] at ih ⊢; rw [ih]
        | cons q r =>
          rw [joinL_cons c _ _ (by simp)] at ih ⊢
          rw [List.cons_append, ih]
theorem piecesL_cons_ne {c b : UInt8} {l p : List UInt8} {ps : List (List UInt8)} (h : b ≠ c) (hp : piecesL c l = p :: ps) : piecesL c (b :: l) = (b :: p) :: ps := by
  unfold piecesL
  rw [if_neg h, hp]
theorem piecesL_cons_eq (c : UInt8) (l : List UInt8) : piecesL c (c :: l) = [] :: piecesL c l := by
  rw [piecesL, if_pos rfl]
theorem piecesL_none {c : UInt8} : ∀ {l : List UInt8}, c ∉ l → piecesL c l = [l]
  | [], _ => rfl
  | b :: l, h => by
    rw [List.mem_cons, not_or] at h
    exact piecesL_cons_ne (Ne.symm h.1) (piecesL_none h.2)
theorem piecesL_app {c : UInt8} : ∀ {p : List UInt8} (l : List UInt8), c ∉ p → piecesL c (p ++ c :: l) = p :: piecesL c l
  | [], l, _ => piecesL_cons_eq c l
  | b :: p, l, h => by
    rw [List.mem_cons, not_or] at h
    exact piecesL_cons_ne (Ne.symm h.1) (piecesL_app l h.2)
theorem pieces_join {c : UInt8} : ∀ {ws : List (List UInt8)}, ws ≠ [] → (∀ w ∈ ws, c ∉ w) → piecesL c (joinL c ws) = ws
  | [], h, _ => absurd rfl h
  | [p], _, h => piecesL_none (h p (by simp))
  | p :: q :: r, _, h => by
    rw [joinL, piecesL_app _ (h p (by simp)), pieces_join (by simp) (fun w hw => h w (List.mem_cons_of_mem _ hw))]
theorem pieces_free {c : UInt8} : ∀ (l : List UInt8), ∀ p ∈ piecesL c l, c ∉ p
  | [], p, hp => by simp [piecesL] at hp; subst hp; simp
  | b :: l, p, hp => by
    have ih := pieces_free (c := c) l
    cases hq : piecesL c l with
    | nil => exact absurd hq (piecesL_ne c l)
    | cons q ps =>
      by_cases h : b = c
      · subst h
        rw [piecesL_cons_eq, List.mem_cons] at hp
        rcases hp with rfl | hp
        · simp
        · exact ih p hp
      · rw [piecesL_cons_ne h hq, List.mem_cons] at hp
        rw [hq] at ih
        rcases hp with rfl | hp
        · rw [List.mem_cons, not_or]
          exact ⟨Ne.symm h, ih q (by simp)⟩
        · exact ih p (List.mem_cons_of_mem _ hp)
theorem pieces_len (c : UInt8) : ∀ (l : List UInt8), (piecesL c l).length ≤ l.length + 1
  | [] => by simp [piecesL]
  | b :: l => by
    have ih := pieces_len c l
    unfold piecesL
    split
    · simp; omega
    · split
      · simp
      · rename_i h; rw [h] at ih; simp at ih ⊢; omega
theorem pieces_le {c : UInt8} : ∀ (l : List UInt8), ∀ p ∈ piecesL c l, p.length ≤ l.length
  | [], p, hp => by simp [piecesL] at hp; subst hp; simp
  | b :: l, p, hp => by
    have ih := pieces_le (c := c) l
    cases hq : piecesL c l with
    | nil => exact absurd hq (piecesL_ne c l)
    | cons q ps =>
      by_cases h : b = c
      · subst h
        rw [piecesL_cons_eq, List.mem_cons] at hp
        rcases hp with rfl | hp
        · simp
        · have := ih p hp; simp; omega
      · rw [piecesL_cons_ne h hq, List.mem_cons] at hp
        rw [hq] at ih
        rcases hp with rfl | hp
        · have := ih q (by simp); simp; omega
        · have := ih p (List.mem_cons_of_mem _ hp); simp; omega
theorem splitK_pieces (c : UInt8) : ∀ (n : Nat) (l : List UInt8), l.count c = n → Lib.splitK [c] 0 n l = piecesL c l
  | 0, l, h => by
    rw [piecesL_none (List.count_eq_zero.1 h)]; rfl
  | n + 1, l, h => by
    have hpos : 0 < Lib.count l [c] := by rw [Lib.count_one]; omega
    obtain ⟨i, hi⟩ := Lib.index_of_count hpos
    have hi' := hi
    rw [Lib.index_one] at hi'
    obtain ⟨h1, h2⟩ := Lib.indexByte_some hi'
    have hlt := (List.getElem?_eq_some_iff.1 h1).1
    have hspl : l = l.take i ++ c :: l.drop (i + 1) := by
      have := (List.getElem?_eq_some_iff.1 h1).2
      rw [← this, List.getElem_cons_drop, List.take_append_drop]
    have hfree : c ∉ l.take i := by
      intro hm
      obtain ⟨k, hk, he⟩ := List.getElem_of_mem hm
      rw [List.length_take] at hk
      apply h2 k (by omega)
      rw [List.getElem_take] at he
      rw [List.getElem?_eq_getElem (by omega)]
      exact congrArg some he
    have hm : ¬ (Lib.index l [c] == -1) = true := fun e => by have := beq_iff_eq.1 e; omega
    have hcnt : (l.drop (i + 1)).count c = n := by
      rw [hspl, List.count_append, List.count_cons_self, List.count_eq_zero.2 hfree] at h
      omega
    unfold Lib.splitK
    rw [if_neg hm, show (Lib.index l [c]).toNat = i by omega, Nat.add_zero, List.length_singleton, splitK_pieces c n _ hcnt]
    conv => rhs; rw [hspl]
    rw [piecesL_app _ hfree]
theorem split_pieces (s : ByteArray) (c : UInt8) : (Lib.splitB ⟨#[c]⟩ 0 (Lib.countB s ⟨#[c]⟩) s).map (·.data.toList) = piecesL c s.data.toList := by
  rw [Lib.splitB_data]
  exact splitK_pieces c _ _ (Lib.count_one c _).symm
/-- The pieces, as texts. -/
def piecesB (s : ByteArray) (c : UInt8) : List ByteArray := (piecesL c s.data.toList).map fun l => ⟨l.toArray⟩
theorem toB (x : ByteArray) : (⟨x.data.toList.toArray⟩ : ByteArray) = x := by
  obtain ⟨⟨x⟩⟩ := x; rfl
theorem split_eq (s : ByteArray) (c : UInt8) : Lib.splitB ⟨#[c]⟩ 0 (Lib.countB s ⟨#[c]⟩) s = piecesB s c := by
  unfold piecesB
  rw [← split_pieces, List.map_map]
  conv => lhs; rw [← List.map_id (Lib.splitB ⟨#[c]⟩ 0 (Lib.countB s ⟨#[c]⟩) s)]
  exact List.map_congr_left fun x _ => (toB x).symm
end Go.Proofs.YtodmbjbfigifnaaDoor.Pure
end

section
set_option linter.unusedVariables false
set_option linter.unusedSimpArgs false
namespace Go.Proofs.YtodmbjbfigifnaaDoor.Pure
open Go.RowKit Go.Proofs.YtodmbjbfigifnaaDoor.PAll Go.Proofs.YtodmbjbfigifnaaDoorW.PrintWords Go.Proofs.YtodmbjbfigifnaaDoorW.PrintLast Go.Proofs.YtodmbjbfigifnaaDoorW.PrintMore
/-- What Print answers. -/
def prtV (lo hi : ByteArray) (op : Bool) : ByteArray × Int :=
  if rgE lo hi op = 0 then ((if op = true then hexB lo ++ (⟨#[46, 46, 42]⟩ : ByteArray) else hexB lo ++ (⟨#[46, 46]⟩ : ByteArray) ++ hexB hi), 0) else ((⟨#[]⟩ : ByteArray), rgE lo hi op)
theorem rgE_sizes {lo hi : ByteArray} {op : Bool} (h : rgE lo hi op = 0) : lo.size ≤ 16 ∧ hi.size ≤ 16 := by
  unfold rgE at h
  split at h
  · simp at h
  · omega
theorem prt_f (lo hi : ByteArray) (op : Bool) : Ev (fun k => span_Print.f k lo hi op) (prtV lo hi op) := by
  refine Ev.congr (fun k => by rw [span_Print.f]) (Ev.bind (rgE_f lo hi op) ?_)
  unfold prtV
  by_cases h : rgE lo hi op = 0
  · obtain ⟨h1, h2⟩ := rgE_sizes h
    simp only [if_pos h]
    have s1 := hexB_size lo
    have s2 := hexB_size hi
    cases op with
    | true =>
      simp only [if_true]
      refine Ev.bind (hex_f lo (by omega)) ?_
      simp only [if_pos (show (hexB lo).size + 3 ≤ 9223372036854775807 by omega)]
      exact Ev.const rfl
    | false =>
      simp only [if_neg (show ¬ (false = true) by decide)]
      refine Ev.bind (hex_f lo (by omega)) ?_
      simp only [if_pos (show (hexB lo).size + 2 ≤ 9223372036854775807 by omega)]
      refine Ev.bind (hex_f hi (by omega)) ?_
      have s3 : (hexB lo ++ (⟨#[46, 46]⟩ : ByteArray)).size = (hexB lo).size + 2 := by rw [ByteArray.size_append]; rfl
      simp only [if_pos (show (hexB lo ++ (⟨#[46, 46]⟩ : ByteArray)).size + (hexB hi).size ≤ 9223372036854775807 by omega)]
      exact Ev.const rfl
  · simp only [if_neg h]; exact Ev.const rfl
end Go.Proofs.YtodmbjbfigifnaaDoor.Pure
end
