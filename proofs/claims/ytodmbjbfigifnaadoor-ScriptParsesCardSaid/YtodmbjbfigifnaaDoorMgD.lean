import Derived.Test.YtodmbjbfigifnaaDoorProg
import Derived.Test.YtodmbjbfigifnaaDoorWWords
import Derived.Test.YtodmbjbfigifnaaDoorWLast
import Derived.Test.YtodmbjbfigifnaaDoorWMore
import Derived.Test.YtodmbjbfigifnaaDoorPAllx2
import Derived.Test.YtodmbjbfigifnaaDoorMgB
import Derived.Test.YtodmbjbfigifnaaDoorMgC
import Derived.Below
import Derived.Lib.Hide
import Derived.WalkKit
import Derived.Test.YtodmbjbfigifnaaDoorMgE
import Derived.Test.YtodmbjbfigifnaaDoorPAllx3
import Derived.Test.YtodmbjbfigifnaaDoorPAllx4
import Derived.RangeFuncBox
import Derived.BigQuiet
import Derived.Deep.QuietTactic
import Derived.Tactics
import Derived.OwnWalk
import Derived.BigRegion
import Derived.RegionTactic
import Derived.Deep.RegionWith
import Derived.Deep.RegionHeld
import Derived.Deep.RegionHeld3
import Derived.WalkSmall
import Derived.WalkLawsBesides
import Derived.Laws.Slices
section
-- By wip/late.py (a program of this session) out of wip/words.
set_option linter.unusedVariables false
set_option linter.unusedSimpArgs false
namespace Go.Proofs.YtodmbjbfigifnaaDoor.Sc
open Go.RowKit Go.Proofs.YtodmbjbfigifnaaDoor.Glob Go.Proofs.YtodmbjbfigifnaaDoor.Dig Go.Proofs.YtodmbjbfigifnaaDoorW.PrintWords Go.Proofs.YtodmbjbfigifnaaDoor.PAll Go.Proofs.YtodmbjbfigifnaaDoor.Pure
/-! The document's words of commands, and its fields. By wip/gensci.py. -/
def wordP (kd : Int) : ByteArray := (tidelineref21_word.f kd).getD ⟨#[]⟩
theorem ite_ex {α : Type} {c : Prop} [Decidable c] {x : α} {e : Option α} (h : ∃ r, e = some r) : ∃ r, (if c then some x else e) = some r := by
  by_cases hc : c
  · exact ⟨x, if_pos hc⟩
  · obtain ⟨r, hr⟩ := h; exact ⟨r, (if_neg hc).trans hr⟩
theorem wordP_f (kd : Int) : tidelineref21_word.f kd = some (wordP kd) := by
  have h : ∃ r, tidelineref21_word.f kd = some r := by
    unfold tidelineref21_word.f
    repeat refine ite_ex ?_
    exact ⟨_, rfl⟩
  obtain ⟨r, h⟩ := h
  unfold wordP
  rw [h]
  rfl
/-- The last of the kinds 1 to n whose word is t. -/
def kindUpto (t : ByteArray) : Nat → Int
  | 0 => 0
  | n + 1 => if wordP ((n + 1 : Nat) : Int) = t then ((n + 1 : Nat) : Int) else kindUpto t n
theorem shape_lets : ∀ x ∈ lets, tidelineref21_shape.f 9 x.2.1 = some ⟨(x.2.2.map UInt8.ofNat).toArray⟩ := by decide +kernel
theorem shape_zero : tidelineref21_shape.f 9 0 = some ⟨#[110]⟩ := by decide +kernel
theorem w_put : wordP ((1 : Nat) : Int) = ⟨#[112, 117, 116]⟩ := by decide +kernel
theorem w_del : wordP ((2 : Nat) : Int) = ⟨#[100, 101, 108]⟩ := by decide +kernel
theorem w_get : wordP ((3 : Nat) : Int) = ⟨#[103, 101, 116]⟩ := by decide +kernel
theorem w_scan : wordP ((4 : Nat) : Int) = ⟨#[115, 99, 97, 110]⟩ := by decide +kernel
theorem w_fold : wordP ((5 : Nat) : Int) = ⟨#[102, 111, 108, 100]⟩ := by decide +kernel
theorem w_open : wordP ((6 : Nat) : Int) = ⟨#[111, 112, 101, 110]⟩ := by decide +kernel
theorem w_raw : wordP ((10 : Nat) : Int) = ⟨#[114, 97, 119]⟩ := by decide +kernel
theorem w_tick : wordP ((11 : Nat) : Int) = ⟨#[116, 105, 99, 107]⟩ := by decide +kernel
theorem w_crash : wordP ((12 : Nat) : Int) = ⟨#[99, 114, 97, 115, 104]⟩ := by decide +kernel
theorem w_start : wordP ((13 : Nat) : Int) = ⟨#[115, 116, 97, 114, 116]⟩ := by decide +kernel
theorem w_map : wordP ((14 : Nat) : Int) = ⟨#[109, 97, 112]⟩ := by decide +kernel
theorem w_talks : wordP ((15 : Nat) : Int) = ⟨#[116, 97, 108, 107, 115]⟩ := by decide +kernel
theorem w_count : wordP ((16 : Nat) : Int) = ⟨#[99, 111, 117, 110, 116]⟩ := by decide +kernel
theorem w_go : wordP ((7 : Nat) : Int) = ⟨#[103, 111]⟩ := by decide +kernel
theorem w_drop : wordP ((8 : Nat) : Int) = ⟨#[100, 114, 111, 112]⟩ := by decide +kernel
theorem w_twice : wordP ((9 : Nat) : Int) = ⟨#[116, 119, 105, 99, 101]⟩ := by decide +kernel
theorem w_bag : wordP ((17 : Nat) : Int) = ⟨#[98, 97, 103]⟩ := by decide +kernel
theorem kind_look (t : ByteArray) : kindUpto t 17 = match lets.lookup t with | none => 0 | some x => x.1 := by
  by_cases h_put : t = ⟨#[112, 117, 116]⟩
  · subst h_put; decide +kernel
  by_cases h_del : t = ⟨#[100, 101, 108]⟩
  · subst h_del; decide +kernel
  by_cases h_get : t = ⟨#[103, 101, 116]⟩
  · subst h_get; decide +kernel
  by_cases h_scan : t = ⟨#[115, 99, 97, 110]⟩
  · subst h_scan; decide +kernel
  by_cases h_fold : t = ⟨#[102, 111, 108, 100]⟩
  · subst h_fold; decide +kernel
  by_cases h_open : t = ⟨#[111, 112, 101, 110]⟩
  · subst h_open; decide +kernel
  by_cases h_raw : t = ⟨#[114, 97, 119]⟩
  · subst h_raw; decide +kernel
  by_cases h_tick : t = ⟨#[116, 105, 99, 107]⟩
  · subst h_tick; decide +kernel
  by_cases h_crash : t = ⟨#[99, 114, 97, 115, 104]⟩
  · subst h_crash; decide +kernel
  by_cases h_start : t = ⟨#[115, 116, 97, 114, 116]⟩
  · subst h_start; decide +kernel
  by_cases h_map : t = ⟨#[109, 97, 112]⟩
  · subst h_map; decide +kernel
  by_cases h_talks : t = ⟨#[116, 97, 108, 107, 115]⟩
  · subst h_talks; decide +kernel
  by_cases h_count : t = ⟨#[99, 111, 117, 110, 116]⟩
  · subst h_count; decide +kernel
  by_cases h_go : t = ⟨#[103, 111]⟩
  · subst h_go; decide +kernel
  by_cases h_drop : t = ⟨#[100, 114, 111, 112]⟩
  · subst h_drop; decide +kernel
  by_cases h_twice : t = ⟨#[116, 119, 105, 99, 101]⟩
  · subst h_twice; decide +kernel
  by_cases h_bag : t = ⟨#[98, 97, 103]⟩
  · subst h_bag; decide +kernel
  have e_put : (t == ⟨#[112, 117, 116]⟩) = false := by rw [Bool.eq_false_iff]; exact fun e => h_put ((MapKept.bytes_beq _ _).1 e)
  have f_put : ¬ (⟨#[112, 117, 116]⟩ : ByteArray) = t := fun e => h_put e.symm
  have e_del : (t == ⟨#[100, 101, 108]⟩) = false := by rw [Bool.eq_false_iff]; exact fun e => h_del ((MapKept.bytes_beq _ _).1 e)
  have f_del : ¬ (⟨#[100, 101, 108]⟩ : ByteArray) = t := fun e => h_del e.symm
  have e_get : (t == ⟨#[103, 101, 116]⟩) = false := by rw [Bool.eq_false_iff]; exact fun e => h_get ((MapKept.bytes_beq _ _).1 e)
  have f_get : ¬ (⟨#[103, 101, 116]⟩ : ByteArray) = t := fun e => h_get e.symm
  have e_scan : (t == ⟨#[115, 99, 97, 110]⟩) = false := by rw [Bool.eq_false_iff]; exact fun e => h_scan ((MapKept.bytes_beq _ _).1 e)
  have f_scan : ¬ (⟨#[115, 99, 97, 110]⟩ : ByteArray) = t := fun e => h_scan e.symm
  have e_fold : (t == ⟨#[102, 111, 108, 100]⟩) = false := by rw [Bool.eq_false_iff]; exact fun e => h_fold ((MapKept.bytes_beq _ _).1 e)
  have f_fold : ¬ (⟨#[102, 111, 108, 100]⟩ : ByteArray) = t := fun e => h_fold e.symm
  have e_open : (t == ⟨#[111, 112, 101, 110]⟩) = false := by rw [Bool.eq_false_iff]; exact fun e => h_open ((MapKept.bytes_beq _ _).1 e)
  have f_open : ¬ (⟨#[111, 112, 101, 110]⟩ : ByteArray) = t := fun e => h_open e.symm
  have e_raw : (t == ⟨#[114, 97, 119]⟩) = false := by rw [Bool.eq_false_iff]; exact fun e => h_raw ((MapKept.bytes_beq _ _).1 e)
  have f_raw : ¬ (⟨#[114, 97, 119]⟩ : ByteArray) = t := fun e => h_raw e.symm
  have e_tick : (t == ⟨#[116, 105, 99, 107]⟩) = false := by rw [Bool.eq_false_iff]; exact fun e => h_tick ((MapKept.bytes_beq _ _).1 e)
  have f_tick : ¬ (⟨#[116, 105, 99, 107]⟩ : ByteArray) = t := fun e => h_tick e.symm
  have e_crash : (t == ⟨#[99, 114, 97, 115, 104]⟩) = false := by rw [Bool.eq_false_iff]; exact fun e => h_crash ((MapKept.bytes_beq _ _).1 e)
  have f_crash : ¬ (⟨#[99, 114, 97, 115, 104]⟩ : ByteArray) = t := fun e => h_crash e.symm
  have e_start : (t == ⟨#[115, 116, 97, 114, 116]⟩) = false := by rw [Bool.eq_false_iff]; exact fun e => h_start ((MapKept.bytes_beq _ _).1 e)
  have f_start : ¬ (⟨#[115, 116, 97, 114, 116]⟩ : ByteArray) = t := fun e => h_start e.symm
  have e_map : (t == ⟨#[109, 97, 112]⟩) = false := by rw [Bool.eq_false_iff]; exact fun e => h_map ((MapKept.bytes_beq _ _).1 e)
  have f_map : ¬ (⟨#[109, 97, 112]⟩ : ByteArray) = t := fun e => h_map e.symm
  have e_talks : (t == ⟨#[116, 97, 108, 107, 115]⟩) = false := by rw [Bool.eq_false_iff]; exact fun e => h_talks ((MapKept.bytes_beq _ _).1 e)
  have f_talks : ¬ (⟨#[116, 97, 108, 107, 115]⟩ : ByteArray) = t := fun e => h_talks e.symm
  have e_count : (t == ⟨#[99, 111, 117, 110, 116]⟩) = false := by rw [Bool.eq_false_iff]; exact fun e => h_count ((MapKept.bytes_beq _ _).1 e)
  have f_count : ¬ (⟨#[99, 111, 117, 110, 116]⟩ : ByteArray) = t := fun e => h_count e.symm
  have e_go : (t == ⟨#[103, 111]⟩) = false := by rw [Bool.eq_false_iff]; exact fun e => h_go ((MapKept.bytes_beq _ _).1 e)
  have f_go : ¬ (⟨#[103, 111]⟩ : ByteArray) = t := fun e => h_go e.symm
  have e_drop : (t == ⟨#[100, 114, 111, 112]⟩) = false := by rw [Bool.eq_false_iff]; exact fun e => h_drop ((MapKept.bytes_beq _ _).1 e)
  have f_drop : ¬ (⟨#[100, 114, 111, 112]⟩ : ByteArray) = t := fun e => h_drop e.symm
  have e_twice : (t == ⟨#[116, 119, 105, 99, 101]⟩) = false := by rw [Bool.eq_false_iff]; exact fun e => h_twice ((MapKept.bytes_beq _ _).1 e)
  have f_twice : ¬ (⟨#[116, 119, 105, 99, 101]⟩ : ByteArray) = t := fun e => h_twice e.symm
  have e_bag : (t == ⟨#[98, 97, 103]⟩) = false := by rw [Bool.eq_false_iff]; exact fun e => h_bag ((MapKept.bytes_beq _ _).1 e)
  have f_bag : ¬ (⟨#[98, 97, 103]⟩ : ByteArray) = t := fun e => h_bag e.symm
  have hl : lets.lookup t = none := by
    unfold lets
    simp only [List.lookup_cons, List.lookup_nil, e_put, e_del, e_get, e_scan, e_fold, e_open, e_raw, e_tick, e_crash, e_start, e_map, e_talks, e_count, e_go, e_drop, e_twice, e_bag]
  rw [hl]
  rw [show kindUpto t 17 = if wordP ((17 : Nat) : Int) = t then ((17 : Nat) : Int) else kindUpto t 16 from rfl, w_bag, if_neg f_bag]
  rw [show kindUpto t 16 = if wordP ((16 : Nat) : Int) = t then ((16 : Nat) : Int) else kindUpto t 15 from rfl, w_count, if_neg f_count]
  rw [show kindUpto t 15 = if wordP ((15 : Nat) : Int) = t then ((15 : Nat) : Int) else kindUpto t 14 from rfl, w_talks, if_neg f_talks]
  rw [show kindUpto t 14 = if wordP ((14 : Nat) : Int) = t then ((14 : Nat) : Int) else kindUpto t 13 from rfl, w_map, if_neg f_map]
  rw [show kindUpto t 13 = if wordP ((13 : Nat) : Int) = t then ((13 : Nat) : Int) else kindUpto t 12 from rfl, w_start, if_neg f_start]
  rw [show kindUpto t 12 = if wordP ((12 : Nat) : Int) = t then ((12 : Nat) : Int) else kindUpto t 11 from rfl, w_crash, if_neg f_crash]
  rw [show kindUpto t 11 = if wordP ((11 : Nat) : Int) = t then ((11 : Nat) : Int) else kindUpto t 10 from rfl, w_tick, if_neg f_tick]
  rw [show kindUpto t 10 = if wordP ((10 : Nat) : Int) = t then ((10 : Nat) : Int) else kindUpto t 9 from rfl, w_raw, if_neg f_raw]
  rw [show kindUpto t 9 = if wordP ((9 : Nat) : Int) = t then ((9 : Nat) : Int) else kindUpto t 8 from rfl, w_twice, if_neg f_twice]
  rw [show kindUpto t 8 = if wordP ((8 : Nat) : Int) = t then ((8 : Nat) : Int) else kindUpto t 7 from rfl, w_drop, if_neg f_drop]
  rw [show kindUpto t 7 = if wordP ((7 : Nat) : Int) = t then ((7 : Nat) : Int) else kindUpto t 6 from rfl, w_go, if_neg f_go]
  rw [show kindUpto t 6 = if wordP ((6 : Nat) : Int) = t then ((6 : Nat) : Int) else kindUpto t 5 from rfl, w_open, if_neg f_open]
  rw [show kindUpto t 5 = if wordP ((5 : Nat) : Int) = t then ((5 : Nat) : Int) else kindUpto t 4 from rfl, w_fold, if_neg f_fold]
  rw [show kindUpto t 4 = if wordP ((4 : Nat) : Int) = t then ((4 : Nat) : Int) else kindUpto t 3 from rfl, w_scan, if_neg f_scan]
  rw [show kindUpto t 3 = if wordP ((3 : Nat) : Int) = t then ((3 : Nat) : Int) else kindUpto t 2 from rfl, w_get, if_neg f_get]
  rw [show kindUpto t 2 = if wordP ((2 : Nat) : Int) = t then ((2 : Nat) : Int) else kindUpto t 1 from rfl, w_del, if_neg f_del]
  rw [show kindUpto t 1 = if wordP ((1 : Nat) : Int) = t then ((1 : Nat) : Int) else kindUpto t 0 from rfl, w_put, if_neg f_put]
  rfl
end Go.Proofs.YtodmbjbfigifnaaDoor.Sc
end

section
-- By wip/late.py (a program of this session) out of wip/words.
set_option linter.unusedVariables false
set_option linter.unusedSimpArgs false
namespace Go.Proofs.YtodmbjbfigifnaaDoor.Sc
open Go.RowKit Go.Proofs.YtodmbjbfigifnaaDoor.Glob Go.Proofs.YtodmbjbfigifnaaDoor.Dig Go.Proofs.YtodmbjbfigifnaaDoorW.PrintWords Go.Proofs.YtodmbjbfigifnaaDoor.PAll Go.Proofs.YtodmbjbfigifnaaDoor.Pure
/-! The document's fields (pure). -/
theorem bt_list0 (s : ByteArray) (h : 0 < s.size) : ∃ b l, s.data.toList = b :: l ∧ bt s 0 = (b.toNat : Int) := by
  have hl : 0 < s.data.toList.length := by rw [show s.data.toList.length = s.size from Array.length_toList]; exact h
  cases hs : s.data.toList with
  | nil => rw [hs] at hl; simp at hl
  | cons b l =>
    refine ⟨b, l, rfl, ?_⟩
    have := Dig.bt_nat s 0 hl
    rw [show (0 : Int) = ((0 : Nat) : Int) from rfl, this]
    simp [hs]
theorem rbytes_f (c : UInt8) (t : ByteArray) (ht : t.size ≤ 400) : ∃ r ok, Ev (fun k => tidelineref21_bytes.f k t (c.toNat : Int)) (r, ok) ∧ (match bytW c t with | some s => ok = true ∧ r = s | none => ok = false) := by
  by_cases h0 : t.toList = ([] : List UInt8)
  · refine ⟨⟨#[]⟩, false, Ev.congr (fun k => by rw [tidelineref21_bytes.f, if_pos h0]) (Ev.const rfl), ?_⟩
    have h1 : t.size = 0 := (toList_nil t).1 h0
    have h2 : t.data.toList = [] := List.eq_nil_of_length_eq_zero ((show t.data.toList.length = t.size from Array.length_toList).trans h1)
    unfold bytW
    rw [if_neg (by rw [h2]; simp [Lib.hasPrefix])]
  · have h1 : 0 < t.size := Nat.pos_of_ne_zero fun e => h0 ((toList_nil t).2 e)
    obtain ⟨b, l, hbl, hb⟩ := bt_list0 t h1
    have hpre : Lib.hasPrefix t.data.toList [c] = true ↔ b = c := by
      rw [hbl]
      unfold Lib.hasPrefix
      simp [List.isPrefixOf]
      exact ⟨fun e => e.symm, fun e => e.symm⟩
    by_cases hc : b = c
    · have hbt : bt t 0 = (c.toNat : Int) := by rw [hb, hc]
      refine ⟨(unhE (t.extract 1 t.size)).1, ((unhE (t.extract 1 t.size)).2 == 0), Ev.congr (fun k => by rw [tidelineref21_bytes.f, if_neg h0, if_pos (by omega), if_pos hbt, if_pos (by omega)]) (Ev.bind (runhex_f (t.extract 1 t.size) (by have := ext_size t 1; omega)) (Ev.const rfl)), ?_⟩
      unfold bytW
      rw [if_pos (hpre.2 hc)]
      by_cases hu : (unhE (t.extract 1 t.size)).2 = 0
      · rw [if_pos hu]; exact ⟨by rw [hu]; rfl, rfl⟩
      · rw [if_neg hu]; exact beq_eq_false_iff_ne.2 hu
    · have hbt : ¬ bt t 0 = (c.toNat : Int) := by rw [hb]; exact fun e => hc (UInt8.toNat_inj.1 (by omega))
      refine ⟨⟨#[]⟩, false, Ev.congr (fun k => by rw [tidelineref21_bytes.f, if_neg h0, if_pos (by omega), if_neg hbt]) (Ev.const rfl), ?_⟩
      unfold bytW
      rw [if_neg (fun e => hc (hpre.1 e))]
theorem rspan_f (t : ByteArray) (ht : t.size ≤ 400) : Ev (fun k => tidelineref02_Parse.f k t) (spV t) := by
  obtain ⟨lo, hi, ok, hc, _, _⟩ := cut_le t ht
  have e : spV t = parV lo hi ok := by unfold spV; rw [hc]
  rw [e]
  exact (rparse_of t lo hi ok (by omega) hc).1
theorem rfield_f (o : OpT) {c : Nat} (hc : isLet c) (t : ByteArray) (ht : t.size ≤ 400) :
    ∃ (r : OpT) (ok : Bool), Ev (fun k => tidelineref21_field.f k o.f0 o.f1 o.f2 o.f3 o.f4 o.f5 o.f6.f0 o.f6.f1 o.f6.f2 ((c : Nat) : Int) t) (r.f0, r.f1, r.f2, r.f3, r.f4, r.f5, r.f6.f0, r.f6.f1, r.f6.f2, ok) ∧ (match fieldW c t o with | some o' => ok = true ∧ r = o' | none => ok = false) := by
  have hn := ref_f t (by omega) 9223372036854775807
  have num : ∀ (f : Int → OpT), (match (numW t).map f with | some o' => ((numP t.data.toList 9223372036854775807).2 == 0) = true ∧ f (numP t.data.toList 9223372036854775807).1 = o' | none => ((numP t.data.toList 9223372036854775807).2 == 0) = false) := by
    intro f
    unfold numW
    by_cases h : (numP t.data.toList 9223372036854775807).2 = 0
    · rw [if_pos h]; exact ⟨by rw [h]; rfl, rfl⟩
    · rw [if_neg h]; exact beq_eq_false_iff_ne.2 h
  rcases hc with rfl | rfl | rfl | rfl | rfl | rfl
  · exact ⟨{ o with f1 := (numP t.data.toList 9223372036854775807).1 }, _, Ev.congr (fun k => by rw [tidelineref21_field.f]) (Ev.bind hn (Ev.const rfl)), num _⟩
  · exact ⟨{ o with f2 := (numP t.data.toList 9223372036854775807).1 }, _, Ev.congr (fun k => by rw [tidelineref21_field.f]) (Ev.bind hn (Ev.const rfl)), num _⟩
  · exact ⟨{ o with f3 := (numP t.data.toList 9223372036854775807).1 }, _, Ev.congr (fun k => by rw [tidelineref21_field.f]) (Ev.bind hn (Ev.const rfl)), num _⟩
  · obtain ⟨r, ok, hev, hm⟩ := rbytes_f 107 t ht
    have h2 : Ev (fun k => (tidelineref21_bytes.f k t 107).bind fun bt => some (o.f0, o.f1, o.f2, o.f3, bt.1, o.f5, o.f6.f0, o.f6.f1, o.f6.f2, bt.2)) (o.f0, o.f1, o.f2, o.f3, r, o.f5, o.f6.f0, o.f6.f1, o.f6.f2, ok) := Ev.bind hev (Ev.const rfl)
    refine ⟨{ o with f4 := r }, ok, Ev.congr (fun k => by rw [tidelineref21_field.f]) (Ev.bind hn (Ev.congr (fun k => rfl) h2)), ?_⟩
    have e : fieldW 107 t o = (bytW 107 t).map fun s => { o with f4 := s } := rfl
    rw [e]
    cases hb : bytW 107 t with
    | none => rw [hb] at hm; exact hm
    | some s => rw [hb] at hm; exact ⟨hm.1, by rw [hm.2]⟩
  · obtain ⟨r, ok, hev, hm⟩ := rbytes_f 61 t ht
    have h2 : Ev (fun k => (tidelineref21_bytes.f k t 61).bind fun bt => some (o.f0, o.f1, o.f2, o.f3, o.f4, bt.1, o.f6.f0, o.f6.f1, o.f6.f2, bt.2)) (o.f0, o.f1, o.f2, o.f3, o.f4, r, o.f6.f0, o.f6.f1, o.f6.f2, ok) := Ev.bind hev (Ev.const rfl)
    refine ⟨{ o with f5 := r }, ok, Ev.congr (fun k => by rw [tidelineref21_field.f]) (Ev.bind hn (Ev.congr (fun k => rfl) h2)), ?_⟩
    have e : fieldW 118 t o = (bytW 61 t).map fun s => { o with f5 := s } := rfl
    rw [e]
    cases hb : bytW 61 t with
    | none => rw [hb] at hm; exact hm
    | some s => rw [hb] at hm; exact ⟨hm.1, by rw [hm.2]⟩
  · have h2 : Ev (fun k => (tidelineref02_Parse.f k t).bind fun bt => some (o.f0, o.f1, o.f2, o.f3, o.f4, o.f5, bt.1, bt.2.1, bt.2.2.1, (bt.2.2.2 == 0))) (o.f0, o.f1, o.f2, o.f3, o.f4, o.f5, (spV t).1, (spV t).2.1, (spV t).2.2.1, ((spV t).2.2.2 == 0)) := Ev.bind (rspan_f t ht) (Ev.const rfl)
    refine ⟨{ o with f6 := ⟨(spV t).1, (spV t).2.1, (spV t).2.2.1⟩ }, ((spV t).2.2.2 == 0), Ev.congr (fun k => by rw [tidelineref21_field.f]) (Ev.bind hn (Ev.congr (fun k => rfl) h2)), ?_⟩
    have e : fieldW 114 t o = (spnW t).map fun s => { o with f6 := s } := rfl
    rw [e]
    unfold spnW
    by_cases h : (spV t).2.2.2 = 0
    · rw [if_pos h]; exact ⟨by rw [h]; rfl, rfl⟩
    · rw [if_neg h]; exact beq_eq_false_iff_ne.2 h
end Go.Proofs.YtodmbjbfigifnaaDoor.Sc
end

section
-- By wip/late.py (a program of this session) out of wip/words.
set_option linter.unusedVariables false
set_option linter.unusedSimpArgs false
namespace Go.Proofs.YtodmbjbfigifnaaDoor.Sc
open Go.RowKit Go.Proofs.YtodmbjbfigifnaaDoor.Glob Go.Proofs.YtodmbjbfigifnaaDoor.Dig Go.Proofs.YtodmbjbfigifnaaDoorW.PrintWords Go.Proofs.YtodmbjbfigifnaaDoor.PAll Go.Proofs.YtodmbjbfigifnaaDoor.Pure
/-! The document's Parse. By wip/genscl.py. -/
theorem res_cell_tmp {P : Program} {fn : Func} {p q : Tmp} {ty : TypeId} (h : fn.results = #[.cell p ty, .tmp q]) (tmps : Array Value) (w : World) (g : Nat) (t : TypeId) (cs : Array Value) (fr : Nat × Nat) (d : TypeDesc) {v : Value}
    (hp : tmps.getD p undef = .pointer (some ⟨g, 0, Option.none⟩)) (hq : tmps.getD q undef = v) (hg : w.heap[g]? = some (.cells cs t fr))
    (hu : P.underlying ty = some d) (hd : (match d with | .struct _ | .array _ _ => true | _ => false) = true) (hi : (P.info? ty).map (·.size) = some cs.size) :
    (results fn tmps).run P w = .ok (.tuple #[.agg cs, v]) w := by
  have hp' : tmps[p]?.getD undef = .pointer (some ⟨g, 0, Option.none⟩) := by simpa using hp
  have hq' : tmps[q]?.getD undef = v := by simpa using hq
  simp [results, h, hp', hq', asAddr, run_loadVar_row w g t ty cs fr d hg hu hd hi]
theorem own_words {W : World} {base n : Nat} {v : Value} {t : ByteArray} {ts : List ByteArray} (h : W.ownsRow base 9 1 v n (sv (t :: ts))) : ∃ g cap, v = .slice (some ⟨g, 0, Option.none⟩) (ts.length + 1) cap ∧ ts.length + 1 ≤ cap ∧ (∃ cur, W.heap[g]? = some (.cells cur 9 (0, 0))) ∧ ∀ (j : Nat) (x : ByteArray), (t :: ts)[j]? = some x → W.cell? ⟨g, j, Option.none⟩ = some (.string x) := by
  obtain ⟨hl, h⟩ := h
  have hn : n = ts.length + 1 := by simpa [sv] using hl.symm
  subst hn
  rcases h with ⟨_, h0⟩ | ⟨g, cap, cur, rfl, _, hg, hc, _, _, ht⟩
  · omega
  · refine ⟨g, cap, rfl, hc, ⟨cur, hg⟩, fun j x hj => ?_⟩
    have h1 : (sv (t :: ts))[j]? = some (.string x) := by unfold sv; rw [List.getElem?_map, hj]; rfl
    rw [← ht] at h1
    have hlt := (List.getElem?_eq_some_iff.1 h1).1
    rw [List.length_take] at hlt
    rw [List.getElem?_take_of_lt (by omega)] at h1
    rw [blk_cell hg j, ← Array.getElem?_toList]
    exact h1
set_option maxRecDepth 100000 in
set_option maxHeartbeats 1000000 in
theorem rparse_long (s : ByteArray) (hs : 400 < s.size) (w : World) : Calls Tryd.prog 9 #[.string s] w fun e w' => e = .returned (.tuple #[opV zOp, .int .i64 210]) ∧ Below w.heap.size w w' := by
  have hl : (s.size : Int) > 400 := by omega
  go_enter Tryd.func9, Tryd.ntmps9
  go_wp2_with ((with_reducible refine gate_dst (N := 2) rfl ?_); refine box_event ?hg (N := 2) ?hd (cs := #[.int .i64 0, .int .i64 0, .int .i64 0, .int .i64 0, .string ⟨#[]⟩, .string ⟨#[]⟩, .string ⟨#[]⟩, .string ⟨#[]⟩, .bool false]) (t := 31) ?hr ?_; (case hd => rfl); (case hg => rfl); (case hr => first | (go_simp; done) | (go_simp; rfl)); intro p hg w1 hbox hb; have HP := Aside0.mk hbox; have HB1 := Aside0.mk hb; have HGP : Aside0 (w.heap.size ≤ p) := ⟨by omega⟩; have hp0 := (blk_cell hbox 0).trans (show _ = some (Value.int .i64 0) from rfl); have hg0 := blk_frozen hbox 0; have hp1 := (blk_cell hbox 1).trans (show _ = some (Value.int .i64 0) from rfl); have hg1 := blk_frozen hbox 1; have hp2 := (blk_cell hbox 2).trans (show _ = some (Value.int .i64 0) from rfl); have hg2 := blk_frozen hbox 2; have hp3 := (blk_cell hbox 3).trans (show _ = some (Value.int .i64 0) from rfl); have hg3 := blk_frozen hbox 3; have hp4 := (blk_cell hbox 4).trans (show _ = some (Value.string ⟨#[]⟩) from rfl); have hg4 := blk_frozen hbox 4; have hp5 := (blk_cell hbox 5).trans (show _ = some (Value.string ⟨#[]⟩) from rfl); have hg5 := blk_frozen hbox 5; have hp6 := (blk_cell hbox 6).trans (show _ = some (Value.string ⟨#[]⟩) from rfl); have hg6 := blk_frozen hbox 6; have hp7 := (blk_cell hbox 7).trans (show _ = some (Value.string ⟨#[]⟩) from rfl); have hg7 := blk_frozen hbox 7; have hp8 := (blk_cell hbox 8).trans (show _ = some (Value.bool false) from rfl); have hg8 := blk_frozen hbox 8; clear hb hg hbox)
  refine bodyPost_ret (res_cell_tmp rfl _ _ p 31 (opA zOp) (0, 0) _ rfl rfl (setOp_same (o0 := zOp) HP.out zOp) Tryd.underlying31 rfl (by kernel_rfl)) rfl ?_
  exact ⟨rfl, setOp_below HB1.out HGP.out zOp⟩
theorem lets_pos : ∀ x ∈ lets, (x.2.1 == 0) = false := by decide +kernel
theorem shape_of {kk : ByteArray} {kd : Int} {cs : List Nat} (h : (kk, kd, cs) ∈ lets) (hc : ∀ c ∈ cs, isLet c) : ∃ sh : ByteArray, tidelineref21_shape.f 9 kd = some sh ∧ sh.size = cs.length ∧ ∀ (j : Nat) (c : Nat), cs[j]? = some c → ∀ hj : j < sh.size, (sh[j]).toNat = c := by
  have hs := shape_lets _ h
  refine ⟨_, hs, ?_, ?_⟩
  · show Array.size (List.toArray _) = _
    rw [List.size_toArray, List.length_map]
  · intro j c hj hlt
    have hlt2 := (List.getElem?_eq_some_iff.1 hj).1
    have e : (⟨(cs.map UInt8.ofNat).toArray⟩ : ByteArray)[j] = UInt8.ofNat cs[j] := by
      show (cs.map UInt8.ofNat).toArray[j] = _
      simp
    have e2 : cs[j] = c := (List.getElem?_eq_some_iff.1 hj).2
    show ((⟨(cs.map UInt8.ofNat).toArray⟩ : ByteArray)[j]).toNat = c
    rw [e, e2]
    rcases hc c (e2 ▸ List.getElem_mem hlt2) with rfl | rfl | rfl | rfl | rfl | rfl <;> rfl
/-- What the first loop keeps. -/
structure K1 (w3 W : World) (t : ByteArray) (k : Nat) : Prop where
  box : W.heap[w3.heap.size]? = some (.cells (opA { zOp with f0 := kindUpto t k }) 31 (0, 0))
  be : Below w3.heap.size w3 W
theorem K1.drawn {w3 W W' : World} {t : ByteArray} {k : Nat} (h : K1 w3 W t k) (hd : Drawn0 W W') : K1 w3 W' t k := ⟨blk_below h.box hd.below, below_step h.be hd.below⟩
theorem K1.hit {w3 W : World} {t : ByteArray} {k : Nat} (h : K1 w3 W t k) (hw : wordP ((k + 1 : Nat) : Int) = t) : K1 w3 (W.setCell ⟨w3.heap.size, 0, Option.none⟩ (.int .i64 ((k : Int) + 1))) t (k + 1) :=
  ⟨blk_put h.box 0 _ (by rw [show kindUpto t (k + 1) = if wordP ((k + 1 : Nat) : Int) = t then ((k + 1 : Nat) : Int) else kindUpto t k from rfl, if_pos hw]; rfl), below_set h.be (Nat.le_refl _)⟩
theorem K1.miss {w3 W : World} {t : ByteArray} {k : Nat} (h : K1 w3 W t k) (hw : ¬ wordP ((k + 1 : Nat) : Int) = t) : K1 w3 W t (k + 1) :=
  ⟨by rw [show kindUpto t (k + 1) = if wordP ((k + 1 : Nat) : Int) = t then ((k + 1 : Nat) : Int) else kindUpto t k from rfl, if_neg hw]; exact h.box, h.be⟩
theorem fieldsW_len : ∀ (cs : List Nat) (ts : List ByteArray) (o : OpT), ts.length ≠ cs.length → fieldsW cs ts o = Option.none
  | [], [], _, h => absurd rfl h
  | [], _ :: _, _, _ => rfl
  | _ :: _, [], _, _ => rfl
  | c :: cs, t :: ts, o, h => by
    unfold fieldsW
    cases fieldW c t o with
    | none => rfl
    | some o' => exact fieldsW_len cs ts o' (by simpa using h)
/-- What the second loop keeps. -/
structure K2 (w3 W : World) (o : OpT) : Prop where
  box : W.heap[w3.heap.size]? = some (.cells (opA o) 31 (0, 0))
  be : Below w3.heap.size w3 W
section
variable {w3 W W' : World} {o : OpT}
theorem K2.then (h : K2 w3 W o) (hb : Below W.heap.size W W') : K2 w3 W' o := ⟨blk_below h.box hb, below_step h.be hb⟩
theorem K2.alloc (h : K2 w3 W o) (ob : Obj) : K2 w3 (W.alloc ob) o := h.then (below_alloc (Below.refl _ _) ob)
theorem K2.far (h : K2 w3 W o) {b : Nat} (hb : w3.heap.size < b) (r : OpT) : K2 w3 (setOp W b r) o := ⟨setOp_far h.box (by omega) r, setOp_below h.be (Nat.le_of_lt hb) r⟩
theorem K2.far9 (h : K2 w3 W o) {b : Nat} (hb : w3.heap.size < b) (r : OpT) : K2 w3 (((((((((W.setCell ⟨b, 0, Option.none⟩ (.int .i64 r.f0)).setCell ⟨b, 1, Option.none⟩ (.int .i64 r.f1)).setCell ⟨b, 2, Option.none⟩ (.int .i64 r.f2)).setCell ⟨b, 3, Option.none⟩ (.int .i64 r.f3)).setCell ⟨b, 4, Option.none⟩ (.string r.f4)).setCell ⟨b, 5, Option.none⟩ (.string r.f5)).setCell ⟨b, 6, Option.none⟩ (.string r.f6.f0)).setCell ⟨b, 7, Option.none⟩ (.string r.f6.f1)).setCell ⟨b, 8, Option.none⟩ (.bool r.f6.f2)) o := h.far hb r
theorem K2.drew (h : K2 w3 W o) : K2 w3 W.drew o := h.then (Below.refl _ _).drew
theorem K2.put (h : K2 w3 W o) (r : OpT) : K2 w3 (setOp W w3.heap.size r) r := ⟨setOp_same (o0 := o) h.box r, setOp_below h.be (Nat.le_refl _) r⟩
theorem K2.lt (h : K2 w3 W o) : w3.heap.size < W.heap.size := blk_lt h.box
theorem K2.held (h : K2 w3 W o) {g j : Nat} {x : ByteArray} (hr : w3.cell? ⟨g, j, Option.none⟩ = some (.string x)) : W.cell? ⟨w3.heap.size, 0, Option.none⟩ = some (Value.int .i64 o.f0) ∧ W.cell? ⟨w3.heap.size, 1, Option.none⟩ = some (Value.int .i64 o.f1) ∧ W.cell? ⟨w3.heap.size, 2, Option.none⟩ = some (Value.int .i64 o.f2) ∧ W.cell? ⟨w3.heap.size, 3, Option.none⟩ = some (Value.int .i64 o.f3) ∧ W.cell? ⟨w3.heap.size, 4, Option.none⟩ = some (Value.string o.f4) ∧ W.cell? ⟨w3.heap.size, 5, Option.none⟩ = some (Value.string o.f5) ∧ W.cell? ⟨w3.heap.size, 6, Option.none⟩ = some (Value.string o.f6.f0) ∧ W.cell? ⟨w3.heap.size, 7, Option.none⟩ = some (Value.string o.f6.f1) ∧ W.cell? ⟨w3.heap.size, 8, Option.none⟩ = some (Value.bool o.f6.f2) ∧ W.cell? ⟨g, j, Option.none⟩ = some (.string x) ∧ Aside0 (K2 w3 W o) :=
  ⟨(blk_cell h.box 0).trans rfl, (blk_cell h.box 1).trans rfl, (blk_cell h.box 2).trans rfl, (blk_cell h.box 3).trans rfl, (blk_cell h.box 4).trans rfl, (blk_cell h.box 5).trans rfl, (blk_cell h.box 6).trans rfl, (blk_cell h.box 7).trans rfl, (blk_cell h.box 8).trans rfl, (h.be.cell (World.block_lt_of_cell? w3 _ hr)).trans hr, ⟨h⟩⟩
end
set_option maxRecDepth 100000 in
set_option maxHeartbeats 2500000 in
theorem rparse_short (s t : ByteArray) (ts : List ByteArray) (hs : s.size ≤ 400) (hp : piecesB s 32 = t :: ts) (w : World) : Calls Tryd.prog 9 #[.string s] w fun e w' => e = .returned (.tuple #[opV (ansW s).1, .int .i64 (ansW s).2]) ∧ Below w.heap.size w w' := by
  have hl : ¬ (s.size : Int) > 400 := by omega
  have HSP := Aside0.mk hp
  clear hp
  go_enter Tryd.func9, Tryd.ntmps9
  go_wp2_with (first
    | ((with_reducible refine gate_dst (N := 2) rfl ?_); refine box_event ?hg (N := 2) ?hd (cs := #[.int .i64 0, .int .i64 0, .int .i64 0, .int .i64 0, .string ⟨#[]⟩, .string ⟨#[]⟩, .string ⟨#[]⟩, .string ⟨#[]⟩, .bool false]) (t := 31) ?hr ?_; (case hd => rfl); (case hg => rfl); (case hr => first | (go_simp; done) | (go_simp; rfl)); intro p hg w1 hbox hb; have HP := Aside0.mk hbox; have HB1 := Aside0.mk hb; have HGP : Aside0 (w.heap.size ≤ p) := ⟨by omega⟩; clear hb hg hbox)
    | (go_at_call 12; refine (rsplit_calls s 32 (by omega) _).mono ?_; rintro e w3 ⟨v, rfl, hO, hb⟩; rw [HSP.out] at hO; obtain ⟨g, cap, rfl, hcap, hrow, hcells⟩ := own_words hO; have HROW := Aside0.mk (And.intro hrow hcells); have HB3 := Aside0.mk hb; have HP3 := Aside0.mk (blk_below HP.out hb); clear hb hrow hcells hO))
  go_loopw [6] (fun i wr => ∃ k : Nat, i = .int .i64 ((k : Int) + 1) ∧ k ≤ 17 ∧ K1 w3 wr t k) (fun i _ => 18 - (intOf i).toNat)
  case atStart => exact ⟨0, rfl, Nat.zero_le _, heap_alloc_new w3 _, below_alloc (Below.refl _ _) _⟩
  case round =>
    obtain ⟨k, rfl, hk, hK⟩ := hrel
    have e1 : IntKind.i64.wrap ((k : Int) + 1 + 1) = (k : Int) + 1 + 1 := IntWalk.i64_in _ (by omega)
    by_cases hlt : (k : Int) + 1 ≤ 17
    · have hrow0 : ∀ W, K1 w3 W t k → W.cell? ⟨g, 0, Option.none⟩ = some (.string t) := fun W h => (h.be.cell (World.block_lt_of_cell? w3 _ (HROW.out.2 0 t rfl))).trans (HROW.out.2 0 t rfl)
      have HR0 := Aside0.mk hrow0
      have HK : Aside0 (K1 w3 wr.drew t k) := ⟨hK.drawn ⟨1, rfl⟩⟩
      have hwd := fun W => tidelineref21_word.calls ((k : Int) + 1) _ W (wordP_f ((k : Int) + 1))
      have hkk : ((k + 1 : Nat) : Int) = (k : Int) + 1 := by omega
      have hnext : ∀ W, K1 w3 W t k → (wordP ((k : Int) + 1) = t → K1 w3 (W.setCell ⟨w3.heap.size, 0, Option.none⟩ (.int .i64 ((k : Int) + 1))) t (k + 1)) ∧ (¬ wordP ((k : Int) + 1) = t → K1 w3 W t (k + 1)) := fun W h => ⟨fun e => h.hit (by rw [hkk]; exact e), fun e => h.miss (by rw [hkk]; exact e)⟩
      have HNX := Aside0.mk hnext
      clear hrow0 hnext hK hkk
      generalize wordP ((k : Int) + 1) = u at hwd HNX
      go_wp2
      go_region_held3 (fun W => W.cell? ⟨g, 0, Option.none⟩ = some (.string t) ∧ Aside0 (K1 w3 W t k)) (first | exact ⟨HR0.out _ HK9.out, HK9⟩ | exact ⟨HR0.out _ HK.out, HK⟩)
        (first | (go_at_call 17; refine (hwd _).mono ?_; rintro e w9 ⟨rfl, hd⟩; have HK9 := Aside0.mk (HK.out.drawn hd); clear hd))
      all_goals
        have hcz := (blk_cell HK9.out.box 0).trans (show _ = some (Value.int .i64 (kindUpto t k)) from rfl)
        have hfz := blk_frozen HK9.out.box 0
      all_goals go_wp2
      · have hw : u = t := by
          have h_ : (u.toList == t.toList) = true := by assumption
          exact ba_eq.1 (beq_iff_eq.1 h_)
        exact ⟨⟨k + 1, by simp, by omega, (HNX.out _ HK9.out).1 hw⟩, by simp [intOf]; omega⟩
      · have hw : ¬ u = t := by
          have h_ : (u.toList == t.toList) = false := by assumption
          rw [beq_eq_false_iff_ne] at h_
          exact fun e => h_ (ba_eq.2 e)
        exact ⟨⟨k + 1, by simp, by omega, (HNX.out _ HK9.out).2 hw⟩, by simp [intOf]; omega⟩
    · obtain rfl : k = 17 := by omega
      have hkl := kind_look t
      have hcz := (blk_cell hK.box 0).trans (show _ = some (Value.int .i64 (kindUpto t 17)) from rfl)
      have HK := Aside0.mk hK
      cases hx : lets.lookup t with
      | none =>
        rw [hx] at hkl
        simp only at hkl
        rw [hkl] at hcz
        have hn : parW s = Option.none := by unfold parW; rw [if_neg (by omega), HSP.out]; simp only [hx]; rfl
        have HN := Aside0.mk hn
        have HKL := Aside0.mk hkl
        clear hK hkl hx hn e1
        go_wp2_with (go_at_call 18; refine (tidelineref21_shape.calls 9 0 _ _ shape_zero).mono ?_; rintro e w9 ⟨rfl, hd⟩; have hcz9 := (blk_cell (HK.out.drawn hd).box 0).trans (show _ = some (Value.int .i64 (kindUpto t 17)) from rfl); rw [HKL.out] at hcz9; have hp9 := blk_below HP3.out (HK.out.drawn hd).be; have hp0 := (blk_cell hp9 0).trans (show _ = some (Value.int .i64 0) from rfl); have hg0 := blk_frozen hp9 0; have hp1 := (blk_cell hp9 1).trans (show _ = some (Value.int .i64 0) from rfl); have hg1 := blk_frozen hp9 1; have hp2 := (blk_cell hp9 2).trans (show _ = some (Value.int .i64 0) from rfl); have hg2 := blk_frozen hp9 2; have hp3 := (blk_cell hp9 3).trans (show _ = some (Value.int .i64 0) from rfl); have hg3 := blk_frozen hp9 3; have hp4 := (blk_cell hp9 4).trans (show _ = some (Value.string ⟨#[]⟩) from rfl); have hg4 := blk_frozen hp9 4; have hp5 := (blk_cell hp9 5).trans (show _ = some (Value.string ⟨#[]⟩) from rfl); have hg5 := blk_frozen hp9 5; have hp6 := (blk_cell hp9 6).trans (show _ = some (Value.string ⟨#[]⟩) from rfl); have hg6 := blk_frozen hp9 6; have hp7 := (blk_cell hp9 7).trans (show _ = some (Value.string ⟨#[]⟩) from rfl); have hg7 := blk_frozen hp9 7; have hp8 := (blk_cell hp9 8).trans (show _ = some (Value.bool false) from rfl); have hg8 := blk_frozen hp9 8; have HP9 := Aside0.mk hp9; have HB9 := Aside0.mk (below_step (below_step HB1.out HB3.out) (HK.out.drawn hd).be); clear hp9 hd)
        refine bodyPost_ret (res_cell_tmp rfl _ _ p 31 (opA zOp) (0, 0) _ rfl rfl (setOp_same (o0 := zOp) HP9.out zOp) Tryd.underlying31 rfl (by kernel_rfl)) rfl ?_
        exact ⟨by unfold ansW; rw [HN.out]; rfl, setOp_below HB9.out HGP.out zOp⟩
      | some x =>
        obtain ⟨kd, cs⟩ := x
        rename World => wrA
        rw [hx] at hkl
        simp only at hkl
        rw [hkl] at hcz
        obtain ⟨kk, hmem⟩ := lookup_mem hx
        have hlet : cs.length ≤ 3 ∧ ∀ c ∈ cs, isLet c := lets_let _ hmem
        have hkz : (kd == 0) = false := lets_pos _ hmem
        have hn : fieldsW (cs.drop 0) (ts.drop 0) { zOp with f0 := kd } = parW s := by unfold parW; rw [if_neg (by omega), HSP.out]; simp only [hx]; rfl
        obtain ⟨sh, hsh, hshs, hshj⟩ := shape_of hmem hlet.2
        have HLET := Aside0.mk hlet
        have HSH := Aside0.mk hshj
        have HN := Aside0.mk hn
        have HKL := Aside0.mk hkl
        have e2 : IntKind.i64.wrap (1 + (cs.length : Int)) = 1 + (cs.length : Int) := IntWalk.i64_in _ (by have := hlet.1; omega)
        clear hK hkl hx hn e1 hmem hlet hshj
        go_wp2_with (go_at_call 18; refine (tidelineref21_shape.calls 9 kd sh _ hsh).mono ?_; rintro e w9 ⟨rfl, hd⟩; have hcz9 := (blk_cell (HK.out.drawn hd).box 0).trans (show _ = some (Value.int .i64 (kindUpto t 17)) from rfl); rw [HKL.out] at hcz9; have HK9 := Aside0.mk (HK.out.drawn hd); have hp9 := blk_below HP3.out (HK.out.drawn hd).be; have hp0 := (blk_cell hp9 0).trans (show _ = some (Value.int .i64 0) from rfl); have hg0 := blk_frozen hp9 0; have hp1 := (blk_cell hp9 1).trans (show _ = some (Value.int .i64 0) from rfl); have hg1 := blk_frozen hp9 1; have hp2 := (blk_cell hp9 2).trans (show _ = some (Value.int .i64 0) from rfl); have hg2 := blk_frozen hp9 2; have hp3 := (blk_cell hp9 3).trans (show _ = some (Value.int .i64 0) from rfl); have hg3 := blk_frozen hp9 3; have hp4 := (blk_cell hp9 4).trans (show _ = some (Value.string ⟨#[]⟩) from rfl); have hg4 := blk_frozen hp9 4; have hp5 := (blk_cell hp9 5).trans (show _ = some (Value.string ⟨#[]⟩) from rfl); have hg5 := blk_frozen hp9 5; have hp6 := (blk_cell hp9 6).trans (show _ = some (Value.string ⟨#[]⟩) from rfl); have hg6 := blk_frozen hp9 6; have hp7 := (blk_cell hp9 7).trans (show _ = some (Value.string ⟨#[]⟩) from rfl); have hg7 := blk_frozen hp9 7; have hp8 := (blk_cell hp9 8).trans (show _ = some (Value.bool false) from rfl); have hg8 := blk_frozen hp9 8; have HP9 := Aside0.mk hp9; have HB9 := Aside0.mk (below_step (below_step HB1.out HB3.out) (HK.out.drawn hd).be); clear hp9 hd)
        · have hne : ts.length ≠ cs.length := by
            have h_ : ((ts.length : Int) + 1 != 1 + (cs.length : Int)) = true := by assumption
            rw [bne_iff_ne] at h_
            omega
          refine bodyPost_ret (res_cell_tmp rfl _ _ p 31 (opA zOp) (0, 0) _ rfl rfl (setOp_same (o0 := zOp) HP9.out zOp) Tryd.underlying31 rfl (by kernel_rfl)) rfl ?_
          have hn : parW s = Option.none := by rw [← HN.out]; exact fieldsW_len cs ts _ hne
          exact ⟨by unfold ansW; rw [hn]; rfl, setOp_below HB9.out HGP.out zOp⟩
        · have hle : ts.length = cs.length := by
            have h_ : ((ts.length : Int) + 1 != 1 + (cs.length : Int)) = false := by assumption
            have h2 : (ts.length : Int) + 1 = 1 + (cs.length : Int) := by simpa using h_
            omega
          have HLE := Aside0.mk hle
          have HK29 : Aside0 (K2 w3 w9 { zOp with f0 := kd }) := ⟨⟨by have := HK9.out.box; rw [HKL.out] at this; exact this, HK9.out.be⟩⟩
          clear hle hcz hcz9 hp0 hp1 hp2 hp3 hp4 hp5 hp6 hp7 hp8 hg0 hg1 hg2 hg3 hg4 hg5 hg6 hg7 hg8
          go_loopw [8] (fun i wr => ∃ j : Nat, i = .int .i64 (j : Int) ∧ j ≤ cs.length ∧ ∃ o : OpT, K2 w3 wr o ∧ fieldsW (cs.drop j) (ts.drop j) o = parW s) (fun i _ => cs.length - (intOf i).toNat)
          case atStart => exact ⟨0, rfl, Nat.zero_le _, _, HK29.out, HN.out⟩
          case round =>
            obtain ⟨j, rfl, hj, o, hK, hfin⟩ := hrel
            have f1 : (0 : Int) ≤ (j : Int) := by omega
            by_cases hlt : (j : Int) < (cs.length : Int)
            · have hj1 : j < cs.length := by omega
              have hjt : j < ts.length := by have := HLE.out; omega
              have e3 : IntKind.i64.wrap ((j : Int) + 1) = (j : Int) + 1 := IntWalk.i64_in _ (by have := HLET.out.1; omega)
              have hrow := HROW.out.2 (j + 1) ts[j] (by rw [List.getElem?_cons_succ, List.getElem?_eq_getElem hjt])
              rw [fieldsW_step hj1, List.getElem?_eq_getElem hjt, Option.bind_some] at hfin
              have hcL := HLET.out.2 _ (List.getElem_mem hj1)
              have hsj := HSH.out j cs[j] (List.getElem?_eq_getElem hj1)
              have hsz : ts[j].size ≤ 400 := (piecesB_short s 32 hs).1 _ (by rw [HSP.out]; exact List.mem_cons_of_mem _ (List.getElem_mem hjt))
              obtain ⟨r, ok, hev, hm⟩ := rfield_f o hcL ts[j] hsz
              obtain ⟨kf, hkf⟩ := hev.rounds
              have hfc := fun W => tidelineref21_field.calls kf _ _ _ _ _ _ _ _ _ _ _ _ _ _ _ _ _ _ _ _ _ W hkf
              generalize ts[j] = x at *
              generalize cs[j] = c at *
              have HM := Aside0.mk hm
              have HFIN := Aside0.mk hfin
              have HROWJ := Aside0.mk hrow
              have HK : Aside0 (K2 w3 wr.drew o) := ⟨hK.drew⟩
              have HKW := Aside0.mk hK
              have f4 : (j : Int) + 1 < (ts.length : Int) + 1 := by omega
              have f5 : (0 : Int) ≤ (j : Int) + 1 := by omega
              clear hm hfin hrow hK hcL hsz hev hkf hj1 hjt
              go_wp2
              go_region_held3 (fun W => W.cell? ⟨w3.heap.size, 0, Option.none⟩ = some (Value.int .i64 o.f0) ∧ W.cell? ⟨w3.heap.size, 1, Option.none⟩ = some (Value.int .i64 o.f1) ∧ W.cell? ⟨w3.heap.size, 2, Option.none⟩ = some (Value.int .i64 o.f2) ∧ W.cell? ⟨w3.heap.size, 3, Option.none⟩ = some (Value.int .i64 o.f3) ∧ W.cell? ⟨w3.heap.size, 4, Option.none⟩ = some (Value.string o.f4) ∧ W.cell? ⟨w3.heap.size, 5, Option.none⟩ = some (Value.string o.f5) ∧ W.cell? ⟨w3.heap.size, 6, Option.none⟩ = some (Value.string o.f6.f0) ∧ W.cell? ⟨w3.heap.size, 7, Option.none⟩ = some (Value.string o.f6.f1) ∧ W.cell? ⟨w3.heap.size, 8, Option.none⟩ = some (Value.bool o.f6.f2) ∧ W.cell? ⟨g, j + 1, Option.none⟩ = some (.string x) ∧ Aside0 (K2 w3 W o)) (first | with_reducible exact HK5.out.held HROWJ.out | with_reducible exact (HK5.out.alloc _).held HROWJ.out | with_reducible exact (HK5.out.far9 HLO.out r).held HROWJ.out | with_reducible exact HK.out.held HROWJ.out | with_reducible exact (HKW.out.alloc _).drew.held HROWJ.out)
                (first
                | (go_at_call 19; with_reducible refine (hfc _).mono ?_; rintro e w5 ⟨rfl, hb⟩; have HK5 : Aside0 (K2 w3 w5 o) := ⟨HK.out.then hb⟩; clear hb)
                | (go_at_call 19; with_reducible refine (hfc _).mono ?_; rintro e w5 ⟨rfl, hb⟩; have HK5 : Aside0 (K2 w3 w5 o) := ⟨(HKW.out.alloc _).drew.then hb⟩; have HLO : Aside0 (w3.heap.size < wr.heap.size) := ⟨HKW.out.lt⟩; have hA : w5.heap[wr.heap.size]? = some (.cells #[.int .i64 0, .int .i64 0, .int .i64 0, .int .i64 0, .string ⟨#[]⟩, .string ⟨#[]⟩, .string ⟨#[]⟩, .string ⟨#[]⟩, .bool false] 31 (0, 0)) := blk_below (blk_drew (heap_alloc_new wr _)) hb; have hq0 := (blk_cell hA 0).trans (show _ = some (Value.int .i64 0) from rfl); have hqf0 := blk_frozen hA 0; have hq1 := (blk_cell hA 1).trans (show _ = some (Value.int .i64 0) from rfl); have hqf1 := blk_frozen hA 1; have hq2 := (blk_cell hA 2).trans (show _ = some (Value.int .i64 0) from rfl); have hqf2 := blk_frozen hA 2; have hq3 := (blk_cell hA 3).trans (show _ = some (Value.int .i64 0) from rfl); have hqf3 := blk_frozen hA 3; have hq4 := (blk_cell hA 4).trans (show _ = some (Value.string ⟨#[]⟩) from rfl); have hqf4 := blk_frozen hA 4; have hq5 := (blk_cell hA 5).trans (show _ = some (Value.string ⟨#[]⟩) from rfl); have hqf5 := blk_frozen hA 5; have hq6 := (blk_cell hA 6).trans (show _ = some (Value.string ⟨#[]⟩) from rfl); have hqf6 := blk_frozen hA 6; have hq7 := (blk_cell hA 7).trans (show _ = some (Value.string ⟨#[]⟩) from rfl); have hqf7 := blk_frozen hA 7; have hq8 := (blk_cell hA 8).trans (show _ = some (Value.bool false) from rfl); have hqf8 := blk_frozen hA 8; have HA := Aside0.mk hA; clear hb hA))
              all_goals rename_i hHeld
              all_goals first
                | with_reducible refine (?_ : ∀ W, K2 w3 W o → W.heap[w5.heap.size]? = some (.cells #[.int .i64 r.f0, .int .i64 r.f1, .int .i64 r.f2, .int .i64 r.f3, .string r.f4, .string r.f5, .string r.f6.f0, .string r.f6.f1, .bool r.f6.f2] 31 (0, 0)) → Exit.then _ _ Exit.normal _ W) _ (HK5.out.alloc _) (heap_alloc_new _ _)
                | refine (?_ : ∀ W, K2 w3 W o → W.heap[wr.heap.size]? = some (.cells #[.int .i64 r.f0, .int .i64 r.f1, .int .i64 r.f2, .int .i64 r.f3, .string r.f4, .string r.f5, .string r.f6.f0, .string r.f6.f1, .bool r.f6.f2] 31 (0, 0)) → Exit.then _ _ Exit.normal _ W) _ (HK5.out.far9 HLO.out r) (setOp_same (o0 := zOp) HA.out r)
              all_goals
                intro W hKf hNb
                clear hHeld
                have hm := HM.out
                have hfin := HFIN.out
                cases hst : fieldW c x o with
                | none =>
                  rw [hst] at hm hfin
                  obtain rfl : ok = false := hm
                  have HN2 := Aside0.mk (show parW s = Option.none from hfin.symm)
                  have hP := blk_below HP3.out hKf.be
                  have hp0 := (blk_cell hP 0).trans (show _ = some (Value.int .i64 0) from rfl)
                  have hpf0 := blk_frozen hP 0
                  have hp1 := (blk_cell hP 1).trans (show _ = some (Value.int .i64 0) from rfl)
                  have hpf1 := blk_frozen hP 1
                  have hp2 := (blk_cell hP 2).trans (show _ = some (Value.int .i64 0) from rfl)
                  have hpf2 := blk_frozen hP 2
                  have hp3 := (blk_cell hP 3).trans (show _ = some (Value.int .i64 0) from rfl)
                  have hpf3 := blk_frozen hP 3
                  have hp4 := (blk_cell hP 4).trans (show _ = some (Value.string ⟨#[]⟩) from rfl)
                  have hpf4 := blk_frozen hP 4
                  have hp5 := (blk_cell hP 5).trans (show _ = some (Value.string ⟨#[]⟩) from rfl)
                  have hpf5 := blk_frozen hP 5
                  have hp6 := (blk_cell hP 6).trans (show _ = some (Value.string ⟨#[]⟩) from rfl)
                  have hpf6 := blk_frozen hP 6
                  have hp7 := (blk_cell hP 7).trans (show _ = some (Value.string ⟨#[]⟩) from rfl)
                  have hpf7 := blk_frozen hP 7
                  have hp8 := (blk_cell hP 8).trans (show _ = some (Value.bool false) from rfl)
                  have hpf8 := blk_frozen hP 8
                  have HPW := Aside0.mk hP
                  have HBW := Aside0.mk (below_step (below_step HB1.out HB3.out) hKf.be)
                  clear hfin hst hP hKf hNb
                  go_wp2
                  refine bodyPost_ret (res_cell_tmp rfl _ _ p 31 (opA zOp) (0, 0) _ rfl rfl (setOp_same (o0 := zOp) HPW.out zOp) Tryd.underlying31 rfl (by kernel_rfl)) rfl ?_
                  exact ⟨by unfold ansW; rw [HN2.out]; rfl, setOp_below HBW.out HGP.out zOp⟩
                | some o' =>
                  rw [hst] at hm hfin
                  obtain ⟨rfl, rfl⟩ : ok = true ∧ r = o' := hm
                  have HF2 := Aside0.mk (show fieldsW (cs.drop (j + 1)) (ts.drop (j + 1)) r = parW s from hfin)
                  have hz0 := (blk_cell hKf.box 0).trans (show _ = some (Value.int .i64 o.f0) from rfl)
                  have hzf0 := blk_frozen hKf.box 0
                  have hz1 := (blk_cell hKf.box 1).trans (show _ = some (Value.int .i64 o.f1) from rfl)
                  have hzf1 := blk_frozen hKf.box 1
                  have hz2 := (blk_cell hKf.box 2).trans (show _ = some (Value.int .i64 o.f2) from rfl)
                  have hzf2 := blk_frozen hKf.box 2
                  have hz3 := (blk_cell hKf.box 3).trans (show _ = some (Value.int .i64 o.f3) from rfl)
                  have hzf3 := blk_frozen hKf.box 3
                  have hz4 := (blk_cell hKf.box 4).trans (show _ = some (Value.string o.f4) from rfl)
                  have hzf4 := blk_frozen hKf.box 4
                  have hz5 := (blk_cell hKf.box 5).trans (show _ = some (Value.string o.f5) from rfl)
                  have hzf5 := blk_frozen hKf.box 5
                  have hz6 := (blk_cell hKf.box 6).trans (show _ = some (Value.string o.f6.f0) from rfl)
                  have hzf6 := blk_frozen hKf.box 6
                  have hz7 := (blk_cell hKf.box 7).trans (show _ = some (Value.string o.f6.f1) from rfl)
                  have hzf7 := blk_frozen hKf.box 7
                  have hz8 := (blk_cell hKf.box 8).trans (show _ = some (Value.bool o.f6.f2) from rfl)
                  have hzf8 := blk_frozen hKf.box 8
                  have hn0 := (blk_cell hNb 0).trans (show _ = some (Value.int .i64 r.f0) from rfl)
                  have hn1 := (blk_cell hNb 1).trans (show _ = some (Value.int .i64 r.f1) from rfl)
                  have hn2 := (blk_cell hNb 2).trans (show _ = some (Value.int .i64 r.f2) from rfl)
                  have hn3 := (blk_cell hNb 3).trans (show _ = some (Value.int .i64 r.f3) from rfl)
                  have hn4 := (blk_cell hNb 4).trans (show _ = some (Value.string r.f4) from rfl)
                  have hn5 := (blk_cell hNb 5).trans (show _ = some (Value.string r.f5) from rfl)
                  have hn6 := (blk_cell hNb 6).trans (show _ = some (Value.string r.f6.f0) from rfl)
                  have hn7 := (blk_cell hNb 7).trans (show _ = some (Value.string r.f6.f1) from rfl)
                  have hn8 := (blk_cell hNb 8).trans (show _ = some (Value.bool r.f6.f2) from rfl)
                  have HKP := Aside0.mk (hKf.put r)
                  clear hfin hst hKf hNb
                  go_wp2
                  exact ⟨⟨j + 1, by first | rfl | simp | omega, by omega, r, HKP.out, HF2.out⟩, by simp [intOf]; omega⟩
            · have hj2 : ¬ j < cs.length := by omega
              rw [fieldsW_end hj2, if_neg (by have := HLE.out; omega)] at hfin
              have ha : ansW s = (o, 0) := by unfold ansW; rw [← hfin]
              have hP := blk_below HP3.out hK.be
              have hp0 := (blk_cell hP 0).trans (show _ = some (Value.int .i64 0) from rfl)
              have hpf0 := blk_frozen hP 0
              have hp1 := (blk_cell hP 1).trans (show _ = some (Value.int .i64 0) from rfl)
              have hpf1 := blk_frozen hP 1
              have hp2 := (blk_cell hP 2).trans (show _ = some (Value.int .i64 0) from rfl)
              have hpf2 := blk_frozen hP 2
              have hp3 := (blk_cell hP 3).trans (show _ = some (Value.int .i64 0) from rfl)
              have hpf3 := blk_frozen hP 3
              have hp4 := (blk_cell hP 4).trans (show _ = some (Value.string ⟨#[]⟩) from rfl)
              have hpf4 := blk_frozen hP 4
              have hp5 := (blk_cell hP 5).trans (show _ = some (Value.string ⟨#[]⟩) from rfl)
              have hpf5 := blk_frozen hP 5
              have hp6 := (blk_cell hP 6).trans (show _ = some (Value.string ⟨#[]⟩) from rfl)
              have hpf6 := blk_frozen hP 6
              have hp7 := (blk_cell hP 7).trans (show _ = some (Value.string ⟨#[]⟩) from rfl)
              have hpf7 := blk_frozen hP 7
              have hp8 := (blk_cell hP 8).trans (show _ = some (Value.bool false) from rfl)
              have hpf8 := blk_frozen hP 8
              have hz0 := (blk_cell hK.box 0).trans (show _ = some (Value.int .i64 o.f0) from rfl)
              have hz1 := (blk_cell hK.box 1).trans (show _ = some (Value.int .i64 o.f1) from rfl)
              have hz2 := (blk_cell hK.box 2).trans (show _ = some (Value.int .i64 o.f2) from rfl)
              have hz3 := (blk_cell hK.box 3).trans (show _ = some (Value.int .i64 o.f3) from rfl)
              have hz4 := (blk_cell hK.box 4).trans (show _ = some (Value.string o.f4) from rfl)
              have hz5 := (blk_cell hK.box 5).trans (show _ = some (Value.string o.f5) from rfl)
              have hz6 := (blk_cell hK.box 6).trans (show _ = some (Value.string o.f6.f0) from rfl)
              have hz7 := (blk_cell hK.box 7).trans (show _ = some (Value.string o.f6.f1) from rfl)
              have hz8 := (blk_cell hK.box 8).trans (show _ = some (Value.bool o.f6.f2) from rfl)
              have hnp : p ≠ w3.heap.size := by have := blk_lt HP3.out; omega
              have hnp2 : w3.heap.size ≠ p := Ne.symm hnp
              have HPW := Aside0.mk hP
              have HA2 := Aside0.mk ha
              have HBW := Aside0.mk (below_step (below_step HB1.out HB3.out) hK.be)
              clear hfin ha hP hK hj2
              go_wp2
              refine bodyPost_ret (res_cell_tmp rfl _ _ p 31 (opA o) (0, 0) _ rfl rfl (setOp_same (o0 := zOp) HPW.out o) Tryd.underlying31 rfl (by kernel_rfl)) rfl ?_
              exact ⟨by rw [HA2.out]; rfl, setOp_below HBW.out HGP.out o⟩
/-- The document's Parse answers what the program's does. -/
theorem rparse_calls (s : ByteArray) (w : World) : Calls Tryd.prog 9 #[.string s] w fun e w' => e = .returned (.tuple #[opV (ansW s).1, .int .i64 (ansW s).2]) ∧ Below w.heap.size w w' := by
  by_cases hs : 400 < s.size
  · have ha : ansW s = (zOp, 210) := by unfold ansW parW; rw [if_pos hs]
    rw [ha]
    exact rparse_long s hs w
  · cases hp : piecesB s 32 with
    | nil =>
      have := congrArg List.length hp
      unfold piecesB at this
      rw [List.length_map] at this
      exact absurd (List.eq_nil_of_length_eq_zero this) (piecesL_ne _ _)
    | cons t ts => exact rparse_short s t ts (by omega) hp w
end Go.Proofs.YtodmbjbfigifnaaDoor.Sc
end
