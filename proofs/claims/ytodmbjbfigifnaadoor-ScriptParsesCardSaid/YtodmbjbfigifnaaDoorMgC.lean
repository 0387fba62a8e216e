import Derived.Test.YtodmbjbfigifnaaDoorProg
import Derived.Test.YtodmbjbfigifnaaDoorWWords
import Derived.Test.YtodmbjbfigifnaaDoorWLast
import Derived.Test.YtodmbjbfigifnaaDoorWMore
import Derived.Test.YtodmbjbfigifnaaDoorPAllx3
import Derived.Test.YtodmbjbfigifnaaDoorMgA
import Derived.Test.YtodmbjbfigifnaaDoorShelf
import Derived.Test.YtodmbjbfigifnaaDoorSStr
import Derived.WalkSmall
import Derived.Lib.AppendIntMem
import Derived.BigQuiet
import Derived.Deep.QuietTactic
import Derived.Lib.Hide
import Derived.WalkKit
import Derived.Test.YtodmbjbfigifnaaDoorPAllx0
section
-- By wip/late.py (a program of this session) out of wip/words.
set_option linter.unusedVariables false
set_option linter.unusedSimpArgs false
namespace Go.Proofs.YtodmbjbfigifnaaDoor.Dig
open Go.RowKit Go.Shelf Go.Lib Go.Proofs.YtodmbjbfigifnaaDoorW.PrintWords Go.Proofs.YtodmbjbfigifnaaDoor.PAll
/-! The document's reader of numbers answers the same; and a numeral is read again. -/
theorem ev_val {α : Type} {g : Nat → Option α} {r q : α} (h : Ev g r) (e : r = q) : Ev g q := e ▸ h
theorem ev_const {α : Type} {v : Option α} {r : α} (h : v = some r) : Ev (fun _ => v) r := ⟨0, fun _ _ => h⟩
theorem wrap_ok {x : Int} (h0 : -9223372036854775808 ≤ x) (h1 : x ≤ 9223372036854775807) : wrap64 x = x := by unfold wrap64; omega
/-- What digits are worth, behind a number. -/
def vd (acc : Nat) (l : List UInt8) : Nat := l.foldl (fun a c => a * 10 + (c.toNat - 48)) acc
theorem vd_cons (acc : Nat) (c : UInt8) (l : List UInt8) : vd acc (c :: l) = vd (acc * 10 + (c.toNat - 48)) l := by unfold vd; rw [List.foldl_cons]
theorem vd_ge : ∀ (l : List UInt8) (acc : Nat), acc ≤ vd acc l
  | [], acc => Nat.le_refl _
  | c :: l, acc => by
    have := vd_ge l (acc * 10 + (c.toNat - 48))
    rw [vd_cons]; omega
theorem isD_iff {c : UInt8} (h : isD c = true) : 48 ≤ c.toNat ∧ c.toNat ≤ 57 := by simpa [isD] using h
theorem parse_vd (l : List UInt8) : ∀ (acc : Nat), l.all isD = true → acc < 18446744073709551616 → parseUint10 acc l = if vd acc l < 18446744073709551616 then .ok (vd acc l) else .range := by
  induction l with
  | nil =>
    intro acc _ ha
    have e : vd acc [] = acc := rfl
    rw [e, if_pos ha, parseUint10]
  | cons c l ih =>
    intro acc h ha
    rw [List.all_cons, Bool.and_eq_true] at h
    have hc := isD_iff h.1
    have hg := vd_ge l (acc * 10 + (c.toNat - 48))
    rw [parseUint10, if_pos hc, vd_cons]
    by_cases h1 : 1844674407370955162 ≤ acc
    · rw [if_pos h1, if_neg (by omega)]
    · rw [if_neg h1]
      by_cases h2 : 18446744073709551616 ≤ acc * 10 + (c.toNat - 48)
      · rw [if_pos h2, if_neg (by omega)]
      · rw [if_neg h2]
        exact ih _ h.2 (by omega)
theorem numU_vd (l : List UInt8) (h : l.all isD = true) (most : Int) : numU (parseUint10 0 l) most = if 9223372036854775807 < vd 0 l then (0, 12) else if most < (vd 0 l : Int) then (0, 12) else ((vd 0 l : Int), 0) := by
  rw [parse_vd l 0 h (by omega)]
  by_cases h1 : vd 0 l < 18446744073709551616
  · rw [if_pos h1]; rfl
  · rw [if_neg h1, if_pos (by omega)]; rfl
def refR (l : List UInt8) (x : Nat) (big : Bool) (most : Int) : Int × Int :=
  if l.all isD = true then (if big = true ∨ 9223372036854775807 < vd x l then (0, 12) else if most < (vd x l : Int) then (0, 12) else ((vd x l : Int), 0)) else (0, 23)
theorem bt_nat (s : ByteArray) (i : Nat) (h : i < s.data.toList.length) : bt s (i : Int) = ((s.data.toList[i]).toNat : Int) := by
  have hs : i < s.size := Nat.lt_of_lt_of_eq h (Lib.size_eq s)
  unfold bt
  rw [dif_pos (by rw [Int.toNat_natCast]; exact hs)]
  rfl
theorem ref_loop (s : ByteArray) (hs : s.size ≤ 4294967296) (most : Int) (d : Nat) : ∀ (i x : Nat) (big : Bool), i + d = s.data.toList.length → x ≤ 9223372036854775807 →
    Ev (fun k => tidelineref01_Parse.l0 k s most (x : Int) big (i : Int)) (refR (s.data.toList.drop i) x big most) := by
  have hLn : s.data.toList.length = s.size := Lib.size_eq s
  induction d with
  | zero =>
    intro i x big hd hx
    refine Ev.step (fun k => by rw [tidelineref01_Parse.l0]) ?_
    simp only [if_neg (show ¬ (i : Int) < (s.size : Int) by omega)]
    rw [List.drop_of_length_le (by omega)]
    have er : refR [] x big most = if big = true ∨ 9223372036854775807 < x then (0, 12) else if most < (x : Int) then (0, 12) else ((x : Int), 0) := rfl
    rw [er]
    cases big with
    | true => rw [if_pos (Or.inl rfl)]; simp only [if_true]; exact ev_const rfl
    | false =>
      rw [if_neg (show ¬ (false = true ∨ 9223372036854775807 < x) by simp; omega)]
      simp only [if_neg (show ¬ (false = true) by decide)]
      by_cases hm : most < (x : Int)
      · rw [if_pos hm]; simp only [if_pos (show (x : Int) > most from hm)]; exact ev_const rfl
      · rw [if_neg hm]; simp only [if_neg (show ¬ (x : Int) > most from hm)]; exact ev_const rfl
  | succ d ih =>
    intro i x big hd hx
    have hi : i < s.data.toList.length := by omega
    refine Ev.step (fun k => by rw [tidelineref01_Parse.l0]) ?_
    rw [List.drop_eq_getElem_cons hi]
    simp only [if_pos (show (i : Int) < (s.size : Int) by omega), if_pos (show (0 : Int) ≤ (i : Int) by omega), bt_nat s i hi]
    generalize hcc : s.data.toList[i] = c
    have hbt := bt_nat s i hi
    rw [hcc] at hbt
    have hc256 : c.toNat < 256 := c.toNat_lt
    by_cases hlo : c.toNat < 48
    · simp only [if_pos (show (c.toNat : Int) < 48 by omega)]
      refine Ev.step (fun k => by rw [tidelineref01_Parse.j2]) ?_
      simp only [if_true]
      refine ev_const ?_
      unfold refR
      rw [if_neg (by rw [List.all_cons]; have : isD c = false := by unfold isD; rw [decide_eq_false (by omega), Bool.false_and]
                     rw [this]; simp)]
    · simp only [if_neg (show ¬ (c.toNat : Int) < 48 by omega)]
      refine Ev.step (fun k => by rw [tidelineref01_Parse.j2]) ?_
      by_cases hhi : c.toNat > 57
      · simp only [decide_eq_true (show (c.toNat : Int) > 57 by omega), if_true]
        refine ev_const ?_
        unfold refR
        rw [if_neg (by rw [List.all_cons]; have : isD c = false := by unfold isD; rw [decide_eq_false (show ¬ c.toNat ≤ 57 by omega), Bool.and_false]
                       rw [this]; simp)]
      · have hd1 : isD c = true := by unfold isD; rw [decide_eq_true (by omega), decide_eq_true (by omega)]; rfl
        simp only [decide_eq_false (show ¬ (c.toNat : Int) > 57 by omega), if_neg (show ¬ (false = true) by decide), if_pos (show (0 : Int) ≤ (i : Int) by omega), if_pos (show (i : Int) < (s.size : Int) by omega), hbt]
        have em : ((c.toNat : Int) - 48) % 256 = ((c.toNat - 48 : Nat) : Int) := by omega
        have ei : wrap64 ((i : Int) + 1) = ((i + 1 : Nat) : Int) := by rw [wrap_ok (by omega) (by omega)]; rfl
        simp only [em, ei]
        obtain ⟨g, hg⟩ : ∃ g, g = c.toNat - 48 := ⟨_, rfl⟩
        have hg9 : g ≤ 9 := by omega
        simp only [← hg]
        have hR : ∀ big', refR (c :: s.data.toList.drop (i + 1)) x big' most = if (s.data.toList.drop (i + 1)).all isD = true then (if big' = true ∨ 9223372036854775807 < vd (x * 10 + g) (s.data.toList.drop (i + 1)) then (0, 12) else if most < (vd (x * 10 + g) (s.data.toList.drop (i + 1)) : Int) then (0, 12) else ((vd (x * 10 + g) (s.data.toList.drop (i + 1)) : Int), 0)) else (0, 23) := by
          intro big'
          unfold refR
          rw [List.all_cons, hd1, Bool.true_and, vd_cons, ← hg]
        by_cases hov : (x : Int) > (9223372036854775807 - (g : Int)) / 10
        · simp only [if_pos hov]
          have := ih (i + 1) g true (by omega) (by omega)
          refine ev_val (Ev.congr (fun k => by rw [show ((10 : Int) * 0) + (g : Int) = (g : Int) by omega]) this) ?_
          rw [hR]
          have hv := vd_ge (s.data.toList.drop (i + 1)) (x * 10 + g)
          have hbig : 9223372036854775807 < x * 10 + g := by omega
          unfold refR
          by_cases ha : (s.data.toList.drop (i + 1)).all isD = true
          · rw [if_pos ha, if_pos ha, if_pos (.inl rfl), if_pos (.inr (by omega))]
          · rw [if_neg ha, if_neg ha]
        · simp only [if_neg hov]
          have hle : x * 10 + g ≤ 9223372036854775807 := by omega
          have := ih (i + 1) (x * 10 + g) big (by omega) hle
          refine ev_val (Ev.congr (fun k => by rw [wrap_ok (x := 10 * (x : Int)) (by omega) (by omega), wrap_ok (x := 10 * (x : Int) + (g : Int)) (by omega) (by omega), show 10 * (x : Int) + (g : Int) = ((x * 10 + g : Nat) : Int) by omega]) this) ?_
          rw [hR]; rfl
theorem refR_num (l : List UInt8) (most : Int) : refR l 0 false most = if l.all isD = true then numU (parseUint10 0 l) most else (0, 23) := by
  unfold refR
  by_cases h : l.all isD = true
  · rw [if_pos h, if_pos h, numU_vd l h]
    by_cases h1 : 9223372036854775807 < vd 0 l
    · rw [if_pos h1, if_pos (Or.inr h1)]
    · rw [if_neg h1, if_neg (by simp; omega)]
  · rw [if_neg h, if_neg h]
theorem ref_f (s : ByteArray) (hs : s.size ≤ 4294967296) (most : Int) : Ev (fun k => tidelineref01_Parse.f k s most) (numP s.data.toList most) := by
  have hLn : s.data.toList.length = s.size := Lib.size_eq s
  refine Ev.congr (fun k => by rw [tidelineref01_Parse.f]) ?_
  by_cases h0 : s.size = 0
  · simp only [if_pos (show (s.size : Int) = 0 by omega)]
    refine Ev.step (fun k => by rw [tidelineref01_Parse.j0]) ?_
    simp only [if_true]
    refine ev_const ?_
    unfold numP
    rw [if_pos (by omega)]
  · have go : (¬ (s.data.toList.getD 0 0 = 48 ∧ s.data.toList ≠ [48])) → Ev (fun k => tidelineref01_Parse.l0 k s most 0 false 0) (numP s.data.toList most) := by
      intro hb
      refine ev_val (ref_loop s hs most s.data.toList.length 0 0 false (Nat.zero_add _) (by omega)) ?_
      rw [List.drop_zero, refR_num]
      unfold numP
      rw [if_neg (show ¬ s.data.toList.length = 0 by omega), if_neg hb]
    simp only [if_neg (show ¬ (s.size : Int) = 0 by omega)]
    by_cases h1 : s.size > 1
    · have hb := bt_nat s 0 (by omega)
      have hg : s.data.toList.getD 0 0 = s.data.toList[0]'(by omega) := by rw [List.getD_eq_getElem?_getD, List.getElem?_eq_getElem (by omega)]; rfl
      have hne : s.data.toList ≠ [48] := fun h => by rw [h] at hLn; simp at hLn; omega
      simp only [if_pos (show (s.size : Int) > 1 by omega), if_pos (show (0 : Int) < (s.size : Int) by omega)]
      refine Ev.step (fun k => by rw [tidelineref01_Parse.j0]) ?_
      have hb' : bt s 0 = ((s.data.toList[0]'(by omega)).toNat : Int) := hb
      by_cases h48 : s.data.toList[0]'(by omega) = 48
      · simp only [if_pos (show (bt s 0 == 48) = true by rw [hb', h48]; rfl)]
        refine ev_const ?_
        unfold numP
        rw [if_neg (by omega), if_pos ⟨by rw [hg]; exact h48, hne⟩]
      · have hn : (bt s 0 == 48) = false := by
          rw [beq_eq_false_iff_ne, hb']
          intro h
          exact h48 (UInt8.toNat_inj.1 (by have : (48 : UInt8).toNat = 48 := rfl; omega))
        simp only [hn, if_neg (show ¬ (false = true) by decide)]
        exact go (fun h => h48 (by rw [← hg]; exact h.1))
    · simp only [if_neg (show ¬ (s.size : Int) > 1 by omega)]
      refine Ev.step (fun k => by rw [tidelineref01_Parse.j0]) ?_
      simp only [if_neg (show ¬ (false = true) by decide)]
      refine go (fun h => h.2 ?_)
      have hl : s.data.toList.length = 1 := by omega
      obtain ⟨c, hc⟩ := List.length_eq_one_iff.1 hl
      rw [hc] at h ⊢
      have := h.1
      simp at this
      rw [this]
/-! A numeral, read again. -/
theorem of_digit : ∀ r : Fin 10, (UInt8.ofNat (48 + r.val)).toNat = 48 + r.val := by decide
theorem vd_snoc (l : List UInt8) (acc : Nat) (c : UInt8) : vd acc (l ++ [c]) = vd acc l * 10 + (c.toNat - 48) := by
  unfold vd
  rw [List.foldl_append, List.foldl_cons, List.foldl_nil]
theorem dec_all (m : Nat) : (decDigits m).all isD = true ∧ vd 0 (decDigits m) = m ∧ (decDigits m ≠ []) ∧ (m ≠ 0 → (decDigits m).getD 0 0 ≠ 48) := by
  induction m using Nat.strongRecOn with
  | _ m ih =>
    by_cases h : m < 10
    · have hd := of_digit ⟨m, h⟩
      dsimp only at hd
      have e : decDigits m = [UInt8.ofNat (48 + m)] := by rw [decDigits, dif_pos h]
      rw [e]
      generalize UInt8.ofNat (48 + m) = p at hd
      refine ⟨?_, ?_, by simp, fun hm => ?_⟩
      · rw [List.all_cons, List.all_nil, Bool.and_true]
        unfold isD
        rw [decide_eq_true (by omega), decide_eq_true (by omega)]; rfl
      · rw [vd_cons]
        show 0 * 10 + (p.toNat - 48) = m
        omega
      · intro hp
        have hp' : p = 48 := by simpa using hp
        have : p.toNat = 48 := by rw [hp']; rfl
        omega
    · have hd := of_digit ⟨m % 10, by omega⟩
      dsimp only at hd
      have e : decDigits m = decDigits (m / 10) ++ [UInt8.ofNat (48 + m % 10)] := by rw [decDigits, dif_neg h]
      obtain ⟨i1, i2, i3, i4⟩ := ih (m / 10) (by omega)
      rw [e]
      generalize UInt8.ofNat (48 + m % 10) = p at hd
      refine ⟨?_, ?_, by simp, fun _ => ?_⟩
      · rw [List.all_append, i1, List.all_cons, List.all_nil, Bool.and_true, Bool.true_and]
        unfold isD
        rw [decide_eq_true (by omega), decide_eq_true (by omega)]; rfl
      · rw [vd_snoc, i2]; omega
      · have := i4 (by omega)
        cases hq : decDigits (m / 10) with
        | nil => exact absurd hq i3
        | cons x y => rw [hq] at this; simpa using this
theorem num_back (m : Nat) (hm : m ≤ 9223372036854775807) : numP (decDigits m) 9223372036854775807 = ((m : Int), 0) := by
  obtain ⟨h1, h2, h3, h4⟩ := dec_all m
  unfold numP
  rw [if_neg (by intro h; exact h3 (List.eq_nil_of_length_eq_zero h))]
  rw [if_neg, if_pos h1, numU_vd _ h1, h2, if_neg (by omega), if_neg (by omega)]
  rintro ⟨ha, hb⟩
  by_cases h0 : m = 0
  · subst h0
    exact hb (by rw [decDigits, dif_pos (by decide)]; rfl)
  · exact h4 h0 ha
theorem nDigits_pow (k : Nat) : ∀ m, m < 10 ^ k → nDigits m ≤ k + 1 := by
  induction k with
  | zero => intro m hm; rw [nDigits_small (by omega)]; omega
  | succ k ih =>
    intro m hm
    by_cases h : m < 10
    · rw [nDigits_small h]; omega
    · rw [nDigits_big h]
      have := ih (m / 10) (by rw [Nat.pow_succ] at hm; omega)
      omega
end Go.Proofs.YtodmbjbfigifnaaDoor.Dig
end

section
set_option linter.unusedVariables false
set_option linter.unusedSimpArgs false
namespace Go.Proofs.YtodmbjbfigifnaaDoor.Pure
open Go.RowKit Go.Proofs.YtodmbjbfigifnaaDoor.PAll Go.Proofs.YtodmbjbfigifnaaDoorW.PrintWords Go.Proofs.YtodmbjbfigifnaaDoorW.PrintLast Go.Proofs.YtodmbjbfigifnaaDoorW.PrintMore
theorem tdiv16 (x : Int) (h0 : 0 ≤ x) (h1 : x < 256) : (Int.tdiv x 16) % 256 = x / 16 := by
  rw [Int.tdiv_eq_ediv_of_nonneg h0]; omega
theorem tmod16 (x : Int) (h0 : 0 ≤ x) : Int.tmod x 16 = x % 16 := Int.tmod_eq_emod_of_nonneg h0
theorem dig_f (c : Int) (h0 : 0 ≤ c) (h1 : c < 256) : Ev (fun k => tidelineref01_digit.f k c) (nibI c) := by
  have g : ∀ k, tidelineref01_digit.f k c = tidelineref01_digit.j0 k c (decide (48 ≤ c ∧ c ≤ 57)) := by
    intro k
    unfold tidelineref01_digit.f
    by_cases h : c ≥ 48
    · rw [if_pos h]; congr 1; have : 48 ≤ c := h; simp [this]
    · rw [if_neg h]; congr 1; have : ¬ 48 ≤ c := h; simp [this]
  refine Ev.congr g (Ev.step (fun k => by rw [tidelineref01_digit.j0]) ?_)
  unfold nibI
  by_cases h : 48 ≤ c ∧ c ≤ 57
  · simp only [decide_eq_true h, if_true, if_pos h]
    exact Ev.const (by rw [show (c - 48) % 256 = c - 48 by omega])
  · simp only [decide_eq_false h, if_neg (show ¬ (false = true) by decide), if_neg h]
    by_cases h2 : c ≥ 97
    · simp only [if_pos h2]
      by_cases h3 : c ≤ 102
      · simp only [if_pos h3, if_pos (show 97 ≤ c ∧ c ≤ 102 from ⟨h2, h3⟩)]
        exact Ev.const (by rw [show (c - 97) % 256 + 10 = c - 87 by omega])
      · simp only [if_neg h3, if_neg (show ¬ (97 ≤ c ∧ c ≤ 102) by omega)]; exact Ev.const rfl
    · simp only [if_neg h2, if_neg (show ¬ (97 ≤ c ∧ c ≤ 102) by omega)]; exact Ev.const rfl
theorem drop_two {l : List Int} {i : Nat} (h : i + 1 < l.length) : l.drop i = l[i] :: l[i + 1] :: l.drop (i + 2) := by
  rw [List.drop_eq_getElem_cons (show i < l.length by omega), List.drop_eq_getElem_cons h]
theorem runhex_loop (s : ByteArray) (hs : s.size ≤ 70368744177664) (d : Nat) : ∀ (i : Nat) (acc : List Int), i + 2 * d = s.size → acc.length ≤ i →
    Ev (fun k => tidelineref01_Unhex.l0 k s acc (i : Int)) (match unhexI ((bytesOf s).drop i) with | some l => (strOfNums (acc ++ l), 0) | none => (⟨#[]⟩, 23)) := by
  induction d with
  | zero =>
    intro i acc hi ha
    refine Ev.step (fun k => by rw [tidelineref01_Unhex.l0]) ?_
    simp only [if_neg (show ¬ (i : Int) < (s.size : Int) by omega)]
    rw [List.drop_of_length_le (by rw [bytesOf_length]; omega)]
    simp only [unhexI, List.append_nil]
    exact Ev.const rfl
  | succ d ih =>
    intro i acc hi ha
    refine Ev.step (fun k => by rw [tidelineref01_Unhex.l0]) ?_
    have hl : i + 1 < (bytesOf s).length := by rw [bytesOf_length]; omega
    rw [wrap_succ (by omega), bt_nat s i (by omega), bt_nat s (i + 1) hl]
    simp only [if_pos (show (i : Int) < (s.size : Int) by omega), if_pos (show (0 : Int) ≤ (i : Int) by omega), if_pos (show (0 : Int) ≤ ((i + 1 : Nat) : Int) by omega), if_pos (show ((i + 1 : Nat) : Int) < (s.size : Int) by omega), if_pos (show acc.length < 140737488355328 by omega)]
    have hb0 := byte_bd s _ (List.getElem_mem (show i < (bytesOf s).length by omega))
    have hb1 := byte_bd s _ (List.getElem_mem hl)
    have hih := fun v => ih (i + 2) (acc ++ [v]) (by omega) (by simp; omega)
    rw [drop_two hl]
    generalize (bytesOf s)[i] = a at *
    generalize (bytesOf s)[i + 1] = b at *
    refine Ev.bind (dig_f a hb0.1 hb0.2) (Ev.bind (dig_f b hb1.1 hb1.2) ?_)
    have na := nibI_bd a
    have nb := nibI_bd b
    by_cases ha' : 0 ≤ nibI a
    · by_cases hb' : 0 ≤ nibI b
      · simp only [if_neg (show ¬ nibI a < 0 by omega), if_neg (show ¬ nibI b < 0 by omega), unhexI, if_pos (show 0 ≤ nibI a ∧ 0 ≤ nibI b from ⟨ha', hb'⟩)]
        rw [wrap_id (x := 16 * nibI a) (by omega) (by omega), wrap_id (x := 16 * nibI a + nibI b) (by omega) (by omega), show (16 * nibI a + nibI b) % 256 = 16 * nibI a + nibI b by omega, show wrap64 ((i : Int) + 2) = ((i + 2 : Nat) : Int) by rw [wrap_id (by omega) (by omega)]; rfl]
        refine Ev.val (hih _) ?_
        cases unhexI ((bytesOf s).drop (i + 2)) <;> simp
      · simp only [if_neg (show ¬ nibI a < 0 by omega), if_pos (show nibI b < 0 by omega), unhexI, if_neg (show ¬ (0 ≤ nibI a ∧ 0 ≤ nibI b) from fun h => hb' h.2)]
        exact Ev.const rfl
    · simp only [if_pos (show nibI a < 0 by omega), unhexI, if_neg (show ¬ (0 ≤ nibI a ∧ 0 ≤ nibI b) from fun h => ha' h.1)]
      exact Ev.const rfl
theorem runhex_f (s : ByteArray) (hs : s.size ≤ 70368744177664) : Ev (fun k => tidelineref01_Unhex.f k s) (unhE s) := by
  refine Ev.congr (fun k => by rw [tidelineref01_Unhex.f]) ?_
  unfold unhE
  by_cases h : (s.size : Int) % 2 = 1
  · simp only [if_pos h]
    rw [unhexI_odd _ (s.size / 2) (by rw [bytesOf_length]; omega)]
    exact Ev.const rfl
  · simp only [if_neg h]
    have := runhex_loop s hs (s.size / 2) 0 [] (by omega) (by simp)
    rw [List.drop_zero] at this
    exact this
end Go.Proofs.YtodmbjbfigifnaaDoor.Pure
end

section
-- By wip/late.py (a program of this session) out of wip/words.
set_option linter.unusedVariables false
set_option linter.unusedSimpArgs false
namespace Go.Proofs.YtodmbjbfigifnaaDoor.Dig
open Go.RowKit Go.Shelf Go.Lib Go.Proofs.YtodmbjbfigifnaaDoorW.PrintWords Go.Proofs.YtodmbjbfigifnaaDoor.PAll
/-! A numeral that is read is written so; what the codes are. -/
theorem numU_codes (e : NumEnd Nat) (most : Int) : (numU e most).2 = 0 ∨ (numU e most).2 = 12 := by
  unfold numU
  split
  · split
    · exact .inr rfl
    · split
      · exact .inr rfl
      · exact .inl rfl
  · exact .inr rfl
theorem numP_codes (l : List UInt8) (most : Int) : (numP l most).2 = 0 ∨ (numP l most).2 = 12 ∨ ((numP l most).2 = 23 ∧ (numP l most).1 = 0) := by
  unfold numP
  split
  · exact .inr (.inr ⟨rfl, rfl⟩)
  · split
    · exact .inr (.inr ⟨rfl, rfl⟩)
    · split
      · rcases numU_codes (parseUint10 0 l) most with h | h
        · exact .inl h
        · exact .inr (.inl h)
      · exact .inr (.inr ⟨rfl, rfl⟩)
theorem digit_of (c : UInt8) (h : isD c = true) : UInt8.ofNat (48 + (c.toNat - 48)) = c := by
  have hc := isD_iff h
  rw [show 48 + (c.toNat - 48) = c.toNat by omega]
  exact UInt8.ofNat_toNat
/-- Digits without a nought ahead are the numeral of what they are worth. -/
theorem dec_back (l : List UInt8) (x : Nat) (hx : x ≠ 0) (h : l.all isD = true) : decDigits (vd x l) = decDigits x ++ l := by
  induction l generalizing x with
  | nil =>
    show decDigits (vd x []) = _
    rw [List.append_nil]
    unfold vd
    rw [List.foldl_nil]
  | cons c l ih =>
    rw [List.all_cons, Bool.and_eq_true] at h
    have hc := isD_iff h.1
    rw [vd_cons, ih _ (by omega) h.2]
    have hx' : ¬ x * 10 + (c.toNat - 48) < 10 := by omega
    have e : decDigits (x * 10 + (c.toNat - 48)) = decDigits x ++ [c] := by
      rw [decDigits, dif_neg hx', show (x * 10 + (c.toNat - 48)) / 10 = x by omega, show (x * 10 + (c.toNat - 48)) % 10 = c.toNat - 48 by omega, digit_of c h.1]
    rw [e, List.append_assoc]
    rfl
theorem num_canon {l : List UInt8} {most n : Int} (h : numP l most = (n, 0)) : l = decDigits n.toNat ∧ 0 ≤ n ∧ n ≤ 9223372036854775807 ∧ n ≤ most := by
  unfold numP at h
  by_cases h0 : l.length = 0
  · rw [if_pos h0] at h; simp at h
  · rw [if_neg h0] at h
    by_cases hb : l.getD 0 0 = 48 ∧ l ≠ [48]
    · rw [if_pos hb] at h; simp at h
    · rw [if_neg hb] at h
      by_cases ha : l.all isD = true
      · rw [if_pos ha, numU_vd l ha] at h
        by_cases h1 : 9223372036854775807 < vd 0 l
        · rw [if_pos h1] at h; simp at h
        · rw [if_neg h1] at h
          by_cases h2 : most < (vd 0 l : Int)
          · rw [if_pos h2] at h; simp at h
          · rw [if_neg h2] at h
            have hn : (vd 0 l : Int) = n := congrArg Prod.fst h
            refine ⟨?_, by omega, by omega, by omega⟩
            rw [← hn, Int.toNat_natCast]
            cases l with
            | nil => exact absurd rfl h0
            | cons c l =>
              rw [List.all_cons, Bool.and_eq_true] at ha
              have hc := isD_iff ha.1
              rw [vd_cons, show 0 * 10 + (c.toNat - 48) = c.toNat - 48 by omega]
              have e1 : decDigits (c.toNat - 48) = [c] := by rw [decDigits, dif_pos (by omega), digit_of c ha.1]
              by_cases hz : c.toNat - 48 = 0
              · have hc48 : c = 48 := UInt8.toNat_inj.1 (by have : (48 : UInt8).toNat = 48 := rfl; omega)
                have hl : l = [] := Classical.byContradiction fun hne => hb ⟨by rw [hc48]; rfl, by rw [hc48]; simpa using hne⟩
                rw [hl]
                unfold vd
                rw [List.foldl_nil, e1]
              · rw [dec_back l _ hz ha.2, e1]
                rfl
      · rw [if_neg ha] at h; simp at h
end Go.Proofs.YtodmbjbfigifnaaDoor.Dig
end
