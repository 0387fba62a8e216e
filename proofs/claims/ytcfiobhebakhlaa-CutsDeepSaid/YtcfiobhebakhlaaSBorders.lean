import Derived.Test.YtcfiobhebakhlaaPAllx0
import Derived.Test.YtcfiobhebakhlaaPAllx1
import Derived.Test.YtcfiobhebakhlaaPAllx4
import Derived.Test.YtcfiobhebakhlaaSEv
import Derived.Test.YtcfiobhebakhlaaSLists
import Derived.Test.YtcfiobhebakhlaaSStarts
import Derived.Test.YtcfiobhebakhlaaSRefstarts
set_option linter.unusedVariables false
set_option linter.unusedSimpArgs false
namespace Go.Proofs.Ytcfiobhebakhlaa.Pure
open Go.RowKit Go.Proofs.Ytcfiobhebakhlaa.PAll Go.Proofs.YtcfiobhebakhlaaW.PrintWords Go.Proofs.YtcfiobhebakhlaaW.PrintLast Go.Proofs.YtcfiobhebakhlaaW.PrintMore
/-- Is every text above the one ahead of it? -/
def adj : List ByteArray → Bool
  | a :: b :: r => Op.bytesLess a.toList b.toList && adj (b :: r)
  | _ => true
def anyLong (l : List ByteArray) : Bool := l.any (fun s => decide ((s.size : Int) > 16))
/-- What is wrong with keys. -/
def chkE (l : List ByteArray) : Int := if anyLong l = true then 20 else if adj l = true then 0 else 22
theorem drop_cons {α : Type} (l : List α) (i : Nat) (h : i < l.length) : l.drop i = l[i] :: l.drop (i + 1) := List.drop_eq_getElem_cons h
theorem adj_step (l : List ByteArray) (i : Nat) (h : i + 1 < l.length) : adj (l.drop i) = (Op.bytesLess l[i].toList l[i + 1].toList && adj (l.drop (i + 1))) := by
  rw [drop_cons l i (by omega), drop_cons l (i + 1) h]; rfl
theorem adj_end (l : List ByteArray) (i : Nat) (h : l.length ≤ i + 1) : adj (l.drop i) = true := by
  have hl : (l.drop i).length ≤ 1 := by rw [List.length_drop]; omega
  match hd : l.drop i, hl with
  | [], _ => rfl
  | [a], _ => rfl
theorem chk_l1 (l : List ByteArray) (hl : l.length ≤ 9223372036854775806) (d : Nat) : ∀ (i : Nat), i + d = l.length → 1 ≤ i → Ev (fun k => cuts_check.l1 k l (l.length : Int) (i : Int)) (if adj (l.drop (i - 1)) = true then 0 else 22) := by
  induction d with
  | zero =>
    intro i hd h1
    refine Ev.step (fun k => by rw [cuts_check.l1]) ?_
    simp only [if_neg (show ¬ (i : Int) < (l.length : Int) by omega)]
    rw [adj_end l (i - 1) (by omega)]
    exact Ev.const rfl
  | succ d ih =>
    intro i hd h1
    obtain ⟨j, rfl⟩ : ∃ j, i = j + 1 := ⟨i - 1, by omega⟩
    refine Ev.step (fun k => by rw [cuts_check.l1]) ?_
    rw [show wrap64 (((j + 1 : Nat) : Int) - 1) = (j : Int) by rw [wrap_id (by omega) (by omega)]; omega]
    simp only [if_pos (show ((j + 1 : Nat) : Int) < (l.length : Int) by omega), if_pos (show ((j + 1 : Nat) : Int) > 0 by omega), if_pos (show (0 : Int) ≤ (j : Int) by omega), if_pos (show (j : Int) < (l.length : Int) by omega), if_pos (show (0 : Int) ≤ ((j + 1 : Nat) : Int) by omega)]
    rw [rdOf_nat _ l j (by omega), rdOf_nat _ l (j + 1) (by omega), Nat.add_sub_cancel, adj_step l j (by omega)]
    by_cases hb : Op.bytesLess l[j].toList l[j + 1].toList = true
    · simp only [hb, if_true, Bool.true_and]
      rw [wrap_succ (by omega)]
      exact ih (j + 2) (by omega) (by omega)
    · simp only [hb, Bool.false_and]
      exact Ev.const rfl
theorem chk_l1' (l : List ByteArray) (hl : l.length ≤ 9223372036854775806) : Ev (fun k => cuts_check.l1 k l (l.length : Int) 0) (if adj l = true then 0 else 22) := by
  by_cases h0 : l.length = 0
  · refine Ev.step (fun k => by rw [cuts_check.l1]) ?_
    simp only [if_neg (show ¬ (0 : Int) < (l.length : Int) by omega)]
    have : adj l = true := adj_end l 0 (by omega)
    rw [this]
    exact Ev.const rfl
  · refine Ev.step (fun k => by rw [cuts_check.l1]) ?_
    simp only [if_pos (show (0 : Int) < (l.length : Int) by omega), if_neg (show ¬ (0 : Int) > 0 by omega)]
    rw [wrap_id (x := (0 : Int) + 1) (by omega) (by omega)]
    exact chk_l1 l hl (l.length - 1) 1 (by omega) (by omega)
theorem chk_l0 (l : List ByteArray) (hl : l.length ≤ 9223372036854775806) (d : Nat) : ∀ (i : Nat), i + d = l.length → Ev (fun k => cuts_check.l0 k l l (l.length : Int) (i : Int)) (if anyLong (l.drop i) = true then 20 else if adj l = true then 0 else 22) := by
  induction d with
  | zero =>
    intro i hd
    refine Ev.step (fun k => by rw [cuts_check.l0]) ?_
    simp only [if_neg (show ¬ (i : Int) < (l.length : Int) by omega)]
    rw [List.drop_of_length_le (by omega)]
    exact chk_l1' l hl
  | succ d ih =>
    intro i hd
    refine Ev.step (fun k => by rw [cuts_check.l0]) ?_
    simp only [if_pos (show (i : Int) < (l.length : Int) by omega), if_pos (show (0 : Int) ≤ (i : Int) by omega)]
    rw [rdOf_nat _ l i (by omega), drop_cons l i (by omega), wrap_succ (by omega)]
    by_cases hb : (l[i].size : Int) > 16
    · have : anyLong (l[i] :: l.drop (i + 1)) = true := by unfold anyLong; rw [List.any_cons, decide_eq_true hb]; rfl
      simp only [if_pos hb, this, if_true]
      exact Ev.const rfl
    · have : anyLong (l[i] :: l.drop (i + 1)) = anyLong (l.drop (i + 1)) := by unfold anyLong; rw [List.any_cons, decide_eq_false hb]; rfl
      simp only [if_neg hb, this]
      exact ih (i + 1) (by omega)
theorem chk_ok (l : List ByteArray) (hl : l.length ≤ 9223372036854775806) : Ev (fun k => cuts_check.f k l) (chkE l) := by
  refine Ev.congr (fun k => by rw [cuts_check.f]) ?_
  exact chk_l0 l hl l.length 0 (by omega)
theorem rise_l1 (l : List ByteArray) (hl : l.length ≤ 9223372036854775806) (d : Nat) : ∀ (i : Nat), i + d = l.length → 1 ≤ i → Ev (fun k => tidelineref07_rise.l1 k l (i : Int)) (if adj (l.drop (i - 1)) = true then 0 else 22) := by
  induction d with
  | zero =>
    intro i hd h1
    refine Ev.step (fun k => by rw [tidelineref07_rise.l1]) ?_
    simp only [if_neg (show ¬ (i : Int) < (l.length : Int) by omega)]
    rw [adj_end l (i - 1) (by omega)]
    exact Ev.const rfl
  | succ d ih =>
    intro i hd h1
    obtain ⟨j, rfl⟩ : ∃ j, i = j + 1 := ⟨i - 1, by omega⟩
    refine Ev.step (fun k => by rw [tidelineref07_rise.l1]) ?_
    rw [show wrap64 (((j + 1 : Nat) : Int) - 1) = (j : Int) by rw [wrap_id (by omega) (by omega)]; omega]
    simp only [if_pos (show ((j + 1 : Nat) : Int) < (l.length : Int) by omega), if_pos (show (0 : Int) ≤ (j : Int) by omega), if_pos (show (j : Int) < (l.length : Int) by omega), if_pos (show (0 : Int) ≤ ((j + 1 : Nat) : Int) by omega)]
    rw [rdOf_nat _ l j (by omega), rdOf_nat _ l (j + 1) (by omega), Nat.add_sub_cancel, adj_step l j (by omega)]
    by_cases hb : Op.bytesLess l[j].toList l[j + 1].toList = true
    · simp only [hb, if_true, Bool.true_and]
      rw [wrap_succ (by omega)]
      exact ih (j + 2) (by omega) (by omega)
    · simp only [hb, Bool.false_and]
      exact Ev.const rfl
theorem rise_l1' (l : List ByteArray) (hl : l.length ≤ 9223372036854775806) : Ev (fun k => tidelineref07_rise.l1 k l 1) (if adj l = true then 0 else 22) := by
  by_cases h0 : l.length = 0
  · refine Ev.step (fun k => by rw [tidelineref07_rise.l1]) ?_
    simp only [if_neg (show ¬ (1 : Int) < (l.length : Int) by omega)]
    have : adj l = true := adj_end l 0 (by omega)
    rw [this]
    exact Ev.const rfl
  · exact rise_l1 l hl (l.length - 1) 1 (by omega) (by omega)
theorem rise_l0 (l : List ByteArray) (hl : l.length ≤ 9223372036854775806) (d : Nat) : ∀ (i : Nat), i + d = l.length → Ev (fun k => tidelineref07_rise.l0 k l (i : Int)) (if anyLong (l.drop i) = true then 20 else if adj l = true then 0 else 22) := by
  induction d with
  | zero =>
    intro i hd
    refine Ev.step (fun k => by rw [tidelineref07_rise.l0]) ?_
    simp only [if_neg (show ¬ (i : Int) < (l.length : Int) by omega)]
    rw [List.drop_of_length_le (by omega)]
    exact rise_l1' l hl
  | succ d ih =>
    intro i hd
    refine Ev.step (fun k => by rw [tidelineref07_rise.l0]) ?_
    simp only [if_pos (show (i : Int) < (l.length : Int) by omega), if_pos (show (0 : Int) ≤ (i : Int) by omega)]
    rw [rdOf_nat _ l i (by omega), drop_cons l i (by omega), wrap_succ (by omega)]
    by_cases hb : (l[i].size : Int) > 16
    · have : anyLong (l[i] :: l.drop (i + 1)) = true := by unfold anyLong; rw [List.any_cons, decide_eq_true hb]; rfl
      simp only [if_pos hb, this, if_true]
      exact Ev.const rfl
    · have : anyLong (l[i] :: l.drop (i + 1)) = anyLong (l.drop (i + 1)) := by unfold anyLong; rw [List.any_cons, decide_eq_false hb]; rfl
      simp only [if_neg hb, this]
      exact ih (i + 1) (by omega)
theorem rise_ok (l : List ByteArray) (hl : l.length ≤ 9223372036854775806) : Ev (fun k => tidelineref07_rise.f k l) (chkE l) := by
  refine Ev.congr (fun k => by rw [tidelineref07_rise.f]) ?_
  exact rise_l0 l hl l.length 0 (by omega)
/-- The keys at which parts begin, from the part i on. -/
def bdr (l : List ByteArray) (p i : Nat) : List ByteArray := ((List.range p).drop i).map (fun j => l.getD (j * l.length / p) ByteArray.empty)
theorem bdr_length (l : List ByteArray) (p i : Nat) : (bdr l p i).length = p - i := by simp [bdr]
theorem bdr_end (l : List ByteArray) (p i : Nat) (h : p ≤ i) : bdr l p i = [] := List.eq_nil_of_length_eq_zero (by rw [bdr_length]; omega)
theorem bdr_step (l : List ByteArray) (p i : Nat) (h : i < p) : bdr l p i = l.getD (i * l.length / p) ByteArray.empty :: bdr l p (i + 1) := by
  unfold bdr
  rw [drop_cons (List.range p) i (by simpa using h)]
  simp
theorem st_lt (n p i : Nat) (hi : i < p) (hn : 1 ≤ n) : i * n / p < n := (Nat.div_lt_iff_lt_mul (by omega)).2 (by rw [Nat.mul_comm n p]; exact Nat.mul_lt_mul_of_pos_right hi (by omega))
theorem rdOf_getD (l : List ByteArray) (j : Nat) : rdOf ByteArray.empty l (j : Int) = l.getD j ByteArray.empty := by unfold rdOf; rw [Int.toNat_natCast]
theorem sts_drop_rd (n p i : Nat) (h : i + 1 < p) : rd ((sts n p).drop 1) (i : Int) = (((i + 1) * n / p : Nat) : Int) := by
  unfold rd; rw [Int.toNat_natCast, List.getD_eq_getElem?_getD, List.getElem?_drop, Nat.add_comm 1 i, sts_get n p (i + 1) h]; rfl
theorem bor_loop (l : List ByteArray) (p : Nat) (hp1 : 1 ≤ p) (hpn : p ≤ l.length) (hn : l.length ≤ 256) (d : Nat) : ∀ (i : Nat) (acc : List ByteArray), i + 1 + d = p → acc.length ≤ i →
    Ev (fun k => cuts_Borders.l0 k l acc ((sts l.length p).drop 1) (((sts l.length p).drop 1).length : Int) (i : Int)) (acc ++ bdr l p (i + 1), 0) := by
  have hlen : ((sts l.length p).drop 1).length = p - 1 := by rw [List.length_drop, sts_length]
  rw [hlen]
  induction d with
  | zero =>
    intro i acc hd ha
    refine Ev.step (fun k => by rw [cuts_Borders.l0]) ?_
    simp only [if_neg (show ¬ (i : Int) < ((p - 1 : Nat) : Int) by omega)]
    rw [bdr_end l p (i + 1) (by omega), List.append_nil]
    exact Ev.const rfl
  | succ d ih =>
    intro i acc hd ha
    refine Ev.step (fun k => by rw [cuts_Borders.l0]) ?_
    have h1 := st_lt l.length p (i + 1) (by omega) (by omega)
    rw [sts_drop_rd l.length p i (by omega), hlen, rdOf_getD, wrap_succ (by omega)]
    simp only [if_pos (show (i : Int) < ((p - 1 : Nat) : Int) by omega), if_pos (show (0 : Int) ≤ (i : Int) by omega), if_pos (show (0 : Int) ≤ (((i + 1) * l.length / p : Nat) : Int) from Int.natCast_nonneg _),
      if_pos (show (((i + 1) * l.length / p : Nat) : Int) < (l.length : Int) from Int.ofNat_lt.2 h1), if_pos (show acc.length < 8796093022208 by omega)]
    have := ih (i + 1) (acc ++ [l.getD ((i + 1) * l.length / p) ByteArray.empty]) (by omega) (by simp; omega)
    rw [bdr_step l p (i + 1) (by omega)]
    simpa using this
theorem rbor_loop (l : List ByteArray) (p : Nat) (hp1 : 1 ≤ p) (hpn : p ≤ l.length) (hn : l.length ≤ 256) (d : Nat) : ∀ (i : Nat) (acc : List ByteArray), i + d = p → acc.length ≤ i →
    Ev (fun k => tidelineref07_Borders.l0 k l (sts l.length p) acc (i : Int)) (acc ++ bdr l p i, 0) := by
  induction d with
  | zero =>
    intro i acc hd ha
    refine Ev.step (fun k => by rw [tidelineref07_Borders.l0]) ?_
    simp only [sts_length, if_neg (show ¬ (i : Int) < (p : Int) by omega)]
    rw [bdr_end l p i (by omega), List.append_nil]
    exact Ev.const rfl
  | succ d ih =>
    intro i acc hd ha
    refine Ev.step (fun k => by rw [tidelineref07_Borders.l0]) ?_
    have h1 := st_lt l.length p i (by omega) (by omega)
    have h2 : rd (sts l.length p) (i : Int) = ((i * l.length / p : Nat) : Int) := by unfold rd; rw [Int.toNat_natCast, List.getD_eq_getElem?_getD, sts_get l.length p i (by omega)]; rfl
    rw [h2, sts_length, rdOf_getD, wrap_succ (by omega)]
    simp only [if_pos (show (i : Int) < (p : Int) by omega), if_pos (show (0 : Int) ≤ (i : Int) by omega), if_pos (show (0 : Int) ≤ ((i * l.length / p : Nat) : Int) from Int.natCast_nonneg _),
      if_pos (show ((i * l.length / p : Nat) : Int) < (l.length : Int) from Int.ofNat_lt.2 h1), if_pos (show acc.length < 8796093022208 by omega)]
    have := ih (i + 1) (acc ++ [l.getD (i * l.length / p) ByteArray.empty]) (by omega) (by simp; omega)
    rw [bdr_step l p i (by omega)]
    simpa using this
/-- What Borders answers. -/
def borE (l : List ByteArray) (a : Int) : List ByteArray × Int :=
  if chkE l = 0 then (if (l.length : Int) < 1 ∨ (l.length : Int) > 256 ∨ a < 1 ∨ a > (l.length : Int) then ([], 1) else (bdr l a.toNat 1, 0)) else ([], chkE l)
theorem bor_ok (l : List ByteArray) (hl : l.length ≤ 9223372036854775806) (a : Int) : Ev (fun k => cuts_Borders.f k l a) (borE l a) := by
  refine Ev.congr (fun k => by rw [cuts_Borders.f]) ?_
  refine Ev.bind (chk_ok l hl) ?_
  unfold borE
  by_cases hc : chkE l = 0
  · simp only [if_pos hc]
    by_cases hb : (l.length : Int) < 1 ∨ (l.length : Int) > 256 ∨ a < 1 ∨ a > (l.length : Int)
    · rw [if_pos hb]
      refine Ev.bind (starts_bad _ a hb) ?_
      exact Ev.const rfl
    · rw [if_neg hb]
      obtain ⟨p, rfl⟩ := Int.eq_ofNat_of_zero_le (show 0 ≤ a by omega)
      refine Ev.bind (starts_ok l.length p (by omega) (by omega) (by omega)) ?_
      simp only [if_true, sts_length, if_pos (show (1 : Int) ≤ (p : Int) by omega), Option.bind_some, Int.toNat_natCast]
      exact bor_loop l p (by omega) (by omega) (by omega) (p - 1) 0 [] (by omega) (by simp)
  · simp only [if_neg hc]
    exact Ev.const rfl
theorem rbor_ok (l : List ByteArray) (hl : l.length ≤ 9223372036854775806) (a : Int) : Ev (fun k => tidelineref07_Borders.f k l a) (borE l a) := by
  refine Ev.congr (fun k => by rw [tidelineref07_Borders.f]) ?_
  refine Ev.bind (rise_ok l hl) ?_
  unfold borE
  by_cases hc : chkE l = 0
  · simp only [if_pos hc]
    by_cases hb : (l.length : Int) < 1 ∨ (l.length : Int) > 256 ∨ a < 1 ∨ a > (l.length : Int)
    · rw [if_pos hb]
      refine Ev.bind (rstarts_bad _ a hb) ?_
      exact Ev.const rfl
    · rw [if_neg hb]
      obtain ⟨p, rfl⟩ := Int.eq_ofNat_of_zero_le (show 0 ≤ a by omega)
      refine Ev.bind (rstarts_ok l.length p (by omega) (by omega) (by omega)) ?_
      simp only [if_true, Int.toNat_natCast]
      by_cases h1 : 1 < p
      · exact rbor_loop l p (by omega) (by omega) (by omega) (p - 1) 1 [] (by omega) (by simp)
      · have := rbor_loop l p (by omega) (by omega) (by omega) 0 1 [] (by omega) (by simp)
        exact this
  · simp only [if_neg hc]
    exact Ev.const rfl
theorem borE_len (l : List ByteArray) (a : Int) : (borE l a).1.length ≤ l.length := by
  unfold borE
  split
  · split
    · simp
    · simp only [bdr_length]; omega
  · simp
end Go.Proofs.Ytcfiobhebakhlaa.Pure
