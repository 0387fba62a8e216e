import Derived.Test.YtgdhgamolenfgaaPAllx0
import Derived.Test.YtgdhgamolenfgaaPAllx6
import Derived.Test.YtgdhgamolenfgaaSEv
import Derived.Test.YtgdhgamolenfgaaSLists
import Derived.Test.YtgdhgamolenfgaaSHex
set_option linter.unusedVariables false
set_option linter.unusedSimpArgs false
namespace Go.Proofs.Ytgdhgamolenfgaa.Pure
open Go.RowKit Go.Proofs.Ytgdhgamolenfgaa.PAll Go.Proofs.YtgdhgamolenfgaaW.PrintWords Go.Proofs.YtgdhgamolenfgaaW.PrintLast Go.Proofs.YtgdhgamolenfgaaW.PrintMore
theorem tdiv16 (x : Int) (h0 : 0 ≤ x) (h1 : x < 256) : (Int.tdiv x 16) % 256 = x / 16 := by
  rw [Int.tdiv_eq_ediv_of_nonneg h0]; omega
theorem tmod16 (x : Int) (h0 : 0 ≤ x) : Int.tmod x 16 = x % 16 := Int.tmod_eq_emod_of_nonneg h0
theorem cut_hd : ∀ n : Fin 16, (⟨#[48, 49, 50, 51, 52, 53, 54, 55, 56, 57, 97, 98, 99, 100, 101, 102]⟩ : ByteArray).extract n.val (n.val + 1) = strOfNums [hdI ((n.val : Nat) : Int)] := by decide +kernel
theorem cut_hd' (n : Int) (h0 : 0 ≤ n) (h1 : n < 16) : (⟨#[48, 49, 50, 51, 52, 53, 54, 55, 56, 57, 97, 98, 99, 100, 101, 102]⟩ : ByteArray).extract n.toNat ((n + 1) % 256).toNat = strOfNums [hdI n] := by
  have := cut_hd ⟨n.toNat, by omega⟩
  rw [show ((n + 1) % 256).toNat = n.toNat + 1 by omega]
  simpa [Int.toNat_of_nonneg h0] using this
theorem son_append (a b : List Int) : strOfNums a ++ strOfNums b = strOfNums (a ++ b) := by
  apply ba_eq.1
  simp only [strOfNums, Go.ByteArray.toList_eq]
  simp
theorem son_size (l : List Int) : (strOfNums l).size = l.length := by simp [strOfNums, ByteArray.size]
theorem rhex_loop (s : ByteArray) (hs : s.size ≤ 35184372088832) (d : Nat) : ∀ i : Nat, i + d = s.size → Ev (fun k => tidelineref02_hex.l0 k s (strOfNums (hexI ((bytesOf s).take i))) (i : Int)) (hexB s) := by
  induction d with
  | zero =>
    intro i hd
    refine Ev.step (fun k => by rw [tidelineref02_hex.l0]) ?_
    simp only [if_neg (show ¬ (i : Int) < (s.size : Int) by omega)]
    rw [List.take_of_length_le (by rw [bytesOf_length]; omega)]
    exact Ev.const rfl
  | succ d ih =>
    intro i hd
    refine Ev.step (fun k => by rw [tidelineref02_hex.l0]) ?_
    have hl : i < (bytesOf s).length := by rw [bytesOf_length]; omega
    rw [bt_nat s i hl]
    have hb := byte_bd s _ (List.getElem_mem hl)
    have hih := ih (i + 1) (by omega)
    rw [take_snoc _ i hl, hexI_append] at hih
    have hlen : (hexI ((bytesOf s).take i)).length ≤ 2 * i := by rw [hexI_length, List.length_take]; omega
    generalize hx : (bytesOf s)[i] = x at hb hih
    rw [tdiv16 x hb.1 hb.2, tmod16 x hb.1]
    rw [cut_hd' (x / 16) (by omega) (by omega), cut_hd' (x % 16) (by omega) (by omega), son_append]
    simp only [if_pos (show (i : Int) < (s.size : Int) by omega), if_pos (show (0 : Int) ≤ (i : Int) by omega), if_pos (show 0 ≤ x / 16 by omega), if_pos (show x / 16 ≤ (x / 16 + 1) % 256 by omega), if_pos (show (x / 16 + 1) % 256 ≤ 16 by omega),
      if_pos (show 0 ≤ x % 16 by omega), if_pos (show x % 16 ≤ (x % 16 + 1) % 256 by omega), if_pos (show (x % 16 + 1) % 256 ≤ 16 by omega), son_size, son_append, List.length_append, List.length_cons, List.length_nil,
      if_pos (show (0 + 1) + (0 + 1) ≤ 9223372036854775807 by omega), if_pos (show (hexI ((bytesOf s).take i)).length + ((0 + 1) + (0 + 1)) ≤ 9223372036854775807 by omega)]
    rw [wrap_succ (by omega)]
    exact hih
theorem rhex_f (s : ByteArray) (hs : s.size ≤ 35184372088832) : Ev (fun k => tidelineref02_hex.f k s) (hexB s) := by
  refine Ev.congr (fun k => by rw [tidelineref02_hex.f]) ?_
  exact rhex_loop s hs s.size 0 (by omega)
theorem dig_f (c : Int) (h0 : 0 ≤ c) (h1 : c < 256) : Ev (fun k => tidelineref02_digit.f k c) (nibI c) := by
  have g : ∀ k, tidelineref02_digit.f k c = tidelineref02_digit.j0 k c (decide (48 ≤ c ∧ c ≤ 57)) := by
    intro k
    unfold tidelineref02_digit.f
    by_cases h : c ≥ 48
    · rw [if_pos h]; congr 1; have : 48 ≤ c := h; simp [this]
    · rw [if_neg h]; congr 1; have : ¬ 48 ≤ c := h; simp [this]
  refine Ev.congr g (Ev.step (fun k => by rw [tidelineref02_digit.j0]) ?_)
  unfold nibI
  by_cases h : 48 ≤ c ∧ c ≤ 57
  · simp only [decide_eq_true h, if_true, if_pos h]
    exact Ev.const (by rw [show (c - 48) % 256 = c - 48 by omega])
  · simp only [decide_eq_false h, if_neg (show ¬ (false = true) by decide), if_neg h]
    by_cases h2 : c ≥ 97
    · simp only [if_pos h2]
      by_cases h3 : c ≤ 102
      · simp only [if_pos h3, if_pos (show 97 ≤ c ∧ c ≤ 102 from ⟨h2, h3⟩)]
        exact Ev.const (by rw [show (c - 97) % 256 + 10 = c - 87 by omega])
      · simp only [if_neg h3, if_neg (show ¬ (97 ≤ c ∧ c ≤ 102) by omega)]; exact Ev.const rfl
    · simp only [if_neg h2, if_neg (show ¬ (97 ≤ c ∧ c ≤ 102) by omega)]; exact Ev.const rfl
theorem drop_two {l : List Int} {i : Nat} (h : i + 1 < l.length) : l.drop i = l[i] :: l[i + 1] :: l.drop (i + 2) := by
  rw [List.drop_eq_getElem_cons (show i < l.length by omega), List.drop_eq_getElem_cons h]
/-- What the document's unhex answers. -/
def runhE (s : ByteArray) : ByteArray × Bool := match unhexI (bytesOf s) with | some l => (strOfNums l, true) | none => (⟨#[]⟩, false)
theorem runhex_loop (s : ByteArray) (hs : s.size ≤ 70368744177664) (d : Nat) : ∀ (i : Nat) (acc : List Int), i + 2 * d = s.size → acc.length ≤ i →
    Ev (fun k => tidelineref02_unhex.l0 k s acc (i : Int)) (match unhexI ((bytesOf s).drop i) with | some l => (strOfNums (acc ++ l), true) | none => (⟨#[]⟩, false)) := by
  induction d with
  | zero =>
    intro i acc hi ha
    refine Ev.step (fun k => by rw [tidelineref02_unhex.l0]) ?_
    simp only [if_neg (show ¬ (i : Int) < (s.size : Int) by omega)]
    rw [List.drop_of_length_le (by rw [bytesOf_length]; omega)]
    simp only [unhexI, List.append_nil]
    exact Ev.const rfl
  | succ d ih =>
    intro i acc hi ha
    refine Ev.step (fun k => by rw [tidelineref02_unhex.l0]) ?_
    have hl : i + 1 < (bytesOf s).length := by rw [bytesOf_length]; omega
    rw [wrap_succ (by omega), bt_nat s i (by omega), bt_nat s (i + 1) hl]
    simp only [if_pos (show (i : Int) < (s.size : Int) by omega), if_pos (show (0 : Int) ≤ (i : Int) by omega), if_pos (show (0 : Int) ≤ ((i + 1 : Nat) : Int) by omega), if_pos (show ((i + 1 : Nat) : Int) < (s.size : Int) by omega), if_pos (show acc.length < 140737488355328 by omega)]
    have hb0 := byte_bd s _ (List.getElem_mem (show i < (bytesOf s).length by omega))
    have hb1 := byte_bd s _ (List.getElem_mem hl)
    have hih := fun v => ih (i + 2) (acc ++ [v]) (by omega) (by simp; omega)
    rw [drop_two hl]
    generalize (bytesOf s)[i] = a at *
    generalize (bytesOf s)[i + 1] = b at *
    refine Ev.bind (dig_f a hb0.1 hb0.2) (Ev.bind (dig_f b hb1.1 hb1.2) ?_)
    have na := nibI_bd a
    have nb := nibI_bd b
    by_cases ha' : 0 ≤ nibI a
    · by_cases hb' : 0 ≤ nibI b
      · simp only [if_neg (show ¬ nibI a < 0 by omega), if_neg (show ¬ nibI b < 0 by omega), unhexI, if_pos (show 0 ≤ nibI a ∧ 0 ≤ nibI b from ⟨ha', hb'⟩)]
        rw [wrap_id (x := 16 * nibI a) (by omega) (by omega), wrap_id (x := 16 * nibI a + nibI b) (by omega) (by omega), show (16 * nibI a + nibI b) % 256 = 16 * nibI a + nibI b by omega, show wrap64 ((i : Int) + 2) = ((i + 2 : Nat) : Int) by rw [wrap_id (by omega) (by omega)]; rfl]
        refine Ev.val (hih _) ?_
        cases unhexI ((bytesOf s).drop (i + 2)) <;> simp
      · simp only [if_neg (show ¬ nibI a < 0 by omega), if_pos (show nibI b < 0 by omega), unhexI, if_neg (show ¬ (0 ≤ nibI a ∧ 0 ≤ nibI b) from fun h => hb' h.2)]
        exact Ev.const rfl
    · simp only [if_pos (show nibI a < 0 by omega), unhexI, if_neg (show ¬ (0 ≤ nibI a ∧ 0 ≤ nibI b) from fun h => ha' h.1)]
      exact Ev.const rfl
theorem runhex_f (s : ByteArray) (hs : s.size ≤ 70368744177664) : Ev (fun k => tidelineref02_unhex.f k s) (runhE s) := by
  refine Ev.congr (fun k => by rw [tidelineref02_unhex.f]) ?_
  unfold runhE
  by_cases h : (s.size : Int) % 2 = 0
  · simp only [if_pos h]
    have := runhex_loop s hs (s.size / 2) 0 [] (by omega) (by simp)
    rw [List.drop_zero] at this
    exact this
  · simp only [if_neg h]
    rw [unhexI_odd _ (s.size / 2) (by rw [bytesOf_length]; omega)]
    exact Ev.const rfl
end Go.Proofs.Ytgdhgamolenfgaa.Pure
