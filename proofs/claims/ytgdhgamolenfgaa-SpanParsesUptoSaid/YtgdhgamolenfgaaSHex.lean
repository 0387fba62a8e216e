import Derived.Test.YtgdhgamolenfgaaPAllx0
import Derived.Test.YtgdhgamolenfgaaPAllx3
import Derived.Test.YtgdhgamolenfgaaSEv
import Derived.Test.YtgdhgamolenfgaaSLists
import Derived.Lib.IndexBytes
set_option linter.unusedVariables false
set_option linter.unusedSimpArgs false
namespace Go.Proofs.Ytgdhgamolenfgaa.Pure
open Go.RowKit Go.Proofs.Ytgdhgamolenfgaa.PAll Go.Proofs.YtgdhgamolenfgaaW.PrintWords Go.Proofs.YtgdhgamolenfgaaW.PrintLast Go.Proofs.YtgdhgamolenfgaaW.PrintMore
/-- A digit to the base 16. -/
def hdI (n : Int) : Int := if n < 10 then 48 + n else 87 + n
def hexI (l : List Int) : List Int := l.flatMap fun b => [hdI (b / 16), hdI (b % 16)]
/-- A text's bytes, written. -/
def hexB (s : ByteArray) : ByteArray := strOfNums (hexI (bytesOf s))
theorem hexI_length (l : List Int) : (hexI l).length = 2 * l.length := by
  induction l with
  | nil => rfl
  | cons a l ih => simp only [hexI, List.flatMap_cons, List.length_append, List.length_cons, List.length_nil] at ih ⊢; omega
theorem hexI_append (a b : List Int) : hexI (a ++ b) = hexI a ++ hexI b := by simp [hexI]
theorem byte_bd (s : ByteArray) : ∀ x ∈ bytesOf s, 0 ≤ x ∧ x < 256 := by
  intro x hx
  unfold bytesOf at hx
  obtain ⟨b, _, rfl⟩ := List.mem_map.1 hx
  have := b.toNat_lt
  omega
theorem tab_hd : ∀ n : Fin 16, bt (⟨#[48, 49, 50, 51, 52, 53, 54, 55, 56, 57, 97, 98, 99, 100, 101, 102]⟩ : ByteArray) ((n.val : Nat) : Int) = hdI ((n.val : Nat) : Int) := by decide +kernel
theorem tab_hd' (n : Int) (h0 : 0 ≤ n) (h1 : n < 16) : bt (⟨#[48, 49, 50, 51, 52, 53, 54, 55, 56, 57, 97, 98, 99, 100, 101, 102]⟩ : ByteArray) n = hdI n := by
  have := tab_hd ⟨n.toNat, by omega⟩
  simpa [Int.toNat_of_nonneg h0] using this
theorem and15 : ∀ n : Fin 256, Go.bits .and .u8 ((n.val : Nat) : Int) 15 = ((n.val : Nat) : Int) % 16 := by decide +kernel
theorem and15' (n : Int) (h0 : 0 ≤ n) (h1 : n < 256) : Go.bits .and .u8 n 15 = n % 16 := by
  have := and15 ⟨n.toNat, by omega⟩
  simpa [Int.toNat_of_nonneg h0] using this
theorem take_snoc {α : Type} (l : List α) (i : Nat) (h : i < l.length) : l.take (i + 1) = l.take i ++ [l[i]] := by rw [List.take_succ_eq_append_getElem h]
theorem hex_loop (s : ByteArray) (hs : s.size ≤ 35184372088832) (d : Nat) : ∀ i : Nat, i + d = s.size → Ev (fun k => nums_Hex.l0 k (hexI ((bytesOf s).take i)) (bytesOf s) (s.size : Int) (i : Int)) (hexB s) := by
  induction d with
  | zero =>
    intro i hd
    refine Ev.step (fun k => by rw [nums_Hex.l0]) ?_
    simp only [if_neg (show ¬ (i : Int) < (s.size : Int) by omega)]
    rw [List.take_of_length_le (by rw [bytesOf_length]; omega)]
    exact Ev.const rfl
  | succ d ih =>
    intro i hd
    refine Ev.step (fun k => by rw [nums_Hex.l0]) ?_
    have hl : i < (bytesOf s).length := by rw [bytesOf_length]; omega
    rw [rd_nat _ i hl, bytesOf_length]
    have hb := byte_bd s _ (List.getElem_mem hl)
    have hih := ih (i + 1) (by omega)
    rw [take_snoc _ i hl, hexI_append] at hih
    have hlen : (hexI ((bytesOf s).take i)).length ≤ 2 * i := by rw [hexI_length, List.length_take]; omega
    generalize hx : (bytesOf s)[i] = x at hb hih
    simp only [if_pos (show (i : Int) < (s.size : Int) by omega), if_pos (show (0 : Int) ≤ (i : Int) by omega), if_pos (show 0 ≤ x / 16 by omega), if_pos (show x / 16 < 16 by omega), and15' x hb.1 hb.2,
      if_pos (show 0 ≤ x % 16 by omega), if_pos (show x % 16 < 16 by omega), tab_hd' (x / 16) (by omega) (by omega), tab_hd' (x % 16) (by omega) (by omega), Option.bind_some, List.length_cons, List.length_nil,
      if_pos (show (hexI ((bytesOf s).take i)).length + (0 + 1 + 1) < 140737488355328 by omega)]
    rw [wrap_succ (by omega)]
    exact hih
theorem hex_f (s : ByteArray) (hs : s.size ≤ 35184372088832) : Ev (fun k => nums_Hex.f k s) (hexB s) := by
  have e : wrap64 (2 * (s.size : Int)) = ((2 * s.size : Nat) : Int) := by rw [wrap_id (by omega) (by omega)]; omega
  refine Ev.congr (fun k => by rw [nums_Hex.f, e]) ?_
  simp only [if_pos (show (0 : Int) ≤ ((2 * s.size : Nat) : Int) by omega), Int.toNat_natCast, if_pos (show 2 * s.size ≤ 281474976710656 by omega), if_pos (show s.size ≤ 9223372036854775807 by omega), Option.bind_some, bytesOf_length]
  exact hex_loop s hs s.size 0 (by omega)
/-- What a digit is worth; -1: it is none. -/
def nibI (c : Int) : Int := if 48 ≤ c ∧ c ≤ 57 then c - 48 else if 97 ≤ c ∧ c ≤ 102 then c - 87 else -1
theorem nib_f (c : Int) (h0 : 0 ≤ c) (h1 : c < 256) : Ev (fun k => nums_nibble.f k c) (if 0 ≤ nibI c then (nibI c, true) else (0, false)) := by
  have g : ∀ k, nums_nibble.f k c = nums_nibble.j0 k c (decide (48 ≤ c ∧ c ≤ 57)) := by
    intro k
    unfold nums_nibble.f
    by_cases h : 48 ≤ c
    · rw [if_pos h]; congr 1; simp [h]
    · rw [if_neg h]; congr 1; simp [h]
  refine Ev.congr g (Ev.step (fun k => by rw [nums_nibble.j0]) ?_)
  unfold nibI
  by_cases h : 48 ≤ c ∧ c ≤ 57
  · simp only [decide_eq_true h, if_true, if_pos h, if_pos (show 0 ≤ c - 48 by omega)]
    exact Ev.const (by rw [show (c - 48) % 256 = c - 48 by omega])
  · simp only [decide_eq_false h, if_neg (show ¬ (false = true) by decide), if_neg h]
    by_cases h2 : 97 ≤ c
    · simp only [if_pos h2]
      by_cases h3 : c ≤ 102
      · simp only [if_pos h3, if_pos (show 97 ≤ c ∧ c ≤ 102 from ⟨h2, h3⟩), if_pos (show 0 ≤ c - 87 by omega)]
        exact Ev.const (by rw [show ((c - 97) % 256 + 10) % 256 = c - 87 by omega])
      · simp only [if_neg h3, if_neg (show ¬ (97 ≤ c ∧ c ≤ 102) by omega)]; exact Ev.const rfl
    · simp only [if_neg h2, if_neg (show ¬ (97 ≤ c ∧ c ≤ 102) by omega)]; exact Ev.const rfl
theorem nibI_bd (c : Int) : -1 ≤ nibI c ∧ nibI c < 16 := by unfold nibI; (repeat' split) <;> omega
/-- The bytes that digits say. -/
def unhexI : List Int → Option (List Int)
  | a :: b :: r => if 0 ≤ nibI a ∧ 0 ≤ nibI b then (unhexI r).map (fun x => (16 * nibI a + nibI b) :: x) else none
  | [] => some []
  | [_] => none
/-- What Unhex answers. -/
def unhE (s : ByteArray) : ByteArray × Int := match unhexI (bytesOf s) with | some l => (strOfNums l, 0) | none => (⟨#[]⟩, 23)
theorem or16 : ∀ a b : Fin 16, Go.bits .or .u8 ((((a.val : Nat) : Int) * 16) % 256) ((b.val : Nat) : Int) = 16 * ((a.val : Nat) : Int) + ((b.val : Nat) : Int) := by decide +kernel
theorem or16' (a b : Int) (h0 : 0 ≤ a) (h1 : a < 16) (h2 : 0 ≤ b) (h3 : b < 16) : Go.bits .or .u8 ((a * 16) % 256) b = 16 * a + b := by
  have := or16 ⟨a.toNat, by omega⟩ ⟨b.toNat, by omega⟩
  simpa [Int.toNat_of_nonneg h0, Int.toNat_of_nonneg h2] using this
theorem bytesOf_drop (s : ByteArray) (n : Nat) : bytesOf (s.extract n s.size) = (bytesOf s).drop n := by
  unfold bytesOf; rw [Go.Lib.extract_to_end, List.map_drop]
theorem bt_nat (s : ByteArray) (i : Nat) (h : i < (bytesOf s).length) : bt s (i : Int) = (bytesOf s)[i] := by rw [← rd_bytesOf, rd_nat _ i h]
theorem size_drop (s : ByteArray) (n : Nat) (h : n ≤ s.size) : (s.extract n s.size).size = s.size - n := by
  rw [← bytesOf_length, bytesOf_drop, List.length_drop, bytesOf_length]
theorem toList_nil (s : ByteArray) : s.toList = [] ↔ s.size = 0 := by
  rw [Go.ByteArray.toList_eq]
  constructor
  · intro h
    have := congrArg List.length h
    rw [Array.length_toList] at this
    exact this
  · intro h
    exact List.eq_nil_of_length_eq_zero (by rw [Array.length_toList]; exact h)
theorem unhex_loop (n : Nat) : ∀ (s : ByteArray) (acc : List Int), s.size = 2 * n → acc.length + n ≤ 70368744177664 →
    Ev (fun k => nums_Unhex.l0 k s acc) (match unhexI (bytesOf s) with | some l => (strOfNums (acc ++ l), 0) | none => (⟨#[]⟩, 23)) := by
  induction n with
  | zero =>
    intro s acc hs ha
    refine Ev.step (fun k => by rw [nums_Unhex.l0]) ?_
    simp only [if_pos ((toList_nil s).2 (by omega))]
    have : bytesOf s = [] := List.eq_nil_of_length_eq_zero (by rw [bytesOf_length]; omega)
    rw [this]
    simp only [unhexI, List.append_nil]
    exact Ev.const rfl
  | succ n ih =>
    intro s acc hs ha
    refine Ev.step (fun k => by rw [nums_Unhex.l0]) ?_
    have hne : ¬ s.toList = [] := fun h => by have := (toList_nil s).1 h; omega
    simp only [if_neg hne, if_pos (show (0 : Int) < (s.size : Int) by omega), if_pos (show (1 : Int) < (s.size : Int) by omega), if_pos (show (2 : Int) ≤ (s.size : Int) by omega), if_pos (show acc.length < 140737488355328 by omega)]
    have hl : (bytesOf s).length = 2 * (n + 1) := by rw [bytesOf_length, hs]
    have e0 := bt_nat s 0 (by omega)
    have e1 := bt_nat s 1 (by omega)
    have hb0 := byte_bd s _ (List.getElem_mem (show 0 < (bytesOf s).length by omega))
    have hb1 := byte_bd s _ (List.getElem_mem (show 1 < (bytesOf s).length by omega))
    have hcons : bytesOf s = (bytesOf s)[0] :: (bytesOf s)[1] :: bytesOf (s.extract 2 s.size) := by
      rw [bytesOf_drop]
      have h0 := List.drop_eq_getElem_cons (show 0 < (bytesOf s).length by omega)
      have h1 := List.drop_eq_getElem_cons (show 1 < (bytesOf s).length by omega)
      rw [List.drop_zero] at h0
      rw [h1] at h0
      exact h0
    have e0' : bt s 0 = (bytesOf s)[0] := e0
    have e1' : bt s 1 = (bytesOf s)[1] := e1
    rw [e0', e1']
    generalize (bytesOf s)[0] = a at *
    generalize (bytesOf s)[1] = b at *
    refine Ev.bind (nib_f a hb0.1 hb0.2) (Ev.bind (nib_f b hb1.1 hb1.2) ?_)
    have na := nibI_bd a
    have nb := nibI_bd b
    rw [hcons]
    by_cases ha' : 0 ≤ nibI a
    · by_cases hb' : 0 ≤ nibI b
      · simp only [if_pos ha', if_pos hb', if_true, unhexI, if_pos (show 0 ≤ nibI a ∧ 0 ≤ nibI b from ⟨ha', hb'⟩)]
        rw [or16' _ _ ha' na.2 hb' nb.2]
        have := ih (s.extract 2 s.size) (acc ++ [16 * nibI a + nibI b]) (by rw [size_drop s 2 (by omega)]; omega) (by simp; omega)
        refine Ev.val this ?_
        cases unhexI (bytesOf (s.extract 2 s.size)) <;> simp
      · simp only [if_pos ha', if_neg hb', if_true, unhexI, if_neg (show ¬ (0 ≤ nibI a ∧ 0 ≤ nibI b) from fun h => hb' h.2)]
        exact Ev.const rfl
    · simp only [if_neg ha', unhexI, if_neg (show ¬ (0 ≤ nibI a ∧ 0 ≤ nibI b) from fun h => ha' h.1)]
      exact Ev.const rfl
theorem unhexI_odd (l : List Int) : ∀ n, l.length = 2 * n + 1 → unhexI l = none := by
  intro n
  induction n generalizing l with
  | zero =>
    intro h
    match l, h with
    | [a], _ => rfl
  | succ n ih =>
    intro h
    match l, h with
    | a :: b :: r, h =>
      simp only [unhexI]
      rw [ih r (by simp at h; omega)]
      split <;> rfl
theorem unhex_f (s : ByteArray) (hs : s.size ≤ 70368744177664) : Ev (fun k => nums_Unhex.f k s) (unhE s) := by
  refine Ev.congr (fun k => by rw [nums_Unhex.f]) ?_
  unfold unhE
  by_cases h : (s.size : Int) % 2 = 0
  · rw [show wrap64 ((s.size : Int) / 2) = ((s.size / 2 : Nat) : Int) by rw [wrap_id (by omega) (by omega)]; rfl]
    simp only [if_pos h, if_pos (show (0 : Int) ≤ ((s.size / 2 : Nat) : Int) by omega), Int.toNat_natCast, if_pos (show s.size / 2 ≤ 281474976710656 by omega)]
    exact unhex_loop (s.size / 2) s [] (by omega) (by simp; omega)
  · simp only [if_neg h]
    rw [unhexI_odd _ (s.size / 2) (by rw [bytesOf_length]; omega)]
    exact Ev.const rfl
theorem nib_hd (n : Int) (h0 : 0 ≤ n) (h1 : n < 16) : nibI (hdI n) = n := by unfold nibI hdI; (repeat' split) <;> omega
theorem unhex_hex : ∀ l : List Int, (∀ x ∈ l, 0 ≤ x ∧ x < 256) → unhexI (hexI l) = some l
  | [], _ => rfl
  | a :: l, h => by
    have ha := h a List.mem_cons_self
    have ih := unhex_hex l (fun x hx => h x (List.mem_cons_of_mem a hx))
    show unhexI (hdI (a / 16) :: hdI (a % 16) :: hexI l) = _
    simp only [unhexI, nib_hd (a / 16) (by omega) (by omega), nib_hd (a % 16) (by omega) (by omega), if_pos (show 0 ≤ a / 16 ∧ 0 ≤ a % 16 by omega), ih, Option.map_some]
    rw [show 16 * (a / 16) + a % 16 = a by omega]
theorem hd_nib (c : Int) (h : 0 ≤ nibI c) : hdI (nibI c) = c := by unfold nibI at h ⊢; unfold hdI; (repeat' split) <;> (repeat' split at h) <;> omega
theorem hex_unhex : ∀ (l r : List Int), unhexI l = some r → hexI r = l ∧ ∀ x ∈ r, 0 ≤ x ∧ x < 256
  | [], r, h => by simp only [unhexI, Option.some.injEq] at h; subst h; exact ⟨rfl, by simp⟩
  | [a], r, h => by simp [unhexI] at h
  | a :: b :: l, r, h => by
    simp only [unhexI] at h
    by_cases hc : 0 ≤ nibI a ∧ 0 ≤ nibI b
    · rw [if_pos hc] at h
      obtain ⟨r', hr, rfl⟩ := Option.map_eq_some_iff.1 h
      obtain ⟨ih, ihb⟩ := hex_unhex l r' hr
      have na := nibI_bd a
      have nb := nibI_bd b
      refine ⟨?_, ?_⟩
      · show hdI ((16 * nibI a + nibI b) / 16) :: hdI ((16 * nibI a + nibI b) % 16) :: hexI r' = _
        rw [show (16 * nibI a + nibI b) / 16 = nibI a by omega, show (16 * nibI a + nibI b) % 16 = nibI b by omega, hd_nib a hc.1, hd_nib b hc.2, ih]
      · intro x hx
        rcases List.mem_cons.1 hx with rfl | hx
        · omega
        · exact ihb x hx
    · rw [if_neg hc] at h; cases h
theorem bytesOf_str (l : List Int) (h : ∀ x ∈ l, 0 ≤ x ∧ x < 256) : bytesOf (strOfNums l) = l := by
  unfold bytesOf
  rw [strOfNums_data, List.map_map]
  conv => rhs; rw [← List.map_id l]
  refine List.map_congr_left fun x hx => ?_
  have := h x hx
  simp only [Function.comp_apply, id_eq]
  rw [UInt8.toNat_ofNat']
  omega
theorem str_bytesOf (s : ByteArray) : strOfNums (bytesOf s) = s := by
  apply Go.WideShapes.bytes_inj
  rw [strOfNums_data]
  unfold bytesOf
  rw [List.map_map]
  conv => rhs; rw [← List.map_id s.data.toList]
  refine List.map_congr_left fun x _ => ?_
  simp
theorem hdI_bd (n : Int) (h0 : 0 ≤ n) (h1 : n < 16) : 48 ≤ hdI n ∧ hdI n < 103 := by unfold hdI; split <;> omega
theorem hexI_bd (l : List Int) (h : ∀ x ∈ l, 0 ≤ x ∧ x < 256) : ∀ x ∈ hexI l, 48 ≤ x ∧ x < 103 := by
  intro x hx
  unfold hexI at hx
  obtain ⟨b, hb, hx⟩ := List.mem_flatMap.1 hx
  have := h b hb
  simp only [List.mem_cons, List.not_mem_nil, or_false] at hx
  rcases hx with rfl | rfl
  · exact hdI_bd _ (by omega) (by omega)
  · exact hdI_bd _ (by omega) (by omega)
theorem bytes_hexB (s : ByteArray) : bytesOf (hexB s) = hexI (bytesOf s) := bytesOf_str _ (fun x hx => by have := hexI_bd _ (byte_bd s) x hx; omega)
theorem hexB_size (s : ByteArray) : (hexB s).size = 2 * s.size := by unfold hexB; rw [strOfNums_size, hexI_length, bytesOf_length]
/-- There and back. -/
theorem unhE_hexB (s : ByteArray) : unhE (hexB s) = (s, 0) := by
  unfold unhE
  rw [bytes_hexB, unhex_hex _ (byte_bd s)]
  show (strOfNums (bytesOf s), (0 : Int)) = _
  rw [str_bytesOf]
theorem hexB_unhE (t : ByteArray) (h : (unhE t).2 = 0) : hexB (unhE t).1 = t := by
  unfold unhE at h ⊢
  cases hu : unhexI (bytesOf t) with
  | none => rw [hu] at h; simp at h
  | some l =>
    obtain ⟨h1, h2⟩ := hex_unhex _ _ hu
    simp only
    unfold hexB
    rw [bytesOf_str l h2, h1, str_bytesOf]
end Go.Proofs.Ytgdhgamolenfgaa.Pure
