/- For every entry and every text the law ItemText answers true: an entry's text is the document's and gives the entry again; what a text says is what the document says, and an entry that was read is written so again. Its condition: the package-level variables that it reads (tables of strconv, math/bits and unicode/utf8, ErrRange, ErrSyntax) hold what start-up laid in them, which the card ties to the program's text, and the form's own reach. -/
import Derived.Test.YthnjlbdkcpgcjaaDoorPAllx0
import Derived.Test.YthnjlbdkcpgcjaaDoorPAllx2
import Derived.Test.YthnjlbdkcpgcjaaDoorPAllx3
import Derived.Test.YthnjlbdkcpgcjaaDoorPAllx4
import Derived.Test.YthnjlbdkcpgcjaaDoorPAllx5
import Derived.Test.YthnjlbdkcpgcjaaDoorPAllx6
import Derived.Test.YthnjlbdkcpgcjaaDoorPAllx7
import Derived.Test.YthnjlbdkcpgcjaaDoorPAllx8
import Derived.Test.YthnjlbdkcpgcjaaDoorPAllx9
import Derived.Test.YthnjlbdkcpgcjaaDoorPAllx10
import Derived.Test.YthnjlbdkcpgcjaaDoorQItemText
import Derived.Lib.IndexBytes
import Derived.Lib.CutLaws
import Derived.Lib.Split
import Derived.Test.YthnjlbdkcpgcjaaDoorSRead03
import Derived.Test.YthnjlbdkcpgcjaaDoorSDigC
set_option linter.unusedVariables false
set_option linter.unusedSimpArgs false
namespace Go.Proofs.YthnjlbdkcpgcjaaDoor.Pure
open Go.RowKit Go.Proofs.YthnjlbdkcpgcjaaDoor.PAll Go.Proofs.YthnjlbdkcpgcjaaDoorW.PrintWords Go.Proofs.YthnjlbdkcpgcjaaDoorW.PrintLast Go.Proofs.YthnjlbdkcpgcjaaDoorW.PrintMore
section
theorem wrap_id {x : Int} (h0 : -9223372036854775808 ≤ x) (h1 : x ≤ 9223372036854775807) : wrap64 x = x := by
  unfold wrap64; omega
theorem tdiv_nat (a b : Nat) : Int.tdiv (a : Int) (b : Int) = ((a / b : Nat) : Int) := by
  rw [Int.tdiv_eq_ediv_of_nonneg (Int.natCast_nonneg _)]; rfl
theorem Ev.val {α : Type} {g : Nat → Option α} {r q : α} (h : Ev g r) (e : r = q) : Ev g q := e ▸ h
theorem Ev.const {α : Type} {v : Option α} {r : α} (h : v = some r) : Ev (fun _ => v) r := ⟨0, fun _ _ => h⟩
theorem wrap_nat {q : Nat} (h : q ≤ 9223372036854775807) : wrap64 (q : Int) = (q : Int) := wrap_id (by omega) (by omega)
theorem wrap_succ {q : Nat} (h : q ≤ 9223372036854775806) : wrap64 ((q : Int) + 1) = ((q + 1 : Nat) : Int) := by rw [wrap_id (by omega) (by omega)]; rfl
end
section
theorem rdOf_nat {α : Type} (d : α) (l : List α) (i : Nat) (h : i < l.length) : rdOf d l (i : Int) = l[i] := by
  unfold rdOf; rw [Int.toNat_natCast, List.getD_eq_getElem?_getD, List.getElem?_eq_getElem h]; rfl
theorem rd_nat (l : List Int) (i : Nat) (h : i < l.length) : rd l (i : Int) = l[i] := by
  unfold rd; rw [Int.toNat_natCast, List.getD_eq_getElem?_getD, List.getElem?_eq_getElem h]; rfl
theorem ba_eq {a b : ByteArray} : a.toList = b.toList ↔ a = b := by
  constructor
  · intro h
    rw [Go.ByteArray.toList_eq, Go.ByteArray.toList_eq] at h
    cases a; cases b
    simp only [ByteArray.mk.injEq]
    exact Array.toList_inj.1 h
  · rintro rfl; rfl
end
section
/-- A digit to the base 16. -/
def hdI (n : Int) : Int := if n < 10 then 48 + n else 87 + n
def hexI (l : List Int) : List Int := l.flatMap fun b => [hdI (b / 16), hdI (b % 16)]
/-- A text's bytes, written. -/
def hexB (s : ByteArray) : ByteArray := strOfNums (hexI (bytesOf s))
theorem hexI_length (l : List Int) : (hexI l).length = 2 * l.length := by
  induction l with
  | nil => rfl
  | cons a l ih => simp only [hexI, List.flatMap_cons, List.length_append, List.length_cons, List.length_nil] at ih ⊢; omega
theorem hexI_append (a b : List Int) : hexI (a ++ b) = hexI a ++ hexI b := by simp [hexI]
theorem byte_bd (s : ByteArray) : ∀ x ∈ bytesOf s, 0 ≤ x ∧ x < 256 := by
  intro x hx
  unfold bytesOf at hx
  obtain ⟨b, _, rfl⟩ := List.mem_map.1 hx
  have := b.toNat_lt
  omega
theorem tab_hd : ∀ n : Fin 16, bt (⟨#[48, 49, 50, 51, 52, 53, 54, 55, 56, 57, 97, 98, 99, 100, 101, 102]⟩ : ByteArray) ((n.val : Nat) : Int) = hdI ((n.val : Nat) : Int) := by decide +kernel
theorem tab_hd' (n : Int) (h0 : 0 ≤ n) (h1 : n < 16) : bt (⟨#[48, 49, 50, 51, 52, 53, 54, 55, 56, 57, 97, 98, 99, 100, 101, 102]⟩ : ByteArray) n = hdI n := by
  have := tab_hd ⟨n.toNat, by omega⟩
  simpa [Int.toNat_of_nonneg h0] using this
theorem and15 : ∀ n : Fin 256, Go.bits .and .u8 ((n.val : Nat) : Int) 15 = ((n.val : Nat) : Int) % 16 := by decide +kernel
theorem and15' (n : Int) (h0 : 0 ≤ n) (h1 : n < 256) : Go.bits .and .u8 n 15 = n % 16 := by
  have := and15 ⟨n.toNat, by omega⟩
  simpa [Int.toNat_of_nonneg h0] using this
theorem take_snoc {α : Type} (l : List α) (i : Nat) (h : i < l.length) : l.take (i + 1) = l.take i ++ [l[i]] := by rw [List.take_succ_eq_append_getElem h]
theorem hex_loop (s : ByteArray) (hs : s.size ≤ 35184372088832) (d : Nat) : ∀ i : Nat, i + d = s.size → Ev (fun k => nums_Hex.l0 k (hexI ((bytesOf s).take i)) (bytesOf s) (s.size : Int) (i : Int)) (hexB s) := by
  induction d with
  | zero =>
    intro i hd
    refine Ev.step (fun k => by rw [nums_Hex.l0]) ?_
    simp only [if_neg (show ¬ (i : Int) < (s.size : Int) by omega)]
    rw [List.take_of_length_le (by rw [bytesOf_length]; omega)]
    exact Ev.const rfl
  | succ d ih =>
    intro i hd
    refine Ev.step (fun k => by rw [nums_Hex.l0]) ?_
    have hl : i < (bytesOf s).length := by rw [bytesOf_length]; omega
    rw [rd_nat _ i hl, bytesOf_length]
    have hb := byte_bd s _ (List.getElem_mem hl)
    have hih := ih (i + 1) (by omega)
    rw [take_snoc _ i hl, hexI_append] at hih
    have hlen : (hexI ((bytesOf s).take i)).length ≤ 2 * i := by rw [hexI_length, List.length_take]; omega
    generalize hx : (bytesOf s)[i] = x at hb hih
    simp only [if_pos (show (i : Int) < (s.size : Int) by omega), if_pos (show (0 : Int) ≤ (i : Int) by omega), if_pos (show 0 ≤ x / 16 by omega), if_pos (show x / 16 < 16 by omega), and15' x hb.1 hb.2,
      if_pos (show 0 ≤ x % 16 by omega), if_pos (show x % 16 < 16 by omega), tab_hd' (x / 16) (by omega) (by omega), tab_hd' (x % 16) (by omega) (by omega), Option.bind_some, List.length_cons, List.length_nil,
      if_pos (show (hexI ((bytesOf s).take i)).length + (0 + 1 + 1) < 140737488355328 by omega)]
    rw [wrap_succ (by omega)]
    exact hih
theorem hex_f (s : ByteArray) (hs : s.size ≤ 35184372088832) : Ev (fun k => nums_Hex.f k s) (hexB s) := by
  have e : wrap64 (2 * (s.size : Int)) = ((2 * s.size : Nat) : Int) := by rw [wrap_id (by omega) (by omega)]; omega
  refine Ev.congr (fun k => by rw [nums_Hex.f, e]) ?_
  simp only [if_pos (show (0 : Int) ≤ ((2 * s.size : Nat) : Int) by omega), Int.toNat_natCast, if_pos (show 2 * s.size ≤ 281474976710656 by omega), if_pos (show s.size ≤ 9223372036854775807 by omega), Option.bind_some, bytesOf_length]
  exact hex_loop s hs s.size 0 (by omega)
/-- What a digit is worth; -1: it is none. -/
def nibI (c : Int) : Int := if 48 ≤ c ∧ c ≤ 57 then c - 48 else if 97 ≤ c ∧ c ≤ 102 then c - 87 else -1
theorem nib_f (c : Int) (h0 : 0 ≤ c) (h1 : c < 256) : Ev (fun k => nums_nibble.f k c) (if 0 ≤ nibI c then (nibI c, true) else (0, false)) := by
  have g : ∀ k, nums_nibble.f k c = nums_nibble.j0 k c (decide (48 ≤ c ∧ c ≤ 57)) := by
    intro k
    unfold nums_nibble.f
    by_cases h : 48 ≤ c
    · rw [if_pos h]; congr 1; simp [h]
    · rw [if_neg h]; congr 1; simp [h]
  refine Ev.congr g (Ev.step (fun k => by rw [nums_nibble.j0]) ?_)
  unfold nibI
  by_cases h : 48 ≤ c ∧ c ≤ 57
  · simp only [decide_eq_true h, if_true, if_pos h, if_pos (show 0 ≤ c - 48 by omega)]
    exact Ev.const (by rw [show (c - 48) % 256 = c - 48 by omega])
  · simp only [decide_eq_false h, if_neg (show ¬ (false = true) by decide), if_neg h]
    by_cases h2 : 97 ≤ c
    · simp only [if_pos h2]
      by_cases h3 : c ≤ 102
      · simp only [if_pos h3, if_pos (show 97 ≤ c ∧ c ≤ 102 from ⟨h2, h3⟩), if_pos (show 0 ≤ c - 87 by omega)]
        exact Ev.const (by rw [show ((c - 97) % 256 + 10) % 256 = c - 87 by omega])
      · simp only [if_neg h3, if_neg (show ¬ (97 ≤ c ∧ c ≤ 102) by omega)]; exact Ev.const rfl
    · simp only [if_neg h2, if_neg (show ¬ (97 ≤ c ∧ c ≤ 102) by omega)]; exact Ev.const rfl
theorem nibI_bd (c : Int) : -1 ≤ nibI c ∧ nibI c < 16 := by unfold nibI; (repeat' split) <;> omega
/-- The bytes that digits say. -/
def unhexI : List Int → Option (List Int)
  | a :: b :: r => if 0 ≤ nibI a ∧ 0 ≤ nibI b then (unhexI r).map (fun x => (16 * nibI a + nibI b) :: x) else none
  | [] => some []
  | [_] => none
/-- What Unhex answers. -/
def unhE (s : ByteArray) : ByteArray × Int := match unhexI (bytesOf s) with | some l => (strOfNums l, 0) | none => (⟨#[]⟩, 23)
theorem or16 : ∀ a b : Fin 16, Go.bits .or .u8 ((((a.val : Nat) : Int) * 16) % 256) ((b.val : Nat) : Int) = 16 * ((a.val : Nat) : Int) + ((b.val : Nat) : Int) := by decide +kernel
theorem or16' (a b : Int) (h0 : 0 ≤ a) (h1 : a < 16) (h2 : 0 ≤ b) (h3 : b < 16) : Go.bits .or .u8 ((a * 16) % 256) b = 16 * a + b := by
  have := or16 ⟨a.toNat, by omega⟩ ⟨b.toNat, by omega⟩
  simpa [Int.toNat_of_nonneg h0, Int.toNat_of_nonneg h2] using this
theorem bytesOf_drop (s : ByteArray) (n : Nat) : bytesOf (s.extract n s.size) = (bytesOf s).drop n := by
  unfold bytesOf; rw [Go.Lib.extract_to_end, List.map_drop]
theorem bt_nat (s : ByteArray) (i : Nat) (h : i < (bytesOf s).length) : bt s (i : Int) = (bytesOf s)[i] := by rw [← rd_bytesOf, rd_nat _ i h]
theorem size_drop (s : ByteArray) (n : Nat) (h : n ≤ s.size) : (s.extract n s.size).size = s.size - n := by
  rw [← bytesOf_length, bytesOf_drop, List.length_drop, bytesOf_length]
theorem toList_nil (s : ByteArray) : s.toList = [] ↔ s.size = 0 := by
  rw [Go.ByteArray.toList_eq]
  constructor
  · intro h
    have := congrArg List.length h
    rw [Array.length_toList] at this
    exact this
  · intro h
    exact List.eq_nil_of_length_eq_zero (by rw [Array.length_toList]; exact h)
theorem unhex_loop (n : Nat) : ∀ (s : ByteArray) (acc : List Int), s.size = 2 * n → acc.length + n ≤ 70368744177664 →
    Ev (fun k => nums_Unhex.l0 k s acc) (match unhexI (bytesOf s) with | some l => (strOfNums (acc ++ l), 0) | none => (⟨#[]⟩, 23)) := by
  induction n with
  | zero =>
    intro s acc hs ha
    refine Ev.step (fun k => by rw [nums_Unhex.l0]) ?_
    simp only [if_pos ((toList_nil s).2 (by omega))]
    have : bytesOf s = [] := List.eq_nil_of_length_eq_zero (by rw [bytesOf_length]; omega)
    rw [this]
    simp only [unhexI, List.append_nil]
    exact Ev.const rfl
  | succ n ih =>
    intro s acc hs ha
    refine Ev.step (fun k => by rw [nums_Unhex.l0]) ?_
    have hne : ¬ s.toList = [] := fun h => by have := (toList_nil s).1 h; omega
    simp only [if_neg hne, if_pos (show (0 : Int) < (s.size : Int) by omega), if_pos (show (1 : Int) < (s.size : Int) by omega), if_pos (show (2 : Int) ≤ (s.size : Int) by omega), if_pos (show acc.length < 140737488355328 by omega)]
    have hl : (bytesOf s).length = 2 * (n + 1) := by rw [bytesOf_length, hs]
    have e0 := bt_nat s 0 (by omega)
    have e1 := bt_nat s 1 (by omega)
    have hb0 := byte_bd s _ (List.getElem_mem (show 0 < (bytesOf s).length by omega))
    have hb1 := byte_bd s _ (List.getElem_mem (show 1 < (bytesOf s).length by omega))
    have hcons : bytesOf s = (bytesOf s)[0] :: (bytesOf s)[1] :: bytesOf (s.extract 2 s.size) := by
      rw [bytesOf_drop]
      have h0 := List.drop_eq_getElem_cons (show 0 < (bytesOf s).length by omega)
      have h1 := List.drop_eq_getElem_cons (show 1 < (bytesOf s).length by omega)
      rw [List.drop_zero] at h0
      rw [h1] at h0
      exact h0
    have e0' : bt s 0 = (bytesOf s)[0] := e0
    have e1' : bt s 1 = (bytesOf s)[1] := e1
    rw [e0', e1']
    generalize (bytesOf s)[0] = a at *
    generalize (bytesOf s)[1] = b at *
    refine Ev.bind (nib_f a hb0.1 hb0.2) (Ev.bind (nib_f b hb1.1 hb1.2) ?_)
    have na := nibI_bd a
    have nb := nibI_bd b
    rw [hcons]
    by_cases ha' : 0 ≤ nibI a
    · by_cases hb' : 0 ≤ nibI b
      · simp only [if_pos ha', if_pos hb', if_true, unhexI, if_pos (show 0 ≤ nibI a ∧ 0 ≤ nibI b from ⟨ha', hb'⟩)]
        rw [or16' _ _ ha' na.2 hb' nb.2]
        have := ih (s.extract 2 s.size) (acc ++ [16 * nibI a + nibI b]) (by rw [size_drop s 2 (by omega)]; omega) (by simp; omega)
        refine Ev.val this ?_
        cases unhexI (bytesOf (s.extract 2 s.size)) <;> simp
      · simp only [if_pos ha', if_neg hb', if_true, unhexI, if_neg (show ¬ (0 ≤ nibI a ∧ 0 ≤ nibI b) from fun h => hb' h.2)]
        exact Ev.const rfl
    · simp only [if_neg ha', unhexI, if_neg (show ¬ (0 ≤ nibI a ∧ 0 ≤ nibI b) from fun h => ha' h.1)]
      exact Ev.const rfl
theorem unhexI_odd (l : List Int) : ∀ n, l.length = 2 * n + 1 → unhexI l = none := by
  intro n
  induction n generalizing l with
  | zero =>
    intro h
    match l, h with
    | [a], _ => rfl
  | succ n ih =>
    intro h
    match l, h with
    | a :: b :: r, h =>
      simp only [unhexI]
      rw [ih r (by simp at h; omega)]
      split <;> rfl
theorem unhex_f (s : ByteArray) (hs : s.size ≤ 70368744177664) : Ev (fun k => nums_Unhex.f k s) (unhE s) := by
  refine Ev.congr (fun k => by rw [nums_Unhex.f]) ?_
  unfold unhE
  by_cases h : (s.size : Int) % 2 = 0
  · rw [show wrap64 ((s.size : Int) / 2) = ((s.size / 2 : Nat) : Int) by rw [wrap_id (by omega) (by omega)]; rfl]
    simp only [if_pos h, if_pos (show (0 : Int) ≤ ((s.size / 2 : Nat) : Int) by omega), Int.toNat_natCast, if_pos (show s.size / 2 ≤ 281474976710656 by omega)]
    exact unhex_loop (s.size / 2) s [] (by omega) (by simp; omega)
  · simp only [if_neg h]
    rw [unhexI_odd _ (s.size / 2) (by rw [bytesOf_length]; omega)]
    exact Ev.const rfl
theorem nib_hd (n : Int) (h0 : 0 ≤ n) (h1 : n < 16) : nibI (hdI n) = n := by unfold nibI hdI; (repeat' split) <;> omega
theorem unhex_hex : ∀ l : List Int, (∀ x ∈ l, 0 ≤ x ∧ x < 256) → unhexI (hexI l) = some l
  | [], _ => rfl
  | a :: l, h => by
    have ha := h a List.mem_cons_self
    have ih := unhex_hex l (fun x hx => h x (List.mem_cons_of_mem a hx))
    show unhexI (hdI (a / 16) :: hdI (a % 16) :: hexI l) = _
    simp only [unhexI, nib_hd (a / 16) (by omega) (by omega), nib_hd (a % 16) (by omega) (by omega), if_pos (show 0 ≤ a / 16 ∧ 0 ≤ a % 16 by omega), ih, Option.map_some]
    rw [show 16 * (a / 16) + a % 16 = a by omega]
theorem hd_nib (c : Int) (h : 0 ≤ nibI c) : hdI (nibI c) = c := by unfold nibI at h ⊢; unfold hdI; (repeat' split) <;> (repeat' split at h) <;> omega
theorem hex_unhex : ∀ (l r : List Int), unhexI l = some r → hexI r = l ∧ ∀ x ∈ r, 0 ≤ x ∧ x < 256
  | [], r, h => by simp only [unhexI, Option.some.injEq] at h; subst h; exact ⟨rfl, by simp⟩
  | [a], r, h => by simp [unhexI] at h
  | a :: b :: l, r, h => by
    simp only [unhexI] at h
    by_cases hc : 0 ≤ nibI a ∧ 0 ≤ nibI b
    · rw [if_pos hc] at h
      obtain ⟨r', hr, rfl⟩ := Option.map_eq_some_iff.1 h
      obtain ⟨ih, ihb⟩ := hex_unhex l r' hr
      have na := nibI_bd a
      have nb := nibI_bd b
      refine ⟨?_, ?_⟩
      · show hdI ((16 * nibI a + nibI b) / 16) :: hdI ((16 * nibI a + nibI b) % 16) :: hexI r' = _
        rw [show (16 * nibI a + nibI b) / 16 = nibI a by omega, show (16 * nibI a + nibI b) % 16 = nibI b by omega, hd_nib a hc.1, hd_nib b hc.2, ih]
      · intro x hx
        rcases List.mem_cons.1 hx with rfl | hx
        · omega
        · exact ihb x hx
    · rw [if_neg hc] at h; cases h
theorem bytesOf_str (l : List Int) (h : ∀ x ∈ l, 0 ≤ x ∧ x < 256) : bytesOf (strOfNums l) = l := by
  unfold bytesOf
  rw [strOfNums_data, List.map_map]
  conv => rhs; rw [← List.map_id l]
  refine List.map_congr_left fun x hx => ?_
  have := h x hx
  simp only [Function.comp_apply, id_eq]
  rw [UInt8.toNat_ofNat']
  omega
theorem str_bytesOf (s : ByteArray) : strOfNums (bytesOf s) = s := by
  apply Go.WideShapes.bytes_inj
  rw [strOfNums_data]
  unfold bytesOf
  rw [List.map_map]
  conv => rhs; rw [← List.map_id s.data.toList]
  refine List.map_congr_left fun x _ => ?_
  simp
theorem hdI_bd (n : Int) (h0 : 0 ≤ n) (h1 : n < 16) : 48 ≤ hdI n ∧ hdI n < 103 := by unfold hdI; split <;> omega
theorem hexI_bd (l : List Int) (h : ∀ x ∈ l, 0 ≤ x ∧ x < 256) : ∀ x ∈ hexI l, 48 ≤ x ∧ x < 103 := by
  intro x hx
  unfold hexI at hx
  obtain ⟨b, hb, hx⟩ := List.mem_flatMap.1 hx
  have := h b hb
  simp only [List.mem_cons, List.not_mem_nil, or_false] at hx
  rcases hx with rfl | rfl
  · exact hdI_bd _ (by omega) (by omega)
  · exact hdI_bd _ (by omega) (by omega)
theorem bytes_hexB (s : ByteArray) : bytesOf (hexB s) = hexI (bytesOf s) := bytesOf_str _ (fun x hx => by have := hexI_bd _ (byte_bd s) x hx; omega)
theorem hexB_size (s : ByteArray) : (hexB s).size = 2 * s.size := by unfold hexB; rw [strOfNums_size, hexI_length, bytesOf_length]
/-- There and back. -/
theorem unhE_hexB (s : ByteArray) : unhE (hexB s) = (s, 0) := by
  unfold unhE
  rw [bytes_hexB, unhex_hex _ (byte_bd s)]
  show (strOfNums (bytesOf s), (0 : Int)) = _
  rw [str_bytesOf]
theorem hexB_unhE (t : ByteArray) (h : (unhE t).2 = 0) : hexB (unhE t).1 = t := by
  unfold unhE at h ⊢
  cases hu : unhexI (bytesOf t) with
  | none => rw [hu] at h; simp at h
  | some l =>
    obtain ⟨h1, h2⟩ := hex_unhex _ _ hu
    simp only
    unfold hexB
    rw [bytesOf_str l h2, h1, str_bytesOf]
end
section
theorem tdiv16 (x : Int) (h0 : 0 ≤ x) (h1 : x < 256) : (Int.tdiv x 16) % 256 = x / 16 := by
  rw [Int.tdiv_eq_ediv_of_nonneg h0]; omega
theorem tmod16 (x : Int) (h0 : 0 ≤ x) : Int.tmod x 16 = x % 16 := Int.tmod_eq_emod_of_nonneg h0
theorem rhex_loop (s : ByteArray) (hs : s.size ≤ 35184372088832) (d : Nat) : ∀ i : Nat, i + d = s.size → Ev (fun k => tidelineref01_Hex.l0 k s (⟨#[48, 49, 50, 51, 52, 53, 54, 55, 56, 57, 97, 98, 99, 100, 101, 102]⟩ : ByteArray) (hexI ((bytesOf s).take i)) (i : Int)) (hexB s) := by
  induction d with
  | zero =>
    intro i hd
    refine Ev.step (fun k => by rw [tidelineref01_Hex.l0]) ?_
    simp only [if_neg (show ¬ (i : Int) < (s.size : Int) by omega)]
    rw [List.take_of_length_le (by rw [bytesOf_length]; omega)]
    exact Ev.const rfl
  | succ d ih =>
    intro i hd
    refine Ev.step (fun k => by rw [tidelineref01_Hex.l0]) ?_
    have hl : i < (bytesOf s).length := by rw [bytesOf_length]; omega
    rw [bt_nat s i hl]
    have hb := byte_bd s _ (List.getElem_mem hl)
    have hih := ih (i + 1) (by omega)
    rw [take_snoc _ i hl, hexI_append] at hih
    have hlen : (hexI ((bytesOf s).take i)).length ≤ 2 * i := by rw [hexI_length, List.length_take]; omega
    generalize hx : (bytesOf s)[i] = x at hb hih
    have hsz : (((⟨#[48, 49, 50, 51, 52, 53, 54, 55, 56, 57, 97, 98, 99, 100, 101, 102]⟩ : ByteArray).size : Nat) : Int) = 16 := rfl
    rw [tdiv16 x hb.1 hb.2, tmod16 x hb.1, hsz]
    simp only [if_pos (show (i : Int) < (s.size : Int) by omega), if_pos (show (0 : Int) ≤ (i : Int) by omega), if_pos (show 0 ≤ x / 16 by omega), if_pos (show x / 16 < 16 by omega),
      if_pos (show 0 ≤ x % 16 by omega), if_pos (show x % 16 < 16 by omega), tab_hd' (x / 16) (by omega) (by omega), tab_hd' (x % 16) (by omega) (by omega), Option.bind_some, List.length_cons, List.length_nil,
      if_pos (show (hexI ((bytesOf s).take i)).length + (0 + 1 + 1) < 140737488355328 by omega)]
    rw [wrap_succ (by omega)]
    exact hih
theorem rhex_f (s : ByteArray) (hs : s.size ≤ 35184372088832) : Ev (fun k => tidelineref01_Hex.f k s) (hexB s) := by
  refine Ev.congr (fun k => by rw [tidelineref01_Hex.f]) ?_
  exact rhex_loop s hs s.size 0 (by omega)
theorem dig_f (c : Int) (h0 : 0 ≤ c) (h1 : c < 256) : Ev (fun k => tidelineref01_digit.f k c) (nibI c) := by
  have g : ∀ k, tidelineref01_digit.f k c = tidelineref01_digit.j0 k c (decide (48 ≤ c ∧ c ≤ 57)) := by
    intro k
    unfold tidelineref01_digit.f
    by_cases h : c ≥ 48
    · rw [if_pos h]; congr 1; have : 48 ≤ c := h; simp [this]
    · rw [if_neg h]; congr 1; have : ¬ 48 ≤ c := h; simp [this]
  refine Ev.congr g (Ev.step (fun k => by rw [tidelineref01_digit.j0]) ?_)
  unfold nibI
  by_cases h : 48 ≤ c ∧ c ≤ 57
  · simp only [decide_eq_true h, if_true, if_pos h]
    exact Ev.const (by rw [show (c - 48) % 256 = c - 48 by omega])
  · simp only [decide_eq_false h, if_neg (show ¬ (false = true) by decide), if_neg h]
    by_cases h2 : c ≥ 97
    · simp only [if_pos h2]
      by_cases h3 : c ≤ 102
      · simp only [if_pos h3, if_pos (show 97 ≤ c ∧ c ≤ 102 from ⟨h2, h3⟩)]
        exact Ev.const (by rw [show (c - 97) % 256 + 10 = c - 87 by omega])
      · simp only [if_neg h3, if_neg (show ¬ (97 ≤ c ∧ c ≤ 102) by omega)]; exact Ev.const rfl
    · simp only [if_neg h2, if_neg (show ¬ (97 ≤ c ∧ c ≤ 102) by omega)]; exact Ev.const rfl
theorem drop_two {l : List Int} {i : Nat} (h : i + 1 < l.length) : l.drop i = l[i] :: l[i + 1] :: l.drop (i + 2) := by
  rw [List.drop_eq_getElem_cons (show i < l.length by omega), List.drop_eq_getElem_cons h]
theorem runhex_loop (s : ByteArray) (hs : s.size ≤ 70368744177664) (d : Nat) : ∀ (i : Nat) (acc : List Int), i + 2 * d = s.size → acc.length ≤ i →
    Ev (fun k => tidelineref01_Unhex.l0 k s acc (i : Int)) (match unhexI ((bytesOf s).drop i) with | some l => (strOfNums (acc ++ l), 0) | none => (⟨#[]⟩, 23)) := by
  induction d with
  | zero =>
    intro i acc hi ha
    refine Ev.step (fun k => by rw [tidelineref01_Unhex.l0]) ?_
    simp only [if_neg (show ¬ (i : Int) < (s.size : Int) by omega)]
    rw [List.drop_of_length_le (by rw [bytesOf_length]; omega)]
    simp only [unhexI, List.append_nil]
    exact Ev.const rfl
  | succ d ih =>
    intro i acc hi ha
    refine Ev.step (fun k => by rw [tidelineref01_Unhex.l0]) ?_
    have hl : i + 1 < (bytesOf s).length := by rw [bytesOf_length]; omega
    rw [wrap_succ (by omega), bt_nat s i (by omega), bt_nat s (i + 1) hl]
    simp only [if_pos (show (i : Int) < (s.size : Int) by omega), if_pos (show (0 : Int) ≤ (i : Int) by omega), if_pos (show (0 : Int) ≤ ((i + 1 : Nat) : Int) by omega), if_pos (show ((i + 1 : Nat) : Int) < (s.size : Int) by omega), if_pos (show acc.length < 140737488355328 by omega)]
    have hb0 := byte_bd s _ (List.getElem_mem (show i < (bytesOf s).length by omega))
    have hb1 := byte_bd s _ (List.getElem_mem hl)
    have hih := fun v => ih (i + 2) (acc ++ [v]) (by omega) (by simp; omega)
    rw [drop_two hl]
    generalize (bytesOf s)[i] = a at *
    generalize (bytesOf s)[i + 1] = b at *
    refine Ev.bind (dig_f a hb0.1 hb0.2) (Ev.bind (dig_f b hb1.1 hb1.2) ?_)
    have na := nibI_bd a
    have nb := nibI_bd b
    by_cases ha' : 0 ≤ nibI a
    · by_cases hb' : 0 ≤ nibI b
      · simp only [if_neg (show ¬ nibI a < 0 by omega), if_neg (show ¬ nibI b < 0 by omega), unhexI, if_pos (show 0 ≤ nibI a ∧ 0 ≤ nibI b from ⟨ha', hb'⟩)]
        rw [wrap_id (x := 16 * nibI a) (by omega) (by omega), wrap_id (x := 16 * nibI a + nibI b) (by omega) (by omega), show (16 * nibI a + nibI b) % 256 = 16 * nibI a + nibI b by omega, show wrap64 ((i : Int) + 2) = ((i + 2 : Nat) : Int) by rw [wrap_id (by omega) (by omega)]; rfl]
        refine Ev.val (hih _) ?_
        cases unhexI ((bytesOf s).drop (i + 2)) <;> simp
      · simp only [if_neg (show ¬ nibI a < 0 by omega), if_pos (show nibI b < 0 by omega), unhexI, if_neg (show ¬ (0 ≤ nibI a ∧ 0 ≤ nibI b) from fun h => hb' h.2)]
        exact Ev.const rfl
    · simp only [if_pos (show nibI a < 0 by omega), unhexI, if_neg (show ¬ (0 ≤ nibI a ∧ 0 ≤ nibI b) from fun h => ha' h.1)]
      exact Ev.const rfl
theorem runhex_f (s : ByteArray) (hs : s.size ≤ 70368744177664) : Ev (fun k => tidelineref01_Unhex.f k s) (unhE s) := by
  refine Ev.congr (fun k => by rw [tidelineref01_Unhex.f]) ?_
  unfold unhE
  by_cases h : (s.size : Int) % 2 = 1
  · simp only [if_pos h]
    rw [unhexI_odd _ (s.size / 2) (by rw [bytesOf_length]; omega)]
    exact Ev.const rfl
  · simp only [if_neg h]
    have := runhex_loop s hs (s.size / 2) 0 [] (by omega) (by simp)
    rw [List.drop_zero] at this
    exact this
end
section
/-! Cut at a byte: the library's, and the document's. -/
theorem ib (s : ByteArray) (c : UInt8) : Lib.indexB s ⟨#[c]⟩ = Lib.indexByte s.data.toList c := Lib.index_one _ _
theorem ib_cases (s : ByteArray) (c : UInt8) : Lib.indexB s ⟨#[c]⟩ = -1 ∨ ∃ i : Nat, Lib.indexB s ⟨#[c]⟩ = i := by
  rcases Lib.indexB_cases s ⟨#[c]⟩ with h | ⟨i, h, _⟩
  · exact .inl h
  · exact .inr ⟨i, h⟩
theorem ib_hit {s : ByteArray} {c : UInt8} {i : Nat} (h : Lib.indexB s ⟨#[c]⟩ = i) : i < s.size ∧ s.data.toList[i]? = some c ∧ ∀ k, k < i → s.data.toList[k]? ≠ some c := by
  rw [ib] at h
  obtain ⟨h1, h2⟩ := Lib.indexByte_some h
  exact ⟨Nat.lt_of_lt_of_eq (List.getElem?_eq_some_iff.1 h1).1 (Lib.size_eq s).symm, h1, h2⟩
theorem ib_miss {s : ByteArray} {c : UInt8} (h : Lib.indexB s ⟨#[c]⟩ = -1) : ∀ k : Nat, s.data.toList[k]? ≠ some c := by
  rw [ib] at h
  exact Lib.indexByte_none h
theorem ib_none {s : ByteArray} {c : UInt8} (h : ∀ k : Nat, s.data.toList[k]? ≠ some c) : Lib.indexB s ⟨#[c]⟩ = -1 := by
  rcases ib_cases s c with h1 | ⟨i, h1⟩
  · exact h1
  · exact absurd (ib_hit h1).2.1 (h i)
theorem ib_of {s : ByteArray} {c : UInt8} {i : Nat} (h1 : s.data.toList[i]? = some c) (h2 : ∀ k, k < i → s.data.toList[k]? ≠ some c) : Lib.indexB s ⟨#[c]⟩ = i := by
  rcases ib_cases s c with h | ⟨j, h⟩
  · exact absurd h1 (ib_miss h i)
  · obtain ⟨_, h3, h4⟩ := ib_hit h
    rcases Nat.lt_trichotomy i j with g | g | g
    · exact absurd h1 (h4 i g)
    · rw [h, g]
    · exact absurd h3 (h2 j g)
/-- The document's cut. -/
def cutE (s : ByteArray) (c : UInt8) : ByteArray × ByteArray × Bool := if Lib.indexB s ⟨#[c]⟩ = -1 then (⟨#[]⟩, ⟨#[]⟩, false) else (s.extract 0 (Lib.indexB s ⟨#[c]⟩).toNat, s.extract ((Lib.indexB s ⟨#[c]⟩).toNat + 1) s.size, true)
theorem bt_list (s : ByteArray) (i : Nat) (h : i < s.size) : ∃ b, s.data.toList[i]? = some b ∧ bt s (i : Int) = (b.toNat : Int) := by
  refine ⟨s[i], ?_, ?_⟩
  · rw [List.getElem?_eq_getElem (by rw [← Lib.size_eq]; exact h)]; rfl
  · unfold bt
    rw [dif_pos (by rw [Int.toNat_natCast]; exact h)]
    simp only [Int.toNat_natCast]
theorem cut_loop (s : ByteArray) (hs : s.size ≤ 4294967296) (c : UInt8) (d : Nat) : ∀ i : Nat, i + d = s.size → (∀ k, k < i → s.data.toList[k]? ≠ some c) → Ev (fun k => tidelineref03_cut.l0 k s (c.toNat : Int) (i : Int)) (cutE s c) := by
  induction d with
  | zero =>
    intro i hd hk
    refine Ev.step (fun k => by rw [tidelineref03_cut.l0]) ?_
    simp only [if_neg (show ¬ (i : Int) < (s.size : Int) by omega)]
    refine Ev.const ?_
    unfold cutE
    rw [if_pos (ib_none (fun k h => by
      by_cases hki : k < i
      · exact hk k hki h
      · have := (List.getElem?_eq_some_iff.1 h).1
        rw [← Lib.size_eq] at this
        omega))]
  | succ d ih =>
    intro i hd hk
    obtain ⟨b, hb, hbt⟩ := bt_list s i (by omega)
    refine Ev.step (fun k => by rw [tidelineref03_cut.l0]) ?_
    simp only [if_pos (show (i : Int) < (s.size : Int) by omega), if_pos (show (0 : Int) ≤ (i : Int) by omega), hbt]
    by_cases hbc : b = c
    · subst hbc
      have hi := ib_of hb hk
      have ew : wrap64 ((i : Int) + 1) = ((i + 1 : Nat) : Int) := wrap_succ (by omega)
      simp only [if_true, ew, if_pos (show (i : Int) ≤ (s.size : Int) by omega), if_pos (show (0 : Int) ≤ ((i + 1 : Nat) : Int) by omega), if_pos (show ((i + 1 : Nat) : Int) ≤ (s.size : Int) by omega), Int.toNat_natCast]
      refine Ev.const ?_
      unfold cutE
      rw [hi, if_neg (by omega), Int.toNat_natCast]
    · have hne : ¬ (b.toNat : Int) = (c.toNat : Int) := fun h => hbc (UInt8.toNat_inj.1 (by omega))
      simp only [if_neg hne]
      rw [wrap_succ (by omega)]
      exact ih (i + 1) (by omega) (fun k hk' h => by
        by_cases hki : k < i
        · exact hk k hki h
        · obtain rfl : k = i := by omega
          rw [hb] at h
          exact hbc (Option.some.inj h))
theorem cut_f (s : ByteArray) (hs : s.size ≤ 4294967296) (c : UInt8) : Ev (fun k => tidelineref03_cut.f k s (c.toNat : Int)) (cutE s c) :=
  Ev.congr (fun k => by rw [tidelineref03_cut.f]; rfl) (cut_loop s hs c s.size 0 (by omega) (fun k h => absurd h (Nat.not_lt_zero _)))
end
section
theorem split_length (n : Nat) (s : ByteArray) : 1 ≤ (Lib.splitB ⟨#[32]⟩ 0 n s).length := by
  cases n with
  | zero => simp [Lib.splitB]
  | succ n => unfold Lib.splitB; split <;> simp
/-- Three pieces: two blanks, and no third one. -/
theorem pcs_three {s r1 r2 : ByteArray} {i j : Nat} (h1 : Lib.indexB s ⟨#[32]⟩ = i) (e1 : r1 = s.extract (i + 1) s.size) (h2 : Lib.indexB r1 ⟨#[32]⟩ = j) (e2 : r2 = r1.extract (j + 1) r1.size) (h3 : Lib.indexB r2 ⟨#[32]⟩ = -1) :
    pcs s = [s.extract 0 i, r1.extract 0 j, r2] := by
  have hi := (ib_hit h1).1
  have hj := (ib_hit h2).1
  have hz : r1.size = s.size - (i + 1) := by rw [e1, ByteArray.size_extract]; omega
  obtain ⟨n, hn⟩ : ∃ n, min 4 (s.size + 1) - 1 = n + 2 := ⟨min 4 (s.size + 1) - 3, by omega⟩
  unfold pcs
  rw [hn, Lib.splitB_hit _ _ _ _ i h1]
  show s.extract 0 (i + 0) :: Lib.splitB ⟨#[32]⟩ 0 (n + 1) (s.extract (i + 1) s.size) = _
  rw [← e1, Lib.splitB_hit _ _ _ _ j h2]
  show s.extract 0 (i + 0) :: r1.extract 0 (j + 0) :: Lib.splitB ⟨#[32]⟩ 0 n (r1.extract (j + 1) r1.size) = _
  rw [← e2, Lib.splitB_miss _ _ _ _ h3]
  rfl
theorem pcs_zero {s : ByteArray} (h1 : Lib.indexB s ⟨#[32]⟩ = -1) : ¬ (pcs s).length = 3 := by
  unfold pcs
  rw [Lib.splitB_miss _ _ _ _ h1]
  simp
theorem pcs_one {s r1 : ByteArray} {i : Nat} (h1 : Lib.indexB s ⟨#[32]⟩ = i) (e1 : r1 = s.extract (i + 1) s.size) (h2 : Lib.indexB r1 ⟨#[32]⟩ = -1) : ¬ (pcs s).length = 3 := by
  have hi := (ib_hit h1).1
  obtain ⟨n, hn⟩ : ∃ n, min 4 (s.size + 1) - 1 = n + 1 := ⟨min 4 (s.size + 1) - 2, by omega⟩
  unfold pcs
  rw [hn, Lib.splitB_hit _ _ _ _ i h1]
  show ¬ (s.extract 0 (i + 0) :: Lib.splitB ⟨#[32]⟩ 0 n (s.extract (i + 1) s.size)).length = 3
  rw [← e1, Lib.splitB_miss _ _ _ _ h2]
  simp
theorem pcs_four {s r1 r2 : ByteArray} {i j m : Nat} (h1 : Lib.indexB s ⟨#[32]⟩ = i) (e1 : r1 = s.extract (i + 1) s.size) (h2 : Lib.indexB r1 ⟨#[32]⟩ = j) (e2 : r2 = r1.extract (j + 1) r1.size) (h3 : Lib.indexB r2 ⟨#[32]⟩ = m) :
    ¬ (pcs s).length = 3 := by
  have hi := (ib_hit h1).1
  have hj := (ib_hit h2).1
  have hm := (ib_hit h3).1
  have hz : r1.size = s.size - (i + 1) := by rw [e1, ByteArray.size_extract]; omega
  have hz2 : r2.size = r1.size - (j + 1) := by rw [e2, ByteArray.size_extract]; omega
  have hn : min 4 (s.size + 1) - 1 = 3 := by omega
  unfold pcs
  rw [hn, Lib.splitB_hit _ _ 2 _ i h1]
  show ¬ (s.extract 0 (i + 0) :: Lib.splitB ⟨#[32]⟩ 0 2 (s.extract (i + 1) s.size)).length = 3
  rw [← e1, Lib.splitB_hit _ _ 1 _ j h2]
  show ¬ (s.extract 0 (i + 0) :: r1.extract 0 (j + 0) :: Lib.splitB ⟨#[32]⟩ 0 1 (r1.extract (j + 1) r1.size)).length = 3
  rw [← e2, Lib.splitB_hit _ _ 0 _ m h3]
  simp [Lib.splitB]
end
section
open Go.Proofs.YthnjlbdkcpgcjaaDoor.Dig
/-! What item.Parse reads. -/
/-- The text behind a letter. -/
def afterE (t : ByteArray) (c : UInt8) : Option ByteArray := if Lib.hasPrefix t.data.toList [c] = true then (if (unhE (t.extract 1 t.size)).2 = 0 then some (unhE (t.extract 1 t.size)).1 else none) else none
def numI (t : ByteArray) : Int × Bool := if (numP t.data.toList 9223372036854775807).2 = 12 then (9223372036854775807, true) else ((numP t.data.toList 9223372036854775807).1, (numP t.data.toList 9223372036854775807).2 != 23)
def numE (t : ByteArray) : Option Int := if (numI t).2 = true then some (numI t).1 else none
def wordsE (s : ByteArray) : Option (ByteArray × ByteArray × ByteArray) := if (cutE s 32).2.2 = true then if (cutE (cutE s 32).2.1 32).2.2 = true then some ((cutE s 32).1, (cutE (cutE s 32).2.1 32).1, (cutE (cutE s 32).2.1 32).2.1) else none else none
def valueE (t : ByteArray) : Option (ByteArray × Bool) := if t.toList = [120] then some (⟨#[]⟩, true) else (afterE t 61).map fun v => (v, false)
def readE (s : ByteArray) : Option (ByteArray × Int × Int × ByteArray × Bool) :=
  (wordsE s).bind fun p => if (cutE p.2.1 46).2.2 = true then (afterE p.1 107).bind fun key => (valueE p.2.2).bind fun v => (numE (cutE p.2.1 46).1).bind fun c => (numE (cutE p.2.1 46).2.1).bind fun n => some (key, c, n, v.1, v.2) else none
theorem drop_one (t : ByteArray) : (⟨(t.data.toList.drop 1).toArray⟩ : ByteArray) = t.extract 1 t.size := by
  rw [← Lib.extract_to_end]
theorem after_f (t : ByteArray) (c : UInt8) (ht : t.size ≤ 4294967296) : ∃ a, Ev (fun k => item_after.f k t ⟨#[c]⟩) a ∧ ((afterE t c = none ∧ a.2 = false) ∨ (afterE t c = some a.1 ∧ a.2 = true)) := by
  have e0 : ∀ k, item_after.f k t ⟨#[c]⟩ = if Lib.hasPrefix t.data.toList [c] = true then (nums_Unhex.f k (t.extract 1 t.size)).bind fun b => some (b.1, b.2 == 0) else some (⟨#[]⟩, false) := by
    intro k
    unfold item_after.f strings_CutPrefix.f
    rw [Option.bind_some]
    have e : (⟨#[c]⟩ : ByteArray).data.toList = [c] := rfl
    rw [e]
    by_cases h : Lib.hasPrefix t.data.toList [c] = true
    · have e1 : Lib.trimPrefix t.data.toList [c] = t.data.toList.drop 1 := by unfold Lib.trimPrefix; rw [if_pos h]; rfl
      simp only [h, if_true, e1, drop_one]
    · simp only [if_neg h]
  unfold afterE
  by_cases h : Lib.hasPrefix t.data.toList [c] = true
  · simp only [if_pos h] at e0 ⊢
    have hz : (t.extract 1 t.size).size ≤ t.size := by rw [ByteArray.size_extract]; omega
    refine ⟨((unhE (t.extract 1 t.size)).1, (unhE (t.extract 1 t.size)).2 == 0), Ev.congr e0 (Ev.bind (unhex_f _ (by omega)) (Ev.const rfl)), ?_⟩
    by_cases h2 : (unhE (t.extract 1 t.size)).2 = 0
    · exact .inr ⟨by rw [if_pos h2], by simp [h2]⟩
    · exact .inl ⟨by rw [if_neg h2], by simp [h2]⟩
  · simp only [if_neg h] at e0 ⊢
    exact ⟨(⟨#[]⟩, false), Ev.congr e0 (Ev.const rfl), .inl (by simp)⟩
theorem number_f (t : ByteArray) (ht : t.size ≤ 4294967296) : item_number.f t = some (numI t) := by
  unfold item_number.f nums_Parse.f numI
  rw [if_pos ht, Option.bind_some]
  by_cases h : (numP t.data.toList 9223372036854775807).2 = 12
  · rw [if_pos h, if_pos h, h]; rfl
  · rw [if_neg h, if_neg h]
theorem cut_hitE {s : ByteArray} {c : UInt8} {i : Nat} (h : Lib.indexB s ⟨#[c]⟩ = i) : cutE s c = (s.extract 0 i, s.extract (i + 1) s.size, true) := by
  unfold cutE
  rw [h, if_neg (by omega), Int.toNat_natCast]
theorem cut_missE {s : ByteArray} {c : UInt8} (h : Lib.indexB s ⟨#[c]⟩ = -1) : cutE s c = (⟨#[]⟩, ⟨#[]⟩, false) := by
  unfold cutE
  rw [if_pos h]
/-- The library's Cut, where the document's finds the letter. -/
theorem lcut_hit {s : ByteArray} {c : UInt8} {i : Nat} (hs : s.size < 4294967281) (h : Lib.indexB s ⟨#[c]⟩ = i) : strings_Cut.f s ⟨#[c]⟩ = some (s.extract 0 i, s.extract (i + 1) s.size, true) := by
  unfold strings_Cut.f
  obtain ⟨h1, h2, h3⟩ := Lib.cutB_hit s ⟨#[c]⟩ i h
  rw [if_pos hs, h1, h2, h3]
  rfl
theorem lcut_miss {s : ByteArray} {c : UInt8} (hs : s.size < 4294967281) (h : Lib.indexB s ⟨#[c]⟩ = -1) : ∃ x y, strings_Cut.f s ⟨#[c]⟩ = some (x, y, false) := by
  unfold strings_Cut.f
  obtain ⟨h1, h2, h3⟩ := Lib.cutB_miss s ⟨#[c]⟩ h
  rw [if_pos hs, h3]
  exact ⟨_, _, rfl⟩
theorem ext_le (s : ByteArray) (a b : Nat) : (s.extract a b).size ≤ s.size := by rw [ByteArray.size_extract]; omega
/-- A value with a blank in it is none. -/
theorem unhexI_all : ∀ (l r : List Int), unhexI l = some r → ∀ x ∈ l, 0 ≤ nibI x
  | [], _, _, x, hx => by cases hx
  | [a], _, h, _, _ => by simp [unhexI] at h
  | a :: b :: l, r, h, x, hx => by
    simp only [unhexI] at h
    by_cases hc : 0 ≤ nibI a ∧ 0 ≤ nibI b
    · rw [if_pos hc] at h
      obtain ⟨r', hr, _⟩ := Option.map_eq_some_iff.1 h
      rcases List.mem_cons.1 hx with rfl | hx
      · exact hc.1
      · rcases List.mem_cons.1 hx with rfl | hx
        · exact hc.2
        · exact unhexI_all l r' hr x hx
    · rw [if_neg hc] at h; cases h
theorem unhE_none {t : ByteArray} {k : Nat} (h : t.data.toList[k]? = some 32) : (unhE t).2 ≠ 0 := by
  unfold unhE
  cases hu : unhexI (bytesOf t) with
  | none => simp
  | some r =>
    have hm : (32 : Int) ∈ bytesOf t := by
      unfold bytesOf
      exact List.mem_map.2 ⟨32, List.mem_of_getElem? h, rfl⟩
    have := unhexI_all _ _ hu 32 hm
    exact absurd this (by decide)
theorem value_blank {t : ByteArray} {m : Nat} (h : Lib.indexB t ⟨#[32]⟩ = m) : valueE t = none := by
  obtain ⟨h1, h2, h3⟩ := ib_hit h
  unfold valueE
  have hx : ¬ t.toList = [120] := by
    rw [Go.ByteArray.toList_eq]
    intro e
    rw [e] at h2
    match m, h2 with
    | 0, h2 => simp at h2
    | m + 1, h2 => simp at h2
  rw [if_neg hx]
  unfold afterE
  by_cases hp : Lib.hasPrefix t.data.toList [61] = true
  · rw [if_pos hp]
    cases m with
    | zero =>
      exfalso
      unfold Lib.hasPrefix at hp
      cases ht : t.data.toList with
      | nil => rw [ht] at h2; simp at h2
      | cons a l =>
        rw [ht] at h2 hp
        simp at h2
        subst h2
        simp [List.isPrefixOf] at hp
    | succ m =>
      have h4 : (t.extract 1 t.size).data.toList[m]? = some 32 := by
        rw [Lib.extract_to_end, List.getElem?_drop, Nat.add_comm]; exact h2
      rw [if_neg (unhE_none h4)]
      rfl
  · rw [if_neg hp]; rfl
theorem words_none {s : ByteArray} (h : wordsE s = none) : readE s = none := by unfold readE; rw [h]; rfl
theorem tail_f (key value : ByteArray) (dead : Bool) (c n : ByteArray) (hc : c.size ≤ 4294967296) (hn : n.size ≤ 4294967296) : ∃ r, item_read.tail key value dead c n = some r ∧
    (((numE c).bind (fun x => (numE n).bind fun y => some (key, x, y, value, dead)) = none ∧ r.2.2.2.2.2 = false) ∨ ∃ e, (numE c).bind (fun x => (numE n).bind fun y => some (key, x, y, value, dead)) = some e ∧ r = (e.1, e.2.1, e.2.2.1, e.2.2.2.1, e.2.2.2.2, true)) := by
  unfold item_read.tail numE
  rw [number_f c hc, Option.bind_some, number_f n hn]
  cases h1 : (numI c).2 with
  | false => exact ⟨_, by rw [if_neg (by decide)], .inl ⟨by rw [if_neg (by decide)]; rfl, rfl⟩⟩
  | true =>
    simp only [if_true, Option.bind_some]
    cases h2 : (numI n).2 with
    | false => exact ⟨_, rfl, .inl ⟨by rw [if_neg (by decide)]; rfl, rfl⟩⟩
    | true => exact ⟨_, rfl, .inr ⟨(key, (numI c).1, (numI n).1, value, dead), by rw [if_pos rfl, Option.bind_some], rfl⟩⟩
/-- What item.read answers. -/
theorem read_f (s : ByteArray) (hs : s.size ≤ 1073741824) : ∃ r, Ev (fun k => item_read.f k s) r ∧ ((readE s = none ∧ r.2.2.2.2.2 = false) ∨ ∃ e, readE s = some e ∧ r = (e.1, e.2.1, e.2.2.1, e.2.2.2.1, e.2.2.2.2, true)) := by
  have hs' : s.size < 4294967281 := by omega
  have no : ¬ (pcs s).length = 3 → readE s = none → ∃ r, Ev (fun k => item_read.f k s) r ∧ ((readE s = none ∧ r.2.2.2.2.2 = false) ∨ ∃ e, readE s = some e ∧ r = (e.1, e.2.1, e.2.2.1, e.2.2.2.1, e.2.2.2.2, true)) := fun h3 hr =>
    ⟨_, Ev.congr (fun k => by unfold item_read.f; rw [if_pos hs', if_neg h3]) (Ev.const rfl), .inl ⟨hr, rfl⟩⟩
  rcases ib_cases s 32 with h1 | ⟨i, h1⟩
  · exact no (pcs_zero h1) (words_none (by unfold wordsE; rw [cut_missE h1]; rfl))
  obtain ⟨r1, e1⟩ : ∃ r1, r1 = s.extract (i + 1) s.size := ⟨_, rfl⟩
  have z1 : r1.size ≤ s.size := by rw [e1]; exact ext_le _ _ _
  rcases ib_cases r1 32 with h2 | ⟨j, h2⟩
  · exact no (pcs_one h1 e1 h2) (words_none (by unfold wordsE; rw [cut_hitE h1]; simp only [← e1]; rw [cut_missE h2]; rfl))
  obtain ⟨r2, e2⟩ : ∃ r2, r2 = r1.extract (j + 1) r1.size := ⟨_, rfl⟩
  have z2 : r2.size ≤ s.size := by rw [e2]; exact Nat.le_trans (ext_le _ _ _) z1
  have hw : wordsE s = some (s.extract 0 i, r1.extract 0 j, r2) := by unfold wordsE; rw [cut_hitE h1]; simp only [← e1]; rw [cut_hitE h2]; simp only [← e2]; rfl
  rcases ib_cases r2 32 with h3 | ⟨m, h3⟩
  · have hp := pcs_three h1 e1 h2 e2 h3
    have y0 := ext_le s 0 i
    have y1 := Nat.le_trans (ext_le r1 0 j) z1
    generalize s.extract 0 i = w0 at hp hw y0
    generalize r1.extract 0 j = w1 at hp hw y1
    have hf : ∀ k, item_read.f k s = (strings_Cut.f w1 ⟨#[46]⟩).bind fun c => (item_after.f k w0 ⟨#[107]⟩).bind fun a =>
        if a.2 = true then if c.2.2 = true then
          if r2.toList = [120] then item_read.tail a.1 ⟨#[]⟩ true c.1 c.2.1
          else (item_after.f k r2 ⟨#[61]⟩).bind fun v => if v.2 = true then item_read.tail a.1 v.1 false c.1 c.2.1 else some (a.1, 0, 0, v.1, false, false)
        else some (a.1, 0, 0, ⟨#[]⟩, false, false) else some (a.1, 0, 0, ⟨#[]⟩, false, false) := by
      intro k
      unfold item_read.f
      rw [if_pos hs', hp]
      rfl
    obtain ⟨a, ha, hac⟩ := after_f w0 107 (by omega)
    rcases ib_cases w1 46 with h4 | ⟨n, h4⟩
    · obtain ⟨x, y, hxy⟩ := lcut_miss (by omega) h4
      have hr : readE s = none := by unfold readE; rw [hw, Option.bind_some]; simp only [cut_missE h4]; rfl
      refine ⟨(a.1, 0, 0, ⟨#[]⟩, false, false), Ev.congr hf ?_, .inl ⟨hr, rfl⟩⟩
      simp only [hxy, Option.bind_some]
      refine Ev.bind ha ?_
      simp only [if_neg (show ¬ (false = true) by decide), ite_self]
      exact Ev.const rfl
    · have hx := lcut_hit (s := w1) (by omega) h4
      have hc := cut_hitE h4
      have y2 := Nat.le_trans (ext_le w1 0 n) y1
      have y3 := Nat.le_trans (ext_le w1 (n + 1) w1.size) y1
      have hrd : readE s = (afterE w0 107).bind fun key => (valueE r2).bind fun v => (numE (w1.extract 0 n)).bind fun c => (numE (w1.extract (n + 1) w1.size)).bind fun n => some (key, c, n, v.1, v.2) := by
        unfold readE; rw [hw, Option.bind_some]; simp only [hc, if_true]
      generalize w1.extract 0 n = c1 at hx y2 hrd
      generalize w1.extract (n + 1) w1.size = c2 at hx y3 hrd
      simp only [hx, Option.bind_some, if_true] at hf
      rw [hrd]
      rcases hac with ⟨q1, q2⟩ | ⟨q1, q2⟩
      · refine ⟨(a.1, 0, 0, ⟨#[]⟩, false, false), Ev.congr hf (Ev.bind ha ?_), .inl ⟨by rw [q1]; rfl, rfl⟩⟩
        simp only [q2, if_neg (show ¬ (false = true) by decide)]
        exact Ev.const rfl
      · rw [q1, Option.bind_some]
        by_cases hd : r2.toList = [120]
        · have hv : valueE r2 = some (⟨#[]⟩, true) := by unfold valueE; rw [if_pos hd]
          obtain ⟨r, hr, hrc⟩ := tail_f a.1 ⟨#[]⟩ true c1 c2 (by omega) (by omega)
          rw [hv, Option.bind_some]
          refine ⟨r, Ev.congr hf (Ev.bind ha ?_), hrc⟩
          simp only [q2, if_true, if_pos hd]
          exact Ev.const hr
        · obtain ⟨v, hv, hvc⟩ := after_f r2 61 (by omega)
          have hve : valueE r2 = (afterE r2 61).map fun v => (v, false) := by unfold valueE; rw [if_neg hd]
          rw [hve]
          rcases hvc with ⟨p1, p2⟩ | ⟨p1, p2⟩
          · refine ⟨(a.1, 0, 0, v.1, false, false), Ev.congr hf (Ev.bind ha ?_), .inl ⟨by rw [p1]; rfl, rfl⟩⟩
            simp only [q2, if_true, if_neg hd]
            refine Ev.bind hv ?_
            simp only [p2, if_neg (show ¬ (false = true) by decide)]
            exact Ev.const rfl
          · obtain ⟨r, hr, hrc⟩ := tail_f a.1 v.1 false c1 c2 (by omega) (by omega)
            rw [p1, Option.map_some, Option.bind_some]
            refine ⟨r, Ev.congr hf (Ev.bind ha ?_), hrc⟩
            simp only [q2, if_true, if_neg hd]
            refine Ev.bind hv ?_
            simp only [p2, if_true]
            exact Ev.const hr
  · refine no (pcs_four h1 e1 h2 e2 h3) ?_
    unfold readE
    rw [hw, Option.bind_some]
    split
    · cases afterE (s.extract 0 i) 107 with
      | none => rfl
      | some key => rw [Option.bind_some, value_blank h3]; rfl
    · rfl
end
section
open Go.Proofs.YthnjlbdkcpgcjaaDoor.Dig
/-! What item.Parse answers, and the document's. -/
def chkvT (a b : Int) : Int := if 1 ≤ a ∧ a ≤ 1099511627776 ∧ 0 ≤ b ∧ b < 8 then 0 else 30
theorem chkvT_f (a b : Int) : item_CheckVersion.f a b = some (chkvT a b) := by
  unfold item_CheckVersion.f chkvT
  by_cases h1 : 1 ≤ a
  · rw [if_pos h1]
    by_cases h2 : a ≤ 1099511627776
    · rw [if_pos h2]
      by_cases h3 : 0 ≤ b
      · rw [if_pos h3]
        by_cases h4 : b < 8
        · rw [if_pos h4, if_pos ⟨h1, h2, h3, h4⟩]
        · rw [if_neg h4, if_neg (by omega)]
      · rw [if_neg h3, if_neg (by omega)]
    · rw [if_neg h2, if_neg (by omega)]
  · rw [if_neg h1, if_neg (by omega)]
theorem chkvT_ref (a b : Int) : tidelineref03_CheckVersion.f a b = some (chkvT a b) := by
  unfold tidelineref03_CheckVersion.f chkvT
  by_cases h1 : a < 1
  · rw [if_pos h1, if_neg (by omega)]
  rw [if_neg h1]
  by_cases h2 : a > 1099511627776
  · rw [if_pos h2, if_neg (by omega)]
  rw [if_neg h2]
  by_cases h3 : b < 0
  · rw [if_pos h3, if_neg (by omega)]
  rw [if_neg h3]
  by_cases h4 : b ≥ 8
  · rw [if_pos h4, if_neg (by omega)]
  · rw [if_neg h4, if_pos (by omega)]
/-- A check's answer. -/
def chkE (e : ByteArray × Int × Int × ByteArray × Bool) : Int := if 16 < e.1.size then 20 else if chkvT e.2.1 e.2.2.1 = 0 then if 32 < e.2.2.2.1.size then 31 else if e.2.2.2.2 = true then if e.2.2.2.1.toList = [] then 0 else 32 else 0 else 30
theorem chk_f (a : ByteArray) (b c : Int) (d : ByteArray) (x : Bool) : item_Check.f a b c d x = some (chkE (a, b, c, d, x)) := by
  unfold item_Check.f chkE
  rw [chkvT_f, Option.bind_some]
  by_cases h1 : 16 < a.size
  · rw [if_pos (by omega), if_pos h1]
  rw [if_neg (by omega), if_neg h1]
  by_cases h2 : chkvT b c = 0
  · rw [if_pos h2, if_pos h2]
    by_cases h3 : 32 < d.size
    · rw [if_pos (by omega), if_pos h3]
    rw [if_neg (by omega), if_neg h3]
    by_cases h4 : x = true
    · rw [if_pos h4, if_pos h4]
      by_cases h5 : d.toList = []
      · rw [if_pos h5, if_pos h5]
      · rw [if_neg h5, if_neg h5]
    · rw [if_neg h4, if_neg h4]
  · rw [if_neg h2, if_neg h2]
theorem chk_ref (a : ByteArray) (b c : Int) (d : ByteArray) (x : Bool) : tidelineref03_Check.f a b c d x = some (chkE (a, b, c, d, x)) := by
  rw [← chk_f]
  unfold tidelineref03_Check.f item_Check.f
  rw [chkvT_f, chkvT_ref]
/-- What a good entry is. -/
theorem chk_zero {a : ByteArray} {b c : Int} {d : ByteArray} {x : Bool} (h : chkE (a, b, c, d, x) = 0) : a.size ≤ 16 ∧ 1 ≤ b ∧ b ≤ 1099511627776 ∧ 0 ≤ c ∧ c < 8 ∧ d.size ≤ 32 ∧ (x = true → d = ⟨#[]⟩) := by
  unfold chkE chkvT at h
  by_cases h1 : 16 < a.size
  · rw [if_pos h1] at h; exact absurd h (by decide)
  rw [if_neg h1] at h
  by_cases h2 : 1 ≤ b ∧ b ≤ 1099511627776 ∧ 0 ≤ c ∧ c < 8
  · simp only [if_pos h2, if_true] at h
    by_cases h3 : 32 < d.size
    · rw [if_pos h3] at h; exact absurd h (by decide)
    rw [if_neg h3] at h
    refine ⟨by omega, h2.1, h2.2.1, h2.2.2.1, h2.2.2.2, by omega, fun hx => ?_⟩
    rw [if_pos hx] at h
    by_cases h5 : d.toList = []
    · rw [toList_nil] at h5
      exact ByteArray.ext (Array.eq_empty_of_size_eq_zero h5)
    · rw [if_neg h5] at h; exact absurd h (by decide)
  · rw [if_neg h2, if_neg (by decide)] at h
    exact absurd h (by decide)
theorem Ev.yes {α : Type} {P : Prop} [Decidable P] {f g : Nat → Option α} {r : α} (h : P) (H : Ev f r) : Ev (fun k => if P then f k else g k) r := Ev.congr (fun k => if_pos h) H
theorem Ev.no {α : Type} {P : Prop} [Decidable P] {f g : Nat → Option α} {r : α} (h : ¬ P) (H : Ev g r) : Ev (fun k => if P then f k else g k) r := Ev.congr (fun k => if_neg h) H
def noE (c : Int) : ByteArray × Int × Int × ByteArray × Bool × Int := (⟨#[]⟩, 0, 0, ⟨#[]⟩, false, c)
def ansE : Option (ByteArray × Int × Int × ByteArray × Bool) → ByteArray × Int × Int × ByteArray × Bool × Int
  | none => noE 23
  | some e => if chkE e = 0 then (e.1, e.2.1, e.2.2.1, e.2.2.2.1, e.2.2.2.2, 0) else noE (chkE e)
def parE (s : ByteArray) : ByteArray × Int × Int × ByteArray × Bool × Int := ansE (readE s)
theorem parse_f (s : ByteArray) (hs : s.size ≤ 1073741824) : Ev (fun k => item_Parse.f k s) (parE s) := by
  obtain ⟨r, hr, hc⟩ := read_f s hs
  refine Ev.congr (fun k => by rw [item_Parse.f]) (Ev.bind hr ?_)
  unfold parE
  rcases hc with ⟨h1, h2⟩ | ⟨e, h1, h2⟩
  · rw [h1]
    simp only [h2, if_neg (show ¬ (false = true) by decide), if_neg (show ¬ ((23 : Int) = 0) by decide)]
    exact Ev.const rfl
  · rw [h1, h2]
    simp only [if_true, chk_f, Option.bind_some]
    unfold ansE
    by_cases h : chkE e = 0
    · simp only [h, if_true]; exact Ev.const rfl
    · simp only [h, if_false]; exact Ev.const rfl
theorem rnumber_f (t : ByteArray) (ht : t.size ≤ 4294967296) : Ev (fun k => tidelineref03_number.f k t) (numI t) := by
  refine Ev.congr (fun k => by rw [tidelineref03_number.f]) (Ev.bind (ref_f t ht 9223372036854775807) ?_)
  unfold numI
  rcases numP_codes t.data.toList 9223372036854775807 with h | h | ⟨h, h'⟩
  · simp only [h, if_neg (show ¬ ((0 : Int) = 12) by decide)]; exact Ev.const rfl
  · simp only [h, if_true]; exact Ev.const rfl
  · simp only [h, if_neg (show ¬ ((23 : Int) = 12) by decide)]; exact Ev.const rfl
theorem rj3_f (x y : Int) (key v : ByteArray) (a b : Int) (dead : Bool) : Ev (fun k => tidelineref03_Parse.j3 k x y false key a b v dead) (ansE (some (key, x, y, v, dead))) := by
  refine Ev.step (fun k => by rw [tidelineref03_Parse.j3]) ?_
  rw [if_neg (by decide), chk_ref, Option.bind_some]
  unfold ansE
  by_cases h : chkE (key, x, y, v, dead) = 0
  · simp only [h, if_true]; exact Ev.const rfl
  · simp only [h, if_false]; exact Ev.const rfl
theorem rj3_no (x y : Int) (key v : ByteArray) (a b : Int) (dead : Bool) : Ev (fun k => tidelineref03_Parse.j3 k x y true key a b v dead) (noE 23) := by
  refine Ev.step (fun k => by rw [tidelineref03_Parse.j3]) ?_
  rw [if_pos rfl]
  exact Ev.const rfl
theorem rj2_f (c n key v : ByteArray) (a b : Int) (dead : Bool) (hc : c.size ≤ 4294967296) (hn : n.size ≤ 4294967296) :
    Ev (fun k => tidelineref03_Parse.j2 k c n key a b v dead) (ansE ((numE c).bind fun x => (numE n).bind fun y => some (key, x, y, v, dead))) := by
  refine Ev.step (fun k => by rw [tidelineref03_Parse.j2]) ?_
  refine Ev.bind (rnumber_f c hc) (Ev.bind (rnumber_f n hn) ?_)
  unfold numE
  cases h1 : (numI c).2 with
  | false =>
    simp only [if_neg (show ¬ (false = true) by decide), Option.bind_none]
    exact rj3_no _ _ _ _ _ _ _
  | true =>
    simp only [if_true, Option.bind_some]
    cases h2 : (numI n).2 with
    | false =>
      simp only [if_neg (show ¬ (false = true) by decide), Option.bind_none, Bool.not_false]
      exact rj3_no _ _ _ _ _ _ _
    | true =>
      simp only [if_true, Option.bind_some, Bool.not_true]
      exact rj3_f _ _ _ _ _ _ _
theorem pre_bt (t : ByteArray) (c : UInt8) (h : 0 < t.size) : Lib.hasPrefix t.data.toList [c] = true ↔ bt t 0 = (c.toNat : Int) := by
  obtain ⟨b, hb, hbt⟩ := bt_list t 0 h
  rw [show (0 : Int) = ((0 : Nat) : Int) from rfl, hbt]
  unfold Lib.hasPrefix
  cases ht : t.data.toList with
  | nil => rw [ht] at hb; simp at hb
  | cons a l =>
    rw [ht] at hb
    obtain rfl : a = b := by simpa using hb
    constructor
    · intro h
      have : c = a := by simpa [List.isPrefixOf] using h
      rw [this]
    · intro h
      have h' : c = a := (UInt8.toNat_inj.1 (by omega)).symm
      simp [List.isPrefixOf, h']
theorem rj1_no (w0 r2 c n : ByteArray) (a b : Int) (key v : ByteArray) (dead : Bool) : Ev (fun k => tidelineref03_Parse.j1 k w0 r2 c n true key a b v dead) (noE 23) := by
  refine Ev.step (fun k => by rw [tidelineref03_Parse.j1]) ?_
  exact Ev.yes rfl (Ev.const rfl)
theorem rj0_no (w0 r2 c n : ByteArray) : Ev (fun k => tidelineref03_Parse.j0 k w0 r2 c n true) (noE 23) := by
  refine Ev.step (fun k => by rw [tidelineref03_Parse.j0]) ?_
  exact Ev.yes rfl (Ev.const rfl)
def tailE (key c n : ByteArray) (v : ByteArray × Bool) : Option (ByteArray × Int × Int × ByteArray × Bool) := (numE c).bind fun x => (numE n).bind fun y => some (key, x, y, v.1, v.2)
/-- The document's Parse behind its test of the words. -/
theorem rj0_f (w0 r2 c n : ByteArray) (hw : w0.size ≤ 4294967296) (hr : r2.size ≤ 4294967296) (hc : c.size ≤ 4294967296) (hn : n.size ≤ 4294967296) (h0 : 0 < w0.size) (hk : Lib.hasPrefix w0.data.toList [107] = true) :
    Ev (fun k => tidelineref03_Parse.j0 k w0 r2 c n (r2.toList == ([] : List UInt8))) (ansE ((afterE w0 107).bind fun key => (valueE r2).bind fun v => tailE key c n v)) := by
  have hz : (w0.extract 1 w0.size).size ≤ w0.size := ext_le _ _ _
  have hz2 : (r2.extract 1 r2.size).size ≤ r2.size := ext_le _ _ _
  have hka : afterE w0 107 = if (unhE (w0.extract 1 w0.size)).2 = 0 then some (unhE (w0.extract 1 w0.size)).1 else none := by unfold afterE; rw [if_pos hk]
  rw [hka]
  generalize hvE : valueE r2 = vE
  by_cases h1 : r2.toList = []
  · have hv : vE = none := by
      rw [← hvE]
      unfold valueE
      rw [if_neg (by rw [h1]; decide)]
      unfold afterE
      rw [if_neg]
      · rfl
      · rw [← Go.ByteArray.toList_eq, h1]; decide
    rw [hv, h1]
    refine Ev.val (rj0_no w0 r2 c n) ?_
    split <;> rfl
  · have hs2 : 0 < r2.size := by
      rcases Nat.eq_zero_or_pos r2.size with h | h
      · exact absurd ((toList_nil r2).2 h) h1
      · exact h
    rw [show (r2.toList == ([] : List UInt8)) = false by simpa using h1]
    by_cases h2 : r2.toList = [120]
    · have hv : vE = some (⟨#[]⟩, true) := by rw [← hvE]; unfold valueE; rw [if_pos h2]
      refine Ev.step (fun k => by rw [tidelineref03_Parse.j0]) ?_
      refine Ev.no (by decide) (Ev.yes h2 ?_)
      rw [hv, show (r2.toList == ([120] : List UInt8)) = true by rw [h2]; rfl]
      refine Ev.step (fun k => by rw [tidelineref03_Parse.j1]) ?_
      refine Ev.no (by decide) (Ev.yes (by omega) (Ev.bind (runhex_f _ (by omega)) ?_))
      by_cases h3 : (unhE (w0.extract 1 w0.size)).2 = 0
      · rw [if_pos h3, Option.bind_some, Option.bind_some]
        exact Ev.yes h3 (Ev.yes rfl (rj2_f _ _ _ _ _ _ _ hc hn))
      · rw [if_neg h3]
        exact Ev.no h3 (Ev.const rfl)
    · have hv : vE = (afterE r2 61).map fun v => (v, false) := by rw [← hvE]; unfold valueE; rw [if_neg h2]
      refine Ev.step (fun k => by rw [tidelineref03_Parse.j0]) ?_
      refine Ev.no (by decide) (Ev.no h2 (Ev.yes (by omega) ?_))
      rw [show (r2.toList == ([120] : List UInt8)) = false by simpa using h2]
      by_cases h3 : bt r2 0 = 61
      · rw [h3, show ((61 : Int) != 61) = false from rfl]
        have hp : Lib.hasPrefix r2.data.toList [61] = true := (pre_bt r2 61 hs2).2 h3
        have hv2 : vE = if (unhE (r2.extract 1 r2.size)).2 = 0 then some ((unhE (r2.extract 1 r2.size)).1, false) else none := by
          rw [hv]; unfold afterE; rw [if_pos hp]
          by_cases h : (unhE (r2.extract 1 r2.size)).2 = 0
          · rw [if_pos h, if_pos h]; rfl
          · rw [if_neg h, if_neg h]; rfl
        refine Ev.step (fun k => by rw [tidelineref03_Parse.j1]) ?_
        refine Ev.no (by decide) (Ev.yes (by omega) (Ev.bind (runhex_f _ (by omega)) ?_))
        by_cases h4 : (unhE (w0.extract 1 w0.size)).2 = 0
        · rw [if_pos h4, Option.bind_some]
          refine Ev.yes h4 (Ev.no (by decide) (Ev.yes (by omega) (Ev.bind (runhex_f _ (by omega)) ?_)))
          by_cases h5 : (unhE (r2.extract 1 r2.size)).2 = 0
          · rw [hv2, if_pos h5, Option.bind_some]
            exact Ev.yes h5 (rj2_f _ _ _ _ _ _ _ hc hn)
          · rw [hv2, if_neg h5]
            exact Ev.no h5 (Ev.const rfl)
        · rw [if_neg h4]
          exact Ev.no h4 (Ev.const rfl)
      · rw [show (bt r2 0 != 61) = true by simpa using h3]
        have hv2 : vE = none := by
          rw [hv]; unfold afterE
          rw [if_neg (fun h => h3 ((pre_bt r2 61 hs2).1 h))]; rfl
        rw [hv2]
        refine Ev.val (rj1_no _ _ _ _ _ _ _ _ _) ?_
        split <;> rfl
theorem cutE_le (s : ByteArray) (c : UInt8) : (cutE s c).1.size ≤ s.size ∧ (cutE s c).2.1.size ≤ s.size := by
  unfold cutE
  split
  · exact ⟨Nat.zero_le _, Nat.zero_le _⟩
  · exact ⟨ext_le _ _ _, ext_le _ _ _⟩
theorem rparse_f (s : ByteArray) (hs : s.size ≤ 1073741824) : Ev (fun k => tidelineref03_Parse.f k s) (parE s) := by
  have z1 := cutE_le s 32
  have z2 := cutE_le (cutE s 32).2.1 32
  have z3 := cutE_le (cutE (cutE s 32).2.1 32).1 46
  have d1 : Ev (fun k => tidelineref03_cut.f k s 32) (cutE s 32) := cut_f s (by omega) 32
  have d2 : Ev (fun k => tidelineref03_cut.f k (cutE s 32).2.1 32) (cutE (cutE s 32).2.1 32) := cut_f _ (by omega) 32
  have d3 : Ev (fun k => tidelineref03_cut.f k (cutE (cutE s 32).2.1 32).1 46) (cutE (cutE (cutE s 32).2.1 32).1 46) := cut_f _ (by omega) 46
  refine Ev.congr (fun k => by rw [tidelineref03_Parse.f]) ?_
  refine Ev.bind d1 (Ev.bind d2 (Ev.bind d3 ?_))
  unfold parE readE wordsE
  clear d1 d2 d3
  generalize hc3 : cutE (cutE (cutE s 32).2.1 32).1 46 = c3 at z3 ⊢
  generalize cutE (cutE s 32).2.1 32 = c2 at z2 z3 hc3 ⊢
  generalize cutE s 32 = c1 at z1 z2 ⊢
  by_cases h1 : c1.2.2 = true
  · refine Ev.yes h1 ?_
    rw [if_pos h1]
    by_cases h2 : c2.2.2 = true
    · refine Ev.yes h2 ?_
      rw [if_pos h2, Option.bind_some]
      simp only [hc3]
      by_cases h3 : c3.2.2 = true
      · refine Ev.yes h3 ?_
        rw [if_pos h3]
        by_cases h4 : c1.1.toList = []
        · have ha : afterE c1.1 107 = none := by
            unfold afterE
            rw [← Go.ByteArray.toList_eq, h4, if_neg (by decide)]
          rw [ha]
          exact Ev.yes h4 (rj0_no _ _ _ _)
        · have hs2 : 0 < c1.1.size := by
            rcases Nat.eq_zero_or_pos c1.1.size with h | h
            · exact absurd ((toList_nil _).2 h) h4
            · exact h
          refine Ev.no h4 (Ev.yes (by omega) ?_)
          by_cases h5 : bt c1.1 0 = 107
          · exact Ev.yes h5 (rj0_f _ _ _ _ (by omega) (by omega) (by omega) (by omega) hs2 ((pre_bt _ 107 hs2).2 h5))
          · have ha : afterE c1.1 107 = none := by
              unfold afterE
              rw [if_neg (fun h => h5 ((pre_bt _ 107 hs2).1 h))]
            rw [ha]
            exact Ev.no h5 (rj0_no _ _ _ _)
      · rw [if_neg h3]
        exact Ev.no h3 (rj0_no _ _ _ _)
    · rw [if_neg h2]
      exact Ev.no h2 (rj0_no _ _ _ _)
  · rw [if_neg h1]
    exact Ev.no h1 (rj0_no _ _ _ _)
end
section
open Go.Proofs.YthnjlbdkcpgcjaaDoor.Dig
/-! What item.Print answers, and that the two are each other's inverse. -/
def decB (n : Int) : ByteArray := ⟨(Lib.decDigits (max n 0).toNat).toArray⟩
def headE (key : ByteArray) (c n : Int) : ByteArray := (⟨#[107]⟩ ++ hexB key) ++ ⟨#[32]⟩ ++ decB c ++ ⟨#[46]⟩ ++ decB n ++ ⟨#[32]⟩
def prE (e : ByteArray × Int × Int × ByteArray × Bool) : ByteArray := headE e.1 e.2.1 e.2.2.1 ++ (if e.2.2.2.2 = true then ⟨#[120]⟩ else ⟨#[61]⟩ ++ hexB e.2.2.2.1)
def printE (e : ByteArray × Int × Int × ByteArray × Bool) : ByteArray × Int := if chkE e = 0 then (prE e, 0) else (⟨#[]⟩, chkE e)
theorem decB_size (n : Int) (h : n ≤ 1099511627776) : (decB n).size ≤ 14 := by
  show (Lib.decDigits (max n 0).toNat).toArray.size ≤ _
  rw [List.size_toArray, Lib.decDigits_length]
  exact nDigits_pow 13 _ (by omega)
theorem digp_f (n : Int) (h : n ≤ 9223372036854775807) : nums_Digits.f n = some (decB n) := by unfold nums_Digits.f; rw [if_pos h]; rfl
theorem rdigp_f (n : Int) (h : n ≤ 9223372036854775807) : tidelineref01_Digits.f n = some (decB n) := by unfold tidelineref01_Digits.f; rw [if_pos h]; rfl
theorem one_size (c : UInt8) : (⟨#[c]⟩ : ByteArray).size = 1 := rfl
set_option maxRecDepth 10000 in
theorem print_f (a : ByteArray) (b c : Int) (d : ByteArray) (x : Bool) : Ev (fun k => item_Print.f k a b c d x) (printE (a, b, c, d, x)) := by
  refine Ev.congr (fun k => by rw [item_Print.f, chk_f, Option.bind_some]) ?_
  unfold printE
  by_cases h : chkE (a, b, c, d, x) = 0
  · rw [if_pos h]
    refine Ev.yes h ?_
    obtain ⟨ha, hb, hb', hc, hc', hd, hx⟩ := chk_zero h
    have s1 : (hexB a).size ≤ 32 := by rw [hexB_size]; omega
    have s2 : (hexB d).size ≤ 64 := by rw [hexB_size]; omega
    have s3 := decB_size b hb'
    have s4 := decB_size c (by omega)
    have x1 := hex_f a (by omega)
    have x2 := hex_f d (by omega)
    have d1 := digp_f b (by omega)
    have d2 := digp_f c (by omega)
    unfold prE headE
    generalize hexB a = A at *
    generalize hexB d = D at *
    generalize decB b = B at *
    generalize decB c = C at *
    cases x with
    | true =>
      refine Ev.yes rfl (Ev.bind x1 ?_)
      simp only [d1, d2, Option.bind_some, ByteArray.size_append, one_size]
      rw [if_pos (by omega), if_pos (by omega), if_pos (by omega), if_pos (by omega), if_pos (by omega), if_pos (by omega), if_pos (by omega)]
      exact Ev.const rfl
    | false =>
      refine Ev.no (by decide) (Ev.bind x2 ?_)
      simp only [d1, d2, Option.bind_some, ByteArray.size_append, one_size]
      refine Ev.yes (by omega) (Ev.bind x1 ?_)
      rw [if_pos (by omega), if_pos (by omega), if_pos (by omega), if_pos (by omega), if_pos (by omega), if_pos (by omega), if_pos (by omega)]
      exact Ev.const rfl
  · rw [if_neg h]
    exact Ev.no h (Ev.const rfl)
set_option maxRecDepth 10000 in
theorem rprint_f (a : ByteArray) (b c : Int) (d : ByteArray) (x : Bool) : Ev (fun k => tidelineref03_Print.f k a b c d x) (printE (a, b, c, d, x)) := by
  refine Ev.congr (fun k => by rw [tidelineref03_Print.f, chk_ref, Option.bind_some]) ?_
  unfold printE
  by_cases h : chkE (a, b, c, d, x) = 0
  · rw [if_pos h]
    refine Ev.yes h ?_
    obtain ⟨ha, hb, hb', hc, hc', hd, hx⟩ := chk_zero h
    have s1 : (hexB a).size ≤ 32 := by rw [hexB_size]; omega
    have s2 : (hexB d).size ≤ 64 := by rw [hexB_size]; omega
    have s3 := decB_size b hb'
    have s4 := decB_size c (by omega)
    have x1 := rhex_f a (by omega)
    have x2 := rhex_f d (by omega)
    have d1 := rdigp_f b (by omega)
    have d2 := rdigp_f c (by omega)
    unfold prE headE
    generalize hexB a = A at *
    generalize hexB d = D at *
    generalize decB b = B at *
    generalize decB c = C at *
    refine Ev.bind x1 ?_
    simp only [d1, d2, Option.bind_some, ByteArray.size_append, one_size]
    refine Ev.yes (by omega) (Ev.yes (by omega) (Ev.yes (by omega) (Ev.yes (by omega) (Ev.yes (by omega) (Ev.yes (by omega) ?_)))))
    cases x with
    | true =>
      exact Ev.yes rfl (Ev.yes (by omega) (Ev.const rfl))
    | false =>
      refine Ev.no (by decide) (Ev.yes (by omega) (Ev.bind x2 (Ev.yes (by omega) (Ev.const ?_))))
      simp only [if_neg (show ¬ (false = true) by decide), ByteArray.append_assoc]
  · rw [if_neg h]
    exact Ev.no h (Ev.const rfl)
/-! Cut, where the letter is. -/
theorem cut_app (x y : ByteArray) (c : UInt8) (h : ∀ b ∈ x.data.toList, b ≠ c) : cutE (x ++ (⟨#[c]⟩ ++ y)) c = (x, y, true) := by
  have e : (x ++ (⟨#[c]⟩ ++ y)).data.toList = x.data.toList ++ c :: y.data.toList := by simp
  have hz : x.data.toList.length = x.size := (Lib.size_eq x).symm
  have hi : Lib.indexB (x ++ (⟨#[c]⟩ ++ y)) ⟨#[c]⟩ = (x.size : Int) := by
    refine ib_of ?_ ?_
    · rw [e, ← hz]; simp
    · intro k hk
      rw [e, List.getElem?_append_left (by omega)]
      intro h'
      exact h _ (List.mem_of_getElem? h') rfl
  rw [cut_hitE hi]
  refine Prod.ext ?_ (Prod.ext ?_ rfl)
  · show (x ++ (⟨#[c]⟩ ++ y)).extract 0 x.size = x
    rw [ByteArray.extract_append]
    simp
  · show (x ++ (⟨#[c]⟩ ++ y)).extract (x.size + 1) (x ++ (⟨#[c]⟩ ++ y)).size = y
    have : ((x ++ (⟨#[c]⟩ ++ y)).extract (x.size + 1) (x ++ (⟨#[c]⟩ ++ y)).size).data.toList = y.data.toList := by
      rw [Lib.extract_to_end, e, ← hz, List.drop_append]
      simp
    exact ByteArray.ext (Array.toList_inj.1 this)
theorem cut_back {s x y : ByteArray} {c : UInt8} (h : cutE s c = (x, y, true)) : s = x ++ (⟨#[c]⟩ ++ y) := by
  rcases ib_cases s c with h1 | ⟨i, h1⟩
  · rw [cut_missE h1] at h
    exact Bool.noConfusion (congrArg (fun p => p.2.2) h)
  · rw [cut_hitE h1] at h
    obtain ⟨g1, g2, _⟩ := ib_hit h1
    obtain rfl : s.extract 0 i = x := congrArg (fun p => p.1) h
    obtain rfl : s.extract (i + 1) s.size = y := congrArg (fun p => p.2.1) h
    have hl : i < s.data.toList.length := by rw [← Lib.size_eq]; exact g1
    have hc : s.data.toList[i] = c := by
      rw [List.getElem?_eq_getElem hl] at g2
      exact Option.some.inj g2
    apply ByteArray.ext
    apply Array.toList_inj.1
    have e : (s.extract 0 i ++ (⟨#[c]⟩ ++ s.extract (i + 1) s.size)).data.toList = (s.extract 0 i).data.toList ++ c :: (s.extract (i + 1) s.size).data.toList := by simp
    rw [e, Lib.extract_to_end, ← hc, ← List.drop_eq_getElem_cons hl]
    have e0 : (s.extract 0 i).data.toList = s.data.toList.take i := by
      rw [ByteArray.data_extract, Array.toList_extract, List.extract_eq_take_drop]
      simp
    rw [e0, List.take_append_drop]
theorem after_back {t v : ByteArray} {c : UInt8} (h : afterE t c = some v) : t = ⟨#[c]⟩ ++ hexB v := by
  unfold afterE at h
  by_cases hp : Lib.hasPrefix t.data.toList [c] = true
  · rw [if_pos hp] at h
    by_cases hu : (unhE (t.extract 1 t.size)).2 = 0
    · rw [if_pos hu] at h
      obtain rfl := Option.some.inj h
      rw [hexB_unhE _ hu]
      apply ByteArray.ext
      apply Array.toList_inj.1
      have e : (⟨#[c]⟩ ++ t.extract 1 t.size : ByteArray).data.toList = c :: (t.extract 1 t.size).data.toList := by simp
      rw [e, Lib.extract_to_end]
      unfold Lib.hasPrefix at hp
      cases ht : t.data.toList with
      | nil => rw [ht] at hp; simp [List.isPrefixOf] at hp
      | cons a l =>
        rw [ht] at hp
        have : c = a := by simpa [List.isPrefixOf] using hp
        rw [this]; rfl
    · rw [if_neg hu] at h; cases h
  · rw [if_neg hp] at h; cases h
theorem after_app (v : ByteArray) (c : UInt8) : afterE (⟨#[c]⟩ ++ hexB v) c = some v := by
  have e : (⟨#[c]⟩ ++ hexB v : ByteArray).data.toList = c :: (hexB v).data.toList := by simp
  have hx : (⟨#[c]⟩ ++ hexB v : ByteArray).extract 1 (⟨#[c]⟩ ++ hexB v : ByteArray).size = hexB v := by
    apply ByteArray.ext
    apply Array.toList_inj.1
    rw [Lib.extract_to_end, e]
    rfl
  unfold afterE
  rw [hx, unhE_hexB, if_pos (by rw [e]; simp [Lib.hasPrefix, List.isPrefixOf])]
  rfl
theorem num_of {t : ByteArray} {x : Int} (h : numE t = some x) (hx : x ≤ 1099511627776) : t = decB x := by
  unfold numE at h
  by_cases h1 : (numI t).2 = true
  · rw [if_pos h1] at h
    obtain rfl := Option.some.inj h
    unfold numI at h1 hx ⊢
    by_cases h2 : (numP t.data.toList 9223372036854775807).2 = 12
    · rw [if_pos h2] at hx
      exact absurd hx (by decide)
    · rw [if_neg h2] at h1 hx ⊢
      rcases numP_codes t.data.toList 9223372036854775807 with h3 | h3 | ⟨h3, _⟩
      · obtain ⟨h4, h5, _⟩ := num_canon (Prod.ext rfl h3 : numP t.data.toList 9223372036854775807 = ((numP t.data.toList 9223372036854775807).1, 0))
        unfold decB
        simp only [Int.max_eq_left h5, ← h4]
      · exact absurd h3 h2
      · rw [h3] at h1; exact absurd (show (23 : Int) != 23 from h1) (by decide)
  · rw [if_neg h1] at h; cases h
theorem num_dec {x : Int} (h0 : 0 ≤ x) (h1 : x ≤ 9223372036854775806) : numE (decB x) = some x := by
  obtain ⟨m, rfl⟩ := Int.eq_ofNat_of_zero_le h0
  have e : numI (decB (m : Int)) = ((m : Int), true) := by
    unfold numI
    have : (decB (m : Int)).data.toList = Lib.decDigits m := by
      unfold decB
      rw [show (max (m : Int) 0).toNat = m by omega]
    rw [this, num_back m (by omega), if_neg (show ¬ ((0 : Int) = 12) by decide)]
    rfl
  unfold numE
  rw [e, if_pos rfl]
/-! What letters the pieces are. -/
theorem dec_letters (n : Int) : ∀ b ∈ (decB n).data.toList, b ≠ 32 ∧ b ≠ 46 := by
  intro b hb
  have h := (dec_all (max n 0).toNat).1
  have hb' : b ∈ Lib.decDigits (max n 0).toNat := hb
  have := isD_iff (List.all_eq_true.1 h b hb')
  constructor
  · rintro rfl; exact absurd this.1 (by decide)
  · rintro rfl; exact absurd this.1 (by decide)
theorem hex_letters (s : ByteArray) : ∀ b ∈ (hexB s).data.toList, b ≠ 32 := by
  intro b hb
  have h : (b.toNat : Int) ∈ bytesOf (hexB s) := by
    unfold bytesOf
    exact List.mem_map.2 ⟨b, hb, rfl⟩
  rw [bytes_hexB] at h
  have := hexI_bd _ (byte_bd s) _ h
  rintro rfl
  exact absurd this.1 (by decide)
theorem head_assoc (key : ByteArray) (c n : Int) (V : ByteArray) : headE key c n ++ V = (⟨#[107]⟩ ++ hexB key) ++ (⟨#[32]⟩ ++ ((decB c ++ (⟨#[46]⟩ ++ decB n)) ++ (⟨#[32]⟩ ++ V))) := by
  unfold headE
  simp only [ByteArray.append_assoc]
theorem cut_words (key : ByteArray) (c n : Int) (V : ByteArray) : wordsE (headE key c n ++ V) = some (⟨#[107]⟩ ++ hexB key, decB c ++ (⟨#[46]⟩ ++ decB n), V) := by
  rw [head_assoc]
  have h1 : cutE ((⟨#[107]⟩ ++ hexB key) ++ (⟨#[32]⟩ ++ ((decB c ++ (⟨#[46]⟩ ++ decB n)) ++ (⟨#[32]⟩ ++ V)))) 32 = (⟨#[107]⟩ ++ hexB key, (decB c ++ (⟨#[46]⟩ ++ decB n)) ++ (⟨#[32]⟩ ++ V), true) := by
    refine cut_app _ _ _ ?_
    intro b hb
    rw [show (⟨#[107]⟩ ++ hexB key : ByteArray).data.toList = 107 :: (hexB key).data.toList by simp] at hb
    rcases List.mem_cons.1 hb with rfl | hb
    · decide
    · exact hex_letters _ _ hb
  have h2 : cutE ((decB c ++ (⟨#[46]⟩ ++ decB n)) ++ (⟨#[32]⟩ ++ V)) 32 = (decB c ++ (⟨#[46]⟩ ++ decB n), V, true) := by
    refine cut_app _ _ _ ?_
    intro b hb
    rw [show (decB c ++ (⟨#[46]⟩ ++ decB n) : ByteArray).data.toList = (decB c).data.toList ++ 46 :: (decB n).data.toList by simp] at hb
    rcases List.mem_append.1 hb with hb | hb
    · exact (dec_letters _ _ hb).1
    · rcases List.mem_cons.1 hb with rfl | hb
      · decide
      · exact (dec_letters _ _ hb).1
  unfold wordsE
  rw [h1]
  simp only [h2, if_true]
theorem read_print (a : ByteArray) (b c : Int) (d : ByteArray) (x : Bool) (h : chkE (a, b, c, d, x) = 0) : readE (prE (a, b, c, d, x)) = some (a, b, c, d, x) := by
  obtain ⟨ha, hb, hb', hc, hc', hd, hx⟩ := chk_zero h
  have h1 : cutE (decB b ++ (⟨#[46]⟩ ++ decB c)) 46 = (decB b, decB c, true) := cut_app _ _ _ (fun y hy => (dec_letters _ _ hy).2)
  unfold readE prE
  rw [cut_words, Option.bind_some]
  simp only [h1, if_true, after_app, Option.bind_some, num_dec (show (0 : Int) ≤ b by omega) (by omega), num_dec hc (by omega)]
  cases x with
  | true =>
    have e : valueE ⟨#[120]⟩ = some (⟨#[]⟩, true) := by unfold valueE; rw [if_pos (by rw [Go.ByteArray.toList_eq])]
    simp only [if_true, e, Option.bind_some, hx rfl]
  | false =>
    have e : valueE (⟨#[61]⟩ ++ hexB d) = some (d, false) := by
      unfold valueE
      rw [if_neg, after_app]
      · rfl
      · rw [Go.ByteArray.toList_eq, show (⟨#[61]⟩ ++ hexB d : ByteArray).data.toList = 61 :: (hexB d).data.toList by simp]
        intro h
        exact absurd (List.cons.inj h).1 (by decide)
    simp only [if_neg (show ¬ (false = true) by decide), e, Option.bind_some]
theorem print_read {s : ByteArray} {e : ByteArray × Int × Int × ByteArray × Bool} (h : readE s = some e) (hc : chkE e = 0) : prE e = s := by
  unfold readE at h
  obtain ⟨p, hp, h⟩ := Option.bind_eq_some_iff.1 h
  by_cases h3 : (cutE p.2.1 46).2.2 = true
  · rw [if_pos h3] at h
    obtain ⟨key, hk, h⟩ := Option.bind_eq_some_iff.1 h
    obtain ⟨v, hv, h⟩ := Option.bind_eq_some_iff.1 h
    obtain ⟨x, hx, h⟩ := Option.bind_eq_some_iff.1 h
    obtain ⟨y, hy, h⟩ := Option.bind_eq_some_iff.1 h
    obtain rfl := Option.some.inj h
    obtain ⟨ha, hb, hb', hc0, hc', hd, hx0⟩ := chk_zero hc
    unfold wordsE at hp
    by_cases h1 : (cutE s 32).2.2 = true
    · rw [if_pos h1] at hp
      by_cases h2 : (cutE (cutE s 32).2.1 32).2.2 = true
      · rw [if_pos h2] at hp
        obtain rfl := Option.some.inj hp
        have e1 := cut_back (Prod.ext rfl (Prod.ext rfl h1) : cutE s 32 = ((cutE s 32).1, (cutE s 32).2.1, true))
        have e2 := cut_back (Prod.ext rfl (Prod.ext rfl h2) : cutE (cutE s 32).2.1 32 = ((cutE (cutE s 32).2.1 32).1, (cutE (cutE s 32).2.1 32).2.1, true))
        have e3 := cut_back (Prod.ext rfl (Prod.ext rfl h3) : cutE (cutE (cutE s 32).2.1 32).1 46 = ((cutE (cutE (cutE s 32).2.1 32).1 46).1, (cutE (cutE (cutE s 32).2.1 32).1 46).2.1, true))
        have e4 := after_back hk
        have e5 := num_of hx hb'
        have e6 := num_of hy (by omega)
        have e7 : (if v.2 = true then (⟨#[120]⟩ : ByteArray) else ⟨#[61]⟩ ++ hexB v.1) = (cutE (cutE s 32).2.1 32).2.1 := by
          unfold valueE at hv
          by_cases hq : (cutE (cutE s 32).2.1 32).2.1.toList = [120]
          · rw [if_pos hq] at hv
            obtain rfl := Option.some.inj hv
            rw [if_pos rfl]
            apply ByteArray.ext
            apply Array.toList_inj.1
            rw [← Go.ByteArray.toList_eq (cutE (cutE s 32).2.1 32).2.1, hq]
          · rw [if_neg hq] at hv
            obtain ⟨w, hw, rfl⟩ := Option.map_eq_some_iff.1 hv
            rw [if_neg (show ¬ (false = true) by decide)]
            exact (after_back hw).symm
        unfold prE
        rw [head_assoc]
        simp only
        rw [e7, ← e4, ← e5, ← e6, ← e3, ← e2, ← e1]
      · rw [if_neg h2] at hp; cases hp
    · rw [if_neg h1] at hp; cases hp
  · rw [if_neg h3] at h; cases h
theorem prE_size {a : ByteArray} {b c : Int} {d : ByteArray} {x : Bool} (h : chkE (a, b, c, d, x) = 0) : (prE (a, b, c, d, x)).size ≤ 1000 := by
  obtain ⟨ha, hb, hb', hc, hc', hd, hx⟩ := chk_zero h
  have s3 := decB_size b hb'
  have s4 := decB_size c (by omega)
  unfold prE headE
  cases x with
  | true => simp only [if_true, ByteArray.size_append, one_size, hexB_size]; omega
  | false => simp only [if_neg (show ¬ (false = true) by decide), ByteArray.size_append, one_size, hexB_size]; omega
end
/-! The text's round: read, and written again. -/
theorem noE_out (c : Int) (h : ¬ c = 0) : (noE c).2.2.2.2.2 = c := rfl
theorem text_j2 (s : ByteArray) (hs : s.size ≤ 1073741824) : Ev (fun k => tidelinelaw03_ItemText.j2 k s) true := by
  refine Ev.step (fun k => by rw [tidelinelaw03_ItemText.j2]) ?_
  refine Ev.bind (parse_f s hs) (Ev.bind (rparse_f s hs) ?_)
  have hp := fun e => @print_read s e
  unfold parE
  refine Ev.no (by simp) (Ev.yes rfl ?_)
  refine Ev.bind (print_f _ _ _ _ _) ?_
  cases hr : readE s with
  | none => exact Ev.no (by decide) (Ev.const rfl)
  | some e =>
    obtain ⟨a, b, c, d, x⟩ := e
    unfold ansE
    by_cases h : chkE (a, b, c, d, x) = 0
    · simp only [h, if_true]
      unfold printE
      simp only [h, if_true]
      refine Ev.const ?_
      rw [hp _ hr h]
      simp
    · simp only [h, if_false]
      exact Ev.no h (Ev.const rfl)
theorem ItemText : tidelinelaw03_ItemText.Pure := by
  intro a b c d x s _ _
  refine Ev.rounds ?_
  refine Ev.congr (fun k => by rw [tidelinelaw03_ItemText.f]) ?_
  have yes : Ev (fun k => tidelinelaw03_ItemText.j0 k s true a b c d x) true := by
    refine Ev.step (fun k => by rw [tidelinelaw03_ItemText.j0]) ?_
    exact Ev.yes rfl (Ev.const rfl)
  obtain ⟨t, ht⟩ : ∃ t, tidelinelaw03_long.f a b c d x = some t := by
    unfold tidelinelaw03_long.f
    split <;> exact ⟨_, rfl⟩
  simp only [ht, Option.bind_some]
  by_cases h1 : t = true
  · exact Ev.yes h1 yes
  · refine Ev.no h1 ?_
    by_cases h2 : (s.size : Int) > 1073741824
    · rw [decide_eq_true h2]; exact yes
    · rw [decide_eq_false h2]
      refine Ev.step (fun k => by rw [tidelinelaw03_ItemText.j0]) ?_
      refine Ev.no (by decide) (Ev.bind (print_f a b c d x) (Ev.bind (rprint_f a b c d x) (Ev.yes rfl ?_)))
      rw [show ((printE (a, b, c, d, x)).2 != (printE (a, b, c, d, x)).2) = false by simp]
      refine Ev.step (fun k => by rw [tidelinelaw03_ItemText.j1]) ?_
      refine Ev.no (by decide) ?_
      unfold printE
      by_cases h3 : chkE (a, b, c, d, x) = 0
      · rw [if_pos h3]
        refine Ev.yes rfl ?_
        have hz := prE_size h3
        have e : parE (prE (a, b, c, d, x)) = (a, b, c, d, x, 0) := by
          unfold parE
          rw [read_print _ _ _ _ _ h3]
          show (if chkE (a, b, c, d, x) = 0 then _ else _) = _
          rw [if_pos h3]
        have hq := parse_f (prE (a, b, c, d, x)) (by omega)
        rw [e] at hq
        refine Ev.bind hq ?_
        exact Ev.yes rfl (Ev.no (by simp) (text_j2 s (by omega)))
      · rw [if_neg h3]
        exact Ev.no h3 (text_j2 s (by omega))
end Go.Proofs.YthnjlbdkcpgcjaaDoor.Pure
