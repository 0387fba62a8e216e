import Derived.Test.YtodmbjbfigifnaaDoorPAllx0
import Derived.Test.YtodmbjbfigifnaaDoorPAllx4
import Derived.Test.YtodmbjbfigifnaaDoorMgA
import Derived.Test.YtodmbjbfigifnaaDoorPAllx3
import Derived.Lib.CutLaws
section
set_option linter.unusedVariables false
set_option linter.unusedSimpArgs false
namespace Go.Proofs.YtodmbjbfigifnaaDoor.Pure
open Go.RowKit Go.Proofs.YtodmbjbfigifnaaDoor.PAll Go.Proofs.YtodmbjbfigifnaaDoorW.PrintWords Go.Proofs.YtodmbjbfigifnaaDoorW.PrintLast Go.Proofs.YtodmbjbfigifnaaDoorW.PrintMore
theorem rgE_ref (lo hi : ByteArray) (op : Bool) : Ev (fun k => tidelineref02_Check.f k lo hi op) (rgE lo hi op) := by
  have g : ∀ k, tidelineref02_Check.f k lo hi op = tidelineref02_Check.j0 k (decide (lo.size > 16 ∨ hi.size > 16)) lo hi op := by
    intro k
    unfold tidelineref02_Check.f
    by_cases h : (lo.size : Int) > 16
    · rw [if_pos h, decide_eq_true (show lo.size > 16 ∨ hi.size > 16 by omega)]
    · rw [if_neg h]
      by_cases h2 : (hi.size : Int) > 16
      · rw [decide_eq_true h2, decide_eq_true (show lo.size > 16 ∨ hi.size > 16 by omega)]
      · rw [decide_eq_false h2, decide_eq_false (show ¬ (lo.size > 16 ∨ hi.size > 16) by omega)]
  refine Ev.congr g (Ev.step (fun k => by rw [tidelineref02_Check.j0]) ?_)
  unfold rgE
  by_cases h : lo.size > 16 ∨ hi.size > 16
  · rw [decide_eq_true h, if_pos h]; exact Ev.const rfl
  · rw [decide_eq_false h, if_neg h]
    simp only [if_neg (show ¬ (false = true) by decide)]
    refine Ev.const ?_
    cases op with
    | true => by_cases h2 : hi.toList = [] <;> simp [h2]
    | false => by_cases h2 : Op.bytesLess hi.toList lo.toList = true <;> simp [h2]
end Go.Proofs.YtodmbjbfigifnaaDoor.Pure
end

section
set_option linter.unusedVariables false
set_option linter.unusedSimpArgs false
namespace Go.Proofs.YtodmbjbfigifnaaDoor.Pure
open Go.RowKit Go.Proofs.YtodmbjbfigifnaaDoor.PAll Go.Proofs.YtodmbjbfigifnaaDoorW.PrintWords Go.Proofs.YtodmbjbfigifnaaDoorW.PrintLast Go.Proofs.YtodmbjbfigifnaaDoorW.PrintMore
namespace R2
theorem tdiv16 (x : Int) (h0 : 0 ≤ x) (h1 : x < 256) : (Int.tdiv x 16) % 256 = x / 16 := by
  rw [Int.tdiv_eq_ediv_of_nonneg h0]; omega
theorem tmod16 (x : Int) (h0 : 0 ≤ x) : Int.tmod x 16 = x % 16 := Int.tmod_eq_emod_of_nonneg h0
theorem cut_hd : ∀ n : Fin 16, (⟨#[48, 49, 50, 51, 52, 53, 54, 55, 56, 57, 97, 98, 99, 100, 101, 102]⟩ : ByteArray).extract n.val (n.val + 1) = strOfNums [hdI ((n.val : Nat) : Int)] := by decide +kernel
theorem cut_hd' (n : Int) (h0 : 0 ≤ n) (h1 : n < 16) : (⟨#[48, 49, 50, 51, 52, 53, 54, 55, 56, 57, 97, 98, 99, 100, 101, 102]⟩ : ByteArray).extract n.toNat ((n + 1) % 256).toNat = strOfNums [hdI n] := by
  have := cut_hd ⟨n.toNat, by omega⟩
  rw [show ((n + 1) % 256).toNat = n.toNat + 1 by omega]
  simpa [Int.toNat_of_nonneg h0] using this
theorem son_append (a b : List Int) : strOfNums a ++ strOfNums b = strOfNums (a ++ b) := by
  apply ba_eq.1
  simp only [strOfNums, Go.ByteArray.toList_eq]
  simp
theorem son_size (l : List Int) : (strOfNums l).size = l.length := by simp [strOfNums, ByteArray.size]
theorem dig_f (c : Int) (h0 : 0 ≤ c) (h1 : c < 256) : Ev (fun k => tidelineref02_digit.f k c) (nibI c) := by
  have g : ∀ k, tidelineref02_digit.f k c = tidelineref02_digit.j0 k c (decide (48 ≤ c ∧ c ≤ 57)) := by
    intro k
    unfold tidelineref02_digit.f
    by_cases h : c ≥ 48
    · rw [if_pos h]; congr 1; have : 48 ≤ c := h; simp [this]
    · rw [if_neg h]; congr 1; have : ¬ 48 ≤ c := h; simp [this]
  refine Ev.congr g (Ev.step (fun k => by rw [tidelineref02_digit.j0]) ?_)
  unfold nibI
  by_cases h : 48 ≤ c ∧ c ≤ 57
  · simp only [decide_eq_true h, if_true, if_pos h]
    exact Ev.const (by rw [show (c - 48) % 256 = c - 48 by omega])
  · simp only [decide_eq_false h, if_neg (show ¬ (false = true) by decide), if_neg h]
    by_cases h2 : c ≥ 97
    · simp only [if_pos h2]
      by_cases h3 : c ≤ 102
      · simp only [if_pos h3, if_pos (show 97 ≤ c ∧ c ≤ 102 from ⟨h2, h3⟩)]
        exact Ev.const (by rw [show (c - 97) % 256 + 10 = c - 87 by omega])
      · simp only [if_neg h3, if_neg (show ¬ (97 ≤ c ∧ c ≤ 102) by omega)]; exact Ev.const rfl
    · simp only [if_neg h2, if_neg (show ¬ (97 ≤ c ∧ c ≤ 102) by omega)]; exact Ev.const rfl
theorem drop_two {l : List Int} {i : Nat} (h : i + 1 < l.length) : l.drop i = l[i] :: l[i + 1] :: l.drop (i + 2) := by
  rw [List.drop_eq_getElem_cons (show i < l.length by omega), List.drop_eq_getElem_cons h]
/-- What the document's unhex answers. -/
def runhE (s : ByteArray) : ByteArray × Bool := match unhexI (bytesOf s) with | some l => (strOfNums l, true) | none => (⟨#[]⟩, false)
theorem runhex_loop (s : ByteArray) (hs : s.size ≤ 70368744177664) (d : Nat) : ∀ (i : Nat) (acc : List Int), i + 2 * d = s.size → acc.length ≤ i →
    Ev (fun k => tidelineref02_unhex.l0 k s acc (i : Int)) (match unhexI ((bytesOf s).drop i) with | some l => (strOfNums (acc ++ l), true) | none => (⟨#[]⟩, false)) := by
  induction d with
  | zero =>
    intro i acc hi ha
    refine Ev.step (fun k => by rw [tidelineref02_unhex.l0]) ?_
    simp only [if_neg (show ¬ (i : Int) < (s.size : Int) by omega)]
    rw [List.drop_of_length_le (by rw [bytesOf_length]; omega)]
    simp only [unhexI, List.append_nil]
    exact Ev.const rfl
  | succ d ih =>
    intro i acc hi ha
    refine Ev.step (fun k => by rw [tidelineref02_unhex.l0]) ?_
    have hl : i + 1 < (bytesOf s).length := by rw [bytesOf_length]; omega
    rw [wrap_succ (by omega), bt_nat s i (by omega), bt_nat s (i + 1) hl]
    simp only [if_pos (show (i : Int) < (s.size : Int) by omega), if_pos (show (0 : Int) ≤ (i : Int) by omega), if_pos (show (0 : Int) ≤ ((i + 1 : Nat) : Int) by omega), if_pos (show ((i + 1 : Nat) : Int) < (s.size : Int) by omega), if_pos (show acc.length < 140737488355328 by omega)]
    have hb0 := byte_bd s _ (List.getElem_mem (show i < (bytesOf s).length by omega))
    have hb1 := byte_bd s _ (List.getElem_mem hl)
    have hih := fun v => ih (i + 2) (acc ++ [v]) (by omega) (by simp; omega)
    rw [drop_two hl]
    generalize (bytesOf s)[i] = a at *
    generalize (bytesOf s)[i + 1] = b at *
    refine Ev.bind (dig_f a hb0.1 hb0.2) (Ev.bind (dig_f b hb1.1 hb1.2) ?_)
    have na := nibI_bd a
    have nb := nibI_bd b
    by_cases ha' : 0 ≤ nibI a
    · by_cases hb' : 0 ≤ nibI b
      · simp only [if_neg (show ¬ nibI a < 0 by omega), if_neg (show ¬ nibI b < 0 by omega), unhexI, if_pos (show 0 ≤ nibI a ∧ 0 ≤ nibI b from ⟨ha', hb'⟩)]
        rw [wrap_id (x := 16 * nibI a) (by omega) (by omega), wrap_id (x := 16 * nibI a + nibI b) (by omega) (by omega), show (16 * nibI a + nibI b) % 256 = 16 * nibI a + nibI b by omega, show wrap64 ((i : Int) + 2) = ((i + 2 : Nat) : Int) by rw [wrap_id (by omega) (by omega)]; rfl]
        refine Ev.val (hih _) ?_
        cases unhexI ((bytesOf s).drop (i + 2)) <;> simp
      · simp only [if_neg (show ¬ nibI a < 0 by omega), if_pos (show nibI b < 0 by omega), unhexI, if_neg (show ¬ (0 ≤ nibI a ∧ 0 ≤ nibI b) from fun h => hb' h.2)]
        exact Ev.const rfl
    · simp only [if_pos (show nibI a < 0 by omega), unhexI, if_neg (show ¬ (0 ≤ nibI a ∧ 0 ≤ nibI b) from fun h => ha' h.1)]
      exact Ev.const rfl
theorem runhex_f (s : ByteArray) (hs : s.size ≤ 70368744177664) : Ev (fun k => tidelineref02_unhex.f k s) (runhE s) := by
  refine Ev.congr (fun k => by rw [tidelineref02_unhex.f]) ?_
  unfold runhE
  by_cases h : (s.size : Int) % 2 = 0
  · simp only [if_pos h]
    have := runhex_loop s hs (s.size / 2) 0 [] (by omega) (by simp)
    rw [List.drop_zero] at this
    exact this
  · simp only [if_neg h]
    rw [unhexI_odd _ (s.size / 2) (by rw [bytesOf_length]; omega)]
    exact Ev.const rfl
end R2
end Go.Proofs.YtodmbjbfigifnaaDoor.Pure
end

section
set_option linter.unusedVariables false
set_option linter.unusedSimpArgs false
namespace Go.Proofs.YtodmbjbfigifnaaDoor.Pure
open Go.RowKit Go.Proofs.YtodmbjbfigifnaaDoor.PAll Go.Proofs.YtodmbjbfigifnaaDoorW.PrintWords Go.Proofs.YtodmbjbfigifnaaDoorW.PrintLast Go.Proofs.YtodmbjbfigifnaaDoorW.PrintMore
open R2
theorem pre2 (l : List UInt8) : ([46, 46] : List UInt8).isPrefixOf l = true ↔ l.take 2 = [46, 46] := by
  match l with
  | [] => simp
  | [a] => simp
  | a :: b :: r =>
    simp only [List.isPrefixOf_cons_cons, List.take_succ_cons, List.take_zero, Bool.and_eq_true, beq_iff_eq, List.isPrefixOf_nil_left, and_true, List.cons.injEq]
    constructor
    · rintro ⟨h1, h2⟩; exact ⟨h1.symm, h2.symm⟩
    · rintro ⟨h1, h2⟩; exact ⟨h1.symm, h2.symm⟩
theorem dots_iff (s : ByteArray) (i : Nat) : (s.extract i (i + 2)).toList = ([46, 46] : List UInt8) ↔ Lib.occAt s.data.toList [46, 46] i = true := by
  unfold Lib.occAt
  rw [pre2, Go.ByteArray.toList_eq, Lib.extract_eq]
  simp only [Nat.add_sub_cancel_left]
/-- Nothing was said. -/
def nonP : ByteArray × ByteArray × Bool × Int := ((⟨#[]⟩ : ByteArray), (⟨#[]⟩ : ByteArray), false, 23)
theorem rp_skip (s : ByteArray) (hs : s.size ≤ 140737488351232) (n : Nat) (hn : n ≤ 33) (r : ByteArray × ByteArray × Bool × Int) (h : ∀ j, j < n → j + 2 ≤ s.size ∧ Lib.occAt s.data.toList [46, 46] j = false)
    (hr : Ev (fun k => tidelineref02_Parse.l0 k s (n : Int)) r) (d : Nat) : ∀ i : Nat, i + d = n → Ev (fun k => tidelineref02_Parse.l0 k s (i : Int)) r := by
  induction d with
  | zero => intro i hi; rw [show i = n by omega]; exact hr
  | succ d ih =>
    intro i hi
    obtain ⟨h1, h2⟩ := h i (by omega)
    have hnd : ¬ (s.extract i (i + 2)).toList = ([46, 46] : List UInt8) := by rw [dots_iff, h2]; simp
    refine Ev.step (fun k => by rw [tidelineref02_Parse.l0]) ?_
    have e2 : wrap64 ((i : Int) + 2) = ((i + 2 : Nat) : Int) := by rw [wrap_id (by omega) (by omega)]; rfl
    rw [e2]
    simp only [if_pos (show ((i + 2 : Nat) : Int) ≤ (s.size : Int) by omega), decide_eq_true (show (i : Int) ≤ 32 by omega)]
    refine Ev.step (fun k => by rw [tidelineref02_Parse.j1]) ?_
    rw [e2]
    simp only [if_true, if_pos (show (0 : Int) ≤ (i : Int) by omega), if_pos (show (i : Int) ≤ ((i + 2 : Nat) : Int) by omega), if_pos (show ((i + 2 : Nat) : Int) ≤ (s.size : Int) by omega), Int.toNat_natCast, if_neg hnd]
    rw [wrap_succ (by omega)]
    exact ih (i + 1) (by omega)
theorem rp_end (s : ByteArray) (i : Nat) (hs : s.size ≤ 140737488351232) (h : s.size < i + 2 ∨ 32 < i) (hi : i ≤ 140737488351232) : Ev (fun k => tidelineref02_Parse.l0 k s (i : Int)) nonP := by
  refine Ev.step (fun k => by rw [tidelineref02_Parse.l0]) ?_
  have e2 : wrap64 ((i : Int) + 2) = ((i + 2 : Nat) : Int) := by rw [wrap_id (by omega) (by omega)]; rfl
  rw [e2]
  have J : Ev (fun k => tidelineref02_Parse.j1 k s (i : Int) false) nonP := by
    refine Ev.step (fun k => by rw [tidelineref02_Parse.j1]) ?_
    simp only [if_neg (show ¬ (false = true) by decide)]
    exact Ev.const rfl
  by_cases h1 : ((i + 2 : Nat) : Int) ≤ (s.size : Int)
  · simp only [if_pos h1, decide_eq_false (show ¬ (i : Int) ≤ 32 by omega)]; exact J
  · simp only [if_neg h1]; exact J
theorem unhE_run (s : ByteArray) : (runhE s).1 = (unhE s).1 ∧ ((runhE s).2 = true ↔ (unhE s).2 = 0) := by
  unfold runhE unhE
  cases unhexI (bytesOf s) <;> simp
theorem unhE_nil : unhE (⟨#[]⟩ : ByteArray) = (⟨#[]⟩, 0) := unhE_hexB (⟨#[]⟩ : ByteArray)
theorem unhE_size (t : ByteArray) (h : (unhE t).2 = 0) : 2 * (unhE t).1.size = t.size := by
  have := congrArg ByteArray.size (hexB_unhE t h)
  rw [hexB_size] at this
  exact this
theorem rgE_sz {lo hi : ByteArray} {op : Bool} (h : rgE lo hi op = 0) : lo.size ≤ 16 ∧ hi.size ≤ 16 := by
  unfold rgE at h
  split at h
  · simp at h
  · omega
theorem size_extract (s : ByteArray) (a b : Nat) (hb : b ≤ s.size) : (s.extract a b).size = b - a := by
  rw [ByteArray.size_extract]; omega
theorem rp_hit (s : ByteArray) (hs : s.size ≤ 140737488351232) (n : Nat) (hn : n ≤ 32) (h2 : n + 2 ≤ s.size) (ho : Lib.occAt s.data.toList [46, 46] n = true) :
    Ev (fun k => tidelineref02_Parse.l0 k s (n : Int)) (parV (s.extract 0 n) (s.extract (n + 2) s.size) true) := by
  have hnd : (s.extract n (n + 2)).toList = ([46, 46] : List UInt8) := (dots_iff s n).2 ho
  refine Ev.step (fun k => by rw [tidelineref02_Parse.l0]) ?_
  have e2 : wrap64 ((n : Int) + 2) = ((n + 2 : Nat) : Int) := by rw [wrap_id (by omega) (by omega)]; rfl
  rw [e2]
  simp only [if_pos (show ((n + 2 : Nat) : Int) ≤ (s.size : Int) by omega), decide_eq_true (show (n : Int) ≤ 32 by omega)]
  refine Ev.step (fun k => by rw [tidelineref02_Parse.j1]) ?_
  rw [e2]
  simp only [if_true, if_pos (show (0 : Int) ≤ (n : Int) by omega), if_pos (show (n : Int) ≤ ((n + 2 : Nat) : Int) by omega), if_pos (show ((n + 2 : Nat) : Int) ≤ (s.size : Int) by omega), if_pos (show (n : Int) ≤ (s.size : Int) by omega), if_pos (show (0 : Int) ≤ ((n + 2 : Nat) : Int) by omega), Int.toNat_natCast, if_pos hnd]
  have sl := size_extract s 0 n (by omega)
  have sh := size_extract s (n + 2) s.size (by omega)
  generalize s.extract 0 n = lo at *
  generalize s.extract (n + 2) s.size = hi at *
  refine Ev.bind (runhex_f lo (by omega)) ?_
  obtain ⟨r1, r2⟩ := unhE_run lo
  obtain ⟨q1, q2⟩ := unhE_run hi
  unfold parV
  by_cases h : hi.toList = ([42] : List UInt8)
  · have e : (hi.toList == ([42] : List UInt8)) = true := by simpa using h
    simp only [if_pos h, e, if_true, unhE_nil]
    by_cases ho2 : (unhE lo).2 = 0
    · simp only [if_pos (r2.2 ho2), r1]
      refine Ev.bind (rgE_ref _ _ true) ?_
      by_cases h4 : rgE (unhE lo).1 (⟨#[]⟩ : ByteArray) true = 0
      · simp only [if_pos h4, h4, ho2, and_self, if_true]; exact Ev.const rfl
      · simp only [if_neg h4, h4, and_false, if_false]; exact Ev.const rfl
    · have : ¬ (runhE lo).2 = true := fun hh => ho2 (r2.1 hh)
      simp only [if_neg this, ho2, false_and, and_false, if_false]; exact Ev.const rfl
  · have e : (hi.toList == ([42] : List UInt8)) = false := by simpa using h
    simp only [if_neg h, e, if_neg (show ¬ (false = true) by decide)]
    by_cases hz : s.size ≤ 66
    · simp only [if_pos (show (s.size : Int) ≤ 66 by omega)]
      refine Ev.bind (runhex_f hi (by omega)) ?_
      by_cases ho2 : (unhE lo).2 = 0
      · simp only [if_pos (r2.2 ho2), r1]
        by_cases ho3 : (unhE hi).2 = 0
        · simp only [if_pos (q2.2 ho3), q1]
          refine Ev.bind (rgE_ref _ _ false) ?_
          by_cases h4 : rgE (unhE lo).1 (unhE hi).1 false = 0
          · simp only [if_pos h4, h4, ho2, ho3, and_self, if_true]; exact Ev.const rfl
          · simp only [if_neg h4, h4, and_false, if_false]; exact Ev.const rfl
        · have : ¬ (runhE hi).2 = true := fun hh => ho3 (q2.1 hh)
          simp only [if_neg this, ho3, false_and, and_false, if_false]; exact Ev.const rfl
      · have : ¬ (runhE lo).2 = true := fun hh => ho2 (r2.1 hh)
        simp only [if_neg this, ho2, false_and, and_false, if_false]; exact Ev.const rfl
    · simp only [if_neg (show ¬ (s.size : Int) ≤ 66 by omega), ite_self]
      refine Ev.const ?_
      rw [if_neg]
      rintro ⟨_, _, h3, h4⟩
      have := unhE_size hi h3
      have := (rgE_sz h4).2
      omega
/-- The document's Parse is Parse. -/
theorem rparse_of (s lo hi : ByteArray) (ok : Bool) (hs : s.size < 4294967281) (hc : strings_Cut.f s (⟨#[46, 46]⟩ : ByteArray) = some (lo, hi, ok)) :
    Ev (fun k => tidelineref02_Parse.f k s) (parV lo hi ok) ∧ lo.size ≤ s.size ∧ hi.size ≤ s.size := by
  unfold strings_Cut.f at hc
  rw [if_pos hs] at hc
  simp only [Option.some.injEq, Prod.mk.injEq] at hc
  have e : ∀ r, Ev (fun k => tidelineref02_Parse.l0 k s ((0 : Nat) : Int)) r → Ev (fun k => tidelineref02_Parse.f k s) r := fun r h => Ev.congr (fun k => by rw [tidelineref02_Parse.f]; rfl) h
  rcases Lib.index_spec s.data.toList (⟨#[46, 46]⟩ : ByteArray).data.toList with ⟨hm, hno⟩ | ⟨n, hn, hnl, ho, hno⟩
  · obtain ⟨c1, c2, c3⟩ := Lib.cutB_miss s (⟨#[46, 46]⟩ : ByteArray) hm
    rw [c1, c2, c3] at hc
    obtain ⟨rfl, rfl, rfl⟩ := hc
    refine ⟨?_, Nat.le_refl _, Nat.zero_le _⟩
    have ep : parV s ByteArray.empty false = nonP := by unfold parV nonP; simp
    rw [ep]
    refine e _ (rp_skip s (by omega) (min 33 (s.size - 1)) (by omega) _ ?_ (rp_end s _ (by omega) (by omega) (by omega)) (min 33 (s.size - 1)) 0 (by omega))
    intro j hj
    exact ⟨by omega, hno j (by rw [Array.length_toList]; show j ≤ s.size; omega)⟩
  · have hroom : n + 2 ≤ s.size := by
      rcases Lib.indexB_cases s (⟨#[46, 46]⟩ : ByteArray) with h | ⟨i, h, h'⟩
      · have : Lib.index s.data.toList (⟨#[46, 46]⟩ : ByteArray).data.toList = -1 := h
        omega
      · have h2 : Lib.index s.data.toList (⟨#[46, 46]⟩ : ByteArray).data.toList = (i : Int) := h
        have h3 : i + 2 ≤ s.size := h'
        omega
    obtain ⟨c1, c2, c3⟩ := Lib.cutB_hit s (⟨#[46, 46]⟩ : ByteArray) n hn
    rw [c1, c2, c3] at hc
    have z : (⟨#[46, 46]⟩ : ByteArray).size = 2 := rfl
    rw [z] at hc
    obtain ⟨rfl, rfl, rfl⟩ := hc
    have sl := size_extract s 0 n (by omega)
    have sh := size_extract s (n + 2) s.size (by omega)
    refine ⟨?_, by omega, by omega⟩
    by_cases hb : n ≤ 32
    · refine e _ (rp_skip s (by omega) n (by omega) _ ?_ (rp_hit s (by omega) n hb hroom ho) n 0 (by omega))
      intro j hj
      exact ⟨by omega, hno j hj⟩
    · have ep : parV (s.extract 0 n) (s.extract (n + 2) s.size) true = nonP := by
        unfold parV nonP
        simp only
        rw [if_neg]
        rintro ⟨_, h3, _, h4⟩
        have := unhE_size _ h3
        have := (rgE_sz h4).1
        omega
      rw [ep]
      refine e _ (rp_skip s (by omega) 33 (by omega) _ ?_ (rp_end s 33 (by omega) (by omega) (by omega)) 33 0 (by omega))
      intro j hj
      exact ⟨by omega, hno j (by omega)⟩
end Go.Proofs.YtodmbjbfigifnaaDoor.Pure
end

section
set_option linter.unusedVariables false
set_option linter.unusedSimpArgs false
namespace Go.Proofs.YtodmbjbfigifnaaDoor.Pure
open Go.RowKit Go.Proofs.YtodmbjbfigifnaaDoor.PAll Go.Proofs.YtodmbjbfigifnaaDoorW.PrintWords Go.Proofs.YtodmbjbfigifnaaDoorW.PrintLast Go.Proofs.YtodmbjbfigifnaaDoorW.PrintMore
/-! What span.Parse reads is written so again. -/
theorem parV_sizes {lo hi : ByteArray} {ok : Bool} (h : (parV lo hi ok).2.2.2 = 0) : rgE (parV lo hi ok).1 (parV lo hi ok).2.1 (parV lo hi ok).2.2.1 = 0 ∧ ok = true ∧ hexB (parV lo hi ok).1 = lo ∧
    ((parV lo hi ok).2.2.1 = true ∧ hi.toList = [42] ∨ (parV lo hi ok).2.2.1 = false ∧ hexB (parV lo hi ok).2.1 = hi) := by
  unfold parV at h ⊢
  simp only at h ⊢
  generalize e : (hi.toList == ([42] : List UInt8)) = op at h ⊢
  cases op with
  | true =>
    simp only [if_true] at h ⊢
    by_cases hc : ok = true ∧ (unhE lo).2 = 0 ∧ (unhE (⟨#[]⟩ : ByteArray)).2 = 0 ∧ rgE (unhE lo).1 (unhE (⟨#[]⟩ : ByteArray)).1 true = 0
    · rw [if_pos hc]
      exact ⟨hc.2.2.2, hc.1, hexB_unhE lo hc.2.1, .inl ⟨rfl, by simpa using e⟩⟩
    · rw [if_neg hc] at h; simp at h
  | false =>
    simp only [if_neg (show ¬ (false = true) by decide)] at h ⊢
    by_cases hc : ok = true ∧ (unhE lo).2 = 0 ∧ (unhE hi).2 = 0 ∧ rgE (unhE lo).1 (unhE hi).1 false = 0
    · rw [if_pos hc]
      exact ⟨hc.2.2.2, hc.1, hexB_unhE lo hc.2.1, .inr ⟨rfl, hexB_unhE hi hc.2.2.1⟩⟩
    · rw [if_neg hc] at h; simp at h
theorem cut_back (s lo hi : ByteArray) (hs : s.size < 4294967281) (hc : strings_Cut.f s (⟨#[46, 46]⟩ : ByteArray) = some (lo, hi, true)) : lo ++ (⟨#[46, 46]⟩ : ByteArray) ++ hi = s := by
  unfold strings_Cut.f at hc
  rw [if_pos hs] at hc
  simp only [Option.some.injEq, Prod.mk.injEq] at hc
  rcases Lib.index_spec s.data.toList (⟨#[46, 46]⟩ : ByteArray).data.toList with ⟨hm, _⟩ | ⟨n, hn, hnl, ho, _⟩
  · obtain ⟨c1, c2, c3⟩ := Lib.cutB_miss s (⟨#[46, 46]⟩ : ByteArray) hm
    rw [c3] at hc
    exact absurd hc.2.2 (by decide)
  · obtain ⟨c1, c2, c3⟩ := Lib.cutB_hit s (⟨#[46, 46]⟩ : ByteArray) n hn
    rw [c1, c2] at hc
    obtain ⟨rfl, rfl, _⟩ := hc
    have hp := (pre2 _).1 ho
    have z : (⟨#[46, 46]⟩ : ByteArray).size = 2 := rfl
    rw [z]
    apply ba_eq.1
    have e1 : (s.extract 0 n).data.toList = s.data.toList.take n := by rw [Lib.extract_eq]; simp
    have e2 : (s.extract (n + 2) s.size).data.toList = s.data.toList.drop (n + 2) := by rw [Lib.extract_to_end]
    rw [Go.ByteArray.toList_eq, Go.ByteArray.toList_eq, ByteArray.data_append, ByteArray.data_append, Array.toList_append, Array.toList_append, e1, e2]
    show s.data.toList.take n ++ [46, 46] ++ s.data.toList.drop (n + 2) = _
    rw [← hp, List.append_assoc, ← List.drop_drop, List.take_append_drop, List.take_append_drop]
theorem par_prt (s lo hi : ByteArray) (ok : Bool) (hs : s.size < 4294967281) (hc : strings_Cut.f s (⟨#[46, 46]⟩ : ByteArray) = some (lo, hi, ok)) (h : (parV lo hi ok).2.2.2 = 0) :
    prtV (parV lo hi ok).1 (parV lo hi ok).2.1 (parV lo hi ok).2.2.1 = (s, 0) ∧ (parV lo hi ok).1.size ≤ 16 ∧ (parV lo hi ok).2.1.size ≤ 16 := by
  obtain ⟨h3, h4, h5, h6⟩ := parV_sizes h
  subst h4
  have hb := cut_back s lo hi hs hc
  refine ⟨?_, rgE_sizes h3⟩
  unfold prtV
  rw [if_pos h3]
  refine Prod.ext ?_ rfl
  rcases h6 with ⟨h7, h8⟩ | ⟨h7, h8⟩
  · rw [h7]
    simp only [if_true]
    rw [h5, ← hb]
    have e : hi = (⟨#[42]⟩ : ByteArray) := ba_eq.1 (by rw [h8]; decide +kernel)
    rw [e]
    apply ba_eq.1
    rw [Go.ByteArray.toList_eq, Go.ByteArray.toList_eq]
    simp
  · rw [h7]
    simp only [if_neg (show ¬ (false = true) by decide)]
    rw [h5, h8, hb]
end Go.Proofs.YtodmbjbfigifnaaDoor.Pure
end
