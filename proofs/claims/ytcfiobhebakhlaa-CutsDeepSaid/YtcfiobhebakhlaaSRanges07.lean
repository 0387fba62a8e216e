import Derived.Test.YtcfiobhebakhlaaPAllx0
import Derived.Test.YtcfiobhebakhlaaPAllx2
import Derived.Test.YtcfiobhebakhlaaSEv
import Derived.Test.YtcfiobhebakhlaaSLists
import Derived.Test.YtcfiobhebakhlaaSStarts
import Derived.Test.YtcfiobhebakhlaaSRefstarts
import Derived.Test.YtcfiobhebakhlaaSBorders
import Derived.Test.YtcfiobhebakhlaaSSpanE
import Derived.Test.YtcfiobhebakhlaaSSpanR
import Derived.Test.YtcfiobhebakhlaaSSplitE
import Derived.Test.YtcfiobhebakhlaaSStr
set_option linter.unusedVariables false
set_option linter.unusedSimpArgs false
namespace Go.Proofs.Ytcfiobhebakhlaa.Pure
open Go.RowKit Go.Proofs.Ytcfiobhebakhlaa.PAll Go.Proofs.YtcfiobhebakhlaaW.PrintWords Go.Proofs.YtcfiobhebakhlaaW.PrintLast Go.Proofs.YtcfiobhebakhlaaW.PrintMore
open Go.Proofs.Ytcfiobhebakhlaa.Str in
theorem adj_less : ∀ (l : List ByteArray) (i j : Nat) (a b : ByteArray), adj l = true → i < j → l[i]? = some a → l[j]? = some b → Op.bytesLess a.toList b.toList = true
  | [], i, j, a, b, _, _, h, _ => by simp at h
  | [x], i, j, a, b, _, hij, h, h' => by
    cases j with
    | zero => omega
    | succ j => simp at h'
  | x :: y :: r, i, j, a, b, hadj, hij, h, h' => by
    simp only [adj, Bool.and_eq_true] at hadj
    cases j with
    | zero => omega
    | succ j =>
      cases i with
      | succ i => exact adj_less (y :: r) i j a b hadj.2 (by omega) h h'
      | zero =>
        simp only [List.getElem?_cons_zero, Option.some.injEq] at h
        subst h
        cases j with
        | zero =>
          simp only [List.getElem?_cons_succ, List.getElem?_cons_zero, Option.some.injEq] at h'
          subst h'
          exact hadj.1
        | succ j => exact less_trans hadj.1 (adj_less (y :: r) 0 (j + 1) y b hadj.2 (by omega) rfl h')
/-- All keys are in the range. -/
def allIn (lo hi : ByteArray) (op : Bool) (l : List ByteArray) : Bool := l.all (fun s => hasK lo hi op s)
theorem getD_some (l : List ByteArray) (i : Nat) (h : i < l.length) : l[i]? = some (l.getD i ByteArray.empty) := by
  rw [List.getD_eq_getElem?_getD, List.getElem?_eq_getElem h]; rfl
open Go.Proofs.Ytcfiobhebakhlaa.Str in
theorem okB_bdr (l : List ByteArray) (p : Nat) (lo hi : ByteArray) (op : Bool) (hadj : adj l = true) (hin : allIn lo hi op l = true) (hp1 : 1 ≤ p) (hpn : p ≤ l.length) (d : Nat) :
    ∀ i (lo' : ByteArray), i + d = p → 1 ≤ i → (lo' = lo ∧ i = 1 ∨ lo' = l.getD ((i - 1) * l.length / p) ByteArray.empty ∧ 2 ≤ i) → okB lo' (bdr l p i) hi op = true := by
  have hk : ∀ j, j < l.length → hasK lo hi op (l.getD j ByteArray.empty) = true := fun j hj => List.all_eq_true.1 hin _ (List.mem_of_getElem? (getD_some l j hj))
  induction d with
  | zero => intro i lo' hi' h1 _; rw [bdr_end l p i (by omega)]; rfl
  | succ d ih =>
    intro i lo' hi' h1 hlo
    rw [bdr_step l p i (by omega)]
    have hb := st_lt l.length p i (by omega) (by omega)
    have hkb := hk _ hb
    simp only [hasK, Bool.and_eq_true, decide_eq_true_eq] at hkb
    obtain ⟨⟨⟨h2, h3⟩, h4⟩, h5⟩ := hkb
    simp only [okB, Bool.and_eq_true, decide_eq_true_eq]
    have step : (i - 1) * l.length / p + 1 ≤ i * l.length / p := by
      have e : i * l.length = (i - 1) * l.length + l.length := by rw [← Nat.succ_mul]; congr 1; omega
      rw [e, Nat.le_div_iff_mul_le (by omega), Nat.add_mul, Nat.one_mul]
      have := Nat.div_mul_le_self ((i - 1) * l.length) p
      omega
    refine ⟨h3, ?_, h5, ih (i + 1) _ (by omega) (by omega) (.inr ⟨by rw [Nat.add_sub_cancel], by omega⟩)⟩
    rcases hlo with ⟨rfl, rfl⟩ | ⟨rfl, h6⟩
    · have h0 : 0 < l.length := by omega
      have e0 : (1 - 1) * l.length / p = 0 := by simp
      rw [e0] at step
      have hk0 := hk 0 h0
      simp only [hasK, Bool.and_eq_true, decide_eq_true_eq, Bool.not_eq_true'] at hk0
      exact le_less_trans hk0.1.2 (adj_less l 0 _ _ _ hadj (by omega) (getD_some l 0 h0) (getD_some l _ hb))
    · exact adj_less l _ _ _ _ hadj (by omega) (getD_some l _ (by omega)) (getD_some l _ hb)
/-- What Ranges answers. -/
def ranE (lo hi : ByteArray) (op : Bool) (l : List ByteArray) (a : Int) : List S36 × Int :=
  if rgE lo hi op = 0 then (if chkE l = 0 then (if allIn lo hi op l = true then (if (borE l a).2 = 0 then (rngs lo (borE l a).1 hi op, 0) else ([], (borE l a).2)) else ([], 22)) else ([], chkE l)) else ([], rgE lo hi op)
theorem chkE_adj {l : List ByteArray} (h : chkE l = 0) : adj l = true := by
  unfold chkE at h
  split at h
  · omega
  · split at h
    · assumption
    · omega
theorem okB_bor (l : List ByteArray) (a : Int) (lo hi : ByteArray) (op : Bool) (hc : chkE l = 0) (hin : allIn lo hi op l = true) (hb : (borE l a).2 = 0) : okB lo (borE l a).1 hi op = true := by
  unfold borE at hb ⊢
  rw [if_pos hc] at hb ⊢
  by_cases h : (l.length : Int) < 1 ∨ (l.length : Int) > 256 ∨ a < 1 ∨ a > (l.length : Int)
  · rw [if_pos h] at hb; simp at hb
  · rw [if_neg h]
    exact okB_bdr l a.toNat lo hi op (chkE_adj hc) hin (by omega) (by omega) (a.toNat - 1) 1 lo (by omega) (by omega) (.inl ⟨rfl, rfl⟩)
theorem ran_l0 (lo hi : ByteArray) (op : Bool) (l : List ByteArray) (a : Int) (hl : l.length ≤ 8796093022208) (hr : rgE lo hi op = 0) (hc : chkE l = 0) (d : Nat) : ∀ i : Nat, i + d = l.length →
    Ev (fun k => cuts_Ranges.l0 k l a l (l.length : Int) (i : Int) lo hi op) (if allIn lo hi op (l.drop i) = true then (splE lo hi op (borE l a).1 |> fun r => if (borE l a).2 = 0 then r else ([], (borE l a).2)) else ([], 22)) := by
  induction d with
  | zero =>
    intro i hd
    refine Ev.step (fun k => by rw [cuts_Ranges.l0]) ?_
    simp only [if_neg (show ¬ (i : Int) < (l.length : Int) by omega)]
    rw [List.drop_of_length_le (by omega)]
    refine Ev.bind (bor_ok l (by omega) a) ?_
    have : allIn lo hi op [] = true := rfl
    rw [if_pos this]
    by_cases hb : (borE l a).2 = 0
    · simp only [if_pos hb]
      have hbl := borE_len l a
      by_cases h0 : (borE l a).1.length ≤ 3518437208881
      · exact Ev.bind (split_f lo hi op _ h0) (Ev.const rfl)
      · exfalso
        unfold borE at hb h0
        rw [if_pos hc] at hb h0
        split at hb
        · simp at hb
        · rename_i h; rw [if_neg h] at h0; simp only [bdr_length] at h0; omega
    · simp only [if_neg hb]; exact Ev.const rfl
  | succ d ih =>
    intro i hd
    refine Ev.step (fun k => by rw [cuts_Ranges.l0]) ?_
    simp only [if_pos (show (i : Int) < (l.length : Int) by omega), if_pos (show (0 : Int) ≤ (i : Int) by omega)]
    rw [rdOf_nat _ l i (by omega), List.drop_eq_getElem_cons (show i < l.length by omega), wrap_succ (by omega)]
    refine Ev.bind (hasK_f lo hi op _) ?_
    simp only [allIn, List.all_cons]
    by_cases h : hasK lo hi op l[i] = true
    · simp only [h, if_true, Bool.true_and]; exact ih (i + 1) (by omega)
    · simp only [h, Bool.false_and]; exact Ev.const rfl
theorem ran_ok (lo hi : ByteArray) (op : Bool) (l : List ByteArray) (a : Int) (hl : l.length ≤ 8796093022208) : Ev (fun k => cuts_Ranges.f k lo hi op l a) (ranE lo hi op l a) := by
  refine Ev.congr (fun k => by rw [cuts_Ranges.f]) ?_
  refine Ev.bind (rgE_f lo hi op) ?_
  unfold ranE
  by_cases hr : rgE lo hi op = 0
  · simp only [if_pos hr]
    refine Ev.bind (chk_ok l (by omega)) ?_
    by_cases hc : chkE l = 0
    · simp only [if_pos hc]
      refine Ev.val (ran_l0 lo hi op l a hl hr hc l.length 0 (by omega)) ?_
      rw [List.drop_zero]
      by_cases hin : allIn lo hi op l = true
      · rw [if_pos hin, if_pos hin]
        by_cases hb : (borE l a).2 = 0
        · simp only [if_pos hb, splE, if_pos hr, if_pos (okB_bor l a lo hi op hc hin hb)]
        · simp only [if_neg hb]
      · rw [if_neg hin, if_neg hin]
    · simp only [if_neg hc]; exact Ev.const rfl
  · simp only [if_neg hr]; exact Ev.const rfl
end Go.Proofs.Ytcfiobhebakhlaa.Pure
