/- What is proved: for every range, list of keys and number of parts (within the bound of DOC.md), when cuts.Ranges answers without an error, its ranges are as many as the parts, they rise and tile the range, and each of them holds just the keys of its part; with an error there are no ranges. -/
import Derived.Test.YtcfiobhebakhlaaPAllx0
import Derived.Test.YtcfiobhebakhlaaPAllx3
import Derived.Test.YtcfiobhebakhlaaQCutsTile
import Derived.Test.YtcfiobhebakhlaaSEv
import Derived.Test.YtcfiobhebakhlaaSLists
import Derived.Test.YtcfiobhebakhlaaSStarts
import Derived.Test.YtcfiobhebakhlaaSRefstarts
import Derived.Test.YtcfiobhebakhlaaSBorders
import Derived.Test.YtcfiobhebakhlaaSBeyond07
import Derived.Test.YtcfiobhebakhlaaSSpanE
import Derived.Test.YtcfiobhebakhlaaSSpanR
import Derived.Test.YtcfiobhebakhlaaSSplitE
import Derived.Test.YtcfiobhebakhlaaSRanges07
import Derived.Test.YtcfiobhebakhlaaSTilesP
set_option linter.unusedVariables false
set_option linter.unusedSimpArgs false
namespace Go.Proofs.Ytcfiobhebakhlaa.Pure
open Go.RowKit Go.Proofs.Ytcfiobhebakhlaa.PAll Go.Proofs.YtcfiobhebakhlaaW.PrintWords Go.Proofs.YtcfiobhebakhlaaW.PrintLast Go.Proofs.YtcfiobhebakhlaaW.PrintMore
open Go.Proofs.Ytcfiobhebakhlaa.Str Go.Proofs.Ytcfiobhebakhlaa.Tiles
theorem bdr_get (l : List ByteArray) (p i : Nat) (h : i + 1 < p) : (bdr l p 1).getD i ByteArray.empty = l.getD ((i + 1) * l.length / p) ByteArray.empty := by
  unfold bdr
  rw [List.getD_eq_getElem?_getD, List.getElem?_map, List.getElem?_drop, List.getElem?_range (by omega)]
  simp [Nat.add_comm]
theorem less_idx {l : List ByteArray} (h : adj l = true) {i j : Nat} (hi : i < l.length) (hj : j < l.length) : Op.bytesLess (l.getD i ByteArray.empty).toList (l.getD j ByteArray.empty).toList = decide (i < j) := by
  rcases Nat.lt_trichotomy i j with e | e | e
  · rw [adj_less l i j _ _ h e (getD_some l i hi) (getD_some l j hj), decide_eq_true e]
  · subst e; rw [less_irrefl, decide_eq_false (by omega)]
  · rw [less_asymm (adj_less l j i _ _ h e (getD_some l j hj) (getD_some l i hi)), decide_eq_false (by omega)]
/-- Which keys a part has. -/
theorem part_has (lo hi : ByteArray) (op : Bool) (l : List ByteArray) (p : Nat) (hp1 : 1 ≤ p) (hpn : p ≤ l.length) (hadj : adj l = true) (hin : allIn lo hi op l = true) (hr : rgE lo hi op = 0) (hne : op = true ∨ Op.bytesLess lo.toList hi.toList = true)
    (j : Nat) (hj : j < p) (i : Nat) (hi' : i < l.length) :
    ∃ r, (rngs lo (bdr l p 1) hi op)[j]? = some r ∧ hasK r.f0 r.f1 r.f2 (l.getD i ByteArray.empty) = (decide (j * l.length / p ≤ i) && decide (i < (j + 1) * l.length / p)) := by
  have hlen : (bdr l p 1).length = p - 1 := bdr_length l p 1
  have hok : okB lo (bdr l p 1) hi op = true := okB_bdr l p lo hi op hadj hin hp1 hpn (p - 1) 1 lo (by omega) (by omega) (.inl ⟨rfl, rfl⟩)
  obtain ⟨i1, _, _⟩ := rngs_ris hi op (bdr l p 1) lo hok hr hne
  have hg := rngs_get hi op (bdr l p 1) lo j (by omega)
  refine ⟨_, hg, ?_⟩
  have hem := List.all_eq_true.1 i1 _ (List.mem_of_getElem? hg)
  simp only [Bool.not_eq_true'] at hem
  have hrg := (emp_iff.1 hem).1
  have hk : hasK lo hi op (l.getD i ByteArray.empty) = true := List.all_eq_true.1 hin _ (List.mem_of_getElem? (getD_some l i hi'))
  simp only [hasK, Bool.and_eq_true, decide_eq_true_eq, Bool.not_eq_true'] at hk
  obtain ⟨⟨⟨_, h3⟩, h4⟩, h5⟩ := hk
  unfold hasK
  rw [decide_eq_true hrg, decide_eq_true h3]
  simp only [Bool.true_and]
  congr 1
  · by_cases hj0 : j = 0
    · subst hj0; rw [if_pos rfl, h4, decide_eq_true (show 0 * l.length / p ≤ i by simp)]; rfl
    · rw [if_neg hj0, bdr_get l p (j - 1) (by omega), show j - 1 + 1 = j by omega, less_idx hadj hi' (st_lt l.length p j (by omega) (by omega))]
      by_cases e : i < j * l.length / p
      · rw [decide_eq_true e, decide_eq_false (by omega)]; rfl
      · rw [decide_eq_false e, decide_eq_true (by omega)]; rfl
  · rw [hlen]
    by_cases hjl : j < p - 1
    · rw [if_pos hjl, if_pos hjl, bdr_get l p j (by omega), less_idx hadj hi' (st_lt l.length p (j + 1) (by omega) (by omega))]; rfl
    · rw [if_neg hjl, if_neg hjl]
      have e : (j + 1) * l.length / p = l.length := by
        rw [show j + 1 = p by omega]; exact Nat.mul_div_cancel_left _ (by omega)
      rw [e, decide_eq_true hi']; exact h5
theorem tile_l1 (lo hi : ByteArray) (op : Bool) (l : List ByteArray) (p : Nat) (hp1 : 1 ≤ p) (hpn : p ≤ l.length) (hn : l.length ≤ 256) (hadj : adj l = true) (hin : allIn lo hi op l = true) (hr : rgE lo hi op = 0) (hne : op = true ∨ Op.bytesLess lo.toList hi.toList = true)
    (j : Nat) (hj : j < p) (hnext : Ev (fun k => tidelinelaw07_CutsTile.l0 k l (p : Int) (rngs lo (bdr l p 1) hi op) (sts l.length p) ((j + 1 : Nat) : Int)) true) (d : Nat) : ∀ (i : Nat), i + d = l.length →
    Ev (fun k => tidelinelaw07_CutsTile.l1 k l (p : Int) (rngs lo (bdr l p 1) hi op) (sts l.length p) (j : Int) (((j + 1) * l.length / p : Nat) : Int) (i : Int)) true := by
  have hlen : (rngs lo (bdr l p 1) hi op).length = p := by rw [rngs_length, bdr_length]; omega
  induction d with
  | zero =>
    intro i hd
    refine Ev.step (fun k => by rw [tidelinelaw07_CutsTile.l1]) ?_
    simp only [if_neg (show ¬ (i : Int) < (l.length : Int) by omega)]
    rw [wrap_succ (by omega)]
    exact hnext
  | succ d ih =>
    intro i hd
    refine Ev.step (fun k => by rw [tidelinelaw07_CutsTile.l1]) ?_
    obtain ⟨r, hrg, hrk⟩ := part_has lo hi op l p hp1 hpn hadj hin hr hne j hj i (by omega)
    have er : rd_T36 (rngs lo (bdr l p 1) hi op) (j : Int) = r := by
      unfold rd_T36; rw [Int.toNat_natCast, List.getD_eq_getElem?_getD, hrg]; rfl
    have es : rd (sts l.length p) (j : Int) = ((j * l.length / p : Nat) : Int) := by
      unfold rd; rw [Int.toNat_natCast, List.getD_eq_getElem?_getD, sts_get _ _ _ hj]; rfl
    have ek : rdOf ByteArray.empty l (i : Int) = l.getD i ByteArray.empty := by unfold rdOf; rw [Int.toNat_natCast]
    rw [er, es, ek, hlen, sts_length, wrap_succ (by omega)]
    simp only [if_pos (show (i : Int) < (l.length : Int) by omega), if_pos (show (0 : Int) ≤ (j : Int) by omega), if_pos (show (j : Int) < (p : Int) by omega), if_pos (show (0 : Int) ≤ (i : Int) by omega)]
    refine Ev.bind (hasK_f _ _ _ _) ?_
    rw [hrk]
    by_cases e1 : j * l.length / p ≤ i
    · simp only [if_pos (show (i : Int) ≥ ((j * l.length / p : Nat) : Int) by omega), decide_eq_true e1, Bool.true_and]
      by_cases e2 : i < (j + 1) * l.length / p
      · rw [decide_eq_true e2, decide_eq_true (show (i : Int) < (((j + 1) * l.length / p : Nat) : Int) by omega)]
        simp only [bne_self_eq_false, if_neg (show ¬ (false = true) by decide)]
        exact ih (i + 1) (by omega)
      · rw [decide_eq_false e2, decide_eq_false (show ¬ (i : Int) < (((j + 1) * l.length / p : Nat) : Int) by omega)]
        simp only [bne_self_eq_false, if_neg (show ¬ (false = true) by decide)]
        exact ih (i + 1) (by omega)
    · simp only [if_neg (show ¬ (i : Int) ≥ ((j * l.length / p : Nat) : Int) by omega), decide_eq_false e1, Bool.false_and, bne_self_eq_false, if_neg (show ¬ (false = true) by decide)]
      exact ih (i + 1) (by omega)
theorem tile_l0 (lo hi : ByteArray) (op : Bool) (l : List ByteArray) (p : Nat) (hp1 : 1 ≤ p) (hpn : p ≤ l.length) (hn : l.length ≤ 256) (hadj : adj l = true) (hin : allIn lo hi op l = true) (hr : rgE lo hi op = 0) (hne : op = true ∨ Op.bytesLess lo.toList hi.toList = true)
    (d : Nat) : ∀ (j : Nat), j + d = p → Ev (fun k => tidelinelaw07_CutsTile.l0 k l (p : Int) (rngs lo (bdr l p 1) hi op) (sts l.length p) (j : Int)) true := by
  induction d with
  | zero =>
    intro j hd
    refine Ev.step (fun k => by rw [tidelinelaw07_CutsTile.l0]) ?_
    simp only [if_neg (show ¬ (j : Int) < (p : Int) by omega)]
    exact Ev.const rfl
  | succ d ih =>
    intro j hd
    refine Ev.step (fun k => by rw [tidelinelaw07_CutsTile.l0]) ?_
    rw [wrap_succ (by omega), sts_length]
    simp only [if_pos (show (j : Int) < (p : Int) by omega), if_pos (show (0 : Int) ≤ ((j + 1 : Nat) : Int) by omega)]
    by_cases e : j + 1 < p
    · simp only [if_pos (show ((j + 1 : Nat) : Int) < (p : Int) by omega)]
      have es : rd (sts l.length p) ((j + 1 : Nat) : Int) = (((j + 1) * l.length / p : Nat) : Int) := by
        unfold rd; rw [Int.toNat_natCast, List.getD_eq_getElem?_getD, sts_get _ _ _ e]; rfl
      rw [es]
      refine Ev.step (fun k => by rw [tidelinelaw07_CutsTile.j2]) ?_
      exact tile_l1 lo hi op l p hp1 hpn hn hadj hin hr hne j (by omega) (ih (j + 1) (by omega)) l.length 0 (by omega)
    · simp only [if_neg (show ¬ ((j + 1 : Nat) : Int) < (p : Int) by omega)]
      refine Ev.step (fun k => by rw [tidelinelaw07_CutsTile.j2]) ?_
      have es : (j + 1) * l.length / p = l.length := by rw [show j + 1 = p by omega]; exact Nat.mul_div_cancel_left _ (by omega)
      have := tile_l1 lo hi op l p hp1 hpn hn hadj hin hr hne j (by omega) (ih (j + 1) (by omega)) l.length 0 (by omega)
      rw [es] at this
      exact this
theorem CutsTile : tidelinelaw07_CutsTile.Pure := by
  intro lo hi op l a _ hf wa
  refine Ev.rounds ?_
  refine Ev.congr (fun k => by rw [tidelinelaw07_CutsTile.f]) ?_
  obtain ⟨r, hr, hr'⟩ := beyond_ok l hf.1 lo hi op
  refine Ev.bind hr ?_
  cases r with
  | true => exact Ev.const rfl
  | false =>
    have hs := hr' rfl
    simp only [if_neg (show ¬ (false = true) by decide)]
    refine Ev.bind (ran_ok lo hi op l a (by omega)) ?_
    by_cases h0 : rgE lo hi op = 0
    case neg => unfold ranE; simp only [if_neg h0]; exact Ev.const rfl
    by_cases h1 : chkE l = 0
    case neg => unfold ranE; simp only [if_pos h0, if_neg h1]; exact Ev.const rfl
    by_cases h2 : allIn lo hi op l = true
    case neg => unfold ranE; simp only [if_pos h0, if_pos h1, if_neg h2]; exact Ev.const rfl
    by_cases h3 : (l.length : Int) < 1 ∨ (l.length : Int) > 256 ∨ a < 1 ∨ a > (l.length : Int)
    · have hb : borE l a = ([], 1) := by unfold borE; rw [if_pos h1, if_pos h3]
      unfold ranE; simp only [if_pos h0, if_pos h1, if_pos h2, hb]; exact Ev.const rfl
    · have hb : borE l a = (bdr l a.toNat 1, 0) := by unfold borE; rw [if_pos h1, if_neg h3]
      have he : ranE lo hi op l a = (rngs lo (bdr l a.toNat 1) hi op, 0) := by unfold ranE; simp only [if_pos h0, if_pos h1, if_pos h2, hb, if_true]
      rw [he]
      obtain ⟨p, rfl⟩ : ∃ p : Nat, a = (p : Int) := ⟨a.toNat, by omega⟩
      rw [Int.toNat_natCast]
      have hp1 : 1 ≤ p := by omega
      have hpn : p ≤ l.length := by omega
      have hn : l.length ≤ 256 := by omega
      have hadj := chkE_adj h1
      have hne : op = true ∨ Op.bytesLess lo.toList hi.toList = true := by
        have hk : hasK lo hi op (l.getD 0 ByteArray.empty) = true := List.all_eq_true.1 h2 _ (List.mem_of_getElem? (getD_some l 0 (by omega)))
        simp only [hasK, Bool.and_eq_true, decide_eq_true_eq, Bool.not_eq_true', Bool.or_eq_true] at hk
        rcases hk.2 with e | e
        · exact .inl e
        · exact .inr (le_less_trans hk.1.2 e)
      have hok : okB lo (bdr l p 1) hi op = true := okB_bdr l p lo hi op hadj h2 hp1 hpn (p - 1) 1 lo (by omega) (by omega) (.inl ⟨rfl, rfl⟩)
      obtain ⟨t1, t2⟩ := tilB_rngs lo hi op (bdr l p 1) hok h0 hne
      have hlen : (rngs lo (bdr l p 1) hi op).length = p := by rw [rngs_length, bdr_length]; omega
      simp only [if_true]
      refine Ev.bind (starts_ok l.length p hp1 hpn hn) ?_
      simp only [if_true, hlen, sts_length, span_Tile.f, span_Rising.f, t1, t2, Option.bind_some, Bool.not_true]
      refine Ev.step (fun k => by rw [tidelinelaw07_CutsTile.j0]) ?_
      simp only [if_neg (show ¬ (false = true) by decide)]
      exact tile_l0 lo hi op l p hp1 hpn hn hadj h2 h0 hne p 0 (by omega)
end Go.Proofs.Ytcfiobhebakhlaa.Pure
