/- For every range, list of keys and branch the law CutsDeep answers true: a range that is split at its keys, and each part again, as often as Depth says, has one key at most in each part then, and the parts tile it. It has no condition but the form's own reach. -/
import Derived.Test.YtcfiobhebakhlaaPAllx0
import Derived.Test.YtcfiobhebakhlaaPAllx4
import Derived.Test.YtcfiobhebakhlaaPAllx6
import Derived.Test.YtcfiobhebakhlaaQCutsDeep
import Derived.Test.YtcfiobhebakhlaaSEv
import Derived.Test.YtcfiobhebakhlaaSLists
import Derived.Test.YtcfiobhebakhlaaSStarts
import Derived.Test.YtcfiobhebakhlaaSRefstarts
import Derived.Test.YtcfiobhebakhlaaSBorders
import Derived.Test.YtcfiobhebakhlaaSBeyond07
import Derived.Test.YtcfiobhebakhlaaSSpanE
import Derived.Test.YtcfiobhebakhlaaSSpanR
import Derived.Test.YtcfiobhebakhlaaSSplitE
import Derived.Test.YtcfiobhebakhlaaSRanges07
import Derived.Test.YtcfiobhebakhlaaSRranges07
import Derived.Test.YtcfiobhebakhlaaSTilesP
import Derived.Test.YtcfiobhebakhlaaSPartP
set_option linter.unusedVariables false
set_option linter.unusedSimpArgs false
namespace Go.Proofs.Ytcfiobhebakhlaa.Pure
open Go.RowKit Go.Proofs.Ytcfiobhebakhlaa.PAll Go.Proofs.YtcfiobhebakhlaaW.PrintWords Go.Proofs.YtcfiobhebakhlaaW.PrintLast Go.Proofs.YtcfiobhebakhlaaW.PrintMore
open Go.Proofs.Ytcfiobhebakhlaa.Str Go.Proofs.Ytcfiobhebakhlaa.Tiles
def depthOf (b : Int) : Int := if b = 2 then 8 else if b = 3 then 6 else if b = 4 then 4 else if b = 5 then 4 else if b = 6 then 4 else if b ≤ 15 then 3 else 2
theorem rdepth_all : ∀ b : Fin 15, tidelineref07_Depth.f 20 ((b.val : Int) + 2) = some (depthOf ((b.val : Int) + 2), 0) := by decide +kernel
theorem pow_all : ∀ b : Fin 15, 256 ≤ (b.val + 2) ^ (depthOf ((b.val : Int) + 2)).toNat ∧ 0 ≤ depthOf ((b.val : Int) + 2) ∧ depthOf ((b.val : Int) + 2) ≤ 8 := by decide +kernel
theorem rdepth_ok (b : Int) (h : 2 ≤ b) (h' : b ≤ 16) : Ev (fun k => tidelineref07_Depth.f k b) (depthOf b, 0) := by
  have := rdepth_all ⟨(b - 2).toNat, by omega⟩
  have e : (((b - 2).toNat : Nat) : Int) + 2 = b := by omega
  simp only [e] at this
  exact ⟨20, fun k hk => at_rounds (tidelineref07_Depth.mono b) hk this⟩
theorem rdepth_bad (b : Int) (h : ¬ (2 ≤ b ∧ b ≤ 16)) : Ev (fun k => tidelineref07_Depth.f k b) (0, 1) := by
  refine ⟨0, fun k _ => ?_⟩
  unfold tidelineref07_Depth.f tidelineref07_right.f
  by_cases h2 : 2 ≤ b
  · have h3 : ¬ b ≤ 16 := fun h3 => h ⟨h2, h3⟩
    simp [h2, h3]
  · have h2' : ¬ b ≥ 2 := h2
    simp [h2']
/-- The keys of a part. -/
def kin (l : List ByteArray) (r : S36) : List ByteArray := l.filter (fun s => hasK r.f0 r.f1 r.f2 s)
theorem rngs_sub (hi : ByteArray) (op : Bool) (s : ByteArray) : ∀ (bs : List ByteArray) (lo : ByteArray), okB lo bs hi op = true → rgE lo hi op = 0 → ∀ r ∈ rngs lo bs hi op, hasK r.f0 r.f1 r.f2 s = true → hasK lo hi op s = true := by
  intro bs
  induction bs with
  | nil =>
    intro lo _ _ r hr h
    simp only [rngs, List.mem_singleton] at hr
    subst hr; exact h
  | cons b t ih =>
    intro lo h0 h1 r hr h
    simp only [okB, Bool.and_eq_true, decide_eq_true_eq] at h0
    obtain ⟨hb1, hb2, hb3, hb4⟩ := h0
    obtain ⟨g1, g2, g3, g4⟩ := rg0_iff.1 h1
    have hb : op = true ∨ Op.bytesLess b.toList hi.toList = true := by simpa using hb3
    simp only [rngs, List.mem_cons] at hr
    unfold hasK
    rw [decide_eq_true h1]
    rcases hr with rfl | hr
    · simp only [hasK, Bool.and_eq_true, decide_eq_true_eq, Bool.not_eq_true', Bool.false_or] at h
      obtain ⟨⟨⟨_, h3⟩, h4⟩, h5⟩ := h
      rw [decide_eq_true h3, h4]
      rcases hb with hb | hb
      · rw [hb]; rfl
      · rw [less_trans h5 hb]; simp
    · have hr0 : rgE b hi op = 0 := rg0_iff.2 ⟨hb1, g2, g3, fun ho => by rcases hb with hb | hb; rw [ho] at hb; cases hb; exact less_asymm hb⟩
      have := ih b hb4 hr0 r hr h
      simp only [hasK, Bool.and_eq_true, decide_eq_true_eq, Bool.not_eq_true'] at this
      obtain ⟨⟨⟨_, h3⟩, h4⟩, h5⟩ := this
      have h6 : Op.bytesLess s.toList lo.toList = false := by
        cases e : Op.bytesLess s.toList lo.toList with
        | false => rfl
        | true => have := less_trans e hb2; rw [h4] at this; cases this
      rw [decide_eq_true h3, h6, h5]; rfl
theorem kin_sub (l : List ByteArray) (r r' : S36) (h : ∀ s, hasK r'.f0 r'.f1 r'.f2 s = true → hasK r.f0 r.f1 r.f2 s = true) : kin l r' = kin (kin l r) r' := by
  unfold kin
  rw [List.filter_filter]
  congr 1
  funext s
  cases e : hasK r'.f0 r'.f1 r'.f2 s with
  | false => simp
  | true => simp [h s e]
/-- How many are between two places. -/
theorem filter_between (q : ByteArray → Bool) : ∀ (l : List ByteArray) (s t : Nat), s ≤ t → t ≤ l.length → (∀ i, i < l.length → q (l.getD i ByteArray.empty) = (decide (s ≤ i) && decide (i < t))) → (l.filter q).length = t - s := by
  intro l
  induction l with
  | nil => intro s t h1 h2 _; simp only [List.length_nil] at h2; simp; omega
  | cons a l ih =>
    intro s t h1 h2 h
    have ha := h 0 (by simp)
    have hi : ∀ i, i < l.length → q (l.getD i ByteArray.empty) = (decide (s - 1 ≤ i) && decide (i < t - 1)) := by
      intro i hi
      have := h (i + 1) (by simpa using hi)
      rw [List.getD_cons_succ] at this
      rw [this]
      congr 1
      · by_cases e : s ≤ i + 1
        · rw [decide_eq_true e, decide_eq_true (by omega)]
        · rw [decide_eq_false e, decide_eq_false (by omega)]
      · by_cases e : i + 1 < t
        · rw [decide_eq_true e, decide_eq_true (by omega)]
        · rw [decide_eq_false e, decide_eq_false (by omega)]
    have hih := ih (s - 1) (t - 1) (by omega) (by simp only [List.length_cons] at h2; omega) hi
    rw [List.getD_cons_zero] at ha
    rw [List.filter_cons]
    by_cases e : s = 0 ∧ 0 < t
    · have hq : q a = true := by rw [ha, decide_eq_true (by omega), decide_eq_true e.2]; rfl
      rw [if_pos hq, List.length_cons, hih]; omega
    · have hq : ¬ q a = true := by
        rw [ha]
        simp only [Bool.and_eq_true, decide_eq_true_eq]
        omega
      rw [if_neg hq, hih]; omega
theorem st_diff (c p j : Nat) (hp : 0 < p) : j * c / p ≤ (j + 1) * c / p ∧ (((j + 1) * c / p - j * c / p) - 1) * p < max c 1 := by
  have h1 := Nat.div_mul_le_self ((j + 1) * c) p
  have h2 : j * c < (j * c / p) * p + p := Nat.lt_div_mul_add hp
  have h3 : (j + 1) * c = j * c + c := Nat.succ_mul j c
  have h4 : j * c / p ≤ (j + 1) * c / p := Nat.div_le_div_right (by omega)
  refine ⟨h4, ?_⟩
  generalize (j + 1) * c / p = y at h1 h4 ⊢
  generalize j * c / p = x at h2 h4 ⊢
  by_cases e : x + 1 ≤ y
  · have : (y - x - 1) * p = y * p - (x * p + p) := by
      rw [Nat.sub_sub, Nat.sub_mul, Nat.add_mul, Nat.one_mul]
    rw [this]; omega
  · have : y - x - 1 = 0 := by omega
    rw [this]; omega
theorem adj_filter (q : ByteArray → Bool) (l : List ByteArray) (h : l.Pairwise (fun a b => Op.bytesLess a.toList b.toList = true)) : adj (l.filter q) = true := by
  have : ∀ m : List ByteArray, m.Pairwise (fun a b => Op.bytesLess a.toList b.toList = true) → adj m = true := by
    intro m hm
    induction m with
    | nil => rfl
    | cons a m ih =>
      obtain ⟨h1, h2⟩ := List.pairwise_cons.1 hm
      cases m with
      | nil => rfl
      | cons b m => simp only [adj, Bool.and_eq_true]; exact ⟨h1 b (by simp), ih h2⟩
  exact this _ (h.filter q)
theorem adj_pair (l : List ByteArray) (h : adj l = true) : l.Pairwise (fun a b => Op.bytesLess a.toList b.toList = true) := by
  rw [List.pairwise_iff_getElem]
  intro i j hi hj hij
  exact adj_less l i j _ _ h hij (List.getElem?_eq_getElem hi) (List.getElem?_eq_getElem hj)
theorem anyLong_of {l : List ByteArray} {lo hi : ByteArray} {op : Bool} (h : allIn lo hi op l = true) : anyLong l = false := by
  unfold anyLong
  rw [List.any_eq_false]
  intro s hs
  have := List.all_eq_true.1 h s hs
  simp only [hasK, Bool.and_eq_true, decide_eq_true_eq] at this
  simp; omega
theorem okB_app (hi : ByteArray) (op : Bool) (b1 : ByteArray) (t : List ByteArray) (ht : okB b1 t hi op = true) (hb1 : b1.size ≤ 16) (hb : (op || Op.bytesLess b1.toList hi.toList) = true) : ∀ (bs : List ByteArray) (lo : ByteArray), okB lo bs b1 false = true → Op.bytesLess lo.toList b1.toList = true →
    okB lo (bs ++ b1 :: t) hi op = true ∧ rngs lo bs b1 false ++ rngs b1 t hi op = rngs lo (bs ++ b1 :: t) hi op := by
  intro bs
  induction bs with
  | nil =>
    intro lo _ h
    refine ⟨?_, rfl⟩
    simp only [List.nil_append, okB, Bool.and_eq_true, decide_eq_true_eq]
    exact ⟨hb1, h, hb, ht⟩
  | cons b bs ih =>
    intro lo h0 h
    simp only [okB, Bool.and_eq_true, decide_eq_true_eq, Bool.false_or] at h0
    obtain ⟨h1, h2, h3, h4⟩ := h0
    obtain ⟨i1, i2⟩ := ih b h4 h3
    refine ⟨?_, by simp only [List.cons_append, rngs]; rw [i2]⟩
    simp only [List.cons_append, okB, Bool.and_eq_true, decide_eq_true_eq]
    refine ⟨h1, h2, ?_, i1⟩
    rw [Bool.or_eq_true] at hb ⊢
    rcases hb with hb | hb
    · exact .inl hb
    · exact .inr (less_trans h3 hb)
/-- A part that is split at its own borders. -/
theorem rngs_split (hi : ByteArray) (op : Bool) (a b : ByteArray) (o : Bool) (bs' : List ByteArray) (h' : okB a bs' b o = true) : ∀ (X : List S36) (lo : ByteArray) (bs : List ByteArray) (Y : List S36), okB lo bs hi op = true →
    X ++ ⟨a, b, o⟩ :: Y = rngs lo bs hi op → ∃ bs2, okB lo bs2 hi op = true ∧ X ++ (rngs a bs' b o ++ Y) = rngs lo bs2 hi op := by
  intro X
  induction X with
  | nil =>
    intro lo bs Y h0 h
    cases bs with
    | nil =>
      simp only [List.nil_append, rngs, List.cons.injEq, S36.mk.injEq] at h
      obtain ⟨⟨rfl, rfl, rfl⟩, rfl⟩ := h
      exact ⟨bs', h', by simp⟩
    | cons b1 t =>
      simp only [List.nil_append, rngs, List.cons.injEq, S36.mk.injEq] at h
      obtain ⟨⟨rfl, rfl, rfl⟩, rfl⟩ := h
      simp only [okB, Bool.and_eq_true, decide_eq_true_eq] at h0
      obtain ⟨h1, h2, h3, h4⟩ := h0
      obtain ⟨i1, i2⟩ := okB_app hi op b t h4 h1 h3 bs' a h' h2
      exact ⟨_, i1, by simpa using i2⟩
  | cons x X ih =>
    intro lo bs Y h0 h
    cases bs with
    | nil =>
      exfalso
      have := congrArg List.length h
      simp [rngs] at this
    | cons b1 t =>
      simp only [List.cons_append, rngs, List.cons.injEq] at h
      obtain ⟨rfl, h⟩ := h
      simp only [okB, Bool.and_eq_true, decide_eq_true_eq] at h0
      obtain ⟨h1, h2, h3, h4⟩ := h0
      obtain ⟨bs2, i1, i2⟩ := ih b1 t Y h4 h
      refine ⟨b1 :: bs2, ?_, ?_⟩
      · simp only [okB, Bool.and_eq_true, decide_eq_true_eq]; exact ⟨h1, h2, h3, i1⟩
      · simp only [List.cons_append, rngs]; rw [i2]
theorem kin_le (l : List ByteArray) (r : S36) : (kin l r).length ≤ l.length := List.length_filter_le _ _
theorem kin_take (l : List ByteArray) (r : S36) (j : Nat) (h : j < l.length) : kin (l.take (j + 1)) r = kin (l.take j) r ++ (if hasK r.f0 r.f1 r.f2 l[j] = true then [l[j]] else []) := by
  unfold kin
  rw [List.take_succ_eq_append_getElem h, List.filter_append, List.filter_cons]
  simp
section
variable (lo hi : ByteArray) (op : Bool) (l : List ByteArray) (b dep m : Int) (now next : List S36) (res : Bool)
theorem deep_l2 (hn : l.length ≤ 256) (i : Nat) (hi' : i < now.length) (h : Ev (fun k => tidelinelaw07_CutsDeep.l2 k l b dep now m next (i : Int) (kin l now[i]) (l.length : Int) lo hi op) res) (d : Nat) : ∀ j : Nat, j + d = l.length →
    Ev (fun k => tidelinelaw07_CutsDeep.l2 k l b dep now m next (i : Int) (kin (l.take j) now[i]) (j : Int) lo hi op) res := by
  induction d with
  | zero =>
    intro j hd
    obtain rfl : j = l.length := by omega
    rw [List.take_length]; exact h
  | succ d ih =>
    intro j hd
    refine Ev.step (fun k => by rw [tidelinelaw07_CutsDeep.l2]) ?_
    have hr : rd_T36 now (i : Int) = now[i] := rd_get hi'
    rw [hr, rdOf_nat _ l j (by omega), wrap_succ (by omega)]
    have hkl := kin_le (l.take j) now[i]
    have htl : (l.take j).length ≤ j := List.length_take_le _ _
    simp only [if_pos (show (j : Int) < (l.length : Int) by omega), if_pos (show (0 : Int) ≤ (i : Int) by omega), if_pos (show (i : Int) < (now.length : Int) by omega), if_pos (show (0 : Int) ≤ (j : Int) by omega)]
    refine Ev.bind (hasK_f _ _ _ _) ?_
    have hih := ih (j + 1) (by omega)
    rw [kin_take l _ j (by omega)] at hih
    by_cases e : hasK now[i].f0 now[i].f1 now[i].f2 l[j] = true
    · rw [if_pos e] at hih
      simp only [e, if_true, if_pos (show (kin (l.take j) now[i]).length < 8796093022208 by omega)]
      exact hih
    · rw [if_neg e, List.append_nil] at hih
      simp only [if_neg e]
      exact hih
/-- What becomes of a part. -/
def cutUp (l : List ByteArray) (b : Nat) (r : S36) : List S36 := if (kin l r).length < 2 then [r] else rngs r.f0 (bdr (kin l r) (min b (kin l r).length) 1) r.f1 r.f2
theorem kin_good {l : List ByteArray} (hadj : adj l = true) {r : S36} : adj (kin l r) = true ∧ allIn r.f0 r.f1 r.f2 (kin l r) = true :=
  ⟨adj_filter _ l (adj_pair l hadj), List.all_eq_true.2 fun s hs => (List.mem_filter.1 hs).2⟩
theorem deep_end (bn : Nat) (hb : b = (bn : Int)) (hb2 : 2 ≤ bn) (hb16 : bn ≤ 16) (hn : l.length ≤ 256) (hadj : adj l = true) (i : Nat) (hi' : i < now.length) (hr : rgE now[i].f0 now[i].f1 now[i].f2 = 0) (hnx : next.length ≤ 3000000000000) (hnow : now.length ≤ 3000000000000)
    (h : Ev (fun k => tidelinelaw07_CutsDeep.l1 k l b dep now m (next ++ cutUp l bn now[i]) ((i + 1 : Nat) : Int) lo hi op) res) :
    Ev (fun k => tidelinelaw07_CutsDeep.l2 k l b dep now m next (i : Int) (kin l now[i]) (l.length : Int) lo hi op) res := by
  refine Ev.step (fun k => by rw [tidelinelaw07_CutsDeep.l2]) ?_
  have hrd : rd_T36 now (i : Int) = now[i] := rd_get hi'
  have hkl := kin_le l now[i]
  rw [hrd, wrap_succ (q := i) (by omega)]
  simp only [if_neg (show ¬ (l.length : Int) < (l.length : Int) by omega), if_pos (show (0 : Int) ≤ (i : Int) by omega), if_pos (show (i : Int) < (now.length : Int) by omega)]
  unfold cutUp at h
  by_cases e : (kin l now[i]).length < 2
  · rw [if_pos e] at h
    simp only [if_pos (show ((kin l now[i]).length : Int) < 2 by omega), if_pos (show next.length < 3518437208883 by omega)]
    exact h
  · rw [if_neg e] at h
    simp only [if_neg (show ¬ ((kin l now[i]).length : Int) < 2 by omega)]
    have hmn : mn b ((kin l now[i]).length : Int) = ((min bn (kin l now[i]).length : Nat) : Int) := by unfold mn; rw [hb]; split <;> omega
    rw [hmn]
    refine Ev.bind (ran_ok _ _ _ _ _ (by omega)) ?_
    obtain ⟨g1, g2⟩ := kin_good hadj (r := now[i])
    have hc : chkE (kin l now[i]) = 0 := by unfold chkE; rw [anyLong_of g2, g1]; simp
    have hbE : borE (kin l now[i]) ((min bn (kin l now[i]).length : Nat) : Int) = (bdr (kin l now[i]) (min bn (kin l now[i]).length) 1, 0) := by
      unfold borE
      rw [if_pos hc, if_neg (by omega), Int.toNat_natCast]
    have hra : ranE now[i].f0 now[i].f1 now[i].f2 (kin l now[i]) ((min bn (kin l now[i]).length : Nat) : Int) = (rngs now[i].f0 (bdr (kin l now[i]) (min bn (kin l now[i]).length) 1) now[i].f1 now[i].f2, 0) := by
      unfold ranE
      rw [if_pos hr, if_pos hc, if_pos g2, hbE, if_pos rfl]
    rw [hra]
    have hln : (rngs now[i].f0 (bdr (kin l now[i]) (min bn (kin l now[i]).length) 1) now[i].f1 now[i].f2).length = min bn (kin l now[i]).length := by rw [rngs_length, bdr_length]; omega
    simp only [if_true, hln, if_neg (show ¬ (((min bn (kin l now[i]).length : Nat) : Int)) < 2 by omega), if_pos (show next.length + min bn (kin l now[i]).length < 3518437208883 by omega)]
    exact h
end
/-- A part that has few enough keys behind m splits. -/
def Fine (l : List ByteArray) (bn m : Nat) (r : S36) : Prop := ((kin l r).length - 1) * bn ^ m < l.length
theorem cutUp_len (l : List ByteArray) (bn : Nat) (h : 2 ≤ bn) (h16 : bn ≤ 16) (r : S36) : (cutUp l bn r).length ≤ 16 := by
  unfold cutUp
  split
  · simp
  · rw [rngs_length, bdr_length]; omega
theorem cutUp_ok {l : List ByteArray} (hadj : adj l = true) (bn : Nat) (h2 : 2 ≤ bn) {r : S36} (hc : ¬ (kin l r).length < 2) : okB r.f0 (bdr (kin l r) (min bn (kin l r).length) 1) r.f1 r.f2 = true := by
  obtain ⟨g1, g2⟩ := kin_good hadj (r := r)
  exact okB_bdr _ _ r.f0 r.f1 r.f2 g1 g2 (by omega) (by omega) (min bn (kin l r).length - 1) 1 r.f0 (by omega) (by omega) (.inl ⟨rfl, rfl⟩)
theorem fine_cut {l : List ByteArray} (hadj : adj l = true) (h1 : 1 ≤ l.length) (bn m : Nat) (h2 : 2 ≤ bn) {r : S36} (he : empK r.f0 r.f1 r.f2 = false) (hf : Fine l bn m r) : ∀ r' ∈ cutUp l bn r, Fine l bn (m + 1) r' := by
  intro r' hr'
  unfold cutUp at hr'
  by_cases hc : (kin l r).length < 2
  · rw [if_pos hc, List.mem_singleton] at hr'
    subst hr'
    unfold Fine
    rw [show (kin l r').length - 1 = 0 by omega]; omega
  · rw [if_neg hc] at hr'
    obtain ⟨g1, g2⟩ := kin_good hadj (r := r)
    obtain ⟨e1, e2⟩ := emp_iff.1 he
    have hok := cutUp_ok hadj bn h2 hc
    have hsub := rngs_sub r.f1 r.f2
    obtain ⟨j, hj⟩ := List.getElem?_of_mem hr'
    have hjl : j < min bn (kin l r).length := by
      have := (List.getElem?_eq_some_iff.1 hj).1
      rw [rngs_length, bdr_length] at this; omega
    have hkk : kin l r' = kin (kin l r) r' := kin_sub l r r' fun s hs => hsub s _ _ hok e1 r' hr' hs
    have hp1 : 1 ≤ min bn (kin l r).length := by omega
    have hpn : min bn (kin l r).length ≤ (kin l r).length := by omega
    obtain ⟨d1, d2⟩ := st_diff (kin l r).length (min bn (kin l r).length) j (by omega)
    have d3 : (j + 1) * (kin l r).length / min bn (kin l r).length ≤ (kin l r).length := by
      rw [Nat.div_le_iff_le_mul_add_pred (by omega)]
      have := Nat.mul_le_mul_right (kin l r).length (show j + 1 ≤ min bn (kin l r).length by omega)
      omega
    have hcount : (kin (kin l r) r').length = (j + 1) * (kin l r).length / min bn (kin l r).length - j * (kin l r).length / min bn (kin l r).length := by
      unfold kin at d1 d3 ⊢
      refine filter_between _ _ _ _ d1 d3 fun i hi => ?_
      obtain ⟨q, hq, hk⟩ := part_has r.f0 r.f1 r.f2 (kin l r) (min bn (kin l r).length) hp1 hpn g1 g2 e1 e2 j hjl i hi
      rw [hj] at hq
      obtain rfl := Option.some.inj hq
      exact hk
    unfold Fine at hf ⊢
    rw [hkk, hcount]
    generalize hcc : (j + 1) * (kin l r).length / min bn (kin l r).length - j * (kin l r).length / min bn (kin l r).length = c' at d2 ⊢
    generalize (kin l r).length = c at *
    by_cases hbc : bn ≤ c
    · rw [Nat.min_eq_left hbc] at d2
      have : (c' - 1) * bn ^ (m + 1) = (c' - 1) * bn * bn ^ m := by rw [Nat.pow_succ, Nat.mul_comm (bn ^ m) bn, Nat.mul_assoc]
      rw [this]
      refine Nat.lt_of_le_of_lt (Nat.mul_le_mul_right _ ?_) hf
      omega
    · rw [Nat.min_eq_right (by omega)] at d2
      have : c' - 1 = 0 := by
        rcases Nat.eq_zero_or_pos (c' - 1) with h | h
        · exact h
        · have := Nat.mul_le_mul_right c h
          omega
      rw [this]; omega
theorem deep_l4 (lo hi : ByteArray) (op : Bool) (l : List ByteArray) (hn : l.length ≤ 256) (now : List S36) (i : Nat) (hi' : i < now.length) (hnl : now.length ≤ 100000000000) (hk : (kin l now[i]).length ≤ 1) (h : Ev (fun k => tidelinelaw07_CutsDeep.l3 k l now ((i + 1 : Nat) : Int) lo hi op) true) (d : Nat) :
    ∀ j : Nat, j + d = l.length → Ev (fun k => tidelinelaw07_CutsDeep.l4 k l now (i : Int) ((kin (l.take j) now[i]).length : Int) (j : Int) lo hi op) true := by
  induction d with
  | zero =>
    intro j hd
    refine Ev.step (fun k => by rw [tidelinelaw07_CutsDeep.l4]) ?_
    simp only [if_neg (show ¬ (j : Int) < (l.length : Int) by omega)]
    rw [List.take_of_length_le (by omega)]
    simp only [if_neg (show ¬ ((kin l now[i]).length : Int) > 1 by omega)]
    rw [wrap_succ (by omega)]
    exact h
  | succ d ih =>
    intro j hd
    refine Ev.step (fun k => by rw [tidelinelaw07_CutsDeep.l4]) ?_
    have hrd : rd_T36 now (i : Int) = now[i] := rd_get hi'
    have hkl := kin_le (l.take j) now[i]
    have htl : (l.take j).length ≤ j := List.length_take_le _ _
    rw [hrd, rdOf_nat _ l j (by omega), wrap_succ (q := j) (by omega)]
    simp only [if_pos (show (j : Int) < (l.length : Int) by omega), if_pos (show (0 : Int) ≤ (i : Int) by omega), if_pos (show (i : Int) < (now.length : Int) by omega), if_pos (show (0 : Int) ≤ (j : Int) by omega)]
    refine Ev.bind (hasK_f _ _ _ _) ?_
    have hih := ih (j + 1) (by omega)
    rw [kin_take l _ j (by omega)] at hih
    by_cases e : hasK now[i].f0 now[i].f1 now[i].f2 l[j] = true
    · rw [if_pos e] at hih
      simp only [e, if_true]
      rw [wrap_succ (by omega)]
      simpa using hih
    · rw [if_neg e, List.append_nil] at hih
      simp only [if_neg e]
      exact hih
theorem deep_l3 (lo hi : ByteArray) (op : Bool) (l : List ByteArray) (hn : l.length ≤ 256) (hr0 : rgE lo hi op = 0) (hne : op = true ∨ Op.bytesLess lo.toList hi.toList = true) (now : List S36) (hnl : now.length ≤ 100000000000) (bs : List ByteArray) (hbs : okB lo bs hi op = true) (hnow : now = rngs lo bs hi op) (hk : ∀ r ∈ now, (kin l r).length ≤ 1) (d : Nat) : ∀ i : Nat, i + d = now.length →
    Ev (fun k => tidelinelaw07_CutsDeep.l3 k l now (i : Int) lo hi op) true := by
  induction d with
  | zero =>
    intro i hd
    refine Ev.step (fun k => by rw [tidelinelaw07_CutsDeep.l3]) ?_
    simp only [if_neg (show ¬ (i : Int) < (now.length : Int) by omega)]
    have := (tilB_rngs lo hi op bs hbs hr0 hne).1
    rw [← hnow] at this
    simp only [span_Tile.f, this, Option.bind_some]
    exact Ev.const rfl
  | succ d ih =>
    intro i hd
    refine Ev.step (fun k => by rw [tidelinelaw07_CutsDeep.l3]) ?_
    simp only [if_pos (show (i : Int) < (now.length : Int) by omega)]
    exact deep_l4 lo hi op l hn now i (by omega) hnl (hk _ (List.getElem_mem (by omega))) (ih (i + 1) (by omega)) l.length 0 (by omega)
section
variable (lo hi : ByteArray) (op : Bool) (l : List ByteArray) (bn : Nat) (hb2 : 2 ≤ bn) (hb16 : bn ≤ 16) (h1 : 1 ≤ l.length) (hn : l.length ≤ 256) (hadj : adj l = true) (hr0 : rgE lo hi op = 0) (hne : op = true ∨ Op.bytesLess lo.toList hi.toList = true)
include hb2 hb16 h1 hn hadj hr0 hne
theorem deep_l1 (dep : Int) (now : List S36) (mm : Nat) (hnl : now.length ≤ 100000000000) (hnow : ∀ r ∈ now, Fine l bn mm r)
    (hK : ∀ nx : List S36, (∃ bs, okB lo bs hi op = true ∧ nx = rngs lo bs hi op) → (∀ r ∈ nx, Fine l bn (mm + 1) r) → nx.length ≤ 16 * now.length → Ev (fun k => tidelinelaw07_CutsDeep.l0 k l (bn : Int) dep nx (wrap64 ((mm : Int) + 1)) lo hi op) true) (d : Nat) :
    ∀ (i : Nat) (next : List S36), i + d = now.length → (∃ bs, okB lo bs hi op = true ∧ next ++ now.drop i = rngs lo bs hi op) → (∀ r ∈ next, Fine l bn (mm + 1) r) → next.length ≤ 16 * i →
    Ev (fun k => tidelinelaw07_CutsDeep.l1 k l (bn : Int) dep now (mm : Int) next (i : Int) lo hi op) true := by
  induction d with
  | zero =>
    intro i next hd hI hF hL
    refine Ev.step (fun k => by rw [tidelinelaw07_CutsDeep.l1]) ?_
    simp only [if_neg (show ¬ (i : Int) < (now.length : Int) by omega)]
    rw [List.drop_of_length_le (by omega), List.append_nil] at hI
    exact hK next hI hF (by omega)
  | succ d ih =>
    intro i next hd hI hF hL
    have hi' : i < now.length := by omega
    refine Ev.step (fun k => by rw [tidelinelaw07_CutsDeep.l1]) ?_
    simp only [if_pos (show (i : Int) < (now.length : Int) by omega)]
    obtain ⟨bs, hbs, hIe⟩ := hI
    rw [List.drop_eq_getElem_cons hi'] at hIe
    obtain ⟨i1, _, _⟩ := rngs_ris hi op bs lo hbs hr0 hne
    have hem : empK now[i].f0 now[i].f1 now[i].f2 = false := by
      have := List.all_eq_true.1 i1 now[i] (by rw [← hIe]; exact List.mem_append.2 (.inr List.mem_cons_self))
      simpa using this
    have h := deep_end lo hi op l (bn : Int) dep (mm : Int) now next true bn rfl hb2 hb16 hn hadj i hi' (emp_iff.1 hem).1 (by omega) (by omega)
      (ih (i + 1) (next ++ cutUp l bn now[i]) (by omega) ?_ ?_ ?_)
    · exact deep_l2 lo hi op l (bn : Int) dep (mm : Int) now next true hn i hi' h l.length 0 (by omega)
    · by_cases hc : (kin l now[i]).length < 2
      · refine ⟨bs, hbs, ?_⟩
        unfold cutUp
        rw [if_pos hc, List.append_assoc]; exact hIe
      · have := rngs_split hi op now[i].f0 now[i].f1 now[i].f2 _ (cutUp_ok hadj bn hb2 hc) next lo bs (now.drop (i + 1)) hbs hIe
        obtain ⟨bs2, k1, k2⟩ := this
        refine ⟨bs2, k1, ?_⟩
        unfold cutUp
        rw [if_neg hc, List.append_assoc]; exact k2
    · intro r hr
      rcases List.mem_append.1 hr with hr | hr
      · exact hF r hr
      · exact fine_cut hadj h1 bn mm hb2 hem (hnow _ (List.getElem_mem hi')) r hr
    · have := cutUp_len l bn hb2 hb16 now[i]
      rw [List.length_append]; omega
theorem deep_l0 (dn : Nat) (hdn : dn ≤ 8) (hpow : 256 ≤ bn ^ dn) (d : Nat) : ∀ (mm : Nat) (now : List S36), mm + d = dn → (∃ bs, okB lo bs hi op = true ∧ now = rngs lo bs hi op) → (∀ r ∈ now, Fine l bn mm r) → now.length ≤ 16 ^ mm →
    Ev (fun k => tidelinelaw07_CutsDeep.l0 k l (bn : Int) (dn : Int) now (mm : Int) lo hi op) true := by
  have hbig : ∀ mm, mm ≤ 8 → 16 ^ mm ≤ 100000000000 := fun mm h => Nat.le_trans (Nat.pow_le_pow_right (by decide) h) (by decide)
  induction d with
  | zero =>
    intro mm now hd hI hF hL
    refine Ev.step (fun k => by rw [tidelinelaw07_CutsDeep.l0]) ?_
    simp only [if_neg (show ¬ (mm : Int) < (dn : Int) by omega)]
    obtain ⟨bs, hbs, hnow⟩ := hI
    refine deep_l3 lo hi op l hn hr0 hne now (Nat.le_trans hL (hbig mm (by omega))) bs hbs hnow (fun r hr => ?_) now.length 0 (by omega)
    have := hF r hr
    unfold Fine at this
    obtain rfl : mm = dn := by omega
    rcases Nat.eq_zero_or_pos ((kin l r).length - 1) with h | h
    · omega
    · have h2 := Nat.mul_le_mul_right (bn ^ mm) h
      omega
  | succ d ih =>
    intro mm now hd hI hF hL
    refine Ev.step (fun k => by rw [tidelinelaw07_CutsDeep.l0]) ?_
    simp only [if_pos (show (mm : Int) < (dn : Int) by omega)]
    have hb := hbig mm (by omega)
    refine deep_l1 lo hi op l bn hb2 hb16 h1 hn hadj hr0 hne (dn : Int) now mm (Nat.le_trans hL hb) hF (fun nx k1 k2 k3 => ?_) now.length 0 [] (by omega) (by simpa using hI) (by simp) (by simp)
    rw [wrap_succ (by omega)]
    refine ih (mm + 1) nx (by omega) k1 k2 ?_
    rw [Nat.pow_succ]; omega
end
theorem CutsDeep : tidelinelaw07_CutsDeep.Pure := by
  intro lo hi op l b _ hf wb
  refine Ev.rounds ?_
  refine Ev.congr (fun k => by rw [tidelinelaw07_CutsDeep.f]) ?_
  obtain ⟨r, hr, hr'⟩ := beyond_ok l hf.1 lo hi op
  refine Ev.bind hr ?_
  cases r with
  | true => exact Ev.const rfl
  | false =>
    have hs := hr' rfl
    simp only [if_neg (show ¬ (false = true) by decide)]
    refine Ev.bind (rran_ok lo hi op l 1 (by omega)) ?_
    have done : Ev (fun k => tidelinelaw07_CutsDeep.j0 k l b 0 true lo hi op) true := by
      refine Ev.step (fun k => by rw [tidelinelaw07_CutsDeep.j0]) ?_
      exact Ev.const rfl
    by_cases hb : 2 ≤ b ∧ b ≤ 16
    case neg =>
      refine Ev.bind (rdepth_bad b hb) ?_
      have e : ((1 : Int) != 0) = true := by decide
      simp only [e]
      split <;> exact done
    refine Ev.bind (rdepth_ok b hb.1 hb.2) ?_
    have done : Ev (fun k => tidelinelaw07_CutsDeep.j0 k l b (depthOf b) true lo hi op) true := by
      refine Ev.step (fun k => by rw [tidelinelaw07_CutsDeep.j0]) ?_
      exact Ev.const rfl
    by_cases h0 : (ranE lo hi op l 1).2 = 0
    case neg => simp only [if_neg h0]; exact done
    simp only [if_pos h0, bne_self_eq_false]
    unfold ranE at h0
    by_cases g0 : rgE lo hi op = 0
    case neg => rw [if_neg g0] at h0; exact absurd h0 g0
    rw [if_pos g0] at h0
    by_cases g1 : chkE l = 0
    case neg => rw [if_neg g1] at h0; exact absurd h0 g1
    rw [if_pos g1] at h0
    by_cases g2 : allIn lo hi op l = true
    case neg => rw [if_neg g2] at h0; simp at h0
    rw [if_pos g2] at h0
    by_cases g3 : (l.length : Int) < 1 ∨ (l.length : Int) > 256 ∨ (1 : Int) < 1 ∨ (1 : Int) > (l.length : Int)
    · have : borE l 1 = ([], 1) := by unfold borE; rw [if_pos g1, if_pos g3]
      rw [this] at h0; simp at h0
    obtain ⟨bn, rfl⟩ : ∃ bn : Nat, b = (bn : Int) := ⟨b.toNat, by omega⟩
    have hpw := pow_all ⟨bn - 2, by omega⟩
    have eb : (((bn - 2 : Nat) : Nat) : Int) + 2 = (bn : Int) := by omega
    simp only [eb, show bn - 2 + 2 = bn by omega] at hpw
    obtain ⟨dn, hdn⟩ : ∃ dn : Nat, depthOf (bn : Int) = (dn : Int) := ⟨(depthOf (bn : Int)).toNat, by omega⟩
    rw [hdn] at hpw ⊢
    rw [Int.toNat_natCast] at hpw
    have hadj := chkE_adj g1
    have hne : op = true ∨ Op.bytesLess lo.toList hi.toList = true := by
      have hk : hasK lo hi op (l.getD 0 ByteArray.empty) = true := List.all_eq_true.1 g2 _ (List.mem_of_getElem? (getD_some l 0 (by omega)))
      simp only [hasK, Bool.and_eq_true, decide_eq_true_eq, Bool.not_eq_true', Bool.or_eq_true] at hk
      rcases hk.2 with e | e
      · exact .inl e
      · exact .inr (le_less_trans hk.1.2 e)
    refine Ev.step (fun k => by rw [tidelinelaw07_CutsDeep.j0]) ?_
    simp only [if_neg (show ¬ (false = true) by decide), Option.bind_some, List.length_nil, List.nil_append, if_pos (show 0 < 3518437208883 by decide)]
    refine deep_l0 lo hi op l bn (by omega) (by omega) (by omega) (by omega) hadj g0 hne dn (by omega) hpw.1 dn 0 _ (by omega) ⟨[], rfl, rfl⟩ (fun r hr => ?_) (by simp)
    unfold Fine
    have := kin_le l r
    rw [Nat.pow_zero, Nat.mul_one]; omega
end Go.Proofs.Ytcfiobhebakhlaa.Pure
