/- For both lists and every range the law MergeRanges answers true: what is in a range of the newest of both is the newest of what is in it of each. It has no condition but the form's own reach. -/
import Derived.Test.YtghlellambnkeaaPAllx0
import Derived.Test.YtghlellambnkeaaPAllx3
import Derived.Test.YtghlellambnkeaaPAllx4
import Derived.Test.YtghlellambnkeaaPAllx7
import Derived.Test.YtghlellambnkeaaQMergeRanges
import Derived.Test.YtghlellambnkeaaSEv
import Derived.Test.YtghlellambnkeaaSLists
import Derived.Test.YtghlellambnkeaaSItemcmp
import Derived.Test.YtghlellambnkeaaSMergeP
import Derived.Test.YtghlellambnkeaaSChk09
import Derived.Test.YtghlellambnkeaaSPairs09
import Derived.Test.YtghlellambnkeaaSClean09
import Derived.Test.YtghlellambnkeaaSBeyond09
import Derived.Test.YtghlellambnkeaaSAbove09
import Derived.Test.YtghlellambnkeaaSMax09
import Derived.Test.YtghlellambnkeaaSMergeM
import Derived.Test.YtghlellambnkeaaSStr
set_option linter.unusedVariables false
set_option linter.unusedSimpArgs false
namespace Go.Proofs.Ytghlellambnkeaa.Pure
open Go.RowKit Go.Proofs.Ytghlellambnkeaa.PAll Go.Proofs.YtghlellambnkeaaW.PrintWords Go.Proofs.YtghlellambnkeaaW.PrintLast Go.Proofs.YtghlellambnkeaaW.PrintMore
section
open Go.Proofs.Ytghlellambnkeaa.MergeW Go.Proofs.Ytghlellambnkeaa.Str
theorem rng_f (lo hi : ByteArray) (op : Bool) : ∃ e, Ev (fun k => span_Check.f k lo hi op) e := by
  have h1 : ∀ x, ∃ e, Ev (fun k => span_Check.j1 k x lo hi op) e := by
    intro x
    have : ∃ e : Int, (if x = true then (some 21) else (if op = true then (some 0) else (if (Op.bytesLess hi.toList lo.toList) = true then (some 21) else (some 0)))) = some e := by
      split
      · exact ⟨_, rfl⟩
      · split
        · exact ⟨_, rfl⟩
        · split <;> exact ⟨_, rfl⟩
    obtain ⟨e, he⟩ := this
    exact ⟨e, Ev.step (fun k => by rw [span_Check.j1]) (Ev.const he)⟩
  have h0 : ∀ x, ∃ e, Ev (fun k => span_Check.j0 k x lo hi op) e := by
    intro x
    cases x with
    | true => exact ⟨20, Ev.step (fun k => by rw [span_Check.j0]) (by simp only [if_true]; exact Ev.const rfl)⟩
    | false =>
      obtain ⟨e, he⟩ := h1 (if op = true then (hi.toList != ([] : List UInt8)) else false)
      refine ⟨e, Ev.step (fun k => by rw [span_Check.j0]) ?_⟩
      simp only [if_neg (show ¬ (false = true) by decide)]
      cases op with
      | true => simpa using he
      | false => simpa using he
  by_cases h : (lo.size : Int) > 16
  · obtain ⟨e, he⟩ := h0 (decide ((lo.size : Int) > 16))
    exact ⟨e, Ev.congr (fun k => by rw [span_Check.f, if_pos h]) he⟩
  · obtain ⟨e, he⟩ := h0 (decide ((hi.size : Int) > 16))
    exact ⟨e, Ev.congr (fun k => by rw [span_Check.f, if_neg h]) he⟩
/-- Does a range that may be hold a key? -/
def hldB (lo hi : ByteArray) (op : Bool) (key : ByteArray) : Bool := decide ((key.size : Int) ≤ 16) && (!Op.bytesLess key.toList lo.toList && (op || Op.bytesLess key.toList hi.toList))
theorem hld_f {lo hi : ByteArray} {op : Bool} (he : Ev (fun k => span_Check.f k lo hi op) 0) (key : ByteArray) : Ev (fun k => span_Holds.f k lo hi op key) (hldB lo hi op key) := by
  refine Ev.congr (fun k => by rw [span_Holds.f]) (Ev.bind he ?_)
  simp only [if_true]
  unfold hldB
  by_cases h : (key.size : Int) ≤ 16
  · simp only [if_pos h, decide_eq_true h, Bool.true_and]
    cases hb : Op.bytesLess key.toList lo.toList with
    | true => simp only [if_true]; exact Ev.const rfl
    | false =>
      simp only [if_neg (show ¬ (false = true) by decide)]
      unfold span_below.f
      cases op with
      | true => exact Ev.const rfl
      | false => simp only [if_neg (show ¬ (false = true) by decide)]; exact Ev.const rfl
  · simp only [if_neg h, decide_eq_false h, Bool.false_and]; exact Ev.const rfl
theorem in_loop {lo hi : ByteArray} {op : Bool} (he : Ev (fun k => span_Check.f k lo hi op) 0) (l : List S44) (hl : l.length ≤ 2513169434900) (d : Nat) : ∀ (i : Nat) (acc : List S44), i + d = l.length → acc.length ≤ i →
    Ev (fun k => merge_In.l0 k acc l (l.length : Int) (i : Int) lo hi op) (acc ++ (l.drop i).filter (fun x => hldB lo hi op x.f0), 0) := by
  induction d with
  | zero =>
    intro i acc hd ha
    refine Ev.step (fun k => by rw [merge_In.l0]) ?_
    simp only [if_neg (show ¬ (i : Int) < (l.length : Int) by omega)]
    rw [List.drop_of_length_le (by omega)]
    exact Ev.const (by simp)
  | succ d ih =>
    intro i acc hd ha
    refine Ev.step (fun k => by rw [merge_In.l0]) ?_
    simp only [if_pos (show (i : Int) < (l.length : Int) by omega), if_pos (show (0 : Int) ≤ (i : Int) by omega), if_pos (show acc.length < 2513169434916 by omega)]
    rw [rd44 (show i < l.length by omega), wrap_succ (by omega), List.drop_eq_getElem_cons (show i < l.length by omega)]
    refine Ev.bind (hld_f he _) ?_
    cases hz : hldB lo hi op l[i].f0 with
    | true =>
      simp only [if_true]
      refine Ev.val (ih (i + 1) (acc ++ [l[i]]) (by omega) (by simp; omega)) ?_
      rw [List.filter_cons_of_pos (by simpa using hz)]; simp
    | false =>
      simp only [if_neg (show ¬ (false = true) by decide)]
      refine Ev.val (ih (i + 1) acc (by omega) (by omega)) ?_
      rw [List.filter_cons_of_neg (by simpa using hz)]
/-- What In tells. -/
theorem in_ev {lo hi : ByteArray} {op : Bool} {e : Int} (he : Ev (fun k => span_Check.f k lo hi op) e) (l : List S44) (hl : l.length ≤ 2513169434843) (hc : chkL l = 0) :
    Ev (fun k => merge_In.f k l lo hi op) (if e = 0 then l.filter (fun x => hldB lo hi op x.f0) else [], e) := by
  refine Ev.congr (fun k => by rw [merge_In.f]) (Ev.bind (chk_f l hl) ?_)
  simp only [if_pos hc]
  refine Ev.bind he ?_
  by_cases h : e = 0
  · subst h
    simp only [if_true]
    exact Ev.val (in_loop he l (by omega) l.length 0 [] (Nat.zero_add _) (Nat.le_refl _)) (by simp)
  · simp only [if_neg h]; exact Ev.const rfl
theorem filter_ok {l : List S44} (h : MapOK l) (q : S44 → Bool) : MapOK (l.filter q) :=
  ⟨fun e he => h.ent e (List.mem_filter.1 he).1, h.srt.filter _⟩
theorem filter_look {l : List S44} (h : MapOK l) (q : S44 → Bool) (k : List UInt8) : look keyE (l.filter q) k = (look keyE l k).filter q := by
  cases hl : look keyE l k with
  | none =>
    refine look_none keyE fun e he => ?_
    exact (look_none_iff keyE).1 hl e (List.mem_filter.1 he).1
  | some x =>
    obtain ⟨hm, hk⟩ := look_some keyE hl
    cases hq : q x with
    | true =>
      have := look_mem TOE (filter_ok h q).srt (List.mem_filter.2 ⟨hm, hq⟩)
      rw [hk] at this
      rw [this, Option.filter_some, if_pos hq]
    | false =>
      rw [Option.filter_some, if_neg (by rw [hq]; decide)]
      refine look_none keyE fun e he hke => ?_
      obtain ⟨he1, he2⟩ := List.mem_filter.1 he
      have := look_mem TOE h.srt he1
      rw [hke, hl] at this
      cases this
      rw [hq] at he2; cases he2
/-- What is in a range of the newest of both is the newest of what is in it of each. -/
theorem max_filter {a b : List S44} (ha : MapOK a) (hb : MapOK b) (p : ByteArray → Bool) : (maxL (mp a b)).filter (fun x => p x.f0) = maxL (mp (a.filter (fun x => p x.f0)) (b.filter (fun x => p x.f0))) := by
  have h1 := filter_ok ha (fun x => p x.f0)
  have h2 := filter_ok hb (fun x => p x.f0)
  have hm := max_ok ha hb
  refine map_ext (filter_ok hm _) (max_ok h1 h2) fun k => ?_
  rw [filter_look hm, max_look ha hb, max_look h1 h2, filter_look ha, filter_look hb]
  cases hx : look keyE a k with
  | none =>
    cases hy : look keyE b k with
    | none => rfl
    | some y =>
      cases hp : p y.f0 <;> simp [bestO, Option.filter_some, hp]
  | some x =>
    cases hy : look keyE b k with
    | none => cases hp : p x.f0 <;> simp [bestO, Option.filter_some, hp]
    | some y =>
      have e : x.f0 = y.f0 := ba_eq.1 ((look_some keyE hx).2.trans (look_some keyE hy).2.symm)
      rcases bestK_or x y with g | g <;> cases hp : p y.f0 <;> simp [bestO, Option.filter_some, hp, e, g]
end
section
open Go.Proofs.Ytghlellambnkeaa.MergeW Go.Proofs.Ytghlellambnkeaa.Str
theorem cmpv_ref09 (a0 a1 b0 b1 : Int) : tidelineref03_Compare.f a0 a1 b0 b1 = some (cmpv a0 a1 b0 b1) := by
  unfold tidelineref03_Compare.f cmpv cmpI
  by_cases h1 : a0 > b0
  · rw [if_pos h1]; simp [h1, show ¬ a0 < b0 by omega]
  rw [if_neg h1]
  by_cases h2 : a0 < b0
  · rw [if_pos h2]; simp [h2]
  rw [if_neg h2]
  by_cases h3 : a1 > b1
  · rw [if_pos h3]; simp [h1, h2, h3, show ¬ a1 < b1 by omega]
  rw [if_neg h3]
  by_cases h4 : a1 < b1
  · rw [if_pos h4]; simp [h1, h2, h4]
  · rw [if_neg h4]; simp [h1, h2, h3, h4]
theorem newer_ref09 (x y : S44) : tidelineref03_Newer.f x.f0 x.f1.f0 x.f1.f1 x.f2 x.f3 y.f0 y.f1.f0 y.f1.f1 y.f2 y.f3 = some (newK x y) := by
  unfold tidelineref03_Newer.f newK
  rw [cmpv_ref09]; rfl
theorem best_ref09 (x y : S44) : tidelineref03_Best.f x.f0 x.f1.f0 x.f1.f1 x.f2 x.f3 y.f0 y.f1.f0 y.f1.f1 y.f2 y.f3 = some ((bestK x y).f0, (bestK x y).f1.f0, (bestK x y).f1.f1, (bestK x y).f2, (bestK x y).f3) := by
  unfold tidelineref03_Best.f bestK
  rw [newer_ref09, Option.bind_some]
  cases newK y x <;> rfl
/-- The best of a pair, as the document takes it. -/
def refB (x y : S44) : S44 := if x.f1.f0 = 0 then y else bestK x y
theorem refmax_loop (l : List S46) (hl : l.length ≤ 2513169434900) (d : Nat) : ∀ (i : Nat) (acc : List S44), i + d = l.length → acc.length = i →
    Ev (fun k => tidelineref09_Max.l0 k l acc (i : Int)) (acc ++ (l.drop i).map (fun p => refB p.f0 p.f1), 0) := by
  induction d with
  | zero =>
    intro i acc hd ha
    refine Ev.step (fun k => by rw [tidelineref09_Max.l0]) ?_
    simp only [if_neg (show ¬ (i : Int) < (l.length : Int) by omega)]
    rw [List.drop_of_length_le (by omega)]
    exact Ev.const (by simp)
  | succ d ih =>
    intro i acc hd ha
    refine Ev.step (fun k => by rw [tidelineref09_Max.l0]) ?_
    simp only [if_pos (show (i : Int) < (l.length : Int) by omega), if_pos (show (0 : Int) ≤ (i : Int) by omega), if_pos (show acc.length < 2513169434916 by omega)]
    rw [rd46 (show i < l.length by omega), wrap_succ (by omega), List.drop_eq_getElem_cons (show i < l.length by omega)]
    refine Ev.bind (Ev.const rfl) ?_
    cases hz : (l[i].f0.f1.f0 == 0) with
    | true =>
      have e : refB l[i].f0 l[i].f1 = l[i].f1 := by unfold refB; rw [if_pos (by simpa using hz)]
      simp only [if_true]
      refine Ev.val (ih (i + 1) (acc ++ [l[i].f1]) (by omega) (by simp [ha])) ?_
      rw [List.map_cons, e]; simp
    | false =>
      have e : refB l[i].f0 l[i].f1 = bestK l[i].f0 l[i].f1 := by unfold refB; rw [if_neg (by simpa using hz)]
      simp only [if_neg (show ¬ (false = true) by decide)]
      refine Ev.bind (Ev.const (best_ref09 _ _)) ?_
      refine Ev.val (ih (i + 1) (acc ++ [bestK l[i].f0 l[i].f1]) (by omega) (by simp [ha])) ?_
      rw [List.map_cons, e]; simp
theorem refMax_ev (a b : List S44) (h : a.length + b.length ≤ 1256584717457) (ha : chkL a = 0) (hb : chkL b = 0) : Ev (fun k => tidelineref09_Max.f k a b) (maxL (mp a b), 0) := by
  refine Ev.congr (fun k => by rw [tidelineref09_Max.f]) (Ev.bind (chk2_ref a b (by omega) (by omega)) ?_)
  have hc : chk2 a b = 0 := by unfold chk2; rw [if_pos ha]; exact hb
  have hl := mp_len a b
  rw [hc]
  simp only [if_true]
  refine Ev.bind (pairs_ref a b h) ?_
  simp only [if_pos hc]
  refine Ev.val (refmax_loop ((mp a b).map pairS) (by rw [List.length_map]; omega) _ 0 [] (Nat.zero_add _) rfl) ?_
  rw [List.drop_zero, List.nil_append, List.map_map]
  unfold maxL
  have hm : ∀ t ∈ mp a b, refB t.1 t.2 = bestK (if thereB t.1 = true then t.1 else t.2) t.2 := by
    intro t ht
    obtain ⟨k, _, rfl⟩ := mp_only (mapOK ha) (mapOK hb) ht
    cases hx : look keyE a k with
    | none =>
      simp only [Option.getD_none]
      rw [thereB_z, if_neg (by decide), bestK_self]
      unfold refB; rw [if_pos z_f0]
    | some x =>
      have ht := look_there (mapOK ha) hx
      simp only [Option.getD_some]
      rw [thereB_ok ((mapOK ha).ent x (look_some keyE hx).1), if_pos rfl]
      unfold refB; rw [if_neg (by omega)]
  exact congrArg (fun l => (l, (0 : Int))) (List.map_congr_left hm)
end
open Go.Proofs.Ytghlellambnkeaa.MergeW Go.Proofs.Ytghlellambnkeaa.Str
theorem MergeRanges : tidelinelaw09_MergeRanges.Pure := by
  intro a b lo hi op fa fb fr
  have la : a.length ≤ 2513169434843 := by have := fa.1; omega
  have lb : b.length ≤ 2513169434843 := by have := fb.1; omega
  refine Ev.rounds ?_
  refine Ev.congr (fun k => by rw [tidelinelaw09_MergeRanges.f]) ?_
  obtain ⟨bb, hbb, hlim⟩ := bey_f [a, b] (by simp) (by intro l hl; simp at hl; rcases hl with rfl | rfl <;> assumption)
  refine Ev.bind hbb ?_
  have done : Ev (fun k => tidelinelaw09_MergeRanges.j0 k a b true lo hi op) true := by
    refine Ev.step (fun k => by rw [tidelinelaw09_MergeRanges.j0]) ?_
    simp only [if_true]; exact Ev.const rfl
  cases bb with
  | true => simp only [if_true]; exact done
  | false =>
    have hs := hlim rfl
    simp only [List.map_cons, List.map_nil, List.sum_cons, List.sum_nil] at hs
    simp only [if_neg (show ¬ (false = true) by decide)]
    have hlong : ∃ r, tidelinelaw09_longRange.f lo hi op = some r := by unfold tidelinelaw09_longRange.f; split <;> exact ⟨_, rfl⟩
    obtain ⟨r, hr⟩ := hlong
    refine Ev.bind (Ev.const hr) ?_
    cases r with
    | true => simp only [if_true]; exact done
    | false =>
    simp only [if_neg (show ¬ (false = true) by decide)]
    refine Ev.bind (clean_f a b (by omega)) ?_
    cases h1 : cleanB a b with
    | false => exact done
    | true =>
      obtain ⟨ca, cb, hcl⟩ := cleanB_parts h1
      have ma := mapOK ca
      have mb := mapOK cb
      have mm := max_ok ma mb
      have lm : (maxL (mp a b)).length ≤ a.length + b.length := max_len
      obtain ⟨e, he⟩ := rng_f lo hi op
      refine Ev.step (fun k => by rw [tidelinelaw09_MergeRanges.j0]) ?_
      simp only [Bool.not_true, if_neg (show ¬ (false = true) by decide)]
      refine Ev.bind (max_ev a b (by omega) ca cb) ?_
      refine Ev.bind (in_ev he (maxL (mp a b)) (by omega) (map_chk mm)) ?_
      refine Ev.bind (in_ev he a (by omega) ca) ?_
      refine Ev.bind (in_ev he b (by omega) cb) ?_
      refine Ev.bind (refMax_ev a b (by omega) ca cb) ?_
      simp only [if_true]
      refine Ev.bind (same_f (maxL (mp a b)) (maxL (mp a b)) (by omega)) ?_
      rw [sameB_iff.2 rfl]
      refine Ev.step (fun k => by rw [tidelinelaw09_MergeRanges.j1]) ?_
      simp only [Bool.not_true, if_neg (show ¬ (false = true) by decide)]
      by_cases h : e = 0
      · subst h
        simp only [if_true]
        have f1 := filter_ok ma (fun x => hldB lo hi op x.f0)
        have f2 := filter_ok mb (fun x => hldB lo hi op x.f0)
        have g0 := List.length_filter_le (fun x : S44 => hldB lo hi op x.f0) (maxL (mp a b))
        have g1 := List.length_filter_le (fun x : S44 => hldB lo hi op x.f0) a
        have g2 := List.length_filter_le (fun x : S44 => hldB lo hi op x.f0) b
        refine Ev.bind (max_ev _ _ (by omega) (map_chk f1) (map_chk f2)) ?_
        simp only [if_true]
        refine Ev.bind (same_f ((maxL (mp a b)).filter (fun x => hldB lo hi op x.f0)) (maxL (mp (a.filter (fun x => hldB lo hi op x.f0)) (b.filter (fun x => hldB lo hi op x.f0)))) (by omega)) ?_
        rw [sameB_iff.2 (max_filter ma mb (hldB lo hi op))]
        exact Ev.const rfl
      · simp only [if_neg h]
        exact Ev.const rfl
end Go.Proofs.Ytghlellambnkeaa.Pure
