import Derived.Test.YtghlellambnkeaaPAllx0
import Derived.Test.YtghlellambnkeaaSEv
import Derived.Test.YtghlellambnkeaaSLists
import Derived.Test.YtghlellambnkeaaSItemcmp
import Derived.Test.YtghlellambnkeaaSMergeP
import Derived.Test.YtghlellambnkeaaSChk09
import Derived.Test.YtghlellambnkeaaSPairs09
import Derived.Test.YtghlellambnkeaaSClean09b
import Derived.Test.YtghlellambnkeaaSClean09c
import Derived.Test.YtghlellambnkeaaSAbove09
import Derived.Test.YtghlellambnkeaaSMergeM
import Derived.Test.YtghlellambnkeaaSStr
set_option linter.unusedVariables false
set_option linter.unusedSimpArgs false
namespace Go.Proofs.Ytghlellambnkeaa.Pure
open Go.RowKit Go.Proofs.Ytghlellambnkeaa.PAll Go.Proofs.YtghlellambnkeaaW.PrintWords Go.Proofs.YtghlellambnkeaaW.PrintLast Go.Proofs.YtghlellambnkeaaW.PrintMore
open Go.Proofs.Ytghlellambnkeaa.MergeW Go.Proofs.Ytghlellambnkeaa.Str
/-- The best of what two tell of a key. -/
def bestO : Option S44 → Option S44 → Option S44
  | none, none => none
  | some x, none => some x
  | none, some y => some y
  | some x, some y => some (bestK x y)
theorem thereB_ok {x : S44} (h : entE x = 0) : thereB x = true := by
  have := entE_there h
  have e : (x.f1.f0 == 0) = false := by rw [beq_eq_false_iff_ne]; omega
  unfold thereB; rw [e]; rfl
theorem thereB_z : thereB z44 = false := rfl
theorem bestK_z {x : S44} (h : entE x = 0) : bestK x z44 = x := by
  have := entE_there h
  unfold bestK
  rw [newK_not (by rw [z_f0]; omega)]; rfl
theorem bestK_self (x : S44) : bestK x x = x := by unfold bestK; split <;> rfl
theorem bestK_or (x y : S44) : bestK x y = x ∨ bestK x y = y := by unfold bestK; split <;> simp
/-- What Max makes of the pairs is what is made of them key by key. -/
theorem maxL_comb {a b : List S44} (ha : MapOK a) (hb : MapOK b) : maxL (mp a b) = comb ltE keyE bestO a b := by
  unfold maxL mp comb
  rw [List.map_map]
  have h : ∀ l : List (Option S44 × Option S44), (∀ s ∈ l, IsPair ltE keyE a b s) → l.map ((fun t => bestK (if thereB t.1 = true then t.1 else t.2) t.2) ∘ fun t => (t.1.getD z44, t.2.getD z44)) = l.filterMap (fun t => bestO t.1 t.2) := by
    intro l
    induction l with
    | nil => intro _; rfl
    | cons s l ih =>
      intro hs
      have ih := ih (fun s hm => hs s (List.mem_cons_of_mem _ hm))
      rw [List.map_cons]
      rcases hs s List.mem_cons_self with ⟨x, rfl, hx⟩ | ⟨y, rfl, hy⟩ | ⟨x, y, rfl, hx, hy, _⟩
      · refine (congr (congrArg List.cons ?_) ih).trans (List.filterMap_cons_some (f := fun t => bestO t.1 t.2) (a := (some x, none)) (b := x) rfl).symm
        show bestK (if thereB x = true then x else z44) z44 = x
        rw [thereB_ok (ha.ent x hx), if_pos rfl, bestK_z (ha.ent x hx)]
      · refine (congr (congrArg List.cons ?_) ih).trans (List.filterMap_cons_some (f := fun t => bestO t.1 t.2) (a := (none, some y)) (b := y) rfl).symm
        show bestK (if thereB z44 = true then z44 else y) y = y
        rw [thereB_z, if_neg (by decide), bestK_self]
      · refine (congr (congrArg List.cons ?_) ih).trans (List.filterMap_cons_some (f := fun t => bestO t.1 t.2) (a := (some x, some y)) (b := bestK x y) rfl).symm
        show bestK (if thereB x = true then x else y) y = bestK x y
        rw [thereB_ok (ha.ent x hx), if_pos rfl]
  exact h _ (kmerge_is TOE a b)
theorem bestO_key (k0 : List UInt8) (t : Option S44 × Option S44) {a b : List S44} (h : IsPair ltE keyE a b t) (g : S44) (hg : bestO t.1 t.2 = some g) : keyE g = kk keyE k0 t := by
  rcases h with ⟨x, rfl, hx⟩ | ⟨y, rfl, hy⟩ | ⟨x, y, rfl, hx, hy, e⟩
  · cases hg; rfl
  · cases hg; rfl
  · have : bestK x y = g := Option.some.inj hg
    show keyE g = keyE x
    rcases bestK_or x y with e' | e' <;> rw [e'] at this <;> rw [← this]
    exact e.symm
theorem max_mem {a b : List S44} (ha : MapOK a) (hb : MapOK b) (g : S44) : g ∈ maxL (mp a b) ↔ ∃ k, bestO (look keyE a k) (look keyE b k) = some g := by
  rw [maxL_comb ha hb]; exact comb_mem TOE bestO a b ha.srt hb.srt rfl g
theorem bestO_look {a b : List S44} (k : List UInt8) (g : S44) (h : bestO (look keyE a k) (look keyE b k) = some g) : keyE g = k := by
  cases hx : look keyE a k with
  | none =>
    cases hy : look keyE b k with
    | none => rw [hx, hy] at h; cases h
    | some y => rw [hx, hy] at h; cases h; exact (look_some keyE hy).2
  | some x =>
    cases hy : look keyE b k with
    | none => rw [hx, hy] at h; cases h; exact (look_some keyE hx).2
    | some y =>
      rw [hx, hy] at h
      have h : bestK x y = g := Option.some.inj h
      rcases bestK_or x y with e | e <;> rw [e] at h <;> rw [← h]
      · exact (look_some keyE hx).2
      · exact (look_some keyE hy).2
theorem bestO_ent {a b : List S44} (ha : MapOK a) (hb : MapOK b) (k : List UInt8) (g : S44) (h : bestO (look keyE a k) (look keyE b k) = some g) : entE g = 0 := by
  cases hx : look keyE a k with
  | none =>
    cases hy : look keyE b k with
    | none => rw [hx, hy] at h; cases h
    | some y => rw [hx, hy] at h; cases h; exact hb.ent _ (look_some keyE hy).1
  | some x =>
    cases hy : look keyE b k with
    | none => rw [hx, hy] at h; cases h; exact ha.ent _ (look_some keyE hx).1
    | some y =>
      rw [hx, hy] at h
      have h : bestK x y = g := Option.some.inj h
      rcases bestK_or x y with e | e <;> rw [e] at h <;> rw [← h]
      · exact ha.ent _ (look_some keyE hx).1
      · exact hb.ent _ (look_some keyE hy).1
theorem max_ok {a b : List S44} (ha : MapOK a) (hb : MapOK b) : MapOK (maxL (mp a b)) := by
  refine ⟨fun e he => ?_, ?_⟩
  · obtain ⟨k, hk⟩ := (max_mem ha hb e).1 he
    exact bestO_ent ha hb k e hk
  · rw [maxL_comb ha hb]
    unfold comb Srt
    refine List.Pairwise.filterMap _ ?_ (List.Pairwise.and_mem.1 (kmerge_srt TOE ([] : List UInt8) a b ha.srt hb.srt))
    rintro s t ⟨hs, ht, hst⟩ g hg g' hg'
    rw [bestO_key [] s (kmerge_is TOE a b s hs) g hg, bestO_key [] t (kmerge_is TOE a b t ht) g' hg']
    exact hst
/-- What Max tells of a key is the best of what both tell. -/
theorem max_look {a b : List S44} (ha : MapOK a) (hb : MapOK b) (k : List UInt8) : look keyE (maxL (mp a b)) k = bestO (look keyE a k) (look keyE b k) := by
  have hm := max_ok ha hb
  cases hg : bestO (look keyE a k) (look keyE b k) with
  | some g =>
    have := look_mem TOE hm.srt ((max_mem ha hb g).2 ⟨k, hg⟩)
    rw [bestO_look k g hg] at this
    exact this
  | none =>
    cases hl : look keyE (maxL (mp a b)) k with
    | none => rfl
    | some g =>
      obtain ⟨hmem, hkey⟩ := look_some keyE hl
      obtain ⟨k', hk'⟩ := (max_mem ha hb g).1 hmem
      have := bestO_look k' g hk'
      rw [hkey] at this
      rw [← this, hg] at hk'
      cases hk'
/-- A map whose look-ups are another one's. -/
theorem map_ext {a b : List S44} (ha : MapOK a) (hb : MapOK b) (h : ∀ k, look keyE a k = look keyE b k) : a = b := srt_ext TOE ha.srt hb.srt h
theorem bestK_assoc (x y z : S44) : bestK (bestK x y) z = bestK x (bestK y z) := by
  unfold bestK
  cases h1 : newK y x with
  | true =>
    cases h2 : newK z y with
    | true =>
      have g1 := newK_iff.1 h1
      have g2 := newK_iff.1 h2
      have h3 : newK z x = true := newK_iff.2 (by omega)
      simp [h1, h2, h3]
    | false => simp [h1, h2]
  | false =>
    cases h2 : newK z y with
    | true => simp [h1, h2]
    | false =>
      have g1 := newK_false h1
      have g2 := newK_false h2
      have h3 : newK z x = false := newK_not (by omega)
      simp [h1, h2, h3]
theorem bestO_assoc (x y z : Option S44) : bestO (bestO x y) z = bestO x (bestO y z) := by
  cases x <;> cases y <;> cases z <;> simp [bestO, bestK_assoc]
theorem max_assoc {a b c : List S44} (ha : MapOK a) (hb : MapOK b) (hc : MapOK c) : maxL (mp (maxL (mp a b)) c) = maxL (mp a (maxL (mp b c))) := by
  refine map_ext (max_ok (max_ok ha hb) hc) (max_ok ha (max_ok hb hc)) fun k => ?_
  rw [max_look (max_ok ha hb) hc, max_look ha hb, max_look ha (max_ok hb hc), max_look hb hc, bestO_assoc]
theorem max_self {a : List S44} (ha : MapOK a) : maxL (mp a a) = a := by
  refine map_ext (max_ok ha ha) ha fun k => ?_
  rw [max_look ha ha]
  cases look keyE a k with
  | none => rfl
  | some x => simp [bestO, bestK_self]
/-- Of two of one key and unlike versions the newer one, whatever the order; of like versions they are the same. -/
theorem clean_look {a b : List S44} (ha : MapOK a) (hb : MapOK b) (hcl : (mp a b).all okP = true) {k : List UInt8} {x y : S44} (hx : look keyE a k = some x) (hy : look keyE b k = some y) (hv : x.f1.f0 = y.f1.f0 ∧ x.f1.f1 = y.f1.f1) : x = y := by
  have hm := mp_look ha hb k (fun e => by rw [hx] at e; simp at e)
  have h3 := List.all_eq_true.1 hcl _ hm
  rw [hx, hy] at h3
  have hq : verQ x y = true := by simp [verQ, hv.1, hv.2]
  unfold okP at h3
  simp only [Option.getD_some, hq, Bool.true_and, Bool.not_eq_true'] at h3
  exact neE_eq h3
theorem max_comm {a b : List S44} (ha : MapOK a) (hb : MapOK b) (hcl : (mp a b).all okP = true) : maxL (mp a b) = maxL (mp b a) := by
  refine map_ext (max_ok ha hb) (max_ok hb ha) fun k => ?_
  rw [max_look ha hb, max_look hb ha]
  cases hx : look keyE a k with
  | none => cases look keyE b k <;> rfl
  | some x =>
    cases hy : look keyE b k with
    | none => rfl
    | some y =>
      show some (bestK x y) = some (bestK y x)
      congr 1
      unfold bestK
      cases h1 : newK y x with
      | true =>
        have g1 := newK_iff.1 h1
        have h2 : newK x y = false := newK_not (by omega)
        simp [h2]
      | false =>
        cases h2 : newK x y with
        | true => simp
        | false =>
          have g1 := newK_false h1
          have g2 := newK_false h2
          simp only [if_neg (show ¬ (false = true) by decide)]
          exact clean_look ha hb hcl hx hy (by omega)
/-- Max is above both. -/
theorem max_above {a b : List S44} (ha : MapOK a) (hb : MapOK b) : aboveB (mp (maxL (mp a b)) a) = true ∧ aboveB (mp (maxL (mp a b)) b) = true := by
  have hm := max_ok ha hb
  constructor
  · rw [above_iff hm ha]
    intro k x hx
    rw [max_look ha hb, hx]
    cases hy : look keyE b k with
    | none => exact ⟨x, rfl, newK_not (by omega)⟩
    | some y =>
      refine ⟨bestK x y, rfl, ?_⟩
      unfold bestK
      cases h1 : newK y x with
      | true =>
        have g1 := newK_iff.1 h1
        simp only [if_true]
        exact newK_not (by omega)
      | false => simp only [if_neg (show ¬ (false = true) by decide)]; exact newK_not (by omega)
  · rw [above_iff hm hb]
    intro k y hy
    rw [max_look ha hb, hy]
    cases hx : look keyE a k with
    | none => exact ⟨y, rfl, newK_not (by omega)⟩
    | some x =>
      refine ⟨bestK x y, rfl, ?_⟩
      unfold bestK
      cases h1 : newK y x with
      | true => simp only [if_true]; exact newK_not (by omega)
      | false => simp only [if_neg (show ¬ (false = true) by decide)]; exact h1
theorem max_ev (a b : List S44) (h : a.length + b.length ≤ 1256584717457) (ha : chkL a = 0) (hb : chkL b = 0) : Ev (fun k => merge_Max.f k a b) (maxL (mp a b), 0) := by
  refine Ev.congr (fun k => by rw [merge_Max.f]) (Ev.bind (chk2_f a b (by omega) (by omega)) ?_)
  have hc : chk2 a b = 0 := by unfold chk2; rw [if_pos ha]; exact hb
  have hl := mp_len a b
  rw [hc]
  simp only [if_pos (show (mp a b).length < 2513169434916 by omega), if_true]
  exact Ev.const rfl
/-- A map passes Check. -/
theorem chk_map : ∀ (l : List S44) (p : Option S44), (∀ e ∈ l, entE e = 0) → Srt ltE keyE l → (∀ y, p = some y → ∀ e ∈ l, ltE (keyE y) (keyE e) = true) → lstE p l = 0 := by
  intro l
  induction l with
  | nil => intro p _ _ _; cases p <;> rfl
  | cons x l ih =>
    intro p h1 h2 h3
    obtain ⟨g1, g2⟩ := List.pairwise_cons.1 h2
    have hx := h1 x List.mem_cons_self
    have hr := ih (some x) (fun e he => h1 e (List.mem_cons_of_mem _ he)) g2 (fun y hy e he => by cases hy; exact g1 e he)
    cases p with
    | none => simp only [lstE]; rw [if_pos hx]; exact hr
    | some y =>
      have hy : Op.bytesLess y.f0.toList x.f0.toList = true := h3 y rfl x List.mem_cons_self
      simp only [lstE]; rw [if_pos hx, if_pos hy]; exact hr
theorem map_chk {l : List S44} (h : MapOK l) : chkL l = 0 := chk_map l none h.ent h.srt (fun y hy => by cases hy)
theorem max_len {a b : List S44} : (maxL (mp a b)).length ≤ a.length + b.length := by rw [maxL_len]; exact mp_len a b
end Go.Proofs.Ytghlellambnkeaa.Pure
