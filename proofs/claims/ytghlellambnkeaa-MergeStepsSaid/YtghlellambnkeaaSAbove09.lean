import Derived.Test.YtghlellambnkeaaPAllx0
import Derived.Test.YtghlellambnkeaaSEv
import Derived.Test.YtghlellambnkeaaSLists
import Derived.Test.YtghlellambnkeaaSItemcmp
import Derived.Test.YtghlellambnkeaaSMergeP
import Derived.Test.YtghlellambnkeaaSChk09
import Derived.Test.YtghlellambnkeaaSPairs09
import Derived.Test.YtghlellambnkeaaSClean09b
import Derived.Test.YtghlellambnkeaaSClean09c
import Derived.Test.YtghlellambnkeaaSMerge
import Derived.Test.YtghlellambnkeaaSStr
set_option linter.unusedVariables false
set_option linter.unusedSimpArgs false
namespace Go.Proofs.Ytghlellambnkeaa.Pure
open Go.RowKit Go.Proofs.Ytghlellambnkeaa.PAll Go.Proofs.YtghlellambnkeaaW.PrintWords Go.Proofs.YtghlellambnkeaaW.PrintLast Go.Proofs.YtghlellambnkeaaW.PrintMore
open Go.Proofs.Ytghlellambnkeaa.MergeW Go.Proofs.Ytghlellambnkeaa.Str
theorem TOE : TO ltE := ⟨less_irrefl, fun h k => less_trans h k, fun h => less_false h⟩
theorem lst_facts : ∀ (l : List S44) (p : Option S44), lstE p l = 0 → (∀ e ∈ l, entE e = 0) ∧ Srt ltE keyE l ∧ (∀ y, p = some y → ∀ e ∈ l, ltE (keyE y) (keyE e) = true) := by
  intro l
  induction l with
  | nil => intro p _; exact ⟨by simp, List.Pairwise.nil, by simp⟩
  | cons x l ih =>
    intro p h
    have key : entE x = 0 ∧ lstE (some x) l = 0 ∧ (∀ y, p = some y → ltE (keyE y) (keyE x) = true) := by
      cases p with
      | none =>
        simp only [lstE] at h
        by_cases hx : entE x = 0
        · rw [if_pos hx] at h; exact ⟨hx, h, by simp⟩
        · rw [if_neg hx] at h; exact absurd h hx
      | some y =>
        simp only [lstE] at h
        by_cases hx : entE x = 0
        · rw [if_pos hx] at h
          by_cases hy : Op.bytesLess y.f0.toList x.f0.toList = true
          · rw [if_pos hy] at h; exact ⟨hx, h, fun z hz => by cases hz; exact hy⟩
          · rw [if_neg hy] at h; simp at h
        · rw [if_neg hx] at h; exact absurd h hx
    obtain ⟨h1, h2, h3⟩ := key
    obtain ⟨i1, i2, i3⟩ := ih (some x) h2
    refine ⟨?_, List.pairwise_cons.2 ⟨fun e he => i3 x rfl e he, i2⟩, fun y hy e he => ?_⟩
    · intro e he
      rcases List.mem_cons.1 he with rfl | he
      · exact h1
      · exact i1 e he
    · rcases List.mem_cons.1 he with rfl | he
      · exact h3 y hy
      · exact less_trans (h3 y hy) (i3 x rfl e he)
/-- A map. -/
structure MapOK (l : List S44) : Prop where
  ent : ∀ e ∈ l, entE e = 0
  srt : Srt ltE keyE l
theorem mapOK {l : List S44} (h : chkL l = 0) : MapOK l := ⟨(lst_facts l none h).1, (lst_facts l none h).2.1⟩
theorem newK_iff {x y : S44} : newK y x = true ↔ (x.f1.f0 < y.f1.f0 ∨ (x.f1.f0 = y.f1.f0 ∧ x.f1.f1 < y.f1.f1)) := by
  unfold newK
  rw [decide_eq_true_eq]
  rcases cmpv_cases y.f1.f0 y.f1.f1 x.f1.f0 x.f1.f1 with ⟨e, h⟩ | ⟨e, h⟩ | ⟨e, h⟩ <;> rw [e] <;> constructor <;> intro g <;> omega
theorem newK_false {x y : S44} (h : newK y x = false) : ¬ (x.f1.f0 < y.f1.f0 ∨ (x.f1.f0 = y.f1.f0 ∧ x.f1.f1 < y.f1.f1)) := fun g => by rw [newK_iff.2 g] at h; cases h
theorem newK_not {x y : S44} (h : ¬ (x.f1.f0 < y.f1.f0 ∨ (x.f1.f0 = y.f1.f0 ∧ x.f1.f1 < y.f1.f1))) : newK y x = false := by
  cases hn : newK y x with
  | false => rfl
  | true => exact absurd (newK_iff.1 hn) h
theorem z_f0 : (z44).f1.f0 = 0 := rfl
theorem mp_mem {a b : List S44} {t : S44 × S44} : t ∈ mp a b ↔ ∃ s ∈ km a b, (s.1.getD z44, s.2.getD z44) = t := by
  unfold mp; rw [List.mem_map]
theorem mp_look {a b : List S44} (ha : MapOK a) (hb : MapOK b) (k : List UInt8) (h : ¬ (look keyE a k = none ∧ look keyE b k = none)) : ((look keyE a k).getD z44, (look keyE b k).getD z44) ∈ mp a b :=
  mp_mem.2 ⟨_, kmerge_has TOE a b ha.srt hb.srt k h, rfl⟩
/-- Each pair is what both tell of a key. -/
theorem mp_only {a b : List S44} (ha : MapOK a) (hb : MapOK b) {t : S44 × S44} (h : t ∈ mp a b) : ∃ k, ¬ (look keyE a k = none ∧ look keyE b k = none) ∧ t = ((look keyE a k).getD z44, (look keyE b k).getD z44) := by
  obtain ⟨s, hs, rfl⟩ := mp_mem.1 h
  have he := kmerge_only TOE ([] : List UInt8) a b ha.srt hb.srt s hs
  refine ⟨kk keyE [] s, ?_, congrArg (fun s => (s.1.getD z44, s.2.getD z44)) he⟩
  rintro ⟨h1, h2⟩
  rw [h1, h2] at he
  rcases kmerge_is TOE a b s hs with ⟨x, e, _⟩ | ⟨y, e, _⟩ | ⟨x, y, e, _⟩ <;> rw [e] at he <;> simp at he
theorem look_there {a : List S44} (ha : MapOK a) {k : List UInt8} {x : S44} (h : look keyE a k = some x) : 1 ≤ x.f1.f0 := entE_there (ha.ent x (look_some keyE h).1)
/-- Above, key by key. -/
theorem above_iff {a b : List S44} (ha : MapOK a) (hb : MapOK b) : aboveB (mp a b) = true ↔ ∀ k y, look keyE b k = some y → ∃ x, look keyE a k = some x ∧ newK y x = false := by
  unfold aboveB
  rw [List.all_eq_true]
  constructor
  · intro h k y hy
    have := h _ (mp_look ha hb k (fun e => by rw [hy] at e; simp at e))
    rw [hy] at this
    simp only [Option.getD_some, Bool.not_eq_true'] at this
    cases hx : look keyE a k with
    | some x => rw [hx] at this; exact ⟨x, rfl, this⟩
    | none =>
      rw [hx] at this
      have g := newK_false this
      have := look_there hb hy
      rw [Option.getD_none, z_f0] at g
      omega
  · intro h t ht
    obtain ⟨k, hn, rfl⟩ := mp_only ha hb ht
    simp only [Bool.not_eq_true']
    cases hy : look keyE b k with
    | some y =>
      obtain ⟨x, hx, hxy⟩ := h k y hy
      rw [hx]; exact hxy
    | none =>
      cases hx : look keyE a k with
      | none => exact absurd ⟨hx, hy⟩ hn
      | some x =>
        have := look_there ha hx
        refine newK_not ?_
        simp only [Option.getD_none, Option.getD_some, z_f0]
        omega
theorem verB_iff {x y : S44} : verB x y = true ↔ x.f1.f0 = y.f1.f0 ∧ x.f1.f1 = y.f1.f1 := by simp [verB]
theorem differ_nil {a b : List S44} : differL (mp a b) = [] ↔ ∀ t ∈ mp a b, verB t.1 t.2 = true := by
  unfold differL
  rw [List.filterMap_eq_nil_iff]
  constructor
  · intro h t ht
    have := h t ht
    cases hv : verB t.1 t.2 with
    | true => rfl
    | false => rw [hv] at this; simp at this
  · intro h t ht
    rw [if_pos (h t ht)]
/-- Differ finds nothing just where neither lacks anything. -/
theorem differ_above {a b : List S44} (ha : MapOK a) (hb : MapOK b) : differL (mp a b) = [] ↔ (aboveB (mp a b) = true ∧ aboveB (mp b a) = true) := by
  rw [differ_nil, above_iff ha hb, above_iff hb ha]
  constructor
  · intro h
    have both : ∀ k, ¬ (look keyE a k = none ∧ look keyE b k = none) → ∃ x y, look keyE a k = some x ∧ look keyE b k = some y ∧ x.f1.f0 = y.f1.f0 ∧ x.f1.f1 = y.f1.f1 := by
      intro k hk
      have hv := verB_iff.1 (h _ (mp_look ha hb k hk))
      cases hx : look keyE a k with
      | none =>
        cases hy : look keyE b k with
        | none => exact absurd ⟨hx, hy⟩ hk
        | some y =>
          rw [hx, hy] at hv
          have g0 := look_there hb hy
          have g1 : (0 : Int) = y.f1.f0 := hv.1
          omega
      | some x =>
        cases hy : look keyE b k with
        | none =>
          rw [hx, hy] at hv
          have g0 := look_there ha hx
          have g1 : x.f1.f0 = (0 : Int) := hv.1
          omega
        | some y => rw [hx, hy] at hv; exact ⟨x, y, rfl, rfl, hv.1, hv.2⟩
    refine ⟨fun k y hy => ?_, fun k x hx => ?_⟩
    · obtain ⟨x, y', h1, h2, h3, h4⟩ := both k (fun e => by rw [hy] at e; simp at e)
      rw [hy] at h2; cases h2
      exact ⟨x, h1, newK_not (by omega)⟩
    · obtain ⟨x', y, h1, h2, h3, h4⟩ := both k (fun e => by rw [hx] at e; simp at e)
      rw [hx] at h1; cases h1
      exact ⟨y, h2, newK_not (by omega)⟩
  · rintro ⟨h1, h2⟩ t ht
    obtain ⟨k, hn, rfl⟩ := mp_only ha hb ht
    have : ∃ x y, look keyE a k = some x ∧ look keyE b k = some y := by
      cases hx : look keyE a k with
      | some x => obtain ⟨y, hy, _⟩ := h2 k x hx; exact ⟨x, y, rfl, hy⟩
      | none =>
        cases hy : look keyE b k with
        | none => exact absurd ⟨hx, hy⟩ hn
        | some y => obtain ⟨x, hx', _⟩ := h1 k y hy; rw [hx] at hx'; cases hx'
    obtain ⟨x, y, hx, hy⟩ := this
    obtain ⟨x', hx', g1⟩ := h1 k y hy
    obtain ⟨y', hy', g2⟩ := h2 k x hx
    rw [hx] at hx'; cases hx'
    rw [hy] at hy'; cases hy'
    have g1 := newK_false g1
    have g2 := newK_false g2
    rw [hx, hy]
    exact verB_iff.2 ⟨by simp only [Option.getD_some]; omega, by simp only [Option.getD_some]; omega⟩
theorem above_trans {a b c : List S44} (ha : MapOK a) (hb : MapOK b) (hc : MapOK c) (h1 : aboveB (mp a b) = true) (h2 : aboveB (mp b c) = true) : aboveB (mp a c) = true := by
  rw [above_iff ha hc]
  intro k z hz
  obtain ⟨y, hy, g1⟩ := (above_iff hb hc).1 h2 k z hz
  obtain ⟨x, hx, g2⟩ := (above_iff ha hb).1 h1 k y hy
  have g1 := newK_false g1
  have g2 := newK_false g2
  exact ⟨x, hx, newK_not (by omega)⟩
theorem above_self {a : List S44} (ha : MapOK a) : aboveB (mp a a) = true := by
  rw [above_iff ha ha]
  intro k x hx
  exact ⟨x, hx, newK_not (by omega)⟩
/-- Where no two of one key and version are unlike, lists that lack nothing of each other are the same. -/
theorem above_same {a b : List S44} (ha : MapOK a) (hb : MapOK b) (hcl : (mp a b).all okP = true) (h1 : aboveB (mp a b) = true) (h2 : aboveB (mp b a) = true) : a = b := by
  have hv := differ_nil.1 ((differ_above ha hb).2 ⟨h1, h2⟩)
  refine srt_ext TOE ha.srt hb.srt fun k => ?_
  by_cases hn : look keyE a k = none ∧ look keyE b k = none
  · rw [hn.1, hn.2]
  · have hm := mp_look ha hb k hn
    have h3 := List.all_eq_true.1 hcl _ hm
    have h4 := hv _ hm
    have h5 : neE ((look keyE a k).getD z44) ((look keyE b k).getD z44) = false := by
      unfold okP at h3
      have : verQ ((look keyE a k).getD z44) ((look keyE b k).getD z44) = true := h4
      simp only [this, Bool.true_and, Bool.not_eq_true'] at h3
      exact h3
    have h6 := neE_eq h5
    cases hx : look keyE a k with
    | some x =>
      obtain ⟨y, hy, _⟩ := (above_iff hb ha).1 h2 k x hx
      rw [hx, hy] at h6
      rw [hy]; exact congrArg some h6
    | none =>
      cases hy : look keyE b k with
      | none => rfl
      | some y => obtain ⟨x, hx', _⟩ := (above_iff ha hb).1 h1 k y hy; rw [hx] at hx'; cases hx'
end Go.Proofs.Ytghlellambnkeaa.Pure
