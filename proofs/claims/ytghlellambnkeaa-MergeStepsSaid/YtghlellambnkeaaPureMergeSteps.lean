/- For both lists and all picks the law MergeSteps answers true: entries that come one by one, in any order, each kept where it is newer, make the newest of all of them. It has no condition but the form's own reach. -/
import Derived.Test.YtghlellambnkeaaPAllx0
import Derived.Test.YtghlellambnkeaaPAllx7
import Derived.Test.YtghlellambnkeaaQMergeSteps
import Derived.Test.YtghlellambnkeaaSEv
import Derived.Test.YtghlellambnkeaaSLists
import Derived.Test.YtghlellambnkeaaSItemcmp
import Derived.Test.YtghlellambnkeaaSMergeP
import Derived.Test.YtghlellambnkeaaSChk09
import Derived.Test.YtghlellambnkeaaSPairs09
import Derived.Test.YtghlellambnkeaaSClean09
import Derived.Test.YtghlellambnkeaaSBeyond09
import Derived.Test.YtghlellambnkeaaSAbove09
import Derived.Test.YtghlellambnkeaaSMax09
import Derived.Test.YtghlellambnkeaaSClean09b
import Derived.Test.YtghlellambnkeaaSClean09c
import Derived.Test.YtghlellambnkeaaSMergeM
import Derived.Test.YtghlellambnkeaaSStr
set_option linter.unusedVariables false
set_option linter.unusedSimpArgs false
namespace Go.Proofs.Ytghlellambnkeaa.Pure
open Go.RowKit Go.Proofs.Ytghlellambnkeaa.PAll Go.Proofs.YtghlellambnkeaaW.PrintWords Go.Proofs.YtghlellambnkeaaW.PrintLast Go.Proofs.YtghlellambnkeaaW.PrintMore
section
open Go.Proofs.Ytghlellambnkeaa.MergeW Go.Proofs.Ytghlellambnkeaa.Str
theorem fm_congr {α β : Type} {f g : α → Option β} : ∀ {l : List α}, (∀ x ∈ l, f x = g x) → l.filterMap f = l.filterMap g := by
  intro l
  induction l with
  | nil => intro _; rfl
  | cons x l ih =>
    intro h
    rw [List.filterMap_cons, List.filterMap_cons, h x List.mem_cons_self, ih (fun y hy => h y (List.mem_cons_of_mem _ hy))]
/-- What chooses one of two. -/
def Sel (f : Option S44 → Option S44 → Option S44) : Prop := ∀ x y g, f x y = some g → x = some g ∨ y = some g
theorem sel_none {f : Option S44 → Option S44 → Option S44} (h : Sel f) : f none none = none := by
  cases hf : f none none with
  | none => rfl
  | some g => rcases h _ _ _ hf with e | e <;> cases e
theorem sel_look {f : Option S44 → Option S44 → Option S44} (h : Sel f) {a b : List S44} {k : List UInt8} {g : S44} (hg : f (look keyE a k) (look keyE b k) = some g) : keyE g = k ∧ (g ∈ a ∨ g ∈ b) := by
  rcases h _ _ _ hg with e | e
  · exact ⟨(look_some keyE e).2, .inl (look_some keyE e).1⟩
  · exact ⟨(look_some keyE e).2, .inr (look_some keyE e).1⟩
theorem sel_key {f : Option S44 → Option S44 → Option S44} (h : Sel f) {a b : List S44} {t : Option S44 × Option S44} (ht : IsPair ltE keyE a b t) {g : S44} (hg : f t.1 t.2 = some g) : keyE g = kk keyE [] t := by
  rcases ht with ⟨x, rfl, _⟩ | ⟨y, rfl, _⟩ | ⟨x, y, rfl, _, _, e⟩
  · rcases h _ _ _ hg with e | e <;> cases e; rfl
  · rcases h _ _ _ hg with e | e <;> cases e; rfl
  · rcases h _ _ _ hg with e' | e' <;> cases e'
    · rfl
    · exact e.symm
theorem comb_ok {f : Option S44 → Option S44 → Option S44} (h : Sel f) {a b : List S44} (ha : MapOK a) (hb : MapOK b) : MapOK (comb ltE keyE f a b) := by
  refine ⟨fun e he => ?_, ?_⟩
  · obtain ⟨k, hk⟩ := (comb_mem TOE f a b ha.srt hb.srt (sel_none h) e).1 he
    rcases (sel_look h hk).2 with g | g
    · exact ha.ent e g
    · exact hb.ent e g
  · unfold comb Srt
    refine List.Pairwise.filterMap _ ?_ (List.Pairwise.and_mem.1 (kmerge_srt TOE ([] : List UInt8) a b ha.srt hb.srt))
    rintro s t ⟨hs, ht, hst⟩ g hg g' hg'
    rw [sel_key h (kmerge_is TOE a b s hs) hg, sel_key h (kmerge_is TOE a b t ht) hg']
    exact hst
theorem comb_look {f : Option S44 → Option S44 → Option S44} (h : Sel f) {a b : List S44} (ha : MapOK a) (hb : MapOK b) (k : List UInt8) : look keyE (comb ltE keyE f a b) k = f (look keyE a k) (look keyE b k) := by
  have hm := comb_ok h ha hb
  cases hg : f (look keyE a k) (look keyE b k) with
  | some g =>
    have := look_mem TOE hm.srt ((comb_mem TOE f a b ha.srt hb.srt (sel_none h) g).2 ⟨k, hg⟩)
    rw [(sel_look h hg).1] at this
    exact this
  | none =>
    cases hl : look keyE (comb ltE keyE f a b) k with
    | none => rfl
    | some g =>
      obtain ⟨hmem, hkey⟩ := look_some keyE hl
      obtain ⟨k', hk'⟩ := (comb_mem TOE f a b ha.srt hb.srt (sel_none h) g).1 hmem
      have := (sel_look h hk').1
      rw [hkey] at this
      rw [← this, hg] at hk'
      cases hk'
theorem sel_best : Sel bestO := by
  intro x y g h
  cases x with
  | none => cases y with
    | none => cases h
    | some y => exact .inr h
  | some x => cases y with
    | none => exact .inl h
    | some y =>
      have h : bestK x y = g := Option.some.inj h
      rcases bestK_or x y with e | e <;> rw [e] at h <;> rw [h]
      · exact .inl rfl
      · exact .inr rfl
/-- What one has that the other lacks. -/
def lackO : Option S44 → Option S44 → Option S44
  | some x, none => some x
  | some x, some y => if newK x y = true then some x else none
  | none, _ => none
theorem sel_lack : Sel lackO := by
  intro x y g h
  cases x with
  | none => cases h
  | some x => cases y with
    | none => exact .inl h
    | some y =>
      simp only [lackO] at h
      split at h
      · exact .inl h
      · cases h
theorem newK_z {x : S44} (h : entE x = 0) : newK x z44 = true := by
  have := entE_there h
  exact newK_iff.2 (by rw [z_f0]; omega)
theorem lacksL_comb {a b : List S44} (ha : MapOK a) (hb : MapOK b) : lacksL (mp a b) = comb ltE keyE lackO a b := by
  unfold lacksL mp comb
  rw [List.filterMap_map]
  have h : ∀ l : List (Option S44 × Option S44), (∀ s ∈ l, IsPair ltE keyE a b s) → l.filterMap ((fun t => if (thereB t.1 && newK t.1 t.2) = true then some t.1 else none) ∘ fun t => (t.1.getD z44, t.2.getD z44)) = l.filterMap (fun t => lackO t.1 t.2) := by
    intro l hl
    refine fm_congr fun s hs => ?_
    rcases hl s hs with ⟨x, rfl, hx⟩ | ⟨y, rfl, hy⟩ | ⟨x, y, rfl, hx, hy, _⟩
    · show (if (thereB x && newK x z44) = true then some x else none) = some x
      rw [thereB_ok (ha.ent x hx), newK_z (ha.ent x hx)]; rfl
    · show (if (thereB z44 && newK z44 y) = true then some z44 else none) = none
      rw [thereB_z]; rfl
    · show (if (thereB x && newK x y) = true then some x else none) = (if newK x y = true then some x else none)
      rw [thereB_ok (ha.ent x hx), Bool.true_and]
  exact h _ (kmerge_is TOE a b)
theorem lacks_ok {a b : List S44} (ha : MapOK a) (hb : MapOK b) : MapOK (lacksL (mp a b)) := by rw [lacksL_comb ha hb]; exact comb_ok sel_lack ha hb
theorem lacks_look {a b : List S44} (ha : MapOK a) (hb : MapOK b) (k : List UInt8) : look keyE (lacksL (mp a b)) k = lackO (look keyE a k) (look keyE b k) := by rw [lacksL_comb ha hb]; exact comb_look sel_lack ha hb k
end
open Go.Proofs.Ytghlellambnkeaa.MergeW Go.Proofs.Ytghlellambnkeaa.Str
theorem pick_idx (p : Int) (n : Nat) (h0 : 0 < n) (h1 : n ≤ 4294967296) : ∃ k : Nat, k < n ∧ Int.tmod (wrap64 (Int.tmod p (n : Int) + (n : Int))) (n : Int) = (k : Int) := by
  have hn : (0 : Int) < (n : Int) := by omega
  have a1 : Int.tmod p (n : Int) < (n : Int) := Int.tmod_lt_of_pos p hn
  have a2 : -(n : Int) < Int.tmod p (n : Int) := by
    rcases Int.le_total 0 p with h | h
    · have := Int.tmod_nonneg (n : Int) h; omega
    · have e : Int.tmod p (n : Int) = -(Int.tmod (-p) (n : Int)) := by rw [Int.neg_tmod]; omega
      have := Int.tmod_lt_of_pos (-p) hn; omega
  rw [wrap_id (by omega) (by omega)]
  have b1 : 0 ≤ Int.tmod (Int.tmod p (n : Int) + (n : Int)) (n : Int) := Int.tmod_nonneg _ (by omega)
  have b2 := Int.tmod_lt_of_pos (Int.tmod p (n : Int) + (n : Int)) hn
  exact ⟨(Int.tmod (Int.tmod p (n : Int) + (n : Int)) (n : Int)).toNat, by omega, by omega⟩
/-- What is left behind a take of one. -/
theorem left_mem {α : Type} {R : List α} {k n : Nat} (hn : R.length = n + 1) (hk : k < n + 1) {z : α} (hz : z ∈ R) : z = R[k] ∨ z ∈ (R.set k (R[n]'(by omega))).take n := by
  obtain ⟨j, hj, rfl⟩ := List.getElem_of_mem hz
  by_cases e : j = k
  · subst e; exact .inl rfl
  · right
    rw [List.mem_iff_getElem]
    by_cases e2 : j = n
    · subst e2
      exact ⟨k, by simp; omega, by simp⟩
    · exact ⟨j, by simp; omega, by rw [List.getElem_take, List.getElem_set_ne (Ne.symm e)]⟩
theorem left_of {α : Type} {R : List α} {k n : Nat} (hn : R.length = n + 1) {z : α} (hz : z ∈ (R.set k (R[n]'(by omega))).take n) : z ∈ R := by
  rcases List.mem_or_eq_of_mem_set (List.mem_of_mem_take hz) with h | h
  · exact h
  · rw [h]; exact List.getElem_mem _
theorem kmerge_ge {κ E : Type} {lt : κ → κ → Bool} {key : E → κ} (a b : List E) : a.length ≤ (kmerge lt key a b).length ∧ b.length ≤ (kmerge lt key a b).length := by
  fun_induction kmerge lt key a b <;> simp only [List.length_cons, List.length_nil] at * <;> omega
theorem look_one (x : S44) (k : List UInt8) : look keyE [x] k = if keyE x = k then some x else none := by
  rw [look_cons, look_nil]
theorem one_ok {x : S44} (h : entE x = 0) : MapOK [x] :=
  ⟨fun e he => by rw [List.mem_singleton] at he; rw [he]; exact h, List.pairwise_singleton _ _⟩
theorem steps_loop {a b : List S44} (ma : MapOK a) (mb : MapOK b) (hcl : (mp a b).all okP = true) (ca : chkL a = 0) (cb : chkL b = 0) (hab : a.length + b.length ≤ 1073741824) (picks : List Int) (n : Nat) :
    ∀ (R M : List S44) (i : Nat), R.length = n → MapOK M → M.length + n ≤ a.length + b.length → i + n ≤ 4294967296 → (∀ e ∈ R, e ∈ a ∨ e ∈ b) → (∀ e ∈ M, e ∈ a ∨ e ∈ b) →
      (∀ x, x ∈ a ∨ x ∈ b → x ∈ R ∨ ∃ y, look keyE M (keyE x) = some y ∧ newK x y = false) → Ev (fun k => tidelinelaw09_MergeSteps.l0 k a b picks R M (i : Int)) true := by
  have hent : ∀ e, e ∈ a ∨ e ∈ b → entE e = 0 := fun e h => h.elim (ma.ent e) (mb.ent e)
  induction n with
  | zero =>
    intro R M i hR hM hlen hi h1 h2 h3
    obtain rfl := List.eq_nil_of_length_eq_zero hR
    refine Ev.step (fun k => by rw [tidelinelaw09_MergeSteps.l0]) ?_
    simp only [List.length_nil, if_neg (show ¬ (((0 : Nat) : Int) > 0) by decide)]
    refine Ev.bind (max_ev a b (by omega) ca cb) ?_
    have mm := max_ok ma mb
    have e : M = maxL (mp a b) := by
      refine map_ext hM mm fun k => ?_
      rw [max_look ma mb]
      cases ht : bestO (look keyE a k) (look keyE b k) with
      | none =>
        cases hy : look keyE M k with
        | none => rfl
        | some y =>
          obtain ⟨q1, q2⟩ := look_some keyE hy
          rcases h2 y q1 with g | g
          · have := look_mem TOE ma.srt g
            rw [q2] at this
            rw [this] at ht
            cases hb : look keyE b k <;> rw [hb] at ht <;> cases ht
          · have := look_mem TOE mb.srt g
            rw [q2] at this
            rw [this] at ht
            cases ha : look keyE a k <;> rw [ha] at ht <;> cases ht
      | some t =>
        obtain ⟨tk, tm⟩ := sel_look sel_best ht
        rcases h3 t tm with g | ⟨y, hy, hn⟩
        · cases g
        · rw [tk] at hy
          rw [hy]
          obtain ⟨q1, q2⟩ := look_some keyE hy
          have hyt : newK y t = false := by
            have hb : ∀ z, z ∈ a ∨ z ∈ b → keyE z = k → newK z t = false := by
              intro z hz hzk
              rcases hz with g | g
              · have hza := look_mem TOE ma.srt g
                rw [hzk] at hza
                rw [hza] at ht
                cases hb : look keyE b k with
                | none => rw [hb] at ht; cases ht; exact newK_not (by omega)
                | some w =>
                  rw [hb] at ht
                  have ht : bestK z w = t := Option.some.inj ht
                  rw [← ht]
                  unfold bestK
                  cases hw : newK w z with
                  | true => have g1 := newK_iff.1 hw; simp only [if_true]; exact newK_not (by omega)
                  | false => simp only [if_neg (show ¬ (false = true) by decide)]; exact newK_not (by omega)
              · have hzb := look_mem TOE mb.srt g
                rw [hzk] at hzb
                rw [hzb] at ht
                cases ha : look keyE a k with
                | none => rw [ha] at ht; cases ht; exact newK_not (by omega)
                | some w =>
                  rw [ha] at ht
                  have ht : bestK w z = t := Option.some.inj ht
                  rw [← ht]
                  unfold bestK
                  cases hw : newK z w with
                  | true => simp only [if_true]; exact newK_not (by omega)
                  | false => simp only [if_neg (show ¬ (false = true) by decide)]; exact hw
            exact hb y (h2 y q1) q2
          have g1 := newK_false hn
          have g2 := newK_false hyt
          have hv : y.f1.f0 = t.f1.f0 ∧ y.f1.f1 = t.f1.f1 := by omega
          congr 1
          rcases h2 y q1 with gy | gy <;> rcases tm with gt | gt
          · have e1 := look_mem TOE ma.srt gy
            have e2 := look_mem TOE ma.srt gt
            rw [q2] at e1; rw [tk] at e2; rw [e1] at e2; exact Option.some.inj e2
          · have e1 := look_mem TOE ma.srt gy
            have e2 := look_mem TOE mb.srt gt
            rw [q2] at e1; rw [tk] at e2
            exact clean_look ma mb hcl e1 e2 hv
          · have e1 := look_mem TOE mb.srt gy
            have e2 := look_mem TOE ma.srt gt
            rw [q2] at e1; rw [tk] at e2
            exact (clean_look ma mb hcl e2 e1 ⟨hv.1.symm, hv.2.symm⟩).symm
          · have e1 := look_mem TOE mb.srt gy
            have e2 := look_mem TOE mb.srt gt
            rw [q2] at e1; rw [tk] at e2; rw [e1] at e2; exact Option.some.inj e2
    simp only [if_true]
    refine Ev.bind (same_f _ _ (by omega)) ?_
    rw [sameB_iff.2 e]
    simp only [if_true]
    refine Ev.const ?_
    have hg : a.length ≤ (maxL (mp a b)).length ∧ b.length ≤ (maxL (mp a b)).length := by
      rw [maxL_len]; unfold mp; rw [List.length_map]; exact kmerge_ge a b
    rw [decide_eq_true (show ((maxL (mp a b)).length : Int) ≥ mx (a.length : Int) (b.length : Int) by unfold mx; split <;> omega)]
  | succ n ih =>
    intro R M i hR hM hlen hi h1 h2 h3
    have fin : ∀ (k : Nat) (hk : k < R.length), Ev (fun q => tidelinelaw09_MergeSteps.l0 q a b picks ((R.set k (R[n]'(by omega))).take n) (maxL (mp M [R[k]])) ((i + 1 : Nat) : Int)) true := by
      intro k hk
      have ho := one_ok (hent _ (h1 _ (List.getElem_mem hk)))
      have hl : (maxL (mp M [R[k]])).length ≤ M.length + [R[k]].length := max_len
      rw [List.length_singleton] at hl
      refine ih _ _ (i + 1) (by simp; omega) (max_ok hM ho) (by omega) (by omega) (fun e he => h1 e (left_of hR he)) ?_ ?_
      · intro e he
        obtain ⟨q, hq⟩ := (max_mem hM ho e).1 he
        rcases (sel_look sel_best hq).2 with g | g
        · exact h2 e g
        · rw [List.mem_singleton] at g; rw [g]; exact h1 _ (List.getElem_mem hk)
      · intro x hx
        have hnew : ∀ y, look keyE M (keyE x) = some y → newK x y = false → ∃ y, look keyE (maxL (mp M [R[k]])) (keyE x) = some y ∧ newK x y = false := by
          intro y hy hn
          rw [max_look hM ho, hy, look_one]
          by_cases e : keyE R[k] = keyE x
          · rw [if_pos e]
            refine ⟨bestK y R[k], rfl, ?_⟩
            unfold bestK
            have g1 := newK_false hn
            cases hw : newK R[k] y with
            | true => have g2 := newK_iff.1 hw; simp only [if_true]; exact newK_not (by omega)
            | false => simp only [if_neg (show ¬ (false = true) by decide)]; exact hn
          · rw [if_neg e]; exact ⟨y, rfl, hn⟩
        rcases h3 x hx with g | ⟨y, hy, hn⟩
        · rcases left_mem hR (show k < n + 1 by omega) g with g | g
          · right
            subst g
            rw [max_look hM ho, look_one, if_pos rfl]
            cases hy : look keyE M (keyE R[k]) with
            | none => exact ⟨_, rfl, newK_not (by omega)⟩
            | some y =>
              refine ⟨bestK y R[k], rfl, ?_⟩
              unfold bestK
              cases hw : newK R[k] y with
              | true => simp only [if_true]; exact newK_not (by omega)
              | false => simp only [if_neg (show ¬ (false = true) by decide)]; exact hw
          · exact .inl g
        · exact .inr (hnew y hy hn)
    refine Ev.step (fun k => by rw [tidelinelaw09_MergeSteps.l0]) ?_
    simp only [if_pos (show (R.length : Int) > 0 by omega)]
    have w1 : wrap64 ((R.length : Int) - 1) = ((n : Nat) : Int) := by rw [wrap_id (by omega) (by omega)]; omega
    have rl : rd_T44 R ((n : Nat) : Int) = R[n]'(by omega) := rd44 (by omega)
    have wi : wrap64 ((i : Int) + 1) = ((i + 1 : Nat) : Int) := wrap_succ (by omega)
    by_cases hp : (i : Int) < (picks.length : Int)
    · obtain ⟨k, hk, ek⟩ := pick_idx (rd picks (i : Int)) R.length (by omega) (by omega)
      have ho := one_ok (hent _ (h1 _ (List.getElem_mem hk)))
      simp only [if_pos hp, if_pos (show (0 : Int) ≤ (i : Int) by omega), if_neg (show ¬ (R.length : Int) = 0 by omega), ek, if_pos (show (0 : Int) ≤ (k : Int) by omega), if_pos (show (k : Int) < (R.length : Int) by omega)]
      rw [rd44 hk]
      refine Ev.bind (max_ev M [R[k]] (by rw [List.length_singleton]; omega) (map_chk hM) (map_chk ho)) ?_
      simp only [if_true, w1, if_pos (show (0 : Int) ≤ (n : Int) by omega), if_pos (show (n : Int) < (R.length : Int) by omega), if_pos (show (n : Int) ≤ (R.length : Int) by omega), rl, Int.toNat_natCast, wi]
      exact fin k hk
    · have ho := one_ok (hent _ (h1 _ (List.getElem_mem (show 0 < R.length by omega))))
      have r0 : rd_T44 R 0 = R[0]'(by omega) := rd44 (i := 0) (by omega)
      simp only [if_neg hp, if_pos (show (0 : Int) < (R.length : Int) by omega), r0]
      refine Ev.bind (max_ev M [R[0]] (by rw [List.length_singleton]; omega) (map_chk hM) (map_chk ho)) ?_
      simp only [if_true, w1, if_pos (show (0 : Int) ≤ (n : Int) by omega), if_pos (show (n : Int) < (R.length : Int) by omega), if_pos (show (n : Int) ≤ (R.length : Int) by omega), rl, Int.toNat_natCast, wi]
      exact fin 0 (by omega)
theorem MergeSteps : tidelinelaw09_MergeSteps.Pure := by
  intro a b picks fa fb fp
  have la : a.length ≤ 2513169434843 := by have := fa.1; omega
  have lb : b.length ≤ 2513169434843 := by have := fb.1; omega
  refine Ev.rounds ?_
  refine Ev.congr (fun k => by rw [tidelinelaw09_MergeSteps.f]) ?_
  obtain ⟨bb, hbb, hlim⟩ := bey_f [a, b] (by simp) (by intro l hl; simp at hl; rcases hl with rfl | rfl <;> assumption)
  refine Ev.bind hbb ?_
  have done : Ev (fun k => tidelinelaw09_MergeSteps.j0 k a b picks true) true := by
    refine Ev.step (fun k => by rw [tidelinelaw09_MergeSteps.j0]) ?_
    simp only [if_true]; exact Ev.const rfl
  cases bb with
  | true => simp only [if_true]; exact done
  | false =>
    have hs := hlim rfl
    simp only [List.map_cons, List.map_nil, List.sum_cons, List.sum_nil] at hs
    simp only [if_neg (show ¬ (false = true) by decide)]
    by_cases g1 : (a.length : Int) > 512
    · simp only [if_pos g1]; exact done
    simp only [if_neg g1]
    by_cases g2 : (b.length : Int) > 512
    · simp only [if_pos g2]; exact done
    simp only [if_neg g2]
    by_cases g3 : (picks.length : Int) > 1048576
    · simp only [if_pos g3]; exact done
    simp only [if_neg g3]
    refine Ev.bind (clean_f a b (by omega)) ?_
    cases h1 : cleanB a b with
    | false => exact done
    | true =>
      obtain ⟨ca, cb, hcl⟩ := cleanB_parts h1
      have ma := mapOK ca
      have mb := mapOK cb
      refine Ev.step (fun k => by rw [tidelinelaw09_MergeSteps.j0]) ?_
      simp only [Bool.not_true, if_neg (show ¬ (false = true) by decide)]
      refine Ev.bind (Ev.const rfl) ?_
      simp only [List.length_nil, Nat.zero_add, List.nil_append, if_pos (show a.length < 2513169434916 by omega)]
      refine Ev.bind (Ev.const rfl) ?_
      simp only [if_pos (show a.length + b.length < 2513169434916 by omega)]
      exact steps_loop ma mb hcl ca cb (by omega) picks (a.length + b.length) (a ++ b) [] 0 (by simp) ⟨by simp, List.Pairwise.nil⟩ (by simp) (by omega) (fun e he => List.mem_append.1 he) (by simp) (fun x hx => .inl (List.mem_append.2 hx))
end Go.Proofs.Ytghlellambnkeaa.Pure
