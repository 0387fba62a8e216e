/- For any three entries the law ItemBest answers true: Newer and Best are the document's, and of three with unlike versions Best is the newest in any order. It has no condition but the form's own reach. -/
import Derived.Test.YthalodnfecaccaaPAllx0
import Derived.Test.YthalodnfecaccaaPAllx3
import Derived.Test.YthalodnfecaccaaPAllx4
import Derived.Test.YthalodnfecaccaaQItemBest
import Derived.Test.YthalodnfecaccaaSEv
import Derived.Test.YthalodnfecaccaaSItemcmp
set_option linter.unusedVariables false
set_option linter.unusedSimpArgs false
namespace Go.Proofs.Ythalodnfecaccaa.Pure
open Go.RowKit Go.Proofs.Ythalodnfecaccaa.PAll Go.Proofs.YthalodnfecaccaaW.PrintWords Go.Proofs.YthalodnfecaccaaW.PrintLast Go.Proofs.YthalodnfecaccaaW.PrintMore
abbrev Ent := ByteArray × Int × Int × ByteArray × Bool
/-- Is the first one newer? -/
def newr (a b : Ent) : Bool := decide (b.2.1 < a.2.1 ∨ (a.2.1 = b.2.1 ∧ b.2.2.1 < a.2.2.1))
/-- The newer one, the first of two as new. -/
def bestE (a b : Ent) : Ent := if newr b a = true then b else a
theorem newr_cmp (a b : Ent) : decide (cmpv a.2.1 a.2.2.1 b.2.1 b.2.2.1 > 0) = newr a b := by
  unfold newr
  rcases cmpv_cases a.2.1 a.2.2.1 b.2.1 b.2.2.1 with ⟨h, h2⟩ | ⟨h, h2⟩ | ⟨h, h2⟩ <;> rw [h]
  · rw [decide_eq_true (show (1 : Int) > 0 by decide), decide_eq_true (by omega)]
  · rw [decide_eq_false (show ¬ (-1 : Int) > 0 by decide), decide_eq_false (by omega)]
  · rw [decide_eq_false (show ¬ (0 : Int) > 0 by decide), decide_eq_false (by omega)]
theorem newr_f (a b : Ent) : Ev (fun k => item_Newer.f k a.1 a.2.1 a.2.2.1 a.2.2.2.1 a.2.2.2.2 b.1 b.2.1 b.2.2.1 b.2.2.2.1 b.2.2.2.2) (newr a b) := by
  refine Ev.congr (fun k => by rw [item_Newer.f]) (Ev.bind (cmpv_f _ _ _ _) ?_)
  rw [newr_cmp]
  exact Ev.const rfl
theorem newr_ref (a b : Ent) : tidelineref03_Newer.f a.1 a.2.1 a.2.2.1 a.2.2.2.1 a.2.2.2.2 b.1 b.2.1 b.2.2.1 b.2.2.2.1 b.2.2.2.2 = some (newr a b) := by
  unfold tidelineref03_Newer.f
  rw [cmpv_ref, Option.bind_some, newr_cmp]
theorem best_f (a b : Ent) : Ev (fun k => item_Best.f k a.1 a.2.1 a.2.2.1 a.2.2.2.1 a.2.2.2.2 b.1 b.2.1 b.2.2.1 b.2.2.2.1 b.2.2.2.2) (bestE a b) := by
  refine Ev.congr (fun k => by rw [item_Best.f]) (Ev.bind (newr_f b a) ?_)
  unfold bestE
  cases newr b a <;> exact Ev.const rfl
theorem best_ref (a b : Ent) : tidelineref03_Best.f a.1 a.2.1 a.2.2.1 a.2.2.2.1 a.2.2.2.2 b.1 b.2.1 b.2.2.1 b.2.2.2.1 b.2.2.2.2 = some (bestE a b) := by
  unfold tidelineref03_Best.f bestE
  rw [newr_ref b a, Option.bind_some]
  cases newr b a <;> rfl
theorem best_assoc (a b c : Ent) : bestE (bestE a b) c = bestE a (bestE b c) := by
  cases h1 : newr b a <;> cases h2 : newr c b <;> cases h3 : newr c a <;> simp only [bestE, h1, h2, h3, if_true, if_neg (show ¬ (false = true) by decide)] <;> (exfalso; simp only [newr, decide_eq_true_eq, decide_eq_false_iff_not] at h1 h2 h3; omega)
/-- Unlike versions. -/
def unlike (a b : Ent) : Prop := ¬ (a.2.1 = b.2.1 ∧ a.2.2.1 = b.2.2.1)
theorem newr_flip {a b : Ent} (h : unlike a b) : newr a b = !newr b a := by
  unfold unlike at h
  unfold newr
  by_cases h1 : b.2.1 < a.2.1 ∨ (a.2.1 = b.2.1 ∧ b.2.2.1 < a.2.2.1)
  · rw [decide_eq_true h1, decide_eq_false (by omega)]; rfl
  · rw [decide_eq_false h1, decide_eq_true (by omega)]; rfl
theorem newr_self (a : Ent) : newr a a = false := by unfold newr; rw [decide_eq_false (by omega)]
theorem best_turn (a b c : Ent) (h1 : unlike a b) (h2 : unlike b c) (h3 : unlike a c) : bestE (bestE a b) c = bestE c (bestE b a) := by
  have e1 := newr_flip h1
  have e2 := newr_flip h2
  have e3 := newr_flip h3
  cases k1 : newr b a <;> cases k2 : newr c b <;> cases k3 : newr c a <;> simp only [k1, k2, k3, Bool.not_true, Bool.not_false] at e1 e2 e3 <;> simp only [bestE, e1, e2, e3, k1, k2, k3, if_true, if_neg (show ¬ (false = true) by decide)]
theorem best_top (a b c : Ent) : newr a (bestE (bestE a b) c) = false ∧ newr b (bestE (bestE a b) c) = false ∧ newr c (bestE (bestE a b) c) = false := by
  cases h1 : newr b a <;> cases h2 : newr c b <;> cases h3 : newr c a <;> simp only [bestE, h1, h2, h3, if_true, if_neg (show ¬ (false = true) by decide)] <;> simp only [newr, decide_eq_true_eq, decide_eq_false_iff_not] at h1 h2 h3 <;> refine ⟨?_, ?_, ?_⟩ <;> first | trivial | exact decide_eq_false (by omega)
theorem best_j2 (t : Bool) (a b c x y z : Ent) (hxy : x = y) (h : t = false → x = z ∧ newr a x = false ∧ newr b x = false ∧ newr c x = false) :
    Ev (fun k => tidelinelaw03_ItemBest.j2 k t a.1 a.2.1 a.2.2.1 a.2.2.2.1 a.2.2.2.2 b.1 b.2.1 b.2.2.1 b.2.2.2.1 b.2.2.2.2 c.1 c.2.1 c.2.2.1 c.2.2.2.1 c.2.2.2.2 x.1 x.2.1 x.2.2.1 x.2.2.2.1 x.2.2.2.2 y.1 y.2.1 y.2.2.1 y.2.2.2.1 y.2.2.2.2 z.1 z.2.1 z.2.2.1 z.2.2.2.1 z.2.2.2.2) true := by
  subst hxy
  refine Ev.step (fun k => by rw [tidelinelaw03_ItemBest.j2]) ?_
  cases t with
  | true => simp only [if_true, beq_self_eq_true, Bool.and_self]; exact Ev.const rfl
  | false =>
    obtain ⟨hz, h1, h2, h3⟩ := h rfl
    subst hz
    simp only [if_neg (show ¬ (false = true) by decide), if_true, beq_self_eq_true, Bool.and_self]
    refine Ev.bind (newr_f a x) ?_
    rw [h1]
    simp only [if_neg (show ¬ (false = true) by decide)]
    refine Ev.bind (newr_f b x) ?_
    rw [h2]
    simp only [if_neg (show ¬ (false = true) by decide)]
    refine Ev.bind (newr_f c x) ?_
    rw [h3]
    exact Ev.const rfl
theorem unlike_of {a b : Ent} (h : ¬ (a.2.1 == b.2.1 && (a.2.2.1 == b.2.2.1)) = true) : unlike a b := by
  rintro ⟨h1, h2⟩
  exact h (by rw [h1, h2]; simp)
theorem best_j1 (a b c : Ent) :
    Ev (fun k => tidelinelaw03_ItemBest.j1 k false a.1 a.2.1 a.2.2.1 a.2.2.2.1 a.2.2.2.2 b.1 b.2.1 b.2.2.1 b.2.2.2.1 b.2.2.2.2 c.1 c.2.1 c.2.2.1 c.2.2.2.1 c.2.2.2.2) true := by
  refine Ev.step (fun k => by rw [tidelinelaw03_ItemBest.j1]) ?_
  simp only [if_neg (show ¬ (false = true) by decide)]
  refine Ev.bind (best_f a b) (Ev.bind (best_f (bestE a b) c) (Ev.bind (best_f b c) (Ev.bind (best_f a (bestE b c)) (Ev.bind (best_f b a) (Ev.bind (best_f c (bestE b a)) ?_)))))
  have J : ∀ t : Bool, (t = false → unlike a b ∧ unlike b c ∧ unlike a c) → _ := fun t ht => best_j2 t a b c (bestE (bestE a b) c) (bestE a (bestE b c)) (bestE c (bestE b a)) (best_assoc a b c)
    (fun h => by obtain ⟨h1, h2, h3⟩ := ht h; exact ⟨best_turn a b c h1 h2 h3, best_top a b c⟩)
  by_cases h1 : (a.2.1 == b.2.1 && (a.2.2.1 == b.2.2.1)) = true
  · simp only [if_pos h1]; exact J true (fun h => by cases h)
  · simp only [if_neg h1]
    by_cases h2 : (b.2.1 == c.2.1 && (b.2.2.1 == c.2.2.1)) = true
    · simp only [if_pos h2]; exact J true (fun h => by cases h)
    · simp only [if_neg h2]
      exact J _ (fun h => ⟨unlike_of h1, unlike_of h2, unlike_of (by rw [h]; decide)⟩)
theorem best_j0 (t : Bool) (a b c : Ent) :
    Ev (fun k => tidelinelaw03_ItemBest.j0 k t a.1 a.2.1 a.2.2.1 a.2.2.2.1 a.2.2.2.2 b.1 b.2.1 b.2.2.1 b.2.2.2.1 b.2.2.2.2 c.1 c.2.1 c.2.2.1 c.2.2.2.1 c.2.2.2.2) true := by
  refine Ev.step (fun k => by rw [tidelinelaw03_ItemBest.j0]) ?_
  cases t with
  | true => exact Ev.const rfl
  | false =>
    simp only [if_neg (show ¬ (false = true) by decide)]
    refine Ev.bind (newr_f a b) ?_
    simp only [newr_ref a b, Option.bind_some, bne_self_eq_false, if_neg (show ¬ (false = true) by decide)]
    refine Ev.bind (best_f a b) ?_
    simp only [best_ref a b, Option.bind_some, beq_self_eq_true, Bool.not_true, Bool.or_self]
    exact best_j1 a b c
theorem ItemBest : tidelinelaw03_ItemBest.Pure := by
  intro a0 a1 a2 a3 a4 b0 b1 b2 b3 b4 c0 c1 c2 c3 c4 _ _ _
  refine Ev.rounds ?_
  have J := fun t => best_j0 t (a0, a1, a2, a3, a4) (b0, b1, b2, b3, b4) (c0, c1, c2, c3, c4)
  have L : ∀ x0 x1 x2 x3 x4, ∃ t, tidelinelaw03_long.f x0 x1 x2 x3 x4 = some t := by
    intro x0 x1 x2 x3 x4
    unfold tidelinelaw03_long.f
    split
    · exact ⟨_, rfl⟩
    · exact ⟨_, rfl⟩
  refine Ev.congr (fun k => by rw [tidelinelaw03_ItemBest.f]) ?_
  obtain ⟨t, ht⟩ := L a0 a1 a2 a3 a4
  obtain ⟨u, hu⟩ := L b0 b1 b2 b3 b4
  obtain ⟨v, hv⟩ := L c0 c1 c2 c3 c4
  simp only [ht, hu, hv, Option.bind_some]
  cases t with
  | true => exact J true
  | false =>
    simp only [if_neg (show ¬ (false = true) by decide)]
    cases u with
    | true => exact J true
    | false => simp only [if_neg (show ¬ (false = true) by decide)]; exact J v
end Go.Proofs.Ythalodnfecaccaa.Pure
