-- By wip/late.py (a program of this session) out of wip/words.
import Derived.Test.YtgdhgamolenfgaaProg
import Derived.Test.YtgdhgamolenfgaaWWords
import Derived.Test.YtgdhgamolenfgaaWLast
import Derived.Test.YtgdhgamolenfgaaWMore
import Derived.Test.YtgdhgamolenfgaaPAllx0
import Derived.Test.YtgdhgamolenfgaaSWr
import Derived.RangeFuncBox
import Derived.Maps.AppendAt
import Derived.Deep.AppendSrc
import Derived.Deep.Upon
import Derived.Lib.Hide
import Derived.WalkKit
import Derived.OwnWalk
set_option linter.unusedVariables false
set_option linter.unusedSimpArgs false
namespace Go.Proofs.Ytgdhgamolenfgaa.Wr
open Go.RowKit Go.Proofs.YtgdhgamolenfgaaW.PrintWords Go.Proofs.Ytgdhgamolenfgaa.PAll
/-! Rows of texts and of ranges, of one's own: appended, written, read. -/
def sv (l : List ByteArray) : List Value := l.map Value.string
def rgC (x : S23) : List Value := [.string x.f0, .string x.f1, .bool x.f2]
def rv (l : List S23) : List Value := l.flatMap rgC
theorem rv_len (l : List S23) : (rv l).length = l.length * 3 := by
  induction l with
  | nil => rfl
  | cons x l ih =>
    have : rv (x :: l) = rgC x ++ rv l := rfl
    rw [this, List.length_append, ih, List.length_cons]
    simp only [rgC, List.length_cons, List.length_nil]
    omega
theorem infoS : ∃ i, Try.prog.info? 9 = some i ∧ i.zero = some (.string ⟨#[]⟩) ∧ i.size = 1 ∧ i.bytes = 16 := by
  have h : (Try.prog.info? 9).map (fun i => (i.zero, i.size, i.bytes)) = some (some (.string ⟨#[]⟩), 1, 16) := by kernel_rfl
  obtain ⟨i0, hi, hz⟩ := Option.map_eq_some_iff.1 h
  simp only [Prod.mk.injEq] at hz
  exact ⟨i0, hi, hz.1, hz.2.1, hz.2.2⟩
theorem infoR : ∃ i, Try.prog.info? 23 = some i ∧ i.zero = some (.agg #[.string ⟨#[]⟩, .string ⟨#[]⟩, .bool false]) ∧ i.size = 3 ∧ i.bytes = 40 := by
  have h : (Try.prog.info? 23).map (fun i => (i.zero, i.size, i.bytes)) = some (some (.agg #[.string ⟨#[]⟩, .string ⟨#[]⟩, .bool false]), 3, 40) := by kernel_rfl
  obtain ⟨i0, hi, hz⟩ := Option.map_eq_some_iff.1 h
  simp only [Prod.mk.injEq] at hz
  exact ⟨i0, hi, hz.1, hz.2.1, hz.2.2⟩
theorem srcS {w : World} {A : Option Addr} {c : Nat} {l : List ByteArray} (h : Kd.C Kd.string w A l.length l) : Src Try.prog 1 29 (.slice A l.length c) l.length (sv l) w := by
  cases A with
  | none =>
    have h0 : l = [] := by
      cases l with
      | nil => rfl
      | cons x l =>
        obtain ⟨ad, e, _⟩ := Kd.at_string h 0 (by omega) (by simp only [List.length_cons]; omega)
        cases e
    subst h0
    exact Src.ofNil w Try.underlying29 c
  | some ad =>
    refine Src.ofSlice w Try.underlying29 ad _ _ _ (by simp [sv]) (fun j u hj => ?_) (by intro u hu; obtain ⟨x, _, rfl⟩ := List.mem_map.1 hu; rfl)
    have hlt : j < l.length := by
      have := (List.getElem?_eq_some_iff.1 hj).1
      simpa [sv] using this
    obtain ⟨ad', e, hc⟩ := Kd.at_string h (j : Int) (Int.natCast_nonneg j) (by omega)
    injection e with e
    subst e
    simp only [Int.toNat_natCast, rdOf] at hc
    rw [hc]
    simp only [sv, List.getElem?_map, List.getElem?_eq_getElem hlt, Option.map_some] at hj
    rw [List.getD_eq_getElem?_getD, List.getElem?_eq_getElem hlt]
    exact hj
/-- Two texts, written out. -/
theorem srcTwo (w : World) (s t : ByteArray) : Src Try.prog 1 29 (.slice (some ⟨w.heap.size, 0, none⟩) 2 2) 2 [.string s, .string t] (w.alloc (.cells #[.string s, .string t] 9)) := by
  have g := heap_alloc_new w (.cells #[.string s, .string t] 9)
  refine Src.ofSlice _ Try.underlying29 ⟨w.heap.size, 0, none⟩ 2 2 _ rfl (fun j u hj => ?_) (by intro u hu; simp only [List.mem_cons, List.not_mem_nil, or_false] at hu; rcases hu with rfl | rfl <;> rfl)
  match j, hj with
  | 0, hj => cases hj; rw [show ((⟨w.heap.size, 0, none⟩ : Addr).add 0) = ⟨w.heap.size, 0, none⟩ by simp [Addr.add]]; exact (blk_cell g 0).trans rfl
  | 1, hj => cases hj; rw [show ((⟨w.heap.size, 0, none⟩ : Addr).add 1) = ⟨w.heap.size, 1, none⟩ by simp [Addr.add]]; exact (blk_cell g 1).trans rfl
  | j + 2, hj => simp at hj
/-- 'append([]string(nil), l...)'. -/
theorem copy_run {w : World} {A : Option Addr} {c : Nat} {l : List ByteArray} (h : Kd.C Kd.string w A l.length l) (hl : l.length ≤ 4398046511104) :
    ∃ A' c' w1, (∀ ty, (Builtin.append_ #[29, 29] ty #[.slice none 0 0, .slice A l.length c]).run Try.prog w = .ok (.slice A' l.length c') w1) ∧ w1.ownsRow w.heap.size 9 1 (.slice A' l.length c') l.length (sv l) ∧ Below w.heap.size w w1 := by
  obtain ⟨i0, hi, hz0, hz1, hz2⟩ := infoS
  obtain ⟨v', w1, hr, h1, h2, h3⟩ := run_append_own_src (P := Try.prog) w w.heap.size 29 29 29 9 i0 (.string ⟨#[]⟩) 1 16 Try.underlying29 hi hz0 hz1 hz2 rfl (by decide) (.slice none 0 0) 0 [] (World.ownsRow_nil _ _ _ _) (.slice A l.length c) l.length (sv l) (srcS h) (by simp only [maxLen]; omega) (by omega) (Nat.le_refl _)
  rw [Nat.zero_add, List.nil_append] at h1
  have hb : Below w.heap.size w w1 := ⟨h2.os, h2.tape, h2.output, h2.size, fun k hk => h2.block k hk (by simp [Value.ownBlock])⟩
  have hs : ∃ A c, v' = .slice A l.length c := by
    rcases h1.2 with ⟨rfl, h0⟩ | ⟨g, cap, cur, rfl, _, _, hc, _⟩
    · exact ⟨none, 0, by rw [h0]⟩
    · exact ⟨_, _, rfl⟩
  obtain ⟨A', c', rfl⟩ := hs
  exact ⟨A', c', w1, fun ty => hr, h1, hb⟩
/-- 'append(own, s, t)'. -/
theorem more_run {w : World} {base : Nat} {A : Option Addr} {c : Nat} {l : List ByteArray} (s t : ByteArray) (h : w.ownsRow base 9 1 (.slice A l.length c) l.length (sv l)) (hbase : base ≤ w.heap.size) (hl : l.length ≤ 4398046511104) :
    ∃ g c' w1, (∀ ty, (Builtin.append_ #[29, 29] ty #[.slice A l.length c, .slice (some ⟨w.heap.size, 0, none⟩) 2 2]).run Try.prog (w.alloc (.cells #[.string s, .string t] 9)) = .ok (.slice (some ⟨g, 0, none⟩) (l.length + 2) c') w1) ∧ w1.ownsRow base 9 1 (.slice (some ⟨g, 0, none⟩) (l.length + 2) c') (l.length + 2) (sv (l ++ [s, t])) ∧ Below base w w1 := by
  obtain ⟨i0, hi, hz0, hz1, hz2⟩ := infoS
  have hb0 : Below w.heap.size w (w.alloc (.cells #[.string s, .string t] 9)) := below_alloc (Below.refl _ _) _
  obtain ⟨v', w1, hr, h1, h2, h3⟩ := run_append_own_src (P := Try.prog) (w.alloc (.cells #[.string s, .string t] 9)) base 29 29 29 9 i0 (.string ⟨#[]⟩) 1 16 Try.underlying29 hi hz0 hz1 hz2 rfl (by decide) (.slice A l.length c) l.length (sv l) (pw_own_below h hb0) _ 2 _ (srcTwo w s t) (by simp only [maxLen]; omega) (by omega) (Nat.le_trans hbase hb0.size)
  have e : sv l ++ [.string s, .string t] = sv (l ++ [s, t]) := by simp [sv]
  rw [e] at h1
  have hne : ∀ k, k < base → some k ≠ (Value.slice A l.length c).ownBlock := by
    intro k hk e'
    rcases h.2 with ⟨e2, _⟩ | ⟨g, cap, cur, e2, hg, _⟩
    · rw [e2] at e'; simp [Value.ownBlock] at e'
    · rw [e2] at e'
      have : g = k := by simpa [Value.ownBlock] using e'.symm
      omega
  have hb : Below base w w1 := (hb0.mono hbase).trans ⟨h2.os, h2.tape, h2.output, h2.size, fun k hk => h2.block k (by have := hb0.size; omega) (hne k hk)⟩
  obtain ⟨g, c', rfl⟩ := ownsRow_succ h1
  exact ⟨g, c', w1, fun ty => hr, h1, hb⟩
theorem rv_cons (x : S23) (l : List S23) : rv (x :: l) = .string x.f0 :: .string x.f1 :: .bool x.f2 :: rv l := rfl
theorem rv_get : ∀ (l : List S23) (i : Nat) (h : i < l.length), (rv l)[i * 3]? = some (.string l[i].f0) ∧ (rv l)[i * 3 + 1]? = some (.string l[i].f1) ∧ (rv l)[i * 3 + 2]? = some (.bool l[i].f2) := by
  intro l
  induction l with
  | nil => intro i h; simp at h
  | cons x l ih =>
    intro i h
    cases i with
    | zero => simp [rv_cons]
    | succ i =>
      have hi : i < l.length := by simpa using h
      obtain ⟨a, b, c⟩ := ih i hi
      rw [rv_cons, show (i + 1) * 3 = i * 3 + 1 + 1 + 1 by omega]
      simp only [List.getElem?_cons_succ, List.getElem_cons_succ]
      exact ⟨a, b, c⟩
theorem rv_set : ∀ (l : List S23) (i : Nat) (x : S23), (((rv l).set (i * 3) (.string x.f0)).set (i * 3 + 1) (.string x.f1)).set (i * 3 + 2) (.bool x.f2) = rv (l.set i x) := by
  intro l
  induction l with
  | nil => intro i x; simp [rv]
  | cons y l ih =>
    intro i x
    cases i with
    | zero => simp [rv_cons]
    | succ i =>
      rw [List.set_cons_succ, rv_cons, rv_cons, ← ih i x, show (i + 1) * 3 = i * 3 + 1 + 1 + 1 by omega]
      simp only [List.set_cons_succ]
/-- Element i of a row of ranges of one's own is written. -/
theorem rv_put {W : World} {base g n c : Nat} {l : List S23} (h : W.ownsRow base 23 3 (.slice (some ⟨g, 0, none⟩) n c) n (rv l)) (i : Nat) (x : S23) :
    (((W.setCell ⟨g, i * 3, none⟩ (.string x.f0)).setCell ⟨g, i * 3 + 1, none⟩ (.string x.f1)).setCell ⟨g, i * 3 + 2, none⟩ (.bool x.f2)).ownsRow base 23 3 (.slice (some ⟨g, 0, none⟩) n c) n (rv (l.set i x)) := by
  obtain ⟨h1, h2⟩ := h
  rcases h2 with ⟨e, _⟩ | ⟨g', cap, cur, e, hb, hg, hc, hm, hs, ht⟩
  · cases e
  · cases e
    have g1 := blk_set hg (i * 3) (.string x.f0)
    have g2 := blk_set g1 (i * 3 + 1) (.string x.f1)
    have g3 := blk_set g2 (i * 3 + 2) (.bool x.f2)
    refine ⟨by rw [rv_len, List.length_set, ← rv_len]; exact h1, .inr ⟨g, c, _, rfl, hb, g3, hc, hm, by simpa using hs, ?_⟩⟩
    rw [← rv_set]
    simp only [Array.toList_setIfInBounds]
    rw [← ht]
    simp only [List.length_set, List.take_set]
theorem rv_far {W : World} {g g' i : Nat} {o : Obj} (hne : g' ≠ g) (a b c : Value) (h : W.heap[g']? = some o) : (((W.setCell ⟨g, i * 3, none⟩ a).setCell ⟨g, i * 3 + 1, none⟩ b).setCell ⟨g, i * 3 + 2, none⟩ c).heap[g']? = some o := by
  rw [Below.heap_setCell _ ⟨g, i * 3 + 2, none⟩ _ _ hne, Below.heap_setCell _ ⟨g, i * 3 + 1, none⟩ _ _ hne, Below.heap_setCell _ ⟨g, i * 3, none⟩ _ _ hne]
  exact h
/-- What is read of element i. -/
theorem rv_at {W : World} {base g n c : Nat} {l : List S23} (h : W.ownsRow base 23 3 (.slice (some ⟨g, 0, none⟩) n c) n (rv l)) (i : Nat) (hi : i < l.length) :
    W.cell? ⟨g, i * 3, none⟩ = some (.string l[i].f0) ∧ W.cell? ⟨g, i * 3 + 1, none⟩ = some (.string l[i].f1) ∧ W.cell? ⟨g, i * 3 + 2, none⟩ = some (.bool l[i].f2) ∧ W.frozen? ⟨g, i * 3, none⟩ = false ∧ W.frozen? ⟨g, i * 3 + 1, none⟩ = false ∧ W.frozen? ⟨g, i * 3 + 2, none⟩ = false := by
  obtain ⟨a, b, d⟩ := rv_get l i hi
  have hh := h
  obtain ⟨h1, h2⟩ := hh
  rcases h2 with ⟨e, _⟩ | ⟨g', cap, cur, e, hb, hg, hc, hm, hs, ht⟩
  · cases e
  · cases e
    have ad : ∀ k : Nat, ((⟨g, 0, none⟩ : Addr).add k) = ⟨g, k, none⟩ := fun k => by
      unfold Addr.add
      split
      · rename_i h0; subst h0; rfl
      · simp
    have c0 := h.cells (g := g) rfl _ _ a
    have c1 := h.cells (g := g) rfl _ _ b
    have c2 := h.cells (g := g) rfl _ _ d
    rw [ad] at c0 c1 c2
    exact ⟨c0, c1, c2, blk_frozen hg _, blk_frozen hg _, blk_frozen hg _⟩
theorem rv_at3 {W : World} {base g n c : Nat} {l : List S23} (h : W.ownsRow base 23 3 (.slice (some ⟨g, 0, none⟩) n c) n (rv l)) (i : Nat) (hi : i < l.length) :
    ∃ u : S23, l[i]? = some u ∧ W.cell? ⟨g, i * 3, none⟩ = some (.string u.f0) ∧ W.cell? ⟨g, i * 3 + 1, none⟩ = some (.string u.f1) ∧ W.cell? ⟨g, i * 3 + 2, none⟩ = some (.bool u.f2) ∧ W.frozen? ⟨g, i * 3, none⟩ = false ∧ W.frozen? ⟨g, i * 3 + 1, none⟩ = false ∧ W.frozen? ⟨g, i * 3 + 2, none⟩ = false :=
  ⟨l[i], List.getElem?_eq_getElem hi, rv_at h i hi⟩
theorem srcTwoR (w : World) (x : S23) : Src Try.prog 3 30 (.slice (some ⟨w.heap.size, 0, none⟩) 2 2) 2 (rv [x, x]) (w.alloc (.cells #[.string x.f0, .string x.f1, .bool x.f2, .string x.f0, .string x.f1, .bool x.f2] 23)) := by
  have g := heap_alloc_new w (.cells #[.string x.f0, .string x.f1, .bool x.f2, .string x.f0, .string x.f1, .bool x.f2] 23)
  have ad : ∀ k : Nat, ((⟨w.heap.size, 0, none⟩ : Addr).add k) = ⟨w.heap.size, k, none⟩ := fun k => by
    unfold Addr.add
    split
    · rename_i h0; subst h0; rfl
    · simp
  have e : rv [x, x] = [.string x.f0, .string x.f1, .bool x.f2, .string x.f0, .string x.f1, .bool x.f2] := rfl
  rw [e]
  refine Src.ofSlice _ Try.underlying30 ⟨w.heap.size, 0, none⟩ 2 2 _ rfl (fun j u hj => ?_) (by intro u hu; simp only [List.mem_cons, List.not_mem_nil, or_false] at hu; rcases hu with rfl | rfl | rfl | rfl | rfl | rfl <;> rfl)
  rw [ad, blk_cell g]
  simp only [List.getElem?_toArray]
  exact hj
theorem reps_rv : ∀ (l : List S23) (inner : List Value), inner.length = l.length * 3 → (∀ (j : Nat) p, l[j]? = some p → (inner.drop (j * 3)).take 3 = rgC p) → inner = rv l := by
  intro l
  induction l with
  | nil => intro inner h _; exact List.eq_nil_of_length_eq_zero (by simpa using h)
  | cons x l ih =>
    intro inner h hp
    have h0 := hp 0 x rfl
    rw [Nat.zero_mul, List.drop_zero] at h0
    have h1 := ih (inner.drop 3) (by rw [List.length_drop, h, List.length_cons]; omega) (fun j p hj => by
      have := hp (j + 1) p (by simpa using hj)
      rw [List.drop_drop, show 3 + j * 3 = (j + 1) * 3 by omega]
      exact this)
    have h2 : rv (x :: l) = rgC x ++ rv l := rfl
    rw [h2, ← h0, ← h1, List.take_append_drop]
theorem rv_of_R {w : World} {base : Nat} {ok : Nat → Prop} {v : Value} {l : List S23} (h : Kd.R k23 23 w base ok v l) : w.ownsRow base 23 3 v l.length (rv l) := by
  obtain ⟨_, inner, ho, hr⟩ := h
  have e : inner = rv l := reps_rv l inner hr.1 (fun j p hj => k23_openM (hr.2 j p hj))
  rw [← e]
  exact ho
theorem rv_chunk : ∀ (l : List S23) (j : Nat) (p : S23), l[j]? = some p → ((rv l).drop (j * 3)).take 3 = rgC p := by
  intro l
  induction l with
  | nil => intro j p h; simp at h
  | cons x l ih =>
    intro j p h
    cases j with
    | zero => simp at h; subst h; rfl
    | succ j =>
      have h1 := ih j p (by simpa using h)
      have h2 : rv (x :: l) = rgC x ++ rv l := rfl
      rw [h2, show (j + 1) * 3 = (rgC x).length + j * 3 by simp only [rgC, List.length_cons, List.length_nil]; omega, ← List.drop_drop, List.drop_left]
      exact h1
theorem rv_R {W : World} {base n : Nat} {v : Value} {l : List S23} (hn : l.length = n) (h : W.ownsRow base 23 3 v n (rv l)) : Kd.R k23 23 W base (fun _ => True) v l := by
  subst hn
  exact ⟨fun _ _ => trivial, rv l, h, rv_len l, fun j p hj => by
    have e := rv_chunk l j p hj
    show k23.M W base _ p (((rv l).drop (j * 3)).take 3)
    rw [e]
    exact k23_mkM W base _ p⟩
theorem own_at_g {W : World} {base sz n c g : Nat} {e : TypeId} {xs : List Value} (h : W.ownsRow base e sz (.slice (some ⟨g, 0, none⟩) n c) n xs) : base ≤ g ∧ g < W.heap.size := by
  rcases h.2 with ⟨e1, _⟩ | ⟨g', cap, cur, e1, hb, hg, _⟩
  · cases e1
  · cases e1; exact ⟨hb, blk_lt hg⟩
theorem own_keepg {W W' : World} {base sz n : Nat} {e : TypeId} {v : Value} {xs : List Value} (h : W.ownsRow base e sz v n xs) {g : Nat} (hg : g < base) (hk : ∀ k, k < W.heap.size → k ≠ g → W'.heap[k]? = W.heap[k]?) : W'.ownsRow base e sz v n xs := by
  refine own_move h (fun k hv => ?_)
  rcases h.2 with ⟨e1, _⟩ | ⟨g', cap, cur, e1, hb, hh, _⟩
  · rw [e1] at hv; simp [Value.ownBlock] at hv
  · rw [e1] at hv
    have : g' = k := by simpa [Value.ownBlock] using hv
    subst this
    exact hk _ (blk_lt hh) (by omega)
theorem own_keepl {W W' : World} {base sz n : Nat} {e : TypeId} {v : Value} {xs : List Value} (h : W.ownsRow base e sz v n xs) {g : Nat} (hg : ∀ k, v.ownBlock = some k → k < g) (hk : ∀ k, k < W.heap.size → k ≠ g → W'.heap[k]? = W.heap[k]?) : W'.ownsRow base e sz v n xs := by
  refine own_move h (fun k hv => ?_)
  have h1 := hg k hv
  obtain ⟨cells, hc⟩ := own_typed h k hv
  exact hk _ (blk_lt hc) (by omega)
theorem own_keepv {W W' : World} {base sz n : Nat} {e : TypeId} {v u : Value} {xs : List Value} (h : W.ownsRow base e sz v n xs) (hu : ∀ k, u.ownBlock = some k → k < base) (hk : ∀ k, k < W.heap.size → some k ≠ u.ownBlock → W'.heap[k]? = W.heap[k]?) : W'.ownsRow base e sz v n xs := by
  refine own_move h (fun k hv => ?_)
  rcases h.2 with ⟨e1, _⟩ | ⟨g', cap, cur, e1, hb, hh, _⟩
  · rw [e1] at hv; simp [Value.ownBlock] at hv
  · rw [e1] at hv
    have : g' = k := by simpa [Value.ownBlock] using hv
    subst this
    refine hk _ (blk_lt hh) (fun e2 => ?_)
    have := hu _ e2.symm
    omega
theorem own_keepw {W W' : World} {base sz n m : Nat} {e : TypeId} {v u : Value} {xs : List Value} (h : W.ownsRow base e sz v n xs) (hv : ∀ k, v.ownBlock = some k → k < m) (hu : ∀ k, u.ownBlock = some k → m ≤ k) (hk : ∀ k, k < W.heap.size → some k ≠ u.ownBlock → W'.heap[k]? = W.heap[k]?) : W'.ownsRow base e sz v n xs := by
  refine own_move h (fun k hb => ?_)
  obtain ⟨cells, hc⟩ := own_typed h k hb
  refine hk _ (blk_lt hc) (fun e2 => ?_)
  have h1 := hv _ hb
  have h2 := hu _ e2.symm
  omega
theorem own_at_g' {W : World} {base sz n c g : Nat} {e : TypeId} {xs : List Value} (h : W.ownsRow base e sz (.slice (some ⟨g, 0, none⟩) n c) n xs) : g < W.heap.size := by
  rcases h.2 with ⟨e1, _⟩ | ⟨g', cap, cur, e1, hb, hg, _⟩
  · cases e1
  · cases e1; exact blk_lt hg
theorem own_keepm {W W' : World} {base sz n g c : Nat} {e : TypeId} {u : Value} {xs : List Value} (h : W.ownsRow base e sz (.slice (some ⟨g, 0, none⟩) n c) n xs) (hu : some g = u.ownBlock → False) (hk : ∀ k, k < W.heap.size → some k ≠ u.ownBlock → W'.heap[k]? = W.heap[k]?) : W'.ownsRow base e sz (.slice (some ⟨g, 0, none⟩) n c) n xs := by
  refine own_move h (fun k hb => ?_)
  have : g = k := by simpa [Value.ownBlock] using hb
  subst this
  exact hk _ (own_at_g' h) hu
theorem own_ltv {W : World} {base sz n : Nat} {e : TypeId} {v : Value} {xs : List Value} (h : W.ownsRow base e sz v n xs) : ∀ k, v.ownBlock = some k → k < W.heap.size := by
  intro k hk
  obtain ⟨cells, hc⟩ := own_typed h k hk
  exact blk_lt hc
theorem own_basev {W : World} {base sz n : Nat} {e : TypeId} {v : Value} {xs : List Value} (h : W.ownsRow base e sz v n xs) : ∀ k, v.ownBlock = some k → base ≤ k := by
  intro k hk
  rcases h.2 with ⟨e1, _⟩ | ⟨g', cap, cur, e1, hb, hh, _⟩
  · rw [e1] at hk; simp [Value.ownBlock] at hk
  · rw [e1] at hk
    have : g' = k := by simpa [Value.ownBlock] using hk
    omega
/-- What a row of ranges holds, the first i written. -/
def repL (x : S23) (l : List S23) (i : Nat) : List S23 := List.replicate i x ++ l.drop i
theorem repL_len (x : S23) (l : List S23) {i : Nat} (h : i ≤ l.length) : (repL x l i).length = l.length := by simp [repL]; omega
theorem repL_set (x : S23) (l : List S23) {i : Nat} (h : i < l.length) : (repL x l i).set i x = repL x l (i + 1) := by
  unfold repL
  rw [List.set_append_right _ _ (by simp), List.length_replicate, Nat.sub_self, List.drop_eq_getElem_cons h, List.set_cons_zero, List.replicate_succ', List.append_assoc]
  rfl
theorem repL_end (x : S23) (l : List S23) : repL x l l.length ++ [x, x] = List.replicate (l.length + 2) x := by
  unfold repL
  rw [List.drop_length, List.append_nil, List.replicate_succ', List.replicate_succ', List.append_assoc]
  rfl
theorem sv_put {W : World} {base g n c : Nat} {l : List ByteArray} (hn : l.length = n) (h : W.ownsRow base 9 1 (.slice (some ⟨g, 0, none⟩) n c) n (sv l)) (i : Nat) (x : ByteArray) : (W.setCell ⟨g, i, none⟩ (.string x)).ownsRow base 9 1 (.slice (some ⟨g, 0, none⟩) n c) n (sv (l.set i x)) := by
  subst hn
  have := own_put_of (enc := Value.string) h (i : Int) x
  rw [Int.toNat_natCast, List.length_set] at this
  exact this
theorem sv_at {W : World} {base g n c : Nat} {l : List ByteArray} (hn : l.length = n) (h : W.ownsRow base 9 1 (.slice (some ⟨g, 0, none⟩) n c) n (sv l)) (i : Nat) (hi : i < n) : W.cell? ⟨g, i, none⟩ = some (.string (rdOf ByteArray.empty l (i : Int))) ∧ W.frozen? ⟨g, i, none⟩ = false := by
  have := own_at_of (enc := Value.string) (d := ByteArray.empty) (xs := l) h (i : Int) (Int.natCast_nonneg i) (by omega)
  rw [Int.toNat_natCast] at this
  exact this
/-- 'append(l, x, x)'. -/
theorem moreR_run {w : World} {base : Nat} {A : Option Addr} {n c : Nat} {l : List S23} (x : S23) (hn : l.length = n) (h : w.ownsRow base 23 3 (.slice A n c) n (rv l)) (hbase : base ≤ w.heap.size) (hl : n ≤ 1099511627776) :
    ∃ g c' w1, (∀ ty, (Builtin.append_ #[30, 30] ty #[.slice A n c, .slice (some ⟨w.heap.size, 0, none⟩) 2 2]).run Try.prog (w.alloc (.cells #[.string x.f0, .string x.f1, .bool x.f2, .string x.f0, .string x.f1, .bool x.f2] 23)) = .ok (.slice (some ⟨g, 0, none⟩) (n + 2) c') w1) ∧ w1.ownsRow base 23 3 (.slice (some ⟨g, 0, none⟩) (n + 2) c') (n + 2) (rv (l ++ [x, x])) ∧ (∀ k, k < w.heap.size → some k ≠ (Value.slice A n c).ownBlock → w1.heap[k]? = w.heap[k]?) ∧ Below base w w1 ∧ w.heap.size ≤ w1.heap.size ∧ ((Value.slice A n c).ownBlock = some g ∨ w.heap.size ≤ g) := by
  obtain ⟨i0, hi, hz0, hz1, hz2⟩ := infoR
  have hb0 : Below w.heap.size w (w.alloc (.cells #[.string x.f0, .string x.f1, .bool x.f2, .string x.f0, .string x.f1, .bool x.f2] 23)) := below_alloc (Below.refl _ _) _
  obtain ⟨v', w1, hr, h1, h2, h3⟩ := run_append_own_src (P := Try.prog) (w.alloc (.cells #[.string x.f0, .string x.f1, .bool x.f2, .string x.f0, .string x.f1, .bool x.f2] 23)) base 30 30 30 23 i0 (.agg #[.string ⟨#[]⟩, .string ⟨#[]⟩, .bool false]) 3 40 Try.underlying30 hi hz0 hz1 hz2 rfl (by decide) (.slice A n c) n (rv l) (pw_own_below h hb0) _ 2 _ (srcTwoR w x) (by simp only [maxLen]; omega) (by omega) (Nat.le_trans hbase hb0.size)
  have e : rv l ++ rv [x, x] = rv (l ++ [x, x]) := by simp [rv]
  rw [e] at h1
  have hne : ∀ k, k < base → some k ≠ (Value.slice A n c).ownBlock := by
    intro k hk e'
    rcases h.2 with ⟨e2, _⟩ | ⟨g, cap, cur, e2, hg, _⟩
    · rw [e2] at e'; simp [Value.ownBlock] at e'
    · rw [e2] at e'
      have : g = k := by simpa [Value.ownBlock] using e'.symm
      omega
  have hkeep : ∀ k, k < w.heap.size → some k ≠ (Value.slice A n c).ownBlock → w1.heap[k]? = w.heap[k]? := fun k hk hn => (h2.block k (by have := hb0.size; omega) hn).trans (hb0.block k hk)
  have hb : Below base w w1 := (hb0.mono hbase).trans ⟨h2.os, h2.tape, h2.output, h2.size, fun k hk => h2.block k (by have := hb0.size; omega) (hne k hk)⟩
  obtain ⟨g, c', rfl⟩ := ownsRow_succ h1
  refine ⟨g, c', w1, fun ty => hr, h1, hkeep, hb, Nat.le_trans hb0.size h2.size, ?_⟩
  rcases h3 with e3 | e3
  · exact .inl (by rw [← e3]; rfl)
  · refine .inr ?_
    have hg := e3
    simp only [Value.ownBlock, Option.map_some, Option.some.injEq] at hg
    rw [hg]
    exact hb0.size
theorem rv_round {w0 W6 W : World} {base g n c i : Nat} {x : S23} {l : List S23} (h : W.ownsRow base 23 3 (.slice (some ⟨g, 0, none⟩) n c) n (rv (repL x l i))) (hi : i < l.length) (hb : Below w0.heap.size w0 W) (hle : w0.heap.size ≤ base) (hk : ∀ k, k < W6.heap.size → some k ≠ (Value.slice (some ⟨g, 0, none⟩) n c).ownBlock → W.heap[k]? = W6.heap[k]?) (hs : W6.heap.size ≤ W.heap.size) :
    (((W.setCell ⟨g, i * 3, none⟩ (.string x.f0)).setCell ⟨g, i * 3 + 1, none⟩ (.string x.f1)).setCell ⟨g, i * 3 + 2, none⟩ (.bool x.f2)).ownsRow base 23 3 (.slice (some ⟨g, 0, none⟩) n c) n (rv (repL x l (i + 1))) ∧
    Below w0.heap.size w0 (((W.setCell ⟨g, i * 3, none⟩ (.string x.f0)).setCell ⟨g, i * 3 + 1, none⟩ (.string x.f1)).setCell ⟨g, i * 3 + 2, none⟩ (.bool x.f2)) ∧
    (∀ k, k < W6.heap.size → some k ≠ (Value.slice (some ⟨g, 0, none⟩) n c).ownBlock → (((W.setCell ⟨g, i * 3, none⟩ (.string x.f0)).setCell ⟨g, i * 3 + 1, none⟩ (.string x.f1)).setCell ⟨g, i * 3 + 2, none⟩ (.bool x.f2)).heap[k]? = W6.heap[k]?) ∧
    W6.heap.size ≤ (((W.setCell ⟨g, i * 3, none⟩ (.string x.f0)).setCell ⟨g, i * 3 + 1, none⟩ (.string x.f1)).setCell ⟨g, i * 3 + 2, none⟩ (.bool x.f2)).heap.size := by
  have hg := Nat.le_trans hle (own_at_g h).1
  refine ⟨?_, ?_, fun k hk1 hk2 => ?_, by simpa using hs⟩
  · rw [← repL_set x l hi]
    exact rv_put h i x
  · exact ((hb.setCell (p := ⟨g, i * 3, none⟩) hg _).setCell (p := ⟨g, i * 3 + 1, none⟩) hg _).setCell (p := ⟨g, i * 3 + 2, none⟩) hg _
  · have hne : k ≠ g := fun e => hk2 (by rw [e]; rfl)
    rw [Below.heap_setCell _ ⟨g, i * 3 + 2, none⟩ _ _ hne, Below.heap_setCell _ ⟨g, i * 3 + 1, none⟩ _ _ hne, Below.heap_setCell _ ⟨g, i * 3, none⟩ _ _ hne]
    exact hk k hk1 hk2
/-- An append in a region that draws its order, by its run. -/
theorem step_run {ops : Array Oper} {o : Oper} {a : Act} {K : Act → World → Prop} {Q : Exit → Act → World → Prop} {E : Prop} (hgd : o.guard = none) {t : TypeId} (s x : Operand)
    (ho : o.op = .call { callee := .builtin .append, args := #[s, x], argTypes := #[t, t] }) {w w1 : World} {v u v' : Value} (hs : a.eval s = v) (hx : a.eval x = u)
    (hr : ∀ ty, (Builtin.append_ #[t, t] ty #[v, u]).run Try.prog w = .ok v' w1) (hK : K (a.put o.dst v') w1) :
    if Region.wanted o (yielded ops a.tmps) = true then Oper.wp Try.prog o a w K Q else E := by
  have hw : Region.wanted o (yielded ops a.tmps) = true := by simp [Region.wanted, hgd]
  rw [if_pos hw]
  have hrun := hr o.type
  unfold Oper.wp
  simp [execOp, ho, resolve, invoke, builtin, hs, hx, hrun, Result.andThen]
  exact hK
end Go.Proofs.Ytgdhgamolenfgaa.Wr
