-- By wip/late.py (a program of this session) out of wip/words.
import Derived.Test.YtghlellambnkeaaProg
import Derived.Test.YtghlellambnkeaaWWords
import Derived.Test.YtghlellambnkeaaWLast
import Derived.Test.YtghlellambnkeaaWMore
import Derived.Test.YtghlellambnkeaaPAllx0
import Derived.Test.YtghlellambnkeaaPAllx3
import Derived.Test.YtghlellambnkeaaSMergeA
import Derived.Test.YtghlellambnkeaaSMerge
import Derived.Sort.CutIn
import Derived.RangeFuncCalls
import Derived.RangeFuncBox
import Derived.OwnWalkIn
import Derived.Maps.AppendAt
import Derived.BigRegion
import Derived.RegionTactic
import Derived.ArgAppend
import Derived.Deep.Upon
import Derived.Lib.AppendZeros
import Derived.Laws.MakeOwn
import Derived.BigQuiet
import Derived.Deep.QuietTactic
import Derived.Lib.Hide
set_option linter.unusedVariables false
set_option linter.unusedSimpArgs false
namespace Go.Proofs.Ytghlellambnkeaa.MergeW
open Go.RowKit Go.Shelf Go.Proofs.YtghlellambnkeaaW.PrintWords Go.Proofs.Ytghlellambnkeaa.PAll Go.Proofs.Ytghlellambnkeaa.Pure
/-! A list of the law's own, with room to spare that is turned. -/
def spE : S44 := ⟨⟨#[115, 112, 97, 114, 101]⟩, ⟨7, 0⟩, ⟨#[]⟩, false⟩
def Room (W : World) (g : Nat) (l : List S44) : Prop := ∃ cur : Array Value, W.heap[g]? = some (.cells cur 44 (0, 0)) ∧ cur.toList = rowE (l ++ [spE, spE])
theorem rowE_cons (x : S44) (l : List S44) : rowE (x :: l) = cellsE x ++ rowE l := by simp [rowE]
theorem rowE_app (a b : List S44) : rowE (a ++ b) = rowE a ++ rowE b := by simp [rowE]
theorem rowE_len (l : List S44) : (rowE l).length = l.length * 5 := by
  induction l with
  | nil => rfl
  | cons x l ih => rw [rowE_cons, List.length_append, ih, List.length_cons]; simp [cellsE]; omega
theorem rowE_get : ∀ (l : List S44) (j : Nat) (u : Value), (rowE l)[j]? = some u → ∃ x, l[j/5]? = some x ∧ (cellsE x)[j%5]? = some u := by
  intro l
  induction l with
  | nil => intro j u h; simp [rowE] at h
  | cons x l ih =>
    intro j u h
    rw [rowE_cons] at h
    by_cases hj : j < 5
    · rw [List.getElem?_append_left (by simp [cellsE]; omega)] at h
      exact ⟨x, by rw [Nat.div_eq_of_lt hj]; rfl, by rw [Nat.mod_eq_of_lt hj]; exact h⟩
    · rw [List.getElem?_append_right (by simp [cellsE]; omega)] at h
      obtain ⟨y, h1, h2⟩ := ih (j - 5) u (by simpa [cellsE] using h)
      refine ⟨y, ?_, ?_⟩
      · rw [show j / 5 = (j - 5) / 5 + 1 by omega]; simpa using h1
      · rw [show j % 5 = (j - 5) % 5 by omega]; exact h2
theorem src_cells {w : World} {A : Option Addr} {l : List S44} (h : Kd.C k44 w A l.length l) (hp : 0 < l.length) : ∃ ad, A = some ad ∧ ∀ j u, (rowE l)[j]? = some u → w.cell? (ad.add j) = some u := by
  obtain ⟨ad, rfl, hh⟩ := h.2.2 hp
  refine ⟨ad, rfl, fun j u hj => ?_⟩
  obtain ⟨x, hx, hu⟩ := rowE_get l j u hj
  obtain ⟨cs, _, hK, hc⟩ := hh (j / 5) x hx
  obtain rfl := k44_open hK
  have := hc (j % 5) u hu
  rwa [show k44.sz = 5 from rfl, show j / 5 * 5 + j % 5 = j by omega] at this
theorem src_of {w : World} {A : Option Addr} {l : List S44} {c : Nat} (h : Kd.C k44 w A l.length l) : Src Try.prog 5 22 (.slice A l.length c) l.length (rowE l) w := by
  by_cases h0 : l.length = 0
  · obtain rfl := List.eq_nil_of_length_eq_zero h0
    cases A with
    | none => exact Src.ofNil w Try.underlying22 c
    | some ad => exact Src.ofSlice w Try.underlying22 ad 0 c [] rfl (by simp) (by simp)
  · obtain ⟨ad, rfl, had⟩ := src_cells h (by omega)
    refine Src.ofSlice w Try.underlying22 ad _ c (rowE l) (rowE_len l) had ?_
    intro u hu
    obtain ⟨j, hj, rfl⟩ := List.getElem_of_mem hu
    obtain ⟨x, _, hx⟩ := rowE_get l j _ (List.getElem?_eq_getElem hj)
    have := List.mem_of_getElem? hx
    simp [cellsE] at this
    rcases this with e | e | e | e | e <;> rw [e] <;> rfl
theorem Room.reads {W : World} {g : Nat} {l : List S44} (h : Room W g l) (hm : l.length + 2 ≤ 9223372036854775807) (m : Nat) (hml : m ≤ l.length + 2) : Kd.C k44 W (some ⟨g, 0, none⟩) m ((l ++ [spE, spE]).take m) := by
  obtain ⟨cur, hb, hcur⟩ := h
  refine ⟨by simp; omega, by omega, fun _ => ⟨_, rfl, fun j p hj => ?_⟩⟩
  have hj' : (l ++ [spE, spE])[j]? = some p := by rw [List.getElem?_take] at hj; split at hj <;> simp_all
  refine ⟨cellsE p, rfl, Kd.K_of_M _ (k44_mkM W 0 (fun _ => True) p), fun i u hu => ?_⟩
  rw [show k44.sz = 5 from rfl, add_plain, blk_cell hb (j * 5 + i), ← Array.getElem?_toList, hcur]
  have hi : i < 5 := by have := (List.getElem?_eq_some_iff.1 hu).1; simpa [cellsE] using this
  have key : ∀ (L : List S44) (j : Nat), L[j]? = some p → (rowE L)[j * 5 + i]? = some u := by
    intro L
    induction L with
    | nil => intro j h; simp at h
    | cons x L ih =>
      intro j h
      rw [rowE_cons]
      cases j with
      | zero => simp at h; subst h; rw [Nat.zero_mul, Nat.zero_add, List.getElem?_append_left (by simp [cellsE]; omega)]; exact hu
      | succ j =>
        rw [List.getElem?_append_right (by simp [cellsE]; omega), show (j + 1) * 5 + i - (cellsE x).length = j * 5 + i by simp [cellsE]; omega]
        exact ih j (by simpa using h)
  exact key _ j hj'
theorem Room.keep {W W' : World} {g : Nat} {l : List S44} (h : Room W g l) (hk : W'.heap[g]? = W.heap[g]?) : Room W' g l := by
  obtain ⟨cur, hb, hc⟩ := h; exact ⟨cur, hk.trans hb, hc⟩
theorem infoE' : ∃ i, Try.prog.info? 44 = some i ∧ i.zero = some (.agg #[(.string ⟨#[]⟩), (.int .i64 0), (.int .i64 0), (.string ⟨#[]⟩), (.bool false)]) ∧ i.size = 5 ∧ i.bytes = 56 := by
  obtain ⟨i0, hi, hz⟩ := Option.map_eq_some_iff.1 infoE
  simp only [Prod.mk.injEq] at hz
  exact ⟨i0, hi, hz.1, hz.2.1, hz.2.2⟩
theorem setCells_below {B g : Nat} {w : World} (hg : B ≤ g) : ∀ (vs : List Value) (o : Nat) {W : World}, Below B w W → Below B w (W.setCells g o vs)
  | [], _, _, h => h
  | v :: r, o, W, h => by rw [World.setCells]; exact setCells_below hg r (o + 1) (h.setCell hg v)
theorem cells {W : World} {g n : Nat} {t : TypeId} {cur : Array Value} (h : W.heap[g]? = some (.cells cur t (0, 0))) (hs : cur.size = n) (j : Nat) (hj : j < n) : ∃ u, W.cell? ⟨g, j, none⟩ = some u :=
  ⟨cur[j]'(by omega), by rw [blk_cell h j, Array.getElem?_eq_getElem (by omega)]⟩
set_option maxRecDepth 100000 in
set_option maxHeartbeats 4000000 in
theorem copied_calls (A : Option Addr) (c : Nat) (l : List S44) (w : World) (hr : Kd.C k44 w A l.length l) (hc : l.length ≤ c) (hl : l.length ≤ 2513169434843) :
    Calls Try.prog 13 #[.slice A l.length c] w fun e w' => ∃ g, e = .returned (.slice (some ⟨g, 0, none⟩) l.length (l.length + 2)) ∧ w.heap.size ≤ g ∧ g < w'.heap.size ∧ Room w' g l ∧ Below w.heap.size w w' := by
  obtain ⟨i0, hi, hz0, hz1, hz2⟩ := infoE'
  have hmake : (Instr.makeSlice 22 (.int .i64 0) (.int .i64 ((l.length : Int) + 2))).run Try.prog w = .ok (.slice (some ⟨w.heap.size, 0, none⟩) 0 (l.length + 2)) (w.alloc (.cells (madeCells #[(.string ⟨#[]⟩), (.int .i64 0), (.int .i64 0), (.string ⟨#[]⟩), (.bool false)] ((l.length + 2) * 5)) 44)) := by
    have h := run_make (P := Try.prog) (w := w) 22 44 i0 _ Try.underlying22 hi hz0 .i64 .i64 0 ((l.length : Int) + 2) (by omega) (by omega) (by rw [hz2]; omega) (by omega)
    rw [show ((l.length : Int) + 2).toNat = l.length + 2 by omega, hz1] at h
    exact h
  have h1 : (w.alloc (.cells (madeCells #[(.string ⟨#[]⟩), (.int .i64 0), (.int .i64 0), (.string ⟨#[]⟩), (.bool false)] ((l.length + 2) * 5)) 44)).heap[w.heap.size]? = some (.cells (madeCells #[(.string ⟨#[]⟩), (.int .i64 0), (.int .i64 0), (.string ⟨#[]⟩), (.bool false)] ((l.length + 2) * 5)) 44 (0, 0)) := heap_alloc_new _ _
  have hb1 : Below w.heap.size w (w.alloc (.cells (madeCells #[(.string ⟨#[]⟩), (.int .i64 0), (.int .i64 0), (.string ⟨#[]⟩), (.bool false)] ((l.length + 2) * 5)) 44)) := below_alloc (Below.refl _ _) _
  have hs1 : (w.alloc (.cells (madeCells #[(.string ⟨#[]⟩), (.int .i64 0), (.int .i64 0), (.string ⟨#[]⟩), (.bool false)] ((l.length + 2) * 5)) 44)).heap.size = w.heap.size + 1 := by simp
  have hz : (madeCells #[(.string ⟨#[]⟩), (.int .i64 0), (.int .i64 0), (.string ⟨#[]⟩), (.bool false)] ((l.length + 2) * 5)).size = (l.length + 2) * 5 := size_madeCells _ _
  generalize (madeCells #[(.string ⟨#[]⟩), (.int .i64 0), (.int .i64 0), (.string ⟨#[]⟩), (.bool false)] ((l.length + 2) * 5)) = cur1 at hmake h1 hb1 hs1 hz
  generalize hW1 : w.alloc (.cells cur1 44) = W1 at hmake h1 hb1 hs1
  have hap : ∀ ty, (Builtin.append_ #[22, 22] ty #[.slice (some ⟨w.heap.size, 0, none⟩) 0 (l.length + 2), .slice A l.length c]).run Try.prog W1 = .ok (.slice (some ⟨w.heap.size, 0, none⟩) l.length (l.length + 2)) (W1.setCells w.heap.size 0 (rowE l)) := by
    intro ty
    have h := run_append_room_src (P := Try.prog) W1 22 22 ty 44 i0 Try.underlying22 hi w.heap.size 0 0 (l.length + 2) (.slice A l.length c) l.length (rowE l) (by rw [hz1]; exact src_of (Kd.C_below hr hb1)) (by omega)
      (by intro j hj; rw [rowE_len] at hj; rw [blk_cell h1 _, Array.getElem?_eq_getElem (by rw [hz, hz1]; omega)]; rfl)
      (by intro j hj; exact blk_frozen h1 _)
    simpa using h
  obtain ⟨cur2, h2, hz2', hc2⟩ := setCells_row (rowE l) 0 W1 cur1 h1 (by rw [rowE_len, hz]; omega)
  have hb2 : Below w.heap.size w (W1.setCells w.heap.size 0 (rowE l)) := setCells_below (Nat.le_refl _) _ _ hb1
  have hs2 : (W1.setCells w.heap.size 0 (rowE l)).heap.size = w.heap.size + 1 := ((setCells_same w.heap.size (rowE l) 0 W1).2.2.2).trans hs1
  generalize W1.setCells w.heap.size 0 (rowE l) = W2 at hap h2 hb2 hs2
  have hz2 : cur2.size = (l.length + 2) * 5 := hz2'.trans hz
  obtain ⟨u0, x0⟩ := cells h2 hz2 (l.length * 5) (by omega)
  obtain ⟨u1, x1⟩ := cells h2 hz2 (l.length * 5 + 1) (by omega)
  obtain ⟨u2, x2⟩ := cells h2 hz2 (l.length * 5 + 2) (by omega)
  obtain ⟨u3, x3⟩ := cells h2 hz2 (l.length * 5 + 3) (by omega)
  obtain ⟨u4, x4⟩ := cells h2 hz2 (l.length * 5 + 4) (by omega)
  have f0 : ∀ o, W2.frozen? ⟨w.heap.size, o, none⟩ = false := fun o => blk_frozen h2 o
  go_enter Try.func13, Try.ntmps13
  go_upto_region 5 with (first | ((with_reducible refine gate_dst (N := 8) rfl ?_); refine event_run rfl (v := .slice (some ⟨w.heap.size, 0, none⟩) 0 (l.length + 2)) (w1 := W1) (by simp [execOp, hmake]) ?_) | ((with_reducible refine gate_dst (N := 11) rfl ?_); refine Lib.wpList_append_run W1 rfl _ _ 22 22 rfl _ _ rfl rfl _ _ (hap _) ?_))
  obtain ⟨cur3, h3, hz3', hc3⟩ := setCells_row (cellsE spE) (l.length * 5) W2 cur2 h2 (by rw [hz2]; simp [cellsE]; omega)
  have hb3 : Below w.heap.size w (W2.setCells w.heap.size (l.length * 5) (cellsE spE)) := setCells_below (Nat.le_refl _) _ _ hb2
  have hs3 : (W2.setCells w.heap.size (l.length * 5) (cellsE spE)).heap.size = w.heap.size + 1 := ((setCells_same w.heap.size (cellsE spE) (l.length * 5) W2).2.2.2).trans hs2
  have hz3 : cur3.size = (l.length + 2) * 5 := hz3'.trans hz2
  clear x0 x1 x2 x3 x4 f0
  have hcs := hc3
  rw [hc2] at hcs
  have hl5 := rowE_len l
  have e3 : cur3.toList = rowE l ++ cellsE spE ++ (cur1.toList.drop (l.length * 5)).drop 5 := by
    rw [hcs, List.take_zero, List.nil_append, Nat.zero_add, hl5, List.take_left' hl5]
    congr 1
    rw [show (cellsE spE).length = 5 from rfl, ← List.drop_drop, List.drop_left' hl5]
  have y : ∀ k u, (cellsE spE)[k]? = some u → (W2.setCells w.heap.size (l.length * 5) (cellsE spE)).cell? ⟨w.heap.size, l.length * 5 + k, none⟩ = some u := by
    intro k u hk
    have hk5 : k < 5 := (List.getElem?_eq_some_iff.1 hk).1
    rw [blk_cell h3, ← Array.getElem?_toList, e3, List.append_assoc, List.getElem?_append_right (by omega), List.getElem?_append_left (by rw [hl5]; simp [cellsE]; omega), hl5, Nat.add_sub_cancel_left]
    exact hk
  have y0 := y 0 _ rfl
  have y1 := y 1 _ rfl
  have y2 := y 2 _ rfl
  have y3 := y 3 _ rfl
  have y4 := y 4 _ rfl
  rw [Nat.add_zero] at y0
  obtain ⟨v0, z0⟩ := cells h3 hz3 ((l.length + 1) * 5) (by omega)
  obtain ⟨v1, z1⟩ := cells h3 hz3 ((l.length + 1) * 5 + 1) (by omega)
  obtain ⟨v2, z2⟩ := cells h3 hz3 ((l.length + 1) * 5 + 2) (by omega)
  obtain ⟨v3, z3⟩ := cells h3 hz3 ((l.length + 1) * 5 + 3) (by omega)
  obtain ⟨v4, z4⟩ := cells h3 hz3 ((l.length + 1) * 5 + 4) (by omega)
  have f3 : ∀ o, (W2.setCells w.heap.size (l.length * 5) (cellsE spE)).frozen? ⟨w.heap.size, o, none⟩ = false := fun o => blk_frozen h3 o
  clear y hcs hc3 hc2 h2 hb2 hs2
  have hch : ((((W2.setCell ⟨w.heap.size, l.length * 5, none⟩ (.string ⟨#[115, 112, 97, 114, 101]⟩)).setCell ⟨w.heap.size, l.length * 5 + 1, none⟩ (.int .i64 7)).setCell ⟨w.heap.size, l.length * 5 + 2, none⟩ (.int .i64 0)).setCell ⟨w.heap.size, l.length * 5 + 3, none⟩ (.string ⟨#[]⟩)).setCell ⟨w.heap.size, l.length * 5 + 4, none⟩ (.bool false) = W2.setCells w.heap.size (l.length * 5) (cellsE spE) := rfl
  rw [hch]
  clear hch
  generalize W2.setCells w.heap.size (l.length * 5) (cellsE spE) = W3 at h3 hb3 hs3 y0 y1 y2 y3 y4 z0 z1 z2 z3 z4 f3 ⊢
  go_wp2
  obtain ⟨cur4, h4, hz4, hc4⟩ := setCells_row (cellsE spE) ((l.length + 1) * 5) W3 cur3 h3 (by rw [hz3]; simp [cellsE]; omega)
  have hs4 := ((setCells_same w.heap.size (cellsE spE) ((l.length + 1) * 5) W3).2.2.2).trans hs3
  have hb4 := setCells_below (Nat.le_refl _) (cellsE spE) ((l.length + 1) * 5) hb3
  go_ret
  refine ⟨w.heap.size, rfl, Nat.le_refl _, ?_, ⟨cur4, h4, ?_⟩, hb4⟩
  · refine Nat.lt_of_lt_of_eq ?_ hs4.symm
    omega
  · have hlen : (rowE l ++ cellsE spE).length = (l.length + 1) * 5 := by rw [List.length_append, hl5]; simp [cellsE]; omega
    rw [hc4, e3, List.take_left' hlen, rowE_app, rowE_cons, rowE_cons]
    have hz : (cur1.toList.drop (l.length * 5)).drop 5 = (cur1.toList.drop ((l.length + 1) * 5)) := by rw [List.drop_drop]; congr 1; omega
    have hnil : List.drop ((l.length + 1) * 5 + (cellsE spE).length) (rowE l ++ cellsE spE ++ (cur1.toList.drop (l.length * 5)).drop 5) = [] := by
      refine List.drop_of_length_le ?_
      rw [← e3, Array.length_toList, hz3]; simp [cellsE]; omega
    rw [hnil]
    simp [rowE]
theorem Room.cell {W : World} {g : Nat} {l : List S44} (h : Room W g l) {o k : Nat} {u : Value} (ho : o = l.length * 5 ∨ o = (l.length + 1) * 5) (hk : (cellsE spE)[k]? = some u) : W.cell? ⟨g, o + k, none⟩ = some u := by
  obtain ⟨cur, hb, hc⟩ := h
  have hk5 : k < 5 := (List.getElem?_eq_some_iff.1 hk).1
  have hl5 := rowE_len l
  have hs5 : (cellsE spE).length = 5 := rfl
  rw [blk_cell hb, ← Array.getElem?_toList, hc, rowE_app, rowE_cons, rowE_cons]
  rcases ho with rfl | rfl
  · rw [List.getElem?_append_right (by omega), List.getElem?_append_left (by rw [hl5, hs5]; omega), hl5, Nat.add_sub_cancel_left]
    exact hk
  · rw [List.getElem?_append_right (by omega), List.getElem?_append_right (by rw [hl5, hs5]; omega), List.getElem?_append_left (by rw [hl5, hs5]; omega), hl5, hs5, show (l.length + 1) * 5 + k - l.length * 5 - 5 = k by omega]
    exact hk
theorem Room.slice {W : World} {g : Nat} {l : List S44} (h : Room W g l) (hm : l.length + 2 ≤ 9223372036854775807) : Kd.C k44 W (some ⟨g, 0, none⟩) l.length l := by
  have := h.reads hm l.length (by omega)
  rwa [List.take_left' rfl] at this
theorem Room.below {W W' : World} {g : Nat} {l : List S44} (h : Room W g l) (hb : Below W.heap.size W W') : Room W' g l := by
  obtain ⟨cur, h1, _⟩ := id h
  exact h.keep (hb.block g (blk_lt h1))
set_option maxRecDepth 100000 in
set_option maxHeartbeats 4000000 in
theorem kept_calls (k g : Nat) (A : Option Addr) (c : Nat) (l : List S44) (w : World) (hR : Room w g l) (hr : Kd.C k44 w A l.length l) (hc : l.length ≤ c) (hl : l.length ≤ 2513169434843) (hs : tidelinelaw09_same.f k l l = some true) :
    Calls Try.prog 16 #[.slice (some ⟨g, 0, none⟩) l.length (l.length + 2), .slice A l.length c] w fun e w' => e = .returned (.bool true) ∧ Below w.heap.size w w' := by
  have A1 := Aside0.mk hs
  clear hs
  have x0 : w.cell? ⟨g, l.length * 5, none⟩ = some (.string ⟨#[115, 112, 97, 114, 101]⟩) := hR.cell (k := 0) (.inl rfl) rfl
  have x1 : w.cell? ⟨g, l.length * 5 + 1, none⟩ = some (.int .i64 7) := hR.cell (.inl rfl) rfl
  have x2 : w.cell? ⟨g, l.length * 5 + 2, none⟩ = some (.int .i64 0) := hR.cell (.inl rfl) rfl
  have x3 : w.cell? ⟨g, l.length * 5 + 3, none⟩ = some (.string ⟨#[]⟩) := hR.cell (.inl rfl) rfl
  have x4 : w.cell? ⟨g, l.length * 5 + 4, none⟩ = some (.bool false) := hR.cell (.inl rfl) rfl
  have y0 : w.cell? ⟨g, (l.length + 1) * 5, none⟩ = some (.string ⟨#[115, 112, 97, 114, 101]⟩) := hR.cell (k := 0) (.inr rfl) rfl
  have y1 : w.cell? ⟨g, (l.length + 1) * 5 + 1, none⟩ = some (.int .i64 7) := hR.cell (.inr rfl) rfl
  have y2 : w.cell? ⟨g, (l.length + 1) * 5 + 2, none⟩ = some (.int .i64 0) := hR.cell (.inr rfl) rfl
  have y3 : w.cell? ⟨g, (l.length + 1) * 5 + 3, none⟩ = some (.string ⟨#[]⟩) := hR.cell (.inr rfl) rfl
  have y4 : w.cell? ⟨g, (l.length + 1) * 5 + 4, none⟩ = some (.bool false) := hR.cell (.inr rfl) rfl
  have AR := Aside0.mk hR
  clear hR
  go_enter Try.func16, Try.ntmps16
  go_wp2
  have hq : ∀ n, Calls Try.prog 20 #[.slice (some ⟨g, 0, none⟩) l.length (l.length + 2), .slice A l.length c] (w.drewN n) fun e w'' => e = .returned (.bool true) ∧ ∃ m, w'' = w.drewN m := fun n =>
    Calls.quiet_of ((tidelinelaw09_same.calls k _ _ l A c l true (w.drewN n) (Kd.C_drewN (AR.out.slice (by omega)) n) (by omega) (Kd.C_drewN hr n) hc A1.out).mono fun e w' ⟨h1, h2⟩ => ⟨h1, h2.out⟩)
  go_quiet ((go_at_call 20; exact hq _))
  go_wp2
  go_ret
  exact ⟨rfl, pw_below_drewN (Below.refl _ _) _⟩
end Go.Proofs.Ytghlellambnkeaa.MergeW
