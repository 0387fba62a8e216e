-- By wip/late.py (a program of this session) out of wip/words.
import Derived.Test.YthalodnfecaccaaProg
import Derived.Test.YthalodnfecaccaaWWords
import Derived.Test.YthalodnfecaccaaWLast
import Derived.Test.YthalodnfecaccaaWMore
import Derived.Test.YthalodnfecaccaaSRd
import Derived.Test.YthalodnfecaccaaSWrNums
import Derived.Test.YthalodnfecaccaaSWrTwo
import Derived.RangeFuncBox
import Derived.Maps.AppendAt
import Derived.Deep.AppendSrc
import Derived.Deep.Upon
import Derived.Lib.AppendZeros
import Derived.BigQuiet
import Derived.Deep.QuietTactic
import Derived.Lib.Hide
import Derived.Tactics
import Derived.WalkKit
import Derived.OwnWalk
import Derived.Test.YthalodnfecaccaaSRdP
set_option linter.unusedVariables false
set_option linter.unusedSimpArgs false
namespace Go.Proofs.Ythalodnfecaccaa.Rd
open Go.RowKit Go.Proofs.YthalodnfecaccaaW.PrintWords Go.Proofs.Ythalodnfecaccaa.Pure Go.Proofs.Ythalodnfecaccaa.Wr
/-! A new reader. -/
theorem C_src {w : World} {A : Option Addr} {c : Nat} {l : List Int} (h : Kd.C (Kd.int .u8) w A l.length l) : Src Try.prog 1 49 (.slice A l.length c) l.length (bv l) w := by
  cases A with
  | none =>
    have h0 : l = [] := by
      cases l with
      | nil => rfl
      | cons x l =>
        obtain ⟨ad, e, _⟩ := Kd.at_int h 0 (by omega) (by simp only [List.length_cons]; omega)
        cases e
    subst h0
    exact Src.ofNil w Try.underlying49 c
  | some ad =>
    refine Src.ofSlice w Try.underlying49 ad _ _ _ (by rw [bv_len, Nat.mul_one]) (fun j u hj => ?_) (bv_one l)
    have hlt : j < l.length := by
      have := (List.getElem?_eq_some_iff.1 hj).1
      rwa [bv_len] at this
    obtain ⟨ad', e, hc⟩ := Kd.at_int h (j : Int) (Int.natCast_nonneg j) (by omega)
    injection e with e
    subst e
    simp only [Int.toNat_natCast, rd] at hc
    rw [hc]
    simp only [bv, List.getElem?_map, List.getElem?_eq_getElem hlt, Option.map_some] at hj
    rw [List.getD_eq_getElem?_getD, List.getElem?_eq_getElem hlt]
    exact hj
theorem own_shape {W : World} {base : Nat} {v : Value} {l : List Int} (h : W.ownsRow base 5 1 v l.length (bv l)) : ∃ A c, v = .slice A l.length c := by
  rcases h.2 with ⟨rfl, h0⟩ | ⟨g, cap, cur, rfl, _, _, hc, _⟩
  · exact ⟨none, 0, by rw [h0]⟩
  · exact ⟨_, _, rfl⟩
set_option maxRecDepth 100000 in
theorem newr_calls {w : World} {A : Option Addr} {c : Nat} {l : List Int} (h : Kd.C (Kd.int .u8) w A l.length l) (hl : l.length ≤ 1099511627776) (hb : ∀ x ∈ l, 0 ≤ x ∧ x < 256) :
    Calls Try.prog 32 #[.slice A l.length c] w fun x w' => ∃ B A' c', x = .returned (.pointer (some ⟨B, 0, none⟩)) ∧ Rdr w.heap.size 77 w' B A' c' l 0 0 ∧ Below w.heap.size w w' := by
  obtain ⟨i0, hi, hz0, hz1, hz2⟩ := infoB
  obtain ⟨v', w1, hr, h1, h2, h3⟩ := run_append_own_src (P := Try.prog) w w.heap.size 49 49 49 5 i0 (.int .u8 0) 1 1 Try.underlying49 hi hz0 hz1 hz2 rfl (by decide) (.slice none 0 0) 0 [] (World.ownsRow_nil _ _ _ _) (.slice A l.length c) l.length (bv l) (C_src h) (by simp only [maxLen]; omega) (by omega) (Nat.le_refl _)
  rw [Nat.zero_add, List.nil_append] at h1
  have hbl : Below w.heap.size w w1 := ⟨h2.os, h2.tape, h2.output, h2.size, fun k hk => h2.block k hk (by simp [Value.ownBlock])⟩
  obtain ⟨A', c', rfl⟩ := own_shape h1
  have HL := Aside0.mk hl
  have HBs := Aside0.mk hb
  have H1 := Aside0.mk h1
  have HB := Aside0.mk hbl
  clear h h1 h2 h3 hi hz0 hz1 hz2 hl hb hbl
  go_enter Try.func32, Try.ntmps32
  go_wp2_with ((with_reducible refine gate_dst (N := 4) rfl ?_); refine Lib.wpList_append_run _ rfl _ _ 49 49 rfl _ _ rfl rfl _ _ hr ?_)
  go_ret
  refine ⟨_, A', c', rfl, ⟨heap_alloc_new _ _, own_alloc H1.out _, HB.out.size, Nat.zero_le _, HL.out, HBs.out, by decide⟩, below_alloc HB.out _⟩
set_option maxRecDepth 100000 in
theorem rnewr_calls {w : World} {A : Option Addr} {c : Nat} {l : List Int} (h : Kd.C (Kd.int .u8) w A l.length l) (hl : l.length ≤ 1099511627776) (hb : ∀ x ∈ l, 0 ≤ x ∧ x < 256) :
    Calls Try.prog 33 #[.slice A l.length c] w fun x w' => ∃ B A' c', x = .returned (.pointer (some ⟨B, 0, none⟩)) ∧ Rdr w.heap.size 79 w' B A' c' l 0 0 ∧ Below w.heap.size w w' := by
  obtain ⟨i0, hi, hz0, hz1, hz2⟩ := infoB
  obtain ⟨wb, hwb⟩ : ∃ wb, wb = w.alloc (.cells #[.slice none 0 0, .int .i64 0, .int .i64 0] 79) := ⟨_, rfl⟩
  have hb0 : Below w.heap.size w wb := by rw [hwb]; exact below_alloc (Below.refl _ _) _
  have hbox : wb.heap[w.heap.size]? = some (.cells #[.slice none 0 0, .int .i64 0, .int .i64 0] 79 (0, 0)) := by rw [hwb]; exact heap_alloc_new _ _
  obtain ⟨v', w1, hr, h1, h2, h3⟩ := run_append_own_src (P := Try.prog) wb w.heap.size 49 49 49 5 i0 (.int .u8 0) 1 1 Try.underlying49 hi hz0 hz1 hz2 rfl (by decide) (.slice none 0 0) 0 [] (World.ownsRow_nil _ _ _ _) (.slice A l.length c) l.length (bv l) (C_src (Kd.C_below h hb0)) (by simp only [maxLen]; omega) (by omega) hb0.size
  rw [Nat.zero_add, List.nil_append] at h1
  have hbl : Below w.heap.size w w1 := hb0.trans ⟨h2.os, h2.tape, h2.output, h2.size, fun k hk => h2.block k (Nat.lt_of_lt_of_le hk hb0.size) (by simp [Value.ownBlock])⟩
  have hbox1 : w1.heap[w.heap.size]? = some (.cells #[.slice none 0 0, .int .i64 0, .int .i64 0] 79 (0, 0)) := (h2.block _ (blk_lt hbox) (by simp [Value.ownBlock])).trans hbox
  obtain ⟨A', c', rfl⟩ := own_shape h1
  have hne : some w.heap.size ≠ (Value.slice A' l.length c').ownBlock := by
    intro e'
    obtain ⟨cells, hc⟩ := own_typed h1 w.heap.size e'.symm
    have := hbox1.symm.trans hc
    injection this with this
    injection this with _ ht
    exact absurd ht (by decide)
  have hf1 : w1.frozen? ⟨w.heap.size, 0, none⟩ = false := blk_frozen hbox1 0
  have hc1 : w1.cell? ⟨w.heap.size, 0, none⟩ = some (.slice none 0 0) := (blk_cell hbox1 0).trans rfl
  have HL := Aside0.mk hl
  have HBs := Aside0.mk hb
  have H1 := Aside0.mk h1
  have HB := Aside0.mk hbl
  have HX := Aside0.mk hbox1
  have HN := Aside0.mk hne
  rw [hwb] at hr
  clear h h1 h2 h3 hi hz0 hz1 hz2 hl hb hbl hbox hbox1 hne hb0 hwb
  go_enter Try.func33, Try.ntmps33
  go_wp2_with ((with_reducible refine gate_dst (N := 12) rfl ?_); refine Lib.wpList_append_run _ rfl _ _ 49 49 rfl _ _ rfl rfl _ _ hr ?_)
  go_ret
  refine ⟨_, A', c', rfl, ⟨blk_set HX.out 0 _, own_setCell H1.out HN.out _, Nat.le_refl _, Nat.zero_le _, HL.out, HBs.out, by decide⟩, HB.out.setCell (p := ⟨w.heap.size, 0, none⟩) (Nat.le_refl _) _⟩
end Go.Proofs.Ythalodnfecaccaa.Rd
