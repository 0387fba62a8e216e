-- By wip/late.py (a program of this session) out of wip/words.
import Derived.Test.YthalodnfecaccaaProg
import Derived.Test.YthalodnfecaccaaWWords
import Derived.Test.YthalodnfecaccaaWLast
import Derived.Test.YthalodnfecaccaaWMore
import Derived.Test.YthalodnfecaccaaSWr
import Derived.RangeFuncBox
import Derived.Maps.AppendAt
import Derived.Deep.AppendSrc
import Derived.Deep.Upon
import Derived.Lib.AppendZeros
import Derived.BigQuiet
import Derived.Deep.QuietTactic
import Derived.Lib.Hide
import Derived.Tactics
import Derived.WalkKit
import Derived.OwnWalk
import Derived.Test.YthalodnfecaccaaSNumsP
set_option linter.unusedVariables false
set_option linter.unusedSimpArgs false
namespace Go.Proofs.Ythalodnfecaccaa.Wr
open Go.RowKit Go.Proofs.YthalodnfecaccaaW.PrintWords Go.Proofs.Ythalodnfecaccaa.Pure
/-! What the writers of nums lay down. -/
theorem infoB : ∃ i, Try.prog.info? 5 = some i ∧ i.zero = some (.int .u8 0) ∧ i.size = 1 ∧ i.bytes = 1 := by
  have h : (Try.prog.info? 5).map (fun i => (i.zero, i.size, i.bytes)) = some (some (.int .u8 0), 1, 1) := by kernel_rfl
  obtain ⟨i0, hi, hz⟩ := Option.map_eq_some_iff.1 h
  simp only [Prod.mk.injEq] at hz
  exact ⟨i0, hi, hz.1, hz.2.1, hz.2.2⟩
section
variable {n₀ : Nat} {T : TypeId} {B : Nat} {w : World} {v : Value} {l : List Int}
/-- One byte more. -/
theorem one_byte (h : Wrt n₀ T w B v l) (hT : T ≠ 5) (hn₀ : n₀ ≤ w.heap.size) (hl : l.length + 1 ≤ 140737488355328) (c : Int) :
    ∃ g cap w1, (∀ ty, (Builtin.append_ #[49, 49] ty #[v, .slice (some ⟨w.heap.size, 0, none⟩) 1 1]).run Try.prog (w.alloc (.cells #[.int .u8 c] 5)) = .ok (.slice (some ⟨g, 0, none⟩) (l.length + 1) cap) w1) ∧ w1.cell? ⟨B, 0, none⟩ = some v ∧ w1.frozen? ⟨B, 0, none⟩ = false ∧ Adv n₀ T B w v (w1.setCell ⟨B, 0, none⟩ (.slice (some ⟨g, 0, none⟩) (l.length + 1) cap)) (.slice (some ⟨g, 0, none⟩) (l.length + 1) cap) (l ++ [c]) := by
  obtain ⟨i0, hi, hz0, hz1, hz2⟩ := infoB
  have hb : Below w.heap.size w (w.alloc (.cells #[.int .u8 c] 5)) := below_alloc (Below.refl _ _) _
  have hsrc : Src Try.prog 1 49 (.slice (some ⟨w.heap.size, 0, none⟩) 1 1) 1 (bv [c]) (w.alloc (.cells #[.int .u8 c] 5)) := by
    refine Src.ofSlice _ Try.underlying49 ⟨w.heap.size, 0, none⟩ 1 1 (bv [c]) rfl (fun j u hj => ?_) (bv_one _)
    match j, hj with
    | 0, hj =>
      cases hj
      have g := heap_alloc_new w (.cells #[.int .u8 c] 5)
      have e : ((⟨w.heap.size, 0, none⟩ : Addr).add 0) = ⟨w.heap.size, 0, none⟩ := by simp [Addr.add]
      rw [e]
      exact (blk_cell g 0).trans rfl
    | j + 1, hj => simp [bv] at hj
  obtain ⟨v', w1, hr, h1, h2, h3⟩ := run_append_own_src (P := Try.prog) (w.alloc (.cells #[.int .u8 c] 5)) n₀ 49 49 49 5 i0 (.int .u8 0) 1 1 Try.underlying49 hi hz0 hz1 hz2 rfl (by decide) v l.length (bv l) (pw_own_below h.row hb) _ 1 (bv [c]) hsrc (by simp only [maxLen]; omega) (by omega) (Nat.le_trans hn₀ hb.size)
  obtain ⟨hbx, hadv⟩ := h.step hT hn₀ hb (m := [c]) h1 h2 h3
  obtain ⟨g, cap, rfl⟩ := ownsRow_succ h1
  exact ⟨g, cap, w1, fun ty => hr, hbx.cell, hbx.frozen, hadv⟩
end
/-- The same, at the operation. -/
theorem wpList_one {ops : Array Oper} {rest : List Oper} {o : Oper} {a : Act} {Q : Exit → Act → World → Prop} (hgd : o.guard = none) (s x : Operand)
    (ho : o.op = .call { callee := .builtin .append, args := #[s, x], argTypes := #[49, 49] }) {n₀ : Nat} {T : TypeId} {B : Nat} {w : World} {v : Value} {l : List Int} {c : Int}
    (h : Wrt n₀ T w B v l) (hT : T ≠ 5) (hn₀ : n₀ ≤ w.heap.size) (hl : l.length + 1 ≤ 140737488355328) (hs : a.eval s = v) (hx : a.eval x = .slice (some ⟨w.heap.size, 0, none⟩) 1 1)
    (hK : ∀ g cap w1, w1.cell? ⟨B, 0, none⟩ = some v → w1.frozen? ⟨B, 0, none⟩ = false → Adv n₀ T B w v (w1.setCell ⟨B, 0, none⟩ (.slice (some ⟨g, 0, none⟩) (l.length + 1) cap)) (.slice (some ⟨g, 0, none⟩) (l.length + 1) cap) (l ++ [c]) →
      wpList Try.prog ops Q rest (a.put o.dst (.slice (some ⟨g, 0, none⟩) (l.length + 1) cap)) w1) : wpList Try.prog ops Q (o :: rest) a (w.alloc (.cells #[.int .u8 c] 5)) := by
  obtain ⟨g, cap, w1, hr, c1, f1, ha⟩ := one_byte h hT hn₀ hl c
  exact Lib.wpList_append_run _ hgd s x 49 49 ho _ _ hs hx _ _ (hr _) (hK g cap w1 c1 f1 ha)
theorem or128 (u : Int) : bits BinOp.or IntKind.u8 (u % 256) 128 = 128 + u % 128 := by
  have h : ∀ k : Nat, k < 256 → bits BinOp.or IntKind.u8 (k : Int) 128 = 128 + (k : Int) % 128 := by decide +kernel
  have := h (u % 256).toNat (by omega)
  rw [show (((u % 256).toNat : Nat) : Int) = u % 256 by omega] at this
  rw [this]; omega
set_option maxRecDepth 100000 in
theorem flag_calls (b : Bool) {n₀ B : Nat} {w : World} {v : Value} {l : List Int} (h : Wrt n₀ 71 w B v l) (hn₀ : n₀ ≤ w.heap.size) (hl : l.length + 1 ≤ 140737488355328) :
    Calls Try.prog 49 #[.pointer (some ⟨B, 0, none⟩), .bool b] w fun e w' => e = .returned (.tuple #[]) ∧ ∃ v', Adv n₀ 71 B w v w' v' (l ++ [if b = true then 1 else 0]) := by
  have hc := h.box.cell
  cases b with
  | true =>
    obtain ⟨g, cap, w1, hr, c1, f1, ha⟩ := one_byte h (by decide) hn₀ hl 1
    have HA := Aside0.mk ha
    clear ha
    go_enter Try.func49, Try.ntmps49
    go_wp2_with ((with_reducible refine gate_dst (N := 13) rfl ?_); refine Lib.wpList_append_run _ rfl _ _ 49 49 rfl _ _ rfl rfl _ _ (hr _) ?_)
    first | go_end0 | ((try simp only [Exit.inBlock, Exit.then]); refine bodyPost_ret (results_none rfl _ _ _) rfl ?_)
    exact ⟨rfl, _, HA.out⟩
  | false =>
    obtain ⟨g, cap, w1, hr, c1, f1, ha⟩ := one_byte h (by decide) hn₀ hl 0
    have HA := Aside0.mk ha
    clear ha
    go_enter Try.func49, Try.ntmps49
    go_wp2_with ((with_reducible refine gate_dst (N := 13) rfl ?_); refine Lib.wpList_append_run _ rfl _ _ 49 49 rfl _ _ rfl rfl _ _ (hr _) ?_)
    first | go_end0 | ((try simp only [Exit.inBlock, Exit.then]); refine bodyPost_ret (results_none rfl _ _ _) rfl ?_)
    exact ⟨rfl, _, HA.out⟩
set_option maxRecDepth 100000 in
theorem num_calls (n : Int) (hn0 : 0 ≤ n) (hn1 : n ≤ 9223372036854775807) {n₀ B : Nat} {w : World} {v : Value} {l : List Int} (h : Wrt n₀ 71 w B v l) (hn₀ : n₀ ≤ w.heap.size) (hl : l.length + 9 ≤ 140737488355328) :
    Calls Try.prog 28 #[.pointer (some ⟨B, 0, none⟩), .int .i64 n] w fun e w' => e = .returned (.tuple #[]) ∧ ∃ v', Adv n₀ 71 B w v w' v' (l ++ numB 8 n) := by
  have HW := Aside0.mk h
  clear h
  go_enter Try.func28, Try.ntmps28
  go_wp2
  go_loopw [4] (fun s4 wr => ∃ (d : Nat) (u : Int) (m : List Int) (v1 : Value), s4 = .int .u64 u ∧ 0 ≤ u ∧ u ≤ n ∧ u < 128 ^ (d + 1) ∧ m.length + d = 8 ∧ m ++ numB d u = numB 8 n ∧ Adv n₀ 71 B w v wr v1 (l ++ m)) (fun s4 _ => (intOf s4).toNat)
  case atStart => exact ⟨8, n, [], v, rfl, hn0, Int.le_refl _, by omega, rfl, rfl, by simpa using Adv.refl HW.out⟩
  case round =>
    obtain ⟨d, u, m, v1, rfl, hu0, hun, hu1, hmd, hm, ha⟩ := hrel
    have hc := ha.st.box.cell
    have HA := Aside0.mk ha
    have HM := Aside0.mk hm
    have HU := Aside0.mk hu1
    clear ha hm hu1
    by_cases hlt : 128 ≤ u
    · obtain ⟨d, rfl⟩ : ∃ d', d = d' + 1 := by
        cases d with
        | zero => have := HU.out; simp at this; omega
        | succ d => exact ⟨d, rfl⟩
      go_wp2_with ((with_reducible refine gate_dst (N := 21) rfl ?_); refine wpList_one rfl _ _ rfl HA.out.st (by decide) (Nat.le_trans hn₀ HA.out.kb.1) (by rw [List.length_append]; omega) rfl rfl ?_; intro g cap w1 c1 f1 ha2; have HA2 := Aside0.mk (HA.out.trans ha2); clear ha2)
      go_roundw
      case rel =>
        have h1 := HA2.out
        rw [or128 u, List.length_append, List.append_assoc] at h1
        refine ⟨d, u / 128, m ++ [128 + u % 128], _, rfl, by omega, by omega, ?_, by simp; omega, ?_, h1⟩
        · have h2 := HU.out
          rw [Int.pow_succ] at h2
          exact Int.ediv_lt_of_lt_mul (by omega) h2
        · rw [← HM.out, List.append_assoc]
          congr 1
          simp only [numB]
          rw [if_neg (by omega)]; rfl
      case measure => simp [intOf]; omega
    · go_wp2_with ((with_reducible refine gate_dst (N := 32) rfl ?_); refine wpList_one rfl _ _ rfl HA.out.st (by decide) (Nat.le_trans hn₀ HA.out.kb.1) (by rw [List.length_append]; omega) rfl rfl ?_; intro g cap w1 c1 f1 ha2; have HA2 := Aside0.mk (HA.out.trans ha2); clear ha2)
      first | go_end0 | ((try simp only [Exit.inBlock, Exit.then]); refine bodyPost_ret (results_none rfl _ _ _) rfl ?_)
      have h1 := HA2.out
      rw [List.length_append, List.append_assoc] at h1
      have h2 : m ++ [u] = numB 8 n := by
        rw [← HM.out]
        congr 1
        cases d with
        | zero => rfl
        | succ d => simp only [numB]; rw [if_pos (by omega)]
      rw [h2] at h1
      exact ⟨rfl, _, h1⟩
set_option maxRecDepth 100000 in
theorem num_neg (n : Int) (hn0 : n < 0) (hn1 : -9223372036854775808 ≤ n) {n₀ B : Nat} {w : World} {v : Value} {l : List Int} (h : Wrt n₀ 71 w B v l) (hn₀ : n₀ ≤ w.heap.size) (hl : l.length + 9 ≤ 140737488355328) :
    Calls Try.prog 28 #[.pointer (some ⟨B, 0, none⟩), .int .i64 n] w fun e w' => e = .returned (.tuple #[]) ∧ ∃ v', Adv n₀ 71 B w v w' v' (l ++ numB 8 0) := by
  have hc := h.box.cell
  have HW := Aside0.mk h
  clear h
  go_enter Try.func28, Try.ntmps28
  go_wp2
  go_loopw [4] (fun s4 wr => s4 = .int .u64 0 ∧ wr = w) (fun s4 _ => 0)
  case atStart => exact ⟨rfl, rfl⟩
  case round =>
    obtain ⟨rfl, rfl⟩ := hrel
    go_wp2_with ((with_reducible refine gate_dst (N := 32) rfl ?_); refine wpList_one rfl _ _ rfl HW.out (by decide) hn₀ (by omega) rfl rfl ?_; intro g cap w1 c1 f1 ha2; have HA2 := Aside0.mk ha2; clear ha2)
    first | go_end0 | ((try simp only [Exit.inBlock, Exit.then]); refine bodyPost_ret (results_none rfl _ _ _) rfl ?_)
    exact ⟨rfl, _, HA2.out⟩
/-- Any number. -/
theorem num_any (n : Int) (hn0 : -9223372036854775808 ≤ n) (hn1 : n ≤ 9223372036854775807) {n₀ B : Nat} {w : World} {v : Value} {l : List Int} (h : Wrt n₀ 71 w B v l) (hn₀ : n₀ ≤ w.heap.size) (hl : l.length + 9 ≤ 140737488355328) :
    Calls Try.prog 28 #[.pointer (some ⟨B, 0, none⟩), .int .i64 n] w fun e w' => e = .returned (.tuple #[]) ∧ ∃ v', Adv n₀ 71 B w v w' v' (l ++ numB 8 (max n 0)) := by
  rcases Int.lt_or_le n 0 with hn | hn
  · rw [Int.max_eq_right (by omega)]; exact num_neg n hn hn0 h hn₀ hl
  · rw [Int.max_eq_left hn]; exact num_calls n hn hn1 h hn₀ hl
theorem bytes_bv (s : ByteArray) : byteCells s = bv (bytesOf s) := by simp [byteCells, bv, bytesOf]
/-- A text's bytes more, at the operation. -/
theorem wpList_text {ops : Array Oper} {rest : List Oper} {o : Oper} {a : Act} {Q : Exit → Act → World → Prop} (hgd : o.guard = none) (s x : Operand)
    (ho : o.op = .call { callee := .builtin .append, args := #[s, x], argTypes := #[49, 9] }) {n₀ : Nat} {T : TypeId} {B : Nat} {w : World} {v : Value} {l : List Int} {t : ByteArray}
    (h : Wrt n₀ T w B v l) (hT : T ≠ 5) (hn₀ : n₀ ≤ w.heap.size) (hl : l.length + t.size ≤ 140737488355328) (hp : 0 < l.length) (hs : a.eval s = v) (hx : a.eval x = .string t)
    (hK : ∀ g cap w1, w1.cell? ⟨B, 0, none⟩ = some v → w1.frozen? ⟨B, 0, none⟩ = false → Adv n₀ T B w v (w1.setCell ⟨B, 0, none⟩ (.slice (some ⟨g, 0, none⟩) (l.length + t.size) cap)) (.slice (some ⟨g, 0, none⟩) (l.length + t.size) cap) (l ++ bytesOf t) →
      wpList Try.prog ops Q rest (a.put o.dst (.slice (some ⟨g, 0, none⟩) (l.length + t.size) cap)) w1) : wpList Try.prog ops Q (o :: rest) a w := by
  obtain ⟨i0, hi, hz0, hz1, hz2⟩ := infoB
  have hsrc : Src Try.prog 1 9 (.string t) t.size (bv (bytesOf t)) w := by rw [← bytes_bv]; exact Src.ofString w Try.underlying9 t
  obtain ⟨v', w1, hr, h1, h2, h3⟩ := run_append_own_src (P := Try.prog) w n₀ 49 9 o.type 5 i0 (.int .u8 0) 1 1 Try.underlying49 hi hz0 hz1 hz2 rfl (by decide) v l.length (bv l) h.row _ t.size _ hsrc (by simp only [maxLen]; omega) (by omega) hn₀
  have h1' := h1
  rw [← bytesOf_length t] at h1'
  obtain ⟨hbx, hadv⟩ := h.step hT hn₀ (Below.refl _ _) (m := bytesOf t) h1' h2 h3
  obtain ⟨k, hk⟩ : ∃ k, l.length + t.size = k + 1 := ⟨l.length + t.size - 1, by omega⟩
  have h1'' := h1
  rw [hk] at h1''
  obtain ⟨g, cap, rfl⟩ := ownsRow_succ h1''
  rw [← hk] at hr hadv
  exact Lib.wpList_append_run _ hgd s x 49 9 ho _ _ hs hx _ _ hr (hK g cap w1 hbx.cell hbx.frozen hadv)
set_option maxRecDepth 100000 in
theorem text_calls (t : ByteArray) (ht : t.size ≤ 70368744177664) {n₀ B : Nat} {w : World} {v : Value} {l : List Int} (h : Wrt n₀ 71 w B v l) (hn₀ : n₀ ≤ w.heap.size) (hl : l.length + 9 + t.size ≤ 140737488355328) :
    Calls Try.prog 48 #[.pointer (some ⟨B, 0, none⟩), .string t] w fun e w' => e = .returned (.tuple #[]) ∧ ∃ v', Adv n₀ 71 B w v w' v' (l ++ (numB 8 t.size ++ bytesOf t)) := by
  have HW := Aside0.mk h
  clear h
  have hnl := numB_len 8 (t.size : Int)
  go_enter Try.func48, Try.ntmps48
  go_wp2_with (first
    | (go_at_call 28; refine (num_calls (t.size : Int) (by omega) (by omega) HW.out hn₀ (by omega)).mono ?_; rintro e w1 ⟨rfl, v1, h1⟩; have hc := h1.st.box.cell; have H1 := Aside0.mk h1; clear h1)
    | ((with_reducible refine gate_dst (N := 14) rfl ?_); refine wpList_text rfl _ _ rfl H1.out.st (by decide) (Nat.le_trans hn₀ H1.out.kb.1) (by rw [List.length_append]; omega) (by rw [List.length_append]; omega) rfl rfl ?_; intro g cap w2 c1 f1 ha2; have HA2 := Aside0.mk (H1.out.trans ha2); clear ha2))
  first | go_end0 | ((try simp only [Exit.inBlock, Exit.then]); refine bodyPost_ret (results_none rfl _ _ _) rfl ?_)
  have h2 := HA2.out
  rw [List.append_assoc, List.length_append] at h2
  exact ⟨rfl, _, h2⟩
/-- What a writer holds, in its own spelling. -/
theorem Wrt.shape {n₀ : Nat} {T : TypeId} {B : Nat} {w : World} {v : Value} {l : List Int} (h : Wrt n₀ T w B v l) : ∃ A c, v = .slice A l.length c ∧ l.length ≤ c := by
  rcases h.row.2 with ⟨rfl, h0⟩ | ⟨g, cap, cur, rfl, _, _, hc, _⟩
  · exact ⟨none, 0, by rw [h0], by omega⟩
  · exact ⟨_, _, rfl, hc⟩
/-- The bytes, as a source of an append. -/
theorem Wrt.src {n₀ : Nat} {T : TypeId} {B : Nat} {w : World} {v : Value} {l : List Int} (h : Wrt n₀ T w B v l) : Src Try.prog 1 49 v l.length (bv l) w := by
  rcases h.row.2 with ⟨rfl, h0⟩ | ⟨g, cap, cur, rfl, _, _, hc, _⟩
  · obtain rfl := List.eq_nil_of_length_eq_zero h0
    exact Src.ofNil w Try.underlying49 0
  · exact Src.ofSlice w Try.underlying49 ⟨g, 0, none⟩ _ _ _ (by rw [bv_len, Nat.mul_one]) (h.row.cells (g := g) rfl) (bv_one l)
theorem bytes_calls {n₀ B : Nat} {w : World} {v : Value} {l : List Int} (h : Wrt n₀ 71 w B v l) (hl : l.length ≤ 140737488355328) :
    Calls Try.prog 31 #[.pointer (some ⟨B, 0, none⟩)] w fun e w' => ∃ v', e = .returned v' ∧ w'.ownsRow w.heap.size 5 1 v' l.length (bv l) ∧ Below w.heap.size w w' := by
  obtain ⟨i0, hi, hz0, hz1, hz2⟩ := infoB
  obtain ⟨v', w1, hr, h1, h2, h3⟩ := run_append_own_src (P := Try.prog) w w.heap.size 49 49 49 5 i0 (.int .u8 0) 1 1 Try.underlying49 hi hz0 hz1 hz2 rfl (by decide) (.slice none 0 0) 0 [] (World.ownsRow_nil _ _ _ _) v l.length (bv l) h.src (by simp only [maxLen]; omega) (by omega) (Nat.le_refl _)
  rw [Nat.zero_add, List.nil_append] at h1
  have hb : Below w.heap.size w w1 := ⟨h2.os, h2.tape, h2.output, h2.size, fun k hk => h2.block k hk (by simp [Value.ownBlock])⟩
  have hc := h.box.cell
  clear h h2 h3 hi hz0 hz1 hz2
  go_enter Try.func31, Try.ntmps31
  go_wp2_with ((with_reducible refine gate_dst (N := 7) rfl ?_); refine Lib.wpList_append_run _ rfl _ _ 49 49 rfl _ _ rfl rfl _ _ hr ?_)
  go_ret
  exact ⟨_, rfl, h1, hb⟩
theorem new_calls (w : World) :
    Calls Try.prog 24 #[] w fun e w' => ∃ B, e = .returned (.pointer (some ⟨B, 0, none⟩)) ∧ Wrt w.heap.size 71 w' B (.slice none 0 0) [] ∧ Below w.heap.size w w' := by
  have hb : Below w.heap.size w (w.alloc (.cells #[.slice none 0 0] 71)) := below_alloc (Below.refl _ _) _
  have hx : Boxed (w.alloc (.cells #[.slice none 0 0] 71)) w.heap.size 71 (.slice none 0 0) := heap_alloc_new _ _
  have HB := Aside0.mk hb
  have HX := Aside0.mk hx
  clear hb hx
  go_enter Try.func24, Try.ntmps24
  go_wp2
  go_ret
  exact ⟨_, rfl, ⟨HX.out, World.ownsRow_nil _ _ _ _, Nat.le_refl _⟩, HB.out⟩
end Go.Proofs.Ythalodnfecaccaa.Wr
