-- By wip/late.py (a program of this session) out of wip/words.
import Derived.Test.YthalodnfecaccaaProg
import Derived.Test.YthalodnfecaccaaWWords
import Derived.Test.YthalodnfecaccaaWLast
import Derived.Test.YthalodnfecaccaaWMore
import Derived.Test.YthalodnfecaccaaSWr
import Derived.Test.YthalodnfecaccaaSWrNums
import Derived.RangeFuncBox
import Derived.Maps.AppendAt
import Derived.Deep.AppendSrc
import Derived.Deep.Upon
import Derived.Lib.AppendZeros
import Derived.BigQuiet
import Derived.Deep.QuietTactic
import Derived.Lib.Hide
import Derived.Tactics
import Derived.WalkKit
import Derived.OwnWalk
import Derived.Test.YthalodnfecaccaaSNumsP
set_option linter.unusedVariables false
set_option linter.unusedSimpArgs false
namespace Go.Proofs.Ythalodnfecaccaa.Wr
open Go.RowKit Go.Proofs.YthalodnfecaccaaW.PrintWords Go.Proofs.Ythalodnfecaccaa.Pure
/-! What the document's writers lay down. -/
set_option maxRecDepth 100000 in
theorem rnum_calls (n : Int) (hn0 : 0 ≤ n) (hn1 : n ≤ 9223372036854775807) {n₀ B : Nat} {w : World} {v : Value} {l : List Int} (h : Wrt n₀ 52 w B v l) (hn₀ : n₀ ≤ w.heap.size) (hl : l.length + 9 ≤ 140737488355328) :
    Calls Try.prog 29 #[.pointer (some ⟨B, 0, none⟩), .int .i64 n] w fun e w' => e = .returned (.tuple #[]) ∧ ∃ v', Adv n₀ 52 B w v w' v' (l ++ numB 8 n) := by
  have HW := Aside0.mk h
  clear h
  go_enter Try.func29, Try.ntmps29
  go_wp2
  go_loopw [1] (fun s4 wr => ∃ (d : Nat) (u : Int) (m : List Int) (v1 : Value), s4 = .int .i64 u ∧ 0 ≤ u ∧ u ≤ n ∧ u < 128 ^ (d + 1) ∧ m.length + d = 8 ∧ m ++ numB d u = numB 8 n ∧ Adv n₀ 52 B w v wr v1 (l ++ m)) (fun s4 _ => (intOf s4).toNat)
  case atStart => exact ⟨8, n, [], v, rfl, hn0, Int.le_refl _, by omega, rfl, rfl, by simpa using Adv.refl HW.out⟩
  case round =>
    obtain ⟨d, u, m, v1, rfl, hu0, hun, hu1, hmd, hm, ha⟩ := hrel
    have hc := ha.st.box.cell
    have HA := Aside0.mk ha
    have HM := Aside0.mk hm
    have HU := Aside0.mk hu1
    clear ha hm hu1
    by_cases hlt : 128 ≤ u
    · obtain ⟨d, rfl⟩ : ∃ d', d = d' + 1 := by
        cases d with
        | zero => have := HU.out; simp at this; omega
        | succ d => exact ⟨d, rfl⟩
      go_wp2_with ((with_reducible refine gate_dst (N := 18) rfl ?_); refine wpList_one rfl _ _ rfl HA.out.st (by decide) (Nat.le_trans hn₀ HA.out.kb.1) (by rw [List.length_append]; omega) rfl rfl ?_; intro g cap w1 c1 f1 ha2; have HA2 := Aside0.mk (HA.out.trans ha2); clear ha2)
      go_roundw
      case rel =>
        have h1 := HA2.out
        rw [List.length_append, List.append_assoc] at h1
        refine ⟨d, u / 128, m ++ [128 + u % 128], _, rfl, by omega, by omega, ?_, by simp; omega, ?_, h1⟩
        · have h2 := HU.out
          rw [Int.pow_succ] at h2
          exact Int.ediv_lt_of_lt_mul (by omega) h2
        · rw [← HM.out, List.append_assoc]
          congr 1
          simp only [numB]
          rw [if_neg (by omega)]; rfl
      case measure => simp [intOf]; omega
    · go_wp2_with ((with_reducible refine gate_dst (N := 31) rfl ?_); refine wpList_one rfl _ _ rfl HA.out.st (by decide) (Nat.le_trans hn₀ HA.out.kb.1) (by rw [List.length_append]; omega) rfl rfl ?_; intro g cap w1 c1 f1 ha2; have HA2 := Aside0.mk (HA.out.trans ha2); clear ha2)
      first | go_end0 | ((try simp only [Exit.inBlock, Exit.then]); refine bodyPost_ret (results_none rfl _ _ _) rfl ?_)
      have h1 := HA2.out
      rw [List.length_append, List.append_assoc] at h1
      have h2 : m ++ [u] = numB 8 n := by
        rw [← HM.out]
        congr 1
        cases d with
        | zero => rfl
        | succ d => simp only [numB]; rw [if_pos (by omega)]
      rw [h2] at h1
      exact ⟨rfl, _, h1⟩
set_option maxRecDepth 100000 in
theorem rnum_neg (n : Int) (hn0 : n < 0) (hn1 : -9223372036854775808 ≤ n) {n₀ B : Nat} {w : World} {v : Value} {l : List Int} (h : Wrt n₀ 52 w B v l) (hn₀ : n₀ ≤ w.heap.size) (hl : l.length + 9 ≤ 140737488355328) :
    Calls Try.prog 29 #[.pointer (some ⟨B, 0, none⟩), .int .i64 n] w fun e w' => e = .returned (.tuple #[]) ∧ ∃ v', Adv n₀ 52 B w v w' v' (l ++ numB 8 0) := by
  have hc := h.box.cell
  have HW := Aside0.mk h
  clear h
  go_enter Try.func29, Try.ntmps29
  go_wp2
  go_loopw [1] (fun s4 wr => s4 = .int .i64 0 ∧ wr = w) (fun s4 _ => 0)
  case atStart => exact ⟨rfl, rfl⟩
  case round =>
    obtain ⟨rfl, rfl⟩ := hrel
    go_wp2_with ((with_reducible refine gate_dst (N := 31) rfl ?_); refine wpList_one rfl _ _ rfl HW.out (by decide) hn₀ (by omega) rfl rfl ?_; intro g cap w1 c1 f1 ha2; have HA2 := Aside0.mk ha2; clear ha2)
    first | go_end0 | ((try simp only [Exit.inBlock, Exit.then]); refine bodyPost_ret (results_none rfl _ _ _) rfl ?_)
    exact ⟨rfl, _, HA2.out⟩
/-- Any number. -/
theorem rnum_any (n : Int) (hn0 : -9223372036854775808 ≤ n) (hn1 : n ≤ 9223372036854775807) {n₀ B : Nat} {w : World} {v : Value} {l : List Int} (h : Wrt n₀ 52 w B v l) (hn₀ : n₀ ≤ w.heap.size) (hl : l.length + 9 ≤ 140737488355328) :
    Calls Try.prog 29 #[.pointer (some ⟨B, 0, none⟩), .int .i64 n] w fun e w' => e = .returned (.tuple #[]) ∧ ∃ v', Adv n₀ 52 B w v w' v' (l ++ numB 8 (max n 0)) := by
  rcases Int.lt_or_le n 0 with hn | hn
  · rw [Int.max_eq_right (by omega)]; exact rnum_neg n hn hn0 h hn₀ hl
  · rw [Int.max_eq_left hn]; exact rnum_calls n hn hn1 h hn₀ hl
set_option maxRecDepth 100000 in
theorem rtext_calls (t : ByteArray) (ht : t.size ≤ 70368744177664) {n₀ B : Nat} {w : World} {v : Value} {l : List Int} (h : Wrt n₀ 52 w B v l) (hn₀ : n₀ ≤ w.heap.size) (hl : l.length + 9 + t.size ≤ 140737488355328) :
    Calls Try.prog 50 #[.pointer (some ⟨B, 0, none⟩), .string t] w fun e w' => e = .returned (.tuple #[]) ∧ ∃ v', Adv n₀ 52 B w v w' v' (l ++ (numB 8 t.size ++ bytesOf t)) := by
  have HW := Aside0.mk h
  clear h
  have hnl := numB_len 8 (t.size : Int)
  go_enter Try.func50, Try.ntmps50
  go_wp2_with (first
    | (go_at_call 29; refine (rnum_calls (t.size : Int) (by omega) (by omega) HW.out hn₀ (by omega)).mono ?_; rintro e w1 ⟨rfl, v1, h1⟩; have hc := h1.st.box.cell; have H1 := Aside0.mk h1; clear h1)
    | ((with_reducible refine gate_dst (N := 14) rfl ?_); refine wpList_text rfl _ _ rfl H1.out.st (by decide) (Nat.le_trans hn₀ H1.out.kb.1) (by rw [List.length_append]; omega) (by rw [List.length_append]; omega) rfl rfl ?_; intro g cap w2 c1 f1 ha2; have HA2 := Aside0.mk (H1.out.trans ha2); clear ha2))
  first | go_end0 | ((try simp only [Exit.inBlock, Exit.then]); refine bodyPost_ret (results_none rfl _ _ _) rfl ?_)
  have h2 := HA2.out
  rw [List.append_assoc, List.length_append] at h2
  exact ⟨rfl, _, h2⟩
set_option maxRecDepth 100000 in
theorem rflag_calls (b : Bool) {n₀ B : Nat} {w : World} {v : Value} {l : List Int} (h : Wrt n₀ 52 w B v l) (hn₀ : n₀ ≤ w.heap.size) (hl : l.length + 1 ≤ 140737488355328) :
    Calls Try.prog 51 #[.pointer (some ⟨B, 0, none⟩), .bool b] w fun e w' => e = .returned (.tuple #[]) ∧ ∃ v', Adv n₀ 52 B w v w' v' (l ++ [if b = true then 1 else 0]) := by
  have hc := h.box.cell
  cases b with
  | true =>
    obtain ⟨g, cap, w1, hr, c1, f1, ha⟩ := one_byte h (by decide) hn₀ hl 1
    have HA := Aside0.mk ha
    clear ha
    go_enter Try.func51, Try.ntmps51
    go_wp2_with ((with_reducible refine gate_dst (N := 11) rfl ?_); refine Lib.wpList_append_run _ rfl _ _ 49 49 rfl _ _ rfl rfl _ _ (hr _) ?_)
    first | go_end0 | ((try simp only [Exit.inBlock, Exit.then]); refine bodyPost_ret (results_none rfl _ _ _) rfl ?_)
    exact ⟨rfl, _, HA.out⟩
  | false =>
    obtain ⟨g, cap, w1, hr, c1, f1, ha⟩ := one_byte h (by decide) hn₀ hl 0
    have HA := Aside0.mk ha
    clear ha
    go_enter Try.func51, Try.ntmps51
    go_wp2_with ((with_reducible refine gate_dst (N := 20) rfl ?_); refine Lib.wpList_append_run _ rfl _ _ 49 49 rfl _ _ rfl rfl _ _ (hr _) ?_)
    first | go_end0 | ((try simp only [Exit.inBlock, Exit.then]); refine bodyPost_ret (results_none rfl _ _ _) rfl ?_)
    exact ⟨rfl, _, HA.out⟩
theorem rnew_calls (w : World) :
    Calls Try.prog 25 #[] w fun e w' => ∃ B, e = .returned (.pointer (some ⟨B, 0, none⟩)) ∧ Wrt w.heap.size 52 w' B (.slice none 0 0) [] ∧ Below w.heap.size w w' := by
  have hb : Below w.heap.size w (w.alloc (.cells #[.slice none 0 0] 52)) := below_alloc (Below.refl _ _) _
  have hx : Boxed (w.alloc (.cells #[.slice none 0 0] 52)) w.heap.size 52 (.slice none 0 0) := heap_alloc_new _ _
  have HB := Aside0.mk hb
  have HX := Aside0.mk hx
  clear hb hx
  go_enter Try.func25, Try.ntmps25
  go_wp2
  go_ret
  exact ⟨_, rfl, ⟨HX.out, World.ownsRow_nil _ _ _ _, Nat.le_refl _⟩, HB.out⟩
end Go.Proofs.Ythalodnfecaccaa.Wr
