-- By wip/late.py (a program of this session) out of wip/words.
import Derived.Test.YtcfiobhebakhlabProg
import Derived.Test.YtcfiobhebakhlabWWords
import Derived.Test.YtcfiobhebakhlabWLast
import Derived.Test.YtcfiobhebakhlabWMore
import Derived.Test.YtcfiobhebakhlabSWr
import Derived.Test.YtcfiobhebakhlabSWrNums
import Derived.RangeFuncBox
import Derived.Deep.RegionLaw
import Derived.BigQuiet
import Derived.Deep.QuietTactic
import Derived.Lib.Hide
import Derived.Tactics
import Derived.WalkKit
import Derived.OwnWalk
import Derived.Test.YtcfiobhebakhlabSNumsP
set_option linter.unusedVariables false
set_option linter.unusedSimpArgs false
namespace Go.Proofs.Ytcfiobhebakhlab.Wr
open Go.RowKit Go.Proofs.YtcfiobhebakhlabW.PrintWords Go.Proofs.Ytcfiobhebakhlab.Pure
/-! A word of eight bytes, laid down in a region that draws its order. -/
theorem Adv.drew {n₀ : Nat} {T : TypeId} {B : Nat} {w W : World} {v v' : Value} {l : List Int} (h : Adv n₀ T B w v W v' l) (hn₀ : n₀ ≤ w.heap.size) : Adv n₀ T B w v W.drew v' l := h.below hn₀ (Drawn0.below ⟨1, rfl⟩)
theorem step_one {ops : Array Oper} {o : Oper} {a : Act} {K : Act → World → Prop} {Q : Exit → Act → World → Prop} {E : Prop} (hgd : o.guard = none) (s x : Operand)
    (ho : o.op = .call { callee := .builtin .append, args := #[s, x], argTypes := #[29, 29] }) {n₀ : Nat} {T : TypeId} {B : Nat} {w : World} {v : Value} {l : List Int} {c : Int}
    (h : Wrt n₀ T w B v l) (hT : T ≠ 5) (hn₀ : n₀ ≤ w.heap.size) (hl : l.length + 1 ≤ 140737488355328) (hs : a.eval s = v) (hx : a.eval x = .slice (some ⟨w.heap.size, 0, none⟩) 1 1)
    (hK : ∀ g cap w1, w1.cell? ⟨B, 0, none⟩ = some v → w1.frozen? ⟨B, 0, none⟩ = false → Adv n₀ T B w v (w1.setCell ⟨B, 0, none⟩ (.slice (some ⟨g, 0, none⟩) (l.length + 1) cap)) (.slice (some ⟨g, 0, none⟩) (l.length + 1) cap) (l ++ [c]) →
      K (a.put o.dst (.slice (some ⟨g, 0, none⟩) (l.length + 1) cap)) w1) :
    if Region.wanted o (yielded ops a.tmps) = true then Oper.wp Try.prog o a (w.alloc (.cells #[.int .u8 c] 5)) K Q else E := by
  have hw : Region.wanted o (yielded ops a.tmps) = true := by simp [Region.wanted, hgd]
  rw [if_pos hw]
  obtain ⟨g, cap, w1, hr, c1, f1, ha⟩ := one_byte h hT hn₀ hl c
  have hrun := hr o.type
  unfold Oper.wp
  simp [execOp, ho, resolve, invoke, builtin, hs, hx, hrun, Result.andThen]
  exact hK g cap w1 c1 f1 ha
/-- The bytes of a word, from the byte k - 1 down. -/
def wordB (u : Int) : Nat → List Int
  | 0 => []
  | k + 1 => (u / 2 ^ (8 * k)) % 256 :: wordB u k
theorem wordB_len (u : Int) : ∀ k, (wordB u k).length = k
  | 0 => rfl
  | k + 1 => by simp [wordB, wordB_len u k]
set_option maxRecDepth 100000 in
set_option maxHeartbeats 4000000 in
theorem word_calls (u : Int) (hu0 : 0 ≤ u) (hu1 : u < 18446744073709551616) {n₀ B : Nat} {w : World} {v : Value} {l : List Int} (h : Wrt n₀ 60 w B v l) (hn₀ : n₀ ≤ w.heap.size) (hl : l.length + 9 ≤ 140737488355328) :
    Calls Try.prog 36 #[.pointer (some ⟨B, 0, none⟩), .int .u64 u] w fun e w' => e = .returned (.tuple #[]) ∧ ∃ v', Adv n₀ 60 B w v w' v' (l ++ wordB u 8) := by
  have HW := Aside0.mk h
  clear h
  go_enter Try.func36, Try.ntmps36
  go_wp2
  go_loopw [4] (fun s4 wr => ∃ (d : Nat) (m : List Int) (v1 : Value), s4 = .int .i64 (8 * (d : Int) - 8) ∧ m.length + d = 8 ∧ m ++ wordB u d = wordB u 8 ∧ Adv n₀ 60 B w v wr v1 (l ++ m)) (fun s4 _ => (intOf s4 + 8).toNat)
  case atStart => exact ⟨8, [], v, rfl, rfl, rfl, by simpa using Adv.refl HW.out⟩
  case round =>
    obtain ⟨d, m, v1, rfl, hmd, hm, ha⟩ := hrel
    have hc := ha.st.box.cell
    have HA := Aside0.mk (ha.drew hn₀)
    have HA0 := Aside0.mk ha
    have HM := Aside0.mk hm
    clear ha hm
    cases d with
    | zero =>
      go_wp2
      first | go_end0 | ((try simp only [Exit.inBlock, Exit.then]); refine bodyPost_ret (results_none rfl _ _ _) rfl ?_)
      have h1 := HA0.out
      have h2 := HM.out
      simp only [wordB, List.append_nil] at h2
      rw [h2] at h1
      exact ⟨rfl, _, h1⟩
    | succ d =>
      have e8 : 8 * (((d + 1 : Nat) : Int)) - 8 = 8 * (d : Int) := by omega
      simp only [e8]
      have b0 : decide (0 ≤ 8 * (d : Int)) = true := decide_eq_true (by omega)
      have hca : ∀ o, ((wr.alloc o).drew).cell? ⟨B, 0, none⟩ = some v1 := fun o => (HA0.out.st.below (below_alloc (Below.refl _ _) o)).box.cell
      go_wp2
      go_region_law (refine step_one rfl (.tmp 13) (.tmp 18) rfl HA.out.st (by decide) (Nat.le_trans hn₀ HA.out.size) (by rw [List.length_append]; omega) (by simp [Act.eval, Act.put]) (by simp [Act.eval, Act.put]) ?_; intro g cap w1 c1 f1 ha2; have HA2 := Aside0.mk (HA.out.trans ha2); clear ha2)
      all_goals (
        go_wp2
        go_roundw
        case rel =>
          have h1 := HA2.out
          have e1 : IntKind.u8.wrap (u / 2 ^ (8 * (d : Int)).toNat) = (u / 2 ^ (8 * d)) % 256 := by
            rw [show (8 * (d : Int)).toNat = 8 * d by omega]; rfl
          rw [List.length_append, List.append_assoc, e1] at h1
          refine ⟨d, m ++ [(u / 2 ^ (8 * d)) % 256], _, rfl, by simp; omega, ?_, h1⟩
          rw [← HM.out, List.append_assoc]; rfl
        case measure => (simp [intOf]; try omega))
set_option maxRecDepth 100000 in
set_option maxHeartbeats 4000000 in
theorem rword_calls (u : Int) (hu0 : 0 ≤ u) (hu1 : u < 18446744073709551616) {n₀ B : Nat} {w : World} {v : Value} {l : List Int} (h : Wrt n₀ 38 w B v l) (hn₀ : n₀ ≤ w.heap.size) (hl : l.length + 9 ≤ 140737488355328) :
    Calls Try.prog 40 #[.pointer (some ⟨B, 0, none⟩), .int .u64 u] w fun e w' => e = .returned (.tuple #[]) ∧ ∃ v', Adv n₀ 38 B w v w' v' (l ++ wordB u 8) := by
  have HW := Aside0.mk h
  clear h
  go_enter Try.func40, Try.ntmps40
  go_wp2
  go_loopw [4] (fun s4 wr => ∃ (d : Nat) (m : List Int) (v1 : Value), s4 = .int .i64 ((d : Int) - 1) ∧ m.length + d = 8 ∧ m ++ wordB u d = wordB u 8 ∧ Adv n₀ 38 B w v wr v1 (l ++ m)) (fun s4 _ => (intOf s4 + 1).toNat)
  case atStart => exact ⟨8, [], v, rfl, rfl, rfl, by simpa using Adv.refl HW.out⟩
  case round =>
    obtain ⟨d, m, v1, rfl, hmd, hm, ha⟩ := hrel
    have hc := ha.st.box.cell
    have HA := Aside0.mk (ha.drew hn₀)
    have HA0 := Aside0.mk ha
    have HM := Aside0.mk hm
    clear ha hm
    cases d with
    | zero =>
      go_wp2
      first | go_end0 | ((try simp only [Exit.inBlock, Exit.then]); refine bodyPost_ret (results_none rfl _ _ _) rfl ?_)
      have h1 := HA0.out
      have h2 := HM.out
      simp only [wordB, List.append_nil] at h2
      rw [h2] at h1
      exact ⟨rfl, _, h1⟩
    | succ d =>
      have e8 : (((d + 1 : Nat) : Int)) - 1 = (d : Int) := by omega
      simp only [e8]
      have hwr : IntKind.i64.wrap (8 * (d : Int)) = 8 * (d : Int) := by rw [IntKind.wrap_i64]; omega
      have p8 : (0 ≤ 8 * (d : Int)) = True := eq_true (by omega)
      have b0 : decide (0 ≤ (d : Int)) = true := decide_eq_true (by omega)
      have hca : ∀ o, ((wr.alloc o).drew).cell? ⟨B, 0, none⟩ = some v1 := fun o => (HA0.out.st.below (below_alloc (Below.refl _ _) o)).box.cell
      go_wp2
      go_region_law (refine step_one rfl (.tmp 13) (.tmp 19) rfl HA.out.st (by decide) (Nat.le_trans hn₀ HA.out.size) (by rw [List.length_append]; omega) (by simp [Act.eval, Act.put]) (by simp [Act.eval, Act.put]) ?_; intro g cap w1 c1 f1 ha2; have HA2 := Aside0.mk (HA.out.trans ha2); clear ha2)
      all_goals (
        go_wp2
        go_roundw
        case rel =>
          have h1 := HA2.out
          have e1 : IntKind.u8.wrap (u / 2 ^ (8 * (d : Int)).toNat) = (u / 2 ^ (8 * d)) % 256 := by
            rw [show (8 * (d : Int)).toNat = 8 * d by omega]; rfl
          rw [List.length_append, List.append_assoc, e1] at h1
          refine ⟨d, m ++ [(u / 2 ^ (8 * d)) % 256], _, rfl, by simp; omega, ?_, h1⟩
          rw [← HM.out, List.append_assoc]; rfl
        case measure => (simp [intOf]; try omega))
end Go.Proofs.Ytcfiobhebakhlab.Wr
