-- By wip/late.py (a program of this session) out of wip/words.
import Derived.Test.YtghlellambnkeaaProg
import Derived.Test.YtghlellambnkeaaWWords
import Derived.Test.YtghlellambnkeaaWLast
import Derived.Test.YtghlellambnkeaaWMore
import Derived.Test.YtghlellambnkeaaPAllx0
import Derived.Test.YtghlellambnkeaaPAllx6
import Derived.Test.YtghlellambnkeaaSMergeA
import Derived.Test.YtghlellambnkeaaSMerge
import Derived.Test.YtghlellambnkeaaSCopied
import Derived.Test.YtghlellambnkeaaSAppSrc
import Derived.Sort.CutIn
import Derived.RangeFuncCalls
import Derived.RangeFuncBox
import Derived.OwnWalkIn
import Derived.Maps.AppendAt
import Derived.BigRegion
import Derived.RegionTactic
import Derived.ArgAppend
import Derived.Deep.Upon
import Derived.Deep.AppendSrc
import Derived.Lib.AppendZeros
import Derived.Laws.MakeOwn
import Derived.BigQuiet
import Derived.Deep.QuietTactic
import Derived.Lib.Hide
import Derived.Lib.SliceRun
set_option linter.unusedVariables false
set_option linter.unusedSimpArgs false
namespace Go.Proofs.Ytghlellambnkeaa.MergeW
open Go.RowKit Go.Shelf Go.Proofs.YtghlellambnkeaaW.PrintWords Go.Proofs.Ytghlellambnkeaa.PAll Go.Proofs.Ytghlellambnkeaa.Pure Go.Proofs.Ytghlellambnkeaa.AppSrc
/-! What Both lends: two copies, and two boxes that hold them. -/
def Lent (B : Nat) (la lb : List S44) (Ba Bb : Nat) (A1 : Option Addr) (c1 : Nat) (A2 : Option Addr) (c2 : Nat) (W : World) : Prop :=
  W.heap[Ba]? = some (.cells #[.slice A1 la.length c1] 22 (0, 0)) ∧ W.heap[Bb]? = some (.cells #[.slice A2 lb.length c2] 22 (0, 0)) ∧ B ≤ Ba ∧ B ≤ Bb ∧
  W.ownsRow B 44 5 (.slice A1 la.length c1) la.length (rowE la) ∧ W.ownsRow B 44 5 (.slice A2 lb.length c2) lb.length (rowE lb)
theorem own_base {W : World} {base e sz n : Nat} {v : Value} {xs : List Value} (h : W.ownsRow base e sz v n xs) : ∀ k, v.ownBlock = some k → base ≤ k := by
  intro k hk
  rcases h.2 with ⟨e1, _⟩ | ⟨g', cap, cur, e1, hb, hh, _⟩
  · rw [e1] at hk; simp [Value.ownBlock] at hk
  · rw [e1] at hk
    have : g' = k := by simpa [Value.ownBlock] using hk
    omega
theorem own_lower {W : World} {base base' e sz n : Nat} {v : Value} {xs : List Value} (h : W.ownsRow base e sz v n xs) (hb : base' ≤ base) : W.ownsRow base' e sz v n xs := by
  refine ⟨h.1, ?_⟩
  rcases h.2 with h1 | ⟨g, cap, cur, e1, h2, h3⟩
  · exact .inl h1
  · exact .inr ⟨g, cap, cur, e1, Nat.le_trans hb h2, h3⟩
theorem Lent.keep {B : Nat} {la lb : List S44} {Ba Bb : Nat} {A1 A2 : Option Addr} {c1 c2 : Nat} {W W' : World} (h : Lent B la lb Ba Bb A1 c1 A2 c2 W) (hk : ∀ k, B ≤ k → k < W.heap.size → W'.heap[k]? = W.heap[k]?) : Lent B la lb Ba Bb A1 c1 A2 c2 W' := by
  obtain ⟨h1, h2, h3, h4, h5, h6⟩ := h
  refine ⟨(hk _ h3 (blk_lt h1)).trans h1, (hk _ h4 (blk_lt h2)).trans h2, h3, h4, own_move h5 (fun k hv => ?_), own_move h6 (fun k hv => ?_)⟩
  · obtain ⟨cells, hc⟩ := own_typed h5 k hv
    exact hk _ (own_base h5 k hv) (blk_lt hc)
  · obtain ⟨cells, hc⟩ := own_typed h6 k hv
    exact hk _ (own_base h6 k hv) (blk_lt hc)
theorem Lent.rows {B : Nat} {la lb : List S44} {Ba Bb : Nat} {A1 A2 : Option Addr} {c1 c2 : Nat} {W : World} (h : Lent B la lb Ba Bb A1 c1 A2 c2 W) : Row W A1 la ∧ Row W A2 lb :=
  ⟨row_of (Kd.R_reads' (rowR h.2.2.2.2.1)).2.2, row_of (Kd.R_reads' (rowR h.2.2.2.2.2)).2.2⟩
theorem clone_run (w : World) {A : Option Addr} {c : Nat} {l : List S44} (h : Kd.C k44 w A l.length l) (hl : l.length ≤ 2513169434843) :
    ∃ A' c' w1, (∀ ty, (Builtin.append_ #[22, 22] ty #[.slice (some ⟨w.heap.size, 0, none⟩) 0 0, .slice A l.length c]).run Try.prog (w.alloc (.cells #[] 44)) = .ok (.slice A' l.length c') w1) ∧ w1.ownsRow w.heap.size 44 5 (.slice A' l.length c') l.length (rowE l) ∧ Below w.heap.size w w1 := by
  obtain ⟨i0, hi, hz0, hz1, hz2⟩ := infoE'
  have hb0 : Below w.heap.size w (w.alloc (.cells #[] 44)) := below_alloc (Below.refl _ _) _
  have hown : (w.alloc (.cells #[] 44)).ownsRow w.heap.size 44 5 (.slice (some ⟨w.heap.size, 0, none⟩) 0 0) 0 [] := ⟨rfl, .inr ⟨w.heap.size, 0, #[], rfl, Nat.le_refl _, heap_alloc_new _ _, Nat.le_refl _, by decide, rfl, rfl⟩⟩
  obtain ⟨v', w1, hr, h1, h2, h3⟩ := run_append_own_src (P := Try.prog) (w.alloc (.cells #[] 44)) w.heap.size 22 22 22 44 i0 _ 5 56 Try.underlying22 hi hz0 hz1 hz2 rfl (by decide) (.slice (some ⟨w.heap.size, 0, none⟩) 0 0) 0 [] hown (.slice A l.length c) l.length (rowE l) (src_of (Kd.C_below h hb0)) (by simp only [maxLen]; omega) (by omega) hb0.size
  rw [Nat.zero_add, List.nil_append] at h1
  obtain ⟨A', c', rfl⟩ : ∃ A c, v' = .slice A l.length c := by
    rcases h1.2 with ⟨rfl, h0⟩ | ⟨g, cap, cur, rfl, _, _, hc, _⟩
    · exact ⟨none, 0, by rw [h0]⟩
    · exact ⟨_, _, rfl⟩
  refine ⟨A', c', w1, fun ty => hr, h1, hb0.trans ⟨h2.os, h2.tape, h2.output, h2.size, fun k hk => h2.block k (Nat.lt_of_lt_of_le hk hb0.size) ?_⟩⟩
  intro e
  have : w.heap.size = k := by simpa [Value.ownBlock] using e.symm
  omega
theorem nil_slice (a : Option Addr) (w : World) (n c n' c' : Nat) : (binOp .eql 22 (.slice a n c) (.slice none n' c')).run Try.prog w = .ok (.bool a.isNone) w := Lib.run_eql_slice_nil w _ _ a n c n' c' Try.underlying22
set_option maxRecDepth 100000 in
set_option maxHeartbeats 4000000 in
theorem clone_calls (A : Option Addr) (c : Nat) (l : List S44) (w : World) (hr : Kd.C k44 w A l.length l) (hl : l.length ≤ 2513169434843) :
    Calls Try.prog 43 #[.slice A l.length c] w fun e w' => ∃ A' c', e = .returned (.slice A' l.length c') ∧ w'.ownsRow w.heap.size 44 5 (.slice A' l.length c') l.length (rowE l) ∧ Below w.heap.size w w' := by
  cases A with
  | none =>
    have h0 : l = [] := by
      cases l with
      | nil => rfl
      | cons x l =>
        obtain ⟨ad, e, _⟩ := hr.2.2 (by simp)
        cases e
    subst h0
    have q22 := nil_slice none
    go_enter Try.func43, Try.ntmps43
    go_wp2
    go_ret
    exact ⟨none, 0, rfl, World.ownsRow_nil _ _ _ _, Below.refl _ _⟩
  | some ad =>
    obtain ⟨A', c', w1, hap, h1, hb1⟩ := clone_run w (c := c) hr hl
    have q22 := nil_slice (some ad)
    go_enter Try.func43, Try.ntmps43
    go_wp2_with ((with_reducible refine gate_dst (N := 7) rfl ?_); refine Lib.wpList_append_run _ rfl _ _ 22 22 rfl _ _ rfl rfl _ _ (hap _) ?_)
    go_ret
    exact ⟨A', c', rfl, h1, hb1⟩
/-- What Both comes to. -/
def LentTo (w : World) (la lb : List S44) (e0 : Int) (e : Ending) (w' : World) : Prop := ∃ (l1 l2 : List S44) (Ba Bb : Nat) (A1 : Option Addr) (c1 : Nat) (A2 : Option Addr) (c2 : Nat), e = .returned (.func (.func 53) #[] #[.pointer (some ⟨Ba, 0, none⟩), .pointer (some ⟨Bb, 0, none⟩)]) ∧
      mp l1 l2 = (if e0 = 0 then mp la lb else []) ∧ Lent w.heap.size l1 l2 Ba Bb A1 c1 A2 c2 w' ∧ Below w.heap.size w w'
set_option maxRecDepth 100000 in
set_option maxHeartbeats 4000000 in
theorem both_calls (k : Nat) (A A' : Option Addr) (c c' : Nat) (la lb : List S44) (w : World) (hr : Kd.C k44 w A la.length la) (hc : la.length ≤ c) (hr' : Kd.C k44 w A' lb.length lb) (hc' : lb.length ≤ c') (hl : la.length ≤ 2513169434843) (hl' : lb.length ≤ 2513169434843) (e0 : Int) (hk : merge_check.f k la lb = some e0) :
    Calls Try.prog 23 #[.slice A la.length c, .slice A' lb.length c'] w fun e w' => LentTo w la lb e0 e w' := by
  have HR := Aside0.mk hr
  have HR' := Aside0.mk hr'
  clear hr hr'
  by_cases he : e0 = 0
  · subst he
    have hne : ((0 : Int) != 0) = false := by decide
    go_enter Try.func23, Try.ntmps23
    go_wp2_with (first
      | (go_at_call 41; refine (merge_check.calls k A c la A' c' lb 0 _ HR.out hc HR'.out hc' hk).mono ?_; rintro e w1 ⟨rfl, hb1⟩)
      | (go_at_call 43; refine (clone_calls A c la _ (Kd.C_below HR.out hb1) hl).mono ?_; rintro e w2 ⟨A2, c2, rfl, h2, hb2⟩)
      | (go_at_call 43; refine (clone_calls A' c' lb _ (Kd.C_below HR'.out (hb1.trans (hb2.mono hb1.size))) hl').mono ?_; rintro e w3 ⟨A3, c3, rfl, h3, hb3⟩)
      | (go_at_call 42; refine (callsIn_wide.1 (pairs_in 1 A2 A3 _ c2 _ c3 w3)).mono ?_; rintro e w4 ⟨rfl, rfl⟩))
    go_ret
    have hba : ((w3.alloc (.cells #[.slice A2 la.length c2] 22)).alloc (.cells #[.slice A3 lb.length c3] 22)).heap[w3.heap.size]? = some (.cells #[.slice A2 la.length c2] 22 (0, 0)) := blk_alloc (heap_alloc_new _ _) _
    have hbb : ((w3.alloc (.cells #[.slice A2 la.length c2] 22)).alloc (.cells #[.slice A3 lb.length c3] 22)).heap[w3.heap.size + 1]? = some (.cells #[.slice A3 lb.length c3] 22 (0, 0)) := by simpa using heap_alloc_new (w3.alloc (.cells #[.slice A2 la.length c2] 22)) (.cells #[.slice A3 lb.length c3] 22)
    have hbz : Below w3.heap.size w3 ((w3.alloc (.cells #[.slice A2 la.length c2] 22)).alloc (.cells #[.slice A3 lb.length c3] 22)) := below_alloc (below_alloc (Below.refl _ _) _) _
    have s1 := hb1.size
    have s2 := hb2.size
    have s3 := hb3.size
    have hbw := (hb1.trans (hb2.mono hb1.size)).trans (hb3.mono (Nat.le_trans s1 s2))
    refine ⟨la, lb, w3.heap.size, w3.heap.size + 1, A2, c2, A3, c3, rfl, by rw [if_pos rfl], ⟨hba, hbb, by omega, by omega, ?_, ?_⟩, hbw.trans (hbz.mono (by omega))⟩
    · exact pw_own_below (own_lower (pw_own_below h2 hb3) s1) hbz
    · exact pw_own_below (own_lower h3 (Nat.le_trans s1 s2)) hbz
  · have hne : (e0 != 0) = true := by simpa using he
    go_enter Try.func23, Try.ntmps23
    go_wp2_with (first
      | (go_at_call 41; refine (merge_check.calls k A c la A' c' lb e0 _ HR.out hc HR'.out hc' hk).mono ?_; rintro e w1 ⟨rfl, hb1⟩)
      | (go_at_call 42; refine (callsIn_wide.1 (pairs_in 1 none none 0 0 0 0 w1)).mono ?_; rintro e w4 ⟨rfl, rfl⟩))
    go_ret
    have hba : ((w1.alloc (.cells #[.slice none 0 0] 22)).alloc (.cells #[.slice none 0 0] 22)).heap[w1.heap.size]? = some (.cells #[.slice none 0 0] 22 (0, 0)) := blk_alloc (heap_alloc_new _ _) _
    have hbb : ((w1.alloc (.cells #[.slice none 0 0] 22)).alloc (.cells #[.slice none 0 0] 22)).heap[w1.heap.size + 1]? = some (.cells #[.slice none 0 0] 22 (0, 0)) := by simpa using heap_alloc_new (w1.alloc (.cells #[.slice none 0 0] 22)) (.cells #[.slice none 0 0] 22)
    have s1 := hb1.size
    refine ⟨[], [], w1.heap.size, w1.heap.size + 1, none, 0, none, 0, rfl, by rw [if_neg he]; exact mp_nil, ⟨hba, hbb, by omega, by omega, World.ownsRow_nil _ _ _ _, World.ownsRow_nil _ _ _ _⟩, below_alloc (below_alloc hb1 _) _⟩
end Go.Proofs.Ytghlellambnkeaa.MergeW
