-- By wip/late.py (a program of this session) out of wip/words.
import Derived.Test.YtghlellambnkeaaProg
import Derived.Test.YtghlellambnkeaaWWords
import Derived.Test.YtghlellambnkeaaWLast
import Derived.Test.YtghlellambnkeaaWMore
import Derived.Test.YtghlellambnkeaaPAllx0
import Derived.Test.YtghlellambnkeaaPAllx3
set_option linter.unusedVariables false
namespace Go.Proofs.Ytghlellambnkeaa.PAll
open Go.RowKit Go.Proofs.YtghlellambnkeaaW.PrintWords
/-- A list of lists that was just made. -/
theorem listsC {W : World} (ll : List (List S44)) (vs : List Value) (h : ∀ (j : Nat) (l : List S44), ll[j]? = some l → ∃ (A : Option Addr) (c : Nat), vs[j]? = some (Value.slice A l.length c) ∧ l.length ≤ c ∧ Kd.C k44 W A l.length l) (hmax : ll.length ≤ 9223372036854775807) :
    Kd.C (Kd.slice 44 k44) (W.alloc (.cells vs.toArray 22)) (some ⟨W.heap.size, 0, none⟩) ll.length ll := by
  refine ⟨rfl, hmax, fun _ => ⟨_, rfl, fun j p hj => ?_⟩⟩
  obtain ⟨A, c, h1, h2, h3⟩ := h j p hj
  refine ⟨[Value.slice A p.length c], rfl, ⟨A, c, rfl, h2, Kd.C_alloc h3 _⟩, ?_⟩
  intro i u hu
  cases i with
  | succ i => simp at hu
  | zero =>
    simp only [List.getElem?_cons_zero, Option.some.injEq] at hu
    subst hu
    rw [show (Kd.slice 44 k44).sz = 1 from rfl, Nat.mul_one, Nat.add_zero, add_plain]
    rw [blk_cell (heap_alloc_new W (.cells vs.toArray 22)) j]
    simpa using h1
theorem tidelinelaw09_beyond1.callsL (k : Nat) (A0 : Option Addr) (c0 : Nat) (l0 : List S44) (r : Bool) (W : World) (hr0 : Kd.C k44 W A0 l0.length l0) (hc0 : l0.length ≤ c0) (h : tidelinelaw09_beyond.f k [l0] = some r) :
    Calls Try.prog 12 #[.slice (some ⟨W.heap.size, 0, none⟩) 1 1] (W.alloc (.cells #[.slice A0 l0.length c0] 22)) fun e w' => e = .returned (.bool r) ∧ Below (W.alloc (.cells #[.slice A0 l0.length c0] 22)).heap.size (W.alloc (.cells #[.slice A0 l0.length c0] 22)) w' := by
  refine tidelinelaw09_beyond.calls k _ 1 [l0] r _ (listsC [l0] [Value.slice A0 l0.length c0] (fun j l hj => ?_) (by simp)) (by simp) h
  match j, hj with
  | 0, hj => cases hj; exact ⟨_, _, rfl, hc0, hr0⟩
theorem tidelinelaw09_beyond2.callsL (k : Nat) (A0 : Option Addr) (c0 : Nat) (l0 : List S44) (A1 : Option Addr) (c1 : Nat) (l1 : List S44) (r : Bool) (W : World) (hr0 : Kd.C k44 W A0 l0.length l0) (hc0 : l0.length ≤ c0) (hr1 : Kd.C k44 W A1 l1.length l1) (hc1 : l1.length ≤ c1) (h : tidelinelaw09_beyond.f k [l0, l1] = some r) :
    Calls Try.prog 12 #[.slice (some ⟨W.heap.size, 0, none⟩) 2 2] (W.alloc (.cells #[.slice A0 l0.length c0, .slice A1 l1.length c1] 22)) fun e w' => e = .returned (.bool r) ∧ Below (W.alloc (.cells #[.slice A0 l0.length c0, .slice A1 l1.length c1] 22)).heap.size (W.alloc (.cells #[.slice A0 l0.length c0, .slice A1 l1.length c1] 22)) w' := by
  refine tidelinelaw09_beyond.calls k _ 2 [l0, l1] r _ (listsC [l0, l1] [Value.slice A0 l0.length c0, .slice A1 l1.length c1] (fun j l hj => ?_) (by simp)) (by simp) h
  match j, hj with
  | 0, hj => cases hj; exact ⟨_, _, rfl, hc0, hr0⟩
  | 1, hj => cases hj; exact ⟨_, _, rfl, hc1, hr1⟩
theorem tidelinelaw09_beyond3.callsL (k : Nat) (A0 : Option Addr) (c0 : Nat) (l0 : List S44) (A1 : Option Addr) (c1 : Nat) (l1 : List S44) (A2 : Option Addr) (c2 : Nat) (l2 : List S44) (r : Bool) (W : World) (hr0 : Kd.C k44 W A0 l0.length l0) (hc0 : l0.length ≤ c0) (hr1 : Kd.C k44 W A1 l1.length l1) (hc1 : l1.length ≤ c1) (hr2 : Kd.C k44 W A2 l2.length l2) (hc2 : l2.length ≤ c2) (h : tidelinelaw09_beyond.f k [l0, l1, l2] = some r) :
    Calls Try.prog 12 #[.slice (some ⟨W.heap.size, 0, none⟩) 3 3] (W.alloc (.cells #[.slice A0 l0.length c0, .slice A1 l1.length c1, .slice A2 l2.length c2] 22)) fun e w' => e = .returned (.bool r) ∧ Below (W.alloc (.cells #[.slice A0 l0.length c0, .slice A1 l1.length c1, .slice A2 l2.length c2] 22)).heap.size (W.alloc (.cells #[.slice A0 l0.length c0, .slice A1 l1.length c1, .slice A2 l2.length c2] 22)) w' := by
  refine tidelinelaw09_beyond.calls k _ 3 [l0, l1, l2] r _ (listsC [l0, l1, l2] [Value.slice A0 l0.length c0, .slice A1 l1.length c1, .slice A2 l2.length c2] (fun j l hj => ?_) (by simp)) (by simp) h
  match j, hj with
  | 0, hj => cases hj; exact ⟨_, _, rfl, hc0, hr0⟩
  | 1, hj => cases hj; exact ⟨_, _, rfl, hc1, hr1⟩
  | 2, hj => cases hj; exact ⟨_, _, rfl, hc2, hr2⟩
end Go.Proofs.Ytghlellambnkeaa.PAll
