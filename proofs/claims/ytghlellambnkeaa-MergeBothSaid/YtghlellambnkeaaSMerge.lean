-- By wip/late.py (a program of this session) out of wip/words.
import Derived.Test.YtghlellambnkeaaProg
import Derived.Test.YtghlellambnkeaaWWords
import Derived.Test.YtghlellambnkeaaWLast
import Derived.Test.YtghlellambnkeaaWMore
import Derived.Test.YtghlellambnkeaaPAllx0
import Derived.Test.YtghlellambnkeaaPAllx6
import Derived.Test.YtghlellambnkeaaPAllx7
import Derived.Test.YtghlellambnkeaaPAllx8
import Derived.Test.YtghlellambnkeaaSMergeA
import Derived.Sort.CutIn
import Derived.RangeFuncCalls
import Derived.RangeFuncBox
import Derived.OwnWalkIn
import Derived.Maps.AppendAt
import Derived.BigRegion
import Derived.RegionTactic
import Derived.Test.YtghlellambnkeaaSItemcmp
set_option linter.unusedVariables false
set_option linter.unusedSimpArgs false
namespace Go.Proofs.Ytghlellambnkeaa.MergeW
open Go.RowKit Go.Shelf Go.Proofs.YtghlellambnkeaaW.PrintWords Go.Proofs.Ytghlellambnkeaa.PAll Go.Proofs.Ytghlellambnkeaa.Pure
attribute [local go_sem] Oper.semAt_some
/-- Is an entry newer than another one? -/
def newK (x y : S44) : Bool := decide (cmpv x.f1.f0 x.f1.f1 y.f1.f0 y.f1.f1 > 0)
theorem newer_f (x y : S44) : Ev (fun k => item_Newer.f k x.f0 x.f1.f0 x.f1.f1 x.f2 x.f3 y.f0 y.f1.f0 y.f1.f1 y.f2 y.f3) (newK x y) := by
  refine Ev.congr (fun k => by rw [item_Newer.f]) (Ev.bind (cmpv_f _ _ _ _) ?_)
  exact Ev.const rfl
theorem newer_calls (n : Nat) (x y : S44) (w : World) : CallsIn Fence.wide n Try.prog 46 #[av x, av y] w fun e w' => e = .returned (.bool (newK x y)) ∧ Below w.heap.size w w' := by
  obtain ⟨k, hk⟩ := (newer_f x y).rounds
  exact callsIn_wide.2 (item_Newer.calls k _ _ _ _ _ _ _ _ _ _ _ w hk)
theorem check_calls (n k : Nat) (A A' : Option Addr) (c c' : Nat) (la lb : List S44) (r : Int) (w : World) (hr : Kd.C k44 w A la.length la) (hc : la.length ≤ c) (hr' : Kd.C k44 w A' lb.length lb) (hc' : lb.length ≤ c') (h : merge_check.f k la lb = some r) :
    CallsIn Fence.wide n Try.prog 41 #[.slice A la.length c, .slice A' lb.length c'] w fun e w' => e = .returned (.int .i64 r) ∧ Below w.heap.size w w' :=
  callsIn_wide.2 (merge_check.calls k A c la A' c' lb r w hr hc hr' hc' h)
/-! Above. -/
def aboveB (l : List (S44 × S44)) : Bool := l.all (fun t => !newK t.2 t.1)
theorem aboveB_snoc (l : List (S44 × S44)) (x : S44 × S44) : aboveB (l ++ [x]) = (aboveB l && !newK x.2 x.1) := by simp [aboveB]
theorem aboveB_pre {l m : List (S44 × S44)} (h : l <+: m) (hl : aboveB l = false) : aboveB m = false := by
  obtain ⟨r, rfl⟩ := h
  unfold aboveB at *
  rw [List.all_append, hl]; rfl
theorem keeps_below {B : Nat} {W W' : World} (h : Below W.heap.size W W') : KeepsFrom B W W' := ⟨h.size, fun k o _ hk _ => (h.block k (Array.getElem?_eq_some_iff.1 hk).1).trans hk⟩
/-- Both results stand in cells. -/
theorem two_cells {W1 : World} {s t0 t1 : Nat} {v0 v1 : Value} (g4 : W1.heap[s]? = some (.cells #[v0] t0 (0, 0))) (g5 : W1.heap[s + 1]? = some (.cells #[v1] t1 (0, 0))) (x y : Value) :
    ((W1.setCell ⟨s, 0, none⟩ x).setCell ⟨s + 1, 0, none⟩ y).heap[s]? = some (.cells #[x] t0 (0, 0)) ∧ ((W1.setCell ⟨s, 0, none⟩ x).setCell ⟨s + 1, 0, none⟩ y).heap[s + 1]? = some (.cells #[y] t1 (0, 0)) :=
  ⟨(Below.heap_setCell _ _ _ _ (by simp)).trans (blk_put g4 0 _ rfl), blk_put ((Below.heap_setCell _ _ _ _ (by simp)).trans g5) 0 _ rfl⟩
theorem two_keeps (W : World) (s B : Nat) (x y : Value) : KeepsFrom B W ((W.setCell ⟨s, 0, none⟩ x).setCell ⟨s + 1, 0, none⟩ y) := ((KeepsOthers.setCell W ⟨s, 0, none⟩ x).trans (KeepsOthers.setCell _ ⟨s + 1, 0, none⟩ y)).from B
/-! Lacks, Differ, Max: lists that are made. -/
theorem there_calls (n : Nat) (x : S44) (w : World) : CallsIn Fence.wide n Try.prog 44 #[av x] w fun e w' => e = .returned (.bool (!(x.f1.f0 == 0) || !(x.f1.f1 == 0))) ∧ Below w.heap.size w w' :=
  callsIn_wide.2 (merge_there.calls _ _ _ _ _ _ w rfl)
def thereB (x : S44) : Bool := !(x.f1.f0 == 0) || !(x.f1.f1 == 0)
theorem there_callsB (n : Nat) (x : S44) (b : Bool) (h : thereB x = b) (w : World) : CallsIn Fence.wide n Try.prog 44 #[av x] w fun e w' => e = .returned (.bool b) ∧ Below w.heap.size w w' := by subst h; exact there_calls n x w
theorem newer_callsB (n : Nat) (x y : S44) (b : Bool) (h : newK x y = b) (w : World) : CallsIn Fence.wide n Try.prog 46 #[av x, av y] w fun e w' => e = .returned (.bool b) ∧ Below w.heap.size w w' := by subst h; exact newer_calls n x y w
def cellsE (x : S44) : List Value := [.string x.f0, .int .i64 x.f1.f0, .int .i64 x.f1.f1, .string x.f2, .bool x.f3]
def rowE (l : List S44) : List Value := l.flatMap cellsE
theorem rowE_snoc (l : List S44) (x : S44) : rowE (l ++ [x]) = rowE l ++ cellsE x := by simp [rowE]
theorem reps_rowE {R : S44 → List Value → Prop} (hR : ∀ x, R x (cellsE x)) (l : List S44) : Reps R 5 l (rowE l) := by
  have g : ∀ (m acc : List S44), Reps R 5 acc (rowE acc) → Reps R 5 (acc ++ m) (rowE (acc ++ m)) := by
    intro m
    induction m with
    | nil => intro acc h; simpa using h
    | cons a m ih =>
      intro acc h
      have := ih (acc ++ [a]) (by rw [rowE_snoc]; exact h.snoc (hR a) rfl)
      simpa using this
  simpa using g l [] (Reps.none _ _)
theorem rowR {w : World} {base : Nat} {v : Value} {l : List S44} (h : w.ownsRow base 44 5 v l.length (rowE l)) : Kd.R k44 44 w base (fun _ => True) v l :=
  ⟨fun _ _ => trivial, rowE l, h, reps_rowE (fun x => k44_mkM _ _ _ x) l⟩
def lacksL (l : List (S44 × S44)) : List S44 := l.filterMap (fun t => if (thereB t.1 && newK t.1 t.2) = true then some t.1 else none)
theorem lacksL_hit {l : List (S44 × S44)} {x : S44 × S44} (h : thereB x.1 = true) (h' : newK x.1 x.2 = true) : lacksL (l ++ [x]) = lacksL l ++ [x.1] := by simp [lacksL, h, h']
theorem lacksL_miss {l : List (S44 × S44)} {x : S44 × S44} (h : (thereB x.1 && newK x.1 x.2) = false) : lacksL (l ++ [x]) = lacksL l := by unfold lacksL; rw [List.filterMap_append, List.filterMap_cons, if_neg (by rw [h]; simp)]; simp
theorem lacksL_len (l : List (S44 × S44)) : (lacksL l).length ≤ l.length := List.length_filterMap_le _ _
theorem five_new (w : World) (x : S44) : ∀ j u, (cellsE x)[j]? = some u → (w.alloc (.cells (ac x) 44)).cell? ((⟨w.heap.size, 0, none⟩ : Addr).add j) = some u := by
  intro j u h
  have g := heap_alloc_new w (.cells (ac x) 44)
  have e : ((⟨w.heap.size, 0, none⟩ : Addr).add j) = ⟨w.heap.size, j, none⟩ := by simp [Addr.add]; exact fun h => h.symm
  rw [e]
  match j, h with
  | 0, h => cases h; exact (blk_cell g 0).trans rfl
  | 1, h => cases h; exact (blk_cell g 1).trans rfl
  | 2, h => cases h; exact (blk_cell g 2).trans rfl
  | 3, h => cases h; exact (blk_cell g 3).trans rfl
  | 4, h => cases h; exact (blk_cell g 4).trans rfl
  | j + 5, h => simp [cellsE] at h
theorem infoE : (Try.prog.info? 44).map (fun i => (i.zero, i.size, i.bytes)) = some (some (.agg #[(.string ⟨#[]⟩), (.int .i64 0), (.int .i64 0), (.string ⟨#[]⟩), (.bool false)]), 5, 56) := by kernel_rfl
theorem infoS : (Try.prog.info? 9).map (fun i => (i.zero, i.size, i.bytes)) = some (some (.string ⟨#[]⟩), 1, 16) := by kernel_rfl
theorem repsS {w : World} {base : Nat} {ok : Nat → Prop} (l : List ByteArray) : Reps (Kd.string.M w base ok) 1 l (l.map Value.string) := by
  have g : ∀ (m acc : List ByteArray), Reps (Kd.string.M w base ok) 1 acc (acc.map Value.string) → Reps (Kd.string.M w base ok) 1 (acc ++ m) ((acc ++ m).map Value.string) := by
    intro m
    induction m with
    | nil => intro acc h; simpa using h
    | cons a m ih =>
      intro acc h
      have := ih (acc ++ [a]) (by rw [List.map_append]; exact h.snoc (c := [.string a]) rfl rfl)
      simpa using this
  simpa using g l [] (Reps.none _ _)
theorem rowRS {w : World} {base : Nat} {v : Value} {l : List ByteArray} (h : w.ownsRow base 9 1 v l.length (l.map Value.string)) : Kd.R Kd.string 9 w base (fun _ => True) v l :=
  ⟨fun _ _ => trivial, l.map Value.string, h, repsS l⟩
def verB (x y : S44) : Bool := x.f1.f0 == y.f1.f0 && x.f1.f1 == y.f1.f1
def keyD (t : S44 × S44) : ByteArray := if thereB t.1 = true then t.1.f0 else t.2.f0
def differL (l : List (S44 × S44)) : List ByteArray := l.filterMap (fun t => if verB t.1 t.2 = true then none else some (keyD t))
theorem differL_hit {l : List (S44 × S44)} {x : S44 × S44} (h : verB x.1 x.2 = false) : differL (l ++ [x]) = differL l ++ [keyD x] := by simp [differL, h]
theorem differL_miss {l : List (S44 × S44)} {x : S44 × S44} (h : verB x.1 x.2 = true) : differL (l ++ [x]) = differL l := by simp [differL, h]
theorem differL_len (l : List (S44 × S44)) : (differL l).length ≤ l.length := List.length_filterMap_le _ _
theorem row_st {W : World} {base e size n : Nat} {v : Value} {xs : List Value} {b : Nat} (x : S44) (h : W.ownsRow base e size v n xs) (hne : some b ≠ v.ownBlock) : (st W b x).ownsRow base e size v n xs :=
  own_setCell (own_setCell (own_setCell (own_setCell (own_setCell h (p := ⟨b, 0, none⟩) hne _) (p := ⟨b, 1, none⟩) hne _) (p := ⟨b, 2, none⟩) hne _) (p := ⟨b, 3, none⟩) hne _) (p := ⟨b, 4, none⟩) hne _
theorem st_keeps (W : World) (b B : Nat) (x : S44) : KeepsFrom B W (st W b x) :=
  (((((KeepsOthers.setCell W ⟨b, 0, none⟩ _).trans (KeepsOthers.setCell _ ⟨b, 1, none⟩ _)).trans (KeepsOthers.setCell _ ⟨b, 2, none⟩ _)).trans (KeepsOthers.setCell _ ⟨b, 3, none⟩ _)).trans (KeepsOthers.setCell _ ⟨b, 4, none⟩ _)).from B
end Go.Proofs.Ytghlellambnkeaa.MergeW
