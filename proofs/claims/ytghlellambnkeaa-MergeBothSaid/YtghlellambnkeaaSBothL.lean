-- By wip/late.py (a program of this session) out of wip/words.
import Derived.Test.YtghlellambnkeaaProg
import Derived.Test.YtghlellambnkeaaWWords
import Derived.Test.YtghlellambnkeaaWLast
import Derived.Test.YtghlellambnkeaaWMore
import Derived.Test.YtghlellambnkeaaPAllx0
import Derived.Test.YtghlellambnkeaaPAllx2
import Derived.Test.YtghlellambnkeaaSMergeA
import Derived.Test.YtghlellambnkeaaSMerge
import Derived.Test.YtghlellambnkeaaSBeyond
import Derived.Test.YtghlellambnkeaaSCopied
import Derived.Test.YtghlellambnkeaaSBoth
import Derived.Sort.CutIn
import Derived.Sort.BigQuietIn
import Derived.RangeFuncCalls
import Derived.RangeFuncBox
import Derived.OwnWalkIn
import Derived.Maps.AppendAt
import Derived.BigRegion
import Derived.RegionTactic
import Derived.BigQuiet
import Derived.Deep.QuietTactic
import Derived.Lib.Hide
import Derived.LoopNIn
set_option linter.unusedVariables false
set_option linter.unusedSimpArgs false
namespace Go.Proofs.Ytghlellambnkeaa.MergeW
open Go.RowKit Go.Shelf Go.Proofs.YtghlellambnkeaaW.PrintWords Go.Proofs.Ytghlellambnkeaa.PAll Go.Proofs.Ytghlellambnkeaa.Pure
attribute [local go_sem] Oper.semAt_some
/-! The two rounds of the law MergeBoth: each ranges over the pairs, the first may be left early. -/
theorem wpIn_loop_count {F : Fence} {n : Nat} {P : Program} {Q : Exit → Act → World → Prop} {a : Act} {w : World} {c : Code} (I : Nat → Act → World → Prop) (m : Nat) (h0 : I 0 a w)
    (hr : ∀ t a w, I t a w → c.wpIn F n P (Exit.then (fun a' w' => t < m ∧ I (t + 1) a' w') Q) a w) : (Code.loop c).wpIn F n P Q a w := by
  refine wpIn_loop_rounds (m + 1) ?_
  have key : ∀ j t a w, I t a w → t + j = m → Code.roundsIn F n P c Q (j + 1) a w := by
    intro j
    induction j with
    | zero =>
      intro t a w h e
      refine wpIn_mono (hr t a w h) ?_
      intro e' a' w' hq
      cases e' with
      | normal => obtain ⟨h1, _⟩ := hq; omega
      | _ => exact hq
    | succ j ih =>
      intro t a w h e
      refine wpIn_mono (hr t a w h) ?_
      intro e' a' w' hq
      cases e' with
      | normal => exact ih (t + 1) a' w' hq.2 (by omega)
      | _ => exact hq
  exact key m 0 a w h0 (by omega)
/-! A quiet region in a round of a range over a function: no operation is a defer. -/
def noDefer (ops : Array Oper) : Bool := ops.all fun o => match o.op with | .defer _ => false | _ => true
theorem noDefer_spec {ops : Array Oper} (h : noDefer ops = true) {j : Nat} {o : Oper} (hj : ops[j]? = some o) : ∀ c, o.op ≠ .defer c := by
  intro c hc
  obtain ⟨hlt, rfl⟩ := Array.getElem?_eq_some_iff.1 hj
  have := Array.all_eq_true.1 h j hlt
  rw [hc] at this
  cases this
section
variable {F : Fence} {n : Nat} {P : Program} {ops : Array Oper} {md : Region.Mode} {C : World → Prop}
theorem quiet_one {o : Oper} {a : Act} {K : Act → Prop} {K' : Act → World → Prop} {Q' : Exit → Act → World → Prop} {w : World} (hd : ∀ c, o.op ≠ .defer c) (hw : C w) (h : ∀ a w', C w' → K a → K' a w')
    (ha : o.askedIn F P a C) (hh : o.quietIn F n P a C K) : o.wpIn F n P a w K' Q' := by
  obtain ⟨v, h1, h2⟩ := hh
  have h3 := h1 w hw
  unfold Oper.quietAtIn at h3
  unfold Oper.wpIn
  refine ⟨ha w hw, ?_⟩
  rw [Oper.semAt_plain F _ _ hd]
  generalize (execOp a.eval o).run P w = r at *
  cases r with
  | ok x w' =>
    cases x <;> simp only [Oper.quietUponIn] at h3 <;> simp only [Oper.uponIn]
    case value u =>
      obtain ⟨e1, e2⟩ := h3
      rw [e1, e2]
      exact h _ _ hw h2
    case skip =>
      obtain ⟨e1, e2⟩ := h3
      rw [e1, ← e2]
      exact h _ _ hw h2
    case enter f args =>
      obtain ⟨e1, hd, hc⟩ := h3
      rw [e1]
      exact ⟨hd, hc.mono fun e w'' ⟨he, hw''⟩ => by subst he; exact h _ _ hw'' h2⟩
  | halt x w' => simp only [Oper.quietUponIn] at h3
theorem quiet_at {i : Nat} {a : Act} {K : Act → Prop} {K' : Act → World → Prop} {Q' : Exit → Act → World → Prop} {w : World} (hnd : noDefer ops = true) (hC : C w) (h : ∀ a w', C w' → K a → K' a w')
    (hh : qOpIn F n P ops C i K a) : wpOpIn F n P ops Q' i K' a w := by
  unfold qOpIn at hh
  unfold wpOpIn
  split
  · rename_i ho; simp only [ho] at hh; exact h _ _ hC hh
  · rename_i o ho
    simp only [ho] at hh
    obtain ⟨ha, hh⟩ := hh
    split
    · rename_i hw; simp only [hw, if_true] at hh; exact quiet_one (noDefer_spec hnd ho) hC h ha hh
    · rename_i hw; simp only [hw] at hh; exact ⟨ha w hC, h _ _ hC hh⟩
theorem quiet_any {Q : Act → Prop} {Q' : Exit → Act → World → Prop} (hnd : noDefer ops = true) (hQ : ∀ a w, C w → Q a → Q' .normal a w) : ∀ (fuel : Nat) (listed : Array Bool) (a : Act) (w : World), C w →
    wpAnyQIn F n P md ops C Q fuel listed a → wpAnyIn F n P md ops Q' fuel listed a w
  | 0, _, _, _, hw, h => ⟨h.1, hQ _ _ hw h.2⟩
  | fuel + 1, _, _, _, hw, h => ⟨fun h0 => hQ _ _ hw (h.1 h0), fun i hi => quiet_at hnd hw (fun a' w' hw' => quiet_any hnd hQ fuel _ a' w' hw') (h.2 i hi)⟩
theorem quiet_round {id : Nat} {Q : Exit → Act → World → Prop} {a : Act} {w : World} {l : List Oper} (hnd : noDefer l.toArray = true) (hm : P.follows .mixedOrders = true) (hB : Region.lexB .any l.toArray = true)
    (h : wpQuietIn F n P l.toArray (fun w' => ∃ n, w' = w.drewN n) (fun a' => ∀ w', (∃ n, w' = w.drewN n) → Q .normal a' w') l a) : (Code.region id l.toArray true).wpIn F n P Q a w := by
  simp only [Region.lexB, Bool.and_eq_true] at hB
  refine wpIn_region_any hm (quiet_any (C := fun w' => ∃ n, w' = w.drewN n) (Q := fun a' => ∀ w', (∃ n, w' = w.drewN n) → Q .normal a' w') hnd (fun _ w' hw' h => h w' hw') _ _ _ _ ⟨1, rfl⟩ ?_)
  have := wpAnyQIn_lex (F := F) (n := n) (C := fun w' => ∃ n, w' = w.drewN n) (md := .any) hB.1 l 0 (Array.replicate l.length false) a (by simp) (by simpa using hB.2) h
  simpa using this
end
/-- The marks that the ranges leave behind. -/
def marks (Ds : List Nat) : List Deferred := Ds.map fun D => { target := .collected D, args := #[] }
def Marked (B : Nat) (Ds : List Nat) (W : World) : Prop := Ds.Nodup ∧ ∀ D ∈ Ds, B ≤ D ∧ W.heap[D]? = some (.deferred (some []))
theorem leaves_marks {F : Fence} {n : Nat} {P : Program} {fn : Func} {tmps : Array Value} {R : Ending → World → Prop} {B : Nat} : ∀ (Ds : List Nat) (W : World), Marked B Ds W →
    (∀ W', Below B W W' → (∀ a v, W.cell? a = some v → W'.cell? a = some v) → ∃ v, (results fn tmps).run P W' = .ok v W' ∧ R (.returned v) W') → LeavesInM F n P fn tmps R (marks Ds) .returning W := by
  intro Ds
  induction Ds with
  | nil => intro W _ h; exact h W (Below.refl _ _) (fun _ _ h => h)
  | cons D Ds ih =>
    intro W hM h
    have hD := hM.2 D (List.mem_cons_self ..)
    refine ⟨by simp, .inl ⟨D, _, rfl, run_takeDeferred hD.2, ih _ ⟨(List.nodup_cons.1 hM.1).2, fun D' hD' => ?_⟩ (fun W' hb hc => h W' (Below.trans ?_ hb) (fun a v hv => hc a v ?_))⟩⟩
    · have h1 := hM.2 D' (List.mem_cons_of_mem _ hD')
      have hne : D' ≠ D := fun e => (List.nodup_cons.1 hM.1).1 (e ▸ hD')
      exact ⟨h1.1, (World.putObj_heap_other hne).trans h1.2⟩
    · exact (Below.refl B W).grown (grownBy_putObj' W D _) (by have := blk_lt hD.2; omega) (fun k e => by cases e; exact hD.1)
    · exact cell_kept hv (grownBy_putObj' _ D (.deferred none)) (fun r e => by cases e; exact ⟨_, hD.2, rfl⟩)
theorem Marked.keep {B : Nat} {Ds : List Nat} {W W' : World} (h : Marked B Ds W) (hk : KeepsOthers W W') : Marked B Ds W' :=
  ⟨h.1, fun D hD => ⟨(h.2 D hD).1, hk.same D _ (h.2 D hD).2 rfl⟩⟩
def pairT (t : S44 × S44) : S46 := ⟨t.1, t.2⟩
noncomputable def codeSub : List Bool → Code → Code
  | [], c => c
  | false :: p, .seq c _ => codeSub p c
  | true :: p, .seq _ c => codeSub p c
  | _ :: p, .block _ c => codeSub p c
  | _, c => c
/-- The loop's code. -/
noncomputable def bothLoop : Code := codeSub [true, true, true, true, true, true, true, true, true, false, true, true] (Try.f5.body.getD .skip)
theorem eqT (x : S44) (d : Nat) (w : World) : (Op.equalIn (d + 3) 44 (av x) (av x)).run Try.prog w = .ok true w := by
  rw [eqA44]
  congr 1
  simp
theorem eqN {x y : S44} (h : x ≠ y) (d : Nat) (w : World) : (Op.equalIn (d + 3) 44 (av x) (av y)).run Try.prog w = .ok false w := by
  rw [eqA44]
  congr 1
  rw [Bool.eq_false_iff]
  intro e
  apply h
  obtain ⟨⟨⟨a0⟩⟩, ⟨a1, a2⟩, ⟨⟨a3⟩⟩, a4⟩ := x
  obtain ⟨⟨⟨b0⟩⟩, ⟨b1, b2⟩, ⟨⟨b3⟩⟩, b4⟩ := y
  simpa [Bool.and_eq_true, beq_iff_eq, and_assoc] using e
theorem rd_want {la lb : List S44} {want : List S46} (hwant : want = (mp la lb).map pairT) {n : Nat} (hn : n < (mp la lb).length) : rd_T46 want (n : Int) = pairT ((mp la lb)[n]) := by
  subst hwant
  unfold rd_T46
  rw [Int.toNat_natCast, List.getD_eq_getElem?_getD, List.getElem?_map, List.getElem?_eq_getElem hn]
  rfl
theorem prefix_snoc {α : Type} {pre l : List α} (h : pre <+: l) (hn : pre.length < l.length) : pre ++ [l[pre.length]] <+: l := by
  obtain ⟨r, rfl⟩ := h
  cases r with
  | nil => simp at hn
  | cons a r =>
    refine ⟨r, ?_⟩
    rw [List.getElem_append_right (Nat.le_refl _)]
    simp
theorem prefix_get {α : Type} {pre l : List α} {x : α} (h : pre ++ [x] <+: l) (hn : pre.length < l.length) : l[pre.length] = x := by
  obtain ⟨r, rfl⟩ := h
  rw [List.getElem_append_left (by simp), List.getElem_append_right (Nat.le_refl _)]
  simp
set_option maxRecDepth 100000 in
set_option maxHeartbeats 8000000 in
theorem both_loop (Q : Exit → Act → World → Prop) (Wl : World) (la lb : List S44) (A1 A2 : Option Addr) (c1 c2 Ba Bb : Nat) (stop : Int) (gs gr gw : Nat) (want : List S46) (Aw : Option Addr) (cw : Nat) {v0 v1 v2 v3 v4 v7 v8 v13 v14 v15 v16 v17 v18 v19 v20 v21 v22 v23 v24 v25 v26 v27 v28 v29 v30 v31 v32 v33 v34 v35 v36 v37 v38 v39 v40 v41 v42 v43 v44 v45 v46 v52 v53 v54 v55 v56 v57 v58 v59 v60 v61 v62 v63 v64 v65 v66 v67 v68 v69 v70 v71 v72 v73 v74 v75 v76 v77 v78 v79 v80 v81 v82 v83 v84 u12 u47 u48 u49 u50 u51 u85 u86 u87 u88 u89 u90 u91 u92 u93 u94 u95 u96 u97 u98 u99 : Value}
    (hs : Wl.heap[gs]? = some (.cells #[.int .i64 stop] 3 (0, 0))) (hgr : Wl.heap[gr]? = some (.cells #[.bool false] 4 (0, 0))) (hw : Wl.heap[gw]? = some (.cells #[.slice Aw want.length cw] 36 (0, 0))) (hrow : Kd.C k46 Wl Aw want.length want)
    (hA : Row Wl A1 la) (hB : Row Wl A2 lb) (hBa : Wl.heap[Ba]? = some (.cells #[.slice A1 la.length c1] 22 (0, 0))) (hBb : Wl.heap[Bb]? = some (.cells #[.slice A2 lb.length c2] 22 (0, 0)))
    (hwant : want = (mp la lb).map pairT) (hlen : want.length ≤ 5026338869686) (W : World) (hb : Below Wl.heap.size Wl W) (b11 : Nat) (h11 : W.heap[b11]? = some (.cells #[.int .i64 0] 3 (0, 0))) (hge : Wl.heap.size ≤ b11)
    (hQ : ∀ (Ds : List Nat) (b11 : Nat) (u12 u47 u48 u49 u50 u51 u85 u86 u87 u88 u89 u90 u91 u92 u93 u94 u95 u96 u97 u98 u99 : Value) (W' : World), Marked Wl.heap.size Ds W' → Below Wl.heap.size Wl W' → Q (.exit 0) { tmps := #[v0, v1, v2, v3, v4, .pointer (some ⟨gs, 0, none⟩), .pointer (some ⟨gr, 0, none⟩), v7, v8, .pointer (some ⟨gw, 0, none⟩), .func (.func 53) #[] #[.pointer (some ⟨Ba, 0, none⟩), .pointer (some ⟨Bb, 0, none⟩)], .pointer (some ⟨b11, 0, none⟩), u12, v13, v14, v15, v16, v17, v18, v19, v20, v21, v22, v23, v24, v25, v26, v27, v28, v29, v30, v31, v32, v33, v34, v35, v36, v37, v38, v39, v40, v41, v42, v43, v44, v45, v46, u47, u48, u49, u50, u51, v52, v53, v54, v55, v56, v57, v58, v59, v60, v61, v62, v63, v64, v65, v66, v67, v68, v69, v70, v71, v72, v73, v74, v75, v76, v77, v78, v79, v80, v81, v82, v83, v84, u85, u86, u87, u88, u89, u90, u91, u92, u93, u94, u95, u96, u97, u98, u99], defers := marks Ds } W') :
    bothLoop.wpIn Fence.wide 6 Try.prog Q { tmps := #[v0, v1, v2, v3, v4, .pointer (some ⟨gs, 0, none⟩), .pointer (some ⟨gr, 0, none⟩), v7, v8, .pointer (some ⟨gw, 0, none⟩), .func (.func 53) #[] #[.pointer (some ⟨Ba, 0, none⟩), .pointer (some ⟨Bb, 0, none⟩)], .pointer (some ⟨b11, 0, none⟩), u12, v13, v14, v15, v16, v17, v18, v19, v20, v21, v22, v23, v24, v25, v26, v27, v28, v29, v30, v31, v32, v33, v34, v35, v36, v37, v38, v39, v40, v41, v42, v43, v44, v45, v46, u47, u48, u49, u50, u51, v52, v53, v54, v55, v56, v57, v58, v59, v60, v61, v62, v63, v64, v65, v66, v67, v68, v69, v70, v71, v72, v73, v74, v75, v76, v77, v78, v79, v80, v81, v82, v83, v84, u85, u86, u87, u88, u89, u90, u91, u92, u93, u94, u95, u96, u97, u98, u99], defers := [] } W := by
  have hlw : want.length = (mp la lb).length := by rw [hwant, List.length_map]
  have HLW := Aside0.mk hlw
  have AW := Aside0.mk hwant
  clear hlw hwant
  simp only [bothLoop, codeSub, Try.f5, Option.getD_some]
  refine wpIn_loop_count (fun t a W => ∃ (b11 : Nat) (Ds : List Nat) (u12 u47 u48 u49 u50 u51 u85 u86 u87 u88 u89 u90 u91 u92 u93 u94 u95 u96 u97 u98 u99 : Value), a = { tmps := #[v0, v1, v2, v3, v4, .pointer (some ⟨gs, 0, none⟩), .pointer (some ⟨gr, 0, none⟩), v7, v8, .pointer (some ⟨gw, 0, none⟩), .func (.func 53) #[] #[.pointer (some ⟨Ba, 0, none⟩), .pointer (some ⟨Bb, 0, none⟩)], .pointer (some ⟨b11, 0, none⟩), u12, v13, v14, v15, v16, v17, v18, v19, v20, v21, v22, v23, v24, v25, v26, v27, v28, v29, v30, v31, v32, v33, v34, v35, v36, v37, v38, v39, v40, v41, v42, v43, v44, v45, v46, u47, u48, u49, u50, u51, v52, v53, v54, v55, v56, v57, v58, v59, v60, v61, v62, v63, v64, v65, v66, v67, v68, v69, v70, v71, v72, v73, v74, v75, v76, v77, v78, v79, v80, v81, v82, v83, v84, u85, u86, u87, u88, u89, u90, u91, u92, u93, u94, u95, u96, u97, u98, u99], defers := marks Ds } ∧ t ≤ 2 ∧ W.heap[b11]? = some (.cells #[.int .i64 (t : Int)] 3 (0, 0)) ∧ Wl.heap.size ≤ b11 ∧ Below Wl.heap.size Wl W ∧ Marked Wl.heap.size Ds W) 2 ?start ?round
  case start => exact ⟨b11, [], u12, u47, u48, u49, u50, u51, u85, u86, u87, u88, u89, u90, u91, u92, u93, u94, u95, u96, u97, u98, u99, rfl, by omega, h11, hge, hb, List.nodup_nil, fun D hD => by cases hD⟩
  case round =>
    have hmx : Try.prog.follows .mixedOrders = true := by kernel_rfl
    clear h11 hge hb b11 W
    rintro t a W ⟨b11, Ds, u12, u47, u48, u49, u50, u51, u85, u86, u87, u88, u89, u90, u91, u92, u93, u94, u95, u96, u97, u98, u99, rfl, ht, h11, hge, hb, hM⟩
    have x11 : W.cell? ⟨b11, 0, none⟩ = some (.int .i64 (t : Int)) := (blk_cell h11 0).trans rfl
    by_cases h2 : t = 2
    · have c48 : decide ((t : Int) < 2) = false := decide_eq_false (by omega)
      gi_wp2
      exact hQ Ds b11 _ _ _ _ _ _ _ _ _ _ _ _ _ _ _ _ _ _ _ _ _ W hM hb
    · have c48 : decide ((t : Int) < 2) = true := decide_eq_true (by omega)
      have xs : Wl.cell? ⟨gs, 0, none⟩ = some (.int .i64 stop) := (blk_cell hs 0).trans rfl
      have h11l := blk_lt h11
      gi_wp2
      have g12 : (W.alloc (.cells #[.int .i64 0] 3)).heap[W.heap.size]? = some (.cells #[.int .i64 0] 3 (0, 0)) := heap_alloc_new _ _
      have g11 : (W.alloc (.cells #[.int .i64 0] 3)).heap[b11]? = some (.cells #[.int .i64 (t : Int)] 3 (0, 0)) := blk_alloc h11 _
      have gb : Below Wl.heap.size Wl (W.alloc (.cells #[.int .i64 0] 3)) := below_alloc hb _
      have gM : Marked Wl.heap.size Ds (W.alloc (.cells #[.int .i64 0] 3)) := hM.keep (KeepsOthers.alloc _ _)
      have gz : (W.alloc (.cells #[.int .i64 0] 3)).heap.size = W.heap.size + 1 := by simp
      generalize hW1 : W.alloc (.cells #[.int .i64 0] 3) = W1 at g12 g11 gb gM gz ⊢
      have hbz := hb.size
      clear hW1 x11 h11 hb hM
      generalize W.heap.size = b12 at g12 gz h11l hbz ⊢
      clear W
      have lBa := blk_lt hBa
      have lBb := blk_lt hBb
      refine wpIn_rangeFunc_ownH (F := Fence.wide) rfl (by omega) (gf := 53) (lb := #[.pointer (some ⟨Ba, 0, none⟩), .pointer (some ⟨Bb, 0, none⟩)]) rfl trivial (enters_of Try.func53 (by kernel_rfl) rfl)
        (pairs_stops _ (by omega) Ba Bb Wl W1 A1 A2 c1 c2 la lb hA hB gb (blk_below hBa gb) (blk_below hBb gb)) (fun h k => Kp.t h k) (Kp.b gb.size (by omega) (by omega)) (Below.refl _ _) (fun _ => rfl)
        (fun pre W => (pre <+: mp la lb ∧ W.heap[b11]? = some (.cells #[.int .i64 (t : Int)] 3 (0, 0)) ∧ W.heap[b12]? = some (.cells #[.int .i64 (pre.length : Int)] 3 (0, 0)) ∧ (∀ D ∈ Ds, W.heap[D]? = some (.deferred (some [])))) ∧ Below Wl.heap.size Wl W)
        (fun c' pre W => (c' = .ret ∧ ¬ pre <+: mp la lb) ∨ (c' = .exit 2 ∧ ((t : Int) = 0 ∧ (pre.length : Int) = stop ∧ pre.length ≤ (mp la lb).length) ∧ W.heap[b11]? = some (.cells #[.int .i64 (t : Int)] 3 (0, 0)) ∧ W.heap[b12]? = some (.cells #[.int .i64 (pre.length : Int)] 3 (0, 0)) ∧ (∀ D ∈ Ds, W.heap[D]? = some (.deferred (some []))) ∧ Below Wl.heap.size Wl W))
        (OwnFrom.and ?own1 (ownFrom_below (Nat.le_refl _) gb.size))
        (fun _ => ?own2)
        ⟨⟨List.nil_prefix, g11, g12, fun D hD => (gM.2 D hD).2⟩, gb⟩
        (fun x a' W => ∃ ga gb : Nat, a' = { tmps := #[v0, v1, v2, v3, v4, .pointer (some ⟨gs, 0, none⟩), .pointer (some ⟨gr, 0, none⟩), v7, v8, .pointer (some ⟨gw, 0, none⟩), .func (.func 53) #[] #[.pointer (some ⟨Ba, 0, none⟩), .pointer (some ⟨Bb, 0, none⟩)], .pointer (some ⟨b11, 0, none⟩), .pointer (some ⟨b12, 0, none⟩), .pointer (some ⟨ga, 0, none⟩), .pointer (some ⟨gb, 0, none⟩), v15, v16, v17, v18, v19, v20, v21, v22, v23, v24, v25, v26, v27, v28, v29, v30, v31, v32, v33, v34, v35, v36, v37, v38, v39, v40, v41, v42, v43, v44, v45, v46, .int .i64 (t : Int), .bool true, u49, u50, .func (.func 53) #[] #[.pointer (some ⟨Ba, 0, none⟩), .pointer (some ⟨Bb, 0, none⟩)], av x.1, av x.2, v54, v55, v56, v57, v58, v59, v60, v61, v62, v63, v64, v65, v66, v67, v68, v69, v70, v71, v72, v73, v74, v75, v76, v77, v78, v79, v80, v81, v82, v83, v84, u85, u86, u87, u88, u89, u90, u91, u92, u93, u94, u95, u96, u97, u98, u99], defers := [] } ∧
          W.heap[ga]? = some (.cells (ac x.1) 44 (0, 0)) ∧ W.heap[gb]? = some (.cells (ac x.2) 44 (0, 0)) ∧ b12 < ga ∧ b12 < gb)
        (fun x a' => Own.from (fun s X Y row hs hg hr => by obtain ⟨ga, gb, h1, h2, h3, h4⟩ := hs; exact ⟨ga, gb, h1, (grownBy_keeps_cells hg hr h2 rfl).trans h2, (grownBy_keeps_cells hg hr h3 rfl).trans h3, h4⟩) _)
        ?assign ?body ?done ?stop
      case own1 =>
        intro s X Y row hs hg hr
        obtain ⟨h1, h2, h3, h4⟩ := hs
        exact ⟨h1, (grownBy_keeps_cells hg (fun r e => (hr r e).2) h2 rfl).trans h2, (grownBy_keeps_cells hg (fun r e => (hr r e).2) h3 rfl).trans h3, fun D hD => (hg.block D (blk_lt (h4 D hD)) (fun e => by have h5 := (hr D e.symm).1; have h6 := blk_lt (gM.2 D hD).2; omega)).trans (h4 D hD)⟩
      case own2 =>
        intro s X Y row hs hg hr
        rcases hs with hs | ⟨h0, h1, h2, h3, h4, h5⟩
        · exact .inl hs
        · exact .inr ⟨h0, h1, (grownBy_keeps_cells hg (fun r e => (hr r e).2) h2 rfl).trans h2, (grownBy_keeps_cells hg (fun r e => (hr r e).2) h3 rfl).trans h3, fun D hD => (hg.block D (blk_lt (h4 D hD)) (fun e => by have h5 := (hr D e.symm).1; have h6 := blk_lt (gM.2 D hD).2; omega)).trans (h4 D hD), ownFrom_below (β := Unit) (Nat.le_refl _) gb.size () X Y row h5 hg hr⟩
      case assign =>
        intro l pre x W K hI hK
        obtain ⟨⟨h1, h2, h3, h4⟩, h6⟩ := hI
        have hl3 := blk_lt h3
        have hl2 := blk_lt h2
        have hl6 := h6.size
        gi_wp2
        refine hK _ _ (((KeepsOthers.alloc _ _).trans (KeepsOthers.alloc _ _)).from _) ⟨((Below.refl Wl.heap.size W).alloc h6.size _).alloc (by simp; omega) _, (Below.heap_alloc _ _ _ (by simp; omega)).trans (Below.heap_alloc _ _ _ (by omega)), (Below.heap_alloc _ _ _ (by simp; omega)).trans (Below.heap_alloc _ _ _ (by omega))⟩
          ⟨⟨h1, blk_alloc (blk_alloc h2 _) _, blk_alloc (blk_alloc h3 _) _, fun D hD => ((KeepsOthers.alloc _ _).trans (KeepsOthers.alloc _ _)).same D _ (h4 D hD) rfl⟩, below_alloc (below_alloc h6 _) _⟩ ⟨W.heap.size, W.heap.size + 1, rfl, blk_alloc (heap_alloc_new _ _) _, by have := heap_alloc_new (W.alloc (.cells (ac x.1) 44)) (.cells (ac x.2) 44); simpa using this, by omega, by omega⟩
      case body =>
        rintro l pre x a' W hl hr ⟨⟨h1, h2, h3, h4⟩, h6⟩ ⟨ga, gb', rfl, h7, h8, n1, n2⟩ hN
        have x0 : W.cell? ⟨ga, 0, none⟩ = some (.string x.1.f0) := (blk_cell h7 0).trans rfl
        have x1 : W.cell? ⟨ga, 1, none⟩ = some (.int .i64 x.1.f1.f0) := (blk_cell h7 1).trans rfl
        have x2 : W.cell? ⟨ga, 2, none⟩ = some (.int .i64 x.1.f1.f1) := (blk_cell h7 2).trans rfl
        have x3 : W.cell? ⟨ga, 3, none⟩ = some (.string x.1.f2) := (blk_cell h7 3).trans rfl
        have x4 : W.cell? ⟨ga, 4, none⟩ = some (.bool x.1.f3) := (blk_cell h7 4).trans rfl
        have y0 : W.cell? ⟨gb', 0, none⟩ = some (.string x.2.f0) := (blk_cell h8 0).trans rfl
        have y1 : W.cell? ⟨gb', 1, none⟩ = some (.int .i64 x.2.f1.f0) := (blk_cell h8 1).trans rfl
        have y2 : W.cell? ⟨gb', 2, none⟩ = some (.int .i64 x.2.f1.f1) := (blk_cell h8 2).trans rfl
        have y3 : W.cell? ⟨gb', 3, none⟩ = some (.string x.2.f2) := (blk_cell h8 3).trans rfl
        have y4 : W.cell? ⟨gb', 4, none⟩ = some (.bool x.2.f3) := (blk_cell h8 4).trans rfl
        have z11 : W.cell? ⟨b11, 0, none⟩ = some (.int .i64 (t : Int)) := (blk_cell h2 0).trans rfl
        have z12 : W.cell? ⟨b12, 0, none⟩ = some (.int .i64 (pre.length : Int)) := (blk_cell h3 0).trans rfl
        have f12 := blk_frozen h3 0
        have zw : W.cell? ⟨gw, 0, none⟩ = some (.slice Aw want.length cw) := (blk_cell (blk_below hw h6) 0).trans rfl
        have zr : W.cell? ⟨gr, 0, none⟩ = some (.bool false) := (blk_cell (blk_below hgr h6) 0).trans rfl
        have fr := blk_frozen (blk_below hgr h6) 0
        have zs : W.cell? ⟨gs, 0, none⟩ = some (.int .i64 stop) := (blk_cell (blk_below hs h6) 0).trans rfl
        have hn : pre.length < want.length := by have := HLW.out; omega
        have cg' : decide (want.length ≤ pre.length) = false := decide_eq_false (by omega)
        obtain ⟨ad, rfl, r0, r1, r2, r3, r4, r5, r6, r7, r8, r9⟩ := at_T46 (Kd.C_below hrow h6) (pre.length : Int) (by omega) (by omega)
        rw [rd_want AW.out hN] at r0 r1 r2 r3 r4 r5 r6 r7 r8 r9
        simp only [pairT, Int.toNat_natCast] at r0 r1 r2 r3 r4 r5 r6 r7 r8 r9
        have cg : decide ((pre.length : Int) ≥ (want.length : Int)) = false := decide_eq_false (by omega)
        have ci : decide (0 ≤ (pre.length : Int)) = true := decide_eq_true (by omega)
        have cj : decide ((pre.length : Int) < (want.length : Int)) = true := decide_eq_true (by omega)
        generalize hq : (mp la lb)[pre.length] = q at r0 r1 r2 r3 r4 r5 r6 r7 r8 r9
        by_cases e1 : x.1 = q.1
        · have d1 : ∀ (d : Nat) (w : World), (Op.equalIn (d + 3) 44 (av x.1) (av q.1)).run Try.prog w = .ok true w := by rw [e1]; exact eqT q.1
          by_cases e2 : x.2 = q.2
          · have d2 : ∀ (d : Nat) (w : World), (Op.equalIn (d + 3) 44 (av x.2) (av q.2)).run Try.prog w = .ok true w := by rw [e2]; exact eqT q.2
            have exq : (mp la lb)[pre.length] = x := by rw [hq]; exact Prod.ext e1.symm e2.symm
            have Hp := Aside0.mk (prefix_snoc h1 hN)
            rw [exq] at Hp
            gi_wp2
            refine quiet_round (by kernel_rfl) hmx (by kernel_rfl) ?_
            iterate 22 (gi_big_quiet_step (fail))
            refine wpQuietIn_nil ?_
            rintro _ ⟨nq, rfl⟩
            have lgs : gs < b12 := by have := blk_lt hs; omega
            have hdr : KeepsOthers W (W.drewN nq) := ⟨Nat.le_refl _, fun _ _ h _ => h⟩
            have hK := hdr.trans (KeepsOthers.setCell (W.drewN nq) ⟨b12, 0, none⟩ (.int .i64 ((pre.length : Int) + 1)))
            have q12 : ((W.drewN nq).setCell ⟨b12, 0, none⟩ (.int .i64 ((pre.length : Int) + 1))).heap[b12]? = some (.cells #[.int .i64 ((pre ++ [x]).length : Int)] 3 (0, 0)) := by
              rw [List.length_append, List.length_singleton, Int.natCast_add, Int.natCast_one]
              exact blk_put (show (W.drewN nq).heap[b12]? = _ from h3) 0 _ rfl
            have q11 : ((W.drewN nq).setCell ⟨b12, 0, none⟩ (.int .i64 ((pre.length : Int) + 1))).heap[b11]? = some (.cells #[.int .i64 (t : Int)] 3 (0, 0)) := (Below.heap_setCell _ _ _ _ (by simp; omega)).trans h2
            have qB : Below Wl.heap.size W ((W.drewN nq).setCell ⟨b12, 0, none⟩ (.int .i64 ((pre.length : Int) + 1))) := (dN_below Wl.heap.size W nq).setCell hbz _
            have qD : ∀ D ∈ Ds, ((W.drewN nq).setCell ⟨b12, 0, none⟩ (.int .i64 ((pre.length : Int) + 1))).heap[D]? = some (.deferred (some [])) := fun D hD => hK.same D _ (h4 D hD) rfl
            have qn : (pre ++ [x]).length = pre.length + 1 := by simp
            have HK := Aside0.mk hK
            have HQ12 := Aside0.mk q12
            have HQ11 := Aside0.mk q11
            have HQB := Aside0.mk qB
            have HQD := Aside0.mk qD
            have HQn := Aside0.mk qn
            clear hK q12 q11 qB qD qn
            by_cases t0 : t = 0
            · have bt : ((t : Int) == 0) = true := by simp [t0]
              by_cases es : (pre.length : Int) + 1 = stop
              · have bs : ((pre.length : Int) + 1 == stop) = true := by simp [es]
                have ES := Aside0.mk es
                clear es
                gi_wp2
                exact ⟨HK.out.from _, .inr ⟨rfl, ⟨by omega, by have h9 := HQn.out; have h8 := ES.out; omega, by have h9 := HQn.out; omega⟩, HQ11.out, HQ12.out, HQD.out, h6.trans HQB.out⟩⟩
              · have bs : ((pre.length : Int) + 1 == stop) = false := by rw [beq_eq_false_iff_ne]; exact es
                gi_wp2
                exact ⟨HK.out.from _, ⟨HQB.out, HQB.out.block Ba lBa, HQB.out.block Bb lBb⟩, ⟨Hp.out, HQ11.out, HQ12.out, HQD.out⟩, h6.trans HQB.out⟩
            · have bt : ((t : Int) == 0) = false := by rw [beq_eq_false_iff_ne]; omega
              gi_wp2
              exact ⟨HK.out.from _, ⟨HQB.out, HQB.out.block Ba lBa, HQB.out.block Bb lBb⟩, ⟨Hp.out, HQ11.out, HQ12.out, HQD.out⟩, h6.trans HQB.out⟩
          · have d2 := eqN e2
            gi_wp2
            refine quiet_round (by kernel_rfl) hmx (by kernel_rfl) ?_
            iterate 22 (gi_big_quiet_step (fail))
            refine wpQuietIn_nil ?_
            rintro _ ⟨nq, rfl⟩
            gi_wp2
            have hdr : KeepsOthers W (W.drewN nq) := ⟨Nat.le_refl _, fun _ _ h _ => h⟩
            exact ⟨(hdr.trans (KeepsOthers.setCell _ _ _)).from _, .inl ⟨rfl, fun hp => e2 (by have := prefix_get hp hN; rw [hq] at this; exact (congrArg Prod.snd this).symm)⟩⟩
        · have d1 := eqN e1
          gi_wp2
          refine quiet_round (by kernel_rfl) hmx (by kernel_rfl) ?_
          iterate 22 (gi_big_quiet_step (fail))
          refine wpQuietIn_nil ?_
          rintro _ ⟨nq, rfl⟩
          gi_wp2
          have hdr : KeepsOthers W (W.drewN nq) := ⟨Nat.le_refl _, fun _ _ h _ => h⟩
          exact ⟨(hdr.trans (KeepsOthers.setCell _ _ _)).from _, .inl ⟨rfl, fun hp => e1 (by have := prefix_get hp hN; rw [hq] at this; exact (congrArg Prod.fst this).symm)⟩⟩
      case done =>
        rintro D ys W hD rfl ⟨⟨h1, h2, h3, h4⟩, h6⟩ hDD
        have hMk : ∀ o, Marked Wl.heap.size (D :: Ds) (W.alloc o) := fun o => ⟨List.nodup_cons.2 ⟨fun hm => by have h9 := blk_lt (gM.2 D hm).2; omega, gM.1⟩, fun D' hD' => by
          rcases List.mem_cons.1 hD' with e | e
          · subst e; exact ⟨by have := gb.size; omega, (KeepsOthers.alloc W o).same _ _ hDD rfl⟩
          · exact ⟨(gM.2 D' e).1, (KeepsOthers.alloc W o).same _ _ (h4 D' e) rfl⟩⟩
        have z11 : W.cell? ⟨b11, 0, none⟩ = some (.int .i64 (t : Int)) := (blk_cell h2 0).trans rfl
        have zw : W.cell? ⟨gw, 0, none⟩ = some (.slice Aw want.length cw) := (blk_cell (blk_below hw h6) 0).trans rfl
        have zs : W.cell? ⟨gs, 0, none⟩ = some (.int .i64 stop) := (blk_cell (blk_below hs h6) 0).trans rfl
        have z12 : W.cell? ⟨b12, 0, none⟩ = some (.int .i64 (want.length : Int)) := by rw [HLW.out]; exact (blk_cell h3 0).trans rfl
        have bn : ((want.length : Int) != (want.length : Int)) = false := by simp
        have HMk := Aside0.mk hMk
        clear hMk
        gi_wp2
        exact ⟨by omega, W.heap.size, D :: Ds, _, _, _, _, _, _, _, _, _, _, _, _, _, _, _, _, _, _, _, _, _, rfl, by omega, (heap_alloc_new _ _).trans (by simp), h6.size, below_alloc h6 _, HMk.out _⟩
      case stop =>
        rintro D c' pre W hD hSp (⟨rfl, h0⟩ | ⟨rfl, ⟨h0, h1, h1'⟩, h2, h3, h4, h6⟩) hDD
        · exact absurd hSp h0
        have hMk : ∀ o, Marked Wl.heap.size (D :: Ds) (W.alloc o) := fun o => ⟨List.nodup_cons.2 ⟨fun hm => by have h9 := blk_lt (gM.2 D hm).2; omega, gM.1⟩, fun D' hD' => by
          rcases List.mem_cons.1 hD' with e | e
          · subst e; exact ⟨by have := gb.size; omega, (KeepsOthers.alloc W o).same _ _ hDD rfl⟩
          · exact ⟨(gM.2 D' e).1, (KeepsOthers.alloc W o).same _ _ (h4 D' e) rfl⟩⟩
        have z11 : W.cell? ⟨b11, 0, none⟩ = some (.int .i64 (t : Int)) := (blk_cell h2 0).trans rfl
        have zw : W.cell? ⟨gw, 0, none⟩ = some (.slice Aw want.length cw) := (blk_cell (blk_below hw h6) 0).trans rfl
        have zs : W.cell? ⟨gs, 0, none⟩ = some (.int .i64 stop) := (blk_cell (blk_below hs h6) 0).trans rfl
        have z12 : W.cell? ⟨b12, 0, none⟩ = some (.int .i64 (pre.length : Int)) := (blk_cell h3 0).trans rfl
        have bt : ((t : Int) == 0) = true := by simp [h0]
        have bs : ((pre.length : Int) == stop) = true := by simp [h1]
        by_cases e0 : (pre.length : Int) = (want.length : Int)
        · have bn : ((pre.length : Int) != (want.length : Int)) = false := by simp [e0]
          have HMk := Aside0.mk hMk
          clear hMk
          gi_wp2
          exact ⟨by omega, W.heap.size, D :: Ds, _, _, _, _, _, _, _, _, _, _, _, _, _, _, _, _, _, _, _, _, _, rfl, by omega, (heap_alloc_new _ _).trans (by simp [h0]), h6.size, below_alloc h6 _, HMk.out _⟩
        · have bn : ((pre.length : Int) != (want.length : Int)) = true := by simpa using e0
          have HMk := Aside0.mk hMk
          clear hMk
          gi_wp2
          exact ⟨by omega, W.heap.size, D :: Ds, _, _, _, _, _, _, _, _, _, _, _, _, _, _, _, _, _, _, _, _, _, rfl, by omega, (heap_alloc_new _ _).trans (by simp [h0]), h6.size, below_alloc h6 _, HMk.out _⟩
end Go.Proofs.Ytghlellambnkeaa.MergeW
