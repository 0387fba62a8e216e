-- By wip/late.py (a program of this session) out of wip/words.
import Derived.Test.YthnjlbdkcpgcjaaDoorProg
import Derived.Test.YthnjlbdkcpgcjaaDoorWWords
import Derived.Test.YthnjlbdkcpgcjaaDoorWLast
import Derived.Test.YthnjlbdkcpgcjaaDoorWMore
import Derived.Test.YthnjlbdkcpgcjaaDoorPAllx6
import Derived.Test.YthnjlbdkcpgcjaaDoorPAllx7
import Derived.Test.YthnjlbdkcpgcjaaDoorSFDig
import Derived.Test.YthnjlbdkcpgcjaaDoorSFCutD
import Derived.Test.YthnjlbdkcpgcjaaDoorShelf
import Derived.Lib.Split
import Derived.BigQuiet
import Derived.Deep.QuietTactic
import Derived.Laws.Rows
import Derived.WalkKit
set_option linter.unusedVariables false
set_option linter.unusedSimpArgs false
namespace Go.Proofs.YthnjlbdkcpgcjaaDoor.PAll
open Go.RowKit Go.Proofs.YthnjlbdkcpgcjaaDoor.Glob Go.Proofs.YthnjlbdkcpgcjaaDoorW.PrintWords
/-! item.read: an entry of the form. -/
/-- A text's pieces at blanks, four at most. -/
def pcs (a0 : ByteArray) : List ByteArray := Lib.splitB ⟨#[32]⟩ 0 (min 4 (a0.size + 1) - 1) a0
def item_read.tail (key value : ByteArray) (dead : Bool) (c n : ByteArray) : Option (ByteArray × Int × Int × ByteArray × Bool × Bool) :=
  (item_number.f c).bind fun p => if p.2 = true then (item_number.f n).bind fun q => some (key, p.1, q.1, value, dead, q.2) else some (key, p.1, 0, value, dead, false)
def item_read.f (k : Nat) (a0 : ByteArray) : Option (ByteArray × Int × Int × ByteArray × Bool × Bool) :=
  if a0.size < 4294967281 then
    if (pcs a0).length = 3 then
      (strings_Cut.f ((pcs a0).getD 1 ⟨#[]⟩) ⟨#[46]⟩).bind fun c => (item_after.f k ((pcs a0).getD 0 ⟨#[]⟩) ⟨#[107]⟩).bind fun a =>
        if a.2 = true then if c.2.2 = true then
          if ((pcs a0).getD 2 ⟨#[]⟩).toList = [120] then item_read.tail a.1 ⟨#[]⟩ true c.1 c.2.1
          else (item_after.f k ((pcs a0).getD 2 ⟨#[]⟩) ⟨#[61]⟩).bind fun v => if v.2 = true then item_read.tail a.1 v.1 false c.1 c.2.1 else some (a.1, 0, 0, v.1, false, false)
        else some (a.1, 0, 0, ⟨#[]⟩, false, false) else some (a.1, 0, 0, ⟨#[]⟩, false, false)
    else some (⟨#[]⟩, 0, 0, ⟨#[]⟩, false, false)
  else none
theorem item_read.mono : ∀ a0 k, LeO (item_read.f k a0) (item_read.f (k + 1) a0) := by
  intro a0 k
  unfold item_read.f
  refine LeO.ite (LeO.ite (LeO.bind (LeO.refl _) fun c => LeO.bind (item_after.mono _ _ k) fun a => LeO.ite (LeO.ite (LeO.ite (LeO.refl _) (LeO.bind (item_after.mono _ _ k) fun v => LeO.refl _)) (LeO.refl _)) (LeO.refl _)) (LeO.refl _)) (LeO.refl _)
theorem res_cell_tmp {P : Program} {fn : Func} {p q : Tmp} {ty : TypeId} (h : fn.results = #[.cell p ty, .tmp q]) (tmps : Array Value) (w : World) (g : Nat) (t : TypeId) (cs : Array Value) (fr : Nat × Nat) (d : TypeDesc) {v : Value}
    (hp : tmps.getD p undef = .pointer (some ⟨g, 0, none⟩)) (hq : tmps.getD q undef = v) (hg : w.heap[g]? = some (.cells cs t fr))
    (hu : P.underlying ty = some d) (hd : (match d with | .struct _ | .array _ _ => true | _ => false) = true) (hi : (P.info? ty).map (·.size) = some cs.size) :
    (results fn tmps).run P w = .ok (.tuple #[.agg cs, v]) w := by
  have hp' : tmps[p]?.getD undef = .pointer (some ⟨g, 0, none⟩) := by simpa using hp
  have hq' : tmps[q]?.getD undef = v := by simpa using hq
  simp [results, h, hp', hq', asAddr, run_loadVar_row w g t ty cs fr d hg hu hd hi]
theorem five {W : World} {b t : Nat} {v0 v1 v2 v3 v4 : Value} (h : W.heap[b]? = some (.cells #[v0, v1, v2, v3, v4] t (0, 0))) : W.cell? ⟨b, 0, none⟩ = some v0 ∧ W.cell? ⟨b, 1, none⟩ = some v1 ∧ W.cell? ⟨b, 2, none⟩ = some v2 ∧ W.cell? ⟨b, 3, none⟩ = some v3 ∧ W.cell? ⟨b, 4, none⟩ = some v4 ∧ ∀ o, W.frozen? ⟨b, o, none⟩ = false :=
  ⟨(blk_cell h 0).trans rfl, (blk_cell h 1).trans rfl, (blk_cell h 2).trans rfl, (blk_cell h 3).trans rfl, (blk_cell h 4).trans rfl, fun o => blk_frozen h o⟩
theorem ne_of_block {W : World} {b g t : Nat} {cs : Array Value} (h : W.heap[b]? = some (.cells cs t (0, 0))) (hg : W.heap.size ≤ g) : g ≠ b := by have := blk_lt h; omega
/-- The pieces, in memory. -/
def Pcs (W : World) (g : Nat) (x0 x1 x2 : ByteArray) : Prop := W.cell? ⟨g, 0, none⟩ = some (.string x0) ∧ W.cell? ⟨g, 1, none⟩ = some (.string x1) ∧ W.cell? ⟨g, 2, none⟩ = some (.string x2)
theorem Pcs.keep {W W' : World} {g : Nat} {x0 x1 x2 : ByteArray} (h : Pcs W g x0 x1 x2) (hb : Below W.heap.size W W') : Pcs W' g x0 x1 x2 :=
  ⟨pw_cell_below hb h.1, pw_cell_below hb h.2.1, pw_cell_below hb h.2.2⟩
theorem Pcs.set {W : World} {g b o : Nat} {x0 x1 x2 : ByteArray} (h : Pcs W g x0 x1 x2) (hne : b ≠ g) (v : Value) : Pcs (W.setCell ⟨b, o, none⟩ v) g x0 x1 x2 := by
  have e : (W.setCell ⟨b, o, none⟩ v).heap[g]? = W.heap[g]? := Below.heap_setCell _ _ _ _ (Ne.symm hne)
  exact ⟨(World.cell?_of_block e).trans h.1, (World.cell?_of_block e).trans h.2.1, (World.cell?_of_block e).trans h.2.2⟩
theorem Pcs.far {W : World} {g b o o' : Nat} {x0 x1 x2 : ByteArray} (h : Pcs W g x0 x1 x2) (hne : b ≠ g) (v v' : Value) : Pcs ((W.setCell ⟨b, o, none⟩ v).setCell ⟨b, o', none⟩ v') g x0 x1 x2 := (h.set hne v).set hne v'
theorem below_two {B : Nat} {w W : World} {b : Nat} (h : Below B w W) (hb : B ≤ b) (o o' : Nat) (v v' : Value) : Below B w ((W.setCell ⟨b, o, none⟩ v).setCell ⟨b, o', none⟩ v') := (h.setCell hb v).setCell hb v'
theorem split_calls (a0 : ByteArray) (hs : a0.size < 4294967281) (w : World) (hG : GlobOK w) :
    Calls Tryd.prog 22 #[.string a0, .string ⟨#[32]⟩, .int .i64 4] w fun e w' => ∃ g n : Nat, e = .returned (.slice (some ⟨g, 0, none⟩) (pcs a0).length n) ∧ w.heap.size ≤ g ∧ Below w.heap.size w w' ∧ (∀ {x0 x1 x2 : ByteArray}, pcs a0 = [x0, x1, x2] → Pcs w' g x0 x1 x2) := by
  obtain ⟨_, m, hm⟩ := hG
  have h := Tryd.strings_SplitN a0 ⟨#[32]⟩ 4 m w hs hm (by decide) (by decide) (by decide)
  refine Calls.mono h ?_
  rintro e w' ⟨rfl, rfl⟩
  refine ⟨w.heap.size, _, rfl, Nat.le_refl _, below_alloc (Below.refl _ _) _, fun hp => ?_⟩
  have hp' : Lib.splitB ⟨#[32]⟩ 0 (min 4 (a0.size + 1) - 1) a0 = _ := hp
  rw [hp']
  have g := fun o => heap_alloc_new w o
  exact ⟨(blk_cell (g _) 0).trans rfl, (blk_cell (g _) 1).trans rfl, (blk_cell (g _) 2).trans rfl⟩
set_option maxRecDepth 100000 in
set_option maxHeartbeats 4000000 in
theorem read_a (k : Nat) (a0 w0' w1' w2' : ByteArray) (w : World) (hG : GlobOK w) (hs : a0.size < 4294967281) (h3 : pcs a0 = [w0', w1', w2']) (a1 c1 c2 : ByteArray) (c3 : Bool) (AC : Aside0 (strings_Cut.f w1' ⟨#[46]⟩ = some (c1, c2, c3))) (AA : Aside0 (item_after.f k w0' ⟨#[107]⟩ = some (a1, false))) :
    Calls Tryd.prog 15 #[.string a0] w fun e w' => e = .returned (.tuple #[.agg #[.string a1, .int .i64 0, .int .i64 0, .string ⟨#[]⟩, .bool false], .bool false]) ∧ Below w.heap.size w w' := by
  have hl3 : (pcs a0).length = 3 := by rw [h3]; rfl
  go_enter Tryd.func15, Tryd.ntmps15
  go_wp2_with (first
    | ((with_reducible refine gate_dst (N := 2) rfl ?_); refine box_event ?hg (N := 2) ?hd (cs := #[.string ⟨#[]⟩, .int .i64 0, .int .i64 0, .string ⟨#[]⟩, .bool false]) (t := 25) ?hr ?_; (case hd => rfl); (case hg => rfl); (case hr => first | (go_simp; done) | (go_simp; rfl)); intro b hb w0 hbox hb0; have E0 := Aside0.mk hbox; have HB0 := Aside0.mk hb0; have HG := Aside0.mk (show w.heap.size ≤ b from Nat.le_of_eq hb.symm); have hsp := split_calls a0 hs w0 (hG.below hb0); clear hb hbox hb0)
    | (go_at_call 22; refine hsp.mono ?_; rintro e w1 ⟨g, n, rfl, hbg, hb1, hps⟩; have P1 := Aside0.mk (hps h3); have E1 := Aside0.mk (blk_below E0.out hb1); have HB1 := Aside0.mk (HB0.out.trans (hb1.mono HB0.out.size)); have hne : g ≠ b := ne_of_block E0.out hbg; have hne' : b ≠ g := Ne.symm hne; clear hb1 hps hsp; obtain ⟨x0, x1, x2, x3, x4, fz⟩ := five E1.out; obtain ⟨p0, p1, p2⟩ := P1.out; )
    | (go_at_call 23; (with_reducible refine (strings_Cut.calls w1' _ c1 c2 c3 _ (hG.below HB1.out) AC.out).mono ?_); rintro e w2 ⟨rfl, hb2⟩; have P2 := Aside0.mk (P1.out.keep hb2); have E2 := Aside0.mk (blk_below E1.out hb2); have HB2 := Aside0.mk (HB1.out.trans (hb2.mono HB1.out.size)); clear hb2; clear x0 x1 x2 x3 x4 fz p0 p1 p2; obtain ⟨x0, x1, x2, x3, x4, fz⟩ := five E2.out; obtain ⟨p0, p1, p2⟩ := P2.out; )
    | (go_at_call 24; (with_reducible refine (item_after.calls k w0' _ a1 false _ AA.out).mono ?_); rintro e w3 ⟨rfl, hb3⟩; have P3 := Aside0.mk (P2.out.keep hb3); have E3 := Aside0.mk (blk_below E2.out hb3); have HB3 := Aside0.mk (HB2.out.trans (hb3.mono HB2.out.size)); clear hb3; clear x0 x1 x2 x3 x4 fz p0 p1 p2; obtain ⟨x0, x1, x2, x3, x4, fz⟩ := five E3.out; obtain ⟨p0, p1, p2⟩ := P3.out; ))
  refine bodyPost_ret (res_cell_tmp rfl _ _ b 25 #[.string a1, .int .i64 0, .int .i64 0, .string ⟨#[]⟩, .bool false] (0, 0) _ rfl rfl (blk_put (blk_put (blk_put (blk_put (blk_put (blk_put (E3.out) 0 (.string a1) rfl) 0 (.string a1) rfl) 1 (.int .i64 0) rfl) 2 (.int .i64 0) rfl) 3 (.string ⟨#[]⟩) rfl) 4 (.bool false) rfl) Tryd.underlying25 rfl (by kernel_rfl)) rfl ?_
  exact ⟨rfl, ((((((HB3.out).setCell HG.out _).setCell HG.out _).setCell HG.out _).setCell HG.out _).setCell HG.out _).setCell HG.out _⟩
set_option maxRecDepth 100000 in
set_option maxHeartbeats 4000000 in
theorem read_c (k : Nat) (a0 w0' w1' w2' : ByteArray) (w : World) (hG : GlobOK w) (hs : a0.size < 4294967281) (h3 : pcs a0 = [w0', w1', w2']) (a1 c1 c2 : ByteArray) (AC : Aside0 (strings_Cut.f w1' ⟨#[46]⟩ = some (c1, c2, false))) (AA : Aside0 (item_after.f k w0' ⟨#[107]⟩ = some (a1, true))) :
    Calls Tryd.prog 15 #[.string a0] w fun e w' => e = .returned (.tuple #[.agg #[.string a1, .int .i64 0, .int .i64 0, .string ⟨#[]⟩, .bool false], .bool false]) ∧ Below w.heap.size w w' := by
  have hl3 : (pcs a0).length = 3 := by rw [h3]; rfl
  go_enter Tryd.func15, Tryd.ntmps15
  go_wp2_with (first
    | ((with_reducible refine gate_dst (N := 2) rfl ?_); refine box_event ?hg (N := 2) ?hd (cs := #[.string ⟨#[]⟩, .int .i64 0, .int .i64 0, .string ⟨#[]⟩, .bool false]) (t := 25) ?hr ?_; (case hd => rfl); (case hg => rfl); (case hr => first | (go_simp; done) | (go_simp; rfl)); intro b hb w0 hbox hb0; have E0 := Aside0.mk hbox; have HB0 := Aside0.mk hb0; have HG := Aside0.mk (show w.heap.size ≤ b from Nat.le_of_eq hb.symm); have hsp := split_calls a0 hs w0 (hG.below hb0); clear hb hbox hb0)
    | (go_at_call 22; refine hsp.mono ?_; rintro e w1 ⟨g, n, rfl, hbg, hb1, hps⟩; have P1 := Aside0.mk (hps h3); have E1 := Aside0.mk (blk_below E0.out hb1); have HB1 := Aside0.mk (HB0.out.trans (hb1.mono HB0.out.size)); have hne : g ≠ b := ne_of_block E0.out hbg; have hne' : b ≠ g := Ne.symm hne; clear hb1 hps hsp; obtain ⟨x0, x1, x2, x3, x4, fz⟩ := five E1.out; obtain ⟨p0, p1, p2⟩ := P1.out; )
    | (go_at_call 23; (with_reducible refine (strings_Cut.calls w1' _ c1 c2 false _ (hG.below HB1.out) AC.out).mono ?_); rintro e w2 ⟨rfl, hb2⟩; have P2 := Aside0.mk (P1.out.keep hb2); have E2 := Aside0.mk (blk_below E1.out hb2); have HB2 := Aside0.mk (HB1.out.trans (hb2.mono HB1.out.size)); clear hb2; clear x0 x1 x2 x3 x4 fz p0 p1 p2; obtain ⟨x0, x1, x2, x3, x4, fz⟩ := five E2.out; obtain ⟨p0, p1, p2⟩ := P2.out; )
    | (go_at_call 24; (with_reducible refine (item_after.calls k w0' _ a1 true _ AA.out).mono ?_); rintro e w3 ⟨rfl, hb3⟩; have P3 := Aside0.mk (P2.out.keep hb3); have E3 := Aside0.mk (blk_below E2.out hb3); have HB3 := Aside0.mk (HB2.out.trans (hb3.mono HB2.out.size)); clear hb3; clear x0 x1 x2 x3 x4 fz p0 p1 p2; obtain ⟨x0, x1, x2, x3, x4, fz⟩ := five E3.out; obtain ⟨p0, p1, p2⟩ := P3.out; ))
  refine bodyPost_ret (res_cell_tmp rfl _ _ b 25 #[.string a1, .int .i64 0, .int .i64 0, .string ⟨#[]⟩, .bool false] (0, 0) _ rfl rfl (blk_put (blk_put (blk_put (blk_put (blk_put (blk_put (E3.out) 0 (.string a1) rfl) 0 (.string a1) rfl) 1 (.int .i64 0) rfl) 2 (.int .i64 0) rfl) 3 (.string ⟨#[]⟩) rfl) 4 (.bool false) rfl) Tryd.underlying25 rfl (by kernel_rfl)) rfl ?_
  exact ⟨rfl, ((((((HB3.out).setCell HG.out _).setCell HG.out _).setCell HG.out _).setCell HG.out _).setCell HG.out _).setCell HG.out _⟩
set_option maxRecDepth 100000 in
set_option maxHeartbeats 4000000 in
theorem read_x0 (k : Nat) (a0 w0' w1' w2' : ByteArray) (w : World) (hG : GlobOK w) (hs : a0.size < 4294967281) (h3 : pcs a0 = [w0', w1', w2']) (a1 c1 c2 : ByteArray) (n1 : Int) (AC : Aside0 (strings_Cut.f w1' ⟨#[46]⟩ = some (c1, c2, true))) (AA : Aside0 (item_after.f k w0' ⟨#[107]⟩ = some (a1, true))) (hd : w2'.toList = [120]) (AN : Aside0 (item_number.f c1 = some (n1, false))) :
    Calls Tryd.prog 15 #[.string a0] w fun e w' => e = .returned (.tuple #[.agg #[.string a1, .int .i64 n1, .int .i64 0, .string ⟨#[]⟩, .bool true], .bool false]) ∧ Below w.heap.size w w' := by
  have hx : (w2'.toList == [120]) = true := by rw [hd]; rfl
  have hl3 : (pcs a0).length = 3 := by rw [h3]; rfl
  go_enter Tryd.func15, Tryd.ntmps15
  go_wp2_with (first
    | ((with_reducible refine gate_dst (N := 2) rfl ?_); refine box_event ?hg (N := 2) ?hd (cs := #[.string ⟨#[]⟩, .int .i64 0, .int .i64 0, .string ⟨#[]⟩, .bool false]) (t := 25) ?hr ?_; (case hd => rfl); (case hg => rfl); (case hr => first | (go_simp; done) | (go_simp; rfl)); intro b hb w0 hbox hb0; have E0 := Aside0.mk hbox; have HB0 := Aside0.mk hb0; have HG := Aside0.mk (show w.heap.size ≤ b from Nat.le_of_eq hb.symm); have hsp := split_calls a0 hs w0 (hG.below hb0); clear hb hbox hb0)
    | (go_at_call 22; refine hsp.mono ?_; rintro e w1 ⟨g, n, rfl, hbg, hb1, hps⟩; have P1 := Aside0.mk (hps h3); have E1 := Aside0.mk (blk_below E0.out hb1); have HB1 := Aside0.mk (HB0.out.trans (hb1.mono HB0.out.size)); have hne : g ≠ b := ne_of_block E0.out hbg; have hne' : b ≠ g := Ne.symm hne; clear hb1 hps hsp; obtain ⟨x0, x1, x2, x3, x4, fz⟩ := five E1.out; obtain ⟨p0, p1, p2⟩ := P1.out; )
    | (go_at_call 23; (with_reducible refine (strings_Cut.calls w1' _ c1 c2 true _ (hG.below HB1.out) AC.out).mono ?_); rintro e w2 ⟨rfl, hb2⟩; have P2 := Aside0.mk (P1.out.keep hb2); have E2 := Aside0.mk (blk_below E1.out hb2); have HB2 := Aside0.mk (HB1.out.trans (hb2.mono HB1.out.size)); clear hb2; clear x0 x1 x2 x3 x4 fz p0 p1 p2; obtain ⟨x0, x1, x2, x3, x4, fz⟩ := five E2.out; obtain ⟨p0, p1, p2⟩ := P2.out; )
    | (go_at_call 24; (with_reducible refine (item_after.calls k w0' _ a1 true _ AA.out).mono ?_); rintro e w3 ⟨rfl, hb3⟩; have P3 := Aside0.mk (P2.out.keep hb3); have E3 := Aside0.mk (blk_below E2.out hb3); have HB3 := Aside0.mk (HB2.out.trans (hb3.mono HB2.out.size)); clear hb3; clear x0 x1 x2 x3 x4 fz p0 p1 p2; obtain ⟨x0, x1, x2, x3, x4, fz⟩ := five E3.out; obtain ⟨p0, p1, p2⟩ := P3.out; )
    | (go_at_call 25; (with_reducible refine (item_number.calls c1 n1 false _ (hG.below (below_two HB3.out HG.out _ _ _ _)) AN.out).mono ?_); rintro e w4 ⟨rfl, hb4⟩; have hz := HB3.out.size; have E4 := Aside0.mk ((show w4.heap[b]? = some (.cells #[.string a1, .int .i64 0, .int .i64 0, .string ⟨#[]⟩, .bool true] 25 (0, 0)) from blk_below (blk_put (blk_put (E3.out) 0 (.string a1) rfl) 4 (.bool true) rfl) hb4)); have HB4 := Aside0.mk ((below_two HB3.out HG.out _ _ _ _).trans (hb4.mono (by simp; omega))); clear hb4 hz; clear x0 x1 x2 x3 x4 fz; obtain ⟨x0, x1, x2, x3, x4, fz⟩ := five E4.out; ))
  refine bodyPost_ret (res_cell_tmp rfl _ _ b 25 #[.string a1, .int .i64 n1, .int .i64 0, .string ⟨#[]⟩, .bool true] (0, 0) _ rfl rfl (blk_put (blk_put (blk_put (blk_put (blk_put (blk_put (E4.out) 1 (.int .i64 n1) rfl) 0 (.string a1) rfl) 1 (.int .i64 n1) rfl) 2 (.int .i64 0) rfl) 3 (.string ⟨#[]⟩) rfl) 4 (.bool true) rfl) Tryd.underlying25 rfl (by kernel_rfl)) rfl ?_
  exact ⟨rfl, ((((((HB4.out).setCell HG.out _).setCell HG.out _).setCell HG.out _).setCell HG.out _).setCell HG.out _).setCell HG.out _⟩
set_option maxRecDepth 100000 in
set_option maxHeartbeats 4000000 in
theorem read_x1 (k : Nat) (a0 w0' w1' w2' : ByteArray) (w : World) (hG : GlobOK w) (hs : a0.size < 4294967281) (h3 : pcs a0 = [w0', w1', w2']) (a1 c1 c2 : ByteArray) (n1 : Int) (n2 : Int) (q2 : Bool) (AC : Aside0 (strings_Cut.f w1' ⟨#[46]⟩ = some (c1, c2, true))) (AA : Aside0 (item_after.f k w0' ⟨#[107]⟩ = some (a1, true))) (hd : w2'.toList = [120]) (AN : Aside0 (item_number.f c1 = some (n1, true))) (AM : Aside0 (item_number.f c2 = some (n2, q2))) :
    Calls Tryd.prog 15 #[.string a0] w fun e w' => e = .returned (.tuple #[.agg #[.string a1, .int .i64 n1, .int .i64 n2, .string ⟨#[]⟩, .bool true], .bool q2]) ∧ Below w.heap.size w w' := by
  have hx : (w2'.toList == [120]) = true := by rw [hd]; rfl
  have hl3 : (pcs a0).length = 3 := by rw [h3]; rfl
  go_enter Tryd.func15, Tryd.ntmps15
  go_wp2_with (first
    | ((with_reducible refine gate_dst (N := 2) rfl ?_); refine box_event ?hg (N := 2) ?hd (cs := #[.string ⟨#[]⟩, .int .i64 0, .int .i64 0, .string ⟨#[]⟩, .bool false]) (t := 25) ?hr ?_; (case hd => rfl); (case hg => rfl); (case hr => first | (go_simp; done) | (go_simp; rfl)); intro b hb w0 hbox hb0; have E0 := Aside0.mk hbox; have HB0 := Aside0.mk hb0; have HG := Aside0.mk (show w.heap.size ≤ b from Nat.le_of_eq hb.symm); have hsp := split_calls a0 hs w0 (hG.below hb0); clear hb hbox hb0)
    | (go_at_call 22; refine hsp.mono ?_; rintro e w1 ⟨g, n, rfl, hbg, hb1, hps⟩; have P1 := Aside0.mk (hps h3); have E1 := Aside0.mk (blk_below E0.out hb1); have HB1 := Aside0.mk (HB0.out.trans (hb1.mono HB0.out.size)); have hne : g ≠ b := ne_of_block E0.out hbg; have hne' : b ≠ g := Ne.symm hne; clear hb1 hps hsp; obtain ⟨x0, x1, x2, x3, x4, fz⟩ := five E1.out; obtain ⟨p0, p1, p2⟩ := P1.out; )
    | (go_at_call 23; (with_reducible refine (strings_Cut.calls w1' _ c1 c2 true _ (hG.below HB1.out) AC.out).mono ?_); rintro e w2 ⟨rfl, hb2⟩; have P2 := Aside0.mk (P1.out.keep hb2); have E2 := Aside0.mk (blk_below E1.out hb2); have HB2 := Aside0.mk (HB1.out.trans (hb2.mono HB1.out.size)); clear hb2; clear x0 x1 x2 x3 x4 fz p0 p1 p2; obtain ⟨x0, x1, x2, x3, x4, fz⟩ := five E2.out; obtain ⟨p0, p1, p2⟩ := P2.out; )
    | (go_at_call 24; (with_reducible refine (item_after.calls k w0' _ a1 true _ AA.out).mono ?_); rintro e w3 ⟨rfl, hb3⟩; have P3 := Aside0.mk (P2.out.keep hb3); have E3 := Aside0.mk (blk_below E2.out hb3); have HB3 := Aside0.mk (HB2.out.trans (hb3.mono HB2.out.size)); clear hb3; clear x0 x1 x2 x3 x4 fz p0 p1 p2; obtain ⟨x0, x1, x2, x3, x4, fz⟩ := five E3.out; obtain ⟨p0, p1, p2⟩ := P3.out; )
    | (go_at_call 25; (with_reducible refine (item_number.calls c1 n1 true _ (hG.below (below_two HB3.out HG.out _ _ _ _)) AN.out).mono ?_); rintro e w4 ⟨rfl, hb4⟩; have hz := HB3.out.size; have E4 := Aside0.mk ((show w4.heap[b]? = some (.cells #[.string a1, .int .i64 0, .int .i64 0, .string ⟨#[]⟩, .bool true] 25 (0, 0)) from blk_below (blk_put (blk_put (E3.out) 0 (.string a1) rfl) 4 (.bool true) rfl) hb4)); have HB4 := Aside0.mk ((below_two HB3.out HG.out _ _ _ _).trans (hb4.mono (by simp; omega))); clear hb4 hz; clear x0 x1 x2 x3 x4 fz; obtain ⟨x0, x1, x2, x3, x4, fz⟩ := five E4.out; )
    | (go_at_call 25; (with_reducible refine (item_number.calls c2 n2 q2 _ (hG.below (HB4.out.setCell HG.out _)) AM.out).mono ?_); rintro e w5 ⟨rfl, hb5⟩; have hz := HB4.out.size; have E5 := Aside0.mk ((show w5.heap[b]? = some (.cells #[.string a1, .int .i64 n1, .int .i64 0, .string ⟨#[]⟩, .bool true] 25 (0, 0)) from blk_below (blk_put (E4.out) 1 (.int .i64 n1) rfl) hb5)); have HB5 := Aside0.mk ((HB4.out.setCell HG.out _).trans (hb5.mono (by simp; omega))); clear hb5 hz; clear x0 x1 x2 x3 x4 fz; obtain ⟨x0, x1, x2, x3, x4, fz⟩ := five E5.out; ))
  refine bodyPost_ret (res_cell_tmp rfl _ _ b 25 #[.string a1, .int .i64 n1, .int .i64 n2, .string ⟨#[]⟩, .bool true] (0, 0) _ rfl rfl (blk_put (blk_put (blk_put (blk_put (blk_put (blk_put (E5.out) 2 (.int .i64 n2) rfl) 0 (.string a1) rfl) 1 (.int .i64 n1) rfl) 2 (.int .i64 n2) rfl) 3 (.string ⟨#[]⟩) rfl) 4 (.bool true) rfl) Tryd.underlying25 rfl (by kernel_rfl)) rfl ?_
  exact ⟨rfl, ((((((HB5.out).setCell HG.out _).setCell HG.out _).setCell HG.out _).setCell HG.out _).setCell HG.out _).setCell HG.out _⟩
set_option maxRecDepth 100000 in
set_option maxHeartbeats 4000000 in
theorem read_v (k : Nat) (a0 w0' w1' w2' : ByteArray) (w : World) (hG : GlobOK w) (hs : a0.size < 4294967281) (h3 : pcs a0 = [w0', w1', w2']) (a1 c1 c2 : ByteArray) (v1 : ByteArray) (AC : Aside0 (strings_Cut.f w1' ⟨#[46]⟩ = some (c1, c2, true))) (AA : Aside0 (item_after.f k w0' ⟨#[107]⟩ = some (a1, true))) (hd : ¬ w2'.toList = [120]) (AV : Aside0 (item_after.f k w2' ⟨#[61]⟩ = some (v1, false))) :
    Calls Tryd.prog 15 #[.string a0] w fun e w' => e = .returned (.tuple #[.agg #[.string a1, .int .i64 0, .int .i64 0, .string v1, .bool false], .bool false]) ∧ Below w.heap.size w w' := by
  have hx : (w2'.toList == [120]) = false := by simpa using hd
  have hl3 : (pcs a0).length = 3 := by rw [h3]; rfl
  go_enter Tryd.func15, Tryd.ntmps15
  go_wp2_with (first
    | ((with_reducible refine gate_dst (N := 2) rfl ?_); refine box_event ?hg (N := 2) ?hd (cs := #[.string ⟨#[]⟩, .int .i64 0, .int .i64 0, .string ⟨#[]⟩, .bool false]) (t := 25) ?hr ?_; (case hd => rfl); (case hg => rfl); (case hr => first | (go_simp; done) | (go_simp; rfl)); intro b hb w0 hbox hb0; have E0 := Aside0.mk hbox; have HB0 := Aside0.mk hb0; have HG := Aside0.mk (show w.heap.size ≤ b from Nat.le_of_eq hb.symm); have hsp := split_calls a0 hs w0 (hG.below hb0); clear hb hbox hb0)
    | (go_at_call 22; refine hsp.mono ?_; rintro e w1 ⟨g, n, rfl, hbg, hb1, hps⟩; have P1 := Aside0.mk (hps h3); have E1 := Aside0.mk (blk_below E0.out hb1); have HB1 := Aside0.mk (HB0.out.trans (hb1.mono HB0.out.size)); have hne : g ≠ b := ne_of_block E0.out hbg; have hne' : b ≠ g := Ne.symm hne; clear hb1 hps hsp; obtain ⟨x0, x1, x2, x3, x4, fz⟩ := five E1.out; obtain ⟨p0, p1, p2⟩ := P1.out; )
    | (go_at_call 23; (with_reducible refine (strings_Cut.calls w1' _ c1 c2 true _ (hG.below HB1.out) AC.out).mono ?_); rintro e w2 ⟨rfl, hb2⟩; have P2 := Aside0.mk (P1.out.keep hb2); have E2 := Aside0.mk (blk_below E1.out hb2); have HB2 := Aside0.mk (HB1.out.trans (hb2.mono HB1.out.size)); clear hb2; clear x0 x1 x2 x3 x4 fz p0 p1 p2; obtain ⟨x0, x1, x2, x3, x4, fz⟩ := five E2.out; obtain ⟨p0, p1, p2⟩ := P2.out; )
    | (go_at_call 24; (with_reducible refine (item_after.calls k w0' _ a1 true _ AA.out).mono ?_); rintro e w3 ⟨rfl, hb3⟩; have P3 := Aside0.mk (P2.out.keep hb3); have E3 := Aside0.mk (blk_below E2.out hb3); have HB3 := Aside0.mk (HB2.out.trans (hb3.mono HB2.out.size)); clear hb3; clear x0 x1 x2 x3 x4 fz p0 p1 p2; obtain ⟨x0, x1, x2, x3, x4, fz⟩ := five E3.out; obtain ⟨p0, p1, p2⟩ := P3.out; )
    | (go_at_call 24; (with_reducible refine (item_after.calls k w2' _ v1 false _ AV.out).mono ?_); rintro e w4 ⟨rfl, hb4⟩; have hz4 := HB3.out.size; have P4 := Aside0.mk ((P3.out.far hne' _ _).keep hb4); have E4 := Aside0.mk ((show w4.heap[b]? = some (.cells #[.string a1, .int .i64 0, .int .i64 0, .string ⟨#[]⟩, .bool false] 25 (0, 0)) from blk_below (blk_put (blk_put (E3.out) 0 (.string a1) rfl) 4 (.bool false) rfl) hb4)); have HB4 := Aside0.mk ((below_two HB3.out HG.out _ _ _ _).trans (hb4.mono (by simp; omega))); clear hb4 hz4; clear x0 x1 x2 x3 x4 fz p0 p1 p2; obtain ⟨x0, x1, x2, x3, x4, fz⟩ := five E4.out; obtain ⟨p0, p1, p2⟩ := P4.out; ))
  refine bodyPost_ret (res_cell_tmp rfl _ _ b 25 #[.string a1, .int .i64 0, .int .i64 0, .string v1, .bool false] (0, 0) _ rfl rfl (blk_put (blk_put (blk_put (blk_put (blk_put (blk_put (E4.out) 3 (.string v1) rfl) 0 (.string a1) rfl) 1 (.int .i64 0) rfl) 2 (.int .i64 0) rfl) 3 (.string v1) rfl) 4 (.bool false) rfl) Tryd.underlying25 rfl (by kernel_rfl)) rfl ?_
  exact ⟨rfl, ((((((HB4.out).setCell HG.out _).setCell HG.out _).setCell HG.out _).setCell HG.out _).setCell HG.out _).setCell HG.out _⟩
set_option maxRecDepth 100000 in
set_option maxHeartbeats 4000000 in
theorem read_v0 (k : Nat) (a0 w0' w1' w2' : ByteArray) (w : World) (hG : GlobOK w) (hs : a0.size < 4294967281) (h3 : pcs a0 = [w0', w1', w2']) (a1 c1 c2 : ByteArray) (v1 : ByteArray) (n1 : Int) (AC : Aside0 (strings_Cut.f w1' ⟨#[46]⟩ = some (c1, c2, true))) (AA : Aside0 (item_after.f k w0' ⟨#[107]⟩ = some (a1, true))) (hd : ¬ w2'.toList = [120]) (AV : Aside0 (item_after.f k w2' ⟨#[61]⟩ = some (v1, true))) (AN : Aside0 (item_number.f c1 = some (n1, false))) :
    Calls Tryd.prog 15 #[.string a0] w fun e w' => e = .returned (.tuple #[.agg #[.string a1, .int .i64 n1, .int .i64 0, .string v1, .bool false], .bool false]) ∧ Below w.heap.size w w' := by
  have hx : (w2'.toList == [120]) = false := by simpa using hd
  have hl3 : (pcs a0).length = 3 := by rw [h3]; rfl
  go_enter Tryd.func15, Tryd.ntmps15
  go_wp2_with (first
    | ((with_reducible refine gate_dst (N := 2) rfl ?_); refine box_event ?hg (N := 2) ?hd (cs := #[.string ⟨#[]⟩, .int .i64 0, .int .i64 0, .string ⟨#[]⟩, .bool false]) (t := 25) ?hr ?_; (case hd => rfl); (case hg => rfl); (case hr => first | (go_simp; done) | (go_simp; rfl)); intro b hb w0 hbox hb0; have E0 := Aside0.mk hbox; have HB0 := Aside0.mk hb0; have HG := Aside0.mk (show w.heap.size ≤ b from Nat.le_of_eq hb.symm); have hsp := split_calls a0 hs w0 (hG.below hb0); clear hb hbox hb0)
    | (go_at_call 22; refine hsp.mono ?_; rintro e w1 ⟨g, n, rfl, hbg, hb1, hps⟩; have P1 := Aside0.mk (hps h3); have E1 := Aside0.mk (blk_below E0.out hb1); have HB1 := Aside0.mk (HB0.out.trans (hb1.mono HB0.out.size)); have hne : g ≠ b := ne_of_block E0.out hbg; have hne' : b ≠ g := Ne.symm hne; clear hb1 hps hsp; obtain ⟨x0, x1, x2, x3, x4, fz⟩ := five E1.out; obtain ⟨p0, p1, p2⟩ := P1.out; )
    | (go_at_call 23; (with_reducible refine (strings_Cut.calls w1' _ c1 c2 true _ (hG.below HB1.out) AC.out).mono ?_); rintro e w2 ⟨rfl, hb2⟩; have P2 := Aside0.mk (P1.out.keep hb2); have E2 := Aside0.mk (blk_below E1.out hb2); have HB2 := Aside0.mk (HB1.out.trans (hb2.mono HB1.out.size)); clear hb2; clear x0 x1 x2 x3 x4 fz p0 p1 p2; obtain ⟨x0, x1, x2, x3, x4, fz⟩ := five E2.out; obtain ⟨p0, p1, p2⟩ := P2.out; )
    | (go_at_call 24; (with_reducible refine (item_after.calls k w0' _ a1 true _ AA.out).mono ?_); rintro e w3 ⟨rfl, hb3⟩; have P3 := Aside0.mk (P2.out.keep hb3); have E3 := Aside0.mk (blk_below E2.out hb3); have HB3 := Aside0.mk (HB2.out.trans (hb3.mono HB2.out.size)); clear hb3; clear x0 x1 x2 x3 x4 fz p0 p1 p2; obtain ⟨x0, x1, x2, x3, x4, fz⟩ := five E3.out; obtain ⟨p0, p1, p2⟩ := P3.out; )
    | (go_at_call 24; (with_reducible refine (item_after.calls k w2' _ v1 true _ AV.out).mono ?_); rintro e w4 ⟨rfl, hb4⟩; have hz4 := HB3.out.size; have P4 := Aside0.mk ((P3.out.far hne' _ _).keep hb4); have E4 := Aside0.mk ((show w4.heap[b]? = some (.cells #[.string a1, .int .i64 0, .int .i64 0, .string ⟨#[]⟩, .bool false] 25 (0, 0)) from blk_below (blk_put (blk_put (E3.out) 0 (.string a1) rfl) 4 (.bool false) rfl) hb4)); have HB4 := Aside0.mk ((below_two HB3.out HG.out _ _ _ _).trans (hb4.mono (by simp; omega))); clear hb4 hz4; clear x0 x1 x2 x3 x4 fz p0 p1 p2; obtain ⟨x0, x1, x2, x3, x4, fz⟩ := five E4.out; obtain ⟨p0, p1, p2⟩ := P4.out; )
    | (go_at_call 25; (with_reducible refine (item_number.calls c1 n1 false _ (hG.below (HB4.out.setCell HG.out _)) AN.out).mono ?_); rintro e w5 ⟨rfl, hb5⟩; have hz := HB4.out.size; have E5 := Aside0.mk ((show w5.heap[b]? = some (.cells #[.string a1, .int .i64 0, .int .i64 0, .string v1, .bool false] 25 (0, 0)) from blk_below (blk_put (E4.out) 3 (.string v1) rfl) hb5)); have HB5 := Aside0.mk ((HB4.out.setCell HG.out _).trans (hb5.mono (by simp; omega))); clear hb5 hz; clear x0 x1 x2 x3 x4 fz; obtain ⟨x0, x1, x2, x3, x4, fz⟩ := five E5.out; ))
  refine bodyPost_ret (res_cell_tmp rfl _ _ b 25 #[.string a1, .int .i64 n1, .int .i64 0, .string v1, .bool false] (0, 0) _ rfl rfl (blk_put (blk_put (blk_put (blk_put (blk_put (blk_put (E5.out) 1 (.int .i64 n1) rfl) 0 (.string a1) rfl) 1 (.int .i64 n1) rfl) 2 (.int .i64 0) rfl) 3 (.string v1) rfl) 4 (.bool false) rfl) Tryd.underlying25 rfl (by kernel_rfl)) rfl ?_
  exact ⟨rfl, ((((((HB5.out).setCell HG.out _).setCell HG.out _).setCell HG.out _).setCell HG.out _).setCell HG.out _).setCell HG.out _⟩
set_option maxRecDepth 100000 in
set_option maxHeartbeats 4000000 in
theorem read_v1 (k : Nat) (a0 w0' w1' w2' : ByteArray) (w : World) (hG : GlobOK w) (hs : a0.size < 4294967281) (h3 : pcs a0 = [w0', w1', w2']) (a1 c1 c2 : ByteArray) (v1 : ByteArray) (n1 : Int) (n2 : Int) (q2 : Bool) (AC : Aside0 (strings_Cut.f w1' ⟨#[46]⟩ = some (c1, c2, true))) (AA : Aside0 (item_after.f k w0' ⟨#[107]⟩ = some (a1, true))) (hd : ¬ w2'.toList = [120]) (AV : Aside0 (item_after.f k w2' ⟨#[61]⟩ = some (v1, true))) (AN : Aside0 (item_number.f c1 = some (n1, true))) (AM : Aside0 (item_number.f c2 = some (n2, q2))) :
    Calls Tryd.prog 15 #[.string a0] w fun e w' => e = .returned (.tuple #[.agg #[.string a1, .int .i64 n1, .int .i64 n2, .string v1, .bool false], .bool q2]) ∧ Below w.heap.size w w' := by
  have hx : (w2'.toList == [120]) = false := by simpa using hd
  have hl3 : (pcs a0).length = 3 := by rw [h3]; rfl
  go_enter Tryd.func15, Tryd.ntmps15
  go_wp2_with (first
    | ((with_reducible refine gate_dst (N := 2) rfl ?_); refine box_event ?hg (N := 2) ?hd (cs := #[.string ⟨#[]⟩, .int .i64 0, .int .i64 0, .string ⟨#[]⟩, .bool false]) (t := 25) ?hr ?_; (case hd => rfl); (case hg => rfl); (case hr => first | (go_simp; done) | (go_simp; rfl)); intro b hb w0 hbox hb0; have E0 := Aside0.mk hbox; have HB0 := Aside0.mk hb0; have HG := Aside0.mk (show w.heap.size ≤ b from Nat.le_of_eq hb.symm); have hsp := split_calls a0 hs w0 (hG.below hb0); clear hb hbox hb0)
    | (go_at_call 22; refine hsp.mono ?_; rintro e w1 ⟨g, n, rfl, hbg, hb1, hps⟩; have P1 := Aside0.mk (hps h3); have E1 := Aside0.mk (blk_below E0.out hb1); have HB1 := Aside0.mk (HB0.out.trans (hb1.mono HB0.out.size)); have hne : g ≠ b := ne_of_block E0.out hbg; have hne' : b ≠ g := Ne.symm hne; clear hb1 hps hsp; obtain ⟨x0, x1, x2, x3, x4, fz⟩ := five E1.out; obtain ⟨p0, p1, p2⟩ := P1.out; )
    | (go_at_call 23; (with_reducible refine (strings_Cut.calls w1' _ c1 c2 true _ (hG.below HB1.out) AC.out).mono ?_); rintro e w2 ⟨rfl, hb2⟩; have P2 := Aside0.mk (P1.out.keep hb2); have E2 := Aside0.mk (blk_below E1.out hb2); have HB2 := Aside0.mk (HB1.out.trans (hb2.mono HB1.out.size)); clear hb2; clear x0 x1 x2 x3 x4 fz p0 p1 p2; obtain ⟨x0, x1, x2, x3, x4, fz⟩ := five E2.out; obtain ⟨p0, p1, p2⟩ := P2.out; )
    | (go_at_call 24; (with_reducible refine (item_after.calls k w0' _ a1 true _ AA.out).mono ?_); rintro e w3 ⟨rfl, hb3⟩; have P3 := Aside0.mk (P2.out.keep hb3); have E3 := Aside0.mk (blk_below E2.out hb3); have HB3 := Aside0.mk (HB2.out.trans (hb3.mono HB2.out.size)); clear hb3; clear x0 x1 x2 x3 x4 fz p0 p1 p2; obtain ⟨x0, x1, x2, x3, x4, fz⟩ := five E3.out; obtain ⟨p0, p1, p2⟩ := P3.out; )
    | (go_at_call 24; (with_reducible refine (item_after.calls k w2' _ v1 true _ AV.out).mono ?_); rintro e w4 ⟨rfl, hb4⟩; have hz4 := HB3.out.size; have P4 := Aside0.mk ((P3.out.far hne' _ _).keep hb4); have E4 := Aside0.mk ((show w4.heap[b]? = some (.cells #[.string a1, .int .i64 0, .int .i64 0, .string ⟨#[]⟩, .bool false] 25 (0, 0)) from blk_below (blk_put (blk_put (E3.out) 0 (.string a1) rfl) 4 (.bool false) rfl) hb4)); have HB4 := Aside0.mk ((below_two HB3.out HG.out _ _ _ _).trans (hb4.mono (by simp; omega))); clear hb4 hz4; clear x0 x1 x2 x3 x4 fz p0 p1 p2; obtain ⟨x0, x1, x2, x3, x4, fz⟩ := five E4.out; obtain ⟨p0, p1, p2⟩ := P4.out; )
    | (go_at_call 25; (with_reducible refine (item_number.calls c1 n1 true _ (hG.below (HB4.out.setCell HG.out _)) AN.out).mono ?_); rintro e w5 ⟨rfl, hb5⟩; have hz := HB4.out.size; have E5 := Aside0.mk ((show w5.heap[b]? = some (.cells #[.string a1, .int .i64 0, .int .i64 0, .string v1, .bool false] 25 (0, 0)) from blk_below (blk_put (E4.out) 3 (.string v1) rfl) hb5)); have HB5 := Aside0.mk ((HB4.out.setCell HG.out _).trans (hb5.mono (by simp; omega))); clear hb5 hz; clear x0 x1 x2 x3 x4 fz; obtain ⟨x0, x1, x2, x3, x4, fz⟩ := five E5.out; )
    | (go_at_call 25; (with_reducible refine (item_number.calls c2 n2 q2 _ (hG.below (HB5.out.setCell HG.out _)) AM.out).mono ?_); rintro e w6 ⟨rfl, hb6⟩; have hz := HB5.out.size; have E6 := Aside0.mk ((show w6.heap[b]? = some (.cells #[.string a1, .int .i64 n1, .int .i64 0, .string v1, .bool false] 25 (0, 0)) from blk_below (blk_put (E5.out) 1 (.int .i64 n1) rfl) hb6)); have HB6 := Aside0.mk ((HB5.out.setCell HG.out _).trans (hb6.mono (by simp; omega))); clear hb6 hz; clear x0 x1 x2 x3 x4 fz; obtain ⟨x0, x1, x2, x3, x4, fz⟩ := five E6.out; ))
  refine bodyPost_ret (res_cell_tmp rfl _ _ b 25 #[.string a1, .int .i64 n1, .int .i64 n2, .string v1, .bool false] (0, 0) _ rfl rfl (blk_put (blk_put (blk_put (blk_put (blk_put (blk_put (E6.out) 2 (.int .i64 n2) rfl) 0 (.string a1) rfl) 1 (.int .i64 n1) rfl) 2 (.int .i64 n2) rfl) 3 (.string v1) rfl) 4 (.bool false) rfl) Tryd.underlying25 rfl (by kernel_rfl)) rfl ?_
  exact ⟨rfl, ((((((HB6.out).setCell HG.out _).setCell HG.out _).setCell HG.out _).setCell HG.out _).setCell HG.out _).setCell HG.out _⟩
set_option maxRecDepth 100000 in
theorem read_s (a0 : ByteArray) (w : World) (hG : GlobOK w) (hs : a0.size < 4294967281) (h3 : ¬ (pcs a0).length = 3) :
    Calls Tryd.prog 15 #[.string a0] w fun e w' => e = .returned (.tuple #[.agg #[.string ⟨#[]⟩, .int .i64 0, .int .i64 0, .string ⟨#[]⟩, .bool false], .bool false]) ∧ Below w.heap.size w w' := by
  have i0 : (((pcs a0).length : Int) != 3) = true := by rw [bne_iff_ne]; omega
  have i1 : ((pcs a0).length == 3) = false := by simpa using h3
  generalize hpl : (pcs a0).length = pl at h3 i0 i1
  have HPL := Aside0.mk hpl
  clear hpl
  go_enter Tryd.func15, Tryd.ntmps15
  go_wp2_with (first
    | ((with_reducible refine gate_dst (N := 2) rfl ?_); refine box_event ?hg (N := 2) ?hd (cs := #[.string ⟨#[]⟩, .int .i64 0, .int .i64 0, .string ⟨#[]⟩, .bool false]) (t := 25) ?hr ?_; (case hd => rfl); (case hg => rfl); (case hr => first | (go_simp; done) | (go_simp; rfl)); intro b hb w0 hbox hb0; have E0 := Aside0.mk hbox; have HB0 := Aside0.mk hb0; have HG := Aside0.mk (show w.heap.size ≤ b from Nat.le_of_eq hb.symm); have hsp := split_calls a0 hs w0 (hG.below hb0); clear hb hbox hb0)
    | (go_at_call 22; refine hsp.mono ?_; rintro e w1 ⟨g, n, rfl, hbg, hb1, hps⟩; rw [HPL.out]; have E1 := Aside0.mk (blk_below E0.out hb1); have HB1 := Aside0.mk (HB0.out.trans (hb1.mono HB0.out.size)); clear hb1 hps hsp; obtain ⟨x0, x1, x2, x3, x4, fz⟩ := five E1.out; ))
  refine bodyPost_ret (res_cell_tmp rfl _ _ b 25 #[.string ⟨#[]⟩, .int .i64 0, .int .i64 0, .string ⟨#[]⟩, .bool false] (0, 0) _ rfl rfl (blk_put (blk_put (blk_put (blk_put (blk_put E1.out 0 (.string ⟨#[]⟩) rfl) 1 (.int .i64 0) rfl) 2 (.int .i64 0) rfl) 3 (.string ⟨#[]⟩) rfl) 4 (.bool false) rfl) Tryd.underlying25 rfl (by kernel_rfl)) rfl ?_
  exact ⟨rfl, ((((HB1.out.setCell HG.out _).setCell HG.out _).setCell HG.out _).setCell HG.out _).setCell HG.out _⟩
theorem item_read.calls (k : Nat) (a0 : ByteArray) (r1 : ByteArray) (r2 r3 : Int) (r4 : ByteArray) (r5 r6 : Bool) (w : World) (hG : GlobOK w) (h : item_read.f k a0 = some (r1, r2, r3, r4, r5, r6)) :
    Calls Tryd.prog 15 #[.string a0] w fun e w' => e = .returned (.tuple #[.agg #[.string r1, .int .i64 r2, .int .i64 r3, .string r4, .bool r5], .bool r6]) ∧ Below w.heap.size w w' := by
  unfold item_read.f at h
  by_cases hs : a0.size < 4294967281
  · rw [if_pos hs] at h
    by_cases h3 : (pcs a0).length = 3
    · rw [if_pos h3] at h
      obtain ⟨w0', w1', w2', hp⟩ : ∃ x y z, pcs a0 = [x, y, z] := by
        rcases hq : pcs a0 with _ | ⟨x, _ | ⟨y, _ | ⟨z, _ | ⟨_, _⟩⟩⟩⟩ <;> rw [hq] at h3 <;> simp at h3
        exact ⟨x, y, z, rfl⟩
      rw [hp] at h
      obtain ⟨⟨c1, c2, c3⟩, hc, h⟩ := Option.bind_eq_some_iff.1 h
      obtain ⟨⟨a1, a2⟩, ha, h⟩ := Option.bind_eq_some_iff.1 h
      have AC := Aside0.mk (show strings_Cut.f w1' ⟨#[46]⟩ = some (c1, c2, c3) from hc)
      have AA := Aside0.mk (show item_after.f k w0' ⟨#[107]⟩ = some (a1, a2) from ha)
      dsimp only at h
      cases a2 with
      | false =>
        rw [if_neg (by decide)] at h
        simp only [Option.some.injEq, Prod.mk.injEq] at h
        obtain ⟨rfl, rfl, rfl, rfl, rfl, rfl⟩ := h
        exact read_a k a0 w0' w1' w2' w hG hs hp a1 c1 c2 c3 AC AA
      | true =>
        rw [if_pos rfl] at h
        cases c3 with
        | false =>
          rw [if_neg (by decide)] at h
          simp only [Option.some.injEq, Prod.mk.injEq] at h
          obtain ⟨rfl, rfl, rfl, rfl, rfl, rfl⟩ := h
          exact read_c k a0 w0' w1' w2' w hG hs hp a1 c1 c2 AC AA
        | true =>
          rw [if_pos rfl] at h
          by_cases hd : w2'.toList = [120]
          · rw [if_pos (show (([w0', w1', w2'] : List ByteArray).getD 2 ⟨#[]⟩).toList = [120] from hd)] at h
            obtain ⟨⟨n1, p2⟩, hn, h⟩ := Option.bind_eq_some_iff.1 h
            have AN := Aside0.mk hn
            dsimp only at h
            cases p2 with
            | false =>
              rw [if_neg (by decide)] at h
              simp only [Option.some.injEq, Prod.mk.injEq] at h
              obtain ⟨rfl, rfl, rfl, rfl, rfl, rfl⟩ := h
              exact read_x0 k a0 w0' w1' w2' w hG hs hp a1 c1 c2 n1 AC AA hd AN
            | true =>
              rw [if_pos rfl] at h
              obtain ⟨⟨n2, q2⟩, hm, h⟩ := Option.bind_eq_some_iff.1 h
              have AM := Aside0.mk hm
              simp only [Option.some.injEq, Prod.mk.injEq] at h
              obtain ⟨rfl, rfl, rfl, rfl, rfl, rfl⟩ := h
              exact read_x1 k a0 w0' w1' w2' w hG hs hp a1 c1 c2 n1 n2 q2 AC AA hd AN AM
          · rw [if_neg (show ¬ (([w0', w1', w2'] : List ByteArray).getD 2 ⟨#[]⟩).toList = [120] from hd)] at h
            obtain ⟨⟨v1, v2⟩, hv, h⟩ := Option.bind_eq_some_iff.1 h
            have AV := Aside0.mk (show item_after.f k w2' ⟨#[61]⟩ = some (v1, v2) from hv)
            dsimp only at h
            cases v2 with
            | false =>
              rw [if_neg (by decide)] at h
              simp only [Option.some.injEq, Prod.mk.injEq] at h
              obtain ⟨rfl, rfl, rfl, rfl, rfl, rfl⟩ := h
              exact read_v k a0 w0' w1' w2' w hG hs hp a1 c1 c2 v1 AC AA hd AV
            | true =>
              rw [if_pos rfl] at h
              obtain ⟨⟨n1, p2⟩, hn, h⟩ := Option.bind_eq_some_iff.1 h
              have AN := Aside0.mk hn
              dsimp only at h
              cases p2 with
              | false =>
                rw [if_neg (by decide)] at h
                simp only [Option.some.injEq, Prod.mk.injEq] at h
                obtain ⟨rfl, rfl, rfl, rfl, rfl, rfl⟩ := h
                exact read_v0 k a0 w0' w1' w2' w hG hs hp a1 c1 c2 v1 n1 AC AA hd AV AN
              | true =>
                rw [if_pos rfl] at h
                obtain ⟨⟨n2, q2⟩, hm, h⟩ := Option.bind_eq_some_iff.1 h
                have AM := Aside0.mk hm
                simp only [Option.some.injEq, Prod.mk.injEq] at h
                obtain ⟨rfl, rfl, rfl, rfl, rfl, rfl⟩ := h
                exact read_v1 k a0 w0' w1' w2' w hG hs hp a1 c1 c2 v1 n1 n2 q2 AC AA hd AV AN AM
    · rw [if_neg h3] at h
      simp only [Option.some.injEq, Prod.mk.injEq] at h
      obtain ⟨rfl, rfl, rfl, rfl, rfl, rfl⟩ := h
      exact read_s a0 w hG hs h3
  · rw [if_neg hs] at h; cases h
end Go.Proofs.YthnjlbdkcpgcjaaDoor.PAll
