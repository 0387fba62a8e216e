-- By wip/late.py (a program of this session) out of wip/words.
import Derived.Test.YtgdhgamolenfgaaProg
import Derived.Test.YtgdhgamolenfgaaWWords
import Derived.Test.YtgdhgamolenfgaaWLast
import Derived.Test.YtgdhgamolenfgaaWMore
import Derived.RangeFuncBox
import Derived.Maps.AppendAt
import Derived.Deep.AppendSrc
import Derived.Deep.Upon
import Derived.Lib.AppendZeros
import Derived.BigQuiet
import Derived.Deep.QuietTactic
import Derived.Lib.Hide
import Derived.Tactics
import Derived.WalkKit
set_option linter.unusedVariables false
set_option linter.unusedSimpArgs false
namespace Go.Proofs.Ytgdhgamolenfgaa.Wr
open Go.RowKit Go.Proofs.YtgdhgamolenfgaaW.PrintWords
/-! append onto a row of the call's own, out of whatever source, and where the new row lies. -/
theorem run_append_own_src {P : Program} (w : World) (base : Nat) (t tx ty e : TypeId) (i : TypeInfo) (z : Value) (size bytes : Nat) (ht : P.underlying t = some (.slice e)) (hi : P.info? e = some i) (hz : i.zero = some z)
    (hsize : i.size = size) (hby : i.bytes = bytes) (hzs : z.cells.size = size) (hsz : 0 < size)
    (v : Value) (n : Nat) (xs : List Value) (hown : w.ownsRow base e size v n xs) (x : Value) (m : Nat) (news : List Value) (hs : Src P size tx x m news w)
    (h63 : n + m ≤ maxLen) (hbytes : (n + m) * bytes ≤ 140737488355328) (hbase : base ≤ w.heap.size) :
    ∃ v' w', (Builtin.append_ #[t, tx] ty #[v, x]).run P w = .ok v' w' ∧ w'.ownsRow base e size v' (n + m) (xs ++ news) ∧ w.grownBy w' v.ownBlock ∧ (v'.ownBlock = v.ownBlock ∨ v'.ownBlock = some w.heap.size) := by
  subst hsize
  subst hby
  have hl := hs.newsLen
  have hsmall : n + m ≤ 9223372036854775807 := by simp only [maxLen] at h63; omega
  have hlen : (xs ++ news).length = (n + m) * i.size := by rw [List.length_append, hown.1, hl, Nat.add_mul]
  have grown : ∀ (old : Nat), old < n + m → ∀ (row : Option Nat),
      (w.drew.alloc (.cells ((xs ++ news).toArray ++ Builtin.zeroCells z.cells (grownCap w (n + m) old e - (n + m))) e)).ownsRow base e i.size
        (.slice (some ⟨w.heap.size, 0, none⟩) (n + m) (grownCap w (n + m) old e)) (n + m) (xs ++ news) ∧
      w.grownBy (w.drew.alloc (.cells ((xs ++ news).toArray ++ Builtin.zeroCells z.cells (grownCap w (n + m) old e - (n + m))) e)) row := by
    intro old ho row
    have hge := grownCap_ge w (n + m) old e
    have hcm : grownCap w (n + m) old e ≤ maxLen := grownCap_le_maxLen w (n + m) old e h63
    refine ⟨⟨hlen, .inr ⟨w.heap.size, _, _, rfl, hbase, heap_alloc_new w.drew _, hge, hcm, ?_, ?_⟩⟩, ⟨rfl, rfl, rfl, by simp, fun k hk _ => Below.heap_alloc w.drew _ k hk⟩⟩
    · simp only [Array.size_append, List.size_toArray, size_zeroCells, hzs, hlen, ← Nat.add_mul]
      congr 1
      omega
    · simp only [Array.toList_append]
      rw [← hlen]
      exact List.take_left
  rcases hown.2 with ⟨rfl, rfl⟩ | ⟨g, cap, cur, rfl, hbg, hg, hnc, hcm, hcs, htake⟩
  · have hx : xs = [] := List.eq_nil_of_length_eq_zero (by simpa using hown.1)
    subst hx
    by_cases hm : m = 0
    · subst hm
      have hn : news = [] := List.eq_nil_of_length_eq_zero (by simpa using hl)
      subst hn
      exact ⟨.slice none 0 0, w, run_append_nothing w t tx ty e i ht hi none 0 0 (Nat.le_refl _) x hs, World.ownsRow_nil w base e i.size, ⟨rfl, rfl, rfl, Nat.le_refl _, fun _ _ _ => rfl⟩, Or.inl rfl⟩
    · have hr := run_append_grow_src (P := P) w t tx ty e i z ht hi hz none 0 0 [] (by simpa using run_firstCells_none (P := P) w.drew i.size 0 0 0) x m news hs (by omega) (by omega) (growslice_fits (by omega) hbytes)
      have hgr := grown 0 (by omega) (Value.ownBlock (.slice none 0 0))
      exact ⟨_, _, hr, hgr.1, hgr.2, Or.inr rfl⟩
  · by_cases hroom : n + m ≤ cap
    · have hfit : n * i.size + news.length ≤ cur.size := by rw [hl, hcs, ← Nat.add_mul]; exact Nat.mul_le_mul_right _ hroom
      have hr := run_append_room_src (P := P) w t tx ty e i ht hi g 0 n cap x m news hs hroom (fun j hj => by rw [blk_cell hg, Array.getElem?_eq_getElem (by omega)]; rfl) (fun j hj => blk_frozen hg _)
      obtain ⟨cur', h1, h2, h3⟩ := setCells_row news (0 + n * i.size) w cur hg (by omega)
      obtain ⟨s1, s2, s3, s4⟩ := setCells_same g news (0 + n * i.size) w
      refine ⟨_, _, hr, ⟨hlen, .inr ⟨g, cap, cur', rfl, hbg, h1, hroom, hcm, by rw [h2, hcs], ?_⟩⟩, ⟨s1, s2, s3, Nat.le_of_eq s4.symm, fun k _ hk => setCells_far news _ k (fun e => hk (by simp [Value.ownBlock, e]))⟩, Or.inl rfl⟩
      rw [h3, Nat.zero_add, htake, ← hlen]
      exact List.take_left
    · have holds : ∀ j u, xs[j]? = some u → w.drew.cell? ((⟨g, 0, none⟩ : Addr).add j) = some u := fun j u hj => (by simpa using hown.cells (g := g) rfl j u hj)
      have hr := run_append_grow_src (P := P) w t tx ty e i z ht hi hz (some ⟨g, 0, none⟩) n cap xs (run_firstCells_some (P := P) w.drew i.size n ⟨g, 0, none⟩ n cap xs hown.1 holds) x m news hs (by omega) (by omega) (growslice_fits (by omega) hbytes)
      have hgr := grown cap (by omega) (Value.ownBlock (.slice (some ⟨g, 0, none⟩) n cap))
      exact ⟨_, _, hr, hgr.1, hgr.2, Or.inr rfl⟩
/-! A writer: a block that holds a slice of bytes of its own. -/
def bv (l : List Int) : List Value := l.map (Value.int .u8)
theorem bv_app (l m : List Int) : bv (l ++ m) = bv l ++ bv m := by simp [bv]
theorem bv_len (l : List Int) : (bv l).length = l.length := by simp [bv]
theorem bv_one (l : List Int) : ∀ u ∈ bv l, u.oneCell' = true := by
  intro u hu
  obtain ⟨x, _, rfl⟩ := List.mem_map.1 hu
  rfl
structure Wrt (n₀ : Nat) (T : TypeId) (W : World) (B : Nat) (v : Value) (l : List Int) : Prop where
  box : Boxed W B T v
  row : W.ownsRow n₀ 5 1 v l.length (bv l)
  lo : n₀ ≤ B
/-- The writer went on: what it holds, and what else became of the world. -/
structure Adv (n₀ : Nat) (T : TypeId) (B : Nat) (w : World) (v : Value) (W : World) (v' : Value) (l : List Int) : Prop where
  st : Wrt n₀ T W B v' l
  kb : KeepBut w W B v.ownBlock
  lies : v'.ownBlock = v.ownBlock ∨ ∃ b, v'.ownBlock = some b ∧ w.heap.size ≤ b
  be : Below n₀ w W
theorem Adv.size {n₀ : Nat} {T : TypeId} {B : Nat} {w W : World} {v v' : Value} {l : List Int} (h : Adv n₀ T B w v W v' l) : w.heap.size ≤ W.heap.size := h.kb.1
theorem Adv.refl {n₀ : Nat} {T : TypeId} {B : Nat} {w : World} {v : Value} {l : List Int} (h : Wrt n₀ T w B v l) : Adv n₀ T B w v w v l := ⟨h, KeepBut.refl _ _ _, .inl rfl, Below.refl _ _⟩
theorem Adv.trans {n₀ : Nat} {T : TypeId} {B : Nat} {w W W2 : World} {v v1 v2 : Value} {l l2 : List Int} (h : Adv n₀ T B w v W v1 l) (h2 : Adv n₀ T B W v1 W2 v2 l2) : Adv n₀ T B w v W2 v2 l2 := by
  refine ⟨h2.st, ⟨Nat.le_trans h.kb.1 h2.kb.1, fun i hi hb hr => ?_⟩, ?_, h.be.trans h2.be⟩
  · refine (h2.kb.2 i (Nat.lt_of_lt_of_le hi h.kb.1) hb ?_).trans (h.kb.2 i hi hb hr)
    rcases h.lies with e | ⟨b, e, hle⟩
    · rw [e]; exact hr
    · rw [e]; intro he; cases he; omega
  · rcases h2.lies with e | ⟨b, e, hle⟩
    · rcases h.lies with e' | ⟨b', e', hle'⟩
      · exact .inl (e.trans e')
      · exact .inr ⟨b', e.trans e', hle'⟩
    · exact .inr ⟨b, e, Nat.le_trans h.kb.1 hle⟩
/-- What an append onto the writer's slice and the store behind it leave. tmp: what was made for the source alone. -/
theorem Wrt.step {n₀ : Nat} {T : TypeId} {B : Nat} {W W0 w1 : World} {v v' : Value} {l m : List Int} (h : Wrt n₀ T W B v l) (hT : T ≠ 5) (hn₀ : n₀ ≤ W.heap.size) (h0 : Below W.heap.size W W0)
    (hown' : w1.ownsRow n₀ 5 1 v' (l.length + m.length) (bv l ++ bv m)) (hgrow : W0.grownBy w1 v.ownBlock) (hat : v'.ownBlock = v.ownBlock ∨ v'.ownBlock = some W0.heap.size) :
    Boxed w1 B T v ∧ Adv n₀ T B W v (w1.setCell ⟨B, 0, none⟩ v') v' (l ++ m) := by
  have hB : B < W.heap.size := h.box.lt
  have hv0 : Boxed W0 B T v := blk_below h.box h0
  have hrow0 : W0.ownsRow n₀ 5 1 v l.length (bv l) := pw_own_below h.row h0
  have hv1 : Boxed w1 B T v := hv0.kept hgrow (hv0.not_row hT hrow0)
  have hne : some B ≠ v'.ownBlock := hv1.not_row hT hown'
  refine ⟨hv1, ⟨⟨hv1.set v', ?_, h.lo⟩, ⟨?_, fun i hi hb hr => ?_⟩, ?_, ?_⟩⟩
  · rw [bv_app, List.length_append]
    exact own_setCell hown' hne _
  · exact Nat.le_trans h0.size (Nat.le_trans hgrow.size (by simp))
  · exact ((Below.heap_setCell w1 ⟨B, 0, none⟩ v' i hb).trans (hgrow.block i (Nat.lt_of_lt_of_le hi h0.size) hr)).trans (h0.block i hi)
  · rcases hat with e | e
    · exact .inl e
    · exact .inr ⟨_, e, h0.size⟩
  · refine ((h0.mono hn₀).grown hgrow (Nat.le_trans hn₀ h0.size) fun j ej => ?_).setCell (p := ⟨B, 0, none⟩) h.lo v'
    rcases h.row.2 with ⟨rfl, _⟩ | ⟨g, cap, cur, rfl, hb, _, _⟩
    · simp [Value.ownBlock] at ej
    · obtain rfl : g = j := by simpa [Value.ownBlock] using ej
      exact hb
theorem Wrt.below {n₀ : Nat} {T : TypeId} {B : Nat} {W W' : World} {v : Value} {l : List Int} (h : Wrt n₀ T W B v l) (hb : Below W.heap.size W W') : Wrt n₀ T W' B v l :=
  ⟨blk_below h.box hb, pw_own_below h.row hb, h.lo⟩
theorem Adv.below {n₀ : Nat} {T : TypeId} {B : Nat} {w W W' : World} {v v' : Value} {l : List Int} (h : Adv n₀ T B w v W v' l) (hn₀ : n₀ ≤ w.heap.size) (hb : Below W.heap.size W W') : Adv n₀ T B w v W' v' l :=
  ⟨h.st.below hb, ⟨Nat.le_trans h.kb.1 hb.size, fun i hi hB hr => (hb.block i (Nat.lt_of_lt_of_le hi h.kb.1)).trans (h.kb.2 i hi hB hr)⟩, h.lies, h.be.trans (hb.mono (Nat.le_trans hn₀ h.kb.1))⟩
/-- A block that is not the writer's, nor its row, stays. -/
theorem Adv.keeps {n₀ : Nat} {T : TypeId} {B : Nat} {w W : World} {v v' : Value} {l : List Int} (h : Adv n₀ T B w v W v' l) {g : Nat} {o : Obj} (hg : w.heap[g]? = some o) (hB : g ≠ B) (hr : some g ≠ v.ownBlock) : W.heap[g]? = some o :=
  (h.kb.2 g (Array.getElem?_eq_some_iff.1 hg).1 hB hr).trans hg
theorem Adv.box {n₀ : Nat} {T : TypeId} {B : Nat} {w W : World} {v v' : Value} {l l0 : List Int} (h : Adv n₀ T B w v W v' l) (hst : Wrt n₀ T w B v l0) {g : Nat} {t : TypeId} {cs : Array Value} (hg : w.heap[g]? = some (.cells cs t (0, 0))) (h1 : t ≠ 5) (h2 : t ≠ T) : W.heap[g]? = some (.cells cs t (0, 0)) := by
  refine h.keeps hg ?_ ?_
  · rintro rfl
    have e := hg.symm.trans hst.box
    injection e with e
    injection e with _ e
    exact h2 e
  · intro e
    obtain ⟨cells, hc⟩ := own_typed hst.row g e.symm
    have e := hg.symm.trans hc
    injection e with e
    injection e with _ e
    exact h1 e
end Go.Proofs.Ytgdhgamolenfgaa.Wr
