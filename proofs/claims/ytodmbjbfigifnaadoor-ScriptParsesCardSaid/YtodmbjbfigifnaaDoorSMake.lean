import Derived.Test.YtodmbjbfigifnaaDoorWWords
import Derived.Test.YtodmbjbfigifnaaDoorWMore
import Derived.Lib.ConvBytes
import Derived.Laws.AppendOwn
namespace Go.Proofs.YtodmbjbfigifnaaDoorW.PrintWords.Kd
open Go.RowKit Go.Proofs.YtodmbjbfigifnaaDoorW.PrintWords
section
variable {α : Type} {P : Program} {ops : Array Oper} {o : Oper} {rest : List Oper} {a : Act} {Q : Exit → Act → World → Prop}
/-- 'make([]T, 0, n)': a row of the call's own, without elements. -/
theorem R_makec (d : Kd α) {w0 W : World} (base e : Nat) (hgd : o.guard = none) {N : Tmp} (_hd : o.dst = some N) (t : TypeId) (x y : Operand) (ho : o.op = .makeSlice t x y) (n : Int) (hx : a.eval x = .int .i64 0) (hy : a.eval y = .int .i64 n)
    (ht : P.underlying t = some (.slice e)) (z : Value) (bytes : Nat) (hinfo : (P.info? e).map (fun i => (i.zero, i.size, i.bytes)) = some (some z, d.sz, bytes)) (hz : z.cells.size = d.sz) (hs0 : 0 < d.sz) (hb0 : 0 < bytes)
    (z0 : α) {ok okp : Nat → Prop} (hzero : d.M W base okp z0 z.cells.toList) (hok : ∀ k, okp k → ok k) (hfresh : ok W.heap.size) (h0 : 0 ≤ n) (hl : n.toNat * bytes ≤ 281474976710656) (HB : Below base w0 W) (hbase : base ≤ W.heap.size)
    (h : ∀ v1 w1, d.R e w1 base ok v1 ([] : List α) → Below base w0 w1 → W.grownBy w1 none → (∃ b, v1.ownBlock = some b ∧ W.heap.size ≤ b) → wpList P ops Q rest (a.put o.dst v1) w1) : wpList P ops Q (o :: rest) a W := by
  obtain ⟨m, rfl⟩ := Int.eq_ofNat_of_zero_le h0
  simp only [Int.toNat_natCast] at hl h
  obtain ⟨i0, hi, hzz⟩ := Option.map_eq_some_iff.1 hinfo
  simp only [Prod.mk.injEq] at hzz
  obtain ⟨hz0, hz1, hz2⟩ := hzz
  have hm : m ≤ 281474976710656 := Nat.le_trans (Nat.le_mul_of_pos_right _ hb0) hl
  have hr := run_make (P := P) W t e i0 z ht hi hz0 .i64 .i64 0 (m : Int) (by omega) (by omega)
    (by
      have h3 : ((i0.bytes * m : Nat) : Int) ≤ 281474976710656 := by rw [hz2, Nat.mul_comm]; omega
      rwa [Int.natCast_mul] at h3) (by omega)
  simp only [Int.toNat_natCast, Int.toNat_zero] at hr
  rw [hz1] at hr
  have hrep := reps_made (R := d.M W base okp) hz hs0 hzero m
  have HR : d.R e (W.alloc (.cells (madeCells z.cells (m * d.sz)) e)) base ok (.slice (some ⟨W.heap.size, 0, none⟩) m m) (List.replicate m z0) := by
    refine ⟨fun k hk => ?_, (madeCells z.cells (m * d.sz)).toList, ?_, ?_⟩
    · have : W.heap.size = k := by simpa [Value.ownBlock] using hk
      subst this
      exact hfresh
    · have h2 := World.ownsRow_lit (base := base) (e := e) (size := d.sz) W (madeCells z.cells (m * d.sz)) m hbase (by simp only [maxLen]; omega) (by simpa using hrep.1)
      simpa using h2
    · refine hrep.imp_ (fun p c hp => d.M_mono (fun k hk => ⟨hok k hk.1, fun he => ?_⟩) (M_below (d.M_bound hp) (below_alloc (Below.refl _ _) _)))
      have h3 : k = W.heap.size := by simpa [Value.ownBlock] using he
      have := hk.2.2.1
      omega
  have HT := R_take (m := 0) HR (Nat.zero_le _)
  rw [List.take_zero] at HT
  refine event_run hgd ?_ (h _ _ HT (HB.alloc hbase _) (World.grownBy_alloc W _ none) ⟨W.heap.size, by simp [Value.ownBlock], Nat.le_refl _⟩)
  simp [execOp, ho, hx, hy, hr]
end
end Go.Proofs.YtodmbjbfigifnaaDoorW.PrintWords.Kd
namespace Go.Proofs.YtodmbjbfigifnaaDoorW.PrintWords.Kd
open Go.RowKit Go.Proofs.YtodmbjbfigifnaaDoorW.PrintWords
section
variable {P : Program} {ops : Array Oper} {o : Oper} {rest : List Oper} {a : Act} {Q : Exit → Act → World → Prop}
/-- '[]byte(s)', which is only read. -/
theorem V_conv {w0 W : World} (base e : Nat) (hgd : o.guard = none) {N : Tmp} (_hd : o.dst = some N) (src dst : TypeId) (x : Operand) (ho : o.op = .convert src dst x) (s : ByteArray) (hx : a.eval x = .string s)
    (hs : P.underlying src = some .string) (ht : P.underlying dst = some (.slice e)) (he : P.underlying e = some (.int .u8)) {ok : Nat → Prop} (hok : ok W.heap.size) (hz : s.size ≤ 9223372036854775807) (HB : Below base w0 W) (hbase : base ≤ W.heap.size)
    (h : ∀ v1 w1, Kd.V (Kd.int .u8) e w1 base ok v1 (bytesOf s) → Below base w0 w1 → W.grownBy w1 none → (∃ b, v1.ownBlock = some b ∧ W.heap.size ≤ b) → wpList P ops Q rest (a.put o.dst v1) w1) : wpList P ops Q (o :: rest) a W := by
  have hr := Lib.run_convert_string_bytes (P := P) W src dst e s hs ht he
  have hg : W.grownBy (Lib.bytesWorld W e s) none := ⟨rfl, rfl, rfl, by rw [Lib.bytesWorld_size]; omega, fun k hk _ => Lib.bytesWorld_at_old W e s k hk⟩
  have hV : Kd.V (Kd.int .u8) e (Lib.bytesWorld W e s) base ok (.slice (some ⟨W.heap.size, 0, none⟩) s.size (grownCap W s.size 0 e)) (bytesOf s) := by
    refine ⟨some ⟨W.heap.size, 0, none⟩, grownCap W s.size 0 e, by rw [bytesOf_length], ?_, ?_⟩
    · rw [bytesOf_length]; exact grownCap_ge W s.size 0 e
    · intro W' hW
      have hk : W'.heap[W.heap.size]? = (Lib.bytesWorld W e s).heap[W.heap.size]? := hW W.heap.size hok (by rw [Lib.bytesWorld_size]; omega)
      refine ⟨rfl, by rw [bytesOf_length]; exact hz, fun _ => ⟨_, rfl, fun j p hp => ⟨[.int .u8 p], rfl, rfl, fun i u hu => ?_⟩⟩⟩
      have hi : i = 0 := by
        cases i with
        | zero => rfl
        | succ i => simp at hu
      subst hi
      simp only [List.getElem?_cons_zero, Option.some.injEq] at hu
      subst hu
      have hj : j < s.size := by rw [← bytesOf_length]; exact (List.getElem?_eq_some_iff.1 hp).1
      have hc := Lib.bytesWorld_cell W e s j hj
      have hpe : p = ((s.data.toList.getD j 0).toNat : Int) := by
        unfold bytesOf at hp
        rw [List.getElem?_map, Option.map_eq_some_iff] at hp
        obtain ⟨b, hb, rfl⟩ := hp
        rw [List.getD_eq_getElem?_getD, hb]; rfl
      rw [hpe]
      have e1 : (⟨W.heap.size, 0, none⟩ : Addr).add (j * 1 + 0) = ⟨W.heap.size, j, none⟩ := by rw [add_plain]; simp
      show W'.cell? ((⟨W.heap.size, 0, none⟩ : Addr).add (j * 1 + 0)) = _
      rw [e1]
      simp only [World.cell?, hk] at hc ⊢
      exact hc
  refine event_run hgd ?_ (h _ _ hV ⟨HB.os, HB.tape, HB.output, Nat.le_trans HB.size (by rw [Lib.bytesWorld_size]; omega), fun k hk => (Lib.bytesWorld_at_old W e s k (Nat.lt_of_lt_of_le hk hbase)).trans (HB.block k hk)⟩ hg ⟨W.heap.size, by simp [Value.ownBlock], Nat.le_refl _⟩)
  simp [execOp, ho, hx, hr]
end
end Go.Proofs.YtodmbjbfigifnaaDoorW.PrintWords.Kd
