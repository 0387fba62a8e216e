import Derived.ChangeArms
import Derived.DataElems
import Derived.ChangeSlices
import Derived.SizedLaws
import Derived.WideShapes
import Derived.Test.YtdkkpngmplehfaaDoorWWords
import Derived.Test.YtdkkpngmplehfaaDoorWMore
set_option linter.unusedVariables false
namespace Go.Proofs.YtdkkpngmplehfaaDoor.Open
open Go.ChangeShapes Go.WideShapes Go.Proofs.YtdkkpngmplehfaaDoorW.PrintWords Go.Proofs.YtdkkpngmplehfaaDoorW.PrintMore
/-- What is read as data at type t is a value of the kind d, within its bounds. -/
def Opens {α : Type} (P : Program) (t : TypeId) (d : Kd α) (Fit : α → Prop) : Prop :=
  ∀ (H : Type) (enc : TypeId × Value → H) (w : World) (base : Nat) (spare : Nat → Bool) (held : Bool) (fuel : Nat) (cs : List Value) (x : DataW H × List MemPlace),
    DataW.trod enc P w base spare held fuel t cs = some x → (∀ n ∈ x.1.weights P t, n ≤ 140737488351232) → ∃ y : α, d.K w y cs ∧ Fit y
section
variable {P : Program} {t : TypeId}
theorem opens_int {k : IntKind} (ht : P.underlying t = some (.int k)) : Opens P t (Kd.int k) (fun n => (Lit.int k n).wf = true) := by
  intro H enc w base spare held fuel cs x h _
  obtain ⟨n, rfl, rfl, hw⟩ := DataW.trod_int ht h
  exact ⟨n, rfl, hw⟩
theorem opens_bool (ht : P.underlying t = some .bool) : Opens P t Kd.bool (fun _ => True) := by
  intro H enc w base spare held fuel cs x h _
  obtain ⟨b, rfl, rfl⟩ := DataW.trod_bool ht h
  exact ⟨b, rfl, trivial⟩
theorem opens_string (ht : P.underlying t = some .string) : Opens P t Kd.string (fun s => s.size ≤ 140737488351232) := by
  intro H enc w base spare held fuel cs x h hs
  obtain ⟨s, rfl, rfl, hw⟩ := DataW.trod_string ht h
  exact ⟨s, rfl, by simpa [DataW.weights] using hs⟩
theorem weightsAll_mem {H : Type} {e : TypeId} : ∀ (ds : List (DataW H)) (d : DataW H), d ∈ ds → ∀ n ∈ d.weights P e, n ∈ DataW.weightsAll P e ds
  | [], _, h, _, _ => by simp at h
  | d0 :: ds, d, h, n, hn => by
    simp only [DataW.weightsAll, List.mem_append]
    rcases List.mem_cons.1 h with rfl | h
    · exact .inl hn
    · exact .inr (weightsAll_mem ds d h n hn)
theorem cells?_get {w : World} {base : Nat} {a : Addr} {n : Nat} {cs : List Value} (h : w.cells? base a n = some cs) : cs.length = n ∧ ∀ i u, cs[i]? = some u → w.cell? (a.add i) = some u := by
  obtain ⟨_, hl, hc⟩ := World.cells?_some h
  refine ⟨hl, fun i u hu => ?_⟩
  have hi : i < n := by rw [← hl]; exact (List.getElem?_eq_some_iff.1 hu).1
  rw [hc i hi, hu]
theorem choose_list {β γ : Type} {Q : Nat → β → γ → Prop} : ∀ (l : List β), (∀ i b, l[i]? = some b → ∃ c, Q i b c) → ∃ r : List γ, r.length = l.length ∧ ∀ i b c, l[i]? = some b → r[i]? = some c → Q i b c := by
  intro l
  induction l generalizing Q with
  | nil => intro _; exact ⟨[], rfl, fun i b c h => by simp at h⟩
  | cons b l ih =>
    intro h
    obtain ⟨c, hc⟩ := h 0 b rfl
    obtain ⟨r, hr, hq⟩ := ih (Q := fun i => Q (i + 1)) (fun i b' hb => h (i + 1) b' hb)
    refine ⟨c :: r, by simp [hr], ?_⟩
    intro i b' c' h1 h2
    cases i with
    | zero => simp at h1 h2; subst h1; subst h2; exact hc
    | succ i => exact hq i b' c' h1 h2
theorem opens_slice {α : Type} {d : Kd α} {Fit : α → Prop} {e : TypeId} {B : Nat} (ht : P.underlying t = some (.slice e)) (hc : P.cellsOf e = d.sz) (hB : P.bytesOf e = B) (h : Opens P e d Fit) :
    Opens P t (Kd.slice e d) (fun l => l.length * B ≤ 140737488351232 ∧ ∀ x ∈ l, Fit x) := by
  intro H enc w base spare held fuel cs x hx hs
  rcases DataW.trod_slice ht hx with ⟨rfl, rfl⟩ | ⟨a, len, cap, elems, rest, n, _, rfl, rfl, hb, hl, hm, hlen, hel, hsp, hns⟩
  · exact ⟨[], ⟨none, 0, rfl, Nat.le_refl _, ⟨rfl, by simp, fun h => by simp at h⟩⟩, by simp, by simp⟩
  · have hw : (elems.length + rest.length) * P.bytesOf e ≤ 140737488351232 := by
      have := hs ((elems.length + rest.length) * P.bytesOf e) (by simp [DataW.weights, ht])
      exact this
    have hwe : ∀ y ∈ elems, ∀ n ∈ y.1.weights P e, n ≤ 140737488351232 := by
      intro y hy m hmm
      refine hs m ?_
      simp only [DataW.weights, ht, List.mem_cons, List.mem_append]
      exact .inr (.inl (weightsAll_mem _ y.1 (List.mem_map_of_mem hy) m hmm))
    obtain ⟨r, hr, hq⟩ := choose_list (Q := fun i (y : DataW H × List MemPlace) (z : α) => Fit z ∧ ∃ c, c.length = d.sz ∧ d.K w z c ∧ ∀ j u, c[j]? = some u → w.cell? (a.add (i * d.sz + j)) = some u) elems (by
      intro i y hy
      have hi : i < len := by rw [← hlen]; exact (List.getElem?_eq_some_iff.1 hy).1
      have h1 := hel i hi
      rw [hy, Option.bind_eq_some_iff] at h1
      obtain ⟨c, hcs, ht'⟩ := h1
      obtain ⟨z, hz, hf⟩ := h H enc w base spare held n c y ht' (hwe y (List.mem_of_getElem? hy))
      obtain ⟨hcl, hcg⟩ := cells?_get hcs
      rw [hc] at hcl hcg
      refine ⟨z, hf, c, hcl, hz, fun j u hu => ?_⟩
      have := hcg j u hu
      rwa [Addr.add_add] at this)
    have hrl : r.length = len := by rw [hr, hlen]
    refine ⟨r, ⟨some a, cap, by rw [hrl], by omega, ⟨rfl, by rw [hrl]; unfold maxLen at hm; omega, fun _ => ⟨a, rfl, ?_⟩⟩⟩, ?_, ?_⟩
    · intro j p hp
      have hj : j < elems.length := by rw [← hr]; exact (List.getElem?_eq_some_iff.1 hp).1
      exact (hq j _ p (List.getElem?_eq_getElem hj) hp).2
    · rw [hB] at hw
      exact Nat.le_trans (Nat.mul_le_mul_right _ (by omega)) hw
    · intro z hz
      obtain ⟨i, hi⟩ := List.getElem?_of_mem hz
      have hj : i < elems.length := by rw [← hr]; exact (List.getElem?_eq_some_iff.1 hi).1
      exact (hq i _ z (List.getElem?_eq_getElem hj) hi).1
/-- The fields of a struct, from the cell 'off' on. -/
def OpensF {α : Type} (P : Program) (fs : List Field) (off : Nat) (d : Kd α) (Fit : α → Prop) : Prop :=
  ∀ (H : Type) (enc : TypeId × Value → H) (w : World) (base : Nat) (spare : Nat → Bool) (held : Bool) (fuel : Nat) (cs : List Value) (xs : List (DataW H × List MemPlace)),
    cs.length = off + d.sz → xs.length = fs.length → (∀ (i : Nat) (f : Field), fs[i]? = some f → DataW.trod enc P w base spare held fuel f.type ((cs.drop f.offset).take (P.cellsOf f.type)) = xs[i]?) →
    (∀ n ∈ DataW.weightsEach P (fs.map (fun f : Field => f.type)) (xs.map (fun x => x.1)), n ≤ 140737488351232) → ∃ y : α, d.K w y (cs.drop off) ∧ Fit y
theorem opensF_one {α : Type} {d : Kd α} {Fit : α → Prop} {f : Field} {off : Nat} (ho : f.offset = off) (hc : P.cellsOf f.type = d.sz) (h : Opens P f.type d Fit) : OpensF P [f] off d Fit := by
  intro H enc w base spare held fuel cs xs hl hx hg hs
  obtain ⟨x, rfl⟩ : ∃ x, xs = [x] := by
    match xs, hx with
    | [x], _ => exact ⟨x, rfl⟩
  have h1 := hg 0 f rfl
  rw [ho, hc, List.take_of_length_le (by rw [List.length_drop]; omega)] at h1
  exact h H enc w base spare held fuel _ x h1 (fun n hn => hs n (by simp [DataW.weightsEach, hn]))
theorem opensF_cons {α β : Type} {a : Kd α} {b : Kd β} {FA : α → Prop} {FB : β → Prop} {f : Field} {fs : List Field} {off : Nat} (ho : f.offset = off) (hc : P.cellsOf f.type = a.sz) (h : Opens P f.type a FA)
    (hf : OpensF P fs (off + a.sz) b FB) : OpensF P (f :: fs) off (Kd.pair a b) (fun x => FA x.1 ∧ FB x.2) := by
  intro H enc w base spare held fuel cs xs hl hx hg hs
  have hsz : (Kd.pair a b).sz = a.sz + b.sz := rfl
  rw [hsz] at hl
  match xs, hx with
  | x :: xs, hx =>
    have h1 := hg 0 f rfl
    rw [ho, hc] at h1
    obtain ⟨y, hy, fy⟩ := h H enc w base spare held fuel _ x h1 (fun n hn => hs n (by simp [DataW.weightsEach, hn]))
    obtain ⟨z, hz, fz⟩ := hf H enc w base spare held fuel cs xs (by omega) (by simpa using hx) (fun i f' hf' => hg (i + 1) f' hf') (fun n hn => hs n (by simp [DataW.weightsEach]; right; simpa using hn))
    refine ⟨(y, z), ⟨_, _, ?_, hy, hz⟩, fy, fz⟩
    rw [← List.drop_drop, List.take_append_drop]
theorem opens_struct {α : Type} {d : Kd α} {Fit : α → Prop} {fs : Array Field} (ht : P.underlying t = some (.struct fs)) (hc : P.cellsOf t = d.sz) (h : OpensF P fs.toList 0 d Fit) : Opens P t d Fit := by
  intro H enc w base spare held fuel cs x hx hs
  obtain ⟨xs, n, rfl, rfl, hl, hxs, hg⟩ := DataW.trod_struct ht hx
  obtain ⟨y, hy, fy⟩ := h H enc w base spare held n cs xs (by omega) (by simpa using hxs) (fun i f hf => hg i f (by simpa using hf)) (fun m hm => hs m (by simpa [DataW.weights, ht] using hm))
  exact ⟨y, by simpa using hy, fy⟩
theorem opens_iso {α β : Type} {d : Kd α} {Fit : α → Prop} {f : β → α} {G : β → Prop} (g : α → β) (hfg : ∀ x, f (g x) = x) (h : Opens P t d Fit) (hG : ∀ y, Fit (f y) → G y) : Opens P t (Kd.iso d f) G := by
  intro H enc w base spare held fuel cs x hx hs
  obtain ⟨y, hy, fy⟩ := h H enc w base spare held fuel cs x hx hs
  exact ⟨g y, by show d.K w (f (g y)) cs; rw [hfg]; exact hy, hG _ (by rw [hfg]; exact fy)⟩
theorem opens_mono {α : Type} {d : Kd α} {F G : α → Prop} (hFG : ∀ x, F x → G x) (h : Opens P t d F) : Opens P t d G := by
  intro H enc w base spare held fuel cs x hx hs
  obtain ⟨y, hy, fy⟩ := h H enc w base spare held fuel cs x hx hs
  exact ⟨y, hy, hFG y fy⟩
end
end Go.Proofs.YtdkkpngmplehfaaDoor.Open
