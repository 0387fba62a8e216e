import Derived.Test.YtodmbjbfigifnaaGreatDoorProg
import Derived.Test.YtodmbjbfigifnaaGreatDoorG0
import Derived.Test.YtodmbjbfigifnaaGreatDoorG3
import Derived.Test.YtodmbjbfigifnaaGreatDoorG7
import Derived.Test.YtodmbjbfigifnaaGreatDoorG5
import Derived.Lib.Join
import Derived.ChangeArms
import Derived.DataElems
import Derived.ChangeSlices
import Derived.SizedLaws
import Derived.WideShapes
import Derived.KernelRfl
set_option linter.unusedVariables false
set_option linter.unusedSimpArgs false
namespace Go.Proofs.YtodmbjbfigifnaaGreatDoor.Sc
open Go.RowKit Go.Proofs.YtodmbjbfigifnaaGreatDoor.Glob Go.Proofs.YtodmbjbfigifnaaGreatDoor.Dig Go.Proofs.YtodmbjbfigifnaaGreatDoorW.PrintWords Go.Proofs.YtodmbjbfigifnaaGreatDoor.PAll Go.Proofs.YtodmbjbfigifnaaGreatDoor.Pure
theorem evY {α : Type} {P : Prop} [Decidable P] {f g : Nat → Option α} {r : α} (h : P) (H : Ev f r) : Ev (fun k => if P then f k else g k) r := Ev.congr (fun k => if_pos h) H
theorem evN {α : Type} {P : Prop} [Decidable P] {f g : Nat → Option α} {r : α} (h : ¬ P) (H : Ev g r) : Ev (fun k => if P then f k else g k) r := Ev.congr (fun k => if_neg h) H
/-- What every command that is read is. -/
def Good (o : OpT) : Prop := 0 ≤ o.f1 ∧ 0 ≤ o.f2 ∧ 0 ≤ o.f3
def RgOK (o : OpT) : Prop := rgE o.f6.f0 o.f6.f1 o.f6.f2 = 0
theorem num_pos {t : ByteArray} {n : Int} (h : numW t = some n) : 0 ≤ n := by
  unfold numW at h
  split at h
  · rename_i h2
    obtain ⟨h3, h4, h5, _⟩ := num_canon (l := t.data.toList) (most := 9223372036854775807) (n := (numP t.data.toList 9223372036854775807).1) (Prod.ext rfl h2)
    obtain rfl := Option.some.inj h
    exact h4
  · cases h
theorem spn_ok {t : ByteArray} {r : S23} (ht : t.size ≤ 400) (h : spnW t = some r) : rgE r.f0 r.f1 r.f2 = 0 := by
  unfold spnW at h
  split at h
  · rename_i h2
    obtain rfl := Option.some.inj h
    obtain ⟨lo, hi, ok, hc, _, _⟩ := cut_le t ht
    have e : spV t = parV lo hi ok := by unfold spV; rw [hc]
    rw [e] at h2 ⊢
    exact (parV_sizes h2).1
  · cases h
theorem field_keep {c : Nat} {t : ByteArray} {o o1 : OpT} (ht : t.size ≤ 400) (h : fieldW c t o = some o1) : (Good o → Good o1) ∧ o1.f0 = o.f0 ∧ (RgOK o → RgOK o1) ∧ (c = 114 → RgOK o1) := by
  by_cases c1 : c = 110
  · subst c1
    obtain ⟨n, h1, rfl⟩ := map_some (show (numW t).map _ = some o1 from h)
    exact ⟨fun g => ⟨num_pos h1, g.2⟩, rfl, id, fun e => absurd e (by decide)⟩
  by_cases c2 : c = 112
  · subst c2
    obtain ⟨n, h1, rfl⟩ := map_some (show (numW t).map _ = some o1 from h)
    exact ⟨fun g => ⟨g.1, num_pos h1, g.2.2⟩, rfl, id, fun e => absurd e (by decide)⟩
  by_cases c3 : c = 105
  · subst c3
    obtain ⟨n, h1, rfl⟩ := map_some (show (numW t).map _ = some o1 from h)
    exact ⟨fun g => ⟨g.1, g.2.1, num_pos h1⟩, rfl, id, fun e => absurd e (by decide)⟩
  by_cases c4 : c = 107
  · subst c4
    obtain ⟨n, h1, rfl⟩ := map_some (show (bytW 107 t).map _ = some o1 from h)
    exact ⟨id, rfl, id, fun e => absurd e (by decide)⟩
  by_cases c5 : c = 118
  · subst c5
    obtain ⟨n, h1, rfl⟩ := map_some (show (bytW 61 t).map _ = some o1 from h)
    exact ⟨id, rfl, id, fun e => absurd e (by decide)⟩
  unfold fieldW at h
  rw [if_neg c1, if_neg c2, if_neg c3, if_neg c4, if_neg c5] at h
  obtain ⟨n, h1, rfl⟩ := map_some h
  exact ⟨id, rfl, fun _ => spn_ok ht h1, fun _ => spn_ok ht h1⟩
theorem fields_keep : ∀ (cs : List Nat) (ts : List ByteArray) (o o' : OpT), fieldsW cs ts o = some o' → (∀ y ∈ ts, y.size ≤ 400) → (Good o → Good o') ∧ o'.f0 = o.f0 ∧ (RgOK o → RgOK o') ∧ (114 ∈ cs → RgOK o')
  | [], ts, o, o', h, _ => by
    obtain ⟨rfl, rfl⟩ := fields_nil h
    exact ⟨id, rfl, id, fun h => by cases h⟩
  | c :: cs, ts, o, o', h, hs => by
    obtain ⟨a, r, o1, rfl, h1, h2⟩ := fields_cons h
    obtain ⟨g1, g2, g3, g4⟩ := field_keep (hs a (List.mem_cons_self ..)) h1
    obtain ⟨k1, k2, k3, k4⟩ := fields_keep cs r o1 o' h2 fun y hy => hs y (List.mem_cons_of_mem _ hy)
    refine ⟨fun g => k1 (g1 g), k2.trans g2, fun g => k3 (g3 g), fun hm => ?_⟩
    rcases List.mem_cons.1 hm with e | hm
    · exact k3 (g4 e.symm)
    · exact k4 hm
theorem par_more {s : ByteArray} {o : OpT} (h : parW s = some o) : Good o ∧ ∃ x ∈ lets, o.f0 = x.2.1 ∧ (114 ∈ x.2.2 → RgOK o) := by
  unfold parW at h
  split at h
  · cases h
  · rename_i hs
    have hsh := (piecesB_short s 32 (by omega)).1
    cases hp : piecesB s 32 with
    | nil => rw [hp] at h; cases h
    | cons t ts =>
      rw [hp] at h hsh
      obtain ⟨x, hx, hf⟩ := Option.bind_eq_some_iff.1 (show (lets.lookup t).bind _ = some o from h)
      obtain ⟨k1, k2, _, k4⟩ := fields_keep _ _ _ _ hf fun y hy => hsh y (List.mem_cons_of_mem _ hy)
      exact ⟨k1 ⟨Int.le_refl 0, Int.le_refl 0, Int.le_refl 0⟩, _, lookup_mem_self hx, k2, k4⟩
theorem ans_some {t : ByteArray} (h : (ansW t).2 = 0) : parW t = some (ansW t).1 := by
  unfold ansW at h ⊢
  cases hp : parW t with
  | none => rw [hp] at h; exact absurd h (by decide)
  | some o => rfl
/-- A text is told if it says the command. -/
def resR (o : OpT) (t : ByteArray) : ByteArray × Int := if (ansW t).2 = 0 ∧ (ansW t).1 = o then (t, 0) else (⟨#[]⟩, 210)
theorem resR_yes {o : OpT} {t : ByteArray} (h1 : (ansW t).2 = 0) (h2 : (ansW t).1 = o) : resR o t = (t, 0) := if_pos ⟨h1, h2⟩
theorem resR_no {o : OpT} {t : ByteArray} (h : ¬ ((ansW t).2 = 0 ∧ (ansW t).1 = o)) : resR o t = (⟨#[]⟩, 210) := if_neg h
theorem resR_bad {o : OpT} (t : ByteArray) (h : ∀ s, parW s ≠ some o) : resR o t = (⟨#[]⟩, 210) := by
  unfold resR
  rw [if_neg]
  rintro ⟨h1, h2⟩
  exact h t (h2 ▸ ans_some h1)
theorem printV_res {o : OpT} (h4 : ¬ 400 < o.f4.size) (h5 : ¬ 400 < o.f5.size) {ws : List ByteArray} (h : wsV o = some ws) : printV o = resR o (joinB ws) := printV_some h4 h5 h
theorem printV_bad {o : OpT} (h : ∀ s, parW s ≠ some o) : printV o = (⟨#[]⟩, 210) := by
  by_cases h4 : 400 < o.f4.size
  · unfold printV; rw [if_pos h4]
  by_cases h5 : 400 < o.f5.size
  · unfold printV; rw [if_neg h4, if_pos h5]
  cases hw : wsV o with
  | none => exact printV_none h4 h5 hw
  | some ws => rw [printV_res h4 h5 hw]; exact resR_bad _ h
theorem not_good {o : OpT} (h : ¬ Good o) : printV o = (⟨#[]⟩, 210) := printV_bad fun s hs => h (par_more hs).1
/-- A letter's text. -/
def ft (o : OpT) (c : Nat) : ByteArray := if c = 110 then dg o.f1 else if c = 112 then dg o.f2 else if c = 105 then dg o.f3 else if c = 107 then keyT o else if c = 118 then valT o else rngT o
theorem ws_lets (o : OpT) : ∀ x ∈ lets, o.f0 = x.2.1 → wsV o = some (x.1 :: x.2.2.map (ft o)) := by
  intro x hx h
  simp only [lets, List.mem_cons, List.not_mem_nil, or_false] at hx
  rcases hx with rfl | rfl | rfl | rfl | rfl | rfl | rfl | rfl | rfl | rfl | rfl | rfl | rfl | rfl | rfl | rfl | rfl <;> (unfold wsV; rw [h]; rfl)
theorem word_lets : ∀ x ∈ lets, wordP x.2.1 = x.1 := by decide +kernel
theorem lets_ne : ∀ x ∈ lets, x.1.size ≠ 0 ∧ x.1.size ≤ 5 ∧ x.2.2.length ≤ 3 := by decide +kernel
theorem lets_shape : ∀ x ∈ lets, ∀ y ∈ lets, x.2.1 = y.2.1 → y.2.2 = x.2.2 := by decide +kernel
theorem kinds_ne {kd : Int} (h : ∀ x ∈ lets, kd ≠ x.2.1) : kd ≠ 1 ∧ kd ≠ 2 ∧ kd ≠ 3 ∧ kd ≠ 4 ∧ kd ≠ 5 ∧ kd ≠ 6 ∧ kd ≠ 10 ∧ kd ≠ 11 ∧ kd ≠ 12 ∧ kd ≠ 13 ∧ kd ≠ 14 ∧ kd ≠ 15 ∧ kd ≠ 16 ∧ kd ≠ 7 ∧ kd ≠ 8 ∧ kd ≠ 9 ∧ kd ≠ 17 := by
  simpa only [lets, List.forall_mem_cons, List.not_mem_nil, false_implies, implies_true, and_true] using h
theorem word_none {kd : Int} (h : ∀ x ∈ lets, kd ≠ x.2.1) : wordP kd = ⟨#[]⟩ := by
  obtain ⟨h1, h2, h3, h4, h5, h6, h10, h11, h12, h13, h14, h15, h16, h7, h8, h9, h17⟩ := kinds_ne h
  unfold wordP tidelineref21_word.f
  simp only [if_neg h1, if_neg h2, if_neg h3, if_neg h4, if_neg h5, if_neg h6, if_neg h7, if_neg h8, if_neg h9, if_neg h10, if_neg h11, if_neg h12, if_neg h13, if_neg h14, if_neg h15, if_neg h16, if_neg h17]
  rfl
/-- RgOK is decidable. -/
instance (o : OpT) : Decidable (RgOK o) := inferInstanceAs (Decidable (rgE o.f6.f0 o.f6.f1 o.f6.f2 = 0))
/-- What the document's loop answers. -/
def lineR (o : OpT) : ByteArray → List Nat → ByteArray × Int
  | t, [] => resR o t
  | t, c :: cs => if c = 114 ∧ ¬ RgOK o then (⟨#[]⟩, 210) else lineR o (t ++ ⟨#[32]⟩ ++ ft o c) cs
theorem joinB_step (t u : ByteArray) (r : List ByteArray) : joinB (t :: u :: r) = joinB ((t ++ ⟨#[32]⟩ ++ u) :: r) := by
  unfold joinB
  rw [List.map_cons, List.map_cons, List.map_cons, Lib.join_cons, Lib.join_cons]
  unfold Lib.joinTail
  simp
theorem joinB_one (t : ByteArray) : joinB [t] = t := by
  unfold joinB
  rw [List.map_cons, List.map_nil, Lib.join_one]
theorem lineR_ok {o : OpT} : ∀ (cs : List Nat) (t : ByteArray), (114 ∈ cs → RgOK o) → lineR o t cs = resR o (joinB (t :: cs.map (ft o)))
  | [], t, _ => by
    rw [lineR, List.map_nil, joinB_one]
  | c :: cs, t, h => by
    rw [lineR, if_neg (fun e => e.2 (h (e.1 ▸ List.mem_cons_self ..))), lineR_ok cs _ (fun hm => h (List.mem_cons_of_mem _ hm)), List.map_cons, joinB_step]
theorem lineR_no {o : OpT} (hr : ¬ RgOK o) : ∀ (cs : List Nat) (t : ByteArray), 114 ∈ cs → lineR o t cs = (⟨#[]⟩, 210)
  | [], t, h => by cases h
  | c :: cs, t, h => by
    rw [lineR]
    by_cases hc : c = 114
    · rw [if_pos ⟨hc, hr⟩]
    · rw [if_neg (fun e => hc e.1)]
      exact lineR_no hr cs _ ((List.mem_cons.1 h).resolve_left (Ne.symm hc))
theorem cmp_same {a o : OpT} (h : a = o) : (!(a.f0 == o.f0) || (!(a.f1 == o.f1) || (!(a.f2 == o.f2) || (!(a.f3 == o.f3) || (!(a.f4.toList == o.f4.toList) || (!(a.f5.toList == o.f5.toList) || ((!(a.f6.f0.toList == o.f6.f0.toList) || (!(a.f6.f1.toList == o.f6.f1.toList) || (!(a.f6.f2 == o.f6.f2))))))))))) = false := by
  subst h
  simp only [beq_self_eq_true, Bool.not_true, Bool.or_self]
theorem cmp_diff {a o : OpT} (h : a ≠ o) : (!(a.f0 == o.f0) || (!(a.f1 == o.f1) || (!(a.f2 == o.f2) || (!(a.f3 == o.f3) || (!(a.f4.toList == o.f4.toList) || (!(a.f5.toList == o.f5.toList) || ((!(a.f6.f0.toList == o.f6.f0.toList) || (!(a.f6.f1.toList == o.f6.f1.toList) || (!(a.f6.f2 == o.f6.f2))))))))))) = true := by
  refine Classical.byContradiction fun e' => h ?_
  have e := Bool.eq_false_iff.2 e'
  simp only [Bool.or_eq_false_iff, Bool.not_eq_false', beq_iff_eq] at e
  obtain ⟨e0, e1, e2, e3, e4, e5, e6, e7, e8⟩ := e
  exact op_ext e0 e1 e2 e3 (ba_eq.1 e4) (ba_eq.1 e5) (ba_eq.1 e6) (ba_eq.1 e7) e8
theorem let_at {sh : List Nat} {i c : Nat} (h : sh[i]? = some c) (hc : isLet c) : ((i : Int) < ((⟨(sh.map UInt8.ofNat).toArray⟩ : ByteArray).size : Int)) ∧ bt (⟨(sh.map UInt8.ofNat).toArray⟩ : ByteArray) (i : Int) = (c : Int) := by
  obtain ⟨hi, he⟩ := List.getElem?_eq_some_iff.1 h
  have hz : (⟨(sh.map UInt8.ofNat).toArray⟩ : ByteArray).size = sh.length := by
    show (sh.map UInt8.ofNat).toArray.size = _
    rw [List.size_toArray, List.length_map]
  have hb : bytesOf (⟨(sh.map UInt8.ofNat).toArray⟩ : ByteArray) = sh.map fun c => (((UInt8.ofNat c).toNat : Nat) : Int) := by
    unfold bytesOf
    rw [List.map_map]
    rfl
  refine ⟨by rw [hz]; omega, ?_⟩
  rw [bt_nat _ i (by rw [hb, List.length_map]; exact hi)]
  simp only [hb, List.getElem_map, he]
  have : c < 256 := by unfold isLet at hc; omega
  rw [UInt8.toNat_ofNat']
  omega
theorem f_dig {n : Int} (h : n ≤ 9223372036854775807) : tidelineref01_Digits.f n = some (dg n) := by unfold tidelineref01_Digits.f; rw [if_pos h]; rfl
theorem app_size (a b : ByteArray) : (a ++ b).size = a.size + b.size := ByteArray.size_append
theorem one_sz (c : UInt8) : (⟨#[c]⟩ : ByteArray).size = 1 := rfl
theorem room (t u : ByteArray) (c : UInt8) (ht : t.size ≤ 40000) (hu : u.size ≤ 9000) : t.size + 1 ≤ 9223372036854775807 ∧ (t ++ (⟨#[32]⟩ : ByteArray)).size + u.size ≤ 9223372036854775807 ∧ (t ++ (⟨#[32]⟩ : ByteArray)).size + 1 ≤ 9223372036854775807 ∧
    ((t ++ (⟨#[32]⟩ : ByteArray)) ++ (⟨#[c]⟩ : ByteArray)).size + u.size ≤ 9223372036854775807 ∧ (t ++ (⟨#[32]⟩ : ByteArray) ++ u).size ≤ t.size + 10000 := by
  have e1 : (t ++ (⟨#[32]⟩ : ByteArray)).size = t.size + 1 := app_size _ _
  have e2 : ((t ++ (⟨#[32]⟩ : ByteArray)) ++ (⟨#[c]⟩ : ByteArray)).size = (t ++ (⟨#[32]⟩ : ByteArray)).size + 1 := app_size _ _
  have e3 : ((t ++ (⟨#[32]⟩ : ByteArray)) ++ u).size = (t ++ (⟨#[32]⟩ : ByteArray)).size + u.size := app_size _ _
  rw [e2, e3, e1]
  generalize t.size = n at ht
  generalize u.size = m at hu
  omega
theorem rp_loop {o : OpT} (hB : OpB o) (h4 : ¬ 400 < o.f4.size) (h5 : ¬ 400 < o.f5.size) (sh : List Nat) (hL : ∀ c ∈ sh, isLet c) (hl : sh.length ≤ 3) : ∀ (n i : Nat) (t : ByteArray), i + n = sh.length → t.size ≤ 10000 * (i + 1) →
    Ev (fun k => tidelineref21_Print.l0 k t (⟨(sh.map UInt8.ofNat).toArray⟩ : ByteArray) (i : Int) o.f0 o.f1 o.f2 o.f3 o.f4 o.f5 o.f6.f0 o.f6.f1 o.f6.f2) (lineR o t (sh.drop i)) := by
  have hz : (⟨(sh.map UInt8.ofNat).toArray⟩ : ByteArray).size = sh.length := by
    show (sh.map UInt8.ofNat).toArray.size = _
    rw [List.size_toArray, List.length_map]
  intro n
  induction n with
  | zero =>
    intro i t hi ht
    refine Ev.step (fun k => by rw [tidelineref21_Print.l0]) ?_
    refine evN (show ¬ (i : Int) < ((⟨(sh.map UInt8.ofNat).toArray⟩ : ByteArray).size : Int) by rw [hz]; omega) ?_
    rw [List.drop_of_length_le (by omega), lineR]
    unfold tidelineref21_Parse.f
    simp only [Option.bind_some]
    by_cases he : (ansW t).2 = 0
    · by_cases hq : (ansW t).1 = o
      · rw [resR_yes he hq, cmp_same hq]
        exact evY he (evN (by decide) (Ev.const rfl))
      · rw [resR_no fun e => hq e.2, cmp_diff hq]
        exact evY he (evY rfl (Ev.const rfl))
    · rw [resR_no fun e => he e.1]
      exact evN he (Ev.const rfl)
  | succ n ih =>
    intro i t hi ht
    have hi3 : i < 3 := by omega
    have hlt : i < sh.length := by omega
    have hget : sh[i]? = some sh[i] := List.getElem?_eq_getElem hlt
    have hc := hL _ (List.getElem_mem hlt)
    rw [List.drop_eq_getElem_cons hlt, lineR]
    generalize sh[i] = c at hget hc
    obtain ⟨b1, b2⟩ := let_at hget hc
    have ht4 : t.size ≤ 40000 := by clear hz hget; omega
    have hih := fun u (hu : u.size ≤ 9000) => ih (i + 1) (t ++ ⟨#[32]⟩ ++ u) (by clear hz; omega) (Nat.le_trans (room t u 0 ht4 hu).2.2.2.2 (by clear hz; omega))
    refine Ev.step (fun k => by rw [tidelineref21_Print.l0]) ?_
    rw [b2]
    refine evY b1 (evY (room t ⟨#[]⟩ 0 ht4 (Nat.zero_le _)).1 (evY (show (0 : Int) ≤ (i : Int) by omega) ?_))
    have hw : wrap64 ((i : Int) + 1) = ((i + 1 : Nat) : Int) := wrap_succ (by omega)
    rw [hw]
    unfold isLet at hc
    rcases hc with rfl | rfl | rfl | rfl | rfl | rfl
    · refine evY (by decide) (Ev.bind (Ev.const (f_dig hB.n)) ?_)
      have hu : (dg o.f1).size ≤ 9000 := Nat.le_trans (dg_size hB.n) (by decide)
      refine evY (room t _ 0 ht4 hu).2.1 ?_
      rw [if_neg (fun e => absurd e.1 (by decide))]
      exact hih (dg o.f1) hu
    · refine evN (by decide) (evY (by decide) (Ev.bind (Ev.const (f_dig hB.p)) ?_))
      have hu : (dg o.f2).size ≤ 9000 := Nat.le_trans (dg_size hB.p) (by decide)
      refine evY (room t _ 0 ht4 hu).2.1 ?_
      rw [if_neg (fun e => absurd e.1 (by decide))]
      exact hih (dg o.f2) hu
    · refine evN (by decide) (evN (by decide) (evY (by decide) (Ev.bind (Ev.const (f_dig hB.i)) ?_)))
      have hu : (dg o.f3).size ≤ 9000 := Nat.le_trans (dg_size hB.i) (by decide)
      refine evY (room t _ 0 ht4 hu).2.1 ?_
      rw [if_neg (fun e => absurd e.1 (by decide))]
      exact hih (dg o.f3) hu
    · refine evN (by decide) (evN (by decide) (evN (by decide) (evY (by decide) ?_)))
      have hu : (hexB o.f4).size ≤ 8000 := by rw [hexB_size]; clear hz b1; omega
      refine evY (room t ⟨#[]⟩ 0 ht4 (Nat.zero_le _)).2.2.1 (Ev.bind (rhex_f o.f4 (Nat.le_trans (Nat.not_lt.1 h4) (by decide))) ?_)
      refine evY (room t _ 107 ht4 (Nat.le_trans hu (by decide))).2.2.2.1 ?_
      rw [if_neg (fun e => absurd e.1 (by decide)), show ((t ++ (⟨#[32]⟩ : ByteArray)) ++ (⟨#[107]⟩ : ByteArray)) ++ hexB o.f4 = (t ++ (⟨#[32]⟩ : ByteArray)) ++ ((⟨#[107]⟩ : ByteArray) ++ hexB o.f4) from ByteArray.append_assoc]
      exact hih (⟨#[107]⟩ ++ hexB o.f4) (by rw [app_size, one_sz]; clear hz b1; omega)
    · refine evN (by decide) (evN (by decide) (evN (by decide) (evN (by decide) (evY (by decide) ?_))))
      have hu : (hexB o.f5).size ≤ 8000 := by rw [hexB_size]; clear hz b1; omega
      refine evY (room t ⟨#[]⟩ 0 ht4 (Nat.zero_le _)).2.2.1 (Ev.bind (rhex_f o.f5 (Nat.le_trans (Nat.not_lt.1 h5) (by decide))) ?_)
      refine evY (room t _ 61 ht4 (Nat.le_trans hu (by decide))).2.2.2.1 ?_
      rw [if_neg (fun e => absurd e.1 (by decide)), show ((t ++ (⟨#[32]⟩ : ByteArray)) ++ (⟨#[61]⟩ : ByteArray)) ++ hexB o.f5 = (t ++ (⟨#[32]⟩ : ByteArray)) ++ ((⟨#[61]⟩ : ByteArray) ++ hexB o.f5) from ByteArray.append_assoc]
      exact hih (⟨#[61]⟩ ++ hexB o.f5) (by rw [app_size, one_sz]; clear hz b1; omega)
    · refine evN (by decide) (evN (by decide) (evN (by decide) (evN (by decide) (evN (by decide) (Ev.bind (prt_ref o.f6.f0 o.f6.f1 o.f6.f2) ?_)))))
      have hrt : (prtV o.f6.f0 o.f6.f1 o.f6.f2).1 = rngT o := rfl
      by_cases hr : RgOK o
      · have h2 : (prtV o.f6.f0 o.f6.f1 o.f6.f2).2 = 0 := by
          unfold prtV
          rw [if_pos (show rgE o.f6.f0 o.f6.f1 o.f6.f2 = 0 from hr)]
        rw [if_neg (fun e => e.2 hr)]
        have hu : (rngT o).size ≤ 9000 := Nat.le_trans (rng_size o) (by decide)
        refine evY h2 (evY (room t (rngT o) 0 ht4 hu).2.1 ?_)
        exact hih (rngT o) hu
      · have h2 : ¬ (prtV o.f6.f0 o.f6.f1 o.f6.f2).2 = 0 := by
          unfold prtV
          rw [if_neg (show ¬ rgE o.f6.f0 o.f6.f1 o.f6.f2 = 0 from hr)]
          exact hr
        rw [if_pos ⟨rfl, hr⟩]
        exact evN h2 (Ev.const rfl)
/-- The document's Print answers what the program's does. -/
theorem rprint_f (o : OpT) (hB : OpB o) : Ev (fun k => tidelineref21_Print.f k o.f0 o.f1 o.f2 o.f3 o.f4 o.f5 o.f6.f0 o.f6.f1 o.f6.f2) (printV o) := by
  have yes : printV o = (⟨#[]⟩, 210) → Ev (fun k => tidelineref21_Print.j0 k (wordP o.f0) true o.f0 o.f1 o.f2 o.f3 o.f4 o.f5 o.f6.f0 o.f6.f1 o.f6.f2) (printV o) := fun e => by
    rw [e]
    exact Ev.step (fun k => by rw [tidelineref21_Print.j0]) (evY rfl (Ev.const rfl))
  refine Ev.congr (fun k => by rw [tidelineref21_Print.f, wordP_f, Option.bind_some]) ?_
  by_cases hx : ∃ x ∈ lets, o.f0 = x.2.1
  · obtain ⟨x, hm, hk⟩ := hx
    obtain ⟨z1, z2, z3⟩ := lets_ne x hm
    have hwd : wordP o.f0 = x.1 := by rw [hk]; exact word_lets x hm
    refine evN (by rw [toList_nil, hwd]; exact z1) ?_
    by_cases n1 : o.f1 < 0
    · exact evY n1 (yes (not_good fun g => absurd g.1 (by omega)))
    refine evN n1 ?_
    by_cases n2 : o.f2 < 0
    · exact evY n2 (yes (not_good fun g => absurd g.2.1 (by omega)))
    refine evN n2 ?_
    by_cases n3 : o.f3 < 0
    · exact evY n3 (yes (not_good fun g => absurd g.2.2 (by omega)))
    refine evN n3 ?_
    by_cases h4 : 400 < o.f4.size
    · exact evY (show (o.f4.size : Int) > 400 by omega) (yes (by unfold printV; rw [if_pos h4]))
    refine evN (show ¬ (o.f4.size : Int) > 400 by omega) ?_
    by_cases h5 : 400 < o.f5.size
    · rw [decide_eq_true (show (o.f5.size : Int) > 400 by omega)]
      exact yes (by unfold printV; rw [if_neg h4, if_pos h5])
    rw [decide_eq_false (show ¬ (o.f5.size : Int) > 400 by omega)]
    refine Ev.step (fun k => by rw [tidelineref21_Print.j0]) (evN (by decide) ?_)
    have hsh := shape_lets x hm
    rw [← hk] at hsh
    refine Ev.bind (Ev.of (tidelineref21_shape.mono o.f0) hsh) ?_
    have hlo := rp_loop hB h4 h5 x.2.2 (lets_let x hm).2 z3 x.2.2.length 0 (wordP o.f0) (by omega) (by rw [hwd]; omega)
    rw [List.drop_zero] at hlo
    refine Ev.val hlo ?_
    rw [printV_res h4 h5 (ws_lets o x hm hk)]
    by_cases hr : 114 ∈ x.2.2 → RgOK o
    · rw [lineR_ok _ _ hr, hwd]
    · have hr1 : 114 ∈ x.2.2 := Classical.byContradiction fun e => hr fun h => absurd h e
      have hr2 : ¬ RgOK o := fun e => hr fun _ => e
      rw [lineR_no hr2 _ _ hr1]
      refine (resR_bad _ fun s hs => ?_).symm
      obtain ⟨y, hy, hky, hyr⟩ := (par_more hs).2
      exact hr2 (hyr ((lets_shape x hm y hy (hk.symm.trans hky)) ▸ hr1))
  · have hn : ∀ x ∈ lets, o.f0 ≠ x.2.1 := fun x hm e => hx ⟨x, hm, e⟩
    refine evY (by rw [word_none hn]; decide +kernel) (yes ?_)
    exact printV_bad fun s hs => hx (by obtain ⟨x, hm, hk, _⟩ := (par_more hs).2; exact ⟨x, hm, hk⟩)
end Go.Proofs.YtodmbjbfigifnaaGreatDoor.Sc
set_option linter.unusedVariables false
set_option linter.unusedSimpArgs false
namespace Go.Proofs.YtodmbjbfigifnaaGreatDoor.Pure
open Go.RowKit Go.Proofs.YtodmbjbfigifnaaGreatDoor.PAll Go.Proofs.YtodmbjbfigifnaaGreatDoorW.PrintWords Go.Proofs.YtodmbjbfigifnaaGreatDoorW.PrintLast Go.Proofs.YtodmbjbfigifnaaGreatDoorW.PrintMore
open Go.Proofs.YtodmbjbfigifnaaGreatDoor.Sc Go.Proofs.YtodmbjbfigifnaaGreatDoor.Glob
theorem long_f (o : OpT) : ∃ t, tidelinelaw21_long.f o.f0 o.f1 o.f2 o.f3 o.f4 o.f5 o.f6.f0 o.f6.f1 o.f6.f2 = some t ∧ (t = false → o.f4.size ≤ 268435456 ∧ o.f5.size ≤ 268435456 ∧ o.f6.f0.size ≤ 268435456 ∧ o.f6.f1.size ≤ 268435456) := by
  unfold tidelinelaw21_long.f
  by_cases h4 : (o.f4.size : Int) > 268435456
  · rw [if_pos h4]; exact ⟨true, rfl, fun h => by cases h⟩
  by_cases h5 : (o.f5.size : Int) > 268435456
  · rw [if_neg h4, if_pos h5]; exact ⟨true, rfl, fun h => by cases h⟩
  by_cases h6 : (o.f6.f0.size : Int) > 268435456
  · rw [if_neg h4, if_neg h5, if_pos h6]; exact ⟨true, rfl, fun h => by cases h⟩
  · rw [if_neg h4, if_neg h5, if_neg h6]
    refine ⟨_, rfl, fun h => ?_⟩
    have h7 := of_decide_eq_false h
    omega
theorem wf_le {x : Int} (h : (Lit.int .i64 x).wf = true) : x ≤ 9223372036854775807 := by
  simp only [Lit.wf, IntKind.min, IntKind.max, IntKind.signed, IntKind.bits, Bool.and_eq_true, decide_eq_true_eq, if_true] at h
  omega
theorem bounds_of {o : OpT} (h : fit25 o) (hl : o.f4.size ≤ 268435456 ∧ o.f5.size ≤ 268435456 ∧ o.f6.f0.size ≤ 268435456 ∧ o.f6.f1.size ≤ 268435456) : OpB o := by
  obtain ⟨h0, h1, h2, h3, _⟩ := h
  obtain ⟨l4, l5, l6, l7⟩ := hl
  exact ⟨wf_le h1, wf_le h2, wf_le h3, by omega, by omega, by omega, by omega⟩
theorem print_ok {o : OpT} (hB : OpB o) : script_Print.f o.f0 o.f1 o.f2 o.f3 o.f4 o.f5 o.f6.f0 o.f6.f1 o.f6.f2 = some (printV o) := by
  unfold script_Print.f
  rw [if_pos hB.n, if_pos hB.p, if_pos hB.i, if_pos hB.k, if_pos hB.v, if_pos hB.a, if_pos hB.b]
/-- A command that is written: the text says it. -/
theorem printed {o : OpT} (h : (printV o).2 = 0) : ∃ ws, wsV o = some ws ∧ (printV o).1 = joinB ws ∧ parW (printV o).1 = some o := by
  by_cases h4 : 400 < o.f4.size
  · unfold printV at h; rw [if_pos h4] at h; exact absurd h (by decide)
  by_cases h5 : 400 < o.f5.size
  · unfold printV at h; rw [if_neg h4, if_pos h5] at h; exact absurd h (by decide)
  cases hw : wsV o with
  | none => rw [printV_none h4 h5 hw] at h; exact absurd h (by decide)
  | some ws =>
    rw [printV_res h4 h5 hw] at h ⊢
    unfold resR at h ⊢
    by_cases hc : (ansW (joinB ws)).2 = 0 ∧ (ansW (joinB ws)).1 = o
    · rw [if_pos hc]
      exact ⟨ws, rfl, rfl, hc.2 ▸ ans_some hc.1⟩
    · rw [if_neg hc] at h; exact absurd h (by decide)
end Go.Proofs.YtodmbjbfigifnaaGreatDoor.Pure
set_option linter.unusedVariables false
namespace Go.Proofs.YtodmbjbfigifnaaGreatDoor.Open
open Go.ChangeShapes Go.WideShapes Go.Proofs.YtodmbjbfigifnaaGreatDoorW.PrintWords Go.Proofs.YtodmbjbfigifnaaGreatDoorW.PrintMore
/-- What is read as_ data at type t is a value of the kind d, within its bounds. -/
def Opens {α : Type} (P : Program) (t : TypeId) (d : Kd α) (Fit : α → Prop) : Prop :=
  ∀ (H : Type) (enc : TypeId × Value → H) (w : World) (base : Nat) (spare : Nat → Bool) (held : Bool) (fuel : Nat) (cs : List Value) (x : DataW H × List MemPlace),
    DataW.trod enc P w base spare held fuel t cs = some x → (∀ n ∈ x.1.weights P t, n ≤ 140737488351232) → ∃ y : α, d.K w y cs ∧ Fit y
section
variable {P : Program} {t : TypeId}
theorem opens_int {k : IntKind} (ht : P.underlying t = some (.int k)) : Opens P t (Kd.int k) (fun n => (Lit.int k n).wf = true) := by
  intro H enc w base spare held fuel cs x h _
  obtain ⟨n, rfl, rfl, hw⟩ := DataW.trod_int ht h
  exact ⟨n, rfl, hw⟩
theorem opens_bool (ht : P.underlying t = some .bool) : Opens P t Kd.bool (fun _ => True) := by
  intro H enc w base spare held fuel cs x h _
  obtain ⟨b, rfl, rfl⟩ := DataW.trod_bool ht h
  exact ⟨b, rfl, trivial⟩
theorem opens_string (ht : P.underlying t = some .string) : Opens P t Kd.string (fun s => s.size ≤ 140737488351232) := by
  intro H enc w base spare held fuel cs x h hs
  obtain ⟨s, rfl, rfl, hw⟩ := DataW.trod_string ht h
  exact ⟨s, rfl, by simpa [DataW.weights] using hs⟩
theorem weightsAll_mem {H : Type} {e : TypeId} : ∀ (ds : List (DataW H)) (d : DataW H), d ∈ ds → ∀ n ∈ d.weights P e, n ∈ DataW.weightsAll P e ds
  | [], _, h, _, _ => by simp at h
  | d0 :: ds, d, h, n, hn => by
    simp only [DataW.weightsAll, List.mem_append]
    rcases List.mem_cons.1 h with rfl | h
    · exact .inl hn
    · exact .inr (weightsAll_mem ds d h n hn)
theorem cells?_get {w : World} {base : Nat} {a : Addr} {n : Nat} {cs : List Value} (h : w.cells? base a n = some cs) : cs.length = n ∧ ∀ i u, cs[i]? = some u → w.cell? (a.add i) = some u := by
  obtain ⟨_, hl, hc⟩ := World.cells?_some h
  refine ⟨hl, fun i u hu => ?_⟩
  have hi : i < n := by rw [← hl]; exact (List.getElem?_eq_some_iff.1 hu).1
  rw [hc i hi, hu]
theorem choose_list {β γ : Type} {Q : Nat → β → γ → Prop} : ∀ (l : List β), (∀ i b, l[i]? = some b → ∃ c, Q i b c) → ∃ r : List γ, r.length = l.length ∧ ∀ i b c, l[i]? = some b → r[i]? = some c → Q i b c := by
  intro l
  induction l generalizing Q with
  | nil => intro _; exact ⟨[], rfl, fun i b c h => by simp at h⟩
  | cons b l ih =>
    intro h
    obtain ⟨c, hc⟩ := h 0 b rfl
    obtain ⟨r, hr, hq⟩ := ih (Q := fun i => Q (i + 1)) (fun i b' hb => h (i + 1) b' hb)
    refine ⟨c :: r, by simp [hr], ?_⟩
    intro i b' c' h1 h2
    cases i with
    | zero => simp at h1 h2; subst h1; subst h2; exact hc
    | succ i => exact hq i b' c' h1 h2
theorem opens_slice {α : Type} {d : Kd α} {Fit : α → Prop} {e : TypeId} {B : Nat} (ht : P.underlying t = some (.slice e)) (hc : P.cellsOf e = d.sz) (hB : P.bytesOf e = B) (h : Opens P e d Fit) :
    Opens P t (Kd.slice e d) (fun l => l.length * B ≤ 140737488351232 ∧ ∀ x ∈ l, Fit x) := by
  intro H enc w base spare held fuel cs x hx hs
  rcases DataW.trod_slice ht hx with ⟨rfl, rfl⟩ | ⟨a, len, cap, elems, rest, n, _, rfl, rfl, hb, hl, hm, hlen, hel, hsp, hns⟩
  · exact ⟨[], ⟨none, 0, rfl, Nat.le_refl _, ⟨rfl, by simp, fun h => by simp at h⟩⟩, by simp, by simp⟩
  · have hw : (elems.length + rest.length) * P.bytesOf e ≤ 140737488351232 := by
      have := hs ((elems.length + rest.length) * P.bytesOf e) (by simp [DataW.weights, ht])
      exact this
    have hwe : ∀ y ∈ elems, ∀ n ∈ y.1.weights P e, n ≤ 140737488351232 := by
      intro y hy m hmm
      refine hs m ?_
      simp only [DataW.weights, ht, List.mem_cons, List.mem_append]
      exact .inr (.inl (weightsAll_mem _ y.1 (List.mem_map_of_mem hy) m hmm))
    obtain ⟨r, hr, hq⟩ := choose_list (Q := fun i (y : DataW H × List MemPlace) (z : α) => Fit z ∧ ∃ c, c.length = d.sz ∧ d.K w z c ∧ ∀ j u, c[j]? = some u → w.cell? (a.add (i * d.sz + j)) = some u) elems (by
      intro i y hy
      have hi : i < len := by rw [← hlen]; exact (List.getElem?_eq_some_iff.1 hy).1
      have h1 := hel i hi
      rw [hy, Option.bind_eq_some_iff] at h1
      obtain ⟨c, hcs, ht'⟩ := h1
      obtain ⟨z, hz, hf⟩ := h H enc w base spare held n c y ht' (hwe y (List.mem_of_getElem? hy))
      obtain ⟨hcl, hcg⟩ := cells?_get hcs
      rw [hc] at hcl hcg
      refine ⟨z, hf, c, hcl, hz, fun j u hu => ?_⟩
      have := hcg j u hu
      rwa [Addr.add_add] at this)
    have hrl : r.length = len := by rw [hr, hlen]
    refine ⟨r, ⟨some a, cap, by rw [hrl], by omega, ⟨rfl, by rw [hrl]; unfold maxLen at hm; omega, fun _ => ⟨a, rfl, ?_⟩⟩⟩, ?_, ?_⟩
    · intro j p hp
      have hj : j < elems.length := by rw [← hr]; exact (List.getElem?_eq_some_iff.1 hp).1
      exact (hq j _ p (List.getElem?_eq_getElem hj) hp).2
    · rw [hB] at hw
      exact Nat.le_trans (Nat.mul_le_mul_right _ (by omega)) hw
    · intro z hz
      obtain ⟨i, hi⟩ := List.getElem?_of_mem hz
      have hj : i < elems.length := by rw [← hr]; exact (List.getElem?_eq_some_iff.1 hi).1
      exact (hq i _ z (List.getElem?_eq_getElem hj) hi).1
/-- The fields of a struct, from the cell 'off' on. -/
def OpensF {α : Type} (P : Program) (fs : List Field) (off : Nat) (d : Kd α) (Fit : α → Prop) : Prop :=
  ∀ (H : Type) (enc : TypeId × Value → H) (w : World) (base : Nat) (spare : Nat → Bool) (held : Bool) (fuel : Nat) (cs : List Value) (xs : List (DataW H × List MemPlace)),
    cs.length = off + d.sz → xs.length = fs.length → (∀ (i : Nat) (f : Field), fs[i]? = some f → DataW.trod enc P w base spare held fuel f.type ((cs.drop f.offset).take (P.cellsOf f.type)) = xs[i]?) →
    (∀ n ∈ DataW.weightsEach P (fs.map (fun f : Field => f.type)) (xs.map (fun x => x.1)), n ≤ 140737488351232) → ∃ y : α, d.K w y (cs.drop off) ∧ Fit y
theorem opensF_one {α : Type} {d : Kd α} {Fit : α → Prop} {f : Field} {off : Nat} (ho : f.offset = off) (hc : P.cellsOf f.type = d.sz) (h : Opens P f.type d Fit) : OpensF P [f] off d Fit := by
  intro H enc w base spare held fuel cs xs hl hx hg hs
  obtain ⟨x, rfl⟩ : ∃ x, xs = [x] := by
    match xs, hx with
    | [x], _ => exact ⟨x, rfl⟩
  have h1 := hg 0 f rfl
  rw [ho, hc, List.take_of_length_le (by rw [List.length_drop]; omega)] at h1
  exact h H enc w base spare held fuel _ x h1 (fun n hn => hs n (by simp [DataW.weightsEach, hn]))
theorem opensF_cons {α β : Type} {a : Kd α} {b : Kd β} {FA : α → Prop} {FB : β → Prop} {f : Field} {fs : List Field} {off : Nat} (ho : f.offset = off) (hc : P.cellsOf f.type = a.sz) (h : Opens P f.type a FA)
    (hf : OpensF P fs (off + a.sz) b FB) : OpensF P (f :: fs) off (Kd.pair a b) (fun x => FA x.1 ∧ FB x.2) := by
  intro H enc w base spare held fuel cs xs hl hx hg hs
  have hsz : (Kd.pair a b).sz = a.sz + b.sz := rfl
  rw [hsz] at hl
  match xs, hx with
  | x :: xs, hx =>
    have h1 := hg 0 f rfl
    rw [ho, hc] at h1
    obtain ⟨y, hy, fy⟩ := h H enc w base spare held fuel _ x h1 (fun n hn => hs n (by simp [DataW.weightsEach, hn]))
    obtain ⟨z, hz, fz⟩ := hf H enc w base spare held fuel cs xs (by omega) (by simpa using hx) (fun i f' hf' => hg (i + 1) f' hf') (fun n hn => hs n (by simp [DataW.weightsEach]; right; simpa using hn))
    refine ⟨(y, z), ⟨_, _, ?_, hy, hz⟩, fy, fz⟩
    rw [← List.drop_drop, List.take_append_drop]
theorem opens_struct {α : Type} {d : Kd α} {Fit : α → Prop} {fs : Array Field} (ht : P.underlying t = some (.struct fs)) (hc : P.cellsOf t = d.sz) (h : OpensF P fs.toList 0 d Fit) : Opens P t d Fit := by
  intro H enc w base spare held fuel cs x hx hs
  obtain ⟨xs, n, rfl, rfl, hl, hxs, hg⟩ := DataW.trod_struct ht hx
  obtain ⟨y, hy, fy⟩ := h H enc w base spare held n cs xs (by omega) (by simpa using hxs) (fun i f hf => hg i f (by simpa using hf)) (fun m hm => hs m (by simpa [DataW.weights, ht] using hm))
  exact ⟨y, by simpa using hy, fy⟩
theorem opens_iso {α β : Type} {d : Kd α} {Fit : α → Prop} {f : β → α} {G : β → Prop} (g : α → β) (hfg : ∀ x, f (g x) = x) (h : Opens P t d Fit) (hG : ∀ y, Fit (f y) → G y) : Opens P t (Kd.iso d f) G := by
  intro H enc w base spare held fuel cs x hx hs
  obtain ⟨y, hy, fy⟩ := h H enc w base spare held fuel cs x hx hs
  exact ⟨g y, by show d.K w (f (g y)) cs; rw [hfg]; exact hy, hG _ (by rw [hfg]; exact fy)⟩
end
end Go.Proofs.YtodmbjbfigifnaaGreatDoor.Open
namespace Go.Proofs.YtodmbjbfigifnaaGreatDoor.PAll
open Go.Proofs.YtodmbjbfigifnaaGreatDoor.Open Go.Proofs.YtodmbjbfigifnaaGreatDoorW.PrintWords
theorem opens23 : Opens Tryz.prog 23 k23 fit23 := (opens_iso (fun (p : (ByteArray) × (ByteArray) × (Bool)) => (⟨p.1, p.2.1, p.2.2⟩ : S23)) (fun _ => rfl) (opens_struct Tryz.underlying23 (by kernel_rfl) (opensF_cons rfl (by kernel_rfl) (opens_string Tryz.underlying9) (opensF_cons rfl (by kernel_rfl) (opens_string Tryz.underlying9) (opensF_one rfl (by kernel_rfl) (opens_bool Tryz.underlying4))))) (by intro y h; exact h))
theorem opens25 : Opens Tryz.prog 25 k25 fit25 := (opens_iso (fun (p : (Int) × (Int) × (Int) × (Int) × (ByteArray) × (ByteArray) × (S23)) => (⟨p.1, p.2.1, p.2.2.1, p.2.2.2.1, p.2.2.2.2.1, p.2.2.2.2.2.1, p.2.2.2.2.2.2⟩ : S25)) (fun _ => rfl) (opens_struct Tryz.underlying25 (by kernel_rfl) (opensF_cons rfl (by kernel_rfl) (opens_int Tryz.underlying3) (opensF_cons rfl (by kernel_rfl) (opens_int Tryz.underlying3) (opensF_cons rfl (by kernel_rfl) (opens_int Tryz.underlying3) (opensF_cons rfl (by kernel_rfl) (opens_int Tryz.underlying3) (opensF_cons rfl (by kernel_rfl) (opens_string Tryz.underlying9) (opensF_cons rfl (by kernel_rfl) (opens_string Tryz.underlying9) (opensF_one rfl (by kernel_rfl) opens23)))))))) (by intro y h; exact h))
end Go.Proofs.YtodmbjbfigifnaaGreatDoor.PAll
