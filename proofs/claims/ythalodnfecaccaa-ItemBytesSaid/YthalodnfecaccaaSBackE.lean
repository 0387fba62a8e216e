-- By wip/late.py (a program of this session) out of wip/words.
import Derived.Test.YthalodnfecaccaaProg
import Derived.Test.YthalodnfecaccaaWWords
import Derived.Test.YthalodnfecaccaaWLast
import Derived.Test.YthalodnfecaccaaWMore
import Derived.Test.YthalodnfecaccaaPAllx0
import Derived.Test.YthalodnfecaccaaPAllx1
import Derived.Test.YthalodnfecaccaaSLawIBytes
import Derived.Test.YthalodnfecaccaaSRdGet
import Derived.Test.YthalodnfecaccaaSRdOf
import Derived.Test.YthalodnfecaccaaSWrBytes
import Derived.Test.YthalodnfecaccaaSRdText
import Derived.Test.YthalodnfecaccaaSRdFlag
import Derived.Test.YthalodnfecaccaaSRdNumC
import Derived.WalkKit
import Derived.OwnWalk
import Derived.Test.YthalodnfecaccaaSRdP
import Derived.Test.YthalodnfecaccaaSNumsP
set_option linter.unusedVariables false
set_option linter.unusedSimpArgs false
namespace Go.Proofs.Ythalodnfecaccaa.Rd
open Go.RowKit Go.Proofs.YthalodnfecaccaaW.PrintWords Go.Proofs.Ythalodnfecaccaa.Pure Go.Proofs.Ythalodnfecaccaa.Wr Go.Proofs.Ythalodnfecaccaa.PAll
/-! An entry's bytes, and what bytes say of an entry: plain lists. -/
theorem numB_bytes : ∀ (k : Nat) (u : Int), 0 ≤ u → u < 128 ^ (k + 1) → ∀ c ∈ numB k u, 0 ≤ c ∧ c < 256 := by
  intro k
  induction k with
  | zero =>
    intro u h0 h1 c hc
    simp only [numB, List.mem_singleton] at hc
    have : (128 : Int) ^ (0 + 1) = 128 := by decide
    omega
  | succ k ih =>
    intro u h0 h1 c hc
    simp only [numB] at hc
    split at hc
    · simp only [List.mem_singleton] at hc; omega
    · rcases List.mem_cons.1 hc with rfl | hc
      · omega
      · refine ih (u / 128) (by omega) ?_ c hc
        have e : (128 : Int) ^ (k + 1 + 1) = 128 ^ (k + 1) * 128 := Int.pow_succ _ _
        rw [e] at h1
        exact Int.ediv_lt_of_lt_mul (by omega) h1
theorem bytesOf_bytes (t : ByteArray) : ∀ c ∈ bytesOf t, 0 ≤ c ∧ c < 256 := by
  intro c hc
  obtain ⟨b, _, rfl⟩ := List.mem_map.1 hc
  have := b.toNat_lt
  omega
theorem str_bytesOf (t : ByteArray) : strOfNums (bytesOf t) = t := by
  have : (bytesOf t).map (fun n => UInt8.ofNat n.toNat) = t.data.toList := by
    unfold bytesOf
    rw [List.map_map]
    conv => rhs; rw [← List.map_id t.data.toList]
    apply List.map_congr_left
    intro b _
    simp
  unfold strOfNums
  rw [this]
theorem back_num {M : Int} {L rest : List Int} {p : Nat} {v : Int} (h : L.drop p = numB 8 v ++ rest) (h0 : 0 ≤ v) (h1 : v ≤ 9223372036854775807) (h2 : v ≤ M) : numR M L p = (v, (numB 8 v).length, 0) := by
  unfold numR
  rw [h]
  have e : (128 : Int) ^ (8 + 1) = 9223372036854775808 := by decide
  have := numGo_numB M rest 8 0 0 v rfl h0 (by rw [e]; omega) (fun h => absurd h (by omega)) (by simpa using h2)
  simpa using this
theorem back_text {M : Int} {L rest : List Int} {p : Nat} {t : ByteArray} (h : L.drop p = numB 8 t.size ++ (bytesOf t ++ rest)) (hs : t.size ≤ 70368744177664) (h2 : (t.size : Int) ≤ M) : rText M L p 0 = (t, p + ((numB 8 t.size).length + t.size), 0) := by
  have hn := back_num (M := M) h (Int.natCast_nonneg _) (by omega) h2
  have hb : (bytesOf t).length = t.size := bytesOf_length t
  have hl := congrArg List.length h
  simp only [List.length_drop, List.length_append, hb] at hl
  have hp := (numB_len 8 (t.size : Int)).1
  rw [rText_ok hn (by omega)]
  have e1 : (L.take (p + (numB 8 t.size).length + t.size)).drop (p + (numB 8 t.size).length) = bytesOf t := by
    rw [List.drop_take, ← List.drop_drop, h, List.drop_left, show p + (numB 8 (t.size : Int)).length + t.size - (p + (numB 8 (t.size : Int)).length) = t.size by omega, ← hb, List.take_left]
  rw [e1, str_bytesOf, Nat.add_assoc]
theorem back_flag {L rest : List Int} {p : Nat} {b : Bool} (h : L.drop p = [if b = true then 1 else 0] ++ rest) : rFlag L p 0 = (b, p + 1, 0) := by
  have hl := congrArg List.length h
  simp only [List.length_drop, List.length_append, List.length_singleton] at hl
  have hg : L.getD p 0 = if b = true then 1 else 0 := by
    have := congrArg (fun l => l.getD 0 0) h
    simpa [List.getD_eq_getElem?_getD] using this
  rw [rFlag_ok (by omega) hg (by cases b <;> simp)]
  cases b <;> simp
theorem bytesOf_strB (l : List Int) (h : ∀ x ∈ l, 0 ≤ x ∧ x < 256) : bytesOf (strOfNums l) = l := by
  unfold bytesOf
  rw [strOfNums_data, List.map_map]
  conv => rhs; rw [← List.map_id l]
  refine List.map_congr_left fun x hx => ?_
  have := h x hx
  simp only [Function.comp_apply, id_eq]
  rw [UInt8.toNat_ofNat']
  omega
theorem nil_of_list {s : ByteArray} (h : s.toList = ([] : List UInt8)) : s = ⟨#[]⟩ := by
  rw [Go.ByteArray.toList_eq] at h
  apply Go.WideShapes.bytes_inj
  rw [h]
theorem list_of_nil : (⟨#[]⟩ : ByteArray).toList = ([] : List UInt8) := by rw [Go.ByteArray.toList_eq]
theorem chk_iff (x : S25) : item_Check.f x.f0 x.f1.f0 x.f1.f1 x.f2 x.f3 = some 0 ↔ x.f0.size ≤ 16 ∧ (1 ≤ x.f1.f0 ∧ x.f1.f0 ≤ 1099511627776) ∧ (0 ≤ x.f1.f1 ∧ x.f1.f1 ≤ 7) ∧ x.f2.size ≤ 32 ∧ (x.f3 = true → x.f2 = ⟨#[]⟩) := by
  have v1 : item_CheckVersion.f x.f1.f0 x.f1.f1 = some (if 1 ≤ x.f1.f0 ∧ x.f1.f0 ≤ 1099511627776 ∧ 0 ≤ x.f1.f1 ∧ x.f1.f1 < 8 then 0 else 30) := by
    unfold item_CheckVersion.f
    (repeat' split) <;> first | rfl | omega
  unfold item_Check.f
  rw [v1, Option.bind_some]
  by_cases h1 : (x.f0.size : Int) > 16
  · rw [if_pos h1]; exact ⟨fun h => by simp at h, fun h => by omega⟩
  · rw [if_neg h1]
    by_cases h2 : 1 ≤ x.f1.f0 ∧ x.f1.f0 ≤ 1099511627776 ∧ 0 ≤ x.f1.f1 ∧ x.f1.f1 < 8
    · rw [if_pos h2, if_pos rfl]
      by_cases h3 : (x.f2.size : Int) > 32
      · rw [if_pos h3]; exact ⟨fun h => by simp at h, fun h => by omega⟩
      · rw [if_neg h3]
        by_cases h4 : x.f3 = true
        · rw [if_pos h4]
          by_cases h5 : x.f2.toList = ([] : List UInt8)
          · rw [if_pos h5]; exact ⟨fun _ => ⟨by omega, ⟨h2.1, h2.2.1⟩, ⟨h2.2.2.1, by omega⟩, by omega, fun _ => nil_of_list h5⟩, fun _ => rfl⟩
          · rw [if_neg h5]; exact ⟨fun h => by simp at h, fun h => absurd (by rw [h.2.2.2.2 h4]; exact list_of_nil) h5⟩
        · rw [if_neg h4]; exact ⟨fun _ => ⟨by omega, ⟨h2.1, h2.2.1⟩, ⟨h2.2.2.1, by omega⟩, by omega, fun h => absurd h h4⟩, fun _ => rfl⟩
    · rw [if_neg h2, if_neg (by decide)]; exact ⟨fun h => by simp at h, fun h => absurd ⟨h.2.1.1, h.2.1.2, h.2.2.1.1, by have := h.2.2.1.2; omega⟩ h2⟩
theorem code_ok {x : S25} (h : codeE x = 0) : item_Check.f x.f0 x.f1.f0 x.f1.f1 x.f2 x.f3 = some 0 := by
  rcases chk_cases x with ⟨h1, _, _⟩ | ⟨c, hc, h1, _⟩
  · exact h1
  · unfold codeE at h; rw [h1] at h; exact absurd h hc
theorem pastE {L part rest : List Int} {p q : Nat} (h : L.drop p = part ++ rest) (hq : q = p + part.length) : L.drop q = rest := by
  subst hq
  rw [← List.drop_drop, h, List.drop_left]
theorem numB_b {n : Int} (h0 : 0 ≤ n) (h1 : n ≤ 9223372036854775807) : ∀ c ∈ numB 8 n, 0 ≤ c ∧ c < 256 := by
  have e : (128 : Int) ^ (8 + 1) = 9223372036854775808 := by decide
  exact numB_bytes 8 n h0 (by rw [e]; omega)
theorem txtB_b {t : ByteArray} (h : t.size ≤ 70368744177664) : ∀ c ∈ txtB t, 0 ≤ c ∧ c < 256 := by
  intro c hc
  rcases List.mem_append.1 hc with hc | hc
  · exact numB_b (Int.natCast_nonneg _) (by omega) c hc
  · exact bytesOf_bytes t c hc
theorem putA_bytes (x : S25) : ∀ c ∈ putA x, 0 ≤ c ∧ c < 256 := by
  intro c hc
  unfold putA at hc
  split at hc
  · rename_i h
    obtain ⟨h1, h2, h3, h4, h5⟩ := (chk_iff x).1 h
    unfold putB at hc
    simp only [List.mem_append] at hc
    rcases hc with hc | hc | hc | hc | hc
    · exact txtB_b (by omega) c hc
    · exact numB_b (by omega) (by omega) c hc
    · exact numB_b (by omega) (by omega) c hc
    · simp only [List.mem_singleton] at hc; split at hc <;> omega
    · split at hc
      · simp at hc
      · exact txtB_b (by omega) c hc
  · simp at hc
/-- What was laid down says the entry. -/
theorem of_putA {x : S25} (h : codeE x = 0) : ofR (putA x) = ⟨x.f0, x.f1.f0, x.f1.f1, x.f2, x.f3, 0⟩ := by
  have hk := code_ok h
  obtain ⟨h1, h2, h3, h4, h5⟩ := (chk_iff x).1 hk
  have hA : putA x = putB x := by unfold putA; rw [if_pos hk]
  rw [hA]
  obtain ⟨L, hL⟩ : ∃ L, L = putB x := ⟨_, rfl⟩
  rw [← hL]
  have d0 : L.drop 0 = numB 8 x.f0.size ++ (bytesOf x.f0 ++ (numB 8 x.f1.f0 ++ (numB 8 x.f1.f1 ++ ([if x.f3 = true then 1 else 0] ++ (if x.f3 = true then [] else txtB x.f2))))) := by
    rw [hL, List.drop_zero]; unfold putB txtB; simp [List.append_assoc]
  have q1 := back_text (M := 16) d0 (by omega) (by omega)
  have e1 : (numB 8 (x.f0.size : Int) ++ bytesOf x.f0).length = (numB 8 (x.f0.size : Int)).length + x.f0.size := by rw [List.length_append, bytesOf_length]
  have d1 : L.drop (0 + ((numB 8 (x.f0.size : Int)).length + x.f0.size)) = numB 8 x.f1.f0 ++ (numB 8 x.f1.f1 ++ ([if x.f3 = true then 1 else 0] ++ (if x.f3 = true then [] else txtB x.f2))) :=
    pastE (part := numB 8 x.f0.size ++ bytesOf x.f0) (by rw [d0, List.append_assoc]) (by rw [e1])
  obtain ⟨p1, hp1⟩ : ∃ p1, p1 = 0 + ((numB 8 (x.f0.size : Int)).length + x.f0.size) := ⟨_, rfl⟩
  rw [← hp1] at q1 d1
  have q2 := rNum_ok (back_num (M := 1099511627776) d1 (by omega) (by omega) h2.2)
  have d2 := pastE d1 rfl
  obtain ⟨p2, hp2⟩ : ∃ p2, p2 = p1 + (numB 8 x.f1.f0).length := ⟨_, rfl⟩
  simp only [← hp2] at q2 d2
  have q3 := rNum_ok (back_num (M := 7) d2 h3.1 (by omega) h3.2)
  have d3 := pastE d2 rfl
  obtain ⟨p3, hp3⟩ : ∃ p3, p3 = p2 + (numB 8 x.f1.f1).length := ⟨_, rfl⟩
  simp only [← hp3] at q3 d3
  have q4 := back_flag d3
  have d4 : L.drop (p3 + 1) = if x.f3 = true then [] else txtB x.f2 := pastE d3 rfl
  have hcn : ¬ x.f1.f0 = 0 := by omega
  have hp3l : p3 + 1 ≤ L.length := by
    have := congrArg List.length d3
    simp only [List.length_drop, List.length_append, List.length_singleton] at this
    omega
  cases hd : x.f3 with
  | true =>
    rw [hd, if_pos rfl] at d4
    rw [hd] at q4
    have hv := h5 hd
    have hg := getR_eq q1 q2 q3 q4 (v := ⟨#[]⟩) (p5 := p3 + 1) (e5 := 0) (e6 := 0) (if_pos rfl) (if_neg hcn)
    rw [if_pos rfl] at hg
    have hlen : L.length ≤ p3 + 1 := by
      have := congrArg List.length d4
      simp only [List.length_drop, List.length_nil] at this
      omega
    unfold ofR
    rw [hg]
    have hr : rDone L (p3 + 1) 0 = 0 := if_neg (fun h => by omega)
    simp only [hr, if_true]
    rw [hv]
  | false =>
    rw [hd, if_neg (by decide)] at d4
    rw [hd] at q4
    have d5 : L.drop (p3 + 1) = numB 8 x.f2.size ++ (bytesOf x.f2 ++ []) := by rw [d4]; unfold txtB; rw [List.append_nil]
    have q5 := back_text (M := 32) d5 (by omega) (by omega)
    have hg := getR_eq q1 q2 q3 q4 (v := x.f2) (e5 := 0) (e6 := 0) (by rw [if_neg (by decide)]; exact q5) (if_neg hcn)
    rw [if_pos rfl] at hg
    have hlen : L.length ≤ p3 + 1 + ((numB 8 (x.f2.size : Int)).length + x.f2.size) := by
      have := congrArg List.length d5
      simp only [List.length_drop, List.length_append, List.length_nil, bytesOf_length] at this
      omega
    unfold ofR
    rw [hg]
    have hr : rDone L (p3 + 1 + ((numB 8 (x.f2.size : Int)).length + x.f2.size)) 0 = 0 := if_neg (fun h => by omega)
    simp only [hr, if_true]
/-! The other way round. -/
theorem numR_inv {most : Int} {l : List Int} {p : Nat} {n : Int} {m : Nat} (hb : ∀ x ∈ l, 0 ≤ x ∧ x < 256) (hp : p ≤ l.length) (h : numR most l p = (n, m, 0)) : 0 ≤ n ∧ n ≤ most ∧ p + m ≤ l.length ∧ l.drop p = numB 8 n ++ l.drop (p + m) := by
  obtain ⟨u, h0, _, h1, h2, h3, h4, h5, h6, h7⟩ := numB_numGo most (l.drop p) 0 0 n m (fun c hc => hb c (List.mem_of_mem_drop hc)) (by omega) h
  have e : n = u := by rw [h2]; simp
  subst e
  rw [List.length_drop] at h5
  refine ⟨h0, h3, by omega, ?_⟩
  have h8 : numB 8 n = (l.drop p).take m := by simpa using h7
  rw [h8, ← List.drop_drop, List.take_append_drop]
theorem rNum_inv {most : Int} {l : List Int} {p : Nat} {e n : Int} {p' : Nat} (hb : ∀ x ∈ l, 0 ≤ x ∧ x < 256) (hp : p ≤ l.length) (h : rNum most l p e = (n, p', 0)) : e = 0 ∧ 0 ≤ n ∧ n ≤ most ∧ p' ≤ l.length ∧ l.drop p = numB 8 n ++ l.drop p' := by
  unfold rNum at h
  split at h
  · rename_i he
    simp only [Prod.mk.injEq] at h
    obtain ⟨h1, h2, h3⟩ := h
    have := numR_inv (n := (numR most l p).1) (m := (numR most l p).2.1) hb hp (by rw [← h3])
    rw [h1, h2] at this
    exact ⟨he, this⟩
  · rename_i he
    simp only [Prod.mk.injEq] at h
    exact absurd h.2.2 he
theorem rText_inv {most : Int} {l : List Int} {p : Nat} {e : Int} {t : ByteArray} {p' : Nat} (hb : ∀ x ∈ l, 0 ≤ x ∧ x < 256) (hp : p ≤ l.length) (h : rText most l p e = (t, p', 0)) : e = 0 ∧ (t.size : Int) ≤ most ∧ p' ≤ l.length ∧ l.drop p = txtB t ++ l.drop p' := by
  unfold rText at h
  split at h
  · rename_i he
    split at h
    · rename_i h0
      split at h
      · simp at h
      · rename_i hs
        simp only [Prod.mk.injEq, and_true] at h
        obtain ⟨h1, h2⟩ := h
        obtain ⟨n, m, hnm⟩ : ∃ n m, numR most l p = (n, m, 0) := ⟨_, _, by rw [← h0]⟩
        rw [hnm] at h1 h2 hs
        simp only at h1 h2 hs
        obtain ⟨b0, b1, b2, b3⟩ := numR_inv hb hp hnm
        obtain ⟨N, rfl⟩ : ∃ N : Nat, n = (N : Int) := ⟨n.toNat, by omega⟩
        simp only [Int.toNat_natCast] at h1 h2
        have hl : ((l.take (p + m + N)).drop (p + m)).length = N := by rw [List.length_drop, List.length_take]; omega
        have hbb : ∀ x ∈ (l.take (p + m + N)).drop (p + m), 0 ≤ x ∧ x < 256 := fun x hx => hb x (List.mem_of_mem_take (List.mem_of_mem_drop hx))
        have ht : bytesOf t = (l.take (p + m + N)).drop (p + m) := by rw [← h1, bytesOf_strB _ hbb]
        have hsz : t.size = N := by rw [← bytesOf_length, ht, hl]
        refine ⟨he, by rw [hsz]; exact b1, by omega, ?_⟩
        unfold txtB
        rw [hsz, ht, ← h2, b3, List.append_assoc]
        congr 1
        rw [List.drop_take, show p + m + N - (p + m) = N by omega]
        have h9 := (List.take_append_drop N (l.drop (p + m))).symm
        rw [List.drop_drop] at h9
        exact h9
    · rename_i h0
      simp only [Prod.mk.injEq] at h
      exact absurd h.2.2 h0
  · rename_i he
    simp only [Prod.mk.injEq] at h
    exact absurd h.2.2 he
theorem rFlag_inv {l : List Int} {p : Nat} {e : Int} {b : Bool} {p' : Nat} (hb : ∀ x ∈ l, 0 ≤ x ∧ x < 256) (h : rFlag l p e = (b, p', 0)) : e = 0 ∧ p' ≤ l.length ∧ l.drop p = [if b = true then 1 else 0] ++ l.drop p' := by
  unfold rFlag at h
  split at h
  · rename_i he
    split at h
    · simp at h
    · rename_i h0
      split at h
      · simp at h
      · rename_i h1
        simp only [Prod.mk.injEq, and_true] at h
        obtain ⟨h2, h3⟩ := h
        have hg := getD_byte hb p
        refine ⟨he, by omega, ?_⟩
        rw [drop_get (by omega), ← h3, ← h2]
        have hbit : l.getD p 0 = (if decide (l.getD p 0 = 1) = true then (1 : Int) else 0) := by
          by_cases hv : l.getD p 0 = 1
          · rw [hv]; rfl
          · rw [if_neg (by simp only [decide_eq_true_eq]; exact hv)]; omega
        exact congrArg (· :: l.drop (p + 1)) hbit
  · rename_i he
    simp only [Prod.mk.injEq] at h
    exact absurd h.2.2 he
theorem putA_of {l : List Int} (hb : ∀ x ∈ l, 0 ≤ x ∧ x < 256) (h : (ofR l).e = 0) : codeE (ofX (ofR l)) = 0 ∧ putA (ofX (ofR l)) = l := by
  obtain ⟨⟨k, p1, e1⟩, q1⟩ : ∃ q, rText 16 l 0 0 = q := ⟨_, rfl⟩
  obtain ⟨⟨cn, p2, e2⟩, q2⟩ : ∃ q, rNum 1099511627776 l p1 e1 = q := ⟨_, rfl⟩
  obtain ⟨⟨nd, p3, e3⟩, q3⟩ : ∃ q, rNum 7 l p2 e2 = q := ⟨_, rfl⟩
  obtain ⟨⟨d, p4, e4⟩, q4⟩ : ∃ q, rFlag l p3 e3 = q := ⟨_, rfl⟩
  obtain ⟨⟨v, p5, e5⟩, q5⟩ : ∃ q, (if d = true then ((⟨#[]⟩ : ByteArray), p4, e4) else rText 32 l p4 e4) = q := ⟨_, rfl⟩
  obtain ⟨e6, q6⟩ : ∃ q, (if cn = 0 then rFail e5 30 else e5) = q := ⟨_, rfl⟩
  have hg := getR_eq q1 q2 q3 q4 q5 q6
  have hor : ofR l = if rDone l (getR l 0 0).p (getR l 0 0).e = 0 then ⟨(getR l 0 0).k, (getR l 0 0).cn, (getR l 0 0).nd, (getR l 0 0).v, (getR l 0 0).d, 0⟩ else ⟨⟨#[]⟩, 0, 0, ⟨#[]⟩, false, rDone l (getR l 0 0).p (getR l 0 0).e⟩ := rfl
  have hD : rDone l (getR l 0 0).p (getR l 0 0).e = 0 := by
    by_cases hz : rDone l (getR l 0 0).p (getR l 0 0).e = 0
    · exact hz
    · rw [hor, if_neg hz] at h; exact absurd h hz
  rw [if_pos hD] at hor
  have hge : (getR l 0 0).e = 0 ∧ ¬ (getR l 0 0).p < l.length := by
    unfold rDone at hD
    split at hD
    · simp at hD
    · rename_i hn
      exact ⟨hD, fun hlt => hn ⟨hD, hlt⟩⟩
  have he6 : e6 = 0 := by
    have := hge.1
    rw [hg] at this
    split at this <;> exact this
  rw [if_pos he6] at hg
  subst he6
  have hcn : ¬ cn = 0 := by
    intro hz
    rw [if_pos hz] at q6
    unfold rFail at q6
    split at q6
    · simp at q6
    · rename_i hn; exact hn q6
  rw [if_neg hcn] at q6
  subst q6
  have hpe : ¬ p5 < l.length := by have := hge.2; rw [hg] at this; exact this
  have hfin : ∃ p4', p4' = p4 ∧ e4 = 0 ∧ v.size ≤ 32 ∧ (d = true → v = ⟨#[]⟩) ∧ (p4 ≤ l.length → l.drop p4 = (if d = true then [] else txtB v) ++ l.drop p5) := by
    cases d with
    | true =>
      rw [if_pos rfl] at q5
      simp only [Prod.mk.injEq] at q5
      obtain ⟨rfl, rfl, rfl⟩ := q5
      exact ⟨_, rfl, rfl, by decide, fun _ => rfl, fun _ => by simp⟩
    | false =>
      rw [if_neg (by decide)] at q5
      by_cases hp4 : p4 ≤ l.length
      · obtain ⟨a, b, c, dd⟩ := rText_inv hb hp4 q5
        exact ⟨_, rfl, a, by omega, (fun h => by cases h), (fun _ => by rw [if_neg (by decide)]; exact dd)⟩
      · exact absurd (rFlag_inv hb (by
          have : e4 = 0 := by
            unfold rText at q5
            split at q5
            · rename_i he; exact he
            · rename_i he; simp only [Prod.mk.injEq] at q5; exact absurd q5.2.2 he
          rw [this] at q4; exact q4)).2.1 hp4
  obtain ⟨_, _, rfl, hv, hdv, hd4⟩ := hfin
  obtain ⟨rfl, i4, j4⟩ := rFlag_inv hb q4
  obtain ⟨p0, hp0⟩ : ∃ p0 : Nat, p0 = 0 := ⟨_, rfl⟩
  have a1 : e1 = 0 ∧ e2 = 0 := by
    have : e2 = 0 := by
      unfold rNum at q3
      split at q3
      · rename_i he; exact he
      · rename_i he; simp only [Prod.mk.injEq] at q3; exact absurd q3.2.2 he
    refine ⟨?_, this⟩
    rw [this] at q2
    unfold rNum at q2
    split at q2
    · rename_i he; exact he
    · rename_i he; simp only [Prod.mk.injEq] at q2; exact absurd q2.2.2 he
  obtain ⟨rfl, rfl⟩ := a1
  obtain ⟨_, k1, k2, k3⟩ := rText_inv hb (Nat.zero_le _) q1
  obtain ⟨_, c1, c2, c3, c4⟩ := rNum_inv hb k2 q2
  obtain ⟨_, n1, n2, n3, n4⟩ := rNum_inv hb c3 q3
  have hX : ofX (ofR l) = ⟨k, ⟨cn, nd⟩, v, d⟩ := by rw [hor, hg]
  rw [hX]
  have hck : item_Check.f k cn nd v d = some 0 := (chk_iff ⟨k, ⟨cn, nd⟩, v, d⟩).2 ⟨by show k.size ≤ 16; omega, ⟨by show 1 ≤ cn; omega, c2⟩, ⟨n1, n2⟩, hv, hdv⟩
  refine ⟨by unfold codeE; rw [hck]; rfl, ?_⟩
  have hA : putA ⟨k, ⟨cn, nd⟩, v, d⟩ = putB ⟨k, ⟨cn, nd⟩, v, d⟩ := by unfold putA; rw [if_pos hck]
  rw [hA]
  unfold putB
  have h5 := hd4 i4
  rw [show l.drop p5 = [] from List.drop_of_length_le (by omega), List.append_nil] at h5
  have h0 : l.drop 0 = l := List.drop_zero
  rw [← h0, k3, c4, n4, j4, h5]
end Go.Proofs.Ythalodnfecaccaa.Rd
