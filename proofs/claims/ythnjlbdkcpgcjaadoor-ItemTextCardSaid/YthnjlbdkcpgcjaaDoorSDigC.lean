-- By wip/late.py (a program of this session) out of wip/words.
import Derived.Test.YthnjlbdkcpgcjaaDoorProg
import Derived.Test.YthnjlbdkcpgcjaaDoorWWords
import Derived.Test.YthnjlbdkcpgcjaaDoorWLast
import Derived.Test.YthnjlbdkcpgcjaaDoorWMore
import Derived.Test.YthnjlbdkcpgcjaaDoorSDig
import Derived.Test.YthnjlbdkcpgcjaaDoorSDigP
import Derived.Test.YthnjlbdkcpgcjaaDoorSDigR
set_option linter.unusedVariables false
set_option linter.unusedSimpArgs false
namespace Go.Proofs.YthnjlbdkcpgcjaaDoor.Dig
open Go.RowKit Go.Shelf Go.Lib Go.Proofs.YthnjlbdkcpgcjaaDoorW.PrintWords Go.Proofs.YthnjlbdkcpgcjaaDoor.PAll
/-! A numeral that is read is written so; what the codes are. -/
theorem numU_codes (e : NumEnd Nat) (most : Int) : (numU e most).2 = 0 ∨ (numU e most).2 = 12 := by
  unfold numU
  split
  · split
    · exact .inr rfl
    · split
      · exact .inr rfl
      · exact .inl rfl
  · exact .inr rfl
theorem numP_codes (l : List UInt8) (most : Int) : (numP l most).2 = 0 ∨ (numP l most).2 = 12 ∨ ((numP l most).2 = 23 ∧ (numP l most).1 = 0) := by
  unfold numP
  split
  · exact .inr (.inr ⟨rfl, rfl⟩)
  · split
    · exact .inr (.inr ⟨rfl, rfl⟩)
    · split
      · rcases numU_codes (parseUint10 0 l) most with h | h
        · exact .inl h
        · exact .inr (.inl h)
      · exact .inr (.inr ⟨rfl, rfl⟩)
theorem digit_of (c : UInt8) (h : isD c = true) : UInt8.ofNat (48 + (c.toNat - 48)) = c := by
  have hc := isD_iff h
  rw [show 48 + (c.toNat - 48) = c.toNat by omega]
  exact UInt8.ofNat_toNat
/-- Digits without a nought ahead are the numeral of what they are worth. -/
theorem dec_back (l : List UInt8) (x : Nat) (hx : x ≠ 0) (h : l.all isD = true) : decDigits (vd x l) = decDigits x ++ l := by
  induction l generalizing x with
  | nil =>
    show decDigits (vd x []) = _
    rw [List.append_nil]
    unfold vd
    rw [List.foldl_nil]
  | cons c l ih =>
    rw [List.all_cons, Bool.and_eq_true] at h
    have hc := isD_iff h.1
    rw [vd_cons, ih _ (by omega) h.2]
    have hx' : ¬ x * 10 + (c.toNat - 48) < 10 := by omega
    have e : decDigits (x * 10 + (c.toNat - 48)) = decDigits x ++ [c] := by
      rw [decDigits, dif_neg hx', show (x * 10 + (c.toNat - 48)) / 10 = x by omega, show (x * 10 + (c.toNat - 48)) % 10 = c.toNat - 48 by omega, digit_of c h.1]
    rw [e, List.append_assoc]
    rfl
theorem num_canon {l : List UInt8} {most n : Int} (h : numP l most = (n, 0)) : l = decDigits n.toNat ∧ 0 ≤ n ∧ n ≤ 9223372036854775807 ∧ n ≤ most := by
  unfold numP at h
  by_cases h0 : l.length = 0
  · rw [if_pos h0] at h; simp at h
  · rw [if_neg h0] at h
    by_cases hb : l.getD 0 0 = 48 ∧ l ≠ [48]
    · rw [if_pos hb] at h; simp at h
    · rw [if_neg hb] at h
      by_cases ha : l.all isD = true
      · rw [if_pos ha, numU_vd l ha] at h
        by_cases h1 : 9223372036854775807 < vd 0 l
        · rw [if_pos h1] at h; simp at h
        · rw [if_neg h1] at h
          by_cases h2 : most < (vd 0 l : Int)
          · rw [if_pos h2] at h; simp at h
          · rw [if_neg h2] at h
            have hn : (vd 0 l : Int) = n := congrArg Prod.fst h
            refine ⟨?_, by omega, by omega, by omega⟩
            rw [← hn, Int.toNat_natCast]
            cases l with
            | nil => exact absurd rfl h0
            | cons c l =>
              rw [List.all_cons, Bool.and_eq_true] at ha
              have hc := isD_iff ha.1
              rw [vd_cons, show 0 * 10 + (c.toNat - 48) = c.toNat - 48 by omega]
              have e1 : decDigits (c.toNat - 48) = [c] := by rw [decDigits, dif_pos (by omega), digit_of c ha.1]
              by_cases hz : c.toNat - 48 = 0
              · have hc48 : c = 48 := UInt8.toNat_inj.1 (by have : (48 : UInt8).toNat = 48 := rfl; omega)
                have hl : l = [] := Classical.byContradiction fun hne => hb ⟨by rw [hc48]; rfl, by rw [hc48]; simpa using hne⟩
                rw [hl]
                unfold vd
                rw [List.foldl_nil, e1]
              · rw [dec_back l _ hz ha.2, e1]
                rfl
      · rw [if_neg ha] at h; simp at h
end Go.Proofs.YthnjlbdkcpgcjaaDoor.Dig
