/- For every list of texts and every int the law CutsBorders answers true: the keys at which parts begin are the document's, and what is handed in is not changed. It has no condition but the form's own reach. -/
import Derived.Test.YtcfiobhebakhlaaPAllx14
import Derived.Test.YtcfiobhebakhlaaQCutsBorders
import Derived.Test.YtcfiobhebakhlaaSEv
import Derived.Test.YtcfiobhebakhlaaSLists
import Derived.Test.YtcfiobhebakhlaaSStarts
import Derived.Test.YtcfiobhebakhlaaSRefstarts
import Derived.Test.YtcfiobhebakhlaaSBorders
import Derived.Test.YtcfiobhebakhlaaSBeyond07
set_option linter.unusedVariables false
set_option linter.unusedSimpArgs false
namespace Go.Proofs.Ytcfiobhebakhlaa.Pure
open Go.RowKit Go.Proofs.Ytcfiobhebakhlaa.PAll Go.Proofs.YtcfiobhebakhlaaW.PrintWords Go.Proofs.YtcfiobhebakhlaaW.PrintLast Go.Proofs.YtcfiobhebakhlaaW.PrintMore
theorem bolaw_loop (l : List ByteArray) (hl : l.length ≤ 9223372036854775806) (d : Nat) : ∀ (i : Nat) (m : List ByteArray), i + d = m.length → m.length ≤ 9223372036854775806 → Ev (fun k => tidelinelaw07_CutsBorders.l0 k l l m (i : Int)) true := by
  induction d with
  | zero =>
    intro i m hd hm
    refine Ev.step (fun k => by rw [tidelinelaw07_CutsBorders.l0]) ?_
    simp only [if_neg (show ¬ (i : Int) < (m.length : Int) by omega)]
    exact Ev.bind (sameT_self l hl) (Ev.const rfl)
  | succ d ih =>
    intro i m hd hm
    refine Ev.step (fun k => by rw [tidelinelaw07_CutsBorders.l0]) ?_
    simp only [if_pos (show (i : Int) < (m.length : Int) by omega), if_pos (show (0 : Int) ≤ (i : Int) by omega)]
    rw [wrap_succ (by omega)]
    exact ih (i + 1) _ (by rw [List.length_set]; omega) (by rw [List.length_set]; exact hm)
theorem CutsBorders : tidelinelaw07_CutsBorders.Pure := by
  intro l a hf wa
  have hl : l.length ≤ 9223372036854775806 := by omega
  refine Ev.rounds ?_
  refine Ev.congr (fun k => by rw [tidelinelaw07_CutsBorders.f]) ?_
  obtain ⟨r, hr, hr'⟩ := beyond_ok l hf.1 (⟨#[]⟩ : ByteArray) (⟨#[]⟩ : ByteArray) false
  refine Ev.bind hr ?_
  cases r with
  | true => exact Ev.const rfl
  | false =>
    have hs := hr' rfl
    simp only [if_neg (show ¬ (false = true) by decide), Option.bind_some, List.nil_append, List.length_nil, if_pos (show 0 + l.length < 8796093022208 by omega)]
    refine Ev.bind (bor_ok l hl a) (Ev.bind (rbor_ok l hl a) ?_)
    simp only [if_true]
    have hb := borE_len l a
    refine Ev.bind (sameT_self _ (Nat.le_trans hb hl)) ?_
    simp only [if_true]
    refine Ev.bind (sameT_self l hl) ?_
    refine Ev.step (fun k => by rw [tidelinelaw07_CutsBorders.j0]) ?_
    simp only [Bool.not_true, if_neg (show ¬ (false = true) by decide)]
    exact bolaw_loop l hl (borE l a).1.length 0 _ (by omega) (Nat.le_trans hb hl)
end Go.Proofs.Ytcfiobhebakhlaa.Pure
