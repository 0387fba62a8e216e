import Derived.Test.YtgdhgamolenfgaaPAllx0
import Derived.Test.YtgdhgamolenfgaaSEv
import Derived.Test.YtgdhgamolenfgaaSLists
import Derived.Test.YtgdhgamolenfgaaSRank
import Derived.Test.YtgdhgamolenfgaaSSpanE
import Derived.Test.YtgdhgamolenfgaaSEmpties
import Derived.Test.YtgdhgamolenfgaaSMeet
set_option linter.unusedVariables false
set_option linter.unusedSimpArgs false
namespace Go.Proofs.Ytgdhgamolenfgaa.Pure
open Go.RowKit Go.Proofs.Ytgdhgamolenfgaa.PAll Go.Proofs.YtgdhgamolenfgaaW.PrintWords Go.Proofs.YtgdhgamolenfgaaW.PrintLast Go.Proofs.YtgdhgamolenfgaaW.PrintMore
open Go.Proofs.Ytgdhgamolenfgaa.Str
theorem mxs_list (a b : ByteArray) : (mxs a b).toList = if Op.bytesLess a.toList b.toList = true then b.toList else a.toList := by unfold mxs; split <;> rfl
theorem mxs_size (a b : ByteArray) : (mxs a b).size = if Op.bytesLess a.toList b.toList = true then b.size else a.size := by unfold mxs; split <;> rfl
theorem nil_less (x : List UInt8) : Op.bytesLess x [] = false := by cases x <;> rfl
theorem rgE_zero (lo hi : ByteArray) (op : Bool) : decide (rgE lo hi op = 0) = (decide (lo.size ≤ 16) && (decide (hi.size ≤ 16) && (if op = true then hi.toList == [] else !(Op.bytesLess hi.toList lo.toList)))) := by
  unfold rgE
  by_cases h1 : lo.size > 16
  · have h1' : ¬ lo.size ≤ 16 := by omega
    simp [h1, h1']
  · have h1' : lo.size ≤ 16 := by omega
    by_cases h2 : hi.size > 16
    · have h2' : ¬ hi.size ≤ 16 := by omega
      simp [h2, h2']
    · have h2' : hi.size ≤ 16 := by omega
      cases op
      · cases h3 : Op.bytesLess hi.toList lo.toList <;> simp [h1', h2', h1, h2]
      · by_cases h3 : hi.toList = [] <;> simp [h1', h2', h1, h2, h3]
/-! The same of ranks: `lo`, `hi` how many texts stand below an end, `ls`, `hs` is it short, `e` the empty text's rank. -/
def okN (lo hi : Nat) (ls hs op : Bool) (e : Nat) : Bool := ls && (hs && (if op = true then decide (hi = e) else !decide (hi < lo)))
def empN (lo hi : Nat) (ls hs op : Bool) (e : Nat) : Bool := !okN lo hi ls hs op e || (!op && decide (lo = hi))
def hasN (lo hi : Nat) (ls hs op : Bool) (e k : Nat) (ks : Bool) : Bool := okN lo hi ls hs op e && ks && !decide (k < lo) && (op || decide (k < hi))
def witN (alo ahi : Nat) (als ahs aop : Bool) (blo bhi : Nat) (bls bhs bop : Bool) (e : Nat) : Bool := okN alo ahi als ahs aop e && (okN blo bhi bls bhs bop e && (empN alo ahi als ahs aop e || (!decide (alo < blo) && (bop || (!aop && !decide (bhi < ahi))))))
section
variable {S : List (List UInt8)} {lo hi key alo ahi blo bhi : ByteArray} {op aop bop : Bool}
theorem ok_N (n : [] ∈ S) (m1 : lo.toList ∈ S) (m2 : hi.toList ∈ S) : decide (rgE lo hi op = 0) = okN (rk S lo.toList) (rk S hi.toList) (decide (lo.size ≤ 16)) (decide (hi.size ≤ 16)) op (rk S []) := by
  rw [rgE_zero, rk_less m2 m1, rk_beq m2 n]; rfl
theorem emp_N (n : [] ∈ S) (m1 : lo.toList ∈ S) (m2 : hi.toList ∈ S) : empK lo hi op = empN (rk S lo.toList) (rk S hi.toList) (decide (lo.size ≤ 16)) (decide (hi.size ≤ 16)) op (rk S []) := by
  unfold empK empN; rw [ok_N n m1 m2, rk_beq m1 m2]
theorem has_N (n : [] ∈ S) (m1 : lo.toList ∈ S) (m2 : hi.toList ∈ S) (m3 : key.toList ∈ S) : hasK lo hi op key = hasN (rk S lo.toList) (rk S hi.toList) (decide (lo.size ≤ 16)) (decide (hi.size ≤ 16)) op (rk S []) (rk S key.toList) (decide (key.size ≤ 16)) := by
  unfold hasK hasN; rw [ok_N n m1 m2, rk_less m3 m1, rk_less m3 m2]
theorem wit_N (n : [] ∈ S) (m1 : alo.toList ∈ S) (m2 : ahi.toList ∈ S) (m3 : blo.toList ∈ S) (m4 : bhi.toList ∈ S) : witK alo ahi aop blo bhi bop = witN (rk S alo.toList) (rk S ahi.toList) (decide (alo.size ≤ 16)) (decide (ahi.size ≤ 16)) aop (rk S blo.toList) (rk S bhi.toList) (decide (blo.size ≤ 16)) (decide (bhi.size ≤ 16)) bop (rk S []) := by
  unfold witK witN; rw [ok_N n m1 m2, ok_N n m3 m4, emp_N n m1 m2, rk_less m1 m3, rk_less m4 m2]
theorem rk_nil (n : [] ∈ S) {x : List UInt8} (m : x ∈ S) : rk S [] ≤ rk S x := by
  have := nil_less x
  rw [rk_less m n, decide_eq_false_iff_not] at this
  omega
/-- One that stands at a place of its own keeps its length. -/
theorem rk_size (m1 : alo.toList ∈ S) (m2 : blo.toList ∈ S) (h : rk S alo.toList = rk S blo.toList) : alo = blo := by
  have := rk_beq m1 m2
  rw [h, decide_eq_true rfl, beq_iff_eq] at this
  exact ba_eq.1 this
end
end Go.Proofs.Ytgdhgamolenfgaa.Pure
