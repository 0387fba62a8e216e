-- By wip/pr.py (a program of this session, over the kit's print): lines written by program. Not trusted: Lean checks them.
import Derived.Test.YtghlellambnkeaaPAllx0
import Derived.Test.YtghlellambnkeaaPAllx1
namespace Go.Proofs.Ytghlellambnkeaa.PAll
open Go.RowKit Go.Proofs.YtghlellambnkeaaW.PrintWords Go.Proofs.YtghlellambnkeaaW.PrintLast Go.Proofs.YtghlellambnkeaaW.PrintMore
attribute [local go_sem] max2_int min2_int max_two min_two max_three min_three max_four min_four   -- for this text's walks alone
set_option linter.unusedVariables false
set_option linter.unusedSimpArgs false

attribute [local go_sem high] eqA42
/-! ### tidelinelaw09_spoil: function 21 -/
mutual
def tidelinelaw09_spoil.l0 : Nat → List (S44) → Int → Option (Unit)
  | 0, _, _ => none
  | k + 1, x0, x2 => if x2 < (x0.length : Int) then (if 0 ≤ x2 then (tidelinelaw09_spoil.l0 k (x0.set (x2 : Int).toNat (⟨(⟨#[115, 112, 111, 105, 108, 116]⟩ : ByteArray), (⟨0, 0⟩ : S42), (⟨#[]⟩ : ByteArray), false⟩ : S44)) (wrap64 (x2 + 1))) else (none)) else (tidelinelaw09_spoil.l1 k x0 0)
def tidelinelaw09_spoil.l1 : Nat → List (S44) → Int → Option (Unit)
  | 0, _, _ => none
  | k + 1, x0, x3 => if x3 < 12 then (if x0.length < 2513169434916 then (tidelinelaw09_spoil.l1 k (x0 ++ [(⟨(⟨#[103, 114, 111, 119, 110]⟩ : ByteArray), (⟨0, 0⟩ : S42), (⟨#[]⟩ : ByteArray), false⟩ : S44)]) (wrap64 (x3 + 1))) else (none)) else (some ())
end
def tidelinelaw09_spoil.f (k : Nat) (l0 : List (S44)) : Option (Unit) := tidelinelaw09_spoil.l0 k l0 0
theorem tidelinelaw09_spoil.mono_l : ∀ k, (∀ y0 y1, LeO (tidelinelaw09_spoil.l0 k y0 y1) (tidelinelaw09_spoil.l0 (k + 1) y0 y1)) ∧ (∀ y0 y1, LeO (tidelinelaw09_spoil.l1 k y0 y1) (tidelinelaw09_spoil.l1 (k + 1) y0 y1))
  | 0 => ⟨fun _ _ r h => by simp [tidelinelaw09_spoil.l0] at h, fun _ _ r h => by simp [tidelinelaw09_spoil.l1] at h⟩
  | k + 1 => by
    obtain ⟨ih0, ih1⟩ := tidelinelaw09_spoil.mono_l k
    refine ⟨?_, ?_⟩
    · intro y0 y1
      unfold tidelinelaw09_spoil.l0
      repeat' first
      | (with_reducible exact ih0 _ _)
      | (with_reducible exact ih1 _ _)
      | (with_reducible exact LeO.refl _)
      | (with_reducible exact LeO.none _)
      | (with_reducible refine LeO.ite ?_ ?_)
      | (with_reducible refine LeO.bind ?_ (fun _ => ?_))
      | exact ih0 _ _
      | exact ih1 _ _
      | exact LeO.none _
      | refine LeO.ite ?_ ?_
      | refine LeO.bind ?_ (fun _ => ?_)
    · intro y0 y1
      unfold tidelinelaw09_spoil.l1
      repeat' first
      | (with_reducible exact ih0 _ _)
      | (with_reducible exact ih1 _ _)
      | (with_reducible exact LeO.refl _)
      | (with_reducible exact LeO.none _)
      | (with_reducible refine LeO.ite ?_ ?_)
      | (with_reducible refine LeO.bind ?_ (fun _ => ?_))
      | exact ih0 _ _
      | exact ih1 _ _
      | exact LeO.none _
      | refine LeO.ite ?_ ?_
      | refine LeO.bind ?_ (fun _ => ?_)
theorem tidelinelaw09_spoil.mono : ∀ a0 k, LeO (tidelinelaw09_spoil.f k a0) (tidelinelaw09_spoil.f (k + 1) a0) := by
  intro a0 k
  obtain ⟨ih0, ih1⟩ := tidelinelaw09_spoil.mono_l k
  unfold tidelinelaw09_spoil.f
  repeat' first
      | (with_reducible exact ih0 _ _)
      | (with_reducible exact ih1 _ _)
      | (with_reducible exact LeO.refl _)
      | (with_reducible exact LeO.none _)
      | (with_reducible refine LeO.ite ?_ ?_)
      | (with_reducible refine LeO.bind ?_ (fun _ => ?_))
      | exact ih0 _ _
      | exact ih1 _ _
      | exact LeO.none _
      | refine LeO.ite ?_ ?_
      | refine LeO.bind ?_ (fun _ => ?_)
set_option maxHeartbeats 8000000 in
set_option maxRecDepth 100000 in
theorem tidelinelaw09_spoil.calls (k : Nat) (P0_ : Nat → Prop) (u9000_ : Value) (l0 : List (S44)) (w0 w : World) (hB : Below w0.heap.size w0 w) (ho0 : Kd.R k44 44 w w0.heap.size P0_ u9000_ l0) (h : tidelinelaw09_spoil.f k l0 = some ()) :
    Calls Try.prog 21 #[u9000_] w fun e w' => e = .returned (.tuple #[]) ∧ Below w0.heap.size w0 w' ∧ Kept w w' (fun k_ => P0_ k_) := by
 have hu44:=Try.underlying44
 have HO0:=Aside0.mk (show Kd.R k44 44 w w0.heap.size (fun k_ => (P0_ k_ ∨ w.heap.size ≤ k_)) u9000_ l0 from Kd.R_mono ho0 (fun k_ hk => (.inl hk)))
 have HK:=Aside0.mk (Kept.refl w (fun k_ => P0_ k_))
 have HW0:=Aside0.mk hB.size
 have HB:=Aside0.mk hB
 clear hB
 have H : (tidelinelaw09_spoil.l0 k l0 0) = some ():=h
 clear h
 have H':=Aside0.mk H
 clear H
 go_enter Try.func21,Try.ntmps21
 go_wp2
 go_loopg [2] k (fun kq v2 w' => ∃ (x0_1 : List (S44)) (x2_1 : Int),v2 = .int .i64 x2_1 ∧ Aside0 (tidelinelaw09_spoil.l0 kq x0_1 x2_1 = some ()) ∧ Aside0 (kq ≤ k) ∧ Aside0 (Kd.R k44 44 w' w0.heap.size (fun k_ => (P0_ k_ ∨ w.heap.size ≤ k_)) u9000_ x0_1) ∧ Aside0 (Kept w w' (fun k_ => P0_ k_)) ∧ Aside0 (Below w0.heap.size w0 w'))
 case atStart => exact ⟨(l0),(0),(by first|rfl|(simp;done)|(simp [*];done)|(simp [*,Go.Proofs.Ytghlellambnkeaa.Str.bne_nil];done)),H',⟨Nat.le_refl _⟩,⟨by (with_reducible repeat (first|apply Kd.R_alloc|apply Kd.R_drewN|apply Kd.R_drew));exact HO0.out⟩,⟨by repeat (first|(with_reducible first|exact HK.out|apply Kept.alloc|apply Kept.drewN|apply Kept.drew)|exact HK.out)⟩,⟨by repeat (first|(with_reducible first|exact HB.out|apply xA|apply xN|apply xD)|exact HB.out)⟩⟩
 case round =>
  clear H'
  obtain ⟨x0_1,x2_1,rfl,HA,HK1,HO_0,HK,HB⟩:=hrel
  cases gk with
 |zero => exact absurd HA.out (by simp [tidelinelaw09_spoil.l0])
 |succ k1 =>
   have H:=HA.out
   clear HA
   simp only [tidelinelaw09_spoil.l0] at H
   by_cases c2 : x2_1 < (x0_1.length : Int)
   ·rw [if_pos c2] at H
    have c2b0 : decide (x2_1 < (x0_1.length : Int)) = true:=decide_eq_true c2
    clear c2
    by_cases c3 : 0 ≤ x2_1
    ·rw [if_pos c3] at H
     have c3b0 : decide (0 ≤ x2_1) = true:=decide_eq_true c3
     clear c3
     obtain ⟨y118,hy118⟩ : ∃ y_ : List (S44),y_ = (x0_1.set (x2_1 : Int).toNat (⟨(⟨#[115,112,111,105,108,116]⟩ : ByteArray),(⟨0,0⟩ : S42),(⟨#[]⟩ : ByteArray),false⟩ : S44)):=⟨_,rfl⟩
     replace H : (tidelinelaw09_spoil.l0 k1 y118 (wrap64 (x2_1 + 1))) = some ():=by first|(rw [hy118];with_reducible exact H)|(have H2_:=(Option.bind_some _ _).symm.trans H;rw [hy118];with_reducible exact H2_)|(have H2_:=(Option.bind_some _ _).symm.trans H;with_reducible exact H2_)|with_reducible exact H|(rw [hy118];exact H)|exact H
     have Ny118:=Aside0.mk hy118
     clear hy118
     have H':=Aside0.mk H
     clear H
     obtain ⟨Ao5,co5,eo5⟩:=Kd.R_slice HO_0.out
     subst eo5
     have p4 : 0 ≤ (x2_1 : Int):=of_decide_eq_true (by first|(with_reducible assumption)|assumption)
     have q4 : (x2_1 : Int) < ((x0_1.length : Int) : Int):=of_decide_eq_true (by first|(with_reducible assumption)|assumption)
     obtain ⟨go4,co4,eo4,gb4,gl4,cl4,HG4⟩:=Kd.R_form HO_0.out (by omega)
     (first|cases eo4|(injection eo4 with ea_ en_ ec_;(first|subst ea_|(injection ea_ with ea_;subst ea_));subst ec_;clear en_))
     have GB4:=Aside0.mk gb4
     have GG4:=Aside0.mk HG4
     clear gb4 gl4 HG4
     have HMgo4:=Aside0.mk (show (P0_ go4 ∨ w.heap.size ≤ go4) from (HO_0.out.1 _ rfl))
     obtain ⟨ce4,hcl4,hM4,hcc4,hfr4⟩:=Kd.R_elem HO_0.out z44 (x2_1 : Int) p4 q4
     obtain rfl:=k44_openM hM4
     have hx4_0 : wr.cell? ⟨go4,(x2_1 : Int).toNat * 5,none⟩ = some (.string ((rd_T44 x0_1 x2_1).f0)):=hcc4 0 _ rfl
     have hx4_1 : wr.cell? ⟨go4,(x2_1 : Int).toNat * 5 + 1,none⟩ = some (.int .i64 ((rd_T44 x0_1 x2_1).f1.f0)):=hcc4 1 _ rfl
     have hx4_2 : wr.cell? ⟨go4,(x2_1 : Int).toNat * 5 + 2,none⟩ = some (.int .i64 ((rd_T44 x0_1 x2_1).f1.f1)):=hcc4 2 _ rfl
     have hx4_3 : wr.cell? ⟨go4,(x2_1 : Int).toNat * 5 + 3,none⟩ = some (.string ((rd_T44 x0_1 x2_1).f2)):=hcc4 3 _ rfl
     have hx4_4 : wr.cell? ⟨go4,(x2_1 : Int).toNat * 5 + 4,none⟩ = some (.bool ((rd_T44 x0_1 x2_1).f3)):=hcc4 4 _ rfl
     have hf4_0 : wr.frozen? ⟨go4,(x2_1 : Int).toNat * 5,none⟩ = false:=hfr4 0
     have hf4_1 : wr.frozen? ⟨go4,(x2_1 : Int).toNat * 5 + 1,none⟩ = false:=hfr4 1
     have hf4_2 : wr.frozen? ⟨go4,(x2_1 : Int).toNat * 5 + 2,none⟩ = false:=hfr4 2
     have hf4_3 : wr.frozen? ⟨go4,(x2_1 : Int).toNat * 5 + 3,none⟩ = false:=hfr4 3
     have hf4_4 : wr.frozen? ⟨go4,(x2_1 : Int).toNat * 5 + 4,none⟩ = false:=hfr4 4
     clear hcl4 hcc4 hfr4 hM4
     replace p4:=eq_true p4
     replace q4:=eq_true q4
     have HX6:=Aside0.mk (show Kd.R k44 44 wr w0.heap.size (fun k_ => (P0_ k_ ∨ w.heap.size ≤ k_)) (.slice (some ⟨go4,0,none⟩) x0_1.length co5) x0_1 from (by (with_reducible repeat (first|apply Kd.R_alloc|apply Kd.R_drewN|apply Kd.R_drew));exact HO_0.out))
     obtain ⟨ce6,hcl6,hM6,hcc6,hfr6⟩:=Kd.R_elem HX6.out z44 (x2_1 : Int) (of_decide_eq_true (by first|(with_reducible assumption)|assumption)) (by have h_ : (x2_1 : Int) < ((x0_1.length : Int) : Int):=of_decide_eq_true (by first|(with_reducible assumption)|assumption);first|exact h_|(have e_:=(Kd.R_reads' HO_0.out).1;omega)|simpa using h_)
     obtain rfl:=k44_openM hM6
     have HP6:=Kd.R_seg HX6.out (x2_1 : Int) (of_decide_eq_true (by first|(with_reducible assumption)|assumption)) (by have h_ : (x2_1 : Int) < ((x0_1.length : Int) : Int):=of_decide_eq_true (by first|(with_reducible assumption)|assumption);first|exact h_|(have e_:=(Kd.R_reads' HO_0.out).1;omega)|simpa using h_) (seg:=[.string (⟨#[115,112,111,105,108,116]⟩ : ByteArray),.int .i64 0,.int .i64 0,.string (⟨#[]⟩ : ByteArray),.bool false]) (j:=0) hcl6 hcc6 (show 5 ≤ 5 from by decide) (x':=(⟨(⟨#[115,112,111,105,108,116]⟩ : ByteArray),(⟨0,0⟩ : S42),(⟨#[]⟩ : ByteArray),false⟩ : S44)) (k44_mkM _ _ _ (⟨(⟨#[115,112,111,105,108,116]⟩ : ByteArray),(⟨0,0⟩ : S42),(⟨#[]⟩ : ByteArray),false⟩ : S44) ) (fun _ hk => hk)
     have hx6_0:=hcc6 0 _ rfl
     (try simp only [show (k44).sz = 5 from rfl,Nat.mul_one,Nat.add_zero] at hx6_0)
     have hf6_0:=hfr6 0
     (try simp only [show (k44).sz = 5 from rfl,Nat.mul_one,Nat.add_zero] at hf6_0)
     have hx6_1:=hcc6 1 _ rfl
     (try simp only [show (k44).sz = 5 from rfl,Nat.mul_one,Nat.add_zero] at hx6_1)
     have hf6_1:=hfr6 1
     (try simp only [show (k44).sz = 5 from rfl,Nat.mul_one,Nat.add_zero] at hf6_1)
     have hx6_2:=hcc6 2 _ rfl
     (try simp only [show (k44).sz = 5 from rfl,Nat.mul_one,Nat.add_zero] at hx6_2)
     have hf6_2:=hfr6 2
     (try simp only [show (k44).sz = 5 from rfl,Nat.mul_one,Nat.add_zero] at hf6_2)
     have hx6_3:=hcc6 3 _ rfl
     (try simp only [show (k44).sz = 5 from rfl,Nat.mul_one,Nat.add_zero] at hx6_3)
     have hf6_3:=hfr6 3
     (try simp only [show (k44).sz = 5 from rfl,Nat.mul_one,Nat.add_zero] at hf6_3)
     have hx6_4:=hcc6 4 _ rfl
     (try simp only [show (k44).sz = 5 from rfl,Nat.mul_one,Nat.add_zero] at hx6_4)
     have hf6_4:=hfr6 4
     (try simp only [show (k44).sz = 5 from rfl,Nat.mul_one,Nat.add_zero] at hf6_4)
     clear hcl6 hcc6 hfr6 hM6
     go_wp2_with (first|((with_reducible refine gate_store (t:=44) (p:=13) rfl ?_);refine store_event (t:=44) (p:=13) (v:=?vo_w7) (w1:=(((((wr.setCell ⟨go4,(x2_1 : Int).toNat * 5,none⟩ (.string (⟨#[115,112,111,105,108,116]⟩ : ByteArray))).setCell ⟨go4,(x2_1 : Int).toNat * 5 + 1,none⟩ (.int .i64 0)).setCell ⟨go4,(x2_1 : Int).toNat * 5 + 2,none⟩ (.int .i64 0)).setCell ⟨go4,(x2_1 : Int).toNat * 5 + 3,none⟩ (.string (⟨#[]⟩ : ByteArray))).setCell ⟨go4,(x2_1 : Int).toNat * 5 + 4,none⟩ (.bool false))) ?hg ?ho ?hn ?hr ?_;(case ho => rfl);(case hg => rfl);(case hn => rfl);(case hr => first|(go_simp;done)|(go_simp;rfl));intro w7 hw;have hg : wr.grownBy w7 (some go4):=(by rw [hw];exact HP6.2);have hp_ : Kd.R k44 44 w7 w0.heap.size (fun k_ => (P0_ k_ ∨ w.heap.size ≤ k_)) (.slice (some ⟨go4,0,none⟩) x0_1.length co5) y118:=(by rw [hw,Ny118.out];exact HP6.1);clear HP6;have n0_:=Aside0.mk (hp_);have n1_:=Aside0.mk ((by rw [hw];exact below_set (below_set (below_set (below_set (below_set (HB.out) GB4.out) GB4.out) GB4.out) GB4.out) GB4.out : Below w0.heap.size w0 w7));have n2_:=Aside0.mk (Kept.of_grown (S:=(fun k_ => P0_ k_)) hg (by repeat (first|(with_reducible first|exact HK.out|apply Kept.alloc|apply Kept.drewN|apply Kept.drew)|exact HK.out)) (fun k_ e_ => (HO_0.out.1 k_ e_)));clear HO_0;clear HB;clear HK;have HO_0:=n0_;have HB:=n1_;have HK:=n2_;clear n0_ n1_ n2_;clear hg hw hp_))
     go_roundg k1
     case measure => have:=HK1.out;omega
     case rel => exact ⟨(y118),(wrap64 (x2_1 + 1)),(by first|rfl|(simp;done)|(simp [*];done)|(simp [*,Go.Proofs.Ytghlellambnkeaa.Str.bne_nil];done)),H',⟨by have:=HK1.out;omega⟩,⟨by (with_reducible repeat (first|apply Kd.R_alloc|apply Kd.R_drewN|apply Kd.R_drew));exact HO_0.out⟩,⟨by repeat (first|(with_reducible first|exact HK.out|apply Kept.alloc|apply Kept.drewN|apply Kept.drew)|exact HK.out)⟩,⟨by repeat (first|(with_reducible first|exact HB.out|apply xA|apply xN|apply xD)|exact HB.out)⟩⟩
    ·rw [if_neg c3] at H
     exact absurd H (by simp)
   ·rw [if_neg c2] at H
    have c2b0 : decide (x2_1 < (x0_1.length : Int)) = false:=decide_eq_false c2
    clear c2
    have H':=Aside0.mk H
    clear H
    obtain ⟨Ao8,co8,eo8⟩:=Kd.R_slice HO_0.out
    subst eo8
    go_wp2
    go_loopg [0,3] k1 (fun kq v0 v3 w' => ∃ (x0_2 : List (S44)) (x3_2 : Int),v3 = .int .i64 x3_2 ∧ Aside0 (tidelinelaw09_spoil.l1 kq x0_2 x3_2 = some ()) ∧ Aside0 (kq ≤ k1) ∧ Aside0 (Kd.R k44 44 w' w0.heap.size (fun k_ => (P0_ k_ ∨ w.heap.size ≤ k_)) v0 x0_2) ∧ Aside0 (Kept w w' (fun k_ => P0_ k_)) ∧ Aside0 (Below w0.heap.size w0 w'))
    case atStart => exact ⟨(x0_1),(0),(by first|rfl|(simp;done)|(simp [*];done)|(simp [*,Go.Proofs.Ytghlellambnkeaa.Str.bne_nil];done)),H',⟨Nat.le_refl _⟩,⟨by (with_reducible repeat (first|apply Kd.R_alloc|apply Kd.R_drewN|apply Kd.R_drew));exact HO_0.out⟩,⟨by repeat (first|(with_reducible first|exact HK.out|apply Kept.alloc|apply Kept.drewN|apply Kept.drew)|exact HK.out)⟩,⟨by repeat (first|(with_reducible first|exact HB.out|apply xA|apply xN|apply xD)|exact HB.out)⟩⟩
    case round =>
     clear H'
     try clear c2
     try clear c2b0
     try clear p2
     try clear c3
     try clear c3b0
     try clear c4
     try clear p4
     try clear q4
     try clear hx4
     try clear hf4
     try clear c6
     try clear p6
     try clear hx6
     try clear hf6
     try clear hx4_0
     try clear hx4_1
     try clear hx4_2
     try clear hx4_3
     try clear hx4_4
     try clear hx6_0
     try clear hx6_1
     try clear hx6_2
     try clear hx6_3
     try clear hx6_4
     try clear p4
     try clear q4
     obtain ⟨x0_2,x3_2,rfl,HA,HK2,HO_0,HK,HB⟩:=hrel
     cases gk with
    |zero => exact absurd HA.out (by simp [tidelinelaw09_spoil.l1])
    |succ k2 =>
      have H:=HA.out
      clear HA
      simp only [tidelinelaw09_spoil.l1] at H
      by_cases c9 : x3_2 < 12
      ·rw [if_pos c9] at H
       have c9b0 : decide (x3_2 < 12) = true:=decide_eq_true c9
       clear c9
       by_cases c10 : x0_2.length < 2513169434916
       ·rw [if_pos c10] at H
        have LMc10:=Aside0.mk c10
        clear c10
        obtain ⟨y119,hy119⟩ : ∃ y_ : List (S44),y_ = (x0_2 ++ [(⟨(⟨#[103,114,111,119,110]⟩ : ByteArray),(⟨0,0⟩ : S42),(⟨#[]⟩ : ByteArray),false⟩ : S44)]):=⟨_,rfl⟩
        replace H : (tidelinelaw09_spoil.l1 k2 y119 (wrap64 (x3_2 + 1))) = some ():=by first|(rw [hy119];with_reducible exact H)|(have H2_:=(Option.bind_some _ _).symm.trans H;rw [hy119];with_reducible exact H2_)|(have H2_:=(Option.bind_some _ _).symm.trans H;with_reducible exact H2_)|with_reducible exact H|(rw [hy119];exact H)|exact H
        have Ny119:=Aside0.mk hy119
        clear hy119
        have H':=Aside0.mk H
        clear H
        go_wp2_with (first|((with_reducible refine gate_builtin (b:=.append) (xs:=#[.tmp 18,.tmp 20]) rfl ?_);at_builtin;refine Kd.R_append k44 (w0:=w0) w0.heap.size rfl (.tmp 18) (.tmp 20) 22 44 (.agg #[(.string ⟨#[]⟩),(.int .i64 0),(.int .i64 0),(.string ⟨#[]⟩),(.bool false)]) 56 rfl Try.underlying22 info44 rfl (by decide) (by omega) u0 x0_2 (⟨(⟨#[103,114,111,119,110]⟩ : ByteArray),(⟨0,0⟩ : S42),(⟨#[]⟩ : ByteArray),false⟩ : S44) [.string (⟨#[103,114,111,119,110]⟩ : ByteArray),.int .i64 0,.int .i64 0,.string (⟨#[]⟩ : ByteArray),.bool false] (fun k_ => (P0_ k_ ∨ w.heap.size ≤ k_)) (fun _ => False) rfl rfl ?aP (fun _ hk => hk.elim) ?aF ?aO ?aB ?aS ?aL ?_;(case aP => exact k44_mkM _ _ _ (⟨(⟨#[103,114,111,119,110]⟩ : ByteArray),(⟨0,0⟩ : S42),(⟨#[]⟩ : ByteArray),false⟩ : S44));(case aB => exact (by repeat (first|(with_reducible first|exact HB.out|apply xA|apply xN|apply xD)|exact HB.out)));(case aF => exact (fun k_ hk => (.inr (Nat.le_trans (by first|exact HK.out.1|exact (show Kept w _ (fun k_ => P0_ k_) from by repeat (first|(with_reducible first|exact HK.out|apply Kept.alloc|apply Kept.drewN|apply Kept.drew)|exact HK.out)).1) hk))));(case aO => exact (by (with_reducible repeat (first|apply Kd.R_alloc|apply Kd.R_drewN|apply Kd.R_drew));exact HO_0.out));(case aS => exact (below_size (by repeat (first|(with_reducible first|exact HB.out|apply xA|apply xN|apply xD)|exact HB.out))));(case aL => have:=LMc10.out;omega);intro v120 w11 ho hb hg hat;rw [← Ny119.out] at ho;have n0_:=Aside0.mk (hb);have n1_:=Aside0.mk (Kept.of_grown (S:=(fun k_ => P0_ k_)) hg (by repeat (first|(with_reducible first|exact HK.out|apply Kept.alloc|apply Kept.drewN|apply Kept.drew)|exact HK.out)) (fun k_ e_ => (HO_0.out.1 k_ e_)));have n2_:=Aside0.mk (ho);clear HB;clear HK;clear HO_0;have HB:=n0_;have HK:=n1_;have HO121:=n2_;clear n0_ n1_ n2_;clear ho hb hg hat))
        go_roundg k2
        case measure => have:=HK1.out;have:=HK2.out;omega
        case rel => exact ⟨(y119),(wrap64 (x3_2 + 1)),(by first|rfl|(simp;done)|(simp [*];done)|(simp [*,Go.Proofs.Ytghlellambnkeaa.Str.bne_nil];done)),H',⟨by have:=HK1.out;have:=HK2.out;omega⟩,⟨by (with_reducible repeat (first|apply Kd.R_alloc|apply Kd.R_drewN|apply Kd.R_drew));exact HO121.out⟩,⟨by repeat (first|(with_reducible first|exact HK.out|apply Kept.alloc|apply Kept.drewN|apply Kept.drew)|exact HK.out)⟩,⟨by repeat (first|(with_reducible first|exact HB.out|apply xA|apply xN|apply xD)|exact HB.out)⟩⟩
       ·rw [if_neg c10] at H
        exact absurd H (by simp)
      ·rw [if_neg c9] at H
       have c9b0 : decide (x3_2 < 12) = false:=decide_eq_false c9
       clear c9
       go_wp2
       first|go_end0|((try simp only [Exit.inBlock,Exit.then]);refine bodyPost_ret (results_none rfl _ _ _) rfl ?_)
       exact ⟨by first|rfl|(simp [errW_none,errW_some] <;> rfl)|(simp [*,errW_none,errW_some] <;> rfl),by repeat (first|(with_reducible first|exact HB.out|apply xA|apply xN|apply xD)|exact HB.out),by repeat (first|(with_reducible first|exact HK.out|apply Kept.alloc|apply Kept.drewN|apply Kept.drew)|exact HK.out)⟩

/-! ### item_CheckVersion: function 50 -/
def item_CheckVersion.f (a0_0 : Int) (a0_1 : Int) : Option (Int) := if 1 ≤ a0_0 then (if a0_0 ≤ 1099511627776 then (if 0 ≤ a0_1 then (if a0_1 < 8 then (some 0) else (some 30)) else (some 30)) else (some 30)) else (some 30)
set_option maxHeartbeats 8000000 in
set_option maxRecDepth 100000 in
theorem item_CheckVersion.calls (a0_0 : Int) (a0_1 : Int) (r : Int) (w : World) (h : item_CheckVersion.f a0_0 a0_1 = some r) :
    Calls Try.prog 50 #[.agg #[.int .i64 a0_0, .int .i64 a0_1]] w fun e w' => e = .returned (.int .i64 r) ∧ Below w.heap.size w w' := by
 have hu42:=Try.underlying42
 have HB:=Aside0.mk (Below.refl w.heap.size w)
 have H : (if 1 ≤ a0_0 then (if a0_0 ≤ 1099511627776 then (if 0 ≤ a0_1 then (if a0_1 < 8 then (some 0) else (some 30)) else (some 30)) else (some 30)) else (some 30)) = some r:=h
 clear h
 by_cases c2 : 1 ≤ a0_0
 ·rw [if_pos c2] at H
  have c2b0 : decide (1 ≤ a0_0) = true:=decide_eq_true c2
  clear c2
  by_cases c3 : a0_0 ≤ 1099511627776
  ·rw [if_pos c3] at H
   have c3b0 : decide (a0_0 ≤ 1099511627776) = true:=decide_eq_true c3
   clear c3
   by_cases c4 : 0 ≤ a0_1
   ·rw [if_pos c4] at H
    have c4b0 : decide (0 ≤ a0_1) = true:=decide_eq_true c4
    clear c4
    by_cases c5 : a0_1 < 8
    ·rw [if_pos c5] at H
     have c5b0 : decide (a0_1 < 8) = true:=decide_eq_true c5
     clear c5
     obtain rfl:=Option.some.inj H
     go_enter Try.func50,Try.ntmps50
     go_wp2_with (first|((with_reducible refine gate_dst (N:=1) rfl ?_);refine box_event ?hg (N:=1) ?hd (cs:=#[.int .i64 a0_0,.int .i64 a0_1]) (t:=42) ?hr ?_;(case hd => rfl);(case hg => rfl);(case hr => first|(go_simp;done)|(go_simp;rfl));intro gb122 hg w6 hbox hb;have n0_:=Aside0.mk (below_step (by repeat (first|(with_reducible first|exact HB.out|apply xA|apply xN|apply xD)|exact HB.out)) hb);have n1_:=Aside0.mk (hbox);have n2_:=Aside0.mk ((by rw [hg];exact (below_size (by repeat (first|(with_reducible first|exact HB.out|apply xA|apply xN|apply xD)|exact HB.out))) : w.heap.size ≤ gb122));have n3_:=Aside0.mk ((by rw [hg];exact (below_size (by repeat (first|(with_reducible first|exact HB.out|apply xA|apply xN|apply xD)|exact HB.out))) : w.heap.size ≤ gb122));clear HB;have HB:=n0_;have BK122:=n1_;have GW122:=n2_;have GE122:=n3_;clear n0_ n1_ n2_ n3_;clear hb hbox hg;have hcz7_0 : w6.cell? ⟨gb122,0,none⟩ = some (.int .i64 a0_0):=(blk_cell BK122.out 0).trans rfl;have hcz7_1 : w6.cell? ⟨gb122,1,none⟩ = some (.int .i64 a0_1):=(blk_cell BK122.out 1).trans rfl;have hfz7_0:=blk_frozen BK122.out 0;have hfz7_1:=blk_frozen BK122.out 1))
     go_ret
     exact ⟨by first|rfl|(simp [errW_none,errW_some] <;> rfl)|(simp [*,errW_none,errW_some] <;> rfl),by repeat (first|(with_reducible first|exact HB.out|apply xA|apply xN|apply xD|refine xS ?_ GE122.out)|exact HB.out)⟩
    ·rw [if_neg c5] at H
     have c5b0 : decide (a0_1 < 8) = false:=decide_eq_false c5
     clear c5
     obtain rfl:=Option.some.inj H
     go_enter Try.func50,Try.ntmps50
     go_wp2_with (first|((with_reducible refine gate_dst (N:=1) rfl ?_);refine box_event ?hg (N:=1) ?hd (cs:=#[.int .i64 a0_0,.int .i64 a0_1]) (t:=42) ?hr ?_;(case hd => rfl);(case hg => rfl);(case hr => first|(go_simp;done)|(go_simp;rfl));intro gb122 hg w8 hbox hb;have n0_:=Aside0.mk (below_step (by repeat (first|(with_reducible first|exact HB.out|apply xA|apply xN|apply xD)|exact HB.out)) hb);have n1_:=Aside0.mk (hbox);have n2_:=Aside0.mk ((by rw [hg];exact (below_size (by repeat (first|(with_reducible first|exact HB.out|apply xA|apply xN|apply xD)|exact HB.out))) : w.heap.size ≤ gb122));have n3_:=Aside0.mk ((by rw [hg];exact (below_size (by repeat (first|(with_reducible first|exact HB.out|apply xA|apply xN|apply xD)|exact HB.out))) : w.heap.size ≤ gb122));clear HB;have HB:=n0_;have BK122:=n1_;have GW122:=n2_;have GE122:=n3_;clear n0_ n1_ n2_ n3_;clear hb hbox hg;have hcz9_0 : w8.cell? ⟨gb122,0,none⟩ = some (.int .i64 a0_0):=(blk_cell BK122.out 0).trans rfl;have hcz9_1 : w8.cell? ⟨gb122,1,none⟩ = some (.int .i64 a0_1):=(blk_cell BK122.out 1).trans rfl;have hfz9_0:=blk_frozen BK122.out 0;have hfz9_1:=blk_frozen BK122.out 1))
     go_ret
     exact ⟨by first|rfl|(simp [errW_none,errW_some] <;> rfl)|(simp [*,errW_none,errW_some] <;> rfl),by repeat (first|(with_reducible first|exact HB.out|apply xA|apply xN|apply xD|refine xS ?_ GE122.out)|exact HB.out)⟩
   ·rw [if_neg c4] at H
    have c4b0 : decide (0 ≤ a0_1) = false:=decide_eq_false c4
    clear c4
    obtain rfl:=Option.some.inj H
    go_enter Try.func50,Try.ntmps50
    go_wp2_with (first|((with_reducible refine gate_dst (N:=1) rfl ?_);refine box_event ?hg (N:=1) ?hd (cs:=#[.int .i64 a0_0,.int .i64 a0_1]) (t:=42) ?hr ?_;(case hd => rfl);(case hg => rfl);(case hr => first|(go_simp;done)|(go_simp;rfl));intro gb122 hg w10 hbox hb;have n0_:=Aside0.mk (below_step (by repeat (first|(with_reducible first|exact HB.out|apply xA|apply xN|apply xD)|exact HB.out)) hb);have n1_:=Aside0.mk (hbox);have n2_:=Aside0.mk ((by rw [hg];exact (below_size (by repeat (first|(with_reducible first|exact HB.out|apply xA|apply xN|apply xD)|exact HB.out))) : w.heap.size ≤ gb122));have n3_:=Aside0.mk ((by rw [hg];exact (below_size (by repeat (first|(with_reducible first|exact HB.out|apply xA|apply xN|apply xD)|exact HB.out))) : w.heap.size ≤ gb122));clear HB;have HB:=n0_;have BK122:=n1_;have GW122:=n2_;have GE122:=n3_;clear n0_ n1_ n2_ n3_;clear hb hbox hg;have hcz11_0 : w10.cell? ⟨gb122,0,none⟩ = some (.int .i64 a0_0):=(blk_cell BK122.out 0).trans rfl;have hcz11_1 : w10.cell? ⟨gb122,1,none⟩ = some (.int .i64 a0_1):=(blk_cell BK122.out 1).trans rfl;have hfz11_0:=blk_frozen BK122.out 0;have hfz11_1:=blk_frozen BK122.out 1))
    go_ret
    exact ⟨by first|rfl|(simp [errW_none,errW_some] <;> rfl)|(simp [*,errW_none,errW_some] <;> rfl),by repeat (first|(with_reducible first|exact HB.out|apply xA|apply xN|apply xD|refine xS ?_ GE122.out)|exact HB.out)⟩
  ·rw [if_neg c3] at H
   have c3b0 : decide (a0_0 ≤ 1099511627776) = false:=decide_eq_false c3
   clear c3
   obtain rfl:=Option.some.inj H
   go_enter Try.func50,Try.ntmps50
   go_wp2_with (first|((with_reducible refine gate_dst (N:=1) rfl ?_);refine box_event ?hg (N:=1) ?hd (cs:=#[.int .i64 a0_0,.int .i64 a0_1]) (t:=42) ?hr ?_;(case hd => rfl);(case hg => rfl);(case hr => first|(go_simp;done)|(go_simp;rfl));intro gb122 hg w12 hbox hb;have n0_:=Aside0.mk (below_step (by repeat (first|(with_reducible first|exact HB.out|apply xA|apply xN|apply xD)|exact HB.out)) hb);have n1_:=Aside0.mk (hbox);have n2_:=Aside0.mk ((by rw [hg];exact (below_size (by repeat (first|(with_reducible first|exact HB.out|apply xA|apply xN|apply xD)|exact HB.out))) : w.heap.size ≤ gb122));have n3_:=Aside0.mk ((by rw [hg];exact (below_size (by repeat (first|(with_reducible first|exact HB.out|apply xA|apply xN|apply xD)|exact HB.out))) : w.heap.size ≤ gb122));clear HB;have HB:=n0_;have BK122:=n1_;have GW122:=n2_;have GE122:=n3_;clear n0_ n1_ n2_ n3_;clear hb hbox hg;have hcz13_0 : w12.cell? ⟨gb122,0,none⟩ = some (.int .i64 a0_0):=(blk_cell BK122.out 0).trans rfl;have hcz13_1 : w12.cell? ⟨gb122,1,none⟩ = some (.int .i64 a0_1):=(blk_cell BK122.out 1).trans rfl;have hfz13_0:=blk_frozen BK122.out 0;have hfz13_1:=blk_frozen BK122.out 1))
   go_ret
   exact ⟨by first|rfl|(simp [errW_none,errW_some] <;> rfl)|(simp [*,errW_none,errW_some] <;> rfl),by repeat (first|(with_reducible first|exact HB.out|apply xA|apply xN|apply xD|refine xS ?_ GE122.out)|exact HB.out)⟩
 ·rw [if_neg c2] at H
  have c2b0 : decide (1 ≤ a0_0) = false:=decide_eq_false c2
  clear c2
  obtain rfl:=Option.some.inj H
  go_enter Try.func50,Try.ntmps50
  go_wp2_with (first|((with_reducible refine gate_dst (N:=1) rfl ?_);refine box_event ?hg (N:=1) ?hd (cs:=#[.int .i64 a0_0,.int .i64 a0_1]) (t:=42) ?hr ?_;(case hd => rfl);(case hg => rfl);(case hr => first|(go_simp;done)|(go_simp;rfl));intro gb122 hg w14 hbox hb;have n0_:=Aside0.mk (below_step (by repeat (first|(with_reducible first|exact HB.out|apply xA|apply xN|apply xD)|exact HB.out)) hb);have n1_:=Aside0.mk (hbox);have n2_:=Aside0.mk ((by rw [hg];exact (below_size (by repeat (first|(with_reducible first|exact HB.out|apply xA|apply xN|apply xD)|exact HB.out))) : w.heap.size ≤ gb122));have n3_:=Aside0.mk ((by rw [hg];exact (below_size (by repeat (first|(with_reducible first|exact HB.out|apply xA|apply xN|apply xD)|exact HB.out))) : w.heap.size ≤ gb122));clear HB;have HB:=n0_;have BK122:=n1_;have GW122:=n2_;have GE122:=n3_;clear n0_ n1_ n2_ n3_;clear hb hbox hg;have hcz15_0 : w14.cell? ⟨gb122,0,none⟩ = some (.int .i64 a0_0):=(blk_cell BK122.out 0).trans rfl;have hcz15_1 : w14.cell? ⟨gb122,1,none⟩ = some (.int .i64 a0_1):=(blk_cell BK122.out 1).trans rfl;have hfz15_0:=blk_frozen BK122.out 0;have hfz15_1:=blk_frozen BK122.out 1))
  go_ret
  exact ⟨by first|rfl|(simp [errW_none,errW_some] <;> rfl)|(simp [*,errW_none,errW_some] <;> rfl),by repeat (first|(with_reducible first|exact HB.out|apply xA|apply xN|apply xD|refine xS ?_ GE122.out)|exact HB.out)⟩

/-! ### item_Check: function 34 -/
def item_Check.f (a0_0 : ByteArray) (a0_1 : Int) (a0_2 : Int) (a0_3 : ByteArray) (a0_4 : Bool) : Option (Int) := if (a0_0.size : Int) > 16 then (some 20) else ((item_CheckVersion.f a0_1 a0_2).bind fun t124 => (if t124 = 0 then (if (a0_3.size : Int) > 32 then (some 31) else (if a0_4 = true then (if a0_3.toList = ([] : List UInt8) then (some 0) else (some 32)) else (some 0))) else (some 30)))
set_option maxHeartbeats 8000000 in
set_option maxRecDepth 100000 in
theorem item_Check.calls (a0_0 : ByteArray) (a0_1 : Int) (a0_2 : Int) (a0_3 : ByteArray) (a0_4 : Bool) (r : Int) (w : World) (h : item_Check.f a0_0 a0_1 a0_2 a0_3 a0_4 = some r) :
    Calls Try.prog 34 #[.agg #[.string a0_0, .int .i64 a0_1, .int .i64 a0_2, .string a0_3, .bool a0_4]] w fun e w' => e = .returned (.int .i64 r) ∧ Below w.heap.size w w' := by
 have hu44:=Try.underlying44
 have hu42:=Try.underlying42
 have HB:=Aside0.mk (Below.refl w.heap.size w)
 have H : (if (a0_0.size : Int) > 16 then (some 20) else ((item_CheckVersion.f a0_1 a0_2).bind fun t124 => (if t124 = 0 then (if (a0_3.size : Int) > 32 then (some 31) else (if a0_4 = true then (if a0_3.toList = ([] : List UInt8) then (some 0) else (some 32)) else (some 0))) else (some 30)))) = some r:=h
 clear h
 by_cases c2 : (a0_0.size : Int) > 16
 ·rw [if_pos c2] at H
  have c2b0 : decide (16 < (a0_0.size : Int)) = true:=decide_eq_true c2
  have c2b1 : decide (16 < a0_0.size) = true:=decide_eq_true (by omega)
  clear c2
  obtain rfl:=Option.some.inj H
  go_enter Try.func34,Try.ntmps34
  go_wp2_with (first|((with_reducible refine gate_dst (N:=1) rfl ?_);refine box_event ?hg (N:=1) ?hd (cs:=#[.string a0_0,.int .i64 a0_1,.int .i64 a0_2,.string a0_3,.bool a0_4]) (t:=44) ?hr ?_;(case hd => rfl);(case hg => rfl);(case hr => first|(go_simp;done)|(go_simp;rfl));intro gb123 hg w3 hbox hb;have n0_:=Aside0.mk (below_step (by repeat (first|(with_reducible first|exact HB.out|apply xA|apply xN|apply xD)|exact HB.out)) hb);have n1_:=Aside0.mk (hbox);have n2_:=Aside0.mk ((by rw [hg];exact (below_size (by repeat (first|(with_reducible first|exact HB.out|apply xA|apply xN|apply xD)|exact HB.out))) : w.heap.size ≤ gb123));have n3_:=Aside0.mk ((by rw [hg];exact (below_size (by repeat (first|(with_reducible first|exact HB.out|apply xA|apply xN|apply xD)|exact HB.out))) : w.heap.size ≤ gb123));clear HB;have HB:=n0_;have BK123:=n1_;have GW123:=n2_;have GE123:=n3_;clear n0_ n1_ n2_ n3_;clear hb hbox hg;have hcz4_0 : w3.cell? ⟨gb123,0,none⟩ = some (.string a0_0):=(blk_cell BK123.out 0).trans rfl;have hcz4_1 : w3.cell? ⟨gb123,1,none⟩ = some (.int .i64 a0_1):=(blk_cell BK123.out 1).trans rfl;have hcz4_2 : w3.cell? ⟨gb123,2,none⟩ = some (.int .i64 a0_2):=(blk_cell BK123.out 2).trans rfl;have hcz4_3 : w3.cell? ⟨gb123,3,none⟩ = some (.string a0_3):=(blk_cell BK123.out 3).trans rfl;have hcz4_4 : w3.cell? ⟨gb123,4,none⟩ = some (.bool a0_4):=(blk_cell BK123.out 4).trans rfl;obtain ⟨hfz4_0,hfz4_1,hfz4_2⟩:=f3 BK123.out;have hfz4_3:=blk_frozen BK123.out 3;have hfz4_4:=blk_frozen BK123.out 4))
  go_ret
  exact ⟨by first|rfl|(simp [errW_none,errW_some] <;> rfl)|(simp [*,errW_none,errW_some] <;> rfl),by repeat (first|(with_reducible first|exact HB.out|apply xA|apply xN|apply xD|refine xS ?_ GE123.out)|exact HB.out)⟩
 ·rw [if_neg c2] at H
  have c2b0 : decide (16 < (a0_0.size : Int)) = false:=decide_eq_false c2
  have c2b1 : decide (16 < a0_0.size) = false:=decide_eq_false (by omega)
  clear c2
  replace H:=Option.bind_eq_some_iff.mp H
  obtain ⟨t124,A50,H⟩:=H
  replace H : (if t124 = 0 then (if (a0_3.size : Int) > 32 then (some 31) else (if a0_4 = true then (if a0_3.toList = ([] : List UInt8) then (some 0) else (some 32)) else (some 0))) else (some 30)) = some r:=H
  have A5:=Aside0.mk A50
  clear A50
  by_cases c6 : t124 = 0
  ·rw [if_pos c6] at H
   have c6b0 : (t124 == 0) = true:=beq_iff_eq.mpr c6
   have c6b1 : (t124 != 0) = false:=bne_eq_false_iff_eq.mpr c6
   clear c6
   by_cases c7 : (a0_3.size : Int) > 32
   ·rw [if_pos c7] at H
    have c7b0 : decide (32 < (a0_3.size : Int)) = true:=decide_eq_true c7
    have c7b1 : decide (32 < a0_3.size) = true:=decide_eq_true (by omega)
    clear c7
    obtain rfl:=Option.some.inj H
    go_enter Try.func34,Try.ntmps34
    go_wp2_with (first|((with_reducible refine gate_dst (N:=1) rfl ?_);refine box_event ?hg (N:=1) ?hd (cs:=#[.string a0_0,.int .i64 a0_1,.int .i64 a0_2,.string a0_3,.bool a0_4]) (t:=44) ?hr ?_;(case hd => rfl);(case hg => rfl);(case hr => first|(go_simp;done)|(go_simp;rfl));intro gb123 hg w8 hbox hb;have n0_:=Aside0.mk (below_step (by repeat (first|(with_reducible first|exact HB.out|apply xA|apply xN|apply xD)|exact HB.out)) hb);have n1_:=Aside0.mk (hbox);have n2_:=Aside0.mk ((by rw [hg];exact (below_size (by repeat (first|(with_reducible first|exact HB.out|apply xA|apply xN|apply xD)|exact HB.out))) : w.heap.size ≤ gb123));have n3_:=Aside0.mk ((by rw [hg];exact (below_size (by repeat (first|(with_reducible first|exact HB.out|apply xA|apply xN|apply xD)|exact HB.out))) : w.heap.size ≤ gb123));clear HB;have HB:=n0_;have BK123:=n1_;have GW123:=n2_;have GE123:=n3_;clear n0_ n1_ n2_ n3_;clear hb hbox hg;have hcz9_0 : w8.cell? ⟨gb123,0,none⟩ = some (.string a0_0):=(blk_cell BK123.out 0).trans rfl;have hcz9_1 : w8.cell? ⟨gb123,1,none⟩ = some (.int .i64 a0_1):=(blk_cell BK123.out 1).trans rfl;have hcz9_2 : w8.cell? ⟨gb123,2,none⟩ = some (.int .i64 a0_2):=(blk_cell BK123.out 2).trans rfl;have hcz9_3 : w8.cell? ⟨gb123,3,none⟩ = some (.string a0_3):=(blk_cell BK123.out 3).trans rfl;have hcz9_4 : w8.cell? ⟨gb123,4,none⟩ = some (.bool a0_4):=(blk_cell BK123.out 4).trans rfl;obtain ⟨hfz9_0,hfz9_1,hfz9_2⟩:=f3 BK123.out;have hfz9_3:=blk_frozen BK123.out 3;have hfz9_4:=blk_frozen BK123.out 4)|((with_reducible refine gate_callee (f:=50) rfl ?_);refine goesL_ (some 11) rfl rfl Try.func50 (by kernel_rfl) rfl #[.agg #[.int .i64 a0_1,.int .i64 a0_2]] rfl (by (try simp only [List.map_toArray,List.map_cons,List.map_nil]);first|done|rfl|(simp only [List.length_drop,List.length_take];rfl)) ?_;(with_reducible refine (item_CheckVersion.calls a0_1 a0_2 t124 _ A5.out).mono ?_);rintro e w10 ⟨rfl,hb⟩;refine ⟨_,rfl,?_⟩;replace BK123:=bk (by (with_reducible repeat first|apply bN|apply bD|apply bA);exact BK123.out) hb;replace HB:=Aside0.mk (below_step (by repeat (first|(with_reducible first|exact HB.out|apply xA|apply xN|apply xD|refine xS ?_ GE123.out)|exact HB.out)) hb);(try clear hb);(try clear hb2);(try clear hk);(try clear hi);have hcz11_0 : w10.cell? ⟨gb123,0,none⟩ = some (.string a0_0):=(blk_cell BK123.out 0).trans rfl;have hcz11_1 : w10.cell? ⟨gb123,1,none⟩ = some (.int .i64 a0_1):=(blk_cell BK123.out 1).trans rfl;have hcz11_2 : w10.cell? ⟨gb123,2,none⟩ = some (.int .i64 a0_2):=(blk_cell BK123.out 2).trans rfl;have hcz11_3 : w10.cell? ⟨gb123,3,none⟩ = some (.string a0_3):=(blk_cell BK123.out 3).trans rfl;have hcz11_4 : w10.cell? ⟨gb123,4,none⟩ = some (.bool a0_4):=(blk_cell BK123.out 4).trans rfl;obtain ⟨hfz11_0,hfz11_1,hfz11_2⟩:=f3 BK123.out;have hfz11_3:=blk_frozen BK123.out 3;have hfz11_4:=blk_frozen BK123.out 4))
    go_ret
    exact ⟨by first|rfl|(simp [errW_none,errW_some] <;> rfl)|(simp [*,errW_none,errW_some] <;> rfl),by repeat (first|(with_reducible first|exact HB.out|apply xA|apply xN|apply xD|refine xS ?_ GE123.out)|exact HB.out)⟩
   ·rw [if_neg c7] at H
    have c7b0 : decide (32 < (a0_3.size : Int)) = false:=decide_eq_false c7
    have c7b1 : decide (32 < a0_3.size) = false:=decide_eq_false (by omega)
    clear c7
    by_cases c12 : a0_4 = true
    ·subst c12
     have H1 : (if a0_3.toList = ([] : List UInt8) then (some 0) else (some 32)) = some r:=by rw [if_pos rfl] at H;exact H
     clear H
     have H:=H1
     clear H1
     by_cases c13 : a0_3.toList = ([] : List UInt8)
     ·rw [if_pos c13] at H
      have c13b0 : (a0_3.toList == ([] : List UInt8)) = true:=beq_iff_eq.mpr c13
      (try (have c13b8:=c13b0;simp only [List.beq_nil_eq] at c13b8))
      have c13b1 : (a0_3.toList != ([] : List UInt8)) = false:=bne_eq_false_iff_eq.mpr c13
      clear c13
      obtain rfl:=Option.some.inj H
      go_enter Try.func34,Try.ntmps34
      go_wp2_with (first|((with_reducible refine gate_dst (N:=1) rfl ?_);refine box_event ?hg (N:=1) ?hd (cs:=#[.string a0_0,.int .i64 a0_1,.int .i64 a0_2,.string a0_3,.bool true]) (t:=44) ?hr ?_;(case hd => rfl);(case hg => rfl);(case hr => first|(go_simp;done)|(go_simp;rfl));intro gb123 hg w14 hbox hb;have n0_:=Aside0.mk (below_step (by repeat (first|(with_reducible first|exact HB.out|apply xA|apply xN|apply xD)|exact HB.out)) hb);have n1_:=Aside0.mk (hbox);have n2_:=Aside0.mk ((by rw [hg];exact (below_size (by repeat (first|(with_reducible first|exact HB.out|apply xA|apply xN|apply xD)|exact HB.out))) : w.heap.size ≤ gb123));have n3_:=Aside0.mk ((by rw [hg];exact (below_size (by repeat (first|(with_reducible first|exact HB.out|apply xA|apply xN|apply xD)|exact HB.out))) : w.heap.size ≤ gb123));clear HB;have HB:=n0_;have BK123:=n1_;have GW123:=n2_;have GE123:=n3_;clear n0_ n1_ n2_ n3_;clear hb hbox hg;have hcz15_0 : w14.cell? ⟨gb123,0,none⟩ = some (.string a0_0):=(blk_cell BK123.out 0).trans rfl;have hcz15_1 : w14.cell? ⟨gb123,1,none⟩ = some (.int .i64 a0_1):=(blk_cell BK123.out 1).trans rfl;have hcz15_2 : w14.cell? ⟨gb123,2,none⟩ = some (.int .i64 a0_2):=(blk_cell BK123.out 2).trans rfl;have hcz15_3 : w14.cell? ⟨gb123,3,none⟩ = some (.string a0_3):=(blk_cell BK123.out 3).trans rfl;have hcz15_4 : w14.cell? ⟨gb123,4,none⟩ = some (.bool true):=(blk_cell BK123.out 4).trans rfl;obtain ⟨hfz15_0,hfz15_1,hfz15_2⟩:=f3 BK123.out;have hfz15_3:=blk_frozen BK123.out 3;have hfz15_4:=blk_frozen BK123.out 4)|((with_reducible refine gate_callee (f:=50) rfl ?_);refine goesL_ (some 11) rfl rfl Try.func50 (by kernel_rfl) rfl #[.agg #[.int .i64 a0_1,.int .i64 a0_2]] rfl (by (try simp only [List.map_toArray,List.map_cons,List.map_nil]);first|done|rfl|(simp only [List.length_drop,List.length_take];rfl)) ?_;(with_reducible refine (item_CheckVersion.calls a0_1 a0_2 t124 _ A5.out).mono ?_);rintro e w16 ⟨rfl,hb⟩;refine ⟨_,rfl,?_⟩;replace BK123:=bk (by (with_reducible repeat first|apply bN|apply bD|apply bA);exact BK123.out) hb;replace HB:=Aside0.mk (below_step (by repeat (first|(with_reducible first|exact HB.out|apply xA|apply xN|apply xD|refine xS ?_ GE123.out)|exact HB.out)) hb);(try clear hb);(try clear hb2);(try clear hk);(try clear hi);have hcz17_0 : w16.cell? ⟨gb123,0,none⟩ = some (.string a0_0):=(blk_cell BK123.out 0).trans rfl;have hcz17_1 : w16.cell? ⟨gb123,1,none⟩ = some (.int .i64 a0_1):=(blk_cell BK123.out 1).trans rfl;have hcz17_2 : w16.cell? ⟨gb123,2,none⟩ = some (.int .i64 a0_2):=(blk_cell BK123.out 2).trans rfl;have hcz17_3 : w16.cell? ⟨gb123,3,none⟩ = some (.string a0_3):=(blk_cell BK123.out 3).trans rfl;have hcz17_4 : w16.cell? ⟨gb123,4,none⟩ = some (.bool true):=(blk_cell BK123.out 4).trans rfl;obtain ⟨hfz17_0,hfz17_1,hfz17_2⟩:=f3 BK123.out;have hfz17_3:=blk_frozen BK123.out 3;have hfz17_4:=blk_frozen BK123.out 4))
      go_ret
      exact ⟨by first|rfl|(simp [errW_none,errW_some] <;> rfl)|(simp [*,errW_none,errW_some] <;> rfl),by repeat (first|(with_reducible first|exact HB.out|apply xA|apply xN|apply xD|refine xS ?_ GE123.out)|exact HB.out)⟩
     ·rw [if_neg c13] at H
      have c13b0 : (a0_3.toList == ([] : List UInt8)) = false:=beq_eq_false_iff_ne.mpr c13
      (try (have c13b8:=c13b0;simp only [List.beq_nil_eq] at c13b8))
      have c13b1 : (a0_3.toList != ([] : List UInt8)) = true:=bne_iff_ne.mpr c13
      obtain rfl:=Option.some.inj H
      go_enter Try.func34,Try.ntmps34
      go_wp2_with (first|((with_reducible refine gate_dst (N:=1) rfl ?_);refine box_event ?hg (N:=1) ?hd (cs:=#[.string a0_0,.int .i64 a0_1,.int .i64 a0_2,.string a0_3,.bool true]) (t:=44) ?hr ?_;(case hd => rfl);(case hg => rfl);(case hr => first|(go_simp;done)|(go_simp;rfl));intro gb123 hg w18 hbox hb;have n0_:=Aside0.mk (below_step (by repeat (first|(with_reducible first|exact HB.out|apply xA|apply xN|apply xD)|exact HB.out)) hb);have n1_:=Aside0.mk (hbox);have n2_:=Aside0.mk ((by rw [hg];exact (below_size (by repeat (first|(with_reducible first|exact HB.out|apply xA|apply xN|apply xD)|exact HB.out))) : w.heap.size ≤ gb123));have n3_:=Aside0.mk ((by rw [hg];exact (below_size (by repeat (first|(with_reducible first|exact HB.out|apply xA|apply xN|apply xD)|exact HB.out))) : w.heap.size ≤ gb123));clear HB;have HB:=n0_;have BK123:=n1_;have GW123:=n2_;have GE123:=n3_;clear n0_ n1_ n2_ n3_;clear hb hbox hg;have hcz19_0 : w18.cell? ⟨gb123,0,none⟩ = some (.string a0_0):=(blk_cell BK123.out 0).trans rfl;have hcz19_1 : w18.cell? ⟨gb123,1,none⟩ = some (.int .i64 a0_1):=(blk_cell BK123.out 1).trans rfl;have hcz19_2 : w18.cell? ⟨gb123,2,none⟩ = some (.int .i64 a0_2):=(blk_cell BK123.out 2).trans rfl;have hcz19_3 : w18.cell? ⟨gb123,3,none⟩ = some (.string a0_3):=(blk_cell BK123.out 3).trans rfl;have hcz19_4 : w18.cell? ⟨gb123,4,none⟩ = some (.bool true):=(blk_cell BK123.out 4).trans rfl;obtain ⟨hfz19_0,hfz19_1,hfz19_2⟩:=f3 BK123.out;have hfz19_3:=blk_frozen BK123.out 3;have hfz19_4:=blk_frozen BK123.out 4)|((with_reducible refine gate_callee (f:=50) rfl ?_);refine goesL_ (some 11) rfl rfl Try.func50 (by kernel_rfl) rfl #[.agg #[.int .i64 a0_1,.int .i64 a0_2]] rfl (by (try simp only [List.map_toArray,List.map_cons,List.map_nil]);first|done|rfl|(simp only [List.length_drop,List.length_take];rfl)) ?_;(with_reducible refine (item_CheckVersion.calls a0_1 a0_2 t124 _ A5.out).mono ?_);rintro e w20 ⟨rfl,hb⟩;refine ⟨_,rfl,?_⟩;replace BK123:=bk (by (with_reducible repeat first|apply bN|apply bD|apply bA);exact BK123.out) hb;replace HB:=Aside0.mk (below_step (by repeat (first|(with_reducible first|exact HB.out|apply xA|apply xN|apply xD|refine xS ?_ GE123.out)|exact HB.out)) hb);(try clear hb);(try clear hb2);(try clear hk);(try clear hi);have hcz21_0 : w20.cell? ⟨gb123,0,none⟩ = some (.string a0_0):=(blk_cell BK123.out 0).trans rfl;have hcz21_1 : w20.cell? ⟨gb123,1,none⟩ = some (.int .i64 a0_1):=(blk_cell BK123.out 1).trans rfl;have hcz21_2 : w20.cell? ⟨gb123,2,none⟩ = some (.int .i64 a0_2):=(blk_cell BK123.out 2).trans rfl;have hcz21_3 : w20.cell? ⟨gb123,3,none⟩ = some (.string a0_3):=(blk_cell BK123.out 3).trans rfl;have hcz21_4 : w20.cell? ⟨gb123,4,none⟩ = some (.bool true):=(blk_cell BK123.out 4).trans rfl;obtain ⟨hfz21_0,hfz21_1,hfz21_2⟩:=f3 BK123.out;have hfz21_3:=blk_frozen BK123.out 3;have hfz21_4:=blk_frozen BK123.out 4))
      go_ret
      exact ⟨by first|rfl|(simp [errW_none,errW_some] <;> rfl)|(simp [*,errW_none,errW_some] <;> rfl),by repeat (first|(with_reducible first|exact HB.out|apply xA|apply xN|apply xD|refine xS ?_ GE123.out)|exact HB.out)⟩
    ·replace c12:=Bool.eq_false_iff.mpr c12
     subst c12
     have H1 : (some 0) = some r:=by rw [if_neg (show ¬ (false = true) by decide)] at H;exact H
     clear H
     have H:=H1
     clear H1
     obtain rfl:=Option.some.inj H
     go_enter Try.func34,Try.ntmps34
     go_wp2_with (first|((with_reducible refine gate_dst (N:=1) rfl ?_);refine box_event ?hg (N:=1) ?hd (cs:=#[.string a0_0,.int .i64 a0_1,.int .i64 a0_2,.string a0_3,.bool false]) (t:=44) ?hr ?_;(case hd => rfl);(case hg => rfl);(case hr => first|(go_simp;done)|(go_simp;rfl));intro gb123 hg w22 hbox hb;have n0_:=Aside0.mk (below_step (by repeat (first|(with_reducible first|exact HB.out|apply xA|apply xN|apply xD)|exact HB.out)) hb);have n1_:=Aside0.mk (hbox);have n2_:=Aside0.mk ((by rw [hg];exact (below_size (by repeat (first|(with_reducible first|exact HB.out|apply xA|apply xN|apply xD)|exact HB.out))) : w.heap.size ≤ gb123));have n3_:=Aside0.mk ((by rw [hg];exact (below_size (by repeat (first|(with_reducible first|exact HB.out|apply xA|apply xN|apply xD)|exact HB.out))) : w.heap.size ≤ gb123));clear HB;have HB:=n0_;have BK123:=n1_;have GW123:=n2_;have GE123:=n3_;clear n0_ n1_ n2_ n3_;clear hb hbox hg;have hcz23_0 : w22.cell? ⟨gb123,0,none⟩ = some (.string a0_0):=(blk_cell BK123.out 0).trans rfl;have hcz23_1 : w22.cell? ⟨gb123,1,none⟩ = some (.int .i64 a0_1):=(blk_cell BK123.out 1).trans rfl;have hcz23_2 : w22.cell? ⟨gb123,2,none⟩ = some (.int .i64 a0_2):=(blk_cell BK123.out 2).trans rfl;have hcz23_3 : w22.cell? ⟨gb123,3,none⟩ = some (.string a0_3):=(blk_cell BK123.out 3).trans rfl;have hcz23_4 : w22.cell? ⟨gb123,4,none⟩ = some (.bool false):=(blk_cell BK123.out 4).trans rfl;obtain ⟨hfz23_0,hfz23_1,hfz23_2⟩:=f3 BK123.out;have hfz23_3:=blk_frozen BK123.out 3;have hfz23_4:=blk_frozen BK123.out 4)|((with_reducible refine gate_callee (f:=50) rfl ?_);refine goesL_ (some 11) rfl rfl Try.func50 (by kernel_rfl) rfl #[.agg #[.int .i64 a0_1,.int .i64 a0_2]] rfl (by (try simp only [List.map_toArray,List.map_cons,List.map_nil]);first|done|rfl|(simp only [List.length_drop,List.length_take];rfl)) ?_;(with_reducible refine (item_CheckVersion.calls a0_1 a0_2 t124 _ A5.out).mono ?_);rintro e w24 ⟨rfl,hb⟩;refine ⟨_,rfl,?_⟩;replace BK123:=bk (by (with_reducible repeat first|apply bN|apply bD|apply bA);exact BK123.out) hb;replace HB:=Aside0.mk (below_step (by repeat (first|(with_reducible first|exact HB.out|apply xA|apply xN|apply xD|refine xS ?_ GE123.out)|exact HB.out)) hb);(try clear hb);(try clear hb2);(try clear hk);(try clear hi);have hcz25_0 : w24.cell? ⟨gb123,0,none⟩ = some (.string a0_0):=(blk_cell BK123.out 0).trans rfl;have hcz25_1 : w24.cell? ⟨gb123,1,none⟩ = some (.int .i64 a0_1):=(blk_cell BK123.out 1).trans rfl;have hcz25_2 : w24.cell? ⟨gb123,2,none⟩ = some (.int .i64 a0_2):=(blk_cell BK123.out 2).trans rfl;have hcz25_3 : w24.cell? ⟨gb123,3,none⟩ = some (.string a0_3):=(blk_cell BK123.out 3).trans rfl;have hcz25_4 : w24.cell? ⟨gb123,4,none⟩ = some (.bool false):=(blk_cell BK123.out 4).trans rfl;obtain ⟨hfz25_0,hfz25_1,hfz25_2⟩:=f3 BK123.out;have hfz25_3:=blk_frozen BK123.out 3;have hfz25_4:=blk_frozen BK123.out 4))
     go_ret
     exact ⟨by first|rfl|(simp [errW_none,errW_some] <;> rfl)|(simp [*,errW_none,errW_some] <;> rfl),by repeat (first|(with_reducible first|exact HB.out|apply xA|apply xN|apply xD|refine xS ?_ GE123.out)|exact HB.out)⟩
  ·rw [if_neg c6] at H
   have c6b0 : (t124 == 0) = false:=beq_eq_false_iff_ne.mpr c6
   have c6b1 : (t124 != 0) = true:=bne_iff_ne.mpr c6
   obtain rfl:=Option.some.inj H
   go_enter Try.func34,Try.ntmps34
   go_wp2_with (first|((with_reducible refine gate_dst (N:=1) rfl ?_);refine box_event ?hg (N:=1) ?hd (cs:=#[.string a0_0,.int .i64 a0_1,.int .i64 a0_2,.string a0_3,.bool a0_4]) (t:=44) ?hr ?_;(case hd => rfl);(case hg => rfl);(case hr => first|(go_simp;done)|(go_simp;rfl));intro gb123 hg w26 hbox hb;have n0_:=Aside0.mk (below_step (by repeat (first|(with_reducible first|exact HB.out|apply xA|apply xN|apply xD)|exact HB.out)) hb);have n1_:=Aside0.mk (hbox);have n2_:=Aside0.mk ((by rw [hg];exact (below_size (by repeat (first|(with_reducible first|exact HB.out|apply xA|apply xN|apply xD)|exact HB.out))) : w.heap.size ≤ gb123));have n3_:=Aside0.mk ((by rw [hg];exact (below_size (by repeat (first|(with_reducible first|exact HB.out|apply xA|apply xN|apply xD)|exact HB.out))) : w.heap.size ≤ gb123));clear HB;have HB:=n0_;have BK123:=n1_;have GW123:=n2_;have GE123:=n3_;clear n0_ n1_ n2_ n3_;clear hb hbox hg;have hcz27_0 : w26.cell? ⟨gb123,0,none⟩ = some (.string a0_0):=(blk_cell BK123.out 0).trans rfl;have hcz27_1 : w26.cell? ⟨gb123,1,none⟩ = some (.int .i64 a0_1):=(blk_cell BK123.out 1).trans rfl;have hcz27_2 : w26.cell? ⟨gb123,2,none⟩ = some (.int .i64 a0_2):=(blk_cell BK123.out 2).trans rfl;have hcz27_3 : w26.cell? ⟨gb123,3,none⟩ = some (.string a0_3):=(blk_cell BK123.out 3).trans rfl;have hcz27_4 : w26.cell? ⟨gb123,4,none⟩ = some (.bool a0_4):=(blk_cell BK123.out 4).trans rfl;obtain ⟨hfz27_0,hfz27_1,hfz27_2⟩:=f3 BK123.out;have hfz27_3:=blk_frozen BK123.out 3;have hfz27_4:=blk_frozen BK123.out 4)|((with_reducible refine gate_callee (f:=50) rfl ?_);refine goesL_ (some 11) rfl rfl Try.func50 (by kernel_rfl) rfl #[.agg #[.int .i64 a0_1,.int .i64 a0_2]] rfl (by (try simp only [List.map_toArray,List.map_cons,List.map_nil]);first|done|rfl|(simp only [List.length_drop,List.length_take];rfl)) ?_;(with_reducible refine (item_CheckVersion.calls a0_1 a0_2 t124 _ A5.out).mono ?_);rintro e w28 ⟨rfl,hb⟩;refine ⟨_,rfl,?_⟩;replace BK123:=bk (by (with_reducible repeat first|apply bN|apply bD|apply bA);exact BK123.out) hb;replace HB:=Aside0.mk (below_step (by repeat (first|(with_reducible first|exact HB.out|apply xA|apply xN|apply xD|refine xS ?_ GE123.out)|exact HB.out)) hb);(try clear hb);(try clear hb2);(try clear hk);(try clear hi)))
   go_ret
   exact ⟨by first|rfl|(simp [errW_none,errW_some] <;> rfl)|(simp [*,errW_none,errW_some] <;> rfl),by repeat (first|(with_reducible first|exact HB.out|apply xA|apply xN|apply xD|refine xS ?_ GE123.out)|exact HB.out)⟩

/-! ### merge_Check: function 14 -/
def merge_Check.l0 : Nat → List (S44) → List (S44) → Int → Int → Option (Int)
  | 0, _, _, _, _ => none
  | k + 1, x0, x6, x7, x8 => if x8 < x7 then (if 0 ≤ x8 then (if x8 < (x6.length : Int) then ((item_Check.f ((rd_T44 x6 x8).f0) ((rd_T44 x6 x8).f1.f0) ((rd_T44 x6 x8).f1.f1) ((rd_T44 x6 x8).f2) ((rd_T44 x6 x8).f3)).bind fun t127 => (if t127 = 0 then (if x8 > 0 then (if 0 ≤ (wrap64 (x8 - 1)) then (if (wrap64 (x8 - 1)) < (x0.length : Int) then (if ((Op.bytesLess (((rd_T44 x0 (wrap64 (x8 - 1))).f0).toList) (((rd_T44 x6 x8).f0).toList)) = true) then (merge_Check.l0 k x0 x6 x7 (wrap64 (x8 + 1))) else (some 90)) else (none)) else (none)) else (merge_Check.l0 k x0 x6 x7 (wrap64 (x8 + 1)))) else (some t127))) else (none)) else (none)) else (some 0)
def merge_Check.f (k : Nat) (l0 : List (S44)) : Option (Int) := merge_Check.l0 k l0 l0 (l0.length : Int) 0
theorem merge_Check.mono_l : ∀ k, (∀ y0 y1 y2 y3, LeO (merge_Check.l0 k y0 y1 y2 y3) (merge_Check.l0 (k + 1) y0 y1 y2 y3))
  | 0 => fun _ _ _ _ r h => by simp [merge_Check.l0] at h
  | k + 1 => by
    have ih0 := merge_Check.mono_l k
    · intro y0 y1 y2 y3
      unfold merge_Check.l0
      repeat' first
      | (with_reducible exact ih0 _ _ _ _)
      | (with_reducible exact LeO.refl _)
      | (with_reducible exact LeO.none _)
      | (with_reducible refine LeO.ite ?_ ?_)
      | (with_reducible refine LeO.bind ?_ (fun _ => ?_))
      | exact ih0 _ _ _ _
      | exact LeO.none _
      | refine LeO.ite ?_ ?_
      | refine LeO.bind ?_ (fun _ => ?_)
theorem merge_Check.mono : ∀ a0 k, LeO (merge_Check.f k a0) (merge_Check.f (k + 1) a0) := by
  intro a0 k
  have ih0 := merge_Check.mono_l k
  unfold merge_Check.f
  repeat' first
      | (with_reducible exact ih0 _ _ _ _)
      | (with_reducible exact LeO.refl _)
      | (with_reducible exact LeO.none _)
      | (with_reducible refine LeO.ite ?_ ?_)
      | (with_reducible refine LeO.bind ?_ (fun _ => ?_))
      | exact ih0 _ _ _ _
      | exact LeO.none _
      | refine LeO.ite ?_ ?_
      | refine LeO.bind ?_ (fun _ => ?_)
set_option maxHeartbeats 8000000 in
set_option maxRecDepth 100000 in
theorem merge_Check.calls (k : Nat) (A0 : Option Addr) (c0 : Nat) (l0 : List (S44)) (r : Int) (w : World) (hr0 : Kd.C k44 w A0 l0.length l0) (hc0 : l0.length ≤ c0) (h : merge_Check.f k l0 = some r) :
    Calls Try.prog 14 #[.slice A0 l0.length c0] w fun e w' => e = .returned (.int .i64 r) ∧ Below w.heap.size w w' := by
 have hu44:=Try.underlying44
 have HR0:=Aside0.mk hr0
 have HC0:=Aside0.mk hc0
 clear hr0 hc0
 have HB:=Aside0.mk (Below.refl w.heap.size w)
 have H : (merge_Check.l0 k l0 l0 (l0.length : Int) 0) = some r:=h
 clear h
 have H':=Aside0.mk H
 clear H
 go_enter Try.func14,Try.ntmps14
 go_wp2
 repeat (go_quiet (fail);try go_wp2)
 go_loopg [8] k (fun kq v8 w' => ∃ (x8_1 : Int),v8 = .int .i64 x8_1 ∧ Aside0 (merge_Check.l0 kq l0 l0 (l0.length : Int) x8_1 = some r) ∧ Aside0 (kq ≤ k) ∧ Aside0 (Below w.heap.size w w'))
 case atStart => exact ⟨(0),(by first|rfl|(simp;done)|(simp [*];done)|(simp [*,Go.Proofs.Ytghlellambnkeaa.Str.bne_nil];done)),H',⟨Nat.le_refl _⟩,⟨by repeat (first|(with_reducible first|exact HB.out|apply xA|apply xN|apply xD)|exact HB.out)⟩⟩
 case round =>
  clear H'
  try clear c1
  obtain ⟨x8_1,rfl,HA,HK1,HB⟩:=hrel
  cases gk with
 |zero => exact absurd HA.out (by simp [merge_Check.l0])
 |succ k1 =>
   have H:=HA.out
   clear HA
   simp only [merge_Check.l0] at H
   by_cases c2 : x8_1 < (l0.length : Int)
   ·rw [if_pos c2] at H
    have c2b0 : decide (x8_1 < (l0.length : Int)) = true:=decide_eq_true c2
    clear c2
    by_cases c3 : 0 ≤ x8_1
    ·rw [if_pos c3] at H
     have c3b0 : decide (0 ≤ x8_1) = true:=decide_eq_true c3
     clear c3
     by_cases c4 : x8_1 < (l0.length : Int)
     ·rw [if_pos c4] at H
      have c4b0 : decide (x8_1 < (l0.length : Int)) = true:=decide_eq_true c4
      clear c4
      replace H:=Option.bind_eq_some_iff.mp H
      obtain ⟨t127,A50,H⟩:=H
      replace H : (if t127 = 0 then (if x8_1 > 0 then (if 0 ≤ (wrap64 (x8_1 - 1)) then (if (wrap64 (x8_1 - 1)) < (l0.length : Int) then (if ((Op.bytesLess (((rd_T44 l0 (wrap64 (x8_1 - 1))).f0).toList) (((rd_T44 l0 x8_1).f0).toList)) = true) then (merge_Check.l0 k1 l0 l0 (l0.length : Int) (wrap64 (x8_1 + 1))) else (some 90)) else (none)) else (none)) else (merge_Check.l0 k1 l0 l0 (l0.length : Int) (wrap64 (x8_1 + 1)))) else (some t127)) = some r:=H
      have A5:=Aside0.mk A50
      clear A50
      by_cases c6 : t127 = 0
      ·rw [if_pos c6] at H
       have c6b0 : (t127 == 0) = true:=beq_iff_eq.mpr c6
       have c6b1 : (t127 != 0) = false:=bne_eq_false_iff_eq.mpr c6
       clear c6
       by_cases c7 : x8_1 > 0
       ·rw [if_pos c7] at H
        have c7b0 : decide (0 < x8_1) = true:=decide_eq_true c7
        clear c7
        obtain ⟨ji8,hji8⟩ : ∃ j_ : Int,(wrap64 (x8_1 - 1)) = j_:=⟨_,rfl⟩
        replace H : (if 0 ≤ (ji8) then (if (ji8) < (l0.length : Int) then (if ((Op.bytesLess (((rd_T44 l0 (ji8)).f0).toList) (((rd_T44 l0 x8_1).f0).toList)) = true) then (merge_Check.l0 k1 l0 l0 (l0.length : Int) (wrap64 (x8_1 + 1))) else (some 90)) else (none)) else (none)) = some r:=by first|(rw [hji8] at H;exact H)|(simp only [hji8] at H ⊢;exact H)
        (try rw [hji8] at A5)
        have hji8w : (IntKind.i64.wrap (x8_1 - 1)) = ji8:=(i64_w _).trans hji8
        by_cases c9 : 0 ≤ (ji8)
        ·rw [if_pos c9] at H
         have c9b0 : decide (0 ≤ (ji8)) = true:=decide_eq_true c9
         clear c9
         by_cases c10 : (ji8) < (l0.length : Int)
         ·rw [if_pos c10] at H
          have c10b0 : decide ((ji8) < (l0.length : Int)) = true:=decide_eq_true c10
          clear c10
          by_cases c11 : ((Op.bytesLess (((rd_T44 l0 (ji8)).f0).toList) (((rd_T44 l0 x8_1).f0).toList)) = true)
          ·rw [if_pos c11] at H
           have c11b0 : (Op.bytesLess (((rd_T44 l0 (ji8)).f0).toList) (((rd_T44 l0 x8_1).f0).toList)) = true:=c11
           clear c11
           have H':=Aside0.mk H
           clear H
           have p125 : 0 ≤ (x8_1 : Int):=of_decide_eq_true (by first|(with_reducible assumption)|assumption)
           have q125 : x8_1 < (l0.length : Int):=of_decide_eq_true (by first|(with_reducible assumption)|assumption)
           obtain ⟨ad125,e125,hx125_0,hx125_1,hx125_2,hx125_3,hx125_4⟩:=at_T44 HR0.out x8_1 p125 q125
           cases e125
           replace hx125_0:=(HB.out.cell (World.block_lt_of_cell? w _ hx125_0)).trans hx125_0
           replace hx125_1:=(HB.out.cell (World.block_lt_of_cell? w _ hx125_1)).trans hx125_1
           replace hx125_2:=(HB.out.cell (World.block_lt_of_cell? w _ hx125_2)).trans hx125_2
           replace hx125_3:=(HB.out.cell (World.block_lt_of_cell? w _ hx125_3)).trans hx125_3
           replace hx125_4:=(HB.out.cell (World.block_lt_of_cell? w _ hx125_4)).trans hx125_4
           replace p125:=eq_true p125
           replace q125:=eq_true q125
           go_wp2_with (first|((with_reducible refine gate_dst (N:=4) rfl ?_);refine box_event ?hg (N:=4) ?hd (cs:=#[.string (⟨#[]⟩ : ByteArray),.int .i64 0,.int .i64 0,.string (⟨#[]⟩ : ByteArray),.bool false]) (t:=44) ?hr ?_;(case hd => rfl);(case hg => rfl);(case hr => first|(go_simp;done)|(go_simp;rfl));intro gb126 hg w12 hbox hb;have n0_:=Aside0.mk (below_step (by repeat (first|(with_reducible first|exact HB.out|apply xA|apply xN|apply xD)|exact HB.out)) hb);have n1_:=Aside0.mk (hbox);have n2_:=Aside0.mk ((by rw [hg];exact (below_size (by repeat (first|(with_reducible first|exact HB.out|apply xA|apply xN|apply xD)|exact HB.out))) : w.heap.size ≤ gb126));have n3_:=Aside0.mk ((by rw [hg];exact (below_size (by repeat (first|(with_reducible first|exact HB.out|apply xA|apply xN|apply xD)|exact HB.out))) : w.heap.size ≤ gb126));clear HB;have HB:=n0_;have BK126:=n1_;have GW126:=n2_;have GE126:=n3_;clear n0_ n1_ n2_ n3_;clear hb hbox hg;have hcz13_0 : w12.cell? ⟨gb126,0,none⟩ = some (.string (⟨#[]⟩ : ByteArray)):=(blk_cell BK126.out 0).trans rfl;have hcz13_1 : w12.cell? ⟨gb126,1,none⟩ = some (.int .i64 0):=(blk_cell BK126.out 1).trans rfl;have hcz13_2 : w12.cell? ⟨gb126,2,none⟩ = some (.int .i64 0):=(blk_cell BK126.out 2).trans rfl;have hcz13_3 : w12.cell? ⟨gb126,3,none⟩ = some (.string (⟨#[]⟩ : ByteArray)):=(blk_cell BK126.out 3).trans rfl;have hcz13_4 : w12.cell? ⟨gb126,4,none⟩ = some (.bool false):=(blk_cell BK126.out 4).trans rfl;obtain ⟨hfz13_0,hfz13_1,hfz13_2⟩:=f3 BK126.out;have hfz13_3:=blk_frozen BK126.out 3;have hfz13_4:=blk_frozen BK126.out 4)|(go_at_call 34;(with_reducible refine (item_Check.calls ((rd_T44 l0 x8_1).f0) ((rd_T44 l0 x8_1).f1.f0) ((rd_T44 l0 x8_1).f1.f1) ((rd_T44 l0 x8_1).f2) ((rd_T44 l0 x8_1).f3) t127 _ A5.out).mono ?_);rintro e w14 ⟨rfl,hb⟩;replace BK126:=Aside0.mk (blk_below (g:=gb126) (o:=.cells #[.string ((rd_T44 l0 x8_1).f0),.int .i64 ((rd_T44 l0 x8_1).f1.f0),.int .i64 ((rd_T44 l0 x8_1).f1.f1),.string ((rd_T44 l0 x8_1).f2),.bool ((rd_T44 l0 x8_1).f3)] 44 (0,0)) (by (with_reducible repeat first|apply bN|apply bD|apply bA);refine blk_put (cs:=#[.string ((rd_T44 l0 x8_1).f0),.int .i64 ((rd_T44 l0 x8_1).f1.f0),.int .i64 ((rd_T44 l0 x8_1).f1.f1),.string ((rd_T44 l0 x8_1).f2),.bool false]) ?_ 4 _ rfl;(with_reducible repeat first|apply bN|apply bD|apply bA);refine blk_put (cs:=#[.string ((rd_T44 l0 x8_1).f0),.int .i64 ((rd_T44 l0 x8_1).f1.f0),.int .i64 ((rd_T44 l0 x8_1).f1.f1),.string (⟨#[]⟩ : ByteArray),.bool false]) ?_ 3 _ rfl;(with_reducible repeat first|apply bN|apply bD|apply bA);refine blk_put (cs:=#[.string ((rd_T44 l0 x8_1).f0),.int .i64 ((rd_T44 l0 x8_1).f1.f0),.int .i64 0,.string (⟨#[]⟩ : ByteArray),.bool false]) ?_ 2 _ rfl;(with_reducible repeat first|apply bN|apply bD|apply bA);refine blk_put (cs:=#[.string ((rd_T44 l0 x8_1).f0),.int .i64 0,.int .i64 0,.string (⟨#[]⟩ : ByteArray),.bool false]) ?_ 1 _ rfl;(with_reducible repeat first|apply bN|apply bD|apply bA);refine blk_put (cs:=#[.string (⟨#[]⟩ : ByteArray),.int .i64 0,.int .i64 0,.string (⟨#[]⟩ : ByteArray),.bool false]) ?_ 0 _ rfl;(with_reducible repeat first|apply bN|apply bD|apply bA);exact BK126.out) hb);replace HB:=Aside0.mk (below_step (by repeat (first|(with_reducible first|exact HB.out|apply xA|apply xN|apply xD|refine xS ?_ GE126.out)|exact HB.out)) hb);(try clear hb);(try clear hb2);(try clear hk);(try clear hi);have p128 : 0 ≤ ((ji8) : Int):=of_decide_eq_true (by first|(with_reducible assumption)|assumption);have q128 : (ji8) < (l0.length : Int):=of_decide_eq_true (by first|(with_reducible assumption)|assumption);obtain ⟨ad128,e128,hx128_0,hx128_1,hx128_2,hx128_3,hx128_4⟩:=at_T44 HR0.out (ji8) p128 q128;obtain rfl : ad125 = ad128:=(by injection e128);replace hx128_0:=(HB.out.cell (World.block_lt_of_cell? w _ hx128_0)).trans hx128_0;replace hx128_1:=(HB.out.cell (World.block_lt_of_cell? w _ hx128_1)).trans hx128_1;replace hx128_2:=(HB.out.cell (World.block_lt_of_cell? w _ hx128_2)).trans hx128_2;replace hx128_3:=(HB.out.cell (World.block_lt_of_cell? w _ hx128_3)).trans hx128_3;replace hx128_4:=(HB.out.cell (World.block_lt_of_cell? w _ hx128_4)).trans hx128_4;replace p128:=eq_true p128;replace q128:=eq_true q128;have hcz15_0 : w14.cell? ⟨gb126,0,none⟩ = some (.string ((rd_T44 l0 x8_1).f0)):=(blk_cell BK126.out 0).trans rfl;have hcz15_1 : w14.cell? ⟨gb126,1,none⟩ = some (.int .i64 ((rd_T44 l0 x8_1).f1.f0)):=(blk_cell BK126.out 1).trans rfl;have hcz15_2 : w14.cell? ⟨gb126,2,none⟩ = some (.int .i64 ((rd_T44 l0 x8_1).f1.f1)):=(blk_cell BK126.out 2).trans rfl;have hcz15_3 : w14.cell? ⟨gb126,3,none⟩ = some (.string ((rd_T44 l0 x8_1).f2)):=(blk_cell BK126.out 3).trans rfl;have hcz15_4 : w14.cell? ⟨gb126,4,none⟩ = some (.bool ((rd_T44 l0 x8_1).f3)):=(blk_cell BK126.out 4).trans rfl;obtain ⟨hfz15_0,hfz15_1,hfz15_2⟩:=f3 BK126.out;have hfz15_3:=blk_frozen BK126.out 3;have hfz15_4:=blk_frozen BK126.out 4))
           repeat (go_quiet (first|((with_reducible refine gate_dst (N:=4) rfl ?_);refine box_event ?hg (N:=4) ?hd (cs:=#[.string (⟨#[]⟩ : ByteArray),.int .i64 0,.int .i64 0,.string (⟨#[]⟩ : ByteArray),.bool false]) (t:=44) ?hr ?_;(case hd => rfl);(case hg => rfl);(case hr => first|(go_simp;done)|(go_simp;rfl));intro gb126 hg w12 hbox hb;have n0_:=Aside0.mk (below_step (by repeat (first|(with_reducible first|exact HB.out|apply xA|apply xN|apply xD)|exact HB.out)) hb);have n1_:=Aside0.mk (hbox);have n2_:=Aside0.mk ((by rw [hg];exact (below_size (by repeat (first|(with_reducible first|exact HB.out|apply xA|apply xN|apply xD)|exact HB.out))) : w.heap.size ≤ gb126));have n3_:=Aside0.mk ((by rw [hg];exact (below_size (by repeat (first|(with_reducible first|exact HB.out|apply xA|apply xN|apply xD)|exact HB.out))) : w.heap.size ≤ gb126));clear HB;have HB:=n0_;have BK126:=n1_;have GW126:=n2_;have GE126:=n3_;clear n0_ n1_ n2_ n3_;clear hb hbox hg;have hcz13_0 : w12.cell? ⟨gb126,0,none⟩ = some (.string (⟨#[]⟩ : ByteArray)):=(blk_cell BK126.out 0).trans rfl;have hcz13_1 : w12.cell? ⟨gb126,1,none⟩ = some (.int .i64 0):=(blk_cell BK126.out 1).trans rfl;have hcz13_2 : w12.cell? ⟨gb126,2,none⟩ = some (.int .i64 0):=(blk_cell BK126.out 2).trans rfl;have hcz13_3 : w12.cell? ⟨gb126,3,none⟩ = some (.string (⟨#[]⟩ : ByteArray)):=(blk_cell BK126.out 3).trans rfl;have hcz13_4 : w12.cell? ⟨gb126,4,none⟩ = some (.bool false):=(blk_cell BK126.out 4).trans rfl;obtain ⟨hfz13_0,hfz13_1,hfz13_2⟩:=f3 BK126.out;have hfz13_3:=blk_frozen BK126.out 3;have hfz13_4:=blk_frozen BK126.out 4)|(go_at_call 34;(with_reducible refine (item_Check.calls ((rd_T44 l0 x8_1).f0) ((rd_T44 l0 x8_1).f1.f0) ((rd_T44 l0 x8_1).f1.f1) ((rd_T44 l0 x8_1).f2) ((rd_T44 l0 x8_1).f3) t127 _ A5.out).mono ?_);rintro e w14 ⟨rfl,hb⟩;replace BK126:=Aside0.mk (blk_below (g:=gb126) (o:=.cells #[.string ((rd_T44 l0 x8_1).f0),.int .i64 ((rd_T44 l0 x8_1).f1.f0),.int .i64 ((rd_T44 l0 x8_1).f1.f1),.string ((rd_T44 l0 x8_1).f2),.bool ((rd_T44 l0 x8_1).f3)] 44 (0,0)) (by (with_reducible repeat first|apply bN|apply bD|apply bA);refine blk_put (cs:=#[.string ((rd_T44 l0 x8_1).f0),.int .i64 ((rd_T44 l0 x8_1).f1.f0),.int .i64 ((rd_T44 l0 x8_1).f1.f1),.string ((rd_T44 l0 x8_1).f2),.bool false]) ?_ 4 _ rfl;(with_reducible repeat first|apply bN|apply bD|apply bA);refine blk_put (cs:=#[.string ((rd_T44 l0 x8_1).f0),.int .i64 ((rd_T44 l0 x8_1).f1.f0),.int .i64 ((rd_T44 l0 x8_1).f1.f1),.string (⟨#[]⟩ : ByteArray),.bool false]) ?_ 3 _ rfl;(with_reducible repeat first|apply bN|apply bD|apply bA);refine blk_put (cs:=#[.string ((rd_T44 l0 x8_1).f0),.int .i64 ((rd_T44 l0 x8_1).f1.f0),.int .i64 0,.string (⟨#[]⟩ : ByteArray),.bool false]) ?_ 2 _ rfl;(with_reducible repeat first|apply bN|apply bD|apply bA);refine blk_put (cs:=#[.string ((rd_T44 l0 x8_1).f0),.int .i64 0,.int .i64 0,.string (⟨#[]⟩ : ByteArray),.bool false]) ?_ 1 _ rfl;(with_reducible repeat first|apply bN|apply bD|apply bA);refine blk_put (cs:=#[.string (⟨#[]⟩ : ByteArray),.int .i64 0,.int .i64 0,.string (⟨#[]⟩ : ByteArray),.bool false]) ?_ 0 _ rfl;(with_reducible repeat first|apply bN|apply bD|apply bA);exact BK126.out) hb);replace HB:=Aside0.mk (below_step (by repeat (first|(with_reducible first|exact HB.out|apply xA|apply xN|apply xD|refine xS ?_ GE126.out)|exact HB.out)) hb);(try clear hb);(try clear hb2);(try clear hk);(try clear hi);have p128 : 0 ≤ ((ji8) : Int):=of_decide_eq_true (by first|(with_reducible assumption)|assumption);have q128 : (ji8) < (l0.length : Int):=of_decide_eq_true (by first|(with_reducible assumption)|assumption);obtain ⟨ad128,e128,hx128_0,hx128_1,hx128_2,hx128_3,hx128_4⟩:=at_T44 HR0.out (ji8) p128 q128;obtain rfl : ad125 = ad128:=(by injection e128);replace hx128_0:=(HB.out.cell (World.block_lt_of_cell? w _ hx128_0)).trans hx128_0;replace hx128_1:=(HB.out.cell (World.block_lt_of_cell? w _ hx128_1)).trans hx128_1;replace hx128_2:=(HB.out.cell (World.block_lt_of_cell? w _ hx128_2)).trans hx128_2;replace hx128_3:=(HB.out.cell (World.block_lt_of_cell? w _ hx128_3)).trans hx128_3;replace hx128_4:=(HB.out.cell (World.block_lt_of_cell? w _ hx128_4)).trans hx128_4;replace p128:=eq_true p128;replace q128:=eq_true q128;have hcz15_0 : w14.cell? ⟨gb126,0,none⟩ = some (.string ((rd_T44 l0 x8_1).f0)):=(blk_cell BK126.out 0).trans rfl;have hcz15_1 : w14.cell? ⟨gb126,1,none⟩ = some (.int .i64 ((rd_T44 l0 x8_1).f1.f0)):=(blk_cell BK126.out 1).trans rfl;have hcz15_2 : w14.cell? ⟨gb126,2,none⟩ = some (.int .i64 ((rd_T44 l0 x8_1).f1.f1)):=(blk_cell BK126.out 2).trans rfl;have hcz15_3 : w14.cell? ⟨gb126,3,none⟩ = some (.string ((rd_T44 l0 x8_1).f2)):=(blk_cell BK126.out 3).trans rfl;have hcz15_4 : w14.cell? ⟨gb126,4,none⟩ = some (.bool ((rd_T44 l0 x8_1).f3)):=(blk_cell BK126.out 4).trans rfl;obtain ⟨hfz15_0,hfz15_1,hfz15_2⟩:=f3 BK126.out;have hfz15_3:=blk_frozen BK126.out 3;have hfz15_4:=blk_frozen BK126.out 4));try go_wp2_with (first|((with_reducible refine gate_dst (N:=4) rfl ?_);refine box_event ?hg (N:=4) ?hd (cs:=#[.string (⟨#[]⟩ : ByteArray),.int .i64 0,.int .i64 0,.string (⟨#[]⟩ : ByteArray),.bool false]) (t:=44) ?hr ?_;(case hd => rfl);(case hg => rfl);(case hr => first|(go_simp;done)|(go_simp;rfl));intro gb126 hg w12 hbox hb;have n0_:=Aside0.mk (below_step (by repeat (first|(with_reducible first|exact HB.out|apply xA|apply xN|apply xD)|exact HB.out)) hb);have n1_:=Aside0.mk (hbox);have n2_:=Aside0.mk ((by rw [hg];exact (below_size (by repeat (first|(with_reducible first|exact HB.out|apply xA|apply xN|apply xD)|exact HB.out))) : w.heap.size ≤ gb126));have n3_:=Aside0.mk ((by rw [hg];exact (below_size (by repeat (first|(with_reducible first|exact HB.out|apply xA|apply xN|apply xD)|exact HB.out))) : w.heap.size ≤ gb126));clear HB;have HB:=n0_;have BK126:=n1_;have GW126:=n2_;have GE126:=n3_;clear n0_ n1_ n2_ n3_;clear hb hbox hg;have hcz13_0 : w12.cell? ⟨gb126,0,none⟩ = some (.string (⟨#[]⟩ : ByteArray)):=(blk_cell BK126.out 0).trans rfl;have hcz13_1 : w12.cell? ⟨gb126,1,none⟩ = some (.int .i64 0):=(blk_cell BK126.out 1).trans rfl;have hcz13_2 : w12.cell? ⟨gb126,2,none⟩ = some (.int .i64 0):=(blk_cell BK126.out 2).trans rfl;have hcz13_3 : w12.cell? ⟨gb126,3,none⟩ = some (.string (⟨#[]⟩ : ByteArray)):=(blk_cell BK126.out 3).trans rfl;have hcz13_4 : w12.cell? ⟨gb126,4,none⟩ = some (.bool false):=(blk_cell BK126.out 4).trans rfl;obtain ⟨hfz13_0,hfz13_1,hfz13_2⟩:=f3 BK126.out;have hfz13_3:=blk_frozen BK126.out 3;have hfz13_4:=blk_frozen BK126.out 4)|(go_at_call 34;(with_reducible refine (item_Check.calls ((rd_T44 l0 x8_1).f0) ((rd_T44 l0 x8_1).f1.f0) ((rd_T44 l0 x8_1).f1.f1) ((rd_T44 l0 x8_1).f2) ((rd_T44 l0 x8_1).f3) t127 _ A5.out).mono ?_);rintro e w14 ⟨rfl,hb⟩;replace BK126:=Aside0.mk (blk_below (g:=gb126) (o:=.cells #[.string ((rd_T44 l0 x8_1).f0),.int .i64 ((rd_T44 l0 x8_1).f1.f0),.int .i64 ((rd_T44 l0 x8_1).f1.f1),.string ((rd_T44 l0 x8_1).f2),.bool ((rd_T44 l0 x8_1).f3)] 44 (0,0)) (by (with_reducible repeat first|apply bN|apply bD|apply bA);refine blk_put (cs:=#[.string ((rd_T44 l0 x8_1).f0),.int .i64 ((rd_T44 l0 x8_1).f1.f0),.int .i64 ((rd_T44 l0 x8_1).f1.f1),.string ((rd_T44 l0 x8_1).f2),.bool false]) ?_ 4 _ rfl;(with_reducible repeat first|apply bN|apply bD|apply bA);refine blk_put (cs:=#[.string ((rd_T44 l0 x8_1).f0),.int .i64 ((rd_T44 l0 x8_1).f1.f0),.int .i64 ((rd_T44 l0 x8_1).f1.f1),.string (⟨#[]⟩ : ByteArray),.bool false]) ?_ 3 _ rfl;(with_reducible repeat first|apply bN|apply bD|apply bA);refine blk_put (cs:=#[.string ((rd_T44 l0 x8_1).f0),.int .i64 ((rd_T44 l0 x8_1).f1.f0),.int .i64 0,.string (⟨#[]⟩ : ByteArray),.bool false]) ?_ 2 _ rfl;(with_reducible repeat first|apply bN|apply bD|apply bA);refine blk_put (cs:=#[.string ((rd_T44 l0 x8_1).f0),.int .i64 0,.int .i64 0,.string (⟨#[]⟩ : ByteArray),.bool false]) ?_ 1 _ rfl;(with_reducible repeat first|apply bN|apply bD|apply bA);refine blk_put (cs:=#[.string (⟨#[]⟩ : ByteArray),.int .i64 0,.int .i64 0,.string (⟨#[]⟩ : ByteArray),.bool false]) ?_ 0 _ rfl;(with_reducible repeat first|apply bN|apply bD|apply bA);exact BK126.out) hb);replace HB:=Aside0.mk (below_step (by repeat (first|(with_reducible first|exact HB.out|apply xA|apply xN|apply xD|refine xS ?_ GE126.out)|exact HB.out)) hb);(try clear hb);(try clear hb2);(try clear hk);(try clear hi);have p128 : 0 ≤ ((ji8) : Int):=of_decide_eq_true (by first|(with_reducible assumption)|assumption);have q128 : (ji8) < (l0.length : Int):=of_decide_eq_true (by first|(with_reducible assumption)|assumption);obtain ⟨ad128,e128,hx128_0,hx128_1,hx128_2,hx128_3,hx128_4⟩:=at_T44 HR0.out (ji8) p128 q128;obtain rfl : ad125 = ad128:=(by injection e128);replace hx128_0:=(HB.out.cell (World.block_lt_of_cell? w _ hx128_0)).trans hx128_0;replace hx128_1:=(HB.out.cell (World.block_lt_of_cell? w _ hx128_1)).trans hx128_1;replace hx128_2:=(HB.out.cell (World.block_lt_of_cell? w _ hx128_2)).trans hx128_2;replace hx128_3:=(HB.out.cell (World.block_lt_of_cell? w _ hx128_3)).trans hx128_3;replace hx128_4:=(HB.out.cell (World.block_lt_of_cell? w _ hx128_4)).trans hx128_4;replace p128:=eq_true p128;replace q128:=eq_true q128;have hcz15_0 : w14.cell? ⟨gb126,0,none⟩ = some (.string ((rd_T44 l0 x8_1).f0)):=(blk_cell BK126.out 0).trans rfl;have hcz15_1 : w14.cell? ⟨gb126,1,none⟩ = some (.int .i64 ((rd_T44 l0 x8_1).f1.f0)):=(blk_cell BK126.out 1).trans rfl;have hcz15_2 : w14.cell? ⟨gb126,2,none⟩ = some (.int .i64 ((rd_T44 l0 x8_1).f1.f1)):=(blk_cell BK126.out 2).trans rfl;have hcz15_3 : w14.cell? ⟨gb126,3,none⟩ = some (.string ((rd_T44 l0 x8_1).f2)):=(blk_cell BK126.out 3).trans rfl;have hcz15_4 : w14.cell? ⟨gb126,4,none⟩ = some (.bool ((rd_T44 l0 x8_1).f3)):=(blk_cell BK126.out 4).trans rfl;obtain ⟨hfz15_0,hfz15_1,hfz15_2⟩:=f3 BK126.out;have hfz15_3:=blk_frozen BK126.out 3;have hfz15_4:=blk_frozen BK126.out 4)))
           go_roundg k1
           case measure => have:=HK1.out;omega
           case rel => exact ⟨(wrap64 (x8_1 + 1)),(by first|rfl|(simp;done)|(simp [*];done)|(simp [*,Go.Proofs.Ytghlellambnkeaa.Str.bne_nil];done)),H',⟨by have:=HK1.out;omega⟩,⟨by repeat (first|(with_reducible first|exact HB.out|apply xA|apply xN|apply xD|refine xS ?_ GE126.out)|exact HB.out)⟩⟩
          ·rw [if_neg c11] at H
           have c11b0 : (Op.bytesLess (((rd_T44 l0 (ji8)).f0).toList) (((rd_T44 l0 x8_1).f0).toList)) = false:=by simpa using c11
           clear c11
           obtain rfl:=Option.some.inj H
           have p125 : 0 ≤ (x8_1 : Int):=of_decide_eq_true (by first|(with_reducible assumption)|assumption)
           have q125 : x8_1 < (l0.length : Int):=of_decide_eq_true (by first|(with_reducible assumption)|assumption)
           obtain ⟨ad125,e125,hx125_0,hx125_1,hx125_2,hx125_3,hx125_4⟩:=at_T44 HR0.out x8_1 p125 q125
           cases e125
           replace hx125_0:=(HB.out.cell (World.block_lt_of_cell? w _ hx125_0)).trans hx125_0
           replace hx125_1:=(HB.out.cell (World.block_lt_of_cell? w _ hx125_1)).trans hx125_1
           replace hx125_2:=(HB.out.cell (World.block_lt_of_cell? w _ hx125_2)).trans hx125_2
           replace hx125_3:=(HB.out.cell (World.block_lt_of_cell? w _ hx125_3)).trans hx125_3
           replace hx125_4:=(HB.out.cell (World.block_lt_of_cell? w _ hx125_4)).trans hx125_4
           replace p125:=eq_true p125
           replace q125:=eq_true q125
           go_wp2_with (first|((with_reducible refine gate_dst (N:=4) rfl ?_);refine box_event ?hg (N:=4) ?hd (cs:=#[.string (⟨#[]⟩ : ByteArray),.int .i64 0,.int .i64 0,.string (⟨#[]⟩ : ByteArray),.bool false]) (t:=44) ?hr ?_;(case hd => rfl);(case hg => rfl);(case hr => first|(go_simp;done)|(go_simp;rfl));intro gb126 hg w16 hbox hb;have n0_:=Aside0.mk (below_step (by repeat (first|(with_reducible first|exact HB.out|apply xA|apply xN|apply xD)|exact HB.out)) hb);have n1_:=Aside0.mk (hbox);have n2_:=Aside0.mk ((by rw [hg];exact (below_size (by repeat (first|(with_reducible first|exact HB.out|apply xA|apply xN|apply xD)|exact HB.out))) : w.heap.size ≤ gb126));have n3_:=Aside0.mk ((by rw [hg];exact (below_size (by repeat (first|(with_reducible first|exact HB.out|apply xA|apply xN|apply xD)|exact HB.out))) : w.heap.size ≤ gb126));clear HB;have HB:=n0_;have BK126:=n1_;have GW126:=n2_;have GE126:=n3_;clear n0_ n1_ n2_ n3_;clear hb hbox hg;have hcz17_0 : w16.cell? ⟨gb126,0,none⟩ = some (.string (⟨#[]⟩ : ByteArray)):=(blk_cell BK126.out 0).trans rfl;have hcz17_1 : w16.cell? ⟨gb126,1,none⟩ = some (.int .i64 0):=(blk_cell BK126.out 1).trans rfl;have hcz17_2 : w16.cell? ⟨gb126,2,none⟩ = some (.int .i64 0):=(blk_cell BK126.out 2).trans rfl;have hcz17_3 : w16.cell? ⟨gb126,3,none⟩ = some (.string (⟨#[]⟩ : ByteArray)):=(blk_cell BK126.out 3).trans rfl;have hcz17_4 : w16.cell? ⟨gb126,4,none⟩ = some (.bool false):=(blk_cell BK126.out 4).trans rfl;obtain ⟨hfz17_0,hfz17_1,hfz17_2⟩:=f3 BK126.out;have hfz17_3:=blk_frozen BK126.out 3;have hfz17_4:=blk_frozen BK126.out 4)|(go_at_call 34;(with_reducible refine (item_Check.calls ((rd_T44 l0 x8_1).f0) ((rd_T44 l0 x8_1).f1.f0) ((rd_T44 l0 x8_1).f1.f1) ((rd_T44 l0 x8_1).f2) ((rd_T44 l0 x8_1).f3) t127 _ A5.out).mono ?_);rintro e w18 ⟨rfl,hb⟩;replace BK126:=Aside0.mk (blk_below (g:=gb126) (o:=.cells #[.string ((rd_T44 l0 x8_1).f0),.int .i64 ((rd_T44 l0 x8_1).f1.f0),.int .i64 ((rd_T44 l0 x8_1).f1.f1),.string ((rd_T44 l0 x8_1).f2),.bool ((rd_T44 l0 x8_1).f3)] 44 (0,0)) (by (with_reducible repeat first|apply bN|apply bD|apply bA);refine blk_put (cs:=#[.string ((rd_T44 l0 x8_1).f0),.int .i64 ((rd_T44 l0 x8_1).f1.f0),.int .i64 ((rd_T44 l0 x8_1).f1.f1),.string ((rd_T44 l0 x8_1).f2),.bool false]) ?_ 4 _ rfl;(with_reducible repeat first|apply bN|apply bD|apply bA);refine blk_put (cs:=#[.string ((rd_T44 l0 x8_1).f0),.int .i64 ((rd_T44 l0 x8_1).f1.f0),.int .i64 ((rd_T44 l0 x8_1).f1.f1),.string (⟨#[]⟩ : ByteArray),.bool false]) ?_ 3 _ rfl;(with_reducible repeat first|apply bN|apply bD|apply bA);refine blk_put (cs:=#[.string ((rd_T44 l0 x8_1).f0),.int .i64 ((rd_T44 l0 x8_1).f1.f0),.int .i64 0,.string (⟨#[]⟩ : ByteArray),.bool false]) ?_ 2 _ rfl;(with_reducible repeat first|apply bN|apply bD|apply bA);refine blk_put (cs:=#[.string ((rd_T44 l0 x8_1).f0),.int .i64 0,.int .i64 0,.string (⟨#[]⟩ : ByteArray),.bool false]) ?_ 1 _ rfl;(with_reducible repeat first|apply bN|apply bD|apply bA);refine blk_put (cs:=#[.string (⟨#[]⟩ : ByteArray),.int .i64 0,.int .i64 0,.string (⟨#[]⟩ : ByteArray),.bool false]) ?_ 0 _ rfl;(with_reducible repeat first|apply bN|apply bD|apply bA);exact BK126.out) hb);replace HB:=Aside0.mk (below_step (by repeat (first|(with_reducible first|exact HB.out|apply xA|apply xN|apply xD|refine xS ?_ GE126.out)|exact HB.out)) hb);(try clear hb);(try clear hb2);(try clear hk);(try clear hi);have p128 : 0 ≤ ((ji8) : Int):=of_decide_eq_true (by first|(with_reducible assumption)|assumption);have q128 : (ji8) < (l0.length : Int):=of_decide_eq_true (by first|(with_reducible assumption)|assumption);obtain ⟨ad128,e128,hx128_0,hx128_1,hx128_2,hx128_3,hx128_4⟩:=at_T44 HR0.out (ji8) p128 q128;obtain rfl : ad125 = ad128:=(by injection e128);replace hx128_0:=(HB.out.cell (World.block_lt_of_cell? w _ hx128_0)).trans hx128_0;replace hx128_1:=(HB.out.cell (World.block_lt_of_cell? w _ hx128_1)).trans hx128_1;replace hx128_2:=(HB.out.cell (World.block_lt_of_cell? w _ hx128_2)).trans hx128_2;replace hx128_3:=(HB.out.cell (World.block_lt_of_cell? w _ hx128_3)).trans hx128_3;replace hx128_4:=(HB.out.cell (World.block_lt_of_cell? w _ hx128_4)).trans hx128_4;replace p128:=eq_true p128;replace q128:=eq_true q128;have hcz19_0 : w18.cell? ⟨gb126,0,none⟩ = some (.string ((rd_T44 l0 x8_1).f0)):=(blk_cell BK126.out 0).trans rfl;have hcz19_1 : w18.cell? ⟨gb126,1,none⟩ = some (.int .i64 ((rd_T44 l0 x8_1).f1.f0)):=(blk_cell BK126.out 1).trans rfl;have hcz19_2 : w18.cell? ⟨gb126,2,none⟩ = some (.int .i64 ((rd_T44 l0 x8_1).f1.f1)):=(blk_cell BK126.out 2).trans rfl;have hcz19_3 : w18.cell? ⟨gb126,3,none⟩ = some (.string ((rd_T44 l0 x8_1).f2)):=(blk_cell BK126.out 3).trans rfl;have hcz19_4 : w18.cell? ⟨gb126,4,none⟩ = some (.bool ((rd_T44 l0 x8_1).f3)):=(blk_cell BK126.out 4).trans rfl;obtain ⟨hfz19_0,hfz19_1,hfz19_2⟩:=f3 BK126.out;have hfz19_3:=blk_frozen BK126.out 3;have hfz19_4:=blk_frozen BK126.out 4))
           repeat (go_quiet (first|((with_reducible refine gate_dst (N:=4) rfl ?_);refine box_event ?hg (N:=4) ?hd (cs:=#[.string (⟨#[]⟩ : ByteArray),.int .i64 0,.int .i64 0,.string (⟨#[]⟩ : ByteArray),.bool false]) (t:=44) ?hr ?_;(case hd => rfl);(case hg => rfl);(case hr => first|(go_simp;done)|(go_simp;rfl));intro gb126 hg w16 hbox hb;have n0_:=Aside0.mk (below_step (by repeat (first|(with_reducible first|exact HB.out|apply xA|apply xN|apply xD)|exact HB.out)) hb);have n1_:=Aside0.mk (hbox);have n2_:=Aside0.mk ((by rw [hg];exact (below_size (by repeat (first|(with_reducible first|exact HB.out|apply xA|apply xN|apply xD)|exact HB.out))) : w.heap.size ≤ gb126));have n3_:=Aside0.mk ((by rw [hg];exact (below_size (by repeat (first|(with_reducible first|exact HB.out|apply xA|apply xN|apply xD)|exact HB.out))) : w.heap.size ≤ gb126));clear HB;have HB:=n0_;have BK126:=n1_;have GW126:=n2_;have GE126:=n3_;clear n0_ n1_ n2_ n3_;clear hb hbox hg;have hcz17_0 : w16.cell? ⟨gb126,0,none⟩ = some (.string (⟨#[]⟩ : ByteArray)):=(blk_cell BK126.out 0).trans rfl;have hcz17_1 : w16.cell? ⟨gb126,1,none⟩ = some (.int .i64 0):=(blk_cell BK126.out 1).trans rfl;have hcz17_2 : w16.cell? ⟨gb126,2,none⟩ = some (.int .i64 0):=(blk_cell BK126.out 2).trans rfl;have hcz17_3 : w16.cell? ⟨gb126,3,none⟩ = some (.string (⟨#[]⟩ : ByteArray)):=(blk_cell BK126.out 3).trans rfl;have hcz17_4 : w16.cell? ⟨gb126,4,none⟩ = some (.bool false):=(blk_cell BK126.out 4).trans rfl;obtain ⟨hfz17_0,hfz17_1,hfz17_2⟩:=f3 BK126.out;have hfz17_3:=blk_frozen BK126.out 3;have hfz17_4:=blk_frozen BK126.out 4)|(go_at_call 34;(with_reducible refine (item_Check.calls ((rd_T44 l0 x8_1).f0) ((rd_T44 l0 x8_1).f1.f0) ((rd_T44 l0 x8_1).f1.f1) ((rd_T44 l0 x8_1).f2) ((rd_T44 l0 x8_1).f3) t127 _ A5.out).mono ?_);rintro e w18 ⟨rfl,hb⟩;replace BK126:=Aside0.mk (blk_below (g:=gb126) (o:=.cells #[.string ((rd_T44 l0 x8_1).f0),.int .i64 ((rd_T44 l0 x8_1).f1.f0),.int .i64 ((rd_T44 l0 x8_1).f1.f1),.string ((rd_T44 l0 x8_1).f2),.bool ((rd_T44 l0 x8_1).f3)] 44 (0,0)) (by (with_reducible repeat first|apply bN|apply bD|apply bA);refine blk_put (cs:=#[.string ((rd_T44 l0 x8_1).f0),.int .i64 ((rd_T44 l0 x8_1).f1.f0),.int .i64 ((rd_T44 l0 x8_1).f1.f1),.string ((rd_T44 l0 x8_1).f2),.bool false]) ?_ 4 _ rfl;(with_reducible repeat first|apply bN|apply bD|apply bA);refine blk_put (cs:=#[.string ((rd_T44 l0 x8_1).f0),.int .i64 ((rd_T44 l0 x8_1).f1.f0),.int .i64 ((rd_T44 l0 x8_1).f1.f1),.string (⟨#[]⟩ : ByteArray),.bool false]) ?_ 3 _ rfl;(with_reducible repeat first|apply bN|apply bD|apply bA);refine blk_put (cs:=#[.string ((rd_T44 l0 x8_1).f0),.int .i64 ((rd_T44 l0 x8_1).f1.f0),.int .i64 0,.string (⟨#[]⟩ : ByteArray),.bool false]) ?_ 2 _ rfl;(with_reducible repeat first|apply bN|apply bD|apply bA);refine blk_put (cs:=#[.string ((rd_T44 l0 x8_1).f0),.int .i64 0,.int .i64 0,.string (⟨#[]⟩ : ByteArray),.bool false]) ?_ 1 _ rfl;(with_reducible repeat first|apply bN|apply bD|apply bA);refine blk_put (cs:=#[.string (⟨#[]⟩ : ByteArray),.int .i64 0,.int .i64 0,.string (⟨#[]⟩ : ByteArray),.bool false]) ?_ 0 _ rfl;(with_reducible repeat first|apply bN|apply bD|apply bA);exact BK126.out) hb);replace HB:=Aside0.mk (below_step (by repeat (first|(with_reducible first|exact HB.out|apply xA|apply xN|apply xD|refine xS ?_ GE126.out)|exact HB.out)) hb);(try clear hb);(try clear hb2);(try clear hk);(try clear hi);have p128 : 0 ≤ ((ji8) : Int):=of_decide_eq_true (by first|(with_reducible assumption)|assumption);have q128 : (ji8) < (l0.length : Int):=of_decide_eq_true (by first|(with_reducible assumption)|assumption);obtain ⟨ad128,e128,hx128_0,hx128_1,hx128_2,hx128_3,hx128_4⟩:=at_T44 HR0.out (ji8) p128 q128;obtain rfl : ad125 = ad128:=(by injection e128);replace hx128_0:=(HB.out.cell (World.block_lt_of_cell? w _ hx128_0)).trans hx128_0;replace hx128_1:=(HB.out.cell (World.block_lt_of_cell? w _ hx128_1)).trans hx128_1;replace hx128_2:=(HB.out.cell (World.block_lt_of_cell? w _ hx128_2)).trans hx128_2;replace hx128_3:=(HB.out.cell (World.block_lt_of_cell? w _ hx128_3)).trans hx128_3;replace hx128_4:=(HB.out.cell (World.block_lt_of_cell? w _ hx128_4)).trans hx128_4;replace p128:=eq_true p128;replace q128:=eq_true q128;have hcz19_0 : w18.cell? ⟨gb126,0,none⟩ = some (.string ((rd_T44 l0 x8_1).f0)):=(blk_cell BK126.out 0).trans rfl;have hcz19_1 : w18.cell? ⟨gb126,1,none⟩ = some (.int .i64 ((rd_T44 l0 x8_1).f1.f0)):=(blk_cell BK126.out 1).trans rfl;have hcz19_2 : w18.cell? ⟨gb126,2,none⟩ = some (.int .i64 ((rd_T44 l0 x8_1).f1.f1)):=(blk_cell BK126.out 2).trans rfl;have hcz19_3 : w18.cell? ⟨gb126,3,none⟩ = some (.string ((rd_T44 l0 x8_1).f2)):=(blk_cell BK126.out 3).trans rfl;have hcz19_4 : w18.cell? ⟨gb126,4,none⟩ = some (.bool ((rd_T44 l0 x8_1).f3)):=(blk_cell BK126.out 4).trans rfl;obtain ⟨hfz19_0,hfz19_1,hfz19_2⟩:=f3 BK126.out;have hfz19_3:=blk_frozen BK126.out 3;have hfz19_4:=blk_frozen BK126.out 4));try go_wp2_with (first|((with_reducible refine gate_dst (N:=4) rfl ?_);refine box_event ?hg (N:=4) ?hd (cs:=#[.string (⟨#[]⟩ : ByteArray),.int .i64 0,.int .i64 0,.string (⟨#[]⟩ : ByteArray),.bool false]) (t:=44) ?hr ?_;(case hd => rfl);(case hg => rfl);(case hr => first|(go_simp;done)|(go_simp;rfl));intro gb126 hg w16 hbox hb;have n0_:=Aside0.mk (below_step (by repeat (first|(with_reducible first|exact HB.out|apply xA|apply xN|apply xD)|exact HB.out)) hb);have n1_:=Aside0.mk (hbox);have n2_:=Aside0.mk ((by rw [hg];exact (below_size (by repeat (first|(with_reducible first|exact HB.out|apply xA|apply xN|apply xD)|exact HB.out))) : w.heap.size ≤ gb126));have n3_:=Aside0.mk ((by rw [hg];exact (below_size (by repeat (first|(with_reducible first|exact HB.out|apply xA|apply xN|apply xD)|exact HB.out))) : w.heap.size ≤ gb126));clear HB;have HB:=n0_;have BK126:=n1_;have GW126:=n2_;have GE126:=n3_;clear n0_ n1_ n2_ n3_;clear hb hbox hg;have hcz17_0 : w16.cell? ⟨gb126,0,none⟩ = some (.string (⟨#[]⟩ : ByteArray)):=(blk_cell BK126.out 0).trans rfl;have hcz17_1 : w16.cell? ⟨gb126,1,none⟩ = some (.int .i64 0):=(blk_cell BK126.out 1).trans rfl;have hcz17_2 : w16.cell? ⟨gb126,2,none⟩ = some (.int .i64 0):=(blk_cell BK126.out 2).trans rfl;have hcz17_3 : w16.cell? ⟨gb126,3,none⟩ = some (.string (⟨#[]⟩ : ByteArray)):=(blk_cell BK126.out 3).trans rfl;have hcz17_4 : w16.cell? ⟨gb126,4,none⟩ = some (.bool false):=(blk_cell BK126.out 4).trans rfl;obtain ⟨hfz17_0,hfz17_1,hfz17_2⟩:=f3 BK126.out;have hfz17_3:=blk_frozen BK126.out 3;have hfz17_4:=blk_frozen BK126.out 4)|(go_at_call 34;(with_reducible refine (item_Check.calls ((rd_T44 l0 x8_1).f0) ((rd_T44 l0 x8_1).f1.f0) ((rd_T44 l0 x8_1).f1.f1) ((rd_T44 l0 x8_1).f2) ((rd_T44 l0 x8_1).f3) t127 _ A5.out).mono ?_);rintro e w18 ⟨rfl,hb⟩;replace BK126:=Aside0.mk (blk_below (g:=gb126) (o:=.cells #[.string ((rd_T44 l0 x8_1).f0),.int .i64 ((rd_T44 l0 x8_1).f1.f0),.int .i64 ((rd_T44 l0 x8_1).f1.f1),.string ((rd_T44 l0 x8_1).f2),.bool ((rd_T44 l0 x8_1).f3)] 44 (0,0)) (by (with_reducible repeat first|apply bN|apply bD|apply bA);refine blk_put (cs:=#[.string ((rd_T44 l0 x8_1).f0),.int .i64 ((rd_T44 l0 x8_1).f1.f0),.int .i64 ((rd_T44 l0 x8_1).f1.f1),.string ((rd_T44 l0 x8_1).f2),.bool false]) ?_ 4 _ rfl;(with_reducible repeat first|apply bN|apply bD|apply bA);refine blk_put (cs:=#[.string ((rd_T44 l0 x8_1).f0),.int .i64 ((rd_T44 l0 x8_1).f1.f0),.int .i64 ((rd_T44 l0 x8_1).f1.f1),.string (⟨#[]⟩ : ByteArray),.bool false]) ?_ 3 _ rfl;(with_reducible repeat first|apply bN|apply bD|apply bA);refine blk_put (cs:=#[.string ((rd_T44 l0 x8_1).f0),.int .i64 ((rd_T44 l0 x8_1).f1.f0),.int .i64 0,.string (⟨#[]⟩ : ByteArray),.bool false]) ?_ 2 _ rfl;(with_reducible repeat first|apply bN|apply bD|apply bA);refine blk_put (cs:=#[.string ((rd_T44 l0 x8_1).f0),.int .i64 0,.int .i64 0,.string (⟨#[]⟩ : ByteArray),.bool false]) ?_ 1 _ rfl;(with_reducible repeat first|apply bN|apply bD|apply bA);refine blk_put (cs:=#[.string (⟨#[]⟩ : ByteArray),.int .i64 0,.int .i64 0,.string (⟨#[]⟩ : ByteArray),.bool false]) ?_ 0 _ rfl;(with_reducible repeat first|apply bN|apply bD|apply bA);exact BK126.out) hb);replace HB:=Aside0.mk (below_step (by repeat (first|(with_reducible first|exact HB.out|apply xA|apply xN|apply xD|refine xS ?_ GE126.out)|exact HB.out)) hb);(try clear hb);(try clear hb2);(try clear hk);(try clear hi);have p128 : 0 ≤ ((ji8) : Int):=of_decide_eq_true (by first|(with_reducible assumption)|assumption);have q128 : (ji8) < (l0.length : Int):=of_decide_eq_true (by first|(with_reducible assumption)|assumption);obtain ⟨ad128,e128,hx128_0,hx128_1,hx128_2,hx128_3,hx128_4⟩:=at_T44 HR0.out (ji8) p128 q128;obtain rfl : ad125 = ad128:=(by injection e128);replace hx128_0:=(HB.out.cell (World.block_lt_of_cell? w _ hx128_0)).trans hx128_0;replace hx128_1:=(HB.out.cell (World.block_lt_of_cell? w _ hx128_1)).trans hx128_1;replace hx128_2:=(HB.out.cell (World.block_lt_of_cell? w _ hx128_2)).trans hx128_2;replace hx128_3:=(HB.out.cell (World.block_lt_of_cell? w _ hx128_3)).trans hx128_3;replace hx128_4:=(HB.out.cell (World.block_lt_of_cell? w _ hx128_4)).trans hx128_4;replace p128:=eq_true p128;replace q128:=eq_true q128;have hcz19_0 : w18.cell? ⟨gb126,0,none⟩ = some (.string ((rd_T44 l0 x8_1).f0)):=(blk_cell BK126.out 0).trans rfl;have hcz19_1 : w18.cell? ⟨gb126,1,none⟩ = some (.int .i64 ((rd_T44 l0 x8_1).f1.f0)):=(blk_cell BK126.out 1).trans rfl;have hcz19_2 : w18.cell? ⟨gb126,2,none⟩ = some (.int .i64 ((rd_T44 l0 x8_1).f1.f1)):=(blk_cell BK126.out 2).trans rfl;have hcz19_3 : w18.cell? ⟨gb126,3,none⟩ = some (.string ((rd_T44 l0 x8_1).f2)):=(blk_cell BK126.out 3).trans rfl;have hcz19_4 : w18.cell? ⟨gb126,4,none⟩ = some (.bool ((rd_T44 l0 x8_1).f3)):=(blk_cell BK126.out 4).trans rfl;obtain ⟨hfz19_0,hfz19_1,hfz19_2⟩:=f3 BK126.out;have hfz19_3:=blk_frozen BK126.out 3;have hfz19_4:=blk_frozen BK126.out 4)))
           go_ret
           exact ⟨by first|rfl|(simp [errW_none,errW_some] <;> rfl)|(simp only [← hji8];first|rfl|(simp [errW_none,errW_some] <;> rfl))|(simp [*,errW_none,errW_some] <;> rfl),by repeat (first|(with_reducible first|exact HB.out|apply xA|apply xN|apply xD|refine xS ?_ GE126.out)|exact HB.out)⟩
         ·rw [if_neg c10] at H
          exact absurd H (by simp)
        ·rw [if_neg c9] at H
         exact absurd H (by simp)
       ·rw [if_neg c7] at H
        have c7b0 : decide (0 < x8_1) = false:=decide_eq_false c7
        clear c7
        have H':=Aside0.mk H
        clear H
        have p125 : 0 ≤ (x8_1 : Int):=of_decide_eq_true (by first|(with_reducible assumption)|assumption)
        have q125 : x8_1 < (l0.length : Int):=of_decide_eq_true (by first|(with_reducible assumption)|assumption)
        obtain ⟨ad125,e125,hx125_0,hx125_1,hx125_2,hx125_3,hx125_4⟩:=at_T44 HR0.out x8_1 p125 q125
        cases e125
        replace hx125_0:=(HB.out.cell (World.block_lt_of_cell? w _ hx125_0)).trans hx125_0
        replace hx125_1:=(HB.out.cell (World.block_lt_of_cell? w _ hx125_1)).trans hx125_1
        replace hx125_2:=(HB.out.cell (World.block_lt_of_cell? w _ hx125_2)).trans hx125_2
        replace hx125_3:=(HB.out.cell (World.block_lt_of_cell? w _ hx125_3)).trans hx125_3
        replace hx125_4:=(HB.out.cell (World.block_lt_of_cell? w _ hx125_4)).trans hx125_4
        replace p125:=eq_true p125
        replace q125:=eq_true q125
        go_wp2_with (first|((with_reducible refine gate_dst (N:=4) rfl ?_);refine box_event ?hg (N:=4) ?hd (cs:=#[.string (⟨#[]⟩ : ByteArray),.int .i64 0,.int .i64 0,.string (⟨#[]⟩ : ByteArray),.bool false]) (t:=44) ?hr ?_;(case hd => rfl);(case hg => rfl);(case hr => first|(go_simp;done)|(go_simp;rfl));intro gb126 hg w20 hbox hb;have n0_:=Aside0.mk (below_step (by repeat (first|(with_reducible first|exact HB.out|apply xA|apply xN|apply xD)|exact HB.out)) hb);have n1_:=Aside0.mk (hbox);have n2_:=Aside0.mk ((by rw [hg];exact (below_size (by repeat (first|(with_reducible first|exact HB.out|apply xA|apply xN|apply xD)|exact HB.out))) : w.heap.size ≤ gb126));have n3_:=Aside0.mk ((by rw [hg];exact (below_size (by repeat (first|(with_reducible first|exact HB.out|apply xA|apply xN|apply xD)|exact HB.out))) : w.heap.size ≤ gb126));clear HB;have HB:=n0_;have BK126:=n1_;have GW126:=n2_;have GE126:=n3_;clear n0_ n1_ n2_ n3_;clear hb hbox hg;have hcz21_0 : w20.cell? ⟨gb126,0,none⟩ = some (.string (⟨#[]⟩ : ByteArray)):=(blk_cell BK126.out 0).trans rfl;have hcz21_1 : w20.cell? ⟨gb126,1,none⟩ = some (.int .i64 0):=(blk_cell BK126.out 1).trans rfl;have hcz21_2 : w20.cell? ⟨gb126,2,none⟩ = some (.int .i64 0):=(blk_cell BK126.out 2).trans rfl;have hcz21_3 : w20.cell? ⟨gb126,3,none⟩ = some (.string (⟨#[]⟩ : ByteArray)):=(blk_cell BK126.out 3).trans rfl;have hcz21_4 : w20.cell? ⟨gb126,4,none⟩ = some (.bool false):=(blk_cell BK126.out 4).trans rfl;obtain ⟨hfz21_0,hfz21_1,hfz21_2⟩:=f3 BK126.out;have hfz21_3:=blk_frozen BK126.out 3;have hfz21_4:=blk_frozen BK126.out 4)|(go_at_call 34;(with_reducible refine (item_Check.calls ((rd_T44 l0 x8_1).f0) ((rd_T44 l0 x8_1).f1.f0) ((rd_T44 l0 x8_1).f1.f1) ((rd_T44 l0 x8_1).f2) ((rd_T44 l0 x8_1).f3) t127 _ A5.out).mono ?_);rintro e w22 ⟨rfl,hb⟩;replace BK126:=Aside0.mk (blk_below (g:=gb126) (o:=.cells #[.string ((rd_T44 l0 x8_1).f0),.int .i64 ((rd_T44 l0 x8_1).f1.f0),.int .i64 ((rd_T44 l0 x8_1).f1.f1),.string ((rd_T44 l0 x8_1).f2),.bool ((rd_T44 l0 x8_1).f3)] 44 (0,0)) (by (with_reducible repeat first|apply bN|apply bD|apply bA);refine blk_put (cs:=#[.string ((rd_T44 l0 x8_1).f0),.int .i64 ((rd_T44 l0 x8_1).f1.f0),.int .i64 ((rd_T44 l0 x8_1).f1.f1),.string ((rd_T44 l0 x8_1).f2),.bool false]) ?_ 4 _ rfl;(with_reducible repeat first|apply bN|apply bD|apply bA);refine blk_put (cs:=#[.string ((rd_T44 l0 x8_1).f0),.int .i64 ((rd_T44 l0 x8_1).f1.f0),.int .i64 ((rd_T44 l0 x8_1).f1.f1),.string (⟨#[]⟩ : ByteArray),.bool false]) ?_ 3 _ rfl;(with_reducible repeat first|apply bN|apply bD|apply bA);refine blk_put (cs:=#[.string ((rd_T44 l0 x8_1).f0),.int .i64 ((rd_T44 l0 x8_1).f1.f0),.int .i64 0,.string (⟨#[]⟩ : ByteArray),.bool false]) ?_ 2 _ rfl;(with_reducible repeat first|apply bN|apply bD|apply bA);refine blk_put (cs:=#[.string ((rd_T44 l0 x8_1).f0),.int .i64 0,.int .i64 0,.string (⟨#[]⟩ : ByteArray),.bool false]) ?_ 1 _ rfl;(with_reducible repeat first|apply bN|apply bD|apply bA);refine blk_put (cs:=#[.string (⟨#[]⟩ : ByteArray),.int .i64 0,.int .i64 0,.string (⟨#[]⟩ : ByteArray),.bool false]) ?_ 0 _ rfl;(with_reducible repeat first|apply bN|apply bD|apply bA);exact BK126.out) hb);replace HB:=Aside0.mk (below_step (by repeat (first|(with_reducible first|exact HB.out|apply xA|apply xN|apply xD|refine xS ?_ GE126.out)|exact HB.out)) hb);(try clear hb);(try clear hb2);(try clear hk);(try clear hi)))
        repeat (go_quiet (first|((with_reducible refine gate_dst (N:=4) rfl ?_);refine box_event ?hg (N:=4) ?hd (cs:=#[.string (⟨#[]⟩ : ByteArray),.int .i64 0,.int .i64 0,.string (⟨#[]⟩ : ByteArray),.bool false]) (t:=44) ?hr ?_;(case hd => rfl);(case hg => rfl);(case hr => first|(go_simp;done)|(go_simp;rfl));intro gb126 hg w20 hbox hb;have n0_:=Aside0.mk (below_step (by repeat (first|(with_reducible first|exact HB.out|apply xA|apply xN|apply xD)|exact HB.out)) hb);have n1_:=Aside0.mk (hbox);have n2_:=Aside0.mk ((by rw [hg];exact (below_size (by repeat (first|(with_reducible first|exact HB.out|apply xA|apply xN|apply xD)|exact HB.out))) : w.heap.size ≤ gb126));have n3_:=Aside0.mk ((by rw [hg];exact (below_size (by repeat (first|(with_reducible first|exact HB.out|apply xA|apply xN|apply xD)|exact HB.out))) : w.heap.size ≤ gb126));clear HB;have HB:=n0_;have BK126:=n1_;have GW126:=n2_;have GE126:=n3_;clear n0_ n1_ n2_ n3_;clear hb hbox hg;have hcz21_0 : w20.cell? ⟨gb126,0,none⟩ = some (.string (⟨#[]⟩ : ByteArray)):=(blk_cell BK126.out 0).trans rfl;have hcz21_1 : w20.cell? ⟨gb126,1,none⟩ = some (.int .i64 0):=(blk_cell BK126.out 1).trans rfl;have hcz21_2 : w20.cell? ⟨gb126,2,none⟩ = some (.int .i64 0):=(blk_cell BK126.out 2).trans rfl;have hcz21_3 : w20.cell? ⟨gb126,3,none⟩ = some (.string (⟨#[]⟩ : ByteArray)):=(blk_cell BK126.out 3).trans rfl;have hcz21_4 : w20.cell? ⟨gb126,4,none⟩ = some (.bool false):=(blk_cell BK126.out 4).trans rfl;obtain ⟨hfz21_0,hfz21_1,hfz21_2⟩:=f3 BK126.out;have hfz21_3:=blk_frozen BK126.out 3;have hfz21_4:=blk_frozen BK126.out 4)|(go_at_call 34;(with_reducible refine (item_Check.calls ((rd_T44 l0 x8_1).f0) ((rd_T44 l0 x8_1).f1.f0) ((rd_T44 l0 x8_1).f1.f1) ((rd_T44 l0 x8_1).f2) ((rd_T44 l0 x8_1).f3) t127 _ A5.out).mono ?_);rintro e w22 ⟨rfl,hb⟩;replace BK126:=Aside0.mk (blk_below (g:=gb126) (o:=.cells #[.string ((rd_T44 l0 x8_1).f0),.int .i64 ((rd_T44 l0 x8_1).f1.f0),.int .i64 ((rd_T44 l0 x8_1).f1.f1),.string ((rd_T44 l0 x8_1).f2),.bool ((rd_T44 l0 x8_1).f3)] 44 (0,0)) (by (with_reducible repeat first|apply bN|apply bD|apply bA);refine blk_put (cs:=#[.string ((rd_T44 l0 x8_1).f0),.int .i64 ((rd_T44 l0 x8_1).f1.f0),.int .i64 ((rd_T44 l0 x8_1).f1.f1),.string ((rd_T44 l0 x8_1).f2),.bool false]) ?_ 4 _ rfl;(with_reducible repeat first|apply bN|apply bD|apply bA);refine blk_put (cs:=#[.string ((rd_T44 l0 x8_1).f0),.int .i64 ((rd_T44 l0 x8_1).f1.f0),.int .i64 ((rd_T44 l0 x8_1).f1.f1),.string (⟨#[]⟩ : ByteArray),.bool false]) ?_ 3 _ rfl;(with_reducible repeat first|apply bN|apply bD|apply bA);refine blk_put (cs:=#[.string ((rd_T44 l0 x8_1).f0),.int .i64 ((rd_T44 l0 x8_1).f1.f0),.int .i64 0,.string (⟨#[]⟩ : ByteArray),.bool false]) ?_ 2 _ rfl;(with_reducible repeat first|apply bN|apply bD|apply bA);refine blk_put (cs:=#[.string ((rd_T44 l0 x8_1).f0),.int .i64 0,.int .i64 0,.string (⟨#[]⟩ : ByteArray),.bool false]) ?_ 1 _ rfl;(with_reducible repeat first|apply bN|apply bD|apply bA);refine blk_put (cs:=#[.string (⟨#[]⟩ : ByteArray),.int .i64 0,.int .i64 0,.string (⟨#[]⟩ : ByteArray),.bool false]) ?_ 0 _ rfl;(with_reducible repeat first|apply bN|apply bD|apply bA);exact BK126.out) hb);replace HB:=Aside0.mk (below_step (by repeat (first|(with_reducible first|exact HB.out|apply xA|apply xN|apply xD|refine xS ?_ GE126.out)|exact HB.out)) hb);(try clear hb);(try clear hb2);(try clear hk);(try clear hi)));try go_wp2_with (first|((with_reducible refine gate_dst (N:=4) rfl ?_);refine box_event ?hg (N:=4) ?hd (cs:=#[.string (⟨#[]⟩ : ByteArray),.int .i64 0,.int .i64 0,.string (⟨#[]⟩ : ByteArray),.bool false]) (t:=44) ?hr ?_;(case hd => rfl);(case hg => rfl);(case hr => first|(go_simp;done)|(go_simp;rfl));intro gb126 hg w20 hbox hb;have n0_:=Aside0.mk (below_step (by repeat (first|(with_reducible first|exact HB.out|apply xA|apply xN|apply xD)|exact HB.out)) hb);have n1_:=Aside0.mk (hbox);have n2_:=Aside0.mk ((by rw [hg];exact (below_size (by repeat (first|(with_reducible first|exact HB.out|apply xA|apply xN|apply xD)|exact HB.out))) : w.heap.size ≤ gb126));have n3_:=Aside0.mk ((by rw [hg];exact (below_size (by repeat (first|(with_reducible first|exact HB.out|apply xA|apply xN|apply xD)|exact HB.out))) : w.heap.size ≤ gb126));clear HB;have HB:=n0_;have BK126:=n1_;have GW126:=n2_;have GE126:=n3_;clear n0_ n1_ n2_ n3_;clear hb hbox hg;have hcz21_0 : w20.cell? ⟨gb126,0,none⟩ = some (.string (⟨#[]⟩ : ByteArray)):=(blk_cell BK126.out 0).trans rfl;have hcz21_1 : w20.cell? ⟨gb126,1,none⟩ = some (.int .i64 0):=(blk_cell BK126.out 1).trans rfl;have hcz21_2 : w20.cell? ⟨gb126,2,none⟩ = some (.int .i64 0):=(blk_cell BK126.out 2).trans rfl;have hcz21_3 : w20.cell? ⟨gb126,3,none⟩ = some (.string (⟨#[]⟩ : ByteArray)):=(blk_cell BK126.out 3).trans rfl;have hcz21_4 : w20.cell? ⟨gb126,4,none⟩ = some (.bool false):=(blk_cell BK126.out 4).trans rfl;obtain ⟨hfz21_0,hfz21_1,hfz21_2⟩:=f3 BK126.out;have hfz21_3:=blk_frozen BK126.out 3;have hfz21_4:=blk_frozen BK126.out 4)|(go_at_call 34;(with_reducible refine (item_Check.calls ((rd_T44 l0 x8_1).f0) ((rd_T44 l0 x8_1).f1.f0) ((rd_T44 l0 x8_1).f1.f1) ((rd_T44 l0 x8_1).f2) ((rd_T44 l0 x8_1).f3) t127 _ A5.out).mono ?_);rintro e w22 ⟨rfl,hb⟩;replace BK126:=Aside0.mk (blk_below (g:=gb126) (o:=.cells #[.string ((rd_T44 l0 x8_1).f0),.int .i64 ((rd_T44 l0 x8_1).f1.f0),.int .i64 ((rd_T44 l0 x8_1).f1.f1),.string ((rd_T44 l0 x8_1).f2),.bool ((rd_T44 l0 x8_1).f3)] 44 (0,0)) (by (with_reducible repeat first|apply bN|apply bD|apply bA);refine blk_put (cs:=#[.string ((rd_T44 l0 x8_1).f0),.int .i64 ((rd_T44 l0 x8_1).f1.f0),.int .i64 ((rd_T44 l0 x8_1).f1.f1),.string ((rd_T44 l0 x8_1).f2),.bool false]) ?_ 4 _ rfl;(with_reducible repeat first|apply bN|apply bD|apply bA);refine blk_put (cs:=#[.string ((rd_T44 l0 x8_1).f0),.int .i64 ((rd_T44 l0 x8_1).f1.f0),.int .i64 ((rd_T44 l0 x8_1).f1.f1),.string (⟨#[]⟩ : ByteArray),.bool false]) ?_ 3 _ rfl;(with_reducible repeat first|apply bN|apply bD|apply bA);refine blk_put (cs:=#[.string ((rd_T44 l0 x8_1).f0),.int .i64 ((rd_T44 l0 x8_1).f1.f0),.int .i64 0,.string (⟨#[]⟩ : ByteArray),.bool false]) ?_ 2 _ rfl;(with_reducible repeat first|apply bN|apply bD|apply bA);refine blk_put (cs:=#[.string ((rd_T44 l0 x8_1).f0),.int .i64 0,.int .i64 0,.string (⟨#[]⟩ : ByteArray),.bool false]) ?_ 1 _ rfl;(with_reducible repeat first|apply bN|apply bD|apply bA);refine blk_put (cs:=#[.string (⟨#[]⟩ : ByteArray),.int .i64 0,.int .i64 0,.string (⟨#[]⟩ : ByteArray),.bool false]) ?_ 0 _ rfl;(with_reducible repeat first|apply bN|apply bD|apply bA);exact BK126.out) hb);replace HB:=Aside0.mk (below_step (by repeat (first|(with_reducible first|exact HB.out|apply xA|apply xN|apply xD|refine xS ?_ GE126.out)|exact HB.out)) hb);(try clear hb);(try clear hb2);(try clear hk);(try clear hi))))
        go_roundg k1
        case measure => have:=HK1.out;omega
        case rel => exact ⟨(wrap64 (x8_1 + 1)),(by first|rfl|(simp;done)|(simp [*];done)|(simp [*,Go.Proofs.Ytghlellambnkeaa.Str.bne_nil];done)),H',⟨by have:=HK1.out;omega⟩,⟨by repeat (first|(with_reducible first|exact HB.out|apply xA|apply xN|apply xD|refine xS ?_ GE126.out)|exact HB.out)⟩⟩
      ·rw [if_neg c6] at H
       have c6b0 : (t127 == 0) = false:=beq_eq_false_iff_ne.mpr c6
       have c6b1 : (t127 != 0) = true:=bne_iff_ne.mpr c6
       obtain rfl:=Option.some.inj H
       have p125 : 0 ≤ (x8_1 : Int):=of_decide_eq_true (by first|(with_reducible assumption)|assumption)
       have q125 : x8_1 < (l0.length : Int):=of_decide_eq_true (by first|(with_reducible assumption)|assumption)
       obtain ⟨ad125,e125,hx125_0,hx125_1,hx125_2,hx125_3,hx125_4⟩:=at_T44 HR0.out x8_1 p125 q125
       cases e125
       replace hx125_0:=(HB.out.cell (World.block_lt_of_cell? w _ hx125_0)).trans hx125_0
       replace hx125_1:=(HB.out.cell (World.block_lt_of_cell? w _ hx125_1)).trans hx125_1
       replace hx125_2:=(HB.out.cell (World.block_lt_of_cell? w _ hx125_2)).trans hx125_2
       replace hx125_3:=(HB.out.cell (World.block_lt_of_cell? w _ hx125_3)).trans hx125_3
       replace hx125_4:=(HB.out.cell (World.block_lt_of_cell? w _ hx125_4)).trans hx125_4
       replace p125:=eq_true p125
       replace q125:=eq_true q125
       go_wp2_with (first|((with_reducible refine gate_dst (N:=4) rfl ?_);refine box_event ?hg (N:=4) ?hd (cs:=#[.string (⟨#[]⟩ : ByteArray),.int .i64 0,.int .i64 0,.string (⟨#[]⟩ : ByteArray),.bool false]) (t:=44) ?hr ?_;(case hd => rfl);(case hg => rfl);(case hr => first|(go_simp;done)|(go_simp;rfl));intro gb126 hg w23 hbox hb;have n0_:=Aside0.mk (below_step (by repeat (first|(with_reducible first|exact HB.out|apply xA|apply xN|apply xD)|exact HB.out)) hb);have n1_:=Aside0.mk (hbox);have n2_:=Aside0.mk ((by rw [hg];exact (below_size (by repeat (first|(with_reducible first|exact HB.out|apply xA|apply xN|apply xD)|exact HB.out))) : w.heap.size ≤ gb126));have n3_:=Aside0.mk ((by rw [hg];exact (below_size (by repeat (first|(with_reducible first|exact HB.out|apply xA|apply xN|apply xD)|exact HB.out))) : w.heap.size ≤ gb126));clear HB;have HB:=n0_;have BK126:=n1_;have GW126:=n2_;have GE126:=n3_;clear n0_ n1_ n2_ n3_;clear hb hbox hg;have hcz24_0 : w23.cell? ⟨gb126,0,none⟩ = some (.string (⟨#[]⟩ : ByteArray)):=(blk_cell BK126.out 0).trans rfl;have hcz24_1 : w23.cell? ⟨gb126,1,none⟩ = some (.int .i64 0):=(blk_cell BK126.out 1).trans rfl;have hcz24_2 : w23.cell? ⟨gb126,2,none⟩ = some (.int .i64 0):=(blk_cell BK126.out 2).trans rfl;have hcz24_3 : w23.cell? ⟨gb126,3,none⟩ = some (.string (⟨#[]⟩ : ByteArray)):=(blk_cell BK126.out 3).trans rfl;have hcz24_4 : w23.cell? ⟨gb126,4,none⟩ = some (.bool false):=(blk_cell BK126.out 4).trans rfl;obtain ⟨hfz24_0,hfz24_1,hfz24_2⟩:=f3 BK126.out;have hfz24_3:=blk_frozen BK126.out 3;have hfz24_4:=blk_frozen BK126.out 4)|(go_at_call 34;(with_reducible refine (item_Check.calls ((rd_T44 l0 x8_1).f0) ((rd_T44 l0 x8_1).f1.f0) ((rd_T44 l0 x8_1).f1.f1) ((rd_T44 l0 x8_1).f2) ((rd_T44 l0 x8_1).f3) t127 _ A5.out).mono ?_);rintro e w25 ⟨rfl,hb⟩;replace BK126:=Aside0.mk (blk_below (g:=gb126) (o:=.cells #[.string ((rd_T44 l0 x8_1).f0),.int .i64 ((rd_T44 l0 x8_1).f1.f0),.int .i64 ((rd_T44 l0 x8_1).f1.f1),.string ((rd_T44 l0 x8_1).f2),.bool ((rd_T44 l0 x8_1).f3)] 44 (0,0)) (by (with_reducible repeat first|apply bN|apply bD|apply bA);refine blk_put (cs:=#[.string ((rd_T44 l0 x8_1).f0),.int .i64 ((rd_T44 l0 x8_1).f1.f0),.int .i64 ((rd_T44 l0 x8_1).f1.f1),.string ((rd_T44 l0 x8_1).f2),.bool false]) ?_ 4 _ rfl;(with_reducible repeat first|apply bN|apply bD|apply bA);refine blk_put (cs:=#[.string ((rd_T44 l0 x8_1).f0),.int .i64 ((rd_T44 l0 x8_1).f1.f0),.int .i64 ((rd_T44 l0 x8_1).f1.f1),.string (⟨#[]⟩ : ByteArray),.bool false]) ?_ 3 _ rfl;(with_reducible repeat first|apply bN|apply bD|apply bA);refine blk_put (cs:=#[.string ((rd_T44 l0 x8_1).f0),.int .i64 ((rd_T44 l0 x8_1).f1.f0),.int .i64 0,.string (⟨#[]⟩ : ByteArray),.bool false]) ?_ 2 _ rfl;(with_reducible repeat first|apply bN|apply bD|apply bA);refine blk_put (cs:=#[.string ((rd_T44 l0 x8_1).f0),.int .i64 0,.int .i64 0,.string (⟨#[]⟩ : ByteArray),.bool false]) ?_ 1 _ rfl;(with_reducible repeat first|apply bN|apply bD|apply bA);refine blk_put (cs:=#[.string (⟨#[]⟩ : ByteArray),.int .i64 0,.int .i64 0,.string (⟨#[]⟩ : ByteArray),.bool false]) ?_ 0 _ rfl;(with_reducible repeat first|apply bN|apply bD|apply bA);exact BK126.out) hb);replace HB:=Aside0.mk (below_step (by repeat (first|(with_reducible first|exact HB.out|apply xA|apply xN|apply xD|refine xS ?_ GE126.out)|exact HB.out)) hb);(try clear hb);(try clear hb2);(try clear hk);(try clear hi)))
       repeat (go_quiet (first|((with_reducible refine gate_dst (N:=4) rfl ?_);refine box_event ?hg (N:=4) ?hd (cs:=#[.string (⟨#[]⟩ : ByteArray),.int .i64 0,.int .i64 0,.string (⟨#[]⟩ : ByteArray),.bool false]) (t:=44) ?hr ?_;(case hd => rfl);(case hg => rfl);(case hr => first|(go_simp;done)|(go_simp;rfl));intro gb126 hg w23 hbox hb;have n0_:=Aside0.mk (below_step (by repeat (first|(with_reducible first|exact HB.out|apply xA|apply xN|apply xD)|exact HB.out)) hb);have n1_:=Aside0.mk (hbox);have n2_:=Aside0.mk ((by rw [hg];exact (below_size (by repeat (first|(with_reducible first|exact HB.out|apply xA|apply xN|apply xD)|exact HB.out))) : w.heap.size ≤ gb126));have n3_:=Aside0.mk ((by rw [hg];exact (below_size (by repeat (first|(with_reducible first|exact HB.out|apply xA|apply xN|apply xD)|exact HB.out))) : w.heap.size ≤ gb126));clear HB;have HB:=n0_;have BK126:=n1_;have GW126:=n2_;have GE126:=n3_;clear n0_ n1_ n2_ n3_;clear hb hbox hg;have hcz24_0 : w23.cell? ⟨gb126,0,none⟩ = some (.string (⟨#[]⟩ : ByteArray)):=(blk_cell BK126.out 0).trans rfl;have hcz24_1 : w23.cell? ⟨gb126,1,none⟩ = some (.int .i64 0):=(blk_cell BK126.out 1).trans rfl;have hcz24_2 : w23.cell? ⟨gb126,2,none⟩ = some (.int .i64 0):=(blk_cell BK126.out 2).trans rfl;have hcz24_3 : w23.cell? ⟨gb126,3,none⟩ = some (.string (⟨#[]⟩ : ByteArray)):=(blk_cell BK126.out 3).trans rfl;have hcz24_4 : w23.cell? ⟨gb126,4,none⟩ = some (.bool false):=(blk_cell BK126.out 4).trans rfl;obtain ⟨hfz24_0,hfz24_1,hfz24_2⟩:=f3 BK126.out;have hfz24_3:=blk_frozen BK126.out 3;have hfz24_4:=blk_frozen BK126.out 4)|(go_at_call 34;(with_reducible refine (item_Check.calls ((rd_T44 l0 x8_1).f0) ((rd_T44 l0 x8_1).f1.f0) ((rd_T44 l0 x8_1).f1.f1) ((rd_T44 l0 x8_1).f2) ((rd_T44 l0 x8_1).f3) t127 _ A5.out).mono ?_);rintro e w25 ⟨rfl,hb⟩;replace BK126:=Aside0.mk (blk_below (g:=gb126) (o:=.cells #[.string ((rd_T44 l0 x8_1).f0),.int .i64 ((rd_T44 l0 x8_1).f1.f0),.int .i64 ((rd_T44 l0 x8_1).f1.f1),.string ((rd_T44 l0 x8_1).f2),.bool ((rd_T44 l0 x8_1).f3)] 44 (0,0)) (by (with_reducible repeat first|apply bN|apply bD|apply bA);refine blk_put (cs:=#[.string ((rd_T44 l0 x8_1).f0),.int .i64 ((rd_T44 l0 x8_1).f1.f0),.int .i64 ((rd_T44 l0 x8_1).f1.f1),.string ((rd_T44 l0 x8_1).f2),.bool false]) ?_ 4 _ rfl;(with_reducible repeat first|apply bN|apply bD|apply bA);refine blk_put (cs:=#[.string ((rd_T44 l0 x8_1).f0),.int .i64 ((rd_T44 l0 x8_1).f1.f0),.int .i64 ((rd_T44 l0 x8_1).f1.f1),.string (⟨#[]⟩ : ByteArray),.bool false]) ?_ 3 _ rfl;(with_reducible repeat first|apply bN|apply bD|apply bA);refine blk_put (cs:=#[.string ((rd_T44 l0 x8_1).f0),.int .i64 ((rd_T44 l0 x8_1).f1.f0),.int .i64 0,.string (⟨#[]⟩ : ByteArray),.bool false]) ?_ 2 _ rfl;(with_reducible repeat first|apply bN|apply bD|apply bA);refine blk_put (cs:=#[.string ((rd_T44 l0 x8_1).f0),.int .i64 0,.int .i64 0,.string (⟨#[]⟩ : ByteArray),.bool false]) ?_ 1 _ rfl;(with_reducible repeat first|apply bN|apply bD|apply bA);refine blk_put (cs:=#[.string (⟨#[]⟩ : ByteArray),.int .i64 0,.int .i64 0,.string (⟨#[]⟩ : ByteArray),.bool false]) ?_ 0 _ rfl;(with_reducible repeat first|apply bN|apply bD|apply bA);exact BK126.out) hb);replace HB:=Aside0.mk (below_step (by repeat (first|(with_reducible first|exact HB.out|apply xA|apply xN|apply xD|refine xS ?_ GE126.out)|exact HB.out)) hb);(try clear hb);(try clear hb2);(try clear hk);(try clear hi)));try go_wp2_with (first|((with_reducible refine gate_dst (N:=4) rfl ?_);refine box_event ?hg (N:=4) ?hd (cs:=#[.string (⟨#[]⟩ : ByteArray),.int .i64 0,.int .i64 0,.string (⟨#[]⟩ : ByteArray),.bool false]) (t:=44) ?hr ?_;(case hd => rfl);(case hg => rfl);(case hr => first|(go_simp;done)|(go_simp;rfl));intro gb126 hg w23 hbox hb;have n0_:=Aside0.mk (below_step (by repeat (first|(with_reducible first|exact HB.out|apply xA|apply xN|apply xD)|exact HB.out)) hb);have n1_:=Aside0.mk (hbox);have n2_:=Aside0.mk ((by rw [hg];exact (below_size (by repeat (first|(with_reducible first|exact HB.out|apply xA|apply xN|apply xD)|exact HB.out))) : w.heap.size ≤ gb126));have n3_:=Aside0.mk ((by rw [hg];exact (below_size (by repeat (first|(with_reducible first|exact HB.out|apply xA|apply xN|apply xD)|exact HB.out))) : w.heap.size ≤ gb126));clear HB;have HB:=n0_;have BK126:=n1_;have GW126:=n2_;have GE126:=n3_;clear n0_ n1_ n2_ n3_;clear hb hbox hg;have hcz24_0 : w23.cell? ⟨gb126,0,none⟩ = some (.string (⟨#[]⟩ : ByteArray)):=(blk_cell BK126.out 0).trans rfl;have hcz24_1 : w23.cell? ⟨gb126,1,none⟩ = some (.int .i64 0):=(blk_cell BK126.out 1).trans rfl;have hcz24_2 : w23.cell? ⟨gb126,2,none⟩ = some (.int .i64 0):=(blk_cell BK126.out 2).trans rfl;have hcz24_3 : w23.cell? ⟨gb126,3,none⟩ = some (.string (⟨#[]⟩ : ByteArray)):=(blk_cell BK126.out 3).trans rfl;have hcz24_4 : w23.cell? ⟨gb126,4,none⟩ = some (.bool false):=(blk_cell BK126.out 4).trans rfl;obtain ⟨hfz24_0,hfz24_1,hfz24_2⟩:=f3 BK126.out;have hfz24_3:=blk_frozen BK126.out 3;have hfz24_4:=blk_frozen BK126.out 4)|(go_at_call 34;(with_reducible refine (item_Check.calls ((rd_T44 l0 x8_1).f0) ((rd_T44 l0 x8_1).f1.f0) ((rd_T44 l0 x8_1).f1.f1) ((rd_T44 l0 x8_1).f2) ((rd_T44 l0 x8_1).f3) t127 _ A5.out).mono ?_);rintro e w25 ⟨rfl,hb⟩;replace BK126:=Aside0.mk (blk_below (g:=gb126) (o:=.cells #[.string ((rd_T44 l0 x8_1).f0),.int .i64 ((rd_T44 l0 x8_1).f1.f0),.int .i64 ((rd_T44 l0 x8_1).f1.f1),.string ((rd_T44 l0 x8_1).f2),.bool ((rd_T44 l0 x8_1).f3)] 44 (0,0)) (by (with_reducible repeat first|apply bN|apply bD|apply bA);refine blk_put (cs:=#[.string ((rd_T44 l0 x8_1).f0),.int .i64 ((rd_T44 l0 x8_1).f1.f0),.int .i64 ((rd_T44 l0 x8_1).f1.f1),.string ((rd_T44 l0 x8_1).f2),.bool false]) ?_ 4 _ rfl;(with_reducible repeat first|apply bN|apply bD|apply bA);refine blk_put (cs:=#[.string ((rd_T44 l0 x8_1).f0),.int .i64 ((rd_T44 l0 x8_1).f1.f0),.int .i64 ((rd_T44 l0 x8_1).f1.f1),.string (⟨#[]⟩ : ByteArray),.bool false]) ?_ 3 _ rfl;(with_reducible repeat first|apply bN|apply bD|apply bA);refine blk_put (cs:=#[.string ((rd_T44 l0 x8_1).f0),.int .i64 ((rd_T44 l0 x8_1).f1.f0),.int .i64 0,.string (⟨#[]⟩ : ByteArray),.bool false]) ?_ 2 _ rfl;(with_reducible repeat first|apply bN|apply bD|apply bA);refine blk_put (cs:=#[.string ((rd_T44 l0 x8_1).f0),.int .i64 0,.int .i64 0,.string (⟨#[]⟩ : ByteArray),.bool false]) ?_ 1 _ rfl;(with_reducible repeat first|apply bN|apply bD|apply bA);refine blk_put (cs:=#[.string (⟨#[]⟩ : ByteArray),.int .i64 0,.int .i64 0,.string (⟨#[]⟩ : ByteArray),.bool false]) ?_ 0 _ rfl;(with_reducible repeat first|apply bN|apply bD|apply bA);exact BK126.out) hb);replace HB:=Aside0.mk (below_step (by repeat (first|(with_reducible first|exact HB.out|apply xA|apply xN|apply xD|refine xS ?_ GE126.out)|exact HB.out)) hb);(try clear hb);(try clear hb2);(try clear hk);(try clear hi))))
       go_ret
       exact ⟨by first|rfl|(simp [errW_none,errW_some] <;> rfl)|(simp [*,errW_none,errW_some] <;> rfl),by repeat (first|(with_reducible first|exact HB.out|apply xA|apply xN|apply xD|refine xS ?_ GE126.out)|exact HB.out)⟩
     ·rw [if_neg c4] at H
      exact absurd H (by simp)
    ·rw [if_neg c3] at H
     exact absurd H (by simp)
   ·rw [if_neg c2] at H
    have c2b0 : decide (x8_1 < (l0.length : Int)) = false:=decide_eq_false c2
    clear c2
    obtain rfl:=Option.some.inj H
    go_wp2
    repeat (go_quiet (fail);try go_wp2)
    go_ret
    exact ⟨by first|rfl|(simp [errW_none,errW_some] <;> rfl)|(simp [*,errW_none,errW_some] <;> rfl),by repeat (first|(with_reducible first|exact HB.out|apply xA|apply xN|apply xD)|exact HB.out)⟩

/-! ### merge_check: function 41 -/
def merge_check.f (k : Nat) (l0 : List (S44)) (l1 : List (S44)) : Option (Int) := (merge_Check.f k l0).bind fun t129 => (if t129 = 0 then ((merge_Check.f k l1).bind fun t130 => (some t130)) else (some t129))
theorem merge_check.mono : ∀ a0 a1 k, LeO (merge_check.f k a0 a1) (merge_check.f (k + 1) a0 a1) := by
  intro a0 a1 k
  unfold merge_check.f
  repeat' first
      | (with_reducible exact merge_Check.mono _ _)
      | (with_reducible exact LeO.refl _)
      | (with_reducible exact LeO.none _)
      | (with_reducible refine LeO.ite ?_ ?_)
      | (with_reducible refine LeO.bind ?_ (fun _ => ?_))
      | exact merge_Check.mono _ _
      | exact LeO.none _
      | refine LeO.ite ?_ ?_
      | refine LeO.bind ?_ (fun _ => ?_)
set_option maxHeartbeats 8000000 in
set_option maxRecDepth 100000 in
theorem merge_check.calls (k : Nat) (A0 : Option Addr) (c0 : Nat) (l0 : List (S44)) (A1 : Option Addr) (c1 : Nat) (l1 : List (S44)) (r : Int) (w : World) (hr0 : Kd.C k44 w A0 l0.length l0) (hc0 : l0.length ≤ c0) (hr1 : Kd.C k44 w A1 l1.length l1) (hc1 : l1.length ≤ c1) (h : merge_check.f k l0 l1 = some r) :
    Calls Try.prog 41 #[.slice A0 l0.length c0, .slice A1 l1.length c1] w fun e w' => e = .returned (.int .i64 r) ∧ Below w.heap.size w w' := by
 have HR0:=Aside0.mk hr0
 have HC0:=Aside0.mk hc0
 clear hr0 hc0
 have HR1:=Aside0.mk hr1
 have HC1:=Aside0.mk hc1
 clear hr1 hc1
 have HB:=Aside0.mk (Below.refl w.heap.size w)
 have H : ((merge_Check.f k l0).bind fun t129 => (if t129 = 0 then ((merge_Check.f k l1).bind fun t130 => (some t130)) else (some t129))) = some r:=h
 clear h
 replace H:=Option.bind_eq_some_iff.mp H
 obtain ⟨t129,A30,H⟩:=H
 replace H : (if t129 = 0 then ((merge_Check.f k l1).bind fun t130 => (some t130)) else (some t129)) = some r:=H
 have A3:=Aside0.mk A30
 clear A30
 by_cases c4 : t129 = 0
 ·rw [if_pos c4] at H
  have c4b0 : (t129 == 0) = true:=beq_iff_eq.mpr c4
  have c4b1 : (t129 != 0) = false:=bne_eq_false_iff_eq.mpr c4
  clear c4
  replace H:=Option.bind_eq_some_iff.mp H
  obtain ⟨t130,A50,H⟩:=H
  replace H : (some t130) = some r:=H
  have A5:=Aside0.mk A50
  clear A50
  obtain rfl:=Option.some.inj H
  go_enter Try.func41,Try.ntmps41
  go_wp2_with (first|((with_reducible refine gate_callee (f:=14) rfl ?_);refine goesL_ (some 7) rfl rfl Try.func14 (by kernel_rfl) rfl #[.slice A0 l0.length c0] rfl (by (try simp only [List.map_toArray,List.map_cons,List.map_nil]);first|done|rfl|(simp only [List.length_drop,List.length_take];rfl)) ?_;(with_reducible refine (merge_Check.calls k _ _ l0 t129 _ ?side1 ?side2 A3.out).mono ?_);(case side1 => repeat (first|exact HR0.out|(with_reducible refine Kd.C_alloc ?_ _)|(with_reducible refine Kd.C_drewN ?_ _)|(with_reducible refine Kd.C_drew ?_)));(case side2 => exact HC0.out);rintro e w6 ⟨rfl,hb⟩;refine ⟨_,rfl,?_⟩;replace HB:=Aside0.mk (below_step (by repeat (first|(with_reducible first|exact HB.out|apply xA|apply xN|apply xD)|exact HB.out)) hb);(try clear hb);(try clear hb2);(try clear hk);(try clear hi))|((with_reducible refine gate_callee (f:=14) rfl ?_);refine goesL_ (some 12) rfl rfl Try.func14 (by kernel_rfl) rfl #[.slice A1 l1.length c1] rfl (by (try simp only [List.map_toArray,List.map_cons,List.map_nil]);first|done|rfl|(simp only [List.length_drop,List.length_take];rfl)) ?_;(with_reducible refine (merge_Check.calls k _ _ l1 t130 _ ?side1 ?side2 A5.out).mono ?_);(case side1 => repeat (first|exact (Kd.C_below HR1.out HB.out)|(with_reducible refine Kd.C_alloc ?_ _)|(with_reducible refine Kd.C_drewN ?_ _)|(with_reducible refine Kd.C_drew ?_)));(case side2 => exact HC1.out);rintro e w7 ⟨rfl,hb⟩;refine ⟨_,rfl,?_⟩;replace HB:=Aside0.mk (below_step (by repeat (first|(with_reducible first|exact HB.out|apply xA|apply xN|apply xD)|exact HB.out)) hb);(try clear hb);(try clear hb2);(try clear hk);(try clear hi)))
  go_ret
  exact ⟨by first|rfl|(simp [errW_none,errW_some] <;> rfl)|(simp [*,errW_none,errW_some] <;> rfl),by repeat (first|(with_reducible first|exact HB.out|apply xA|apply xN|apply xD)|exact HB.out)⟩
 ·rw [if_neg c4] at H
  have c4b0 : (t129 == 0) = false:=beq_eq_false_iff_ne.mpr c4
  have c4b1 : (t129 != 0) = true:=bne_iff_ne.mpr c4
  obtain rfl:=Option.some.inj H
  go_enter Try.func41,Try.ntmps41
  go_wp2_with (first|((with_reducible refine gate_callee (f:=14) rfl ?_);refine goesL_ (some 7) rfl rfl Try.func14 (by kernel_rfl) rfl #[.slice A0 l0.length c0] rfl (by (try simp only [List.map_toArray,List.map_cons,List.map_nil]);first|done|rfl|(simp only [List.length_drop,List.length_take];rfl)) ?_;(with_reducible refine (merge_Check.calls k _ _ l0 t129 _ ?side1 ?side2 A3.out).mono ?_);(case side1 => repeat (first|exact HR0.out|(with_reducible refine Kd.C_alloc ?_ _)|(with_reducible refine Kd.C_drewN ?_ _)|(with_reducible refine Kd.C_drew ?_)));(case side2 => exact HC0.out);rintro e w8 ⟨rfl,hb⟩;refine ⟨_,rfl,?_⟩;replace HB:=Aside0.mk (below_step (by repeat (first|(with_reducible first|exact HB.out|apply xA|apply xN|apply xD)|exact HB.out)) hb);(try clear hb);(try clear hb2);(try clear hk);(try clear hi)))
  go_ret
  exact ⟨by first|rfl|(simp [errW_none,errW_some] <;> rfl)|(simp [*,errW_none,errW_some] <;> rfl),by repeat (first|(with_reducible first|exact HB.out|apply xA|apply xN|apply xD)|exact HB.out)⟩

-- NOT PRINTED: function 42 (merge_pairs)

/-! ### merge_there: function 44 -/
def merge_there.f (a0_0 : ByteArray) (a0_1 : Int) (a0_2 : Int) (a0_3 : ByteArray) (a0_4 : Bool) : Option (Bool) := some (!(a0_1 == 0) || (!(a0_2 == 0)))
set_option maxHeartbeats 8000000 in
set_option maxRecDepth 100000 in
theorem merge_there.calls (a0_0 : ByteArray) (a0_1 : Int) (a0_2 : Int) (a0_3 : ByteArray) (a0_4 : Bool) (r : Bool) (w : World) (h : merge_there.f a0_0 a0_1 a0_2 a0_3 a0_4 = some r) :
    Calls Try.prog 44 #[.agg #[.string a0_0, .int .i64 a0_1, .int .i64 a0_2, .string a0_3, .bool a0_4]] w fun e w' => e = .returned (.bool r) ∧ Below w.heap.size w w' := by
 have hu44:=Try.underlying44
 have hu42:=Try.underlying42
 have HB:=Aside0.mk (Below.refl w.heap.size w)
 have H : (some (!(a0_1 == 0) || (!(a0_2 == 0)))) = some r:=h
 clear h
 obtain rfl:=Option.some.inj H
 go_enter Try.func44,Try.ntmps44
 go_wp2_with (first|((with_reducible refine gate_dst (N:=1) rfl ?_);refine box_event ?hg (N:=1) ?hd (cs:=#[.string a0_0,.int .i64 a0_1,.int .i64 a0_2,.string a0_3,.bool a0_4]) (t:=44) ?hr ?_;(case hd => rfl);(case hg => rfl);(case hr => first|(go_simp;done)|(go_simp;rfl));intro gb131 hg w2 hbox hb;have n0_:=Aside0.mk (below_step (by repeat (first|(with_reducible first|exact HB.out|apply xA|apply xN|apply xD)|exact HB.out)) hb);have n1_:=Aside0.mk (hbox);have n2_:=Aside0.mk ((by rw [hg];exact (below_size (by repeat (first|(with_reducible first|exact HB.out|apply xA|apply xN|apply xD)|exact HB.out))) : w.heap.size ≤ gb131));have n3_:=Aside0.mk ((by rw [hg];exact (below_size (by repeat (first|(with_reducible first|exact HB.out|apply xA|apply xN|apply xD)|exact HB.out))) : w.heap.size ≤ gb131));clear HB;have HB:=n0_;have BK131:=n1_;have GW131:=n2_;have GE131:=n3_;clear n0_ n1_ n2_ n3_;clear hb hbox hg;have hcz3_0 : w2.cell? ⟨gb131,0,none⟩ = some (.string a0_0):=(blk_cell BK131.out 0).trans rfl;have hcz3_1 : w2.cell? ⟨gb131,1,none⟩ = some (.int .i64 a0_1):=(blk_cell BK131.out 1).trans rfl;have hcz3_2 : w2.cell? ⟨gb131,2,none⟩ = some (.int .i64 a0_2):=(blk_cell BK131.out 2).trans rfl;have hcz3_3 : w2.cell? ⟨gb131,3,none⟩ = some (.string a0_3):=(blk_cell BK131.out 3).trans rfl;have hcz3_4 : w2.cell? ⟨gb131,4,none⟩ = some (.bool a0_4):=(blk_cell BK131.out 4).trans rfl;obtain ⟨hfz3_0,hfz3_1,hfz3_2⟩:=f3 BK131.out;have hfz3_3:=blk_frozen BK131.out 3;have hfz3_4:=blk_frozen BK131.out 4))
 go_ret
 exact ⟨by first|rfl|(simp [errW_none,errW_some] <;> rfl)|(simp [*,errW_none,errW_some] <;> rfl),by repeat (first|(with_reducible first|exact HB.out|apply xA|apply xN|apply xD|refine xS ?_ GE131.out)|exact HB.out)⟩

/-! ### cmp_Or_int: function 56 -/
def cmp_Or_int.l0 : Nat → Int → List Int → Int → Int → Option (Int)
  | 0, _, _, _, _ => none
  | k + 1, x3, x6, x7, x8 => if x8 < x7 then (if 0 ≤ x8 then (if x8 < (x6.length : Int) then (if (rd x6 x8) = x3 then (cmp_Or_int.l0 k x3 x6 x7 (wrap64 (x8 + 1))) else (some (rd x6 x8))) else (none)) else (none)) else (some x3)
def cmp_Or_int.f (k : Nat) (l0 : List Int) : Option (Int) := cmp_Or_int.l0 k 0 l0 (l0.length : Int) 0
theorem cmp_Or_int.mono_l : ∀ k, (∀ y0 y1 y2 y3, LeO (cmp_Or_int.l0 k y0 y1 y2 y3) (cmp_Or_int.l0 (k + 1) y0 y1 y2 y3))
  | 0 => fun _ _ _ _ r h => by simp [cmp_Or_int.l0] at h
  | k + 1 => by
    have ih0 := cmp_Or_int.mono_l k
    · intro y0 y1 y2 y3
      unfold cmp_Or_int.l0
      repeat' first
      | (with_reducible exact ih0 _ _ _ _)
      | (with_reducible exact LeO.refl _)
      | (with_reducible exact LeO.none _)
      | (with_reducible refine LeO.ite ?_ ?_)
      | (with_reducible refine LeO.bind ?_ (fun _ => ?_))
      | exact ih0 _ _ _ _
      | exact LeO.none _
      | refine LeO.ite ?_ ?_
      | refine LeO.bind ?_ (fun _ => ?_)
theorem cmp_Or_int.mono : ∀ a0 k, LeO (cmp_Or_int.f k a0) (cmp_Or_int.f (k + 1) a0) := by
  intro a0 k
  have ih0 := cmp_Or_int.mono_l k
  unfold cmp_Or_int.f
  repeat' first
      | (with_reducible exact ih0 _ _ _ _)
      | (with_reducible exact LeO.refl _)
      | (with_reducible exact LeO.none _)
      | (with_reducible refine LeO.ite ?_ ?_)
      | (with_reducible refine LeO.bind ?_ (fun _ => ?_))
      | exact ih0 _ _ _ _
      | exact LeO.none _
      | refine LeO.ite ?_ ?_
      | refine LeO.bind ?_ (fun _ => ?_)
set_option maxHeartbeats 8000000 in
set_option maxRecDepth 100000 in
theorem cmp_Or_int.calls (k : Nat) (A0 : Option Addr) (c0 : Nat) (l0 : List Int) (r : Int) (w : World) (hr0 : Kd.C (Kd.int .i64) w A0 l0.length l0) (hc0 : l0.length ≤ c0) (h : cmp_Or_int.f k l0 = some r) :
    Calls Try.prog 56 #[.slice A0 l0.length c0] w fun e w' => e = .returned (.int .i64 r) ∧ Drawn0 w w' := by
 have HR0:=Aside0.mk hr0
 have HC0:=Aside0.mk hc0
 clear hr0 hc0
 have H : (cmp_Or_int.l0 k 0 l0 (l0.length : Int) 0) = some r:=h
 clear h
 have H':=Aside0.mk H
 clear H
 go_enter Try.func56,Try.ntmps56
 go_wp2
 go_loopg [8] k (fun kq v8 w' => ∃ (x8_1 : Int),v8 = .int .i64 x8_1 ∧ Aside0 (cmp_Or_int.l0 kq 0 l0 (l0.length : Int) x8_1 = some r) ∧ Aside0 (kq ≤ k) ∧ Drawn0 w w')
 case atStart => exact ⟨(0),(by first|rfl|(simp;done)|(simp [*];done)|(simp [*,Go.Proofs.Ytghlellambnkeaa.Str.bne_nil];done)),H',⟨Nat.le_refl _⟩,by repeat (first|exact Drawn0.refl _|apply Drawn0.step)⟩
 case round =>
  clear H'
  obtain ⟨x8_1,rfl,HA,HK1,⟨m1,rfl⟩⟩:=hrel
  cases gk with
 |zero => exact absurd HA.out (by simp [cmp_Or_int.l0])
 |succ k1 =>
   have H:=HA.out
   clear HA
   simp only [cmp_Or_int.l0] at H
   by_cases c2 : x8_1 < (l0.length : Int)
   ·rw [if_pos c2] at H
    have c2b0 : decide (x8_1 < (l0.length : Int)) = true:=decide_eq_true c2
    clear c2
    by_cases c3 : 0 ≤ x8_1
    ·rw [if_pos c3] at H
     have c3b0 : decide (0 ≤ x8_1) = true:=decide_eq_true c3
     clear c3
     by_cases c4 : x8_1 < (l0.length : Int)
     ·rw [if_pos c4] at H
      have c4b0 : decide (x8_1 < (l0.length : Int)) = true:=decide_eq_true c4
      clear c4
      by_cases c5 : (rd l0 x8_1) = 0
      ·rw [if_pos c5] at H
       have c5b0 : ((rd l0 x8_1) == 0) = true:=beq_iff_eq.mpr c5
       have c5b1 : ((rd l0 x8_1) != 0) = false:=bne_eq_false_iff_eq.mpr c5
       clear c5
       have H':=Aside0.mk H
       clear H
       have p132 : 0 ≤ (x8_1 : Int):=of_decide_eq_true (by first|(with_reducible assumption)|assumption)
       have q132 : x8_1 < (l0.length : Int):=of_decide_eq_true (by first|(with_reducible assumption)|assumption)
       obtain ⟨ad132,e132,hx132_0⟩:=Kd.at_int HR0.out x8_1 p132 q132
       cases e132
       replace p132:=eq_true p132
       replace q132:=eq_true q132
       go_wp2
       go_roundg k1
       case measure => have:=HK1.out;omega
       case rel => exact ⟨(wrap64 (x8_1 + 1)),(by first|rfl|(simp;done)|(simp [*];done)|(simp [*,Go.Proofs.Ytghlellambnkeaa.Str.bne_nil];done)),H',⟨by have:=HK1.out;omega⟩,by repeat (first|exact Drawn0.refl _|apply Drawn0.step)⟩
      ·rw [if_neg c5] at H
       have c5b0 : ((rd l0 x8_1) == 0) = false:=beq_eq_false_iff_ne.mpr c5
       have c5b1 : ((rd l0 x8_1) != 0) = true:=bne_iff_ne.mpr c5
       obtain rfl:=Option.some.inj H
       have p132 : 0 ≤ (x8_1 : Int):=of_decide_eq_true (by first|(with_reducible assumption)|assumption)
       have q132 : x8_1 < (l0.length : Int):=of_decide_eq_true (by first|(with_reducible assumption)|assumption)
       obtain ⟨ad132,e132,hx132_0⟩:=Kd.at_int HR0.out x8_1 p132 q132
       cases e132
       replace p132:=eq_true p132
       replace q132:=eq_true q132
       go_wp2
       go_ret
       exact ⟨by first|rfl|(simp;done)|(simp [*];done)|(simp [*,Go.Proofs.Ytghlellambnkeaa.Str.bne_nil];done),by repeat (first|exact Drawn0.refl _|apply Drawn0.step)⟩
     ·rw [if_neg c4] at H
      exact absurd H (by simp)
    ·rw [if_neg c3] at H
     exact absurd H (by simp)
   ·rw [if_neg c2] at H
    have c2b0 : decide (x8_1 < (l0.length : Int)) = false:=decide_eq_false c2
    clear c2
    obtain rfl:=Option.some.inj H
    go_wp2
    go_ret
    exact ⟨by first|rfl|(simp;done)|(simp [*];done)|(simp [*,Go.Proofs.Ytghlellambnkeaa.Str.bne_nil];done),by repeat (first|exact Drawn0.refl _|apply Drawn0.step)⟩

/-! ### cmp_isNaN_int: function 58 -/
def cmp_isNaN_int.f (a0 : Int) : Option (Bool) := some (a0 != a0)
set_option maxHeartbeats 8000000 in
set_option maxRecDepth 100000 in
theorem cmp_isNaN_int.calls (a0 : Int) (r : Bool) (w : World) (h : cmp_isNaN_int.f a0 = some r) :
    Calls Try.prog 58 #[.int .i64 a0] w fun e w' => e = .returned (.bool r) ∧ Drawn0 w w' := by
 have H : (some (a0 != a0)) = some r:=h
 clear h
 obtain rfl:=Option.some.inj H
 go_enter Try.func58,Try.ntmps58
 go_wp2
 go_ret
 exact ⟨by first|rfl|(simp;done)|(simp [*];done)|(simp [*,Go.Proofs.Ytghlellambnkeaa.Str.bne_nil];done),by repeat (first|exact Drawn0.refl _|apply Drawn0.step)⟩

/-! ### cmp_Compare_int: function 57 -/
def cmp_Compare_int.f (a0 : Int) (a1 : Int) : Option (Int) := (cmp_isNaN_int.f a0).bind fun t133 => ((cmp_isNaN_int.f a1).bind fun t134 => (if t133 = true then (if t134 = true then (some 0) else (some (-1))) else (if t134 = true then (some 1) else (if a0 < a1 then (some (-1)) else (if a0 > a1 then (some 1) else (some 0))))))
set_option maxHeartbeats 8000000 in
set_option maxRecDepth 100000 in
theorem cmp_Compare_int.calls (a0 : Int) (a1 : Int) (r : Int) (w : World) (h : cmp_Compare_int.f a0 a1 = some r) :
    Calls Try.prog 57 #[.int .i64 a0, .int .i64 a1] w fun e w' => e = .returned (.int .i64 r) ∧ Drawn0 w w' := by
 have H : ((cmp_isNaN_int.f a0).bind fun t133 => ((cmp_isNaN_int.f a1).bind fun t134 => (if t133 = true then (if t134 = true then (some 0) else (some (-1))) else (if t134 = true then (some 1) else (if a0 < a1 then (some (-1)) else (if a0 > a1 then (some 1) else (some 0))))))) = some r:=h
 clear h
 replace H:=Option.bind_eq_some_iff.mp H
 obtain ⟨t133,A30,H⟩:=H
 replace H : ((cmp_isNaN_int.f a1).bind fun t134 => (if t133 = true then (if t134 = true then (some 0) else (some (-1))) else (if t134 = true then (some 1) else (if a0 < a1 then (some (-1)) else (if a0 > a1 then (some 1) else (some 0)))))) = some r:=H
 have A3:=Aside0.mk A30
 clear A30
 replace H:=Option.bind_eq_some_iff.mp H
 obtain ⟨t134,A40,H⟩:=H
 replace H : (if t133 = true then (if t134 = true then (some 0) else (some (-1))) else (if t134 = true then (some 1) else (if a0 < a1 then (some (-1)) else (if a0 > a1 then (some 1) else (some 0))))) = some r:=H
 have A4:=Aside0.mk A40
 clear A40
 by_cases c5 : t133 = true
 ·subst c5
  have H1 : (if t134 = true then (some 0) else (some (-1))) = some r:=by rw [if_pos rfl] at H;exact H
  clear H
  have H:=H1
  clear H1
  by_cases c6 : t134 = true
  ·subst c6
   have H1 : (some 0) = some r:=by rw [if_pos rfl] at H;exact H
   clear H
   have H:=H1
   clear H1
   obtain rfl:=Option.some.inj H
   go_enter Try.func57,Try.ntmps57
   go_wp2_with (first|((with_reducible refine gate_callee (f:=58) rfl ?_);refine goesL_ (some 8) rfl rfl Try.func58 (by kernel_rfl) rfl #[.int .i64 a0] rfl (by (try simp only [List.map_toArray,List.map_cons,List.map_nil]);first|done|rfl|(simp only [List.length_drop,List.length_take];rfl)) ?_;(with_reducible refine (cmp_isNaN_int.calls a0 true _ A3.out).mono ?_);rintro e w' ⟨rfl,⟨nd,rfl⟩⟩;refine ⟨_,rfl,?_⟩)|((with_reducible refine gate_callee (f:=58) rfl ?_);refine goesL_ (some 10) rfl rfl Try.func58 (by kernel_rfl) rfl #[.int .i64 a1] rfl (by (try simp only [List.map_toArray,List.map_cons,List.map_nil]);first|done|rfl|(simp only [List.length_drop,List.length_take];rfl)) ?_;(with_reducible refine (cmp_isNaN_int.calls a1 true _ A4.out).mono ?_);rintro e w' ⟨rfl,⟨nd,rfl⟩⟩;refine ⟨_,rfl,?_⟩))
   go_ret
   exact ⟨by first|rfl|(simp;done)|(simp [*];done)|(simp [*,Go.Proofs.Ytghlellambnkeaa.Str.bne_nil];done),by repeat (first|exact Drawn0.refl _|apply Drawn0.step)⟩
  ·replace c6:=Bool.eq_false_iff.mpr c6
   subst c6
   have H1 : (some (-1)) = some r:=by rw [if_neg (show ¬ (false = true) by decide)] at H;exact H
   clear H
   have H:=H1
   clear H1
   obtain rfl:=Option.some.inj H
   go_enter Try.func57,Try.ntmps57
   go_wp2_with (first|((with_reducible refine gate_callee (f:=58) rfl ?_);refine goesL_ (some 8) rfl rfl Try.func58 (by kernel_rfl) rfl #[.int .i64 a0] rfl (by (try simp only [List.map_toArray,List.map_cons,List.map_nil]);first|done|rfl|(simp only [List.length_drop,List.length_take];rfl)) ?_;(with_reducible refine (cmp_isNaN_int.calls a0 true _ A3.out).mono ?_);rintro e w' ⟨rfl,⟨nd,rfl⟩⟩;refine ⟨_,rfl,?_⟩)|((with_reducible refine gate_callee (f:=58) rfl ?_);refine goesL_ (some 10) rfl rfl Try.func58 (by kernel_rfl) rfl #[.int .i64 a1] rfl (by (try simp only [List.map_toArray,List.map_cons,List.map_nil]);first|done|rfl|(simp only [List.length_drop,List.length_take];rfl)) ?_;(with_reducible refine (cmp_isNaN_int.calls a1 false _ A4.out).mono ?_);rintro e w' ⟨rfl,⟨nd,rfl⟩⟩;refine ⟨_,rfl,?_⟩))
   go_ret
   exact ⟨by first|rfl|(simp;done)|(simp [*];done)|(simp [*,Go.Proofs.Ytghlellambnkeaa.Str.bne_nil];done),by repeat (first|exact Drawn0.refl _|apply Drawn0.step)⟩
 ·replace c5:=Bool.eq_false_iff.mpr c5
  subst c5
  have H1 : (if t134 = true then (some 1) else (if a0 < a1 then (some (-1)) else (if a0 > a1 then (some 1) else (some 0)))) = some r:=by rw [if_neg (show ¬ (false = true) by decide)] at H;exact H
  clear H
  have H:=H1
  clear H1
  by_cases c7 : t134 = true
  ·subst c7
   have H1 : (some 1) = some r:=by rw [if_pos rfl] at H;exact H
   clear H
   have H:=H1
   clear H1
   obtain rfl:=Option.some.inj H
   go_enter Try.func57,Try.ntmps57
   go_wp2_with (first|((with_reducible refine gate_callee (f:=58) rfl ?_);refine goesL_ (some 8) rfl rfl Try.func58 (by kernel_rfl) rfl #[.int .i64 a0] rfl (by (try simp only [List.map_toArray,List.map_cons,List.map_nil]);first|done|rfl|(simp only [List.length_drop,List.length_take];rfl)) ?_;(with_reducible refine (cmp_isNaN_int.calls a0 false _ A3.out).mono ?_);rintro e w' ⟨rfl,⟨nd,rfl⟩⟩;refine ⟨_,rfl,?_⟩)|((with_reducible refine gate_callee (f:=58) rfl ?_);refine goesL_ (some 10) rfl rfl Try.func58 (by kernel_rfl) rfl #[.int .i64 a1] rfl (by (try simp only [List.map_toArray,List.map_cons,List.map_nil]);first|done|rfl|(simp only [List.length_drop,List.length_take];rfl)) ?_;(with_reducible refine (cmp_isNaN_int.calls a1 true _ A4.out).mono ?_);rintro e w' ⟨rfl,⟨nd,rfl⟩⟩;refine ⟨_,rfl,?_⟩))
   go_ret
   exact ⟨by first|rfl|(simp;done)|(simp [*];done)|(simp [*,Go.Proofs.Ytghlellambnkeaa.Str.bne_nil];done),by repeat (first|exact Drawn0.refl _|apply Drawn0.step)⟩
  ·replace c7:=Bool.eq_false_iff.mpr c7
   subst c7
   have H1 : (if a0 < a1 then (some (-1)) else (if a0 > a1 then (some 1) else (some 0))) = some r:=by rw [if_neg (show ¬ (false = true) by decide)] at H;exact H
   clear H
   have H:=H1
   clear H1
   by_cases c8 : a0 < a1
   ·rw [if_pos c8] at H
    have c8b0 : decide (a0 < a1) = true:=decide_eq_true c8
    clear c8
    obtain rfl:=Option.some.inj H
    go_enter Try.func57,Try.ntmps57
    go_wp2_with (first|((with_reducible refine gate_callee (f:=58) rfl ?_);refine goesL_ (some 8) rfl rfl Try.func58 (by kernel_rfl) rfl #[.int .i64 a0] rfl (by (try simp only [List.map_toArray,List.map_cons,List.map_nil]);first|done|rfl|(simp only [List.length_drop,List.length_take];rfl)) ?_;(with_reducible refine (cmp_isNaN_int.calls a0 false _ A3.out).mono ?_);rintro e w' ⟨rfl,⟨nd,rfl⟩⟩;refine ⟨_,rfl,?_⟩)|((with_reducible refine gate_callee (f:=58) rfl ?_);refine goesL_ (some 10) rfl rfl Try.func58 (by kernel_rfl) rfl #[.int .i64 a1] rfl (by (try simp only [List.map_toArray,List.map_cons,List.map_nil]);first|done|rfl|(simp only [List.length_drop,List.length_take];rfl)) ?_;(with_reducible refine (cmp_isNaN_int.calls a1 false _ A4.out).mono ?_);rintro e w' ⟨rfl,⟨nd,rfl⟩⟩;refine ⟨_,rfl,?_⟩))
    go_ret
    exact ⟨by first|rfl|(simp;done)|(simp [*];done)|(simp [*,Go.Proofs.Ytghlellambnkeaa.Str.bne_nil];done),by repeat (first|exact Drawn0.refl _|apply Drawn0.step)⟩
   ·rw [if_neg c8] at H
    have c8b0 : decide (a0 < a1) = false:=decide_eq_false c8
    clear c8
    by_cases c9 : a0 > a1
    ·rw [if_pos c9] at H
     have c9b0 : decide (a1 < a0) = true:=decide_eq_true c9
     clear c9
     obtain rfl:=Option.some.inj H
     go_enter Try.func57,Try.ntmps57
     go_wp2_with (first|((with_reducible refine gate_callee (f:=58) rfl ?_);refine goesL_ (some 8) rfl rfl Try.func58 (by kernel_rfl) rfl #[.int .i64 a0] rfl (by (try simp only [List.map_toArray,List.map_cons,List.map_nil]);first|done|rfl|(simp only [List.length_drop,List.length_take];rfl)) ?_;(with_reducible refine (cmp_isNaN_int.calls a0 false _ A3.out).mono ?_);rintro e w' ⟨rfl,⟨nd,rfl⟩⟩;refine ⟨_,rfl,?_⟩)|((with_reducible refine gate_callee (f:=58) rfl ?_);refine goesL_ (some 10) rfl rfl Try.func58 (by kernel_rfl) rfl #[.int .i64 a1] rfl (by (try simp only [List.map_toArray,List.map_cons,List.map_nil]);first|done|rfl|(simp only [List.length_drop,List.length_take];rfl)) ?_;(with_reducible refine (cmp_isNaN_int.calls a1 false _ A4.out).mono ?_);rintro e w' ⟨rfl,⟨nd,rfl⟩⟩;refine ⟨_,rfl,?_⟩))
     go_ret
     exact ⟨by first|rfl|(simp;done)|(simp [*];done)|(simp [*,Go.Proofs.Ytghlellambnkeaa.Str.bne_nil];done),by repeat (first|exact Drawn0.refl _|apply Drawn0.step)⟩
    ·rw [if_neg c9] at H
     have c9b0 : decide (a1 < a0) = false:=decide_eq_false c9
     clear c9
     obtain rfl:=Option.some.inj H
     go_enter Try.func57,Try.ntmps57
     go_wp2_with (first|((with_reducible refine gate_callee (f:=58) rfl ?_);refine goesL_ (some 8) rfl rfl Try.func58 (by kernel_rfl) rfl #[.int .i64 a0] rfl (by (try simp only [List.map_toArray,List.map_cons,List.map_nil]);first|done|rfl|(simp only [List.length_drop,List.length_take];rfl)) ?_;(with_reducible refine (cmp_isNaN_int.calls a0 false _ A3.out).mono ?_);rintro e w' ⟨rfl,⟨nd,rfl⟩⟩;refine ⟨_,rfl,?_⟩)|((with_reducible refine gate_callee (f:=58) rfl ?_);refine goesL_ (some 10) rfl rfl Try.func58 (by kernel_rfl) rfl #[.int .i64 a1] rfl (by (try simp only [List.map_toArray,List.map_cons,List.map_nil]);first|done|rfl|(simp only [List.length_drop,List.length_take];rfl)) ?_;(with_reducible refine (cmp_isNaN_int.calls a1 false _ A4.out).mono ?_);rintro e w' ⟨rfl,⟨nd,rfl⟩⟩;refine ⟨_,rfl,?_⟩))
     go_ret
     exact ⟨by first|rfl|(simp;done)|(simp [*];done)|(simp [*,Go.Proofs.Ytghlellambnkeaa.Str.bne_nil];done),by repeat (first|exact Drawn0.refl _|apply Drawn0.step)⟩

end Go.Proofs.Ytghlellambnkeaa.PAll
