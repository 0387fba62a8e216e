-- By wip/late.py (a program of this session) out of wip/words.
import Derived.Test.YtcfiobhebakhlabProg
import Derived.Test.YtcfiobhebakhlabWWords
import Derived.Test.YtcfiobhebakhlabWLast
import Derived.Test.YtcfiobhebakhlabWMore
import Derived.Test.YtcfiobhebakhlabPAllx0
import Derived.Test.YtcfiobhebakhlabPAllx1
import Derived.Test.YtcfiobhebakhlabSStepsW
import Derived.Test.YtcfiobhebakhlabSBackP
import Derived.Test.YtcfiobhebakhlabSRdNumC
import Derived.Test.YtcfiobhebakhlabSRdTell
import Derived.Test.YtcfiobhebakhlabSRdText
import Derived.Test.YtcfiobhebakhlabSRdWord
import Derived.Test.YtcfiobhebakhlabSRdFlag
import Derived.Test.YtcfiobhebakhlabSRdNew
import Derived.Test.YtcfiobhebakhlabSWrNums
import Derived.Test.YtcfiobhebakhlabSWrWrite
import Derived.Test.YtcfiobhebakhlabSWrTwo
import Derived.RangeFuncBox
import Derived.BigQuiet
import Derived.Deep.QuietTactic
import Derived.Deep.RegionHeld
import Derived.Deep.RegionHeld3
import Derived.Lib.Hide
import Derived.Tactics
import Derived.WalkKit
import Derived.OwnWalk
import Derived.Test.YtcfiobhebakhlabSRdP
import Derived.Test.YtcfiobhebakhlabSNumsP
set_option linter.unusedVariables false
set_option linter.unusedSimpArgs false
namespace Go.Proofs.Ytcfiobhebakhlab.PAll
open Go.RowKit Go.Proofs.YtcfiobhebakhlabW.PrintWords Go.Proofs.YtcfiobhebakhlabW.PrintLast Go.Proofs.YtcfiobhebakhlabW.PrintMore Go.Proofs.Ytcfiobhebakhlab.Pure Go.Proofs.Ytcfiobhebakhlab.Wr Go.Proofs.Ytcfiobhebakhlab.Rd
attribute [local go_sem] max2_int min2_int max_two min_two
open Classical in
noncomputable def tidelinelaw01_NumsBack.f (k : Nat) (l0 : List S34) : Option Bool := (tidelinelaw01_beyond.f k l0).bind fun b => if b = true then some true else if (∀ x ∈ l0, OkStep x) ∧ total l0 ≤ 2147483647 then some true else none
theorem total_mem {l0 : List S34} {x : S34} (h : x ∈ l0) : x.f2.size ≤ total l0 := by
  induction l0 with
  | nil => cases h
  | cons y l ih =>
    simp only [total]
    rcases List.mem_cons.1 h with rfl | h
    · omega
    · have := ih h; omega
theorem stepB_bytes {l0 : List S34} (h : ∀ x ∈ l0, OkStep x) (ht : total l0 ≤ 2147483647) : ∀ c ∈ l0.flatMap stepB, 0 ≤ c ∧ c < 256 := by
  intro c hc
  obtain ⟨x, hx, hc⟩ := List.mem_flatMap.1 hc
  obtain ⟨o1, o2, o3, o4⟩ := okStep_iff.1 (h x hx)
  unfold stepB partB at hc
  have e : (128 : Int) ^ (8 + 1) = 9223372036854775808 := by decide
  split at hc
  · exact numB_bytes 8 _ (by omega) (by rw [e]; omega) c hc
  · split at hc
    · rcases List.mem_append.1 hc with hc | hc
      · refine numB_bytes 8 _ (by omega) ?_ c hc
        rw [e]
        have := total_mem hx
        omega
      · exact bytesOf_bytes _ c hc
    · split at hc
      · exact wordB_bytes _ _ c hc
      · split at hc
        · simp only [List.mem_singleton] at hc
          split at hc <;> omega
        · simp at hc
theorem drop_past {L part rest : List Int} {p q : Nat} (h : L.drop p = part ++ rest) (hq : q = p + part.length) : L.drop q = rest := by
  subst hq
  rw [← List.drop_drop, h, List.drop_left]
theorem drop_step {l0 : List S34} {j : Nat} (h : j < l0.length) : (l0.drop j).flatMap stepB = stepB (rd_T34 l0 (j : Int)) ++ (l0.drop (j + 1)).flatMap stepB := by
  rw [List.drop_eq_getElem_cons h]
  simp only [List.flatMap_cons, rd_T34, Int.toNat_natCast, List.getD_eq_getElem?_getD, List.getElem?_eq_getElem h, Option.getD_some]
set_option maxRecDepth 100000 in
set_option maxHeartbeats 4000000 in
theorem tidelinelaw01_NumsBack.calls (k : Nat) (A0 : Option Addr) (c0 : Nat) (l0 : List S34) (r : Bool) (w : World) (hr0 : Kd.C k34 w A0 l0.length l0) (hc0 : l0.length ≤ c0) (h : tidelinelaw01_NumsBack.f k l0 = some r) :
    Calls Try.prog 7 #[.slice A0 l0.length c0] w fun e w' => e = .returned (.bool r) ∧ Below w.heap.size w w' := by
  unfold tidelinelaw01_NumsBack.f at h
  obtain ⟨b, hb, h⟩ := Option.bind_eq_some_iff.1 h
  have Ab := Aside0.mk hb
  have HR := Aside0.mk hr0
  clear hr0 hb
  cases b with
  | true =>
    obtain rfl : true = r := by simpa using h
    clear h
    go_enter Try.func7, Try.ntmps7
    go_wp2_with (go_at_call 8; refine (tidelinelaw01_beyond.calls k A0 c0 l0 true _ HR.out hc0 Ab.out).mono ?_; rintro e wb ⟨rfl, hdb⟩; have HBb := Aside0.mk hdb.below; clear hdb)
    go_ret
    exact ⟨rfl, HBb.out⟩
  | false =>
    rw [if_neg (by decide)] at h
    by_cases hk : (∀ x ∈ l0, OkStep x) ∧ total l0 ≤ 2147483647
    case neg => rw [if_neg hk] at h; cases h
    rw [if_pos hk] at h
    obtain rfl : true = r := by simpa using h
    have AK := Aside0.mk hk.1
    have htot := Aside0.mk hk.2
    have HL : Aside0 ((l0.flatMap stepB).length ≤ 1099511627776 ∧ (l0.flatMap stepB).length ≤ 140737488355328 ∧ (l0.flatMap stepB).length ≤ 9223372036854775807) := ⟨by have := len_steps l0; have := hk.2; omega⟩
    have HLB := Aside0.mk (stepB_bytes hk.1 hk.2)
    clear h hk
    go_enter Try.func7, Try.ntmps7
    go_wp2_with (first
      | (go_at_call 8; refine (tidelinelaw01_beyond.calls k A0 c0 l0 false _ HR.out hc0 Ab.out).mono ?_; rintro e wb ⟨rfl, hdb⟩; have HBb := Aside0.mk hdb.below; clear hdb)
      | (go_at_call 9; refine (new_calls _).mono ?_; rintro e w1 ⟨B1, rfl, hw1, hb1⟩; have HW1 := Aside0.mk hw1; have HB1 := Aside0.mk hb1; clear hw1 hb1))
    go_loopw [4] (fun s4 wr => ∃ (j : Nat) (v : Value), s4 = .int .i64 (j : Int) ∧ j ≤ l0.length ∧ Wrt wb.heap.size 60 wr B1 v ((l0.take j).flatMap stepB) ∧ Below wb.heap.size wb wr ∧ wb.heap.size ≤ wr.heap.size) (fun s4 _ => l0.length - (intOf s4).toNat)
    case atStart => exact ⟨0, _, rfl, by omega, HW1.out, HB1.out, HB1.out.size⟩
    case round =>
      obtain ⟨j, v, rfl, hj, ht, hb2, hs2⟩ := hrel
      have HW2 := Aside0.mk ht
      have HB2 := Aside0.mk hb2
      have HS2 := Aside0.mk hs2
      clear ht hb2 hs2 HW1 HB1
      by_cases h1 : (j : Int) < (l0.length : Int)
      · have b1 : decide (j < l0.length) = true := decide_eq_true (by omega)
        have hj' : j < l0.length := by omega
        obtain ⟨ad, e0, x0, x1, x2, x3, x4⟩ := at_T34 (Kd.C_below HR.out (HBb.out.trans (HB2.out.mono HBb.out.size))) (j : Int) (Int.natCast_nonneg j) h1
        cases e0
        simp only [Int.toNat_natCast] at x0 x1 x2 x3 x4
        have p0 : (0 ≤ (j : Int)) = True := eq_true (Int.natCast_nonneg j)
        have q0 : ((j : Int) < (l0.length : Int)) = True := eq_true h1
        have O := Aside0.mk (okStep_iff.1 (AK.out _ (rd_mem hj')))
        have G := Aside0.mk (round_bounds l0 htot.out j hj')
        have hw64 := G.out.2.2
        obtain ⟨lj, hlj⟩ : ∃ lj, lj = (l0.take j).flatMap stepB ++ partB (rd_T34 l0 (j : Int)).f0 (rd_T34 l0 (j : Int)).f1 (rd_T34 l0 (j : Int)).f2 (rd_T34 l0 (j : Int)).f3 (rd_T34 l0 (j : Int)).f4 := ⟨_, rfl⟩
        have LJ := Aside0.mk hlj
        clear hlj
        go_wp2_with (go_at_call 13; (with_reducible refine (write_calls _ _ _ _ _ O.out.1 O.out.2.1 O.out.2.2.1 O.out.2.2.2 G.out.1 HW2.out HS2.out G.out.2.1).mono ?_); rintro e w3 ⟨rfl, v3, h3⟩; rw [← LJ.out] at h3; have HW3 := Aside0.mk h3.st; have HB3 := Aside0.mk (HB2.out.trans h3.be); have HS3 := Aside0.mk (Nat.le_trans HS2.out h3.size); clear h3 x0 x1 x2 x3 x4)
        go_roundw
        case rel => exact ⟨j + 1, _, by simp [hw64], by omega, by rw [← take_step hj', ← LJ.out]; exact HW3.out, HB3.out, HS3.out⟩
        case measure => exact round_measure _ _ hj' hw64
      · have b1 : decide (j < l0.length) = false := decide_eq_false (by omega)
        have hjl : l0.take j = l0 := List.take_of_length_le (by omega)
        rw [hjl] at HW2
        obtain ⟨L, hL⟩ : ∃ L, L = l0.flatMap stepB := ⟨_, rfl⟩
        rw [← hL] at HW2 HL HLB
        have HLd := Aside0.mk hL
        clear hL hjl
        go_wp2_with (first
          | (go_at_call 12; (with_reducible refine (bytes_calls HW2.out HL.out.2.1).mono ?_); rintro e w7 ⟨v7, rfl, hr7, hb7⟩; have HB7 := Aside0.mk (HB2.out.trans (hb7.mono HS2.out)); have HS7 := Aside0.mk (Nat.le_trans HS2.out hb7.size); obtain ⟨A7, c7, e7, hc7, hC7⟩ := own_C hr7 HL.out.2.2; subst e7; have HC7 := Aside0.mk hC7; clear hr7 hb7 hC7)
          | (go_at_call 22; refine (newr_calls HC7.out HL.out.1 HLB.out).mono ?_; rintro x w8 ⟨B8, A8, c8, rfl, hr8, hb8⟩; have H8 := Aside0.mk hr8; have HB8 := Aside0.mk (HB7.out.trans (hb8.mono HS7.out)); clear hr8 hb8))
        go_loopw [6] (fun s6 wq => ∃ (i p : Nat), s6 = .int .i64 (i : Int) ∧ i ≤ l0.length ∧ L.drop p = (l0.drop i).flatMap stepB ∧ Rdr w7.heap.size 69 wq B8 A8 c8 L p 0 ∧ Below wb.heap.size wb wq) (fun s6 _ => l0.length - (intOf s6).toNat)
        case atStart => exact ⟨0, 0, rfl, by omega, by rw [HLd.out]; rfl, H8.out, HB8.out⟩
        case round =>
          obtain ⟨i, p, rfl, hi, hd, hr, hbq⟩ := hrel
          have HD := Aside0.mk hd
          have HQ := Aside0.mk hr
          have HBq := Aside0.mk hbq
          have HSq := Aside0.mk hbq.size
          clear hd hr hbq H8 HB8 HC7 HB7 HW2 HB2
          by_cases h2 : (i : Int) < (l0.length : Int)
          · have b2 : decide (i < l0.length) = true := decide_eq_true (by omega)
            have hi' : i < l0.length := by omega
            obtain ⟨ad, e0, x0, x1, x2, x3, x4⟩ := at_T34 (Kd.C_below HR.out (HBb.out.trans (HBq.out.mono HBb.out.size))) (i : Int) (Int.natCast_nonneg i) h2
            cases e0
            simp only [Int.toNat_natCast] at x0 x1 x2 x3 x4
            have p0 : (0 ≤ (i : Int)) = True := eq_true (Int.natCast_nonneg i)
            have q0 : ((i : Int) < (l0.length : Int)) = True := eq_true h2
            have hO := okStep_iff.1 (AK.out _ (rd_mem hi'))
            have G := Aside0.mk (round_bounds l0 htot.out i hi')
            have hw64 := G.out.2.2
            have hg := G.out.1
            have hD2 := HD.out
            rw [drop_step hi'] at hD2
            obtain ⟨x, hx⟩ : ∃ x, rd_T34 l0 (i : Int) = x := ⟨_, rfl⟩
            rw [hx] at x0 x1 x2 x3 x4 hO hD2 hg
            obtain ⟨kk, nn, tt, uu, bb⟩ := x
            simp only at x0 x1 x2 x3 x4 hO hg
            have O := Aside0.mk hO
            have G2 := Aside0.mk hg
            clear hO hg hx
            have D2 := Aside0.mk hD2
            clear hD2 HD
            by_cases k0 : kk = 0
            · subst k0
              have D3 : Aside0 (L.drop p = (numB 8 (max nn 0)) ++ (l0.drop (i + 1)).flatMap stepB) := ⟨by rw [D2.out]; simp [stepB, partB]⟩
              have M3 : Aside0 (max nn 0 ≤ 9223372036854775807) := ⟨by have := O.out.2.1; omega⟩
              have hrn := rNum_ok (back_num D3.out (Int.le_max_right _ _) M3.out M3.out)
              obtain ⟨mm, hmm⟩ : ∃ mm, mm = max nn 0 := ⟨_, rfl⟩
              rw [← hmm] at hrn
              have hmx : (if nn < 0 then (0 : Int) else nn) = mm := by rw [hmm]; split <;> omega
              have hlen0 : ([] ++ numB 8 mm).length = (numB 8 mm).length := rfl
              clear D2
              go_wp2
              refine letter (fun W => W.heap[wr.heap.size]? = some (.cells #[.int .i64 0, .int .i64 nn, .string tt, .int .u64 uu, .bool bb] 34 (0, 0)) ∧ Below wr.heap.size wr W) ⟨heap_alloc_new _ _, below_alloc (Below.refl _ _) _⟩ ?_
              rintro wx ⟨hbx, hbW⟩
              have HX := Aside0.mk hbx
              have H9 := Aside0.mk (HQ.out.below hbW)
              have HB9 := Aside0.mk (HBq.out.trans (hbW.mono HSq.out))
              have HXd := Aside0.mk (blk_below hbx (Drawn0.below (w := wx) (w' := wx.drew) ⟨⟨1, rfl⟩⟩))
              have Hd := Aside0.mk ((H9.out.below (Drawn0.below (w := wx) (w' := wx.drew) ⟨⟨1, rfl⟩⟩)))
              have HBd := Aside0.mk (HB9.out.trans ((Drawn0.below (w := wx) (w' := wx.drew) ⟨⟨1, rfl⟩⟩).mono (Nat.le_trans HSq.out hbW.size)))
              clear hbx hbW x0 x1 x2 x3 x4
              go_region_held3 (fun W => W.cell? ⟨wr.heap.size, 1, none⟩ = some (.int .i64 nn)) (first | exact (fiveP HX10.out).2.1 | exact (fiveP HXd.out).2.1)
                (first | (go_at_call 23; have hN := num_calls 9223372036854775807 (by decide) (by decide) Hd.out; rw [hrn] at hN; refine hN.mono ?_; rintro x w10 ⟨rfl, h10⟩; have HX10 := Aside0.mk (h10.other Hd.out (by decide) HXd.out); have H10 := Aside0.mk h10.st; have HB10 := Aside0.mk (HBd.out.trans (h10.be.mono HS7.out)); clear h10 hN))
              all_goals
                go_wp2_with (go_at_call 24; refine (err_calls H10.out).mono ?_; rintro x w11 ⟨rfl, e11⟩; subst e11)
                go_roundw
                case rel => exact ⟨i + 1, _, by simp [hw64], by omega, drop_past D3.out (by simp [wordB_len, bytesOf_length, hmm]), H10.out, HB10.out⟩
                case measure => exact round_measure _ _ hi' hw64
            by_cases k1 : kk = 1
            · subst k1
              have D3 : Aside0 (L.drop p = (numB 8 tt.size ++ bytesOf tt) ++ (l0.drop (i + 1)).flatMap stepB) := ⟨by rw [D2.out]; simp [stepB, partB]⟩
              have hrn := back_text (M := 9223372036854775807) (rest := (l0.drop (i + 1)).flatMap stepB) (by rw [D3.out, List.append_assoc]) G2.out (by have := G2.out; omega)
              clear D2
              go_wp2
              refine letter (fun W => W.heap[wr.heap.size]? = some (.cells #[.int .i64 1, .int .i64 nn, .string tt, .int .u64 uu, .bool bb] 34 (0, 0)) ∧ Below wr.heap.size wr W) ⟨heap_alloc_new _ _, below_alloc (Below.refl _ _) _⟩ ?_
              rintro wx ⟨hbx, hbW⟩
              have HX := Aside0.mk hbx
              have H9 := Aside0.mk (HQ.out.below hbW)
              have HB9 := Aside0.mk (HBq.out.trans (hbW.mono HSq.out))
              have HXd := Aside0.mk (blk_below hbx (Drawn0.below (w := wx) (w' := wx.drew) ⟨⟨1, rfl⟩⟩))
              have Hd := Aside0.mk ((H9.out.below (Drawn0.below (w := wx) (w' := wx.drew) ⟨⟨1, rfl⟩⟩)))
              have HBd := Aside0.mk (HB9.out.trans ((Drawn0.below (w := wx) (w' := wx.drew) ⟨⟨1, rfl⟩⟩).mono (Nat.le_trans HSq.out hbW.size)))
              clear hbx hbW x0 x1 x2 x3 x4
              go_region_held3 (fun W => W.cell? ⟨wr.heap.size, 2, none⟩ = some (.string tt)) (first | exact (fiveP HX10.out).2.2.1 | exact (fiveP HXd.out).2.2.1)
                (first | (go_at_call 30; have hN := text_calls 9223372036854775807 (by decide) (by decide) Hd.out; rw [hrn] at hN; refine hN.mono ?_; rintro x w10 ⟨rfl, h10⟩; have HX10 := Aside0.mk (h10.other Hd.out (by decide) HXd.out); have H10 := Aside0.mk h10.st; have HB10 := Aside0.mk (HBd.out.trans (h10.be.mono HS7.out)); clear h10 hN))
              go_wp2_with (go_at_call 24; refine (err_calls H10.out).mono ?_; rintro x w11 ⟨rfl, e11⟩; subst e11)
              go_roundw
              case rel => exact ⟨i + 1, _, by simp [hw64], by omega, drop_past D3.out (by simp [wordB_len, bytesOf_length]), H10.out, HB10.out⟩
              case measure => exact round_measure _ _ hi' hw64
            by_cases k2 : kk = 2
            · subst k2
              have D3 : Aside0 (L.drop p = (wordB uu 8) ++ (l0.drop (i + 1)).flatMap stepB) := ⟨by rw [D2.out]; simp [stepB, partB]⟩
              have hrn := back_word D3.out O.out.2.2.1 O.out.2.2.2
              clear D2
              go_wp2
              refine letter (fun W => W.heap[wr.heap.size]? = some (.cells #[.int .i64 2, .int .i64 nn, .string tt, .int .u64 uu, .bool bb] 34 (0, 0)) ∧ Below wr.heap.size wr W) ⟨heap_alloc_new _ _, below_alloc (Below.refl _ _) _⟩ ?_
              rintro wx ⟨hbx, hbW⟩
              have HX := Aside0.mk hbx
              have H9 := Aside0.mk (HQ.out.below hbW)
              have HB9 := Aside0.mk (HBq.out.trans (hbW.mono HSq.out))
              have HXd := Aside0.mk (blk_below hbx (Drawn0.below (w := wx) (w' := wx.drew) ⟨⟨1, rfl⟩⟩))
              have Hd := Aside0.mk ((H9.out.below (Drawn0.below (w := wx) (w' := wx.drew) ⟨⟨1, rfl⟩⟩)))
              have HBd := Aside0.mk (HB9.out.trans ((Drawn0.below (w := wx) (w' := wx.drew) ⟨⟨1, rfl⟩⟩).mono (Nat.le_trans HSq.out hbW.size)))
              clear hbx hbW x0 x1 x2 x3 x4
              go_region_held3 (fun W => W.cell? ⟨wr.heap.size, 3, none⟩ = some (.int .u64 uu)) (first | exact (fiveP HX10.out).2.2.2.1 | exact (fiveP HXd.out).2.2.2.1)
                (first | (go_at_call 31; have hN := word_calls Hd.out; rw [hrn] at hN; refine hN.mono ?_; rintro x w10 ⟨rfl, h10⟩; have HX10 := Aside0.mk (h10.other Hd.out (by decide) HXd.out); have H10 := Aside0.mk h10.st; have HB10 := Aside0.mk (HBd.out.trans (h10.be.mono HS7.out)); clear h10 hN))
              go_wp2_with (go_at_call 24; refine (err_calls H10.out).mono ?_; rintro x w11 ⟨rfl, e11⟩; subst e11)
              go_roundw
              case rel => exact ⟨i + 1, _, by simp [hw64], by omega, drop_past D3.out (by simp [wordB_len, bytesOf_length]), H10.out, HB10.out⟩
              case measure => exact round_measure _ _ hi' hw64
            by_cases k3 : kk = 3
            · subst k3
              have D3 : Aside0 (L.drop p = ([if bb = true then 1 else 0]) ++ (l0.drop (i + 1)).flatMap stepB) := ⟨by rw [D2.out]; simp [stepB, partB]⟩
              have hrn := back_flag D3.out
              clear D2
              go_wp2
              refine letter (fun W => W.heap[wr.heap.size]? = some (.cells #[.int .i64 3, .int .i64 nn, .string tt, .int .u64 uu, .bool bb] 34 (0, 0)) ∧ Below wr.heap.size wr W) ⟨heap_alloc_new _ _, below_alloc (Below.refl _ _) _⟩ ?_
              rintro wx ⟨hbx, hbW⟩
              have HX := Aside0.mk hbx
              have H9 := Aside0.mk (HQ.out.below hbW)
              have HB9 := Aside0.mk (HBq.out.trans (hbW.mono HSq.out))
              have HXd := Aside0.mk (blk_below hbx (Drawn0.below (w := wx) (w' := wx.drew) ⟨⟨1, rfl⟩⟩))
              have Hd := Aside0.mk ((H9.out.below (Drawn0.below (w := wx) (w' := wx.drew) ⟨⟨1, rfl⟩⟩)))
              have HBd := Aside0.mk (HB9.out.trans ((Drawn0.below (w := wx) (w' := wx.drew) ⟨⟨1, rfl⟩⟩).mono (Nat.le_trans HSq.out hbW.size)))
              clear hbx hbW x0 x1 x2 x3 x4
              go_region_held3 (fun W => W.cell? ⟨wr.heap.size, 4, none⟩ = some (.bool bb)) (first | exact (fiveP HX10.out).2.2.2.2 | exact (fiveP HXd.out).2.2.2.2)
                (first | (go_at_call 32; have hN := flag_calls Hd.out; rw [hrn] at hN; refine hN.mono ?_; rintro x w10 ⟨rfl, h10⟩; have HX10 := Aside0.mk (h10.other Hd.out (by decide) HXd.out); have H10 := Aside0.mk h10.st; have HB10 := Aside0.mk (HBd.out.trans (h10.be.mono HS7.out)); clear h10 hN))
              go_wp2_with (go_at_call 24; refine (err_calls H10.out).mono ?_; rintro x w11 ⟨rfl, e11⟩; subst e11)
              go_roundw
              case rel => exact ⟨i + 1, _, by simp [hw64], by omega, drop_past D3.out (by simp [wordB_len, bytesOf_length]), H10.out, HB10.out⟩
              case measure => exact round_measure _ _ hi' hw64
            have D3 : Aside0 (L.drop p = (l0.drop (i + 1)).flatMap stepB) := ⟨by rw [D2.out]; simp [stepB, partB, k0, k1, k2, k3]⟩
            have e0 : (kk == 0) = false := beq_eq_false_iff_ne.mpr k0
            have f0 : (kk = 0) = False := eq_false k0
            have e1 : (kk == 1) = false := beq_eq_false_iff_ne.mpr k1
            have f1 : (kk = 1) = False := eq_false k1
            have e2 : (kk == 2) = false := beq_eq_false_iff_ne.mpr k2
            have f2 : (kk = 2) = False := eq_false k2
            have e3 : (kk == 3) = false := beq_eq_false_iff_ne.mpr k3
            have f3 : (kk = 3) = False := eq_false k3
            have H9 := Aside0.mk (HQ.out.below (below_alloc (Below.refl wr.heap.size wr) (.cells #[.int .i64 kk, .int .i64 nn, .string tt, .int .u64 uu, .bool bb] 34)))
            have HB9 := Aside0.mk (HBq.out.trans ((below_alloc (Below.refl wr.heap.size wr) (.cells #[.int .i64 kk, .int .i64 nn, .string tt, .int .u64 uu, .bool bb] 34)).mono HSq.out))
            clear D2 k0 k1 k2 k3
            go_wp2_with (go_at_call 24; refine (err_calls H9.out).mono ?_; rintro x w11 ⟨rfl, e11⟩; subst e11)
            go_roundw
            case rel => exact ⟨i + 1, _, by simp [hw64], by omega, D3.out, H9.out, HB9.out⟩
            case measure => exact round_measure _ _ hi' hw64
          · have b2 : decide (i < l0.length) = false := decide_eq_false (by omega)
            have hdn : L.drop p = [] := by rw [HD.out, List.drop_of_length_le (by omega)]; rfl
            have hpl := HQ.out.pl
            obtain rfl : p = L.length := by
              have := congrArg List.length hdn
              simp only [List.length_drop, List.length_nil] at this
              omega
            have hrd : rDone L L.length 0 = 0 := if_neg (fun h => absurd h.2 (Nat.lt_irrefl _))
            have hsub : (L.length : Int) - (L.length : Int) = 0 := by omega
            clear HD hdn hpl
            go_wp2_with (first
              | (go_at_call 33; have hN := done_calls HQ.out; rw [hrd] at hN; refine hN.mono ?_; rintro x w12 ⟨rfl, hd12⟩; have H12 := Aside0.mk (HQ.out.below hd12.below); have HB12 := Aside0.mk (HBq.out.trans (hd12.below.mono HSq.out)); have HS12 := Aside0.mk (Nat.le_trans HSq.out hd12.below.size); clear hd12 hN)
              | (go_at_call 34; have hN := left_calls H12.out; rw [hsub] at hN; refine hN.mono ?_; rintro x w13 ⟨rfl, hd13⟩; have HB13 := Aside0.mk (HB12.out.trans (hd13.below.mono HS12.out)); clear hd13 hN))
            go_ret
            exact ⟨rfl, HBb.out.trans (HB13.out.mono HBb.out.size)⟩
end Go.Proofs.Ytcfiobhebakhlab.PAll
