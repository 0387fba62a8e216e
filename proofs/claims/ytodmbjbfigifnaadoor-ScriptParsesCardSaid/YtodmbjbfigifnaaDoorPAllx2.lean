-- By wip/pr.py (a program of this session, over the kit's print): lines written by program. Not trusted: Lean checks them.
import Derived.Test.YtodmbjbfigifnaaDoorPAllx0
namespace Go.Proofs.YtodmbjbfigifnaaDoor.PAll
open Go.RowKit Go.Proofs.YtodmbjbfigifnaaDoorW.PrintWords Go.Proofs.YtodmbjbfigifnaaDoorW.PrintLast Go.Proofs.YtodmbjbfigifnaaDoorW.PrintMore
attribute [local go_sem] max2_int min2_int max_two min_two max_three min_three max_four min_four   -- for this text's walks alone
set_option linter.unusedVariables false
set_option linter.unusedSimpArgs false

-- NOT PRINTED: function 15 (script_reader_word)

-- NOT PRINTED: function 8 (script_Parse)

/-! ### tidelineref21_word: function 17 -/
def tidelineref21_word.f (a0 : Int) : Option (ByteArray) := if a0 = 1 then (some (⟨#[112, 117, 116]⟩ : ByteArray)) else (if a0 = 2 then (some (⟨#[100, 101, 108]⟩ : ByteArray)) else (if a0 = 3 then (some (⟨#[103, 101, 116]⟩ : ByteArray)) else (if a0 = 4 then (some (⟨#[115, 99, 97, 110]⟩ : ByteArray)) else (if a0 = 5 then (some (⟨#[102, 111, 108, 100]⟩ : ByteArray)) else (if a0 = 6 then (some (⟨#[111, 112, 101, 110]⟩ : ByteArray)) else (if a0 = 7 then (some (⟨#[103, 111]⟩ : ByteArray)) else (if a0 = 8 then (some (⟨#[100, 114, 111, 112]⟩ : ByteArray)) else (if a0 = 9 then (some (⟨#[116, 119, 105, 99, 101]⟩ : ByteArray)) else (if a0 = 10 then (some (⟨#[114, 97, 119]⟩ : ByteArray)) else (if a0 = 11 then (some (⟨#[116, 105, 99, 107]⟩ : ByteArray)) else (if a0 = 12 then (some (⟨#[99, 114, 97, 115, 104]⟩ : ByteArray)) else (if a0 = 13 then (some (⟨#[115, 116, 97, 114, 116]⟩ : ByteArray)) else (if a0 = 14 then (some (⟨#[109, 97, 112]⟩ : ByteArray)) else (if a0 = 15 then (some (⟨#[116, 97, 108, 107, 115]⟩ : ByteArray)) else (if a0 = 16 then (some (⟨#[99, 111, 117, 110, 116]⟩ : ByteArray)) else (if a0 = 17 then (some (⟨#[98, 97, 103]⟩ : ByteArray)) else (some (⟨#[]⟩ : ByteArray))))))))))))))))))
set_option maxHeartbeats 8000000 in
set_option maxRecDepth 100000 in
theorem tidelineref21_word.calls (a0 : Int) (r : ByteArray) (w : World) (h : tidelineref21_word.f a0 = some r) :
    Calls Tryd.prog 17 #[.int .i64 a0] w fun e w' => e = .returned (.string r) ∧ Drawn0 w w' := by
  have H : (if a0 = 1 then (some (⟨#[112, 117, 116]⟩ : ByteArray)) else (if a0 = 2 then (some (⟨#[100, 101, 108]⟩ : ByteArray)) else (if a0 = 3 then (some (⟨#[103, 101, 116]⟩ : ByteArray)) else (if a0 = 4 then (some (⟨#[115, 99, 97, 110]⟩ : ByteArray)) else (if a0 = 5 then (some (⟨#[102, 111, 108, 100]⟩ : ByteArray)) else (if a0 = 6 then (some (⟨#[111, 112, 101, 110]⟩ : ByteArray)) else (if a0 = 7 then (some (⟨#[103, 111]⟩ : ByteArray)) else (if a0 = 8 then (some (⟨#[100, 114, 111, 112]⟩ : ByteArray)) else (if a0 = 9 then (some (⟨#[116, 119, 105, 99, 101]⟩ : ByteArray)) else (if a0 = 10 then (some (⟨#[114, 97, 119]⟩ : ByteArray)) else (if a0 = 11 then (some (⟨#[116, 105, 99, 107]⟩ : ByteArray)) else (if a0 = 12 then (some (⟨#[99, 114, 97, 115, 104]⟩ : ByteArray)) else (if a0 = 13 then (some (⟨#[115, 116, 97, 114, 116]⟩ : ByteArray)) else (if a0 = 14 then (some (⟨#[109, 97, 112]⟩ : ByteArray)) else (if a0 = 15 then (some (⟨#[116, 97, 108, 107, 115]⟩ : ByteArray)) else (if a0 = 16 then (some (⟨#[99, 111, 117, 110, 116]⟩ : ByteArray)) else (if a0 = 17 then (some (⟨#[98, 97, 103]⟩ : ByteArray)) else (some (⟨#[]⟩ : ByteArray))))))))))))))))))) = some r := h
  clear h
  by_cases c2 : a0 = 1
  · rw [if_pos c2] at H
    have c2b0 : (a0 == 1) = true := beq_iff_eq.mpr c2
    have c2b1 : (a0 != 1) = false := bne_eq_false_iff_eq.mpr c2
    clear c2
    obtain rfl := Option.some.inj H
    go_enter Tryd.func17, Tryd.ntmps17
    go_wp2
    go_ret
    exact ⟨by first | rfl | (simp; done) | (simp [*]; done) | (simp [*, Go.Proofs.YtodmbjbfigifnaaDoor.Str.bne_nil]; done), by repeat (first | exact Drawn0.refl _ | apply Drawn0.step)⟩
  · rw [if_neg c2] at H
    have c2b0 : (a0 == 1) = false := beq_eq_false_iff_ne.mpr c2
    have c2b1 : (a0 != 1) = true := bne_iff_ne.mpr c2
    by_cases c3 : a0 = 2
    · rw [if_pos c3] at H
      have c3b0 : (a0 == 2) = true := beq_iff_eq.mpr c3
      have c3b1 : (a0 != 2) = false := bne_eq_false_iff_eq.mpr c3
      clear c3
      obtain rfl := Option.some.inj H
      go_enter Tryd.func17, Tryd.ntmps17
      go_wp2
      go_ret
      exact ⟨by first | rfl | (simp; done) | (simp [*]; done) | (simp [*, Go.Proofs.YtodmbjbfigifnaaDoor.Str.bne_nil]; done), by repeat (first | exact Drawn0.refl _ | apply Drawn0.step)⟩
    · rw [if_neg c3] at H
      have c3b0 : (a0 == 2) = false := beq_eq_false_iff_ne.mpr c3
      have c3b1 : (a0 != 2) = true := bne_iff_ne.mpr c3
      by_cases c4 : a0 = 3
      · rw [if_pos c4] at H
        have c4b0 : (a0 == 3) = true := beq_iff_eq.mpr c4
        have c4b1 : (a0 != 3) = false := bne_eq_false_iff_eq.mpr c4
        clear c4
        obtain rfl := Option.some.inj H
        go_enter Tryd.func17, Tryd.ntmps17
        go_wp2
        go_ret
        exact ⟨by first | rfl | (simp; done) | (simp [*]; done) | (simp [*, Go.Proofs.YtodmbjbfigifnaaDoor.Str.bne_nil]; done), by repeat (first | exact Drawn0.refl _ | apply Drawn0.step)⟩
      · rw [if_neg c4] at H
        have c4b0 : (a0 == 3) = false := beq_eq_false_iff_ne.mpr c4
        have c4b1 : (a0 != 3) = true := bne_iff_ne.mpr c4
        by_cases c5 : a0 = 4
        · rw [if_pos c5] at H
          have c5b0 : (a0 == 4) = true := beq_iff_eq.mpr c5
          have c5b1 : (a0 != 4) = false := bne_eq_false_iff_eq.mpr c5
          clear c5
          obtain rfl := Option.some.inj H
          go_enter Tryd.func17, Tryd.ntmps17
          go_wp2
          go_ret
          exact ⟨by first | rfl | (simp; done) | (simp [*]; done) | (simp [*, Go.Proofs.YtodmbjbfigifnaaDoor.Str.bne_nil]; done), by repeat (first | exact Drawn0.refl _ | apply Drawn0.step)⟩
        · rw [if_neg c5] at H
          have c5b0 : (a0 == 4) = false := beq_eq_false_iff_ne.mpr c5
          have c5b1 : (a0 != 4) = true := bne_iff_ne.mpr c5
          by_cases c6 : a0 = 5
          · rw [if_pos c6] at H
            have c6b0 : (a0 == 5) = true := beq_iff_eq.mpr c6
            have c6b1 : (a0 != 5) = false := bne_eq_false_iff_eq.mpr c6
            clear c6
            obtain rfl := Option.some.inj H
            go_enter Tryd.func17, Tryd.ntmps17
            go_wp2
            go_ret
            exact ⟨by first | rfl | (simp; done) | (simp [*]; done) | (simp [*, Go.Proofs.YtodmbjbfigifnaaDoor.Str.bne_nil]; done), by repeat (first | exact Drawn0.refl _ | apply Drawn0.step)⟩
          · rw [if_neg c6] at H
            have c6b0 : (a0 == 5) = false := beq_eq_false_iff_ne.mpr c6
            have c6b1 : (a0 != 5) = true := bne_iff_ne.mpr c6
            by_cases c7 : a0 = 6
            · rw [if_pos c7] at H
              have c7b0 : (a0 == 6) = true := beq_iff_eq.mpr c7
              have c7b1 : (a0 != 6) = false := bne_eq_false_iff_eq.mpr c7
              clear c7
              obtain rfl := Option.some.inj H
              go_enter Tryd.func17, Tryd.ntmps17
              go_wp2
              go_ret
              exact ⟨by first | rfl | (simp; done) | (simp [*]; done) | (simp [*, Go.Proofs.YtodmbjbfigifnaaDoor.Str.bne_nil]; done), by repeat (first | exact Drawn0.refl _ | apply Drawn0.step)⟩
            · rw [if_neg c7] at H
              have c7b0 : (a0 == 6) = false := beq_eq_false_iff_ne.mpr c7
              have c7b1 : (a0 != 6) = true := bne_iff_ne.mpr c7
              by_cases c8 : a0 = 7
              · rw [if_pos c8] at H
                have c8b0 : (a0 == 7) = true := beq_iff_eq.mpr c8
                have c8b1 : (a0 != 7) = false := bne_eq_false_iff_eq.mpr c8
                clear c8
                obtain rfl := Option.some.inj H
                go_enter Tryd.func17, Tryd.ntmps17
                go_wp2
                go_ret
                exact ⟨by first | rfl | (simp; done) | (simp [*]; done) | (simp [*, Go.Proofs.YtodmbjbfigifnaaDoor.Str.bne_nil]; done), by repeat (first | exact Drawn0.refl _ | apply Drawn0.step)⟩
              · rw [if_neg c8] at H
                have c8b0 : (a0 == 7) = false := beq_eq_false_iff_ne.mpr c8
                have c8b1 : (a0 != 7) = true := bne_iff_ne.mpr c8
                by_cases c9 : a0 = 8
                · rw [if_pos c9] at H
                  have c9b0 : (a0 == 8) = true := beq_iff_eq.mpr c9
                  have c9b1 : (a0 != 8) = false := bne_eq_false_iff_eq.mpr c9
                  clear c9
                  obtain rfl := Option.some.inj H
                  go_enter Tryd.func17, Tryd.ntmps17
                  go_wp2
                  go_ret
                  exact ⟨by first | rfl | (simp; done) | (simp [*]; done) | (simp [*, Go.Proofs.YtodmbjbfigifnaaDoor.Str.bne_nil]; done), by repeat (first | exact Drawn0.refl _ | apply Drawn0.step)⟩
                · rw [if_neg c9] at H
                  have c9b0 : (a0 == 8) = false := beq_eq_false_iff_ne.mpr c9
                  have c9b1 : (a0 != 8) = true := bne_iff_ne.mpr c9
                  by_cases c10 : a0 = 9
                  · rw [if_pos c10] at H
                    have c10b0 : (a0 == 9) = true := beq_iff_eq.mpr c10
                    have c10b1 : (a0 != 9) = false := bne_eq_false_iff_eq.mpr c10
                    clear c10
                    obtain rfl := Option.some.inj H
                    go_enter Tryd.func17, Tryd.ntmps17
                    go_wp2
                    go_ret
                    exact ⟨by first | rfl | (simp; done) | (simp [*]; done) | (simp [*, Go.Proofs.YtodmbjbfigifnaaDoor.Str.bne_nil]; done), by repeat (first | exact Drawn0.refl _ | apply Drawn0.step)⟩
                  · rw [if_neg c10] at H
                    have c10b0 : (a0 == 9) = false := beq_eq_false_iff_ne.mpr c10
                    have c10b1 : (a0 != 9) = true := bne_iff_ne.mpr c10
                    by_cases c11 : a0 = 10
                    · rw [if_pos c11] at H
                      have c11b0 : (a0 == 10) = true := beq_iff_eq.mpr c11
                      have c11b1 : (a0 != 10) = false := bne_eq_false_iff_eq.mpr c11
                      clear c11
                      obtain rfl := Option.some.inj H
                      go_enter Tryd.func17, Tryd.ntmps17
                      go_wp2
                      go_ret
                      exact ⟨by first | rfl | (simp; done) | (simp [*]; done) | (simp [*, Go.Proofs.YtodmbjbfigifnaaDoor.Str.bne_nil]; done), by repeat (first | exact Drawn0.refl _ | apply Drawn0.step)⟩
                    · rw [if_neg c11] at H
                      have c11b0 : (a0 == 10) = false := beq_eq_false_iff_ne.mpr c11
                      have c11b1 : (a0 != 10) = true := bne_iff_ne.mpr c11
                      by_cases c12 : a0 = 11
                      · rw [if_pos c12] at H
                        have c12b0 : (a0 == 11) = true := beq_iff_eq.mpr c12
                        have c12b1 : (a0 != 11) = false := bne_eq_false_iff_eq.mpr c12
                        clear c12
                        obtain rfl := Option.some.inj H
                        go_enter Tryd.func17, Tryd.ntmps17
                        go_wp2
                        go_ret
                        exact ⟨by first | rfl | (simp; done) | (simp [*]; done) | (simp [*, Go.Proofs.YtodmbjbfigifnaaDoor.Str.bne_nil]; done), by repeat (first | exact Drawn0.refl _ | apply Drawn0.step)⟩
                      · rw [if_neg c12] at H
                        have c12b0 : (a0 == 11) = false := beq_eq_false_iff_ne.mpr c12
                        have c12b1 : (a0 != 11) = true := bne_iff_ne.mpr c12
                        by_cases c13 : a0 = 12
                        · rw [if_pos c13] at H
                          have c13b0 : (a0 == 12) = true := beq_iff_eq.mpr c13
                          have c13b1 : (a0 != 12) = false := bne_eq_false_iff_eq.mpr c13
                          clear c13
                          obtain rfl := Option.some.inj H
                          go_enter Tryd.func17, Tryd.ntmps17
                          go_wp2
                          go_ret
                          exact ⟨by first | rfl | (simp; done) | (simp [*]; done) | (simp [*, Go.Proofs.YtodmbjbfigifnaaDoor.Str.bne_nil]; done), by repeat (first | exact Drawn0.refl _ | apply Drawn0.step)⟩
                        · rw [if_neg c13] at H
                          have c13b0 : (a0 == 12) = false := beq_eq_false_iff_ne.mpr c13
                          have c13b1 : (a0 != 12) = true := bne_iff_ne.mpr c13
                          by_cases c14 : a0 = 13
                          · rw [if_pos c14] at H
                            have c14b0 : (a0 == 13) = true := beq_iff_eq.mpr c14
                            have c14b1 : (a0 != 13) = false := bne_eq_false_iff_eq.mpr c14
                            clear c14
                            obtain rfl := Option.some.inj H
                            go_enter Tryd.func17, Tryd.ntmps17
                            go_wp2
                            go_ret
                            exact ⟨by first | rfl | (simp; done) | (simp [*]; done) | (simp [*, Go.Proofs.YtodmbjbfigifnaaDoor.Str.bne_nil]; done), by repeat (first | exact Drawn0.refl _ | apply Drawn0.step)⟩
                          · rw [if_neg c14] at H
                            have c14b0 : (a0 == 13) = false := beq_eq_false_iff_ne.mpr c14
                            have c14b1 : (a0 != 13) = true := bne_iff_ne.mpr c14
                            by_cases c15 : a0 = 14
                            · rw [if_pos c15] at H
                              have c15b0 : (a0 == 14) = true := beq_iff_eq.mpr c15
                              have c15b1 : (a0 != 14) = false := bne_eq_false_iff_eq.mpr c15
                              clear c15
                              obtain rfl := Option.some.inj H
                              go_enter Tryd.func17, Tryd.ntmps17
                              go_wp2
                              go_ret
                              exact ⟨by first | rfl | (simp; done) | (simp [*]; done) | (simp [*, Go.Proofs.YtodmbjbfigifnaaDoor.Str.bne_nil]; done), by repeat (first | exact Drawn0.refl _ | apply Drawn0.step)⟩
                            · rw [if_neg c15] at H
                              have c15b0 : (a0 == 14) = false := beq_eq_false_iff_ne.mpr c15
                              have c15b1 : (a0 != 14) = true := bne_iff_ne.mpr c15
                              by_cases c16 : a0 = 15
                              · rw [if_pos c16] at H
                                have c16b0 : (a0 == 15) = true := beq_iff_eq.mpr c16
                                have c16b1 : (a0 != 15) = false := bne_eq_false_iff_eq.mpr c16
                                clear c16
                                obtain rfl := Option.some.inj H
                                go_enter Tryd.func17, Tryd.ntmps17
                                go_wp2
                                go_ret
                                exact ⟨by first | rfl | (simp; done) | (simp [*]; done) | (simp [*, Go.Proofs.YtodmbjbfigifnaaDoor.Str.bne_nil]; done), by repeat (first | exact Drawn0.refl _ | apply Drawn0.step)⟩
                              · rw [if_neg c16] at H
                                have c16b0 : (a0 == 15) = false := beq_eq_false_iff_ne.mpr c16
                                have c16b1 : (a0 != 15) = true := bne_iff_ne.mpr c16
                                by_cases c17 : a0 = 16
                                · rw [if_pos c17] at H
                                  have c17b0 : (a0 == 16) = true := beq_iff_eq.mpr c17
                                  have c17b1 : (a0 != 16) = false := bne_eq_false_iff_eq.mpr c17
                                  clear c17
                                  obtain rfl := Option.some.inj H
                                  go_enter Tryd.func17, Tryd.ntmps17
                                  go_wp2
                                  go_ret
                                  exact ⟨by first | rfl | (simp; done) | (simp [*]; done) | (simp [*, Go.Proofs.YtodmbjbfigifnaaDoor.Str.bne_nil]; done), by repeat (first | exact Drawn0.refl _ | apply Drawn0.step)⟩
                                · rw [if_neg c17] at H
                                  have c17b0 : (a0 == 16) = false := beq_eq_false_iff_ne.mpr c17
                                  have c17b1 : (a0 != 16) = true := bne_iff_ne.mpr c17
                                  by_cases c18 : a0 = 17
                                  · rw [if_pos c18] at H
                                    have c18b0 : (a0 == 17) = true := beq_iff_eq.mpr c18
                                    have c18b1 : (a0 != 17) = false := bne_eq_false_iff_eq.mpr c18
                                    clear c18
                                    obtain rfl := Option.some.inj H
                                    go_enter Tryd.func17, Tryd.ntmps17
                                    go_wp2
                                    go_ret
                                    exact ⟨by first | rfl | (simp; done) | (simp [*]; done) | (simp [*, Go.Proofs.YtodmbjbfigifnaaDoor.Str.bne_nil]; done), by repeat (first | exact Drawn0.refl _ | apply Drawn0.step)⟩
                                  · rw [if_neg c18] at H
                                    have c18b0 : (a0 == 17) = false := beq_eq_false_iff_ne.mpr c18
                                    have c18b1 : (a0 != 17) = true := bne_iff_ne.mpr c18
                                    obtain rfl := Option.some.inj H
                                    go_enter Tryd.func17, Tryd.ntmps17
                                    go_wp2
                                    go_ret
                                    exact ⟨by first | rfl | (simp; done) | (simp [*]; done) | (simp [*, Go.Proofs.YtodmbjbfigifnaaDoor.Str.bne_nil]; done), by repeat (first | exact Drawn0.refl _ | apply Drawn0.step)⟩

/-! ### tidelineref21_shape: function 18 -/
mutual
def tidelineref21_shape.j0 : Nat → Int → Bool → Option (ByteArray)
  | 0, _, _ => none
  | k + 1, x3, x6 => if x6 = true then (some (⟨#[110, 107]⟩ : ByteArray)) else (if x3 = 4 then (tidelineref21_shape.j1 k x3 (x3 == 4)) else (tidelineref21_shape.j1 k x3 (x3 == 5)))
def tidelineref21_shape.j1 : Nat → Int → Bool → Option (ByteArray)
  | 0, _, _ => none
  | k + 1, x3, x9 => if x9 = true then (some (⟨#[110, 114]⟩ : ByteArray)) else (if x3 = 6 then (some (⟨#[110, 112]⟩ : ByteArray)) else (if x3 = 7 then (tidelineref21_shape.j2 k x3 (x3 == 7)) else (if x3 = 8 then (tidelineref21_shape.j2 k x3 (x3 == 8)) else (tidelineref21_shape.j2 k x3 (x3 == 9)))))
def tidelineref21_shape.j2 : Nat → Int → Bool → Option (ByteArray)
  | 0, _, _ => none
  | k + 1, x3, x14 => if x14 = true then (some (⟨#[105]⟩ : ByteArray)) else (if x3 = 10 then (some (⟨#[110, 118]⟩ : ByteArray)) else (if x3 = 17 then (some (⟨#[]⟩ : ByteArray)) else (some (⟨#[110]⟩ : ByteArray))))
end
def tidelineref21_shape.f (k : Nat) (a0 : Int) : Option (ByteArray) := if a0 = 1 then (some (⟨#[110, 107, 118]⟩ : ByteArray)) else (if a0 = 2 then (tidelineref21_shape.j0 k a0 (a0 == 2)) else (tidelineref21_shape.j0 k a0 (a0 == 3)))
theorem tidelineref21_shape.mono_l : ∀ k, (∀ y0 y1, LeO (tidelineref21_shape.j0 k y0 y1) (tidelineref21_shape.j0 (k + 1) y0 y1)) ∧ (∀ y0 y1, LeO (tidelineref21_shape.j1 k y0 y1) (tidelineref21_shape.j1 (k + 1) y0 y1)) ∧ (∀ y0 y1, LeO (tidelineref21_shape.j2 k y0 y1) (tidelineref21_shape.j2 (k + 1) y0 y1))
  | 0 => ⟨fun _ _ r h => by simp [tidelineref21_shape.j0] at h, fun _ _ r h => by simp [tidelineref21_shape.j1] at h, fun _ _ r h => by simp [tidelineref21_shape.j2] at h⟩
  | k + 1 => by
    obtain ⟨ih0, ih1, ih2⟩ := tidelineref21_shape.mono_l k
    refine ⟨?_, ?_, ?_⟩
    · intro y0 y1
      unfold tidelineref21_shape.j0
      repeat' first
      | (with_reducible exact ih0 _ _)
      | (with_reducible exact ih1 _ _)
      | (with_reducible exact ih2 _ _)
      | (with_reducible exact LeO.refl _)
      | (with_reducible exact LeO.none _)
      | (with_reducible refine LeO.ite ?_ ?_)
      | (with_reducible refine LeO.bind ?_ (fun _ => ?_))
      | exact ih0 _ _
      | exact ih1 _ _
      | exact ih2 _ _
      | exact LeO.none _
      | refine LeO.ite ?_ ?_
      | refine LeO.bind ?_ (fun _ => ?_)
    · intro y0 y1
      unfold tidelineref21_shape.j1
      repeat' first
      | (with_reducible exact ih0 _ _)
      | (with_reducible exact ih1 _ _)
      | (with_reducible exact ih2 _ _)
      | (with_reducible exact LeO.refl _)
      | (with_reducible exact LeO.none _)
      | (with_reducible refine LeO.ite ?_ ?_)
      | (with_reducible refine LeO.bind ?_ (fun _ => ?_))
      | exact ih0 _ _
      | exact ih1 _ _
      | exact ih2 _ _
      | exact LeO.none _
      | refine LeO.ite ?_ ?_
      | refine LeO.bind ?_ (fun _ => ?_)
    · intro y0 y1
      unfold tidelineref21_shape.j2
      repeat' first
      | (with_reducible exact ih0 _ _)
      | (with_reducible exact ih1 _ _)
      | (with_reducible exact ih2 _ _)
      | (with_reducible exact LeO.refl _)
      | (with_reducible exact LeO.none _)
      | (with_reducible refine LeO.ite ?_ ?_)
      | (with_reducible refine LeO.bind ?_ (fun _ => ?_))
      | exact ih0 _ _
      | exact ih1 _ _
      | exact ih2 _ _
      | exact LeO.none _
      | refine LeO.ite ?_ ?_
      | refine LeO.bind ?_ (fun _ => ?_)
theorem tidelineref21_shape.mono : ∀ a0 k, LeO (tidelineref21_shape.f k a0) (tidelineref21_shape.f (k + 1) a0) := by
  intro a0 k
  obtain ⟨ih0, ih1, ih2⟩ := tidelineref21_shape.mono_l k
  unfold tidelineref21_shape.f
  repeat' first
      | (with_reducible exact ih0 _ _)
      | (with_reducible exact ih1 _ _)
      | (with_reducible exact ih2 _ _)
      | (with_reducible exact LeO.refl _)
      | (with_reducible exact LeO.none _)
      | (with_reducible refine LeO.ite ?_ ?_)
      | (with_reducible refine LeO.bind ?_ (fun _ => ?_))
      | exact ih0 _ _
      | exact ih1 _ _
      | exact ih2 _ _
      | exact LeO.none _
      | refine LeO.ite ?_ ?_
      | refine LeO.bind ?_ (fun _ => ?_)
set_option maxHeartbeats 8000000 in
set_option maxRecDepth 100000 in
theorem tidelineref21_shape.calls (k : Nat) (a0 : Int) (r : ByteArray) (w : World) (h : tidelineref21_shape.f k a0 = some r) :
    Calls Tryd.prog 18 #[.int .i64 a0] w fun e w' => e = .returned (.string r) ∧ Drawn0 w w' := by
  have H : (if a0 = 1 then (some (⟨#[110, 107, 118]⟩ : ByteArray)) else (if a0 = 2 then (tidelineref21_shape.j0 k a0 (a0 == 2)) else (tidelineref21_shape.j0 k a0 (a0 == 3)))) = some r := h
  clear h
  by_cases c2 : a0 = 1
  · rw [if_pos c2] at H
    have c2b0 : (a0 == 1) = true := beq_iff_eq.mpr c2
    have c2b1 : (a0 != 1) = false := bne_eq_false_iff_eq.mpr c2
    clear c2
    obtain rfl := Option.some.inj H
    go_enter Tryd.func18, Tryd.ntmps18
    go_wp2
    go_ret
    exact ⟨by first | rfl | (simp; done) | (simp [*]; done) | (simp [*, Go.Proofs.YtodmbjbfigifnaaDoor.Str.bne_nil]; done), by repeat (first | exact Drawn0.refl _ | apply Drawn0.step)⟩
  · rw [if_neg c2] at H
    have c2b0 : (a0 == 1) = false := beq_eq_false_iff_ne.mpr c2
    have c2b1 : (a0 != 1) = true := bne_iff_ne.mpr c2
    have HC3 := Aside0.mk H
    clear H
    go_enter Tryd.func18, Tryd.ntmps18
    go_upto_if 6 with (fail)
    go_cut [6] (fun v6 wc => ∃ (kq : Nat) (x6_2 : Bool), v6 = .bool x6_2 ∧ Aside0 (tidelineref21_shape.j0 kq a0 x6_2 = some r) ∧ Aside0 (kq ≤ k) ∧ Drawn0 w wc)
    case first =>
      have H := HC3.out
      clear HC3
      by_cases c4 : a0 = 2
      · rw [if_pos c4] at H
        have c4b0 : (a0 == 2) = true := beq_iff_eq.mpr c4
        have c4b1 : (a0 != 2) = false := bne_eq_false_iff_eq.mpr c4
        clear c4
        (first | rw [c4b0] | (simp only [i64_w, i32_w]; rw [c4b0]) | skip)
        have H' := Aside0.mk H
        clear H
        go_wp2
        go_meet
        case rel => exact ⟨_, ((a0 == 2)), (by first | rfl | (simp; done) | (simp [*]; done) | (simp [*, Go.Proofs.YtodmbjbfigifnaaDoor.Str.bne_nil]; done)), H', ⟨by first | omega | exact Nat.le_refl _⟩, by repeat (first | exact Drawn0.refl _ | apply Drawn0.step)⟩
      · rw [if_neg c4] at H
        have c4b0 : (a0 == 2) = false := beq_eq_false_iff_ne.mpr c4
        have c4b1 : (a0 != 2) = true := bne_iff_ne.mpr c4
        (first | rw [c4b0] | (simp only [i64_w, i32_w]; rw [c4b0]) | skip)
        have H' := Aside0.mk H
        clear H
        go_wp2
        go_meet
        case rel => exact ⟨_, ((a0 == 3)), (by first | rfl | (simp; done) | (simp [*]; done) | (simp [*, Go.Proofs.YtodmbjbfigifnaaDoor.Str.bne_nil]; done)), H', ⟨by first | omega | exact Nat.le_refl _⟩, by repeat (first | exact Drawn0.refl _ | apply Drawn0.step)⟩
    case rest =>
      clear HC3
      try clear c1
      try clear c2
      try clear c2b0
      try clear c2b1
      try clear p2
      try clear c4
      try clear c4b0
      try clear c4b1
      obtain ⟨kq, x6_2, rfl, HA, HJ2, ⟨mc2, rfl⟩⟩ := hcut
      cases kq with
      | zero => exact absurd HA.out (by simp [tidelineref21_shape.j0])
      | succ kj2 =>
        have H := HA.out
        clear HA
        simp only [tidelineref21_shape.j0] at H
        by_cases c5 : x6_2 = true
        · subst c5
          have H1 : (some (⟨#[110, 107]⟩ : ByteArray)) = some r := by rw [if_pos rfl] at H; exact H
          clear H
          have H := H1
          clear H1
          obtain rfl := Option.some.inj H
          go_wp2
          go_ret
          exact ⟨by first | rfl | (simp; done) | (simp [*]; done) | (simp [*, Go.Proofs.YtodmbjbfigifnaaDoor.Str.bne_nil]; done), by repeat (first | exact Drawn0.refl _ | apply Drawn0.step)⟩
        · replace c5 := Bool.eq_false_iff.mpr c5
          subst c5
          have H1 : (if a0 = 4 then (tidelineref21_shape.j1 kj2 a0 (a0 == 4)) else (tidelineref21_shape.j1 kj2 a0 (a0 == 5))) = some r := by rw [if_neg (show ¬ (false = true) by decide)] at H; exact H
          clear H
          have H := H1
          clear H1
          have HC6 := Aside0.mk H
          clear H
          go_upto_if 9 with (fail)
          go_cut [9] (fun v9 wc => ∃ (kq : Nat) (x9_5 : Bool), v9 = .bool x9_5 ∧ Aside0 (tidelineref21_shape.j1 kq a0 x9_5 = some r) ∧ Aside0 (kq ≤ kj2) ∧ Drawn0 w wc)
          case first =>
            have H := HC6.out
            clear HC6
            by_cases c7 : a0 = 4
            · rw [if_pos c7] at H
              have c7b0 : (a0 == 4) = true := beq_iff_eq.mpr c7
              have c7b1 : (a0 != 4) = false := bne_eq_false_iff_eq.mpr c7
              clear c7
              (first | rw [c7b0] | (simp only [i64_w, i32_w]; rw [c7b0]) | skip)
              have H' := Aside0.mk H
              clear H
              go_wp2
              go_meet
              case rel => exact ⟨_, ((a0 == 4)), (by first | rfl | (simp; done) | (simp [*]; done) | (simp [*, Go.Proofs.YtodmbjbfigifnaaDoor.Str.bne_nil]; done)), H', ⟨by have := HJ2.out; first | omega | exact Nat.le_refl _⟩, by repeat (first | exact Drawn0.refl _ | apply Drawn0.step)⟩
            · rw [if_neg c7] at H
              have c7b0 : (a0 == 4) = false := beq_eq_false_iff_ne.mpr c7
              have c7b1 : (a0 != 4) = true := bne_iff_ne.mpr c7
              (first | rw [c7b0] | (simp only [i64_w, i32_w]; rw [c7b0]) | skip)
              have H' := Aside0.mk H
              clear H
              go_wp2
              go_meet
              case rel => exact ⟨_, ((a0 == 5)), (by first | rfl | (simp; done) | (simp [*]; done) | (simp [*, Go.Proofs.YtodmbjbfigifnaaDoor.Str.bne_nil]; done)), H', ⟨by have := HJ2.out; first | omega | exact Nat.le_refl _⟩, by repeat (first | exact Drawn0.refl _ | apply Drawn0.step)⟩
          case rest =>
            clear HC6
            try clear c1
            try clear c2
            try clear c2b0
            try clear c2b1
            try clear p2
            try clear c4
            try clear c4b0
            try clear c4b1
            try clear c5
            try clear c7
            try clear c7b0
            try clear c7b1
            try clear p2
            obtain ⟨kq, x9_5, rfl, HA, HJ5, ⟨mc5, rfl⟩⟩ := hcut
            cases kq with
            | zero => exact absurd HA.out (by simp [tidelineref21_shape.j1])
            | succ kj5 =>
              have H := HA.out
              clear HA
              simp only [tidelineref21_shape.j1] at H
              by_cases c8 : x9_5 = true
              · subst c8
                have H1 : (some (⟨#[110, 114]⟩ : ByteArray)) = some r := by rw [if_pos rfl] at H; exact H
                clear H
                have H := H1
                clear H1
                obtain rfl := Option.some.inj H
                go_wp2
                go_ret
                exact ⟨by first | rfl | (simp; done) | (simp [*]; done) | (simp [*, Go.Proofs.YtodmbjbfigifnaaDoor.Str.bne_nil]; done), by repeat (first | exact Drawn0.refl _ | apply Drawn0.step)⟩
              · replace c8 := Bool.eq_false_iff.mpr c8
                subst c8
                have H1 : (if a0 = 6 then (some (⟨#[110, 112]⟩ : ByteArray)) else (if a0 = 7 then (tidelineref21_shape.j2 kj5 a0 (a0 == 7)) else (if a0 = 8 then (tidelineref21_shape.j2 kj5 a0 (a0 == 8)) else (tidelineref21_shape.j2 kj5 a0 (a0 == 9))))) = some r := by rw [if_neg (show ¬ (false = true) by decide)] at H; exact H
                clear H
                have H := H1
                clear H1
                by_cases c9 : a0 = 6
                · rw [if_pos c9] at H
                  have c9b0 : (a0 == 6) = true := beq_iff_eq.mpr c9
                  have c9b1 : (a0 != 6) = false := bne_eq_false_iff_eq.mpr c9
                  clear c9
                  obtain rfl := Option.some.inj H
                  go_wp2
                  go_ret
                  exact ⟨by first | rfl | (simp; done) | (simp [*]; done) | (simp [*, Go.Proofs.YtodmbjbfigifnaaDoor.Str.bne_nil]; done), by repeat (first | exact Drawn0.refl _ | apply Drawn0.step)⟩
                · rw [if_neg c9] at H
                  have c9b0 : (a0 == 6) = false := beq_eq_false_iff_ne.mpr c9
                  have c9b1 : (a0 != 6) = true := bne_iff_ne.mpr c9
                  have HC10 := Aside0.mk H
                  clear H
                  go_upto_if 14 with (fail)
                  go_cut [14] (fun v14 wc => ∃ (kq : Nat) (x14_9 : Bool), v14 = .bool x14_9 ∧ Aside0 (tidelineref21_shape.j2 kq a0 x14_9 = some r) ∧ Aside0 (kq ≤ kj5) ∧ Drawn0 w wc)
                  case first =>
                    have H := HC10.out
                    clear HC10
                    by_cases c11 : a0 = 7
                    · rw [if_pos c11] at H
                      have c11b0 : (a0 == 7) = true := beq_iff_eq.mpr c11
                      have c11b1 : (a0 != 7) = false := bne_eq_false_iff_eq.mpr c11
                      clear c11
                      (first | rw [c11b0] | (simp only [i64_w, i32_w]; rw [c11b0]) | skip)
                      have H' := Aside0.mk H
                      clear H
                      go_wp2
                      go_meet
                      case rel => exact ⟨_, ((a0 == 7)), (by first | rfl | (simp; done) | (simp [*]; done) | (simp [*, Go.Proofs.YtodmbjbfigifnaaDoor.Str.bne_nil]; done)), H', ⟨by have := HJ2.out; have := HJ5.out; first | omega | exact Nat.le_refl _⟩, by repeat (first | exact Drawn0.refl _ | apply Drawn0.step)⟩
                    · rw [if_neg c11] at H
                      have c11b0 : (a0 == 7) = false := beq_eq_false_iff_ne.mpr c11
                      have c11b1 : (a0 != 7) = true := bne_iff_ne.mpr c11
                      (first | rw [c11b0] | (simp only [i64_w, i32_w]; rw [c11b0]) | skip)
                      by_cases c12 : a0 = 8
                      · rw [if_pos c12] at H
                        have c12b0 : (a0 == 8) = true := beq_iff_eq.mpr c12
                        have c12b1 : (a0 != 8) = false := bne_eq_false_iff_eq.mpr c12
                        clear c12
                        have H' := Aside0.mk H
                        clear H
                        go_wp2
                        go_meet
                        case rel => exact ⟨_, ((a0 == 8)), (by first | rfl | (simp; done) | (simp [*]; done) | (simp [*, Go.Proofs.YtodmbjbfigifnaaDoor.Str.bne_nil]; done)), H', ⟨by have := HJ2.out; have := HJ5.out; first | omega | exact Nat.le_refl _⟩, by repeat (first | exact Drawn0.refl _ | apply Drawn0.step)⟩
                      · rw [if_neg c12] at H
                        have c12b0 : (a0 == 8) = false := beq_eq_false_iff_ne.mpr c12
                        have c12b1 : (a0 != 8) = true := bne_iff_ne.mpr c12
                        have H' := Aside0.mk H
                        clear H
                        go_wp2
                        go_meet
                        case rel => exact ⟨_, ((a0 == 9)), (by first | rfl | (simp; done) | (simp [*]; done) | (simp [*, Go.Proofs.YtodmbjbfigifnaaDoor.Str.bne_nil]; done)), H', ⟨by have := HJ2.out; have := HJ5.out; first | omega | exact Nat.le_refl _⟩, by repeat (first | exact Drawn0.refl _ | apply Drawn0.step)⟩
                  case rest =>
                    clear HC10
                    try clear c1
                    try clear c2
                    try clear c2b0
                    try clear c2b1
                    try clear p2
                    try clear c4
                    try clear c4b0
                    try clear c4b1
                    try clear c5
                    try clear c7
                    try clear c7b0
                    try clear c7b1
                    try clear c8
                    try clear c9
                    try clear c9b0
                    try clear c9b1
                    try clear c11
                    try clear c11b0
                    try clear c11b1
                    try clear c12
                    try clear c12b0
                    try clear c12b1
                    try clear p2
                    obtain ⟨kq, x14_9, rfl, HA, HJ9, ⟨mc9, rfl⟩⟩ := hcut
                    cases kq with
                    | zero => exact absurd HA.out (by simp [tidelineref21_shape.j2])
                    | succ kj9 =>
                      have H := HA.out
                      clear HA
                      simp only [tidelineref21_shape.j2] at H
                      by_cases c13 : x14_9 = true
                      · subst c13
                        have H1 : (some (⟨#[105]⟩ : ByteArray)) = some r := by rw [if_pos rfl] at H; exact H
                        clear H
                        have H := H1
                        clear H1
                        obtain rfl := Option.some.inj H
                        go_wp2
                        go_ret
                        exact ⟨by first | rfl | (simp; done) | (simp [*]; done) | (simp [*, Go.Proofs.YtodmbjbfigifnaaDoor.Str.bne_nil]; done), by repeat (first | exact Drawn0.refl _ | apply Drawn0.step)⟩
                      · replace c13 := Bool.eq_false_iff.mpr c13
                        subst c13
                        have H1 : (if a0 = 10 then (some (⟨#[110, 118]⟩ : ByteArray)) else (if a0 = 17 then (some (⟨#[]⟩ : ByteArray)) else (some (⟨#[110]⟩ : ByteArray)))) = some r := by rw [if_neg (show ¬ (false = true) by decide)] at H; exact H
                        clear H
                        have H := H1
                        clear H1
                        by_cases c14 : a0 = 10
                        · rw [if_pos c14] at H
                          have c14b0 : (a0 == 10) = true := beq_iff_eq.mpr c14
                          have c14b1 : (a0 != 10) = false := bne_eq_false_iff_eq.mpr c14
                          clear c14
                          obtain rfl := Option.some.inj H
                          go_wp2
                          go_ret
                          exact ⟨by first | rfl | (simp; done) | (simp [*]; done) | (simp [*, Go.Proofs.YtodmbjbfigifnaaDoor.Str.bne_nil]; done), by repeat (first | exact Drawn0.refl _ | apply Drawn0.step)⟩
                        · rw [if_neg c14] at H
                          have c14b0 : (a0 == 10) = false := beq_eq_false_iff_ne.mpr c14
                          have c14b1 : (a0 != 10) = true := bne_iff_ne.mpr c14
                          by_cases c15 : a0 = 17
                          · rw [if_pos c15] at H
                            have c15b0 : (a0 == 17) = true := beq_iff_eq.mpr c15
                            have c15b1 : (a0 != 17) = false := bne_eq_false_iff_eq.mpr c15
                            clear c15
                            obtain rfl := Option.some.inj H
                            go_wp2
                            go_ret
                            exact ⟨by first | rfl | (simp; done) | (simp [*]; done) | (simp [*, Go.Proofs.YtodmbjbfigifnaaDoor.Str.bne_nil]; done), by repeat (first | exact Drawn0.refl _ | apply Drawn0.step)⟩
                          · rw [if_neg c15] at H
                            have c15b0 : (a0 == 17) = false := beq_eq_false_iff_ne.mpr c15
                            have c15b1 : (a0 != 17) = true := bne_iff_ne.mpr c15
                            obtain rfl := Option.some.inj H
                            go_wp2
                            go_ret
                            exact ⟨by first | rfl | (simp; done) | (simp [*]; done) | (simp [*, Go.Proofs.YtodmbjbfigifnaaDoor.Str.bne_nil]; done), by repeat (first | exact Drawn0.refl _ | apply Drawn0.step)⟩

end Go.Proofs.YtodmbjbfigifnaaDoor.PAll
