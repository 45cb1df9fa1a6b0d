-- Written by a program of this session (a changed copy of the kit's print program): not the kit's print.
import Derived.Test.YtmejmlohinjpdaaPOrx0
namespace Go.Proofs.Ytmejmlohinjpdaa.POr
open Go.RowKit Go.Proofs.YtmejmlohinjpdaaW.PrintWords Go.Proofs.YtmejmlohinjpdaaW.PrintLast Go.Proofs.YtmejmlohinjpdaaW.PrintMore
attribute [local go_sem] max2_int min2_int max_two min_two max_three min_three max_four min_four   -- for this text's walks alone
set_option linter.unusedVariables false
set_option linter.unusedSimpArgs false

/-! ### order_Name: function 6 -/
def order_Name.f (a0 : Int) : Option (ByteArray) := if a0 = 0 then (some (⟨#[84, 101, 120, 116]⟩ : ByteArray)) else (if a0 = 5 then (some (⟨#[80, 84]⟩ : ByteArray)) else (if a0 = 8 then (some (⟨#[71, 69]⟩ : ByteArray)) else (if a0 = 17 then (some (⟨#[83, 66, 65]⟩ : ByteArray)) else (if a0 = 18 then (some (⟨#[69, 85, 65]⟩ : ByteArray)) else (if a0 = 19 then (some (⟨#[73, 67]⟩ : ByteArray)) else (if a0 = 29 then (some (⟨#[83, 70]⟩ : ByteArray)) else (if a0 = 40 then (some (⟨#[83, 65]⟩ : ByteArray)) else (if a0 = 41 then (some (⟨#[83, 70, 69]⟩ : ByteArray)) else (if a0 = 44 then (some (⟨#[77, 70]⟩ : ByteArray)) else (if a0 = 60 then (some (⟨#[82, 65]⟩ : ByteArray)) else (some (⟨#[]⟩ : ByteArray))))))))))))
set_option maxHeartbeats 8000000 in
set_option maxRecDepth 100000 in
theorem order_Name.calls (a0 : Int) (r : ByteArray) (w : World) (h : order_Name.f a0 = some r) :
    Calls Try.prog 6 #[.int .i64 a0] w fun e w' => e = .returned (.string r) ∧ Drawn0 w w' := by
  have H : (if a0 = 0 then (some (⟨#[84, 101, 120, 116]⟩ : ByteArray)) else (if a0 = 5 then (some (⟨#[80, 84]⟩ : ByteArray)) else (if a0 = 8 then (some (⟨#[71, 69]⟩ : ByteArray)) else (if a0 = 17 then (some (⟨#[83, 66, 65]⟩ : ByteArray)) else (if a0 = 18 then (some (⟨#[69, 85, 65]⟩ : ByteArray)) else (if a0 = 19 then (some (⟨#[73, 67]⟩ : ByteArray)) else (if a0 = 29 then (some (⟨#[83, 70]⟩ : ByteArray)) else (if a0 = 40 then (some (⟨#[83, 65]⟩ : ByteArray)) else (if a0 = 41 then (some (⟨#[83, 70, 69]⟩ : ByteArray)) else (if a0 = 44 then (some (⟨#[77, 70]⟩ : ByteArray)) else (if a0 = 60 then (some (⟨#[82, 65]⟩ : ByteArray)) else (some (⟨#[]⟩ : ByteArray))))))))))))) = some r := h
  clear h
  by_cases c2 : a0 = 0
  · rw [if_pos c2] at H
    have c2b0 : (a0 == 0) = true := beq_iff_eq.mpr c2
    have c2b1 : (a0 != 0) = false := bne_eq_false_iff_eq.mpr c2
    clear c2
    obtain rfl := Option.some.inj H
    go_enter Try.func6, Try.ntmps6
    go_wp2
    go_ret
    exact ⟨by first | rfl | (simp; done) | (simp [*]; done) | (cases t101.toList <;> simp), by repeat (first | exact Drawn0.refl _ | apply Drawn0.step)⟩
  · rw [if_neg c2] at H
    have c2b0 : (a0 == 0) = false := beq_eq_false_iff_ne.mpr c2
    have c2b1 : (a0 != 0) = true := bne_iff_ne.mpr c2
    by_cases c3 : a0 = 5
    · rw [if_pos c3] at H
      have c3b0 : (a0 == 5) = true := beq_iff_eq.mpr c3
      have c3b1 : (a0 != 5) = false := bne_eq_false_iff_eq.mpr c3
      clear c3
      obtain rfl := Option.some.inj H
      go_enter Try.func6, Try.ntmps6
      go_wp2
      go_ret
      exact ⟨by first | rfl | (simp; done) | (simp [*]; done) | (cases t101.toList <;> simp), by repeat (first | exact Drawn0.refl _ | apply Drawn0.step)⟩
    · rw [if_neg c3] at H
      have c3b0 : (a0 == 5) = false := beq_eq_false_iff_ne.mpr c3
      have c3b1 : (a0 != 5) = true := bne_iff_ne.mpr c3
      by_cases c4 : a0 = 8
      · rw [if_pos c4] at H
        have c4b0 : (a0 == 8) = true := beq_iff_eq.mpr c4
        have c4b1 : (a0 != 8) = false := bne_eq_false_iff_eq.mpr c4
        clear c4
        obtain rfl := Option.some.inj H
        go_enter Try.func6, Try.ntmps6
        go_wp2
        go_ret
        exact ⟨by first | rfl | (simp; done) | (simp [*]; done) | (cases t101.toList <;> simp), by repeat (first | exact Drawn0.refl _ | apply Drawn0.step)⟩
      · rw [if_neg c4] at H
        have c4b0 : (a0 == 8) = false := beq_eq_false_iff_ne.mpr c4
        have c4b1 : (a0 != 8) = true := bne_iff_ne.mpr c4
        by_cases c5 : a0 = 17
        · rw [if_pos c5] at H
          have c5b0 : (a0 == 17) = true := beq_iff_eq.mpr c5
          have c5b1 : (a0 != 17) = false := bne_eq_false_iff_eq.mpr c5
          clear c5
          obtain rfl := Option.some.inj H
          go_enter Try.func6, Try.ntmps6
          go_wp2
          go_ret
          exact ⟨by first | rfl | (simp; done) | (simp [*]; done) | (cases t101.toList <;> simp), by repeat (first | exact Drawn0.refl _ | apply Drawn0.step)⟩
        · rw [if_neg c5] at H
          have c5b0 : (a0 == 17) = false := beq_eq_false_iff_ne.mpr c5
          have c5b1 : (a0 != 17) = true := bne_iff_ne.mpr c5
          by_cases c6 : a0 = 18
          · rw [if_pos c6] at H
            have c6b0 : (a0 == 18) = true := beq_iff_eq.mpr c6
            have c6b1 : (a0 != 18) = false := bne_eq_false_iff_eq.mpr c6
            clear c6
            obtain rfl := Option.some.inj H
            go_enter Try.func6, Try.ntmps6
            go_wp2
            go_ret
            exact ⟨by first | rfl | (simp; done) | (simp [*]; done) | (cases t101.toList <;> simp), by repeat (first | exact Drawn0.refl _ | apply Drawn0.step)⟩
          · rw [if_neg c6] at H
            have c6b0 : (a0 == 18) = false := beq_eq_false_iff_ne.mpr c6
            have c6b1 : (a0 != 18) = true := bne_iff_ne.mpr c6
            by_cases c7 : a0 = 19
            · rw [if_pos c7] at H
              have c7b0 : (a0 == 19) = true := beq_iff_eq.mpr c7
              have c7b1 : (a0 != 19) = false := bne_eq_false_iff_eq.mpr c7
              clear c7
              obtain rfl := Option.some.inj H
              go_enter Try.func6, Try.ntmps6
              go_wp2
              go_ret
              exact ⟨by first | rfl | (simp; done) | (simp [*]; done) | (cases t101.toList <;> simp), by repeat (first | exact Drawn0.refl _ | apply Drawn0.step)⟩
            · rw [if_neg c7] at H
              have c7b0 : (a0 == 19) = false := beq_eq_false_iff_ne.mpr c7
              have c7b1 : (a0 != 19) = true := bne_iff_ne.mpr c7
              by_cases c8 : a0 = 29
              · rw [if_pos c8] at H
                have c8b0 : (a0 == 29) = true := beq_iff_eq.mpr c8
                have c8b1 : (a0 != 29) = false := bne_eq_false_iff_eq.mpr c8
                clear c8
                obtain rfl := Option.some.inj H
                go_enter Try.func6, Try.ntmps6
                go_wp2
                go_ret
                exact ⟨by first | rfl | (simp; done) | (simp [*]; done) | (cases t101.toList <;> simp), by repeat (first | exact Drawn0.refl _ | apply Drawn0.step)⟩
              · rw [if_neg c8] at H
                have c8b0 : (a0 == 29) = false := beq_eq_false_iff_ne.mpr c8
                have c8b1 : (a0 != 29) = true := bne_iff_ne.mpr c8
                by_cases c9 : a0 = 40
                · rw [if_pos c9] at H
                  have c9b0 : (a0 == 40) = true := beq_iff_eq.mpr c9
                  have c9b1 : (a0 != 40) = false := bne_eq_false_iff_eq.mpr c9
                  clear c9
                  obtain rfl := Option.some.inj H
                  go_enter Try.func6, Try.ntmps6
                  go_wp2
                  go_ret
                  exact ⟨by first | rfl | (simp; done) | (simp [*]; done) | (cases t101.toList <;> simp), by repeat (first | exact Drawn0.refl _ | apply Drawn0.step)⟩
                · rw [if_neg c9] at H
                  have c9b0 : (a0 == 40) = false := beq_eq_false_iff_ne.mpr c9
                  have c9b1 : (a0 != 40) = true := bne_iff_ne.mpr c9
                  by_cases c10 : a0 = 41
                  · rw [if_pos c10] at H
                    have c10b0 : (a0 == 41) = true := beq_iff_eq.mpr c10
                    have c10b1 : (a0 != 41) = false := bne_eq_false_iff_eq.mpr c10
                    clear c10
                    obtain rfl := Option.some.inj H
                    go_enter Try.func6, Try.ntmps6
                    go_wp2
                    go_ret
                    exact ⟨by first | rfl | (simp; done) | (simp [*]; done) | (cases t101.toList <;> simp), by repeat (first | exact Drawn0.refl _ | apply Drawn0.step)⟩
                  · rw [if_neg c10] at H
                    have c10b0 : (a0 == 41) = false := beq_eq_false_iff_ne.mpr c10
                    have c10b1 : (a0 != 41) = true := bne_iff_ne.mpr c10
                    by_cases c11 : a0 = 44
                    · rw [if_pos c11] at H
                      have c11b0 : (a0 == 44) = true := beq_iff_eq.mpr c11
                      have c11b1 : (a0 != 44) = false := bne_eq_false_iff_eq.mpr c11
                      clear c11
                      obtain rfl := Option.some.inj H
                      go_enter Try.func6, Try.ntmps6
                      go_wp2
                      go_ret
                      exact ⟨by first | rfl | (simp; done) | (simp [*]; done) | (cases t101.toList <;> simp), by repeat (first | exact Drawn0.refl _ | apply Drawn0.step)⟩
                    · rw [if_neg c11] at H
                      have c11b0 : (a0 == 44) = false := beq_eq_false_iff_ne.mpr c11
                      have c11b1 : (a0 != 44) = true := bne_iff_ne.mpr c11
                      by_cases c12 : a0 = 60
                      · rw [if_pos c12] at H
                        have c12b0 : (a0 == 60) = true := beq_iff_eq.mpr c12
                        have c12b1 : (a0 != 60) = false := bne_eq_false_iff_eq.mpr c12
                        clear c12
                        obtain rfl := Option.some.inj H
                        go_enter Try.func6, Try.ntmps6
                        go_wp2
                        go_ret
                        exact ⟨by first | rfl | (simp; done) | (simp [*]; done) | (cases t101.toList <;> simp), by repeat (first | exact Drawn0.refl _ | apply Drawn0.step)⟩
                      · rw [if_neg c12] at H
                        have c12b0 : (a0 == 60) = false := beq_eq_false_iff_ne.mpr c12
                        have c12b1 : (a0 != 60) = true := bne_iff_ne.mpr c12
                        obtain rfl := Option.some.inj H
                        go_enter Try.func6, Try.ntmps6
                        go_wp2
                        go_ret
                        exact ⟨by first | rfl | (simp; done) | (simp [*]; done) | (cases t101.toList <;> simp), by repeat (first | exact Drawn0.refl _ | apply Drawn0.step)⟩

/-! ### order_Is: function 8 -/
def order_Is.f (a0 : Int) : Option (Bool) := if a0 = 0 then (some false) else ((order_Name.f (wrap64 (a0))).bind fun t101 => (some (t101.toList != ([] : List UInt8))))
set_option maxHeartbeats 8000000 in
set_option maxRecDepth 100000 in
theorem order_Is.calls (a0 : Int) (r : Bool) (w : World) (h : order_Is.f a0 = some r) :
    Calls Try.prog 8 #[.int .u8 a0] w fun e w' => e = .returned (.bool r) ∧ Drawn0 w w' := by
  have H : (if a0 = 0 then (some false) else ((order_Name.f (wrap64 (a0))).bind fun t101 => (some (t101.toList != ([] : List UInt8))))) = some r := h
  clear h
  by_cases c2 : a0 = 0
  · rw [if_pos c2] at H
    have c2b0 : (a0 == 0) = true := beq_iff_eq.mpr c2
    have c2b1 : (a0 != 0) = false := bne_eq_false_iff_eq.mpr c2
    clear c2
    obtain rfl := Option.some.inj H
    go_enter Try.func8, Try.ntmps8
    go_wp2
    go_ret
    exact ⟨by first | rfl | (simp; done) | (simp [*]; done) | (cases t101.toList <;> simp), by repeat (first | exact Drawn0.refl _ | apply Drawn0.step)⟩
  · rw [if_neg c2] at H
    have c2b0 : (a0 == 0) = false := beq_eq_false_iff_ne.mpr c2
    have c2b1 : (a0 != 0) = true := bne_iff_ne.mpr c2
    replace H := Option.bind_eq_some_iff.mp H
    obtain ⟨t101, A30, H⟩ := H
    replace H : (some (t101.toList != ([] : List UInt8))) = some r := H
    have A3 := Aside0.mk A30
    clear A30
    obtain rfl := Option.some.inj H
    go_enter Try.func8, Try.ntmps8
    go_wp2_with (first | (go_at_call 6; (with_reducible refine (order_Name.calls (wrap64 (a0)) t101 _ A3.out).mono ?_); rintro e w' ⟨rfl, ⟨nd, rfl⟩⟩))
    go_ret
    exact ⟨by first | rfl | (simp; done) | (simp [*]; done) | (cases t101.toList <;> simp), by repeat (first | exact Drawn0.refl _ | apply Drawn0.step)⟩

end Go.Proofs.Ytmejmlohinjpdaa.POr
