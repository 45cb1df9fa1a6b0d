-- Written by a program of this session (a changed copy of the kit's print program): not the kit's print.
import Derived.Test.YtfdhchgemplnoaaPMkx0
namespace Go.Proofs.Ytfdhchgemplnoaa.PMk
open Go.RowKit Go.Proofs.YtfdhchgemplnoaaW.PrintWords Go.Proofs.YtfdhchgemplnoaaW.PrintLast Go.Proofs.YtfdhchgemplnoaaW.PrintMore
attribute [local go_sem] max2_int min2_int max_two min_two max_three min_three max_four min_four   -- for this text's walks alone
set_option linter.unusedVariables false
set_option linter.unusedSimpArgs false

/-! ### vitrineref04_Mod: function 37 -/
def vitrineref04_Mod.f (a0 : Int) (a1 : Int) : Option (Int) := if a1 < 1 then (some 0) else (if a1 = 0 then (none) else (some (Int.tmod (wrap64 ((Int.tmod a0 a1) + a1)) a1)))
set_option maxHeartbeats 8000000 in
set_option maxRecDepth 100000 in
theorem vitrineref04_Mod.calls (a0 : Int) (a1 : Int) (r : Int) (w : World) (h : vitrineref04_Mod.f a0 a1 = some r) :
    Calls Try.prog 37 #[.int .i64 a0, .int .i64 a1] w fun e w' => e = .returned (.int .i64 r) ∧ Drawn0 w w' := by
  have H : (if a1 < 1 then (some 0) else (if a1 = 0 then (none) else (some (Int.tmod (wrap64 ((Int.tmod a0 a1) + a1)) a1)))) = some r := h
  clear h
  by_cases c3 : a1 < 1
  · rw [if_pos c3] at H
    have c3b0 : decide (a1 < 1) = true := decide_eq_true c3
    clear c3
    obtain rfl := Option.some.inj H
    go_enter Try.func37, Try.ntmps37
    go_wp2
    go_ret
    exact ⟨by first | rfl | (simp; done) | (simp [*]; done), by repeat (first | exact Drawn0.refl _ | apply Drawn0.step)⟩
  · rw [if_neg c3] at H
    have c3b0 : decide (a1 < 1) = false := decide_eq_false c3
    clear c3
    by_cases c4 : a1 = 0
    · rw [if_pos c4] at H
      exact absurd H (by simp)
    · rw [if_neg c4] at H
      have c4b0 : (a1 == 0) = false := beq_eq_false_iff_ne.mpr c4
      have c4b1 : (a1 != 0) = true := bne_iff_ne.mpr c4
      obtain rfl := Option.some.inj H
      go_enter Try.func37, Try.ntmps37
      go_wp2
      go_ret
      exact ⟨by first | rfl | (simp; done) | (simp [*]; done), by repeat (first | exact Drawn0.refl _ | apply Drawn0.step)⟩

/-! ### vitrineref01_Num: function 38 -/
def vitrineref01_Num.l0 : Nat → ByteArray → Int → Int → Option (Int)
  | 0, _, _, _ => none
  | k + 1, x0, x3, x4 => if x4 < (x0.size : Int) then (if 0 ≤ x4 then (if (bt x0 x4) ≥ 97 then (vitrineref01_Num.l0 k x0 (wrap64 ((wrap64 (16 * x3)) + ((((bt x0 x4) - 97) % 256) + 10))) (wrap64 (x4 + 1))) else (vitrineref01_Num.l0 k x0 (wrap64 ((wrap64 (16 * x3)) + (((bt x0 x4) - 48) % 256))) (wrap64 (x4 + 1)))) else (none)) else (some x3)
def vitrineref01_Num.f (k : Nat) (a0 : ByteArray) : Option (Int) := vitrineref01_Num.l0 k a0 0 0
theorem vitrineref01_Num.mono_l : ∀ k, (∀ y0 y1 y2, LeO (vitrineref01_Num.l0 k y0 y1 y2) (vitrineref01_Num.l0 (k + 1) y0 y1 y2))
  | 0 => fun _ _ _ r h => by simp [vitrineref01_Num.l0] at h
  | k + 1 => by
    have ih0 := vitrineref01_Num.mono_l k
    · intro y0 y1 y2
      unfold vitrineref01_Num.l0
      repeat' first
      | (with_reducible exact ih0 _ _ _)
      | (with_reducible exact LeO.refl _)
      | (with_reducible exact LeO.none _)
      | (with_reducible refine LeO.ite ?_ ?_)
      | (with_reducible refine LeO.bind ?_ (fun _ => ?_))
      | exact ih0 _ _ _
      | exact LeO.none _
      | refine LeO.ite ?_ ?_
      | refine LeO.bind ?_ (fun _ => ?_)
theorem vitrineref01_Num.mono : ∀ a0 k, LeO (vitrineref01_Num.f k a0) (vitrineref01_Num.f (k + 1) a0) := by
  intro a0 k
  have ih0 := vitrineref01_Num.mono_l k
  unfold vitrineref01_Num.f
  repeat' first
      | (with_reducible exact ih0 _ _ _)
      | (with_reducible exact LeO.refl _)
      | (with_reducible exact LeO.none _)
      | (with_reducible refine LeO.ite ?_ ?_)
      | (with_reducible refine LeO.bind ?_ (fun _ => ?_))
      | exact ih0 _ _ _
      | exact LeO.none _
      | refine LeO.ite ?_ ?_
      | refine LeO.bind ?_ (fun _ => ?_)
set_option maxHeartbeats 8000000 in
set_option maxRecDepth 100000 in
theorem vitrineref01_Num.calls (k : Nat) (a0 : ByteArray) (r : Int) (w : World) (h : vitrineref01_Num.f k a0 = some r) :
    Calls Try.prog 38 #[.string a0] w fun e w' => e = .returned (.int .i64 r) ∧ Drawn0 w w' := by
  have H : (vitrineref01_Num.l0 k a0 0 0) = some r := h
  clear h
  have H' := Aside0.mk H
  clear H
  go_enter Try.func38, Try.ntmps38
  go_wp2
  go_loopg [3, 4] k (fun kq v3 v4 w' => ∃ (x3_1 : Int) (x4_1 : Int), v3 = .int .i64 x3_1 ∧ v4 = .int .i64 x4_1 ∧ Aside0 (vitrineref01_Num.l0 kq a0 x3_1 x4_1 = some r) ∧ Aside0 (kq ≤ k) ∧ Drawn0 w w')
  case atStart => exact ⟨(0), (0), (by first | rfl | (simp; done) | (simp [*]; done)), (by first | rfl | (simp; done) | (simp [*]; done)), H', ⟨Nat.le_refl _⟩, by repeat (first | exact Drawn0.refl _ | apply Drawn0.step)⟩
  case round =>
    clear H'
    obtain ⟨x3_1, x4_1, rfl, rfl, HA, HK1, ⟨m1, rfl⟩⟩ := hrel
    cases gk with
    | zero => exact absurd HA.out (by simp [vitrineref01_Num.l0])
    | succ k1 =>
      have H := HA.out
      clear HA
      simp only [vitrineref01_Num.l0] at H
      by_cases c2 : x4_1 < (a0.size : Int)
      · rw [if_pos c2] at H
        have c2b0 : decide (x4_1 < (a0.size : Int)) = true := decide_eq_true c2
        clear c2
        by_cases c3 : 0 ≤ x4_1
        · rw [if_pos c3] at H
          have c3b0 : decide (0 ≤ x4_1) = true := decide_eq_true c3
          clear c3
          by_cases c6 : (bt a0 x4_1) ≥ 97
          · rw [if_pos c6] at H
            have c6b0 : decide (97 ≤ (bt a0 x4_1)) = true := decide_eq_true c6
            clear c6
            have H' := Aside0.mk H
            clear H
            have p4 : 0 ≤ (x4_1 : Int) := of_decide_eq_true (by first | (with_reducible assumption) | assumption)
            have q4 : x4_1 < (a0.size : Int) := of_decide_eq_true (by first | (with_reducible assumption) | assumption)
            have hx4 := bt_at a0 x4_1
            replace p4 := eq_true p4
            replace q4 := eq_true q4
            have p5 : 0 ≤ (x4_1 : Int) := of_decide_eq_true (by first | (with_reducible assumption) | assumption)
            have q5 : x4_1 < (a0.size : Int) := of_decide_eq_true (by first | (with_reducible assumption) | assumption)
            have hx5 := bt_at a0 x4_1
            replace p5 := eq_true p5
            replace q5 := eq_true q5
            have p7 : 0 ≤ (x4_1 : Int) := of_decide_eq_true (by first | (with_reducible assumption) | assumption)
            have q7 : x4_1 < (a0.size : Int) := of_decide_eq_true (by first | (with_reducible assumption) | assumption)
            have hx7 := bt_at a0 x4_1
            replace p7 := eq_true p7
            replace q7 := eq_true q7
            go_wp2
            go_roundg k1
            case measure => have := HK1.out; omega
            case rel => exact ⟨(wrap64 ((wrap64 (16 * x3_1)) + ((((bt a0 x4_1) - 97) % 256) + 10))), (wrap64 (x4_1 + 1)), (by first | rfl | (simp; done) | (simp [*]; done)), (by first | rfl | (simp; done) | (simp [*]; done)), H', ⟨by have := HK1.out; omega⟩, by repeat (first | exact Drawn0.refl _ | apply Drawn0.step)⟩
          · rw [if_neg c6] at H
            have c6b0 : decide (97 ≤ (bt a0 x4_1)) = false := decide_eq_false c6
            clear c6
            have H' := Aside0.mk H
            clear H
            have p4 : 0 ≤ (x4_1 : Int) := of_decide_eq_true (by first | (with_reducible assumption) | assumption)
            have q4 : x4_1 < (a0.size : Int) := of_decide_eq_true (by first | (with_reducible assumption) | assumption)
            have hx4 := bt_at a0 x4_1
            replace p4 := eq_true p4
            replace q4 := eq_true q4
            have p5 : 0 ≤ (x4_1 : Int) := of_decide_eq_true (by first | (with_reducible assumption) | assumption)
            have q5 : x4_1 < (a0.size : Int) := of_decide_eq_true (by first | (with_reducible assumption) | assumption)
            have hx5 := bt_at a0 x4_1
            replace p5 := eq_true p5
            replace q5 := eq_true q5
            go_wp2
            go_roundg k1
            case measure => have := HK1.out; omega
            case rel => exact ⟨(wrap64 ((wrap64 (16 * x3_1)) + (((bt a0 x4_1) - 48) % 256))), (wrap64 (x4_1 + 1)), (by first | rfl | (simp; done) | (simp [*]; done)), (by first | rfl | (simp; done) | (simp [*]; done)), H', ⟨by have := HK1.out; omega⟩, by repeat (first | exact Drawn0.refl _ | apply Drawn0.step)⟩
        · rw [if_neg c3] at H
          exact absurd H (by simp)
      · rw [if_neg c2] at H
        have c2b0 : decide (x4_1 < (a0.size : Int)) = false := decide_eq_false c2
        clear c2
        obtain rfl := Option.some.inj H
        go_wp2
        go_ret
        exact ⟨by first | rfl | (simp; done) | (simp [*]; done), by repeat (first | exact Drawn0.refl _ | apply Drawn0.step)⟩

/-! ### vitrineref04_Six: function 12 -/
def vitrineref04_Six.f (k : Nat) (a0 : Int) : Option (Int) := (vitrineref04_Mod.f a0 64).bind fun t130 => (if 0 ≤ (wrap64 (2 * t130)) then (if (wrap64 (2 * t130)) ≤ (wrap64 ((wrap64 (2 * t130)) + 2)) then (if (wrap64 ((wrap64 (2 * t130)) + 2)) ≤ 128 then ((vitrineref01_Num.f k ((⟨#[52, 48, 99, 49, 99, 50, 99, 51, 99, 52, 99, 53, 99, 54, 99, 55, 99, 56, 99, 57, 52, 97, 52, 98, 52, 99, 52, 100, 52, 101, 52, 102, 53, 48, 100, 49, 100, 50, 100, 51, 100, 52, 100, 53, 100, 54, 100, 55, 100, 56, 100, 57, 53, 97, 53, 98, 53, 99, 53, 100, 53, 101, 53, 102, 54, 48, 54, 49, 101, 50, 101, 51, 101, 52, 101, 53, 101, 54, 101, 55, 101, 56, 101, 57, 54, 97, 54, 98, 54, 99, 54, 100, 54, 101, 54, 102, 102, 48, 102, 49, 102, 50, 102, 51, 102, 52, 102, 53, 102, 54, 102, 55, 102, 56, 102, 57, 55, 97, 55, 98, 55, 99, 55, 100, 55, 101, 55, 102]⟩ : ByteArray).extract ((wrap64 (2 * t130)) : Int).toNat ((wrap64 ((wrap64 (2 * t130)) + 2)) : Int).toNat)).bind fun t131 => (some ((t131) % 256))) else (none)) else (none)) else (none))
theorem vitrineref04_Six.mono : ∀ a0 k, LeO (vitrineref04_Six.f k a0) (vitrineref04_Six.f (k + 1) a0) := by
  intro a0 k
  unfold vitrineref04_Six.f
  repeat' first
      | (with_reducible exact vitrineref01_Num.mono _ _)
      | (with_reducible exact LeO.refl _)
      | (with_reducible exact LeO.none _)
      | (with_reducible refine LeO.ite ?_ ?_)
      | (with_reducible refine LeO.bind ?_ (fun _ => ?_))
      | exact vitrineref01_Num.mono _ _
      | exact LeO.none _
      | refine LeO.ite ?_ ?_
      | refine LeO.bind ?_ (fun _ => ?_)
set_option maxHeartbeats 8000000 in
set_option maxRecDepth 100000 in
theorem vitrineref04_Six.calls (k : Nat) (a0 : Int) (r : Int) (w : World) (h : vitrineref04_Six.f k a0 = some r) :
    Calls Try.prog 12 #[.int .i64 a0] w fun e w' => e = .returned (.int .u8 r) ∧ Drawn0 w w' := by
  have H : ((vitrineref04_Mod.f a0 64).bind fun t130 => (if 0 ≤ (wrap64 (2 * t130)) then (if (wrap64 (2 * t130)) ≤ (wrap64 ((wrap64 (2 * t130)) + 2)) then (if (wrap64 ((wrap64 (2 * t130)) + 2)) ≤ 128 then ((vitrineref01_Num.f k ((⟨#[52, 48, 99, 49, 99, 50, 99, 51, 99, 52, 99, 53, 99, 54, 99, 55, 99, 56, 99, 57, 52, 97, 52, 98, 52, 99, 52, 100, 52, 101, 52, 102, 53, 48, 100, 49, 100, 50, 100, 51, 100, 52, 100, 53, 100, 54, 100, 55, 100, 56, 100, 57, 53, 97, 53, 98, 53, 99, 53, 100, 53, 101, 53, 102, 54, 48, 54, 49, 101, 50, 101, 51, 101, 52, 101, 53, 101, 54, 101, 55, 101, 56, 101, 57, 54, 97, 54, 98, 54, 99, 54, 100, 54, 101, 54, 102, 102, 48, 102, 49, 102, 50, 102, 51, 102, 52, 102, 53, 102, 54, 102, 55, 102, 56, 102, 57, 55, 97, 55, 98, 55, 99, 55, 100, 55, 101, 55, 102]⟩ : ByteArray).extract ((wrap64 (2 * t130)) : Int).toNat ((wrap64 ((wrap64 (2 * t130)) + 2)) : Int).toNat)).bind fun t131 => (some ((t131) % 256))) else (none)) else (none)) else (none))) = some r := h
  clear h
  replace H := Option.bind_eq_some_iff.mp H
  obtain ⟨t130, A20, H⟩ := H
  replace H : (if 0 ≤ (wrap64 (2 * t130)) then (if (wrap64 (2 * t130)) ≤ (wrap64 ((wrap64 (2 * t130)) + 2)) then (if (wrap64 ((wrap64 (2 * t130)) + 2)) ≤ 128 then ((vitrineref01_Num.f k ((⟨#[52, 48, 99, 49, 99, 50, 99, 51, 99, 52, 99, 53, 99, 54, 99, 55, 99, 56, 99, 57, 52, 97, 52, 98, 52, 99, 52, 100, 52, 101, 52, 102, 53, 48, 100, 49, 100, 50, 100, 51, 100, 52, 100, 53, 100, 54, 100, 55, 100, 56, 100, 57, 53, 97, 53, 98, 53, 99, 53, 100, 53, 101, 53, 102, 54, 48, 54, 49, 101, 50, 101, 51, 101, 52, 101, 53, 101, 54, 101, 55, 101, 56, 101, 57, 54, 97, 54, 98, 54, 99, 54, 100, 54, 101, 54, 102, 102, 48, 102, 49, 102, 50, 102, 51, 102, 52, 102, 53, 102, 54, 102, 55, 102, 56, 102, 57, 55, 97, 55, 98, 55, 99, 55, 100, 55, 101, 55, 102]⟩ : ByteArray).extract ((wrap64 (2 * t130)) : Int).toNat ((wrap64 ((wrap64 (2 * t130)) + 2)) : Int).toNat)).bind fun t131 => (some ((t131) % 256))) else (none)) else (none)) else (none)) = some r := H
  have A2 := Aside0.mk A20
  clear A20
  obtain ⟨ji3, hji3⟩ : ∃ j_ : Int, (wrap64 (2 * t130)) = j_ := ⟨_, rfl⟩
  replace H : (if 0 ≤ (ji3) then (if (ji3) ≤ (wrap64 ((ji3) + 2)) then (if (wrap64 ((ji3) + 2)) ≤ 128 then ((vitrineref01_Num.f k ((⟨#[52, 48, 99, 49, 99, 50, 99, 51, 99, 52, 99, 53, 99, 54, 99, 55, 99, 56, 99, 57, 52, 97, 52, 98, 52, 99, 52, 100, 52, 101, 52, 102, 53, 48, 100, 49, 100, 50, 100, 51, 100, 52, 100, 53, 100, 54, 100, 55, 100, 56, 100, 57, 53, 97, 53, 98, 53, 99, 53, 100, 53, 101, 53, 102, 54, 48, 54, 49, 101, 50, 101, 51, 101, 52, 101, 53, 101, 54, 101, 55, 101, 56, 101, 57, 54, 97, 54, 98, 54, 99, 54, 100, 54, 101, 54, 102, 102, 48, 102, 49, 102, 50, 102, 51, 102, 52, 102, 53, 102, 54, 102, 55, 102, 56, 102, 57, 55, 97, 55, 98, 55, 99, 55, 100, 55, 101, 55, 102]⟩ : ByteArray).extract ((ji3) : Int).toNat ((wrap64 ((ji3) + 2)) : Int).toNat)).bind fun t131 => (some ((t131) % 256))) else (none)) else (none)) else (none)) = some r := by first | (rw [hji3] at H; exact H) | (simp only [hji3] at H ⊢; exact H)
  (try rw [hji3] at A2)
  have hji3w : (IntKind.i64.wrap (2 * t130)) = ji3 := (i64_w _).trans hji3
  by_cases c4 : 0 ≤ (ji3)
  · rw [if_pos c4] at H
    have c4b0 := eq_true c4
    have c4b1 : decide (0 ≤ (ji3)) = true := decide_eq_true c4
    clear c4
    by_cases c5 : (ji3) ≤ (wrap64 ((ji3) + 2))
    · rw [if_pos c5] at H
      have c5b0 := eq_true c5
      have c5b1 : decide ((ji3) ≤ (wrap64 ((ji3) + 2))) = true := decide_eq_true c5
      by_cases c6 : (wrap64 ((ji3) + 2)) ≤ 128
      · rw [if_pos c6] at H
        have c6b0 := eq_true c6
        have c6b1 : decide ((wrap64 ((ji3) + 2)) ≤ 128) = true := decide_eq_true c6
        replace H := Option.bind_eq_some_iff.mp H
        obtain ⟨t131, A70, H⟩ := H
        replace H : (some ((t131) % 256)) = some r := H
        have A7 := Aside0.mk A70
        clear A70
        obtain rfl := Option.some.inj H
        go_enter Try.func12, Try.ntmps12
        go_wp2_with (first | ((with_reducible refine gate_callee (f := 37) rfl ?_); refine goesL_ (some 5) rfl rfl Try.func37 (by kernel_rfl) rfl #[.int .i64 a0, .int .i64 64] rfl (by (try simp only [List.map_toArray, List.map_cons, List.map_nil]); first | done | rfl | (simp only [List.length_drop, List.length_take]; rfl)) ?_; (with_reducible refine (vitrineref04_Mod.calls a0 64 t130 _ A2.out).mono ?_); rintro e w' ⟨rfl, ⟨nd, rfl⟩⟩; refine ⟨_, rfl, ?_⟩) | ((with_reducible refine gate_callee (f := 38) rfl ?_); refine goesL_ (some 11) rfl rfl Try.func38 (by kernel_rfl) rfl #[.string ((⟨#[52, 48, 99, 49, 99, 50, 99, 51, 99, 52, 99, 53, 99, 54, 99, 55, 99, 56, 99, 57, 52, 97, 52, 98, 52, 99, 52, 100, 52, 101, 52, 102, 53, 48, 100, 49, 100, 50, 100, 51, 100, 52, 100, 53, 100, 54, 100, 55, 100, 56, 100, 57, 53, 97, 53, 98, 53, 99, 53, 100, 53, 101, 53, 102, 54, 48, 54, 49, 101, 50, 101, 51, 101, 52, 101, 53, 101, 54, 101, 55, 101, 56, 101, 57, 54, 97, 54, 98, 54, 99, 54, 100, 54, 101, 54, 102, 102, 48, 102, 49, 102, 50, 102, 51, 102, 52, 102, 53, 102, 54, 102, 55, 102, 56, 102, 57, 55, 97, 55, 98, 55, 99, 55, 100, 55, 101, 55, 102]⟩ : ByteArray).extract ((ji3) : Int).toNat ((wrap64 ((ji3) + 2)) : Int).toNat)] rfl (by (try simp only [List.map_toArray, List.map_cons, List.map_nil]); first | done | (simp only [hji3]; rfl) | rfl | (simp only [List.length_drop, List.length_take]; rfl)) ?_; (with_reducible refine (vitrineref01_Num.calls k ((⟨#[52, 48, 99, 49, 99, 50, 99, 51, 99, 52, 99, 53, 99, 54, 99, 55, 99, 56, 99, 57, 52, 97, 52, 98, 52, 99, 52, 100, 52, 101, 52, 102, 53, 48, 100, 49, 100, 50, 100, 51, 100, 52, 100, 53, 100, 54, 100, 55, 100, 56, 100, 57, 53, 97, 53, 98, 53, 99, 53, 100, 53, 101, 53, 102, 54, 48, 54, 49, 101, 50, 101, 51, 101, 52, 101, 53, 101, 54, 101, 55, 101, 56, 101, 57, 54, 97, 54, 98, 54, 99, 54, 100, 54, 101, 54, 102, 102, 48, 102, 49, 102, 50, 102, 51, 102, 52, 102, 53, 102, 54, 102, 55, 102, 56, 102, 57, 55, 97, 55, 98, 55, 99, 55, 100, 55, 101, 55, 102]⟩ : ByteArray).extract ((ji3) : Int).toNat ((wrap64 ((ji3) + 2)) : Int).toNat) t131 _ A7.out).mono ?_); rintro e w' ⟨rfl, ⟨nd, rfl⟩⟩; refine ⟨_, rfl, ?_⟩))
        go_ret
        exact ⟨by first | rfl | (simp; done) | (simp only [← hji3] <;> (first | rfl | simp)) | (simp [*]; done), by repeat (first | exact Drawn0.refl _ | apply Drawn0.step)⟩
      · rw [if_neg c6] at H
        exact absurd H (by simp)
    · rw [if_neg c5] at H
      exact absurd H (by simp)
  · rw [if_neg c4] at H
    exact absurd H (by simp)

/-! ### vitrineref05_Bits: function 10 -/
mutual
def vitrineref05_Bits.j0 : Nat → Bool → Bool → Bool → Int → Bool → Option (Int × Int)
  | 0, _, _, _, _, _ => none
  | k + 1, x12, x147000, x147001, x147002, x147003 => if x12 = true then (some (0, 1)) else (if x147000 = true then (vitrineref05_Bits.j1 k (wrap64 ((wrap64 (4 * x147002)) + 32)) x147000 x147001 x147002 x147003) else (vitrineref05_Bits.j1 k (wrap64 (4 * x147002)) x147000 x147001 x147002 x147003))
def vitrineref05_Bits.j1 : Nat → Int → Bool → Bool → Int → Bool → Option (Int × Int)
  | 0, _, _, _, _, _ => none
  | k + 1, x4, x147000, x147001, x147002, x147003 => if x147001 = true then (if x147003 = true then (some ((wrap64 ((wrap64 (x4 + 16)) + 1)) % 256, 0)) else (some ((wrap64 (x4 + 16)) % 256, 0))) else (if x147003 = true then (some ((wrap64 (x4 + 1)) % 256, 0)) else (some ((x4) % 256, 0)))
end
def vitrineref05_Bits.f (k : Nat) (a0_0 : Bool) (a0_1 : Bool) (a0_2 : Int) (a0_3 : Bool) : Option (Int × Int) := if a0_2 < 0 then (vitrineref05_Bits.j0 k true a0_0 a0_1 a0_2 a0_3) else (vitrineref05_Bits.j0 k (decide (a0_2 > 3)) a0_0 a0_1 a0_2 a0_3)
theorem vitrineref05_Bits.mono_l : ∀ k, (∀ y0 y1 y2 y3 y4, LeO (vitrineref05_Bits.j0 k y0 y1 y2 y3 y4) (vitrineref05_Bits.j0 (k + 1) y0 y1 y2 y3 y4)) ∧ (∀ y0 y1 y2 y3 y4, LeO (vitrineref05_Bits.j1 k y0 y1 y2 y3 y4) (vitrineref05_Bits.j1 (k + 1) y0 y1 y2 y3 y4))
  | 0 => ⟨fun _ _ _ _ _ r h => by simp [vitrineref05_Bits.j0] at h, fun _ _ _ _ _ r h => by simp [vitrineref05_Bits.j1] at h⟩
  | k + 1 => by
    obtain ⟨ih0, ih1⟩ := vitrineref05_Bits.mono_l k
    refine ⟨?_, ?_⟩
    · intro y0 y1 y2 y3 y4
      unfold vitrineref05_Bits.j0
      repeat' first
      | (with_reducible exact ih0 _ _ _ _ _)
      | (with_reducible exact ih1 _ _ _ _ _)
      | (with_reducible exact LeO.refl _)
      | (with_reducible exact LeO.none _)
      | (with_reducible refine LeO.ite ?_ ?_)
      | (with_reducible refine LeO.bind ?_ (fun _ => ?_))
      | exact ih0 _ _ _ _ _
      | exact ih1 _ _ _ _ _
      | exact LeO.none _
      | refine LeO.ite ?_ ?_
      | refine LeO.bind ?_ (fun _ => ?_)
    · intro y0 y1 y2 y3 y4
      unfold vitrineref05_Bits.j1
      repeat' first
      | (with_reducible exact ih0 _ _ _ _ _)
      | (with_reducible exact ih1 _ _ _ _ _)
      | (with_reducible exact LeO.refl _)
      | (with_reducible exact LeO.none _)
      | (with_reducible refine LeO.ite ?_ ?_)
      | (with_reducible refine LeO.bind ?_ (fun _ => ?_))
      | exact ih0 _ _ _ _ _
      | exact ih1 _ _ _ _ _
      | exact LeO.none _
      | refine LeO.ite ?_ ?_
      | refine LeO.bind ?_ (fun _ => ?_)
theorem vitrineref05_Bits.mono : ∀ a0 a1 a2 a3 k, LeO (vitrineref05_Bits.f k a0 a1 a2 a3) (vitrineref05_Bits.f (k + 1) a0 a1 a2 a3) := by
  intro a0 a1 a2 a3 k
  obtain ⟨ih0, ih1⟩ := vitrineref05_Bits.mono_l k
  unfold vitrineref05_Bits.f
  repeat' first
      | (with_reducible exact ih0 _ _ _ _ _)
      | (with_reducible exact ih1 _ _ _ _ _)
      | (with_reducible exact LeO.refl _)
      | (with_reducible exact LeO.none _)
      | (with_reducible refine LeO.ite ?_ ?_)
      | (with_reducible refine LeO.bind ?_ (fun _ => ?_))
      | exact ih0 _ _ _ _ _
      | exact ih1 _ _ _ _ _
      | exact LeO.none _
      | refine LeO.ite ?_ ?_
      | refine LeO.bind ?_ (fun _ => ?_)
set_option maxHeartbeats 8000000 in
set_option maxRecDepth 100000 in
theorem vitrineref05_Bits.calls (k : Nat) (a0_0 : Bool) (a0_1 : Bool) (a0_2 : Int) (a0_3 : Bool) (r1 : Int) (r2 : Int) (w : World) (h : vitrineref05_Bits.f k a0_0 a0_1 a0_2 a0_3 = some (r1, r2)) :
    Calls Try.prog 10 #[.agg #[.bool a0_0, .bool a0_1, .int .i64 a0_2, .bool a0_3]] w fun e w' => e = .returned (.tuple #[.int .u8 r1, .int .i64 r2]) ∧ Below w.heap.size w w' := by
  have hu23 := Try.underlying23
  have HB := Aside0.mk (Below.refl w.heap.size w)
  have H : (if a0_2 < 0 then (vitrineref05_Bits.j0 k true a0_0 a0_1 a0_2 a0_3) else (vitrineref05_Bits.j0 k (decide (a0_2 > 3)) a0_0 a0_1 a0_2 a0_3)) = some (r1, r2) := h
  clear h
  have HC2 := Aside0.mk H
  clear H
  go_enter Try.func10, Try.ntmps10
  go_upto_region 1 with (first | ((with_reducible refine gate_dst (N := 1) rfl ?_); refine box_event ?hg (N := 1) ?hd (cs := #[.bool a0_0, .bool a0_1, .int .i64 a0_2, .bool a0_3]) (t := 23) ?hr ?_; (case hd => rfl); (case hg => rfl); (case hr => first | (go_simp; done) | (go_simp; rfl)); intro gb146 hg w3 hbox hb; have n0_ := Aside0.mk (below_step (by repeat (first | (with_reducible first | exact HB.out | apply below_alloc | apply pw_below_drewN | apply below_drew1) | exact HB.out)) hb); have n1_ := Aside0.mk (hbox); have n2_ := Aside0.mk ((by rw [hg]; exact (below_size (by repeat (first | (with_reducible first | exact HB.out | apply below_alloc | apply pw_below_drewN | apply below_drew1) | exact HB.out))) : w.heap.size ≤ gb146)); have n3_ := Aside0.mk ((by rw [hg]; exact (below_size (by repeat (first | (with_reducible first | exact HB.out | apply below_alloc | apply pw_below_drewN | apply below_drew1) | exact HB.out))) : w.heap.size ≤ gb146)); clear HB; have HB := n0_; have BK146 := n1_; have GW146 := n2_; have GE146 := n3_; clear n0_ n1_ n2_ n3_; clear hb hbox hg))
  (try simp only [Act.put, List.setIfInBounds_toArray, List.set_cons_zero, List.set_cons_succ])
  go_cut [12] (fun v12 wc => ∃ (kq : Nat) (x12_1 : Bool), v12 = .bool x12_1 ∧ Aside0 (vitrineref05_Bits.j0 kq x12_1 a0_0 a0_1 a0_2 a0_3 = some (r1, r2)) ∧ Aside0 (kq ≤ k) ∧ Aside0 (wc.heap[gb146]? = some (.cells #[.bool a0_0, .bool a0_1, .int .i64 a0_2, .bool a0_3] 23 (0, 0))) ∧ Aside0 (Below w.heap.size w wc))
  case first =>
    have H := HC2.out
    clear HC2
    by_cases c4 : a0_2 < 0
    · rw [if_pos c4] at H
      have c4b0 : decide (a0_2 < 0) = true := decide_eq_true c4
      clear c4
      (first | rw [c4b0] | (simp only [i64_w, i32_w]; rw [c4b0]) | skip)
      have H' := Aside0.mk H
      clear H
      have hcz5_0 : w3.cell? ⟨gb146, 0, none⟩ = some (.bool a0_0) := (blk_cell BK146.out 0).trans rfl
      have hcz5_1 : w3.cell? ⟨gb146, 1, none⟩ = some (.bool a0_1) := (blk_cell BK146.out 1).trans rfl
      have hcz5_2 : w3.cell? ⟨gb146, 2, none⟩ = some (.int .i64 a0_2) := (blk_cell BK146.out 2).trans rfl
      have hcz5_3 : w3.cell? ⟨gb146, 3, none⟩ = some (.bool a0_3) := (blk_cell BK146.out 3).trans rfl
      have hfz5_0 := blk_frozen BK146.out 0
      have hfz5_1 := blk_frozen BK146.out 1
      have hfz5_2 := blk_frozen BK146.out 2
      have hfz5_3 := blk_frozen BK146.out 3
      go_wp2
      go_meet
      case rel => exact ⟨_, (true), (by first | rfl | (simp; done) | (simp [*]; done)), H', ⟨by first | omega | exact Nat.le_refl _⟩, ⟨by (with_reducible repeat (first | refine blk_drewN ?_ _ | refine blk_drew ?_ | refine blk_alloc ?_ _)); exact BK146.out⟩, ⟨by repeat (first | (with_reducible first | exact HB.out | apply below_alloc | apply pw_below_drewN | apply below_drew1 | refine below_set ?_ GE146.out) | exact HB.out)⟩⟩
    · rw [if_neg c4] at H
      have c4b0 : decide (a0_2 < 0) = false := decide_eq_false c4
      clear c4
      (first | rw [c4b0] | (simp only [i64_w, i32_w]; rw [c4b0]) | skip)
      have H' := Aside0.mk H
      clear H
      have hcz6_0 : w3.cell? ⟨gb146, 0, none⟩ = some (.bool a0_0) := (blk_cell BK146.out 0).trans rfl
      have hcz6_1 : w3.cell? ⟨gb146, 1, none⟩ = some (.bool a0_1) := (blk_cell BK146.out 1).trans rfl
      have hcz6_2 : w3.cell? ⟨gb146, 2, none⟩ = some (.int .i64 a0_2) := (blk_cell BK146.out 2).trans rfl
      have hcz6_3 : w3.cell? ⟨gb146, 3, none⟩ = some (.bool a0_3) := (blk_cell BK146.out 3).trans rfl
      have hfz6_0 := blk_frozen BK146.out 0
      have hfz6_1 := blk_frozen BK146.out 1
      have hfz6_2 := blk_frozen BK146.out 2
      have hfz6_3 := blk_frozen BK146.out 3
      go_wp2
      go_meet
      case rel => exact ⟨_, (decide (a0_2 > 3)), (by first | rfl | (simp; done) | (simp [*]; done)), H', ⟨by first | omega | exact Nat.le_refl _⟩, ⟨by (with_reducible repeat (first | refine blk_drewN ?_ _ | refine blk_drew ?_ | refine blk_alloc ?_ _)); exact BK146.out⟩, ⟨by repeat (first | (with_reducible first | exact HB.out | apply below_alloc | apply pw_below_drewN | apply below_drew1 | refine below_set ?_ GE146.out) | exact HB.out)⟩⟩
  case rest =>
    clear HC2
    try clear c1
    try clear p2
    try clear c4
    try clear c4b0
    try clear hcz5_0
    try clear hcz5_1
    try clear hcz5_2
    try clear hcz5_3
    try clear hcz6_0
    try clear hcz6_1
    try clear hcz6_2
    try clear hcz6_3
    try clear hfz5_0
    try clear hfz5_1
    try clear hfz5_2
    try clear hfz5_3
    try clear hfz6_0
    try clear hfz6_1
    try clear hfz6_2
    try clear hfz6_3
    obtain ⟨kq, x12_1, rfl, HA, HJ1, BK146, HB⟩ := hcut
    cases kq with
    | zero => exact absurd HA.out (by simp [vitrineref05_Bits.j0])
    | succ kj1 =>
      have H := HA.out
      clear HA
      simp only [vitrineref05_Bits.j0] at H
      by_cases c7 : x12_1 = true
      · subst c7
        have H1 : (some (0, 1)) = some (r1, r2) := by rw [if_pos rfl] at H; exact H
        clear H
        have H := H1
        clear H1
        simp only [Option.some.injEq, Prod.mk.injEq] at H
        obtain ⟨rfl, rfl⟩ := H
        go_wp2
        go_ret2
        exact ⟨by first | rfl | (simp [errW_none, errW_some] <;> rfl) | (simp [*, errW_none, errW_some] <;> rfl), by repeat (first | (with_reducible first | exact HB.out | apply below_alloc | apply pw_below_drewN | apply below_drew1 | refine below_set ?_ GE146.out) | exact HB.out)⟩
      · replace c7 := Bool.eq_false_iff.mpr c7
        subst c7
        have H1 : (if a0_0 = true then (vitrineref05_Bits.j1 kj1 (wrap64 ((wrap64 (4 * a0_2)) + 32)) a0_0 a0_1 a0_2 a0_3) else (vitrineref05_Bits.j1 kj1 (wrap64 (4 * a0_2)) a0_0 a0_1 a0_2 a0_3)) = some (r1, r2) := by rw [if_neg (show ¬ (false = true) by decide)] at H; exact H
        clear H
        have H := H1
        clear H1
        have HC8 := Aside0.mk H
        clear H
        have hcz9_0 : wc.cell? ⟨gb146, 0, none⟩ = some (.bool a0_0) := (blk_cell BK146.out 0).trans rfl
        have hcz9_1 : wc.cell? ⟨gb146, 1, none⟩ = some (.bool a0_1) := (blk_cell BK146.out 1).trans rfl
        have hcz9_2 : wc.cell? ⟨gb146, 2, none⟩ = some (.int .i64 a0_2) := (blk_cell BK146.out 2).trans rfl
        have hcz9_3 : wc.cell? ⟨gb146, 3, none⟩ = some (.bool a0_3) := (blk_cell BK146.out 3).trans rfl
        have hfz9_0 := blk_frozen BK146.out 0
        have hfz9_1 := blk_frozen BK146.out 1
        have hfz9_2 := blk_frozen BK146.out 2
        have hfz9_3 := blk_frozen BK146.out 3
        go_upto_if 17 with (fail)
        go_cut [4] (fun v4 wc => ∃ (kq : Nat) (x4_7 : Int), v4 = .int .i64 x4_7 ∧ Aside0 (vitrineref05_Bits.j1 kq x4_7 a0_0 a0_1 a0_2 a0_3 = some (r1, r2)) ∧ Aside0 (kq ≤ kj1) ∧ Aside0 (wc.heap[gb146]? = some (.cells #[.bool a0_0, .bool a0_1, .int .i64 a0_2, .bool a0_3] 23 (0, 0))) ∧ Aside0 (Below w.heap.size w wc))
        case first =>
          have H := HC8.out
          clear HC8
          by_cases c10 : a0_0 = true
          · subst c10
            have H1 : (vitrineref05_Bits.j1 kj1 (wrap64 ((wrap64 (4 * a0_2)) + 32)) true a0_1 a0_2 a0_3) = some (r1, r2) := by rw [if_pos rfl] at H; exact H
            clear H
            have H := H1
            clear H1
            have H' := Aside0.mk H
            clear H
            go_wp2
            go_meet
            case rel => exact ⟨_, (wrap64 ((wrap64 (4 * a0_2)) + 32)), (by first | rfl | (simp; done) | (simp [*]; done)), H', ⟨by have := HJ1.out; first | omega | exact Nat.le_refl _⟩, ⟨by (with_reducible repeat (first | refine blk_drewN ?_ _ | refine blk_drew ?_ | refine blk_alloc ?_ _)); exact BK146.out⟩, ⟨by repeat (first | (with_reducible first | exact HB.out | apply below_alloc | apply pw_below_drewN | apply below_drew1 | refine below_set ?_ GE146.out) | exact HB.out)⟩⟩
          · replace c10 := Bool.eq_false_iff.mpr c10
            subst c10
            have H1 : (vitrineref05_Bits.j1 kj1 (wrap64 (4 * a0_2)) false a0_1 a0_2 a0_3) = some (r1, r2) := by rw [if_neg (show ¬ (false = true) by decide)] at H; exact H
            clear H
            have H := H1
            clear H1
            have H' := Aside0.mk H
            clear H
            go_wp2
            go_meet
            case rel => exact ⟨_, (wrap64 (4 * a0_2)), (by first | rfl | (simp; done) | (simp [*]; done)), H', ⟨by have := HJ1.out; first | omega | exact Nat.le_refl _⟩, ⟨by (with_reducible repeat (first | refine blk_drewN ?_ _ | refine blk_drew ?_ | refine blk_alloc ?_ _)); exact BK146.out⟩, ⟨by repeat (first | (with_reducible first | exact HB.out | apply below_alloc | apply pw_below_drewN | apply below_drew1 | refine below_set ?_ GE146.out) | exact HB.out)⟩⟩
        case rest =>
          clear HC8
          try clear c1
          try clear p2
          try clear c4
          try clear c4b0
          try clear p6
          try clear c7
          try clear c10
          try clear hcz5_0
          try clear hcz5_1
          try clear hcz5_2
          try clear hcz5_3
          try clear hcz6_0
          try clear hcz6_1
          try clear hcz6_2
          try clear hcz6_3
          try clear hcz9_0
          try clear hcz9_1
          try clear hcz9_2
          try clear hcz9_3
          try clear hfz5_0
          try clear hfz5_1
          try clear hfz5_2
          try clear hfz5_3
          try clear hfz6_0
          try clear hfz6_1
          try clear hfz6_2
          try clear hfz6_3
          try clear hfz9_0
          try clear hfz9_1
          try clear hfz9_2
          try clear hfz9_3
          try clear p2
          obtain ⟨kq, x4_7, rfl, HA, HJ7, BK146, HB⟩ := hcut
          cases kq with
          | zero => exact absurd HA.out (by simp [vitrineref05_Bits.j1])
          | succ kj7 =>
            have H := HA.out
            clear HA
            simp only [vitrineref05_Bits.j1] at H
            by_cases c11 : a0_1 = true
            · subst c11
              have H1 : (if a0_3 = true then (some ((wrap64 ((wrap64 (x4_7 + 16)) + 1)) % 256, 0)) else (some ((wrap64 (x4_7 + 16)) % 256, 0))) = some (r1, r2) := by rw [if_pos rfl] at H; exact H
              clear H
              have H := H1
              clear H1
              by_cases c12 : a0_3 = true
              · subst c12
                have H1 : (some ((wrap64 ((wrap64 (x4_7 + 16)) + 1)) % 256, 0)) = some (r1, r2) := by rw [if_pos rfl] at H; exact H
                clear H
                have H := H1
                clear H1
                simp only [Option.some.injEq, Prod.mk.injEq] at H
                obtain ⟨rfl, rfl⟩ := H
                have hcz13_0 : wc.cell? ⟨gb146, 0, none⟩ = some (.bool a0_0) := (blk_cell BK146.out 0).trans rfl
                have hcz13_1 : wc.cell? ⟨gb146, 1, none⟩ = some (.bool true) := (blk_cell BK146.out 1).trans rfl
                have hcz13_2 : wc.cell? ⟨gb146, 2, none⟩ = some (.int .i64 a0_2) := (blk_cell BK146.out 2).trans rfl
                have hcz13_3 : wc.cell? ⟨gb146, 3, none⟩ = some (.bool true) := (blk_cell BK146.out 3).trans rfl
                have hfz13_0 := blk_frozen BK146.out 0
                have hfz13_1 := blk_frozen BK146.out 1
                have hfz13_2 := blk_frozen BK146.out 2
                have hfz13_3 := blk_frozen BK146.out 3
                go_wp2
                go_ret2
                exact ⟨by first | rfl | (simp [errW_none, errW_some] <;> rfl) | (simp [*, errW_none, errW_some] <;> rfl), by repeat (first | (with_reducible first | exact HB.out | apply below_alloc | apply pw_below_drewN | apply below_drew1 | refine below_set ?_ GE146.out) | exact HB.out)⟩
              · replace c12 := Bool.eq_false_iff.mpr c12
                subst c12
                have H1 : (some ((wrap64 (x4_7 + 16)) % 256, 0)) = some (r1, r2) := by rw [if_neg (show ¬ (false = true) by decide)] at H; exact H
                clear H
                have H := H1
                clear H1
                simp only [Option.some.injEq, Prod.mk.injEq] at H
                obtain ⟨rfl, rfl⟩ := H
                have hcz14_0 : wc.cell? ⟨gb146, 0, none⟩ = some (.bool a0_0) := (blk_cell BK146.out 0).trans rfl
                have hcz14_1 : wc.cell? ⟨gb146, 1, none⟩ = some (.bool true) := (blk_cell BK146.out 1).trans rfl
                have hcz14_2 : wc.cell? ⟨gb146, 2, none⟩ = some (.int .i64 a0_2) := (blk_cell BK146.out 2).trans rfl
                have hcz14_3 : wc.cell? ⟨gb146, 3, none⟩ = some (.bool false) := (blk_cell BK146.out 3).trans rfl
                have hfz14_0 := blk_frozen BK146.out 0
                have hfz14_1 := blk_frozen BK146.out 1
                have hfz14_2 := blk_frozen BK146.out 2
                have hfz14_3 := blk_frozen BK146.out 3
                go_wp2
                go_ret2
                exact ⟨by first | rfl | (simp [errW_none, errW_some] <;> rfl) | (simp [*, errW_none, errW_some] <;> rfl), by repeat (first | (with_reducible first | exact HB.out | apply below_alloc | apply pw_below_drewN | apply below_drew1 | refine below_set ?_ GE146.out) | exact HB.out)⟩
            · replace c11 := Bool.eq_false_iff.mpr c11
              subst c11
              have H1 : (if a0_3 = true then (some ((wrap64 (x4_7 + 1)) % 256, 0)) else (some ((x4_7) % 256, 0))) = some (r1, r2) := by rw [if_neg (show ¬ (false = true) by decide)] at H; exact H
              clear H
              have H := H1
              clear H1
              by_cases c15 : a0_3 = true
              · subst c15
                have H1 : (some ((wrap64 (x4_7 + 1)) % 256, 0)) = some (r1, r2) := by rw [if_pos rfl] at H; exact H
                clear H
                have H := H1
                clear H1
                simp only [Option.some.injEq, Prod.mk.injEq] at H
                obtain ⟨rfl, rfl⟩ := H
                have hcz16_0 : wc.cell? ⟨gb146, 0, none⟩ = some (.bool a0_0) := (blk_cell BK146.out 0).trans rfl
                have hcz16_1 : wc.cell? ⟨gb146, 1, none⟩ = some (.bool false) := (blk_cell BK146.out 1).trans rfl
                have hcz16_2 : wc.cell? ⟨gb146, 2, none⟩ = some (.int .i64 a0_2) := (blk_cell BK146.out 2).trans rfl
                have hcz16_3 : wc.cell? ⟨gb146, 3, none⟩ = some (.bool true) := (blk_cell BK146.out 3).trans rfl
                have hfz16_0 := blk_frozen BK146.out 0
                have hfz16_1 := blk_frozen BK146.out 1
                have hfz16_2 := blk_frozen BK146.out 2
                have hfz16_3 := blk_frozen BK146.out 3
                go_wp2
                go_ret2
                exact ⟨by first | rfl | (simp [errW_none, errW_some] <;> rfl) | (simp [*, errW_none, errW_some] <;> rfl), by repeat (first | (with_reducible first | exact HB.out | apply below_alloc | apply pw_below_drewN | apply below_drew1 | refine below_set ?_ GE146.out) | exact HB.out)⟩
              · replace c15 := Bool.eq_false_iff.mpr c15
                subst c15
                have H1 : (some ((x4_7) % 256, 0)) = some (r1, r2) := by rw [if_neg (show ¬ (false = true) by decide)] at H; exact H
                clear H
                have H := H1
                clear H1
                simp only [Option.some.injEq, Prod.mk.injEq] at H
                obtain ⟨rfl, rfl⟩ := H
                have hcz17_0 : wc.cell? ⟨gb146, 0, none⟩ = some (.bool a0_0) := (blk_cell BK146.out 0).trans rfl
                have hcz17_1 : wc.cell? ⟨gb146, 1, none⟩ = some (.bool false) := (blk_cell BK146.out 1).trans rfl
                have hcz17_2 : wc.cell? ⟨gb146, 2, none⟩ = some (.int .i64 a0_2) := (blk_cell BK146.out 2).trans rfl
                have hcz17_3 : wc.cell? ⟨gb146, 3, none⟩ = some (.bool false) := (blk_cell BK146.out 3).trans rfl
                have hfz17_0 := blk_frozen BK146.out 0
                have hfz17_1 := blk_frozen BK146.out 1
                have hfz17_2 := blk_frozen BK146.out 2
                have hfz17_3 := blk_frozen BK146.out 3
                go_wp2
                go_ret2
                exact ⟨by first | rfl | (simp [errW_none, errW_some] <;> rfl) | (simp [*, errW_none, errW_some] <;> rfl), by repeat (first | (with_reducible first | exact HB.out | apply below_alloc | apply pw_below_drewN | apply below_drew1 | refine below_set ?_ GE146.out) | exact HB.out)⟩

/-! ### vitrineref05_Of: function 14 -/
def vitrineref05_Of.f (a0 : Int) : Option (Bool × Bool × Int × Bool) := some (decide ((Int.tmod (wrap64 (a0)) 64) ≥ 32), ((Int.tmod (wrap64 (Int.tdiv (Int.tmod (wrap64 (a0)) 64) 16)) 2) == 1), Int.tmod (wrap64 (Int.tdiv (Int.tmod (wrap64 (a0)) 64) 4)) 4, ((Int.tmod (wrap64 (a0)) 2) == 1))
set_option maxHeartbeats 8000000 in
set_option maxRecDepth 100000 in
theorem vitrineref05_Of.calls (a0 : Int) (r1 : Bool) (r2 : Bool) (r3 : Int) (r4 : Bool) (w : World) (h : vitrineref05_Of.f a0 = some (r1, r2, r3, r4)) :
    Calls Try.prog 14 #[.int .u8 a0] w fun e w' => e = .returned (.agg #[.bool r1, .bool r2, .int .i64 r3, .bool r4]) ∧ Below w.heap.size w w' := by
  have hu23 := Try.underlying23
  have HB := Aside0.mk (Below.refl w.heap.size w)
  have H : (some (decide ((Int.tmod (wrap64 (a0)) 64) ≥ 32), ((Int.tmod (wrap64 (Int.tdiv (Int.tmod (wrap64 (a0)) 64) 16)) 2) == 1), Int.tmod (wrap64 (Int.tdiv (Int.tmod (wrap64 (a0)) 64) 4)) 4, ((Int.tmod (wrap64 (a0)) 2) == 1))) = some (r1, r2, r3, r4) := h
  clear h
  simp only [Option.some.injEq, Prod.mk.injEq] at H
  obtain ⟨rfl, rfl, rfl, rfl⟩ := H
  go_enter Try.func14, Try.ntmps14
  go_wp2_with (first | ((with_reducible refine gate_dst (N := 2) rfl ?_); refine box_event ?hg (N := 2) ?hd (cs := #[.bool false, .bool false, .int .i64 0, .bool false]) (t := 23) ?hr ?_; (case hd => rfl); (case hg => rfl); (case hr => first | (go_simp; done) | (go_simp; rfl)); intro gb147 hg w2 hbox hb; have n0_ := Aside0.mk (below_step (by repeat (first | (with_reducible first | exact HB.out | apply below_alloc | apply pw_below_drewN | apply below_drew1) | exact HB.out)) hb); have n1_ := Aside0.mk (hbox); have n2_ := Aside0.mk ((by rw [hg]; exact (below_size (by repeat (first | (with_reducible first | exact HB.out | apply below_alloc | apply pw_below_drewN | apply below_drew1) | exact HB.out))) : w.heap.size ≤ gb147)); have n3_ := Aside0.mk ((by rw [hg]; exact (below_size (by repeat (first | (with_reducible first | exact HB.out | apply below_alloc | apply pw_below_drewN | apply below_drew1) | exact HB.out))) : w.heap.size ≤ gb147)); clear HB; have HB := n0_; have BK147 := n1_; have GW147 := n2_; have GE147 := n3_; clear n0_ n1_ n2_ n3_; clear hb hbox hg; have hcz3_0 : w2.cell? ⟨gb147, 0, none⟩ = some (.bool false) := (blk_cell BK147.out 0).trans rfl; have hcz3_1 : w2.cell? ⟨gb147, 1, none⟩ = some (.bool false) := (blk_cell BK147.out 1).trans rfl; have hcz3_2 : w2.cell? ⟨gb147, 2, none⟩ = some (.int .i64 0) := (blk_cell BK147.out 2).trans rfl; have hcz3_3 : w2.cell? ⟨gb147, 3, none⟩ = some (.bool false) := (blk_cell BK147.out 3).trans rfl; have hfz3_0 := blk_frozen BK147.out 0; have hfz3_1 := blk_frozen BK147.out 1; have hfz3_2 := blk_frozen BK147.out 2; have hfz3_3 := blk_frozen BK147.out 3))
  refine bodyPost_ret (results_cell_row rfl _ _ gb147 23 #[.bool (decide ((Int.tmod (wrap64 (a0)) 64) ≥ 32)), .bool ((Int.tmod (wrap64 (Int.tdiv (Int.tmod (wrap64 (a0)) 64) 16)) 2) == 1), .int .i64 (Int.tmod (wrap64 (Int.tdiv (Int.tmod (wrap64 (a0)) 64) 4)) 4), .bool ((Int.tmod (wrap64 (a0)) 2) == 1)] (0, 0) _ rfl (by (with_reducible repeat (first | refine blk_drewN ?_ _ | refine blk_drew ?_ | refine blk_alloc ?_ _)); refine blk_put (cs := #[.bool (decide ((Int.tmod (wrap64 (a0)) 64) ≥ 32)), .bool ((Int.tmod (wrap64 (Int.tdiv (Int.tmod (wrap64 (a0)) 64) 16)) 2) == 1), .int .i64 (Int.tmod (wrap64 (Int.tdiv (Int.tmod (wrap64 (a0)) 64) 4)) 4), .bool false]) ?_ 3 _ rfl; (with_reducible repeat (first | refine blk_drewN ?_ _ | refine blk_drew ?_ | refine blk_alloc ?_ _)); refine blk_put (cs := #[.bool (decide ((Int.tmod (wrap64 (a0)) 64) ≥ 32)), .bool ((Int.tmod (wrap64 (Int.tdiv (Int.tmod (wrap64 (a0)) 64) 16)) 2) == 1), .int .i64 0, .bool false]) ?_ 2 _ rfl; (with_reducible repeat (first | refine blk_drewN ?_ _ | refine blk_drew ?_ | refine blk_alloc ?_ _)); refine blk_put (cs := #[.bool (decide ((Int.tmod (wrap64 (a0)) 64) ≥ 32)), .bool false, .int .i64 0, .bool false]) ?_ 1 _ rfl; (with_reducible repeat (first | refine blk_drewN ?_ _ | refine blk_drew ?_ | refine blk_alloc ?_ _)); refine blk_put (cs := #[.bool false, .bool false, .int .i64 0, .bool false]) ?_ 0 _ rfl; (with_reducible repeat (first | refine blk_drewN ?_ _ | refine blk_drew ?_ | refine blk_alloc ?_ _)); exact BK147.out) Try.underlying23 rfl (by kernel_rfl)) rfl ?_
  exact ⟨by first | rfl | (simp [errW_none, errW_some] <;> rfl) | (simp [*, errW_none, errW_some] <;> rfl), by repeat (first | (with_reducible first | exact HB.out | apply below_alloc | apply pw_below_drewN | apply below_drew1 | refine below_set ?_ GE147.out) | exact HB.out)⟩

/-! ### vitrineref05_Six: function 35 -/
def vitrineref05_Six.f (k : Nat) (a0 : Int) : Option (Int) := (vitrineref05_Of.f a0).bind fun bt148 => ((vitrineref05_Bits.f k bt148.1 bt148.2.1 bt148.2.2.1 bt148.2.2.2).bind fun bt152 => (some bt152.1))
theorem vitrineref05_Six.mono : ∀ a0 k, LeO (vitrineref05_Six.f k a0) (vitrineref05_Six.f (k + 1) a0) := by
  intro a0 k
  unfold vitrineref05_Six.f
  repeat' first
      | (with_reducible exact vitrineref05_Bits.mono _ _ _ _ _)
      | (with_reducible exact LeO.refl _)
      | (with_reducible exact LeO.none _)
      | (with_reducible refine LeO.ite ?_ ?_)
      | (with_reducible refine LeO.bind ?_ (fun _ => ?_))
      | exact vitrineref05_Bits.mono _ _ _ _ _
      | exact LeO.none _
      | refine LeO.ite ?_ ?_
      | refine LeO.bind ?_ (fun _ => ?_)
set_option maxHeartbeats 8000000 in
set_option maxRecDepth 100000 in
theorem vitrineref05_Six.calls (k : Nat) (a0 : Int) (r : Int) (w : World) (h : vitrineref05_Six.f k a0 = some r) :
    Calls Try.prog 35 #[.int .u8 a0] w fun e w' => e = .returned (.int .u8 r) ∧ Below w.heap.size w w' := by
  have HB := Aside0.mk (Below.refl w.heap.size w)
  have H : ((vitrineref05_Of.f a0).bind fun bt148 => ((vitrineref05_Bits.f k bt148.1 bt148.2.1 bt148.2.2.1 bt148.2.2.2).bind fun bt152 => (some bt152.1))) = some r := h
  clear h
  replace H := Option.bind_eq_some_iff.mp H
  obtain ⟨⟨t148, t149, t150, t151⟩, A20, H⟩ := H
  replace H : ((vitrineref05_Bits.f k t148 t149 t150 t151).bind fun bt152 => (some bt152.1)) = some r := H
  have A2 := Aside0.mk A20
  clear A20
  replace H := Option.bind_eq_some_iff.mp H
  obtain ⟨⟨t152, t153⟩, A30, H⟩ := H
  replace H : (some t152) = some r := H
  have A3 := Aside0.mk A30
  clear A30
  obtain rfl := Option.some.inj H
  go_enter Try.func35, Try.ntmps35
  go_wp2_with (first | ((with_reducible refine gate_callee (f := 14) rfl ?_); refine goesL_ (some 7) rfl rfl Try.func14 (by kernel_rfl) rfl #[.int .u8 a0] rfl (by (try simp only [List.map_toArray, List.map_cons, List.map_nil]); first | done | rfl | (simp only [List.length_drop, List.length_take]; rfl)) ?_; (with_reducible refine (vitrineref05_Of.calls a0 t148 t149 t150 t151 _ A2.out).mono ?_); rintro e w4 ⟨rfl, hb⟩; refine ⟨_, rfl, ?_⟩; have n0_ := Aside0.mk (below_step (by repeat (first | (with_reducible first | exact HB.out | apply below_alloc | apply pw_below_drewN | apply below_drew1) | exact HB.out)) hb); clear HB; have HB := n0_; clear n0_; (try clear hb); (try clear hb2); (try clear hk); (try clear hi)) | ((with_reducible refine gate_callee (f := 10) rfl ?_); refine goesL_ (some 8) rfl rfl Try.func10 (by kernel_rfl) rfl #[.agg #[.bool t148, .bool t149, .int .i64 t150, .bool t151]] rfl (by (try simp only [List.map_toArray, List.map_cons, List.map_nil]); first | done | rfl | (simp only [List.length_drop, List.length_take]; rfl)) ?_; (with_reducible refine (vitrineref05_Bits.calls k t148 t149 t150 t151 t152 t153 _ A3.out).mono ?_); rintro e w5 ⟨rfl, hb⟩; refine ⟨_, rfl, ?_⟩; have n0_ := Aside0.mk (below_step (by repeat (first | (with_reducible first | exact HB.out | apply below_alloc | apply pw_below_drewN | apply below_drew1) | exact HB.out)) hb); clear HB; have HB := n0_; clear n0_; (try clear hb); (try clear hb2); (try clear hk); (try clear hi)))
  go_ret
  exact ⟨by first | rfl | (simp [errW_none, errW_some] <;> rfl) | (simp [*, errW_none, errW_some] <;> rfl), by repeat (first | (with_reducible first | exact HB.out | apply below_alloc | apply pw_below_drewN | apply below_drew1) | exact HB.out)⟩

end Go.Proofs.Ytfdhchgemplnoaa.PMk
