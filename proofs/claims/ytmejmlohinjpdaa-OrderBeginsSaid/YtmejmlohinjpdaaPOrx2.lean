-- Written by a program of this session (a changed copy of the kit's print program): not the kit's print.
import Derived.Test.YtmejmlohinjpdaaPOrx0
namespace Go.Proofs.Ytmejmlohinjpdaa.POr
open Go.RowKit Go.Proofs.YtmejmlohinjpdaaW.PrintWords Go.Proofs.YtmejmlohinjpdaaW.PrintLast Go.Proofs.YtmejmlohinjpdaaW.PrintMore
attribute [local go_sem] max2_int min2_int max_two min_two max_three min_three max_four min_four   -- for this text's walks alone
set_option linter.unusedVariables false
set_option linter.unusedSimpArgs false

/-! ### addr_zone: function 30 -/
def addr_zone.f (a0 : Int) : Option (Int × Int × Int × Int) := if (a0 / 16) = 0 then (some (64, 192, 1, 9)) else (if (a0 / 16) = 1 then (some (80, 208, 1, 9)) else (if (a0 / 16) = 2 then (some (96, 224, 2, 9)) else (some (112, 240, 0, 9))))
set_option maxHeartbeats 8000000 in
set_option maxRecDepth 100000 in
theorem addr_zone.calls (a0 : Int) (r1 : Int) (r2 : Int) (r3 : Int) (r4 : Int) (w : World) (h : addr_zone.f a0 = some (r1, r2, r3, r4)) :
    Calls Try.prog 30 #[.int .i64 a0] w fun e w' => e = .returned (.tuple #[.int .u8 r1, .int .u8 r2, .int .i64 r3, .int .i64 r4]) ∧ Drawn0 w w' := by
  have H : (if (a0 / 16) = 0 then (some (64, 192, 1, 9)) else (if (a0 / 16) = 1 then (some (80, 208, 1, 9)) else (if (a0 / 16) = 2 then (some (96, 224, 2, 9)) else (some (112, 240, 0, 9))))) = some (r1, r2, r3, r4) := h
  clear h
  by_cases c2 : (a0 / 16) = 0
  · rw [if_pos c2] at H
    have c2b0 : ((a0 / 16) == 0) = true := beq_iff_eq.mpr c2
    have c2b1 : ((a0 / 16) != 0) = false := bne_eq_false_iff_eq.mpr c2
    clear c2
    simp only [Option.some.injEq, Prod.mk.injEq] at H
    obtain ⟨rfl, rfl, rfl, rfl⟩ := H
    go_enter Try.func30, Try.ntmps30
    go_wp2
    refine bodyPost_ret (results_list (rs := [.tmp 2, .tmp 3, .tmp 4, .tmp 5]) rfl (by simp) (.tmp (.tmp (.tmp (.tmp .nil))))) rfl ?_
    exact ⟨by first | rfl | (simp; done) | (simp [i64_w]; done) | (simp [*]; done), by repeat (first | exact Drawn0.refl _ | apply Drawn0.step)⟩
  · rw [if_neg c2] at H
    have c2b0 : ((a0 / 16) == 0) = false := beq_eq_false_iff_ne.mpr c2
    have c2b1 : ((a0 / 16) != 0) = true := bne_iff_ne.mpr c2
    by_cases c3 : (a0 / 16) = 1
    · rw [if_pos c3] at H
      have c3b0 : ((a0 / 16) == 1) = true := beq_iff_eq.mpr c3
      have c3b1 : ((a0 / 16) != 1) = false := bne_eq_false_iff_eq.mpr c3
      clear c3
      simp only [Option.some.injEq, Prod.mk.injEq] at H
      obtain ⟨rfl, rfl, rfl, rfl⟩ := H
      go_enter Try.func30, Try.ntmps30
      go_wp2
      refine bodyPost_ret (results_list (rs := [.tmp 2, .tmp 3, .tmp 4, .tmp 5]) rfl (by simp) (.tmp (.tmp (.tmp (.tmp .nil))))) rfl ?_
      exact ⟨by first | rfl | (simp; done) | (simp [i64_w]; done) | (simp [*]; done), by repeat (first | exact Drawn0.refl _ | apply Drawn0.step)⟩
    · rw [if_neg c3] at H
      have c3b0 : ((a0 / 16) == 1) = false := beq_eq_false_iff_ne.mpr c3
      have c3b1 : ((a0 / 16) != 1) = true := bne_iff_ne.mpr c3
      by_cases c4 : (a0 / 16) = 2
      · rw [if_pos c4] at H
        have c4b0 : ((a0 / 16) == 2) = true := beq_iff_eq.mpr c4
        have c4b1 : ((a0 / 16) != 2) = false := bne_eq_false_iff_eq.mpr c4
        clear c4
        simp only [Option.some.injEq, Prod.mk.injEq] at H
        obtain ⟨rfl, rfl, rfl, rfl⟩ := H
        go_enter Try.func30, Try.ntmps30
        go_wp2
        refine bodyPost_ret (results_list (rs := [.tmp 2, .tmp 3, .tmp 4, .tmp 5]) rfl (by simp) (.tmp (.tmp (.tmp (.tmp .nil))))) rfl ?_
        exact ⟨by first | rfl | (simp; done) | (simp [i64_w]; done) | (simp [*]; done), by repeat (first | exact Drawn0.refl _ | apply Drawn0.step)⟩
      · rw [if_neg c4] at H
        have c4b0 : ((a0 / 16) == 2) = false := beq_eq_false_iff_ne.mpr c4
        have c4b1 : ((a0 / 16) != 2) = true := bne_iff_ne.mpr c4
        simp only [Option.some.injEq, Prod.mk.injEq] at H
        obtain ⟨rfl, rfl, rfl, rfl⟩ := H
        go_enter Try.func30, Try.ntmps30
        go_wp2
        refine bodyPost_ret (results_list (rs := [.tmp 2, .tmp 3, .tmp 4, .tmp 5]) rfl (by simp) (.tmp (.tmp (.tmp (.tmp .nil))))) rfl ?_
        exact ⟨by first | rfl | (simp; done) | (simp [i64_w]; done) | (simp [*]; done), by repeat (first | exact Drawn0.refl _ | apply Drawn0.step)⟩

/-! ### addr_Six: function 29 -/
def addr_Six.f (a0 : Int) : Option (Int) := (addr_zone.f (Go.bits .and .i64 a0 63)).bind fun bt105 => (if (Go.bits .and .i64 (Go.bits .and .i64 a0 63) 15) ≥ bt105.2.2.1 then (if (Go.bits .and .i64 (Go.bits .and .i64 a0 63) 15) ≤ bt105.2.2.2 then (some (Go.bits .or .u8 bt105.2.1 ((Go.bits .and .i64 (Go.bits .and .i64 a0 63) 15) % 256))) else (some (Go.bits .or .u8 bt105.1 ((Go.bits .and .i64 (Go.bits .and .i64 a0 63) 15) % 256)))) else (some (Go.bits .or .u8 bt105.1 ((Go.bits .and .i64 (Go.bits .and .i64 a0 63) 15) % 256))))
set_option maxHeartbeats 8000000 in
set_option maxRecDepth 100000 in
theorem addr_Six.calls (a0 : Int) (r : Int) (w : World) (h : addr_Six.f a0 = some r) :
    Calls Try.prog 29 #[.int .i64 a0] w fun e w' => e = .returned (.int .u8 r) ∧ Drawn0 w w' := by
  have H : ((addr_zone.f (Go.bits .and .i64 a0 63)).bind fun bt105 => (if (Go.bits .and .i64 (Go.bits .and .i64 a0 63) 15) ≥ bt105.2.2.1 then (if (Go.bits .and .i64 (Go.bits .and .i64 a0 63) 15) ≤ bt105.2.2.2 then (some (Go.bits .or .u8 bt105.2.1 ((Go.bits .and .i64 (Go.bits .and .i64 a0 63) 15) % 256))) else (some (Go.bits .or .u8 bt105.1 ((Go.bits .and .i64 (Go.bits .and .i64 a0 63) 15) % 256)))) else (some (Go.bits .or .u8 bt105.1 ((Go.bits .and .i64 (Go.bits .and .i64 a0 63) 15) % 256))))) = some r := h
  clear h
  replace H := Option.bind_eq_some_iff.mp H
  obtain ⟨⟨t105, t106, t107, t108⟩, A20, H⟩ := H
  replace H : (if (Go.bits .and .i64 (Go.bits .and .i64 a0 63) 15) ≥ t107 then (if (Go.bits .and .i64 (Go.bits .and .i64 a0 63) 15) ≤ t108 then (some (Go.bits .or .u8 t106 ((Go.bits .and .i64 (Go.bits .and .i64 a0 63) 15) % 256))) else (some (Go.bits .or .u8 t105 ((Go.bits .and .i64 (Go.bits .and .i64 a0 63) 15) % 256)))) else (some (Go.bits .or .u8 t105 ((Go.bits .and .i64 (Go.bits .and .i64 a0 63) 15) % 256)))) = some r := H
  have A2 := Aside0.mk A20
  clear A20
  by_cases c3 : (Go.bits .and .i64 (Go.bits .and .i64 a0 63) 15) ≥ t107
  · rw [if_pos c3] at H
    have c3b0 : decide (t107 ≤ (Go.bits .and .i64 (Go.bits .and .i64 a0 63) 15)) = true := decide_eq_true c3
    clear c3
    by_cases c4 : (Go.bits .and .i64 (Go.bits .and .i64 a0 63) 15) ≤ t108
    · rw [if_pos c4] at H
      have c4b0 : decide ((Go.bits .and .i64 (Go.bits .and .i64 a0 63) 15) ≤ t108) = true := decide_eq_true c4
      clear c4
      obtain rfl := Option.some.inj H
      go_enter Try.func29, Try.ntmps29
      go_wp2_with (first | ((with_reducible refine gate_callee (f := 30) rfl ?_); refine goesL_ (some 12) rfl rfl Try.func30 (by kernel_rfl) rfl #[.int .i64 (Go.bits .and .i64 a0 63)] rfl (by (try simp only [List.map_toArray, List.map_cons, List.map_nil]); first | done | rfl | (simp only [List.length_drop, List.length_take]; rfl)) ?_; (with_reducible refine (addr_zone.calls (Go.bits .and .i64 a0 63) t105 t106 t107 t108 _ A2.out).mono ?_); rintro e w' ⟨rfl, ⟨nd, rfl⟩⟩; refine ⟨_, rfl, ?_⟩))
      go_ret
      exact ⟨by first | rfl | (simp; done) | (simp [i64_w]; done) | (simp [*]; done), by repeat (first | exact Drawn0.refl _ | apply Drawn0.step)⟩
    · rw [if_neg c4] at H
      have c4b0 : decide ((Go.bits .and .i64 (Go.bits .and .i64 a0 63) 15) ≤ t108) = false := decide_eq_false c4
      clear c4
      obtain rfl := Option.some.inj H
      go_enter Try.func29, Try.ntmps29
      go_wp2_with (first | ((with_reducible refine gate_callee (f := 30) rfl ?_); refine goesL_ (some 12) rfl rfl Try.func30 (by kernel_rfl) rfl #[.int .i64 (Go.bits .and .i64 a0 63)] rfl (by (try simp only [List.map_toArray, List.map_cons, List.map_nil]); first | done | rfl | (simp only [List.length_drop, List.length_take]; rfl)) ?_; (with_reducible refine (addr_zone.calls (Go.bits .and .i64 a0 63) t105 t106 t107 t108 _ A2.out).mono ?_); rintro e w' ⟨rfl, ⟨nd, rfl⟩⟩; refine ⟨_, rfl, ?_⟩))
      go_ret
      exact ⟨by first | rfl | (simp; done) | (simp [i64_w]; done) | (simp [*]; done), by repeat (first | exact Drawn0.refl _ | apply Drawn0.step)⟩
  · rw [if_neg c3] at H
    have c3b0 : decide (t107 ≤ (Go.bits .and .i64 (Go.bits .and .i64 a0 63) 15)) = false := decide_eq_false c3
    clear c3
    obtain rfl := Option.some.inj H
    go_enter Try.func29, Try.ntmps29
    go_wp2_with (first | ((with_reducible refine gate_callee (f := 30) rfl ?_); refine goesL_ (some 12) rfl rfl Try.func30 (by kernel_rfl) rfl #[.int .i64 (Go.bits .and .i64 a0 63)] rfl (by (try simp only [List.map_toArray, List.map_cons, List.map_nil]); first | done | rfl | (simp only [List.length_drop, List.length_take]; rfl)) ?_; (with_reducible refine (addr_zone.calls (Go.bits .and .i64 a0 63) t105 t106 t107 t108 _ A2.out).mono ?_); rintro e w' ⟨rfl, ⟨nd, rfl⟩⟩; refine ⟨_, rfl, ?_⟩))
    go_ret
    exact ⟨by first | rfl | (simp; done) | (simp [i64_w]; done) | (simp [*]; done), by repeat (first | exact Drawn0.refl _ | apply Drawn0.step)⟩

/-! ### addr_Unsix: function 28 -/
def addr_Unsix.l0 : Nat → Int → Int → Option (Int)
  | 0, _, _ => none
  | k + 1, x0, x4 => if x4 < 64 then ((addr_Six.f x4).bind fun t109 => (if t109 = x0 then (some x4) else (addr_Unsix.l0 k x0 (wrap64 (x4 + 1))))) else (some (wrap64 (Go.bits .and .u8 x0 63)))
def addr_Unsix.f (k : Nat) (a0 : Int) : Option (Int) := addr_Unsix.l0 k a0 0
theorem addr_Unsix.mono_l : ∀ k, (∀ y0 y1, LeO (addr_Unsix.l0 k y0 y1) (addr_Unsix.l0 (k + 1) y0 y1))
  | 0 => fun _ _ r h => by simp [addr_Unsix.l0] at h
  | k + 1 => by
    have ih0 := addr_Unsix.mono_l k
    · intro y0 y1
      unfold addr_Unsix.l0
      repeat' first
      | (with_reducible exact ih0 _ _)
      | (with_reducible exact LeO.refl _)
      | (with_reducible exact LeO.none _)
      | (with_reducible refine LeO.ite ?_ ?_)
      | (with_reducible refine LeO.bind ?_ (fun _ => ?_))
      | exact ih0 _ _
      | exact LeO.none _
      | refine LeO.ite ?_ ?_
      | refine LeO.bind ?_ (fun _ => ?_)
theorem addr_Unsix.mono : ∀ a0 k, LeO (addr_Unsix.f k a0) (addr_Unsix.f (k + 1) a0) := by
  intro a0 k
  have ih0 := addr_Unsix.mono_l k
  unfold addr_Unsix.f
  repeat' first
      | (with_reducible exact ih0 _ _)
      | (with_reducible exact LeO.refl _)
      | (with_reducible exact LeO.none _)
      | (with_reducible refine LeO.ite ?_ ?_)
      | (with_reducible refine LeO.bind ?_ (fun _ => ?_))
      | exact ih0 _ _
      | exact LeO.none _
      | refine LeO.ite ?_ ?_
      | refine LeO.bind ?_ (fun _ => ?_)
set_option maxHeartbeats 8000000 in
set_option maxRecDepth 100000 in
theorem addr_Unsix.calls (k : Nat) (a0 : Int) (r : Int) (w : World) (h : addr_Unsix.f k a0 = some r) :
    Calls Try.prog 28 #[.int .u8 a0] w fun e w' => e = .returned (.int .i64 r) ∧ Drawn0 w w' := by
  have H : (addr_Unsix.l0 k a0 0) = some r := h
  clear h
  have H' := Aside0.mk H
  clear H
  go_enter Try.func28, Try.ntmps28
  go_wp2
  go_loopg [4] k (fun kq v4 w' => ∃ (x4_1 : Int), v4 = .int .i64 x4_1 ∧ Aside0 (addr_Unsix.l0 kq a0 x4_1 = some r) ∧ Aside0 (kq ≤ k) ∧ Drawn0 w w')
  case atStart => exact ⟨(0), (by first | rfl | (simp; done) | (simp [*]; done)), H', ⟨Nat.le_refl _⟩, by repeat (first | exact Drawn0.refl _ | apply Drawn0.step)⟩
  case round =>
    clear H'
    obtain ⟨x4_1, rfl, HA, HK1, ⟨m1, rfl⟩⟩ := hrel
    cases gk with
    | zero => exact absurd HA.out (by simp [addr_Unsix.l0])
    | succ k1 =>
      have H := HA.out
      clear HA
      simp only [addr_Unsix.l0] at H
      by_cases c2 : x4_1 < 64
      · rw [if_pos c2] at H
        have c2b0 : decide (x4_1 < 64) = true := decide_eq_true c2
        clear c2
        replace H := Option.bind_eq_some_iff.mp H
        obtain ⟨t109, A30, H⟩ := H
        replace H : (if t109 = a0 then (some x4_1) else (addr_Unsix.l0 k1 a0 (wrap64 (x4_1 + 1)))) = some r := H
        have A3 := Aside0.mk A30
        clear A30
        by_cases c4 : t109 = a0
        · rw [if_pos c4] at H
          have c4b0 : (t109 == a0) = true := beq_iff_eq.mpr c4
          have c4b1 : (t109 != a0) = false := bne_eq_false_iff_eq.mpr c4
          clear c4
          obtain rfl := Option.some.inj H
          go_wp2_with (first | ((with_reducible refine gate_callee (f := 29) rfl ?_); refine goesL_ (some 8) rfl rfl Try.func29 (by kernel_rfl) rfl #[.int .i64 x4_1] rfl (by (try simp only [List.map_toArray, List.map_cons, List.map_nil]); first | done | rfl | (simp only [List.length_drop, List.length_take]; rfl)) ?_; (with_reducible refine (addr_Six.calls x4_1 t109 _ A3.out).mono ?_); rintro e w' ⟨rfl, ⟨nd, rfl⟩⟩; refine ⟨_, rfl, ?_⟩))
          go_ret
          exact ⟨by first | rfl | (simp; done) | (simp [i64_w]; done) | (simp [*]; done), by repeat (first | exact Drawn0.refl _ | apply Drawn0.step)⟩
        · rw [if_neg c4] at H
          have c4b0 : (t109 == a0) = false := beq_eq_false_iff_ne.mpr c4
          have c4b1 : (t109 != a0) = true := bne_iff_ne.mpr c4
          have H' := Aside0.mk H
          clear H
          go_wp2_with (first | ((with_reducible refine gate_callee (f := 29) rfl ?_); refine goesL_ (some 8) rfl rfl Try.func29 (by kernel_rfl) rfl #[.int .i64 x4_1] rfl (by (try simp only [List.map_toArray, List.map_cons, List.map_nil]); first | done | rfl | (simp only [List.length_drop, List.length_take]; rfl)) ?_; (with_reducible refine (addr_Six.calls x4_1 t109 _ A3.out).mono ?_); rintro e w' ⟨rfl, ⟨nd, rfl⟩⟩; refine ⟨_, rfl, ?_⟩))
          go_roundg k1
          case measure => have := HK1.out; omega
          case rel => exact ⟨(wrap64 (x4_1 + 1)), (by first | rfl | (simp; done) | (simp [*]; done)), H', ⟨by have := HK1.out; omega⟩, by repeat (first | exact Drawn0.refl _ | apply Drawn0.step)⟩
      · rw [if_neg c2] at H
        have c2b0 : decide (x4_1 < 64) = false := decide_eq_false c2
        clear c2
        obtain rfl := Option.some.inj H
        go_wp2
        go_ret
        exact ⟨by first | rfl | (simp; done) | (simp [i64_w]; done) | (simp [*]; done), by repeat (first | exact Drawn0.refl _ | apply Drawn0.step)⟩

/-! ### addr_Decode: function 25 -/
mutual
def addr_Decode.j0 : Nat → Int → List Int → Bool → Option (Int × Int)
  | 0, _, _, _ => none
  | k + 1, x0, x1, x7 => if x7 = true then (some (0, 1)) else (if (x1.length : Int) < 2 then (some (0, 2)) else (if 0 < (x1.length : Int) then (if 1 < (x1.length : Int) then (if x0 = 16 then (addr_Decode.j1 k x1 (Go.bits .or .i64 (wrap64 ((wrap64 (rd x1 0)) * 256)) (wrap64 (rd x1 1))) true) else (addr_Decode.j1 k x1 (Go.bits .or .i64 (wrap64 ((wrap64 (rd x1 0)) * 256)) (wrap64 (rd x1 1))) (((rd x1 0) / 64) == 0))) else (none)) else (none)))
def addr_Decode.j1 : Nat → List Int → Int → Bool → Option (Int × Int)
  | 0, _, _, _ => none
  | k + 1, x1, x6, x32 => if x32 = true then (some (x6, 0)) else (if 0 < (x1.length : Int) then (if ((rd x1 0) / 64) = 2 then (some (0, 9)) else ((addr_Unsix.f k (rd x1 0)).bind fun t115 => (if 1 < (x1.length : Int) then ((addr_Unsix.f k (rd x1 1)).bind fun t117 => (some (Go.bits .or .i64 (wrap64 (t115 * 64)) t117, 0))) else (none)))) else (none))
end
def addr_Decode.f (k : Nat) (a0 : Int) (l1 : List Int) : Option (Int × Int) := if a0 = 12 then (addr_Decode.j0 k a0 l1 false) else (if a0 = 14 then (addr_Decode.j0 k a0 l1 false) else (addr_Decode.j0 k a0 l1 (a0 != 16)))
theorem addr_Decode.mono_l : ∀ k, (∀ y0 y1 y2, LeO (addr_Decode.j0 k y0 y1 y2) (addr_Decode.j0 (k + 1) y0 y1 y2)) ∧ (∀ y0 y1 y2, LeO (addr_Decode.j1 k y0 y1 y2) (addr_Decode.j1 (k + 1) y0 y1 y2))
  | 0 => ⟨fun _ _ _ r h => by simp [addr_Decode.j0] at h, fun _ _ _ r h => by simp [addr_Decode.j1] at h⟩
  | k + 1 => by
    obtain ⟨ih0, ih1⟩ := addr_Decode.mono_l k
    refine ⟨?_, ?_⟩
    · intro y0 y1 y2
      unfold addr_Decode.j0
      repeat' first
      | (with_reducible exact ih0 _ _ _)
      | (with_reducible exact ih1 _ _ _)
      | (with_reducible exact addr_Unsix.mono _ _)
      | (with_reducible exact LeO.refl _)
      | (with_reducible exact LeO.none _)
      | (with_reducible refine LeO.ite ?_ ?_)
      | (with_reducible refine LeO.bind ?_ (fun _ => ?_))
      | exact ih0 _ _ _
      | exact ih1 _ _ _
      | exact addr_Unsix.mono _ _
      | exact LeO.none _
      | refine LeO.ite ?_ ?_
      | refine LeO.bind ?_ (fun _ => ?_)
    · intro y0 y1 y2
      unfold addr_Decode.j1
      repeat' first
      | (with_reducible exact ih0 _ _ _)
      | (with_reducible exact ih1 _ _ _)
      | (with_reducible exact addr_Unsix.mono _ _)
      | (with_reducible exact LeO.refl _)
      | (with_reducible exact LeO.none _)
      | (with_reducible refine LeO.ite ?_ ?_)
      | (with_reducible refine LeO.bind ?_ (fun _ => ?_))
      | exact ih0 _ _ _
      | exact ih1 _ _ _
      | exact addr_Unsix.mono _ _
      | exact LeO.none _
      | refine LeO.ite ?_ ?_
      | refine LeO.bind ?_ (fun _ => ?_)
theorem addr_Decode.mono : ∀ a0 a1 k, LeO (addr_Decode.f k a0 a1) (addr_Decode.f (k + 1) a0 a1) := by
  intro a0 a1 k
  obtain ⟨ih0, ih1⟩ := addr_Decode.mono_l k
  unfold addr_Decode.f
  repeat' first
      | (with_reducible exact ih0 _ _ _)
      | (with_reducible exact ih1 _ _ _)
      | (with_reducible exact addr_Unsix.mono _ _)
      | (with_reducible exact LeO.refl _)
      | (with_reducible exact LeO.none _)
      | (with_reducible refine LeO.ite ?_ ?_)
      | (with_reducible refine LeO.bind ?_ (fun _ => ?_))
      | exact ih0 _ _ _
      | exact ih1 _ _ _
      | exact addr_Unsix.mono _ _
      | exact LeO.none _
      | refine LeO.ite ?_ ?_
      | refine LeO.bind ?_ (fun _ => ?_)
set_option maxHeartbeats 8000000 in
set_option maxRecDepth 100000 in
theorem addr_Decode.calls (k : Nat) (a0 : Int) (A1 : Option Addr) (c1 : Nat) (l1 : List Int) (r1 : Int) (r2 : Int) (w : World) (hr1 : Kd.C (Kd.int .u8) w A1 l1.length l1) (hc1 : l1.length ≤ c1) (h : addr_Decode.f k a0 l1 = some (r1, r2)) :
    Calls Try.prog 25 #[.int .i64 a0, .slice A1 l1.length c1] w fun e w' => e = .returned (.tuple #[.int .i64 r1, .int .i64 r2]) ∧ Drawn0 w w' := by
  have HR1 := Aside0.mk hr1
  have HC1 := Aside0.mk hc1
  clear hr1 hc1
  have H : (if a0 = 12 then (addr_Decode.j0 k a0 l1 false) else (if a0 = 14 then (addr_Decode.j0 k a0 l1 false) else (addr_Decode.j0 k a0 l1 (a0 != 16)))) = some (r1, r2) := h
  clear h
  have HC3 := Aside0.mk H
  clear H
  go_enter Try.func25, Try.ntmps25
  go_upto_region 1 with (fail)
  repeat (go_quiet (fail); go_upto_region 1 with (fail))
  go_cut [7] (fun v7 wc => ∃ (kq : Nat) (x7_2 : Bool), v7 = .bool x7_2 ∧ Aside0 (addr_Decode.j0 kq a0 l1 x7_2 = some (r1, r2)) ∧ Aside0 (kq ≤ k) ∧ Drawn0 w wc)
  case first =>
    have H := HC3.out
    clear HC3
    by_cases c4 : a0 = 12
    · rw [if_pos c4] at H
      have c4b0 : (a0 == 12) = true := beq_iff_eq.mpr c4
      have c4b1 : (a0 != 12) = false := bne_eq_false_iff_eq.mpr c4
      clear c4
      (first | rw [c4b0] | (simp only [i64_w, i32_w]; rw [c4b0]) | skip)
      have H' := Aside0.mk H
      clear H
      go_wp2
      repeat (go_quiet (fail); try go_wp2)
      go_meet
      case rel => exact ⟨_, (false), (by first | rfl | (simp; done) | (simp [*]; done)), H', ⟨by first | omega | exact Nat.le_refl _⟩, by repeat (first | exact Drawn0.refl _ | apply Drawn0.step)⟩
    · rw [if_neg c4] at H
      have c4b0 : (a0 == 12) = false := beq_eq_false_iff_ne.mpr c4
      have c4b1 : (a0 != 12) = true := bne_iff_ne.mpr c4
      (first | rw [c4b0] | (simp only [i64_w, i32_w]; rw [c4b0]) | skip)
      by_cases c5 : a0 = 14
      · rw [if_pos c5] at H
        have c5b0 : (a0 == 14) = true := beq_iff_eq.mpr c5
        have c5b1 : (a0 != 14) = false := bne_eq_false_iff_eq.mpr c5
        clear c5
        have H' := Aside0.mk H
        clear H
        go_wp2
        repeat (go_quiet (fail); try go_wp2)
        go_meet
        case rel => exact ⟨_, (false), (by first | rfl | (simp; done) | (simp [*]; done)), H', ⟨by first | omega | exact Nat.le_refl _⟩, by repeat (first | exact Drawn0.refl _ | apply Drawn0.step)⟩
      · rw [if_neg c5] at H
        have c5b0 : (a0 == 14) = false := beq_eq_false_iff_ne.mpr c5
        have c5b1 : (a0 != 14) = true := bne_iff_ne.mpr c5
        have H' := Aside0.mk H
        clear H
        go_wp2
        repeat (go_quiet (fail); try go_wp2)
        go_meet
        case rel => exact ⟨_, ((a0 != 16)), (by first | rfl | (simp; done) | (simp [*]; done)), H', ⟨by first | omega | exact Nat.le_refl _⟩, by repeat (first | exact Drawn0.refl _ | apply Drawn0.step)⟩
  case rest =>
    clear HC3
    try clear c1
    try clear c2
    try clear p2
    try clear c4
    try clear c4b0
    try clear c4b1
    try clear c5
    try clear c5b0
    try clear c5b1
    obtain ⟨kq, x7_2, rfl, HA, HJ2, ⟨mc2, rfl⟩⟩ := hcut
    cases kq with
    | zero => exact absurd HA.out (by simp [addr_Decode.j0])
    | succ kj2 =>
      have H := HA.out
      clear HA
      simp only [addr_Decode.j0] at H
      by_cases c6 : x7_2 = true
      · subst c6
        have H1 : (some (0, 1)) = some (r1, r2) := by rw [if_pos rfl] at H; exact H
        clear H
        have H := H1
        clear H1
        simp only [Option.some.injEq, Prod.mk.injEq] at H
        obtain ⟨rfl, rfl⟩ := H
        go_wp2
        repeat (go_quiet (fail); try go_wp2)
        go_ret2
        exact ⟨by first | rfl | (simp; done) | (simp [i64_w]; done) | (simp [*]; done), by repeat (first | exact Drawn0.refl _ | apply Drawn0.step)⟩
      · replace c6 := Bool.eq_false_iff.mpr c6
        subst c6
        have H1 : (if (l1.length : Int) < 2 then (some (0, 2)) else (if 0 < (l1.length : Int) then (if 1 < (l1.length : Int) then (if a0 = 16 then (addr_Decode.j1 kj2 l1 (Go.bits .or .i64 (wrap64 ((wrap64 (rd l1 0)) * 256)) (wrap64 (rd l1 1))) true) else (addr_Decode.j1 kj2 l1 (Go.bits .or .i64 (wrap64 ((wrap64 (rd l1 0)) * 256)) (wrap64 (rd l1 1))) (((rd l1 0) / 64) == 0))) else (none)) else (none))) = some (r1, r2) := by rw [if_neg (show ¬ (false = true) by decide)] at H; exact H
        clear H
        have H := H1
        clear H1
        by_cases c7 : (l1.length : Int) < 2
        · rw [if_pos c7] at H
          have c7b0 : decide ((l1.length : Int) < 2) = true := decide_eq_true c7
          have c7b1 : decide (l1.length < 2) = true := decide_eq_true (by omega)
          clear c7
          simp only [Option.some.injEq, Prod.mk.injEq] at H
          obtain ⟨rfl, rfl⟩ := H
          go_wp2
          repeat (go_quiet (fail); try go_wp2)
          go_ret2
          exact ⟨by first | rfl | (simp; done) | (simp [i64_w]; done) | (simp [*]; done), by repeat (first | exact Drawn0.refl _ | apply Drawn0.step)⟩
        · rw [if_neg c7] at H
          have c7b0 : decide ((l1.length : Int) < 2) = false := decide_eq_false c7
          have c7b1 : decide (l1.length < 2) = false := decide_eq_false (by omega)
          clear c7
          by_cases c8 : 0 < (l1.length : Int)
          · rw [if_pos c8] at H
            have c8b0 : decide (0 < (l1.length : Int)) = true := decide_eq_true c8
            have c8b1 : decide (0 < l1.length) = true := decide_eq_true (by omega)
            clear c8
            by_cases c9 : 1 < (l1.length : Int)
            · rw [if_pos c9] at H
              have c9b0 : decide (1 < (l1.length : Int)) = true := decide_eq_true c9
              have c9b1 : decide (1 < l1.length) = true := decide_eq_true (by omega)
              clear c9
              have HC10 := Aside0.mk H
              clear H
              have p110 : 0 ≤ (0 : Int) := (by omega)
              have q110 : 0 < (l1.length : Int) := of_decide_eq_true (by first | (with_reducible assumption) | assumption)
              obtain ⟨ad110, e110, hx110_0⟩ := Kd.at_int HR1.out 0 p110 q110
              cases e110
              have qi110 : (0 < l1.length) = True := eq_true (by omega)
              (try rw [show ((0 : Int)).toNat = 0 from rfl] at hx110_0)
              (try rw [Addr.add_zero'] at hx110_0)
              replace p110 := eq_true p110
              replace q110 := eq_true q110
              have p111 : 0 ≤ (1 : Int) := (by omega)
              have q111 : 1 < (l1.length : Int) := of_decide_eq_true (by first | (with_reducible assumption) | assumption)
              obtain ⟨ad111, e111, hx111_0⟩ := Kd.at_int HR1.out 1 p111 q111
              obtain rfl : ad110 = ad111 := (by injection e111)
              (try simp only [show (1 : Int).toNat = 1 from rfl, Nat.reduceMul, Nat.reduceEqDiff, Go.Addr.add, ↓reduceIte] at hx111_0)
              have qi111 : (1 < l1.length) = True := eq_true (by omega)
              (try rw [show ((1 : Int)).toNat = 1 from rfl] at hx111_0)
              replace p111 := eq_true p111
              replace q111 := eq_true q111
              go_upto_region 6 with (fail)
              repeat (go_quiet (fail); go_upto_region 6 with (fail))
              go_cut [32] (fun v32 wc => ∃ (kq : Nat) (x32_9 : Bool), v32 = .bool x32_9 ∧ Aside0 (addr_Decode.j1 kq l1 (Go.bits .or .i64 (wrap64 ((wrap64 (rd l1 0)) * 256)) (wrap64 (rd l1 1))) x32_9 = some (r1, r2)) ∧ Aside0 (kq ≤ kj2) ∧ Drawn0 w wc)
              case first =>
                have H := HC10.out
                clear HC10
                by_cases c11 : a0 = 16
                · rw [if_pos c11] at H
                  have c11b0 : (a0 == 16) = true := beq_iff_eq.mpr c11
                  have c11b1 : (a0 != 16) = false := bne_eq_false_iff_eq.mpr c11
                  clear c11
                  (first | rw [c11b0] | (simp only [i64_w, i32_w]; rw [c11b0]) | skip)
                  have H' := Aside0.mk H
                  clear H
                  go_wp2
                  repeat (go_quiet (fail); try go_wp2)
                  go_meet
                  case rel => exact ⟨_, (true), (by first | rfl | (simp; done) | (simp [*]; done)), H', ⟨by have := HJ2.out; first | omega | exact Nat.le_refl _⟩, by repeat (first | exact Drawn0.refl _ | apply Drawn0.step)⟩
                · rw [if_neg c11] at H
                  have c11b0 : (a0 == 16) = false := beq_eq_false_iff_ne.mpr c11
                  have c11b1 : (a0 != 16) = true := bne_iff_ne.mpr c11
                  (first | rw [c11b0] | (simp only [i64_w, i32_w]; rw [c11b0]) | skip)
                  have H' := Aside0.mk H
                  clear H
                  have p112 : 0 ≤ (0 : Int) := (by omega)
                  have q112 : 0 < (l1.length : Int) := of_decide_eq_true (by first | (with_reducible assumption) | assumption)
                  obtain ⟨ad112, e112, hx112_0⟩ := Kd.at_int HR1.out 0 p112 q112
                  obtain rfl : ad110 = ad112 := (by injection e112)
                  have qi112 : (0 < l1.length) = True := eq_true (by omega)
                  (try rw [show ((0 : Int)).toNat = 0 from rfl] at hx112_0)
                  (try rw [Addr.add_zero'] at hx112_0)
                  replace p112 := eq_true p112
                  replace q112 := eq_true q112
                  go_wp2
                  repeat (go_quiet (fail); try go_wp2)
                  go_meet
                  case rel => exact ⟨_, ((((rd l1 0) / 64) == 0)), (by first | rfl | (simp; done) | (simp [*]; done)), H', ⟨by have := HJ2.out; first | omega | exact Nat.le_refl _⟩, by repeat (first | exact Drawn0.refl _ | apply Drawn0.step)⟩
              case rest =>
                clear HC10
                try clear c1
                try clear p1
                try clear q1
                try clear hx1
                try clear qi1
                try clear c2
                try clear p2
                try clear c4
                try clear c4b0
                try clear c4b1
                try clear c5
                try clear c5b0
                try clear c5b1
                try clear c6
                try clear p6
                try clear c7
                try clear c7b0
                try clear c7b1
                try clear c8
                try clear c8b0
                try clear c8b1
                try clear c9
                try clear c9b0
                try clear c9b1
                try clear c11
                try clear c11b0
                try clear c11b1
                try clear p11
                try clear q11
                try clear hx11
                try clear qi11
                try clear hx110_0
                try clear hx111_0
                try clear hx112_0
                try clear p110
                try clear p111
                try clear p112
                try clear p2
                try clear q110
                try clear q111
                try clear q112
                obtain ⟨kq, x32_9, rfl, HA, HJ9, ⟨mc9, rfl⟩⟩ := hcut
                cases kq with
                | zero => exact absurd HA.out (by simp [addr_Decode.j1])
                | succ kj9 =>
                  have H := HA.out
                  clear HA
                  simp only [addr_Decode.j1] at H
                  by_cases c12 : x32_9 = true
                  · subst c12
                    have H1 : (some ((Go.bits .or .i64 (wrap64 ((wrap64 (rd l1 0)) * 256)) (wrap64 (rd l1 1))), 0)) = some (r1, r2) := by rw [if_pos rfl] at H; exact H
                    clear H
                    have H := H1
                    clear H1
                    simp only [Option.some.injEq, Prod.mk.injEq] at H
                    obtain ⟨rfl, rfl⟩ := H
                    go_wp2
                    repeat (go_quiet (fail); try go_wp2)
                    go_ret2
                    exact ⟨by first | rfl | (simp; done) | (simp [i64_w]; done) | (simp [*]; done), by repeat (first | exact Drawn0.refl _ | apply Drawn0.step)⟩
                  · replace c12 := Bool.eq_false_iff.mpr c12
                    subst c12
                    have H1 : (if 0 < (l1.length : Int) then (if ((rd l1 0) / 64) = 2 then (some (0, 9)) else ((addr_Unsix.f kj9 (rd l1 0)).bind fun t115 => (if 1 < (l1.length : Int) then ((addr_Unsix.f kj9 (rd l1 1)).bind fun t117 => (some (Go.bits .or .i64 (wrap64 (t115 * 64)) t117, 0))) else (none)))) else (none)) = some (r1, r2) := by rw [if_neg (show ¬ (false = true) by decide)] at H; exact H
                    clear H
                    have H := H1
                    clear H1
                    by_cases c13 : 0 < (l1.length : Int)
                    · rw [if_pos c13] at H
                      have c13b0 : decide (0 < (l1.length : Int)) = true := decide_eq_true c13
                      have c13b1 : decide (0 < l1.length) = true := decide_eq_true (by omega)
                      clear c13
                      by_cases c14 : ((rd l1 0) / 64) = 2
                      · rw [if_pos c14] at H
                        have c14b0 : (((rd l1 0) / 64) == 2) = true := beq_iff_eq.mpr c14
                        have c14b1 : (((rd l1 0) / 64) != 2) = false := bne_eq_false_iff_eq.mpr c14
                        clear c14
                        simp only [Option.some.injEq, Prod.mk.injEq] at H
                        obtain ⟨rfl, rfl⟩ := H
                        have p113 : 0 ≤ (0 : Int) := (by omega)
                        have q113 : 0 < (l1.length : Int) := of_decide_eq_true (by first | (with_reducible assumption) | assumption)
                        obtain ⟨ad113, e113, hx113_0⟩ := Kd.at_int HR1.out 0 p113 q113
                        obtain rfl : ad110 = ad113 := (by injection e113)
                        have qi113 : (0 < l1.length) = True := eq_true (by omega)
                        (try rw [show ((0 : Int)).toNat = 0 from rfl] at hx113_0)
                        (try rw [Addr.add_zero'] at hx113_0)
                        replace p113 := eq_true p113
                        replace q113 := eq_true q113
                        go_wp2
                        repeat (go_quiet (fail); try go_wp2)
                        go_ret2
                        exact ⟨by first | rfl | (simp; done) | (simp [i64_w]; done) | (simp [*]; done), by repeat (first | exact Drawn0.refl _ | apply Drawn0.step)⟩
                      · rw [if_neg c14] at H
                        have c14b0 : (((rd l1 0) / 64) == 2) = false := beq_eq_false_iff_ne.mpr c14
                        have c14b1 : (((rd l1 0) / 64) != 2) = true := bne_iff_ne.mpr c14
                        replace H := Option.bind_eq_some_iff.mp H
                        obtain ⟨t115, A150, H⟩ := H
                        replace H : (if 1 < (l1.length : Int) then ((addr_Unsix.f kj9 (rd l1 1)).bind fun t117 => (some (Go.bits .or .i64 (wrap64 (t115 * 64)) t117, 0))) else (none)) = some (r1, r2) := H
                        have A15 := Aside0.mk A150
                        clear A150
                        by_cases c16 : 1 < (l1.length : Int)
                        · rw [if_pos c16] at H
                          have c16b0 : decide (1 < (l1.length : Int)) = true := decide_eq_true c16
                          have c16b1 : decide (1 < l1.length) = true := decide_eq_true (by omega)
                          clear c16
                          replace H := Option.bind_eq_some_iff.mp H
                          obtain ⟨t117, A170, H⟩ := H
                          replace H : (some (Go.bits .or .i64 (wrap64 (t115 * 64)) t117, 0)) = some (r1, r2) := H
                          have A17 := Aside0.mk A170
                          clear A170
                          simp only [Option.some.injEq, Prod.mk.injEq] at H
                          obtain ⟨rfl, rfl⟩ := H
                          have p113 : 0 ≤ (0 : Int) := (by omega)
                          have q113 : 0 < (l1.length : Int) := of_decide_eq_true (by first | (with_reducible assumption) | assumption)
                          obtain ⟨ad113, e113, hx113_0⟩ := Kd.at_int HR1.out 0 p113 q113
                          obtain rfl : ad110 = ad113 := (by injection e113)
                          have qi113 : (0 < l1.length) = True := eq_true (by omega)
                          (try rw [show ((0 : Int)).toNat = 0 from rfl] at hx113_0)
                          (try rw [Addr.add_zero'] at hx113_0)
                          replace p113 := eq_true p113
                          replace q113 := eq_true q113
                          have p114 : 0 ≤ (0 : Int) := (by omega)
                          have q114 : 0 < (l1.length : Int) := of_decide_eq_true (by first | (with_reducible assumption) | assumption)
                          obtain ⟨ad114, e114, hx114_0⟩ := Kd.at_int HR1.out 0 p114 q114
                          obtain rfl : ad110 = ad114 := (by injection e114)
                          have qi114 : (0 < l1.length) = True := eq_true (by omega)
                          (try rw [show ((0 : Int)).toNat = 0 from rfl] at hx114_0)
                          (try rw [Addr.add_zero'] at hx114_0)
                          replace p114 := eq_true p114
                          replace q114 := eq_true q114
                          go_wp2_with (first | (go_at_call 28; (with_reducible refine (addr_Unsix.calls kj9 (rd l1 0) t115 _ A15.out).mono ?_); rintro e w' ⟨rfl, ⟨nd, rfl⟩⟩; (try first | exact ⟨rfl, _, World.drewN_drewN _ _ _⟩ | exact ⟨rfl, _, Eq.trans (World.drewN_drewN _ _ _) (congrArg (World.drewN _) (Nat.add_assoc _ _ _))⟩); have p116 : 0 ≤ (1 : Int) := (by omega); have q116 : 1 < (l1.length : Int) := of_decide_eq_true (by first | (with_reducible assumption) | assumption); obtain ⟨ad116, e116, hx116_0⟩ := Kd.at_int HR1.out 1 p116 q116; obtain rfl : ad110 = ad116 := (by injection e116); (try simp only [show (1 : Int).toNat = 1 from rfl, Nat.reduceMul, Nat.reduceEqDiff, Go.Addr.add, ↓reduceIte] at hx116_0); have qi116 : (1 < l1.length) = True := eq_true (by omega); (try rw [show ((1 : Int)).toNat = 1 from rfl] at hx116_0); replace p116 := eq_true p116; replace q116 := eq_true q116) | (go_at_call 28; (with_reducible refine (addr_Unsix.calls kj9 (rd l1 1) t117 _ A17.out).mono ?_); rintro e w' ⟨rfl, ⟨nd, rfl⟩⟩; (try first | exact ⟨rfl, _, World.drewN_drewN _ _ _⟩ | exact ⟨rfl, _, Eq.trans (World.drewN_drewN _ _ _) (congrArg (World.drewN _) (Nat.add_assoc _ _ _))⟩)))
                          repeat (go_quiet (first | (go_at_call 28; (with_reducible refine (addr_Unsix.calls kj9 (rd l1 0) t115 _ A15.out).mono ?_); rintro e w' ⟨rfl, ⟨nd, rfl⟩⟩; (try first | exact ⟨rfl, _, World.drewN_drewN _ _ _⟩ | exact ⟨rfl, _, Eq.trans (World.drewN_drewN _ _ _) (congrArg (World.drewN _) (Nat.add_assoc _ _ _))⟩); have p116 : 0 ≤ (1 : Int) := (by omega); have q116 : 1 < (l1.length : Int) := of_decide_eq_true (by first | (with_reducible assumption) | assumption); obtain ⟨ad116, e116, hx116_0⟩ := Kd.at_int HR1.out 1 p116 q116; obtain rfl : ad110 = ad116 := (by injection e116); (try simp only [show (1 : Int).toNat = 1 from rfl, Nat.reduceMul, Nat.reduceEqDiff, Go.Addr.add, ↓reduceIte] at hx116_0); have qi116 : (1 < l1.length) = True := eq_true (by omega); (try rw [show ((1 : Int)).toNat = 1 from rfl] at hx116_0); replace p116 := eq_true p116; replace q116 := eq_true q116) | (go_at_call 28; (with_reducible refine (addr_Unsix.calls kj9 (rd l1 1) t117 _ A17.out).mono ?_); rintro e w' ⟨rfl, ⟨nd, rfl⟩⟩; (try first | exact ⟨rfl, _, World.drewN_drewN _ _ _⟩ | exact ⟨rfl, _, Eq.trans (World.drewN_drewN _ _ _) (congrArg (World.drewN _) (Nat.add_assoc _ _ _))⟩))); try go_wp2_with (first | (go_at_call 28; (with_reducible refine (addr_Unsix.calls kj9 (rd l1 0) t115 _ A15.out).mono ?_); rintro e w' ⟨rfl, ⟨nd, rfl⟩⟩; (try first | exact ⟨rfl, _, World.drewN_drewN _ _ _⟩ | exact ⟨rfl, _, Eq.trans (World.drewN_drewN _ _ _) (congrArg (World.drewN _) (Nat.add_assoc _ _ _))⟩); have p116 : 0 ≤ (1 : Int) := (by omega); have q116 : 1 < (l1.length : Int) := of_decide_eq_true (by first | (with_reducible assumption) | assumption); obtain ⟨ad116, e116, hx116_0⟩ := Kd.at_int HR1.out 1 p116 q116; obtain rfl : ad110 = ad116 := (by injection e116); (try simp only [show (1 : Int).toNat = 1 from rfl, Nat.reduceMul, Nat.reduceEqDiff, Go.Addr.add, ↓reduceIte] at hx116_0); have qi116 : (1 < l1.length) = True := eq_true (by omega); (try rw [show ((1 : Int)).toNat = 1 from rfl] at hx116_0); replace p116 := eq_true p116; replace q116 := eq_true q116) | (go_at_call 28; (with_reducible refine (addr_Unsix.calls kj9 (rd l1 1) t117 _ A17.out).mono ?_); rintro e w' ⟨rfl, ⟨nd, rfl⟩⟩; (try first | exact ⟨rfl, _, World.drewN_drewN _ _ _⟩ | exact ⟨rfl, _, Eq.trans (World.drewN_drewN _ _ _) (congrArg (World.drewN _) (Nat.add_assoc _ _ _))⟩))))
                          go_ret2
                          exact ⟨by first | rfl | (simp; done) | (simp [i64_w]; done) | (simp [*]; done), by repeat (first | exact Drawn0.refl _ | apply Drawn0.step)⟩
                        · rw [if_neg c16] at H
                          exact absurd H (by simp)
                    · rw [if_neg c13] at H
                      exact absurd H (by simp)
            · rw [if_neg c9] at H
              exact absurd H (by simp)
          · rw [if_neg c8] at H
            exact absurd H (by simp)

end Go.Proofs.Ytmejmlohinjpdaa.POr
