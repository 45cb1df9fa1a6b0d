-- Written by a program of this session (a changed copy of the kit's print program): not the kit's print.
import Derived.Test.YtnncgipmfikooaaDoorPHdx0
import Derived.Test.YtnncgipmfikooaaDoorPHdx2
import Derived.Test.YtnncgipmfikooaaDoorPHdx4
import Derived.Test.YtnncgipmfikooaaDoorPHdx5
import Derived.Test.YtnncgipmfikooaaDoorPHdx9
import Derived.Test.YtnncgipmfikooaaDoorHdA
namespace Go.Proofs.YtnncgipmfikooaaDoor.PHd
open Go.RowKit Go.Proofs.YtnncgipmfikooaaDoorW.PrintWords Go.Proofs.YtnncgipmfikooaaDoorW.PrintLast Go.Proofs.YtnncgipmfikooaaDoorW.PrintMore
attribute [local go_sem] max2_int min2_int max_two min_two max_three min_three max_four min_four   -- for this text's walks alone
set_option linter.unusedVariables false
set_option linter.unusedSimpArgs false

/-! ### vitrinelaw09_HeaderResponses: function 5 -/
mutual
def vitrinelaw09_HeaderResponses.j0 : Nat → Int → Int → Bool → Option (Bool)
  | 0, _, _, _ => none
  | k + 1, x0, x2, x44 => if x44 = true then (none) else (if x0 < 32767 then (vitrinelaw09_HeaderResponses.j1 k x0 x2 (IntKind.u16.wrap (x0 + 1))) else (vitrinelaw09_HeaderResponses.j1 k x0 x2 0))
def vitrinelaw09_HeaderResponses.j1 : Nat → Int → Int → Int → Option (Bool)
  | 0, _, _, _ => none
  | k + 1, x0, x2, x9 => (header_Positive.f x0).bind fun t301 => ((vitrineref09_Response.f x0 true 0).bind fun t304 => ((vitrineref01_Same.f t301 t304).bind fun t307 => (if t307 = true then ((header_Name.f x2).bind fun t308 => ((vitrineref09_Name.f x2).bind fun t309 => (if t308.toList = t309.toList then ((header_Next.f x0).bind fun t310 => (some (t310 == x9))) else (none)))) else (none))))
end
def vitrinelaw09_HeaderResponses.f (k : Nat) (a0 : Int) (a1 : Int) (a2 : Int) : Option (Bool) := (vitrinelaw09_awake.f k).bind fun t292 => (if t292 = true then ((header_Negative.f a0 a1).bind fun bt293 => (if a1 ≤ 3 then (if bt293.2 = 0 then ((vitrineref09_Response.f a0 false a1).bind fun t297 => ((vitrineref01_Same.f bt293.1 t297).bind fun t300 => (if t300 = true then (if a1 > 3 then (if bt293.2 = 1 then (vitrinelaw09_HeaderResponses.j0 k a0 a2 ((bt293.1.length : Int) != 0)) else (none)) else (vitrinelaw09_HeaderResponses.j0 k a0 a2 false)) else (none)))) else (none)) else (if a1 > 3 then (if bt293.2 = 1 then (vitrinelaw09_HeaderResponses.j0 k a0 a2 ((bt293.1.length : Int) != 0)) else (none)) else (vitrinelaw09_HeaderResponses.j0 k a0 a2 false)))) else (none))
theorem vitrinelaw09_HeaderResponses.mono_l : ∀ k, (∀ y0 y1 y2, LeO (vitrinelaw09_HeaderResponses.j0 k y0 y1 y2) (vitrinelaw09_HeaderResponses.j0 (k + 1) y0 y1 y2)) ∧ (∀ y0 y1 y2, LeO (vitrinelaw09_HeaderResponses.j1 k y0 y1 y2) (vitrinelaw09_HeaderResponses.j1 (k + 1) y0 y1 y2))
  | 0 => ⟨fun _ _ _ r h => by simp [vitrinelaw09_HeaderResponses.j0] at h, fun _ _ _ r h => by simp [vitrinelaw09_HeaderResponses.j1] at h⟩
  | k + 1 => by
    obtain ⟨ih0, ih1⟩ := vitrinelaw09_HeaderResponses.mono_l k
    refine ⟨?_, ?_⟩
    · intro y0 y1 y2
      unfold vitrinelaw09_HeaderResponses.j0
      repeat' first
      | (with_reducible exact ih0 _ _ _)
      | (with_reducible exact ih1 _ _ _)
      | (with_reducible exact vitrinelaw09_awake.mono _)
      | (with_reducible exact LeO.refl _)
      | (with_reducible exact LeO.none _)
      | (with_reducible refine LeO.ite ?_ ?_)
      | (with_reducible refine LeO.bind ?_ (fun _ => ?_))
      | exact ih0 _ _ _
      | exact ih1 _ _ _
      | exact vitrinelaw09_awake.mono _
      | exact LeO.none _
      | refine LeO.ite ?_ ?_
      | refine LeO.bind ?_ (fun _ => ?_)
    · intro y0 y1 y2
      unfold vitrinelaw09_HeaderResponses.j1
      repeat' first
      | (with_reducible exact ih0 _ _ _)
      | (with_reducible exact ih1 _ _ _)
      | (with_reducible exact vitrinelaw09_awake.mono _)
      | (with_reducible exact LeO.refl _)
      | (with_reducible exact LeO.none _)
      | (with_reducible refine LeO.ite ?_ ?_)
      | (with_reducible refine LeO.bind ?_ (fun _ => ?_))
      | exact ih0 _ _ _
      | exact ih1 _ _ _
      | exact vitrinelaw09_awake.mono _
      | exact LeO.none _
      | refine LeO.ite ?_ ?_
      | refine LeO.bind ?_ (fun _ => ?_)
theorem vitrinelaw09_HeaderResponses.mono : ∀ a0 a1 a2 k, LeO (vitrinelaw09_HeaderResponses.f k a0 a1 a2) (vitrinelaw09_HeaderResponses.f (k + 1) a0 a1 a2) := by
  intro a0 a1 a2 k
  obtain ⟨ih0, ih1⟩ := vitrinelaw09_HeaderResponses.mono_l k
  unfold vitrinelaw09_HeaderResponses.f
  repeat' first
      | (with_reducible exact ih0 _ _ _)
      | (with_reducible exact ih1 _ _ _)
      | (with_reducible exact vitrinelaw09_awake.mono _)
      | (with_reducible exact LeO.refl _)
      | (with_reducible exact LeO.none _)
      | (with_reducible refine LeO.ite ?_ ?_)
      | (with_reducible refine LeO.bind ?_ (fun _ => ?_))
      | exact ih0 _ _ _
      | exact ih1 _ _ _
      | exact vitrinelaw09_awake.mono _
      | exact LeO.none _
      | refine LeO.ite ?_ ?_
      | refine LeO.bind ?_ (fun _ => ?_)
set_option maxHeartbeats 8000000 in
set_option maxRecDepth 100000 in
theorem vitrinelaw09_HeaderResponses.calls (k : Nat) (a0 : Int) (a1 : Int) (a2 : Int) (r : Bool) (w : World) (hGL : GL w) (h : vitrinelaw09_HeaderResponses.f k a0 a1 a2 = some r) :
    Calls Tryd.prog 5 #[.int .u16 a0, .int .u8 a1, .int .u8 a2] w fun e w' => e = .returned (.bool r) ∧ Below w.heap.size w w' := by
  have HGL := Aside0.mk hGL
  clear hGL
  have HB := Aside0.mk (Below.refl w.heap.size w)
  have H : ((vitrinelaw09_awake.f k).bind fun t292 => (if t292 = true then ((header_Negative.f a0 a1).bind fun bt293 => (if a1 ≤ 3 then (if bt293.2 = 0 then ((vitrineref09_Response.f a0 false a1).bind fun t297 => ((vitrineref01_Same.f bt293.1 t297).bind fun t300 => (if t300 = true then (if a1 > 3 then (if bt293.2 = 1 then (vitrinelaw09_HeaderResponses.j0 k a0 a2 ((bt293.1.length : Int) != 0)) else (none)) else (vitrinelaw09_HeaderResponses.j0 k a0 a2 false)) else (none)))) else (none)) else (if a1 > 3 then (if bt293.2 = 1 then (vitrinelaw09_HeaderResponses.j0 k a0 a2 ((bt293.1.length : Int) != 0)) else (none)) else (vitrinelaw09_HeaderResponses.j0 k a0 a2 false)))) else (none))) = some r := h
  clear h
  replace H := Option.bind_eq_some_iff.mp H
  obtain ⟨t292, A40, H⟩ := H
  replace H : (if t292 = true then ((header_Negative.f a0 a1).bind fun bt293 => (if a1 ≤ 3 then (if bt293.2 = 0 then ((vitrineref09_Response.f a0 false a1).bind fun t297 => ((vitrineref01_Same.f bt293.1 t297).bind fun t300 => (if t300 = true then (if a1 > 3 then (if bt293.2 = 1 then (vitrinelaw09_HeaderResponses.j0 k a0 a2 ((bt293.1.length : Int) != 0)) else (none)) else (vitrinelaw09_HeaderResponses.j0 k a0 a2 false)) else (none)))) else (none)) else (if a1 > 3 then (if bt293.2 = 1 then (vitrinelaw09_HeaderResponses.j0 k a0 a2 ((bt293.1.length : Int) != 0)) else (none)) else (vitrinelaw09_HeaderResponses.j0 k a0 a2 false)))) else (none)) = some r := H
  have A4 := Aside0.mk A40
  clear A40
  by_cases c5 : t292 = true
  · subst c5
    have H1 : ((header_Negative.f a0 a1).bind fun bt293 => (if a1 ≤ 3 then (if bt293.2 = 0 then ((vitrineref09_Response.f a0 false a1).bind fun t297 => ((vitrineref01_Same.f bt293.1 t297).bind fun t300 => (if t300 = true then (if a1 > 3 then (if bt293.2 = 1 then (vitrinelaw09_HeaderResponses.j0 k a0 a2 ((bt293.1.length : Int) != 0)) else (none)) else (vitrinelaw09_HeaderResponses.j0 k a0 a2 false)) else (none)))) else (none)) else (if a1 > 3 then (if bt293.2 = 1 then (vitrinelaw09_HeaderResponses.j0 k a0 a2 ((bt293.1.length : Int) != 0)) else (none)) else (vitrinelaw09_HeaderResponses.j0 k a0 a2 false)))) = some r := by rw [if_pos rfl] at H; exact H
    clear H
    have H := H1
    clear H1
    replace H := Option.bind_eq_some_iff.mp H
    obtain ⟨⟨t293, t294⟩, A60, H⟩ := H
    replace H : (if a1 ≤ 3 then (if t294 = 0 then ((vitrineref09_Response.f a0 false a1).bind fun t297 => ((vitrineref01_Same.f t293 t297).bind fun t300 => (if t300 = true then (if a1 > 3 then (if t294 = 1 then (vitrinelaw09_HeaderResponses.j0 k a0 a2 ((t293.length : Int) != 0)) else (none)) else (vitrinelaw09_HeaderResponses.j0 k a0 a2 false)) else (none)))) else (none)) else (if a1 > 3 then (if t294 = 1 then (vitrinelaw09_HeaderResponses.j0 k a0 a2 ((t293.length : Int) != 0)) else (none)) else (vitrinelaw09_HeaderResponses.j0 k a0 a2 false))) = some r := H
    have A6 := Aside0.mk A60
    clear A60
    have HC7 := Aside0.mk H
    clear H
    go_enter Tryd.func5, Tryd.ntmps5
    go_upto_region 4 with (first | ((with_reducible refine gate_callee (f := 6) rfl ?_); refine goesL_ (some 10) rfl rfl Tryd.func6 (by kernel_rfl) rfl #[] rfl (by (try simp only [List.map_toArray, List.map_cons, List.map_nil]); first | done | rfl | (simp only [List.length_drop, List.length_take]; rfl)) ?_; (with_reducible refine (vitrinelaw09_awake.calls k  true _ ?side1 A4.out).mono ?_); (case side1 => exact GL_below HGL.out (by repeat (first | (with_reducible first | exact HB.out | apply below_alloc | apply pw_below_drewN | apply below_drew1) | exact HB.out))); rintro e w8 ⟨rfl, hb⟩; refine ⟨_, rfl, ?_⟩; have n0_ := Aside0.mk (below_step (by repeat (first | (with_reducible first | exact HB.out | apply below_alloc | apply pw_below_drewN | apply below_drew1) | exact HB.out)) hb); clear HB; have HB := n0_; clear n0_; (try clear hb); (try clear hb2); (try clear hk); (try clear hi)) | ((with_reducible refine gate_callee (f := 19) rfl ?_); refine goesL_ (some 15) rfl rfl Tryd.func19 (by kernel_rfl) rfl #[.int .u16 a0, .int .u8 a1] rfl (by (try simp only [List.map_toArray, List.map_cons, List.map_nil]); first | done | rfl | (simp only [List.length_drop, List.length_take]; rfl)) ?_; (with_reducible refine (header_Negative.calls a0 a1 t293 t294 _ A6.out).mono ?_); rintro e w9 ⟨v295, rfl, ho0, hb⟩; refine ⟨_, rfl, ?_⟩; have n0_ := Aside0.mk (Kd.R_lower ho0 (below_size (by repeat (first | (with_reducible first | exact HB.out | apply below_alloc | apply pw_below_drewN | apply below_drew1) | exact HB.out)))); have n1_ := Aside0.mk (below_step (by repeat (first | (with_reducible first | exact HB.out | apply below_alloc | apply pw_below_drewN | apply below_drew1) | exact HB.out)) hb); clear HB; have HO296 := n0_; have HB := n1_; clear n0_ n1_; (try clear hb); (try clear hb2); (try clear hk); (try clear hi); (try clear ho0)))
    (try simp only [Act.put, List.setIfInBounds_toArray, List.set_cons_zero, List.set_cons_succ])
    go_cut [44] (fun v44 wc => ∃ (kq : Nat) (x44_6 : Bool), v44 = .bool x44_6 ∧ Aside0 (vitrinelaw09_HeaderResponses.j0 kq a0 a2 x44_6 = some r) ∧ Aside0 (kq ≤ k) ∧ Aside0 (Below w.heap.size w wc))
    case first =>
      have H := HC7.out
      clear HC7
      by_cases c10 : a1 ≤ 3
      · rw [if_pos c10] at H
        have c10b0 : decide (a1 ≤ 3) = true := decide_eq_true c10
        clear c10
        (first | rw [c10b0] | (simp only [i64_w, i32_w]; rw [c10b0]) | skip)
        by_cases c11 : t294 = 0
        · rw [if_pos c11] at H
          have c11b0 : (t294 == 0) = true := beq_iff_eq.mpr c11
          have c11b1 : (t294 != 0) = false := bne_eq_false_iff_eq.mpr c11
          clear c11
          replace H := Option.bind_eq_some_iff.mp H
          obtain ⟨t297, A120, H⟩ := H
          replace H : ((vitrineref01_Same.f t293 t297).bind fun t300 => (if t300 = true then (if a1 > 3 then (if t294 = 1 then (vitrinelaw09_HeaderResponses.j0 k a0 a2 ((t293.length : Int) != 0)) else (none)) else (vitrinelaw09_HeaderResponses.j0 k a0 a2 false)) else (none))) = some r := H
          have A12 := Aside0.mk A120
          clear A120
          replace H := Option.bind_eq_some_iff.mp H
          obtain ⟨t300, A130, H⟩ := H
          replace H : (if t300 = true then (if a1 > 3 then (if t294 = 1 then (vitrinelaw09_HeaderResponses.j0 k a0 a2 ((t293.length : Int) != 0)) else (none)) else (vitrinelaw09_HeaderResponses.j0 k a0 a2 false)) else (none)) = some r := H
          have A13 := Aside0.mk A130
          clear A130
          by_cases c14 : t300 = true
          · subst c14
            have H1 : (if a1 > 3 then (if t294 = 1 then (vitrinelaw09_HeaderResponses.j0 k a0 a2 ((t293.length : Int) != 0)) else (none)) else (vitrinelaw09_HeaderResponses.j0 k a0 a2 false)) = some r := by rw [if_pos rfl] at H; exact H
            clear H
            have H := H1
            clear H1
            by_cases c15 : a1 > 3
            · rw [if_pos c15] at H
              have c15b0 : decide (3 < a1) = true := decide_eq_true c15
              clear c15
              by_cases c16 : t294 = 1
              · rw [if_pos c16] at H
                have c16b0 : (t294 == 1) = true := beq_iff_eq.mpr c16
                have c16b1 : (t294 != 1) = false := bne_eq_false_iff_eq.mpr c16
                clear c16
                have H' := Aside0.mk H
                clear H
                go_wp2_with (first | (go_at_call 20; (with_reducible refine (vitrineref09_Response.calls a0 false a1 t297 _ A12.out).mono ?_); rintro e w17 ⟨v298, rfl, ho0, hb⟩; have n0_ := Aside0.mk (Kd.R_elder' (by (with_reducible repeat (first | apply Kd.R_alloc | apply Kd.R_drewN | apply Kd.R_drew)); exact HO296.out) (Kd.R_base ho0) hb); have n1_ := Aside0.mk (Kd.R_lower (Kd.R_new' ho0 (Kd.R_lt (by (with_reducible repeat (first | apply Kd.R_alloc | apply Kd.R_drewN | apply Kd.R_drew)); exact HO296.out))) (below_size (by repeat (first | (with_reducible first | exact HB.out | apply below_alloc | apply pw_below_drewN | apply below_drew1) | exact HB.out)))); have n2_ := Aside0.mk (below_step (by repeat (first | (with_reducible first | exact HB.out | apply below_alloc | apply pw_below_drewN | apply below_drew1) | exact HB.out)) hb); clear HO296; clear HB; have HO296 := n0_; have HO299 := n1_; have HB := n2_; clear n0_ n1_ n2_; (try clear hb); (try clear hb2); (try clear hk); (try clear hi); (try clear ho0); obtain ⟨Ao18, co18, eo18⟩ := Kd.R_slice HO296.out; subst eo18; obtain ⟨Ao19, co19, eo19⟩ := Kd.R_slice HO299.out; subst eo19) | (go_at_call 9; (with_reducible refine (vitrineref01_Same.calls _ _ t293 _ _ t297 true _ ?side1 ?side2 ?side3 ?side4 A13.out).mono ?_); (case side1 => repeat (first | exact (Kd.R_reads' HO296.out).2.2 | (with_reducible refine Kd.C_alloc ?_ _) | (with_reducible refine Kd.C_drewN ?_ _) | (with_reducible refine Kd.C_drew ?_))); (case side2 => exact (Kd.R_reads' HO296.out).2.1); (case side3 => repeat (first | exact (Kd.R_reads' HO299.out).2.2 | (with_reducible refine Kd.C_alloc ?_ _) | (with_reducible refine Kd.C_drewN ?_ _) | (with_reducible refine Kd.C_drew ?_))); (case side4 => exact (Kd.R_reads' HO299.out).2.1); rintro e w' ⟨rfl, ⟨nd, rfl⟩⟩))
                go_meet
                case rel => exact ⟨_, (((t293.length : Int) != 0)), (by first | rfl | (simp; done) | (simp [*]; done)), H', ⟨by first | omega | exact Nat.le_refl _⟩, ⟨by repeat (first | (with_reducible first | exact HB.out | apply below_alloc | apply pw_below_drewN | apply below_drew1) | exact HB.out)⟩⟩
              · rw [if_neg c16] at H
                exact absurd H (by simp)
            · rw [if_neg c15] at H
              have c15b0 : decide (3 < a1) = false := decide_eq_false c15
              clear c15
              have H' := Aside0.mk H
              clear H
              go_wp2_with (first | (go_at_call 20; (with_reducible refine (vitrineref09_Response.calls a0 false a1 t297 _ A12.out).mono ?_); rintro e w20 ⟨v298, rfl, ho0, hb⟩; have n0_ := Aside0.mk (Kd.R_elder' (by (with_reducible repeat (first | apply Kd.R_alloc | apply Kd.R_drewN | apply Kd.R_drew)); exact HO296.out) (Kd.R_base ho0) hb); have n1_ := Aside0.mk (Kd.R_lower (Kd.R_new' ho0 (Kd.R_lt (by (with_reducible repeat (first | apply Kd.R_alloc | apply Kd.R_drewN | apply Kd.R_drew)); exact HO296.out))) (below_size (by repeat (first | (with_reducible first | exact HB.out | apply below_alloc | apply pw_below_drewN | apply below_drew1) | exact HB.out)))); have n2_ := Aside0.mk (below_step (by repeat (first | (with_reducible first | exact HB.out | apply below_alloc | apply pw_below_drewN | apply below_drew1) | exact HB.out)) hb); clear HO296; clear HB; have HO296 := n0_; have HO299 := n1_; have HB := n2_; clear n0_ n1_ n2_; (try clear hb); (try clear hb2); (try clear hk); (try clear hi); (try clear ho0); obtain ⟨Ao21, co21, eo21⟩ := Kd.R_slice HO296.out; subst eo21; obtain ⟨Ao22, co22, eo22⟩ := Kd.R_slice HO299.out; subst eo22) | (go_at_call 9; (with_reducible refine (vitrineref01_Same.calls _ _ t293 _ _ t297 true _ ?side1 ?side2 ?side3 ?side4 A13.out).mono ?_); (case side1 => repeat (first | exact (Kd.R_reads' HO296.out).2.2 | (with_reducible refine Kd.C_alloc ?_ _) | (with_reducible refine Kd.C_drewN ?_ _) | (with_reducible refine Kd.C_drew ?_))); (case side2 => exact (Kd.R_reads' HO296.out).2.1); (case side3 => repeat (first | exact (Kd.R_reads' HO299.out).2.2 | (with_reducible refine Kd.C_alloc ?_ _) | (with_reducible refine Kd.C_drewN ?_ _) | (with_reducible refine Kd.C_drew ?_))); (case side4 => exact (Kd.R_reads' HO299.out).2.1); rintro e w' ⟨rfl, ⟨nd, rfl⟩⟩))
              go_meet
              case rel => exact ⟨_, (false), (by first | rfl | (simp; done) | (simp [*]; done)), H', ⟨by first | omega | exact Nat.le_refl _⟩, ⟨by repeat (first | (with_reducible first | exact HB.out | apply below_alloc | apply pw_below_drewN | apply below_drew1) | exact HB.out)⟩⟩
          · replace c14 := Bool.eq_false_iff.mpr c14
            subst c14
            have H1 : (none) = some r := by rw [if_neg (show ¬ (false = true) by decide)] at H; exact H
            clear H
            have H := H1
            clear H1
            exact absurd H (by simp)
        · rw [if_neg c11] at H
          exact absurd H (by simp)
      · rw [if_neg c10] at H
        have c10b0 : decide (a1 ≤ 3) = false := decide_eq_false c10
        clear c10
        (first | rw [c10b0] | (simp only [i64_w, i32_w]; rw [c10b0]) | skip)
        by_cases c23 : a1 > 3
        · rw [if_pos c23] at H
          have c23b0 : decide (3 < a1) = true := decide_eq_true c23
          clear c23
          by_cases c24 : t294 = 1
          · rw [if_pos c24] at H
            have c24b0 : (t294 == 1) = true := beq_iff_eq.mpr c24
            have c24b1 : (t294 != 1) = false := bne_eq_false_iff_eq.mpr c24
            clear c24
            have H' := Aside0.mk H
            clear H
            obtain ⟨Ao25, co25, eo25⟩ := Kd.R_slice HO296.out
            subst eo25
            go_wp2
            go_meet
            case rel => exact ⟨_, (((t293.length : Int) != 0)), (by first | rfl | (simp; done) | (simp [*]; done)), H', ⟨by first | omega | exact Nat.le_refl _⟩, ⟨by repeat (first | (with_reducible first | exact HB.out | apply below_alloc | apply pw_below_drewN | apply below_drew1) | exact HB.out)⟩⟩
          · rw [if_neg c24] at H
            exact absurd H (by simp)
        · rw [if_neg c23] at H
          have c23b0 : decide (3 < a1) = false := decide_eq_false c23
          clear c23
          have H' := Aside0.mk H
          clear H
          go_wp2
          go_meet
          case rel => exact ⟨_, (false), (by first | rfl | (simp; done) | (simp [*]; done)), H', ⟨by first | omega | exact Nat.le_refl _⟩, ⟨by repeat (first | (with_reducible first | exact HB.out | apply below_alloc | apply pw_below_drewN | apply below_drew1) | exact HB.out)⟩⟩
    case rest =>
      clear HC7
      try clear c1
      try clear c2
      try clear p2
      try clear c5
      try clear c6
      try clear c10
      try clear c10b0
      try clear c11
      try clear c11b0
      try clear c11b1
      try clear c14
      try clear c15
      try clear c15b0
      try clear c16
      try clear c16b0
      try clear c16b1
      try clear c19
      try clear c23
      try clear c23b0
      try clear c24
      try clear c24b0
      try clear c24b1
      obtain ⟨kq, x44_6, rfl, HA, HJ6, HB⟩ := hcut
      cases kq with
      | zero => exact absurd HA.out (by simp [vitrinelaw09_HeaderResponses.j0])
      | succ kj6 =>
        have H := HA.out
        clear HA
        simp only [vitrinelaw09_HeaderResponses.j0] at H
        by_cases c26 : x44_6 = true
        · subst c26
          have H1 : (none) = some r := by rw [if_pos rfl] at H; exact H
          clear H
          have H := H1
          clear H1
          exact absurd H (by simp)
        · replace c26 := Bool.eq_false_iff.mpr c26
          subst c26
          have H1 : (if a0 < 32767 then (vitrinelaw09_HeaderResponses.j1 kj6 a0 a2 (IntKind.u16.wrap (a0 + 1))) else (vitrinelaw09_HeaderResponses.j1 kj6 a0 a2 0)) = some r := by rw [if_neg (show ¬ (false = true) by decide)] at H; exact H
          clear H
          have H := H1
          clear H1
          have HC27 := Aside0.mk H
          clear H
          go_upto_if 46 with (fail)
          go_cut [9] (fun v9 wc => ∃ (kq : Nat) (x9_26 : Int), v9 = .int .u16 x9_26 ∧ Aside0 (vitrinelaw09_HeaderResponses.j1 kq a0 a2 x9_26 = some r) ∧ Aside0 (kq ≤ kj6) ∧ Aside0 (Below w.heap.size w wc))
          case first =>
            have H := HC27.out
            clear HC27
            by_cases c28 : a0 < 32767
            · rw [if_pos c28] at H
              have c28b0 : decide (a0 < 32767) = true := decide_eq_true c28
              clear c28
              (first | rw [c28b0] | (simp only [i64_w, i32_w]; rw [c28b0]) | skip)
              have H' := Aside0.mk H
              clear H
              go_wp2
              go_meet
              case rel => exact ⟨_, (IntKind.u16.wrap (a0 + 1)), (by first | rfl | (simp; done) | (simp [*]; done)), H', ⟨by have := HJ6.out; first | omega | exact Nat.le_refl _⟩, ⟨by repeat (first | (with_reducible first | exact HB.out | apply below_alloc | apply pw_below_drewN | apply below_drew1) | exact HB.out)⟩⟩
            · rw [if_neg c28] at H
              have c28b0 : decide (a0 < 32767) = false := decide_eq_false c28
              clear c28
              (first | rw [c28b0] | (simp only [i64_w, i32_w]; rw [c28b0]) | skip)
              have H' := Aside0.mk H
              clear H
              go_wp2
              go_meet
              case rel => exact ⟨_, (0), (by first | rfl | (simp; done) | (simp [*]; done)), H', ⟨by have := HJ6.out; first | omega | exact Nat.le_refl _⟩, ⟨by repeat (first | (with_reducible first | exact HB.out | apply below_alloc | apply pw_below_drewN | apply below_drew1) | exact HB.out)⟩⟩
          case rest =>
            clear HC27
            try clear c1
            try clear c2
            try clear p2
            try clear c5
            try clear c6
            try clear c10
            try clear c10b0
            try clear c11
            try clear c11b0
            try clear c11b1
            try clear c14
            try clear c15
            try clear c15b0
            try clear c16
            try clear c16b0
            try clear c16b1
            try clear c19
            try clear c23
            try clear c23b0
            try clear c24
            try clear c24b0
            try clear c24b1
            try clear c26
            try clear c28
            try clear c28b0
            try clear p2
            obtain ⟨kq, x9_26, rfl, HA, HJ26, HB⟩ := hcut
            cases kq with
            | zero => exact absurd HA.out (by simp [vitrinelaw09_HeaderResponses.j1])
            | succ kj26 =>
              have H := HA.out
              clear HA
              simp only [vitrinelaw09_HeaderResponses.j1] at H
              replace H := Option.bind_eq_some_iff.mp H
              obtain ⟨t301, A290, H⟩ := H
              replace H : ((vitrineref09_Response.f a0 true 0).bind fun t304 => ((vitrineref01_Same.f t301 t304).bind fun t307 => (if t307 = true then ((header_Name.f a2).bind fun t308 => ((vitrineref09_Name.f a2).bind fun t309 => (if t308.toList = t309.toList then ((header_Next.f a0).bind fun t310 => (some (t310 == x9_26))) else (none)))) else (none)))) = some r := H
              have A29 := Aside0.mk A290
              clear A290
              replace H := Option.bind_eq_some_iff.mp H
              obtain ⟨t304, A300, H⟩ := H
              replace H : ((vitrineref01_Same.f t301 t304).bind fun t307 => (if t307 = true then ((header_Name.f a2).bind fun t308 => ((vitrineref09_Name.f a2).bind fun t309 => (if t308.toList = t309.toList then ((header_Next.f a0).bind fun t310 => (some (t310 == x9_26))) else (none)))) else (none))) = some r := H
              have A30 := Aside0.mk A300
              clear A300
              replace H := Option.bind_eq_some_iff.mp H
              obtain ⟨t307, A310, H⟩ := H
              replace H : (if t307 = true then ((header_Name.f a2).bind fun t308 => ((vitrineref09_Name.f a2).bind fun t309 => (if t308.toList = t309.toList then ((header_Next.f a0).bind fun t310 => (some (t310 == x9_26))) else (none)))) else (none)) = some r := H
              have A31 := Aside0.mk A310
              clear A310
              by_cases c32 : t307 = true
              · subst c32
                have H1 : ((header_Name.f a2).bind fun t308 => ((vitrineref09_Name.f a2).bind fun t309 => (if t308.toList = t309.toList then ((header_Next.f a0).bind fun t310 => (some (t310 == x9_26))) else (none)))) = some r := by rw [if_pos rfl] at H; exact H
                clear H
                have H := H1
                clear H1
                replace H := Option.bind_eq_some_iff.mp H
                obtain ⟨t308, A330, H⟩ := H
                replace H : ((vitrineref09_Name.f a2).bind fun t309 => (if t308.toList = t309.toList then ((header_Next.f a0).bind fun t310 => (some (t310 == x9_26))) else (none))) = some r := H
                have A33 := Aside0.mk A330
                clear A330
                replace H := Option.bind_eq_some_iff.mp H
                obtain ⟨t309, A340, H⟩ := H
                replace H : (if t308.toList = t309.toList then ((header_Next.f a0).bind fun t310 => (some (t310 == x9_26))) else (none)) = some r := H
                have A34 := Aside0.mk A340
                clear A340
                by_cases c35 : t308.toList = t309.toList
                · rw [if_pos c35] at H
                  have c35b0 : (t308.toList == t309.toList) = true := beq_iff_eq.mpr c35
                  have c35b1 : (t308.toList != t309.toList) = false := bne_eq_false_iff_eq.mpr c35
                  clear c35
                  replace H := Option.bind_eq_some_iff.mp H
                  obtain ⟨t310, A360, H⟩ := H
                  replace H : (some (t310 == x9_26)) = some r := H
                  have A36 := Aside0.mk A360
                  clear A360
                  obtain rfl := Option.some.inj H
                  go_wp2_with (first | ((with_reducible refine gate_callee (f := 21) rfl ?_); refine goesL_ (some 50) rfl rfl Tryd.func21 (by kernel_rfl) rfl #[.int .u16 a0] rfl (by (try simp only [List.map_toArray, List.map_cons, List.map_nil]); first | done | rfl | (simp only [List.length_drop, List.length_take]; rfl)) ?_; (with_reducible refine (header_Positive.calls a0 t301 _ A29.out).mono ?_); rintro e w37 ⟨v302, rfl, ho0, hb⟩; refine ⟨_, rfl, ?_⟩; have n0_ := Aside0.mk (Kd.R_lower ho0 (below_size (by repeat (first | (with_reducible first | exact HB.out | apply below_alloc | apply pw_below_drewN | apply below_drew1) | exact HB.out)))); have n1_ := Aside0.mk (below_step (by repeat (first | (with_reducible first | exact HB.out | apply below_alloc | apply pw_below_drewN | apply below_drew1) | exact HB.out)) hb); clear HB; have HO303 := n0_; have HB := n1_; clear n0_ n1_; (try clear hb); (try clear hb2); (try clear hk); (try clear hi); (try clear ho0)) | ((with_reducible refine gate_callee (f := 20) rfl ?_); refine goesL_ (some 52) rfl rfl Tryd.func20 (by kernel_rfl) rfl #[.int .u16 a0, .bool true, .int .u8 0] rfl (by (try simp only [List.map_toArray, List.map_cons, List.map_nil]); first | done | rfl | (simp only [List.length_drop, List.length_take]; rfl)) ?_; (with_reducible refine (vitrineref09_Response.calls a0 true 0 t304 _ A30.out).mono ?_); rintro e w38 ⟨v305, rfl, ho0, hb⟩; refine ⟨_, rfl, ?_⟩; have n0_ := Aside0.mk (Kd.R_elder' (by (with_reducible repeat (first | apply Kd.R_alloc | apply Kd.R_drewN | apply Kd.R_drew)); exact HO303.out) (Kd.R_base ho0) hb); have n1_ := Aside0.mk (Kd.R_lower (Kd.R_new' ho0 (Kd.R_lt (by (with_reducible repeat (first | apply Kd.R_alloc | apply Kd.R_drewN | apply Kd.R_drew)); exact HO303.out))) (below_size (by repeat (first | (with_reducible first | exact HB.out | apply below_alloc | apply pw_below_drewN | apply below_drew1) | exact HB.out)))); have n2_ := Aside0.mk (below_step (by repeat (first | (with_reducible first | exact HB.out | apply below_alloc | apply pw_below_drewN | apply below_drew1) | exact HB.out)) hb); clear HO303; clear HB; have HO303 := n0_; have HO306 := n1_; have HB := n2_; clear n0_ n1_ n2_; (try clear hb); (try clear hb2); (try clear hk); (try clear hi); (try clear ho0); obtain ⟨Ao39, co39, eo39⟩ := Kd.R_slice HO303.out; subst eo39; obtain ⟨Ao40, co40, eo40⟩ := Kd.R_slice HO306.out; subst eo40) | ((with_reducible refine gate_callee (f := 9) rfl ?_); refine goesL_ (some 53) rfl rfl Tryd.func9 (by kernel_rfl) rfl #[.slice Ao39 t301.length co39, .slice Ao40 t304.length co40] rfl (by (try simp only [List.map_toArray, List.map_cons, List.map_nil]); first | done | rfl | (simp only [List.length_drop, List.length_take]; rfl)) ?_; (with_reducible refine (vitrineref01_Same.calls _ _ t301 _ _ t304 true _ ?side1 ?side2 ?side3 ?side4 A31.out).mono ?_); (case side1 => repeat (first | exact (Kd.R_reads' HO303.out).2.2 | (with_reducible refine Kd.C_alloc ?_ _) | (with_reducible refine Kd.C_drewN ?_ _) | (with_reducible refine Kd.C_drew ?_))); (case side2 => exact (Kd.R_reads' HO303.out).2.1); (case side3 => repeat (first | exact (Kd.R_reads' HO306.out).2.2 | (with_reducible refine Kd.C_alloc ?_ _) | (with_reducible refine Kd.C_drewN ?_ _) | (with_reducible refine Kd.C_drew ?_))); (case side4 => exact (Kd.R_reads' HO306.out).2.1); rintro e w' ⟨rfl, ⟨nd, rfl⟩⟩; refine ⟨_, rfl, ?_⟩) | (go_at_call 22; (with_reducible refine (header_Name.calls a2 t308 _ ?side1 A33.out).mono ?_); (case side1 => exact GL_below HGL.out (by repeat (first | (with_reducible first | exact HB.out | apply below_alloc | apply pw_below_drewN | apply below_drew1) | exact HB.out))); rintro e w41 ⟨rfl, hb⟩; have n0_ := Aside0.mk (Kd.R_below (by (with_reducible repeat (first | apply Kd.R_alloc | apply Kd.R_drewN | apply Kd.R_drew)); exact HO303.out) hb); have n1_ := Aside0.mk (Kd.R_below (by (with_reducible repeat (first | apply Kd.R_alloc | apply Kd.R_drewN | apply Kd.R_drew)); exact HO306.out) hb); have n2_ := Aside0.mk (below_step (by repeat (first | (with_reducible first | exact HB.out | apply below_alloc | apply pw_below_drewN | apply below_drew1) | exact HB.out)) hb); clear HO303; clear HO306; clear HB; have HO303 := n0_; have HO306 := n1_; have HB := n2_; clear n0_ n1_ n2_; (try clear hb); (try clear hb2); (try clear hk); (try clear hi)) | (go_at_call 23; (with_reducible refine (vitrineref09_Name.calls a2 t309 _ A34.out).mono ?_); rintro e w42 ⟨rfl, hb⟩; have n0_ := Aside0.mk (Kd.R_below (by (with_reducible repeat (first | apply Kd.R_alloc | apply Kd.R_drewN | apply Kd.R_drew)); exact HO303.out) hb); have n1_ := Aside0.mk (Kd.R_below (by (with_reducible repeat (first | apply Kd.R_alloc | apply Kd.R_drewN | apply Kd.R_drew)); exact HO306.out) hb); have n2_ := Aside0.mk (below_step (by repeat (first | (with_reducible first | exact HB.out | apply below_alloc | apply pw_below_drewN | apply below_drew1) | exact HB.out)) hb); clear HO303; clear HO306; clear HB; have HO303 := n0_; have HO306 := n1_; have HB := n2_; clear n0_ n1_ n2_; (try clear hb); (try clear hb2); (try clear hk); (try clear hi)) | (go_at_call 24; (with_reducible refine (header_Next.calls a0 t310 _ A36.out).mono ?_); rintro e w' ⟨rfl, ⟨nd, rfl⟩⟩))
                  go_ret
                  exact ⟨by first | rfl | (simp [errW_none, errW_some] <;> rfl) | (simp [*, errW_none, errW_some] <;> rfl), by repeat (first | (with_reducible first | exact HB.out | apply below_alloc | apply pw_below_drewN | apply below_drew1) | exact HB.out)⟩
                · rw [if_neg c35] at H
                  exact absurd H (by simp)
              · replace c32 := Bool.eq_false_iff.mpr c32
                subst c32
                have H1 : (none) = some r := by rw [if_neg (show ¬ (false = true) by decide)] at H; exact H
                clear H
                have H := H1
                clear H1
                exact absurd H (by simp)
  · replace c5 := Bool.eq_false_iff.mpr c5
    subst c5
    have H1 : (none) = some r := by rw [if_neg (show ¬ (false = true) by decide)] at H; exact H
    clear H
    have H := H1
    clear H1
    exact absurd H (by simp)

end Go.Proofs.YtnncgipmfikooaaDoor.PHd
