-- Written by a program of this session (a changed copy of the kit's print program): not the kit's print.
import Derived.Test.YtnncgipmfikooaaDoorPHdx0
import Derived.Test.YtnncgipmfikooaaDoorPHdx2
import Derived.Test.YtnncgipmfikooaaDoorPHdx3
import Derived.Test.YtnncgipmfikooaaDoorPHdx4
import Derived.Test.YtnncgipmfikooaaDoorPHdx5
namespace Go.Proofs.YtnncgipmfikooaaDoor.PHd
open Go.RowKit Go.Proofs.YtnncgipmfikooaaDoorW.PrintWords Go.Proofs.YtnncgipmfikooaaDoorW.PrintLast Go.Proofs.YtnncgipmfikooaaDoorW.PrintMore
attribute [local go_sem] max2_int min2_int max_two min_two max_three min_three max_four min_four   -- for this text's walks alone
set_option linter.unusedVariables false
set_option linter.unusedSimpArgs false

/-! ### vitrinelaw09_HeaderAnswers: function 3 -/
def vitrinelaw09_HeaderAnswers.j0 : Nat → Int → List Int → Bool → Bool → Int → Int → Int → Int → Option (Bool)
  | 0, _, _, _, _, _, _, _, _ => none
  | k + 1, x1, x5, x6, x39, x180000, x180001, x180002, x180003 => if x39 = true then (none) else (if x6 = true then ((header_Parse.f x5).bind fun bt191 => (if bt191.2.2.2.2.2 = 0 then (if bt191.1 = 2 then (if bt191.2.2.2.1 = x180003 then (if (bt191.2.2.2.2.1.length : Int) = 1 then (some ((bt191.2.2.1 == 0) == (x1 == 0))) else (none)) else (none)) else (none)) else (none))) else (some true))
def vitrinelaw09_HeaderAnswers.f (k : Nat) (a0_0 : Int) (a0_1 : Int) (a0_2 : Int) (a0_3 : Int) (a1 : Int) : Option (Bool) := (vitrinelaw09_awake.f k).bind fun t180 => (if t180 = true then ((header_Answer.f k a0_0 a0_1 a0_2 a0_3 a1).bind fun bt181 => ((vitrineref09_Answer.f k a0_0 a0_1 a0_2 a0_3 a1).bind fun t185 => ((vitrineref01_Same.f bt181.1 t185).bind fun t188 => (if t188 = true then (if (bt181.2 != (decide ((t185.length : Int) > 0))) = true then (none) else ((header_Code.f k a1).bind fun t189 => ((vitrineref09_Code.f k a1).bind fun t190 => (vitrinelaw09_HeaderAnswers.j0 k a1 bt181.1 bt181.2 (t189 != t190) a0_0 a0_1 a0_2 a0_3)))) else (none))))) else (none))
theorem vitrinelaw09_HeaderAnswers.mono_l : ∀ k, (∀ y0 y1 y2 y3 y4 y5 y6 y7, LeO (vitrinelaw09_HeaderAnswers.j0 k y0 y1 y2 y3 y4 y5 y6 y7) (vitrinelaw09_HeaderAnswers.j0 (k + 1) y0 y1 y2 y3 y4 y5 y6 y7))
  | 0 => fun _ _ _ _ _ _ _ _ r h => by simp [vitrinelaw09_HeaderAnswers.j0] at h
  | k + 1 => by
    have ih0 := vitrinelaw09_HeaderAnswers.mono_l k
    · intro y0 y1 y2 y3 y4 y5 y6 y7
      unfold vitrinelaw09_HeaderAnswers.j0
      repeat' first
      | (with_reducible exact ih0 _ _ _ _ _ _ _ _)
      | (with_reducible exact header_Answer.mono _ _ _ _ _ _)
      | (with_reducible exact header_Code.mono _ _)
      | (with_reducible exact vitrinelaw09_awake.mono _)
      | (with_reducible exact vitrineref09_Answer.mono _ _ _ _ _ _)
      | (with_reducible exact vitrineref09_Code.mono _ _)
      | (with_reducible exact LeO.refl _)
      | (with_reducible exact LeO.none _)
      | (with_reducible refine LeO.ite ?_ ?_)
      | (with_reducible refine LeO.bind ?_ (fun _ => ?_))
      | exact ih0 _ _ _ _ _ _ _ _
      | exact header_Answer.mono _ _ _ _ _ _
      | exact header_Code.mono _ _
      | exact vitrinelaw09_awake.mono _
      | exact vitrineref09_Answer.mono _ _ _ _ _ _
      | exact vitrineref09_Code.mono _ _
      | exact LeO.none _
      | refine LeO.ite ?_ ?_
      | refine LeO.bind ?_ (fun _ => ?_)
theorem vitrinelaw09_HeaderAnswers.mono : ∀ a0 a1 a2 a3 a4 k, LeO (vitrinelaw09_HeaderAnswers.f k a0 a1 a2 a3 a4) (vitrinelaw09_HeaderAnswers.f (k + 1) a0 a1 a2 a3 a4) := by
  intro a0 a1 a2 a3 a4 k
  have ih0 := vitrinelaw09_HeaderAnswers.mono_l k
  unfold vitrinelaw09_HeaderAnswers.f
  repeat' first
      | (with_reducible exact ih0 _ _ _ _ _ _ _ _)
      | (with_reducible exact header_Answer.mono _ _ _ _ _ _)
      | (with_reducible exact header_Code.mono _ _)
      | (with_reducible exact vitrinelaw09_awake.mono _)
      | (with_reducible exact vitrineref09_Answer.mono _ _ _ _ _ _)
      | (with_reducible exact vitrineref09_Code.mono _ _)
      | (with_reducible exact LeO.refl _)
      | (with_reducible exact LeO.none _)
      | (with_reducible refine LeO.ite ?_ ?_)
      | (with_reducible refine LeO.bind ?_ (fun _ => ?_))
      | exact ih0 _ _ _ _ _ _ _ _
      | exact header_Answer.mono _ _ _ _ _ _
      | exact header_Code.mono _ _
      | exact vitrinelaw09_awake.mono _
      | exact vitrineref09_Answer.mono _ _ _ _ _ _
      | exact vitrineref09_Code.mono _ _
      | exact LeO.none _
      | refine LeO.ite ?_ ?_
      | refine LeO.bind ?_ (fun _ => ?_)
set_option maxHeartbeats 8000000 in
set_option maxRecDepth 100000 in
theorem vitrinelaw09_HeaderAnswers.calls (k : Nat) (a0_0 : Int) (a0_1 : Int) (a0_2 : Int) (a0_3 : Int) (a1 : Int) (r : Bool) (w : World) (hGL : GL w) (h : vitrinelaw09_HeaderAnswers.f k a0_0 a0_1 a0_2 a0_3 a1 = some r) :
    Calls Tryd.prog 3 #[.agg #[.int .u8 a0_0, .int .u8 a0_1, .int .u8 a0_2, .int .u16 a0_3], .int .i64 a1] w fun e w' => e = .returned (.bool r) ∧ Below w.heap.size w w' := by
  have hu24 := Tryd.underlying24
  have hu29 := Tryd.underlying29
  have HGL := Aside0.mk hGL
  clear hGL
  have HB := Aside0.mk (Below.refl w.heap.size w)
  have H : ((vitrinelaw09_awake.f k).bind fun t180 => (if t180 = true then ((header_Answer.f k a0_0 a0_1 a0_2 a0_3 a1).bind fun bt181 => ((vitrineref09_Answer.f k a0_0 a0_1 a0_2 a0_3 a1).bind fun t185 => ((vitrineref01_Same.f bt181.1 t185).bind fun t188 => (if t188 = true then (if (bt181.2 != (decide ((t185.length : Int) > 0))) = true then (none) else ((header_Code.f k a1).bind fun t189 => ((vitrineref09_Code.f k a1).bind fun t190 => (vitrinelaw09_HeaderAnswers.j0 k a1 bt181.1 bt181.2 (t189 != t190) a0_0 a0_1 a0_2 a0_3)))) else (none))))) else (none))) = some r := h
  clear h
  replace H := Option.bind_eq_some_iff.mp H
  obtain ⟨t180, A30, H⟩ := H
  replace H : (if t180 = true then ((header_Answer.f k a0_0 a0_1 a0_2 a0_3 a1).bind fun bt181 => ((vitrineref09_Answer.f k a0_0 a0_1 a0_2 a0_3 a1).bind fun t185 => ((vitrineref01_Same.f bt181.1 t185).bind fun t188 => (if t188 = true then (if (bt181.2 != (decide ((t185.length : Int) > 0))) = true then (none) else ((header_Code.f k a1).bind fun t189 => ((vitrineref09_Code.f k a1).bind fun t190 => (vitrinelaw09_HeaderAnswers.j0 k a1 bt181.1 bt181.2 (t189 != t190) a0_0 a0_1 a0_2 a0_3)))) else (none))))) else (none)) = some r := H
  have A3 := Aside0.mk A30
  clear A30
  by_cases c4 : t180 = true
  · subst c4
    have H1 : ((header_Answer.f k a0_0 a0_1 a0_2 a0_3 a1).bind fun bt181 => ((vitrineref09_Answer.f k a0_0 a0_1 a0_2 a0_3 a1).bind fun t185 => ((vitrineref01_Same.f bt181.1 t185).bind fun t188 => (if t188 = true then (if (bt181.2 != (decide ((t185.length : Int) > 0))) = true then (none) else ((header_Code.f k a1).bind fun t189 => ((vitrineref09_Code.f k a1).bind fun t190 => (vitrinelaw09_HeaderAnswers.j0 k a1 bt181.1 bt181.2 (t189 != t190) a0_0 a0_1 a0_2 a0_3)))) else (none))))) = some r := by rw [if_pos rfl] at H; exact H
    clear H
    have H := H1
    clear H1
    replace H := Option.bind_eq_some_iff.mp H
    obtain ⟨⟨t181, t184⟩, A50, H⟩ := H
    replace H : ((vitrineref09_Answer.f k a0_0 a0_1 a0_2 a0_3 a1).bind fun t185 => ((vitrineref01_Same.f t181 t185).bind fun t188 => (if t188 = true then (if (t184 != (decide ((t185.length : Int) > 0))) = true then (none) else ((header_Code.f k a1).bind fun t189 => ((vitrineref09_Code.f k a1).bind fun t190 => (vitrinelaw09_HeaderAnswers.j0 k a1 t181 t184 (t189 != t190) a0_0 a0_1 a0_2 a0_3)))) else (none)))) = some r := H
    have A5 := Aside0.mk A50
    clear A50
    replace H := Option.bind_eq_some_iff.mp H
    obtain ⟨t185, A60, H⟩ := H
    replace H : ((vitrineref01_Same.f t181 t185).bind fun t188 => (if t188 = true then (if (t184 != (decide ((t185.length : Int) > 0))) = true then (none) else ((header_Code.f k a1).bind fun t189 => ((vitrineref09_Code.f k a1).bind fun t190 => (vitrinelaw09_HeaderAnswers.j0 k a1 t181 t184 (t189 != t190) a0_0 a0_1 a0_2 a0_3)))) else (none))) = some r := H
    have A6 := Aside0.mk A60
    clear A60
    have HC7 := Aside0.mk H
    clear H
    go_enter Tryd.func3, Tryd.ntmps3
    go_upto_region 5 with (first | ((with_reducible refine gate_dst (N := 2) rfl ?_); (try (refine gate_guard (by rfl) ?_; dsimp only)); refine box_event ?hg (N := 2) ?hd (cs := #[.int .u8 a0_0, .int .u8 a0_1, .int .u8 a0_2, .int .u16 a0_3]) (t := 24) ?hr ?_; (case hd => rfl); (case hg => rfl); (case hr => first | (go_simp; done) | (go_simp; rfl)); intro gb179 hg w8 hbox hb; have n0_ := Aside0.mk (below_step (by repeat (first | (with_reducible first | exact HB.out | apply below_alloc | apply pw_below_drewN | apply below_drew1) | exact HB.out)) hb); have n1_ := Aside0.mk (hbox); have n2_ := Aside0.mk ((by rw [hg]; exact (below_size (by repeat (first | (with_reducible first | exact HB.out | apply below_alloc | apply pw_below_drewN | apply below_drew1) | exact HB.out))) : w.heap.size ≤ gb179)); have n3_ := Aside0.mk ((by rw [hg]; exact (below_size (by repeat (first | (with_reducible first | exact HB.out | apply below_alloc | apply pw_below_drewN | apply below_drew1) | exact HB.out))) : w.heap.size ≤ gb179)); clear HB; have HB := n0_; have BK179 := n1_; have GW179 := n2_; have GE179 := n3_; clear n0_ n1_ n2_ n3_; clear hb hbox hg) | ((with_reducible refine gate_callee (f := 6) rfl ?_); refine goesL_ (some 11) rfl rfl Tryd.func6 (by kernel_rfl) rfl #[] rfl (by (try simp only [List.map_toArray, List.map_cons, List.map_nil]); first | done | rfl | (simp only [List.length_drop, List.length_take]; rfl)) ?_; (with_reducible refine (vitrinelaw09_awake.calls k  true _ ?side1 A3.out).mono ?_); (case side1 => exact GL_below HGL.out (by repeat (first | (with_reducible first | exact HB.out | apply below_alloc | apply pw_below_drewN | apply below_drew1 | refine below_set ?_ GE179.out) | exact HB.out))); rintro e w9 ⟨rfl, hb⟩; refine ⟨_, rfl, ?_⟩; have n0_ := Aside0.mk (blk_below (g := gb179) (o := .cells #[.int .u8 a0_0, .int .u8 a0_1, .int .u8 a0_2, .int .u16 a0_3] 24 (0, 0)) (by (with_reducible repeat (first | refine blk_drewN ?_ _ | refine blk_drew ?_ | refine blk_alloc ?_ _)); exact BK179.out) hb); have n1_ := Aside0.mk (below_step (by repeat (first | (with_reducible first | exact HB.out | apply below_alloc | apply pw_below_drewN | apply below_drew1 | refine below_set ?_ GE179.out) | exact HB.out)) hb); clear BK179; clear HB; have BK179 := n0_; have HB := n1_; clear n0_ n1_; (try clear hb); (try clear hb2); (try clear hk); (try clear hi); have hcz10_0 : w9.cell? ⟨gb179, 0, none⟩ = some (.int .u8 a0_0) := (blk_cell BK179.out 0).trans rfl; have hcz10_1 : w9.cell? ⟨gb179, 1, none⟩ = some (.int .u8 a0_1) := (blk_cell BK179.out 1).trans rfl; have hcz10_2 : w9.cell? ⟨gb179, 2, none⟩ = some (.int .u8 a0_2) := (blk_cell BK179.out 2).trans rfl; have hcz10_3 : w9.cell? ⟨gb179, 3, none⟩ = some (.int .u16 a0_3) := (blk_cell BK179.out 3).trans rfl; have hfz10_0 := blk_frozen BK179.out 0; have hfz10_1 := blk_frozen BK179.out 1; have hfz10_2 := blk_frozen BK179.out 2; have hfz10_3 := blk_frozen BK179.out 3) | ((with_reducible refine gate_callee (f := 7) rfl ?_); refine goesL_ (some 16) rfl rfl Tryd.func7 (by kernel_rfl) rfl #[.agg #[.int .u8 a0_0, .int .u8 a0_1, .int .u8 a0_2, .int .u16 a0_3], .int .i64 a1] rfl (by (try simp only [List.map_toArray, List.map_cons, List.map_nil]); first | done | rfl | (simp only [List.length_drop, List.length_take]; rfl)) ?_; (with_reducible refine (header_Answer.calls k a0_0 a0_1 a0_2 a0_3 a1 t181 t184 _ A5.out).mono ?_); rintro e w11 ⟨v182, rfl, ho0, hb⟩; refine ⟨_, rfl, ?_⟩; have n0_ := Aside0.mk (Kd.R_lower ho0 (below_size (by repeat (first | (with_reducible first | exact HB.out | apply below_alloc | apply pw_below_drewN | apply below_drew1 | refine below_set ?_ GE179.out) | exact HB.out)))); have n1_ := Aside0.mk (blk_below (g := gb179) (o := .cells #[.int .u8 a0_0, .int .u8 a0_1, .int .u8 a0_2, .int .u16 a0_3] 24 (0, 0)) (by (with_reducible repeat (first | refine blk_drewN ?_ _ | refine blk_drew ?_ | refine blk_alloc ?_ _)); exact BK179.out) hb); have n2_ := Aside0.mk (below_step (by repeat (first | (with_reducible first | exact HB.out | apply below_alloc | apply pw_below_drewN | apply below_drew1 | refine below_set ?_ GE179.out) | exact HB.out)) hb); clear BK179; clear HB; have HO183 := n0_; have BK179 := n1_; have HB := n2_; clear n0_ n1_ n2_; (try clear hb); (try clear hb2); (try clear hk); (try clear hi); (try clear ho0); have hcz12_0 : w11.cell? ⟨gb179, 0, none⟩ = some (.int .u8 a0_0) := (blk_cell BK179.out 0).trans rfl; have hcz12_1 : w11.cell? ⟨gb179, 1, none⟩ = some (.int .u8 a0_1) := (blk_cell BK179.out 1).trans rfl; have hcz12_2 : w11.cell? ⟨gb179, 2, none⟩ = some (.int .u8 a0_2) := (blk_cell BK179.out 2).trans rfl; have hcz12_3 : w11.cell? ⟨gb179, 3, none⟩ = some (.int .u16 a0_3) := (blk_cell BK179.out 3).trans rfl; have hfz12_0 := blk_frozen BK179.out 0; have hfz12_1 := blk_frozen BK179.out 1; have hfz12_2 := blk_frozen BK179.out 2; have hfz12_3 := blk_frozen BK179.out 3) | ((with_reducible refine gate_callee (f := 8) rfl ?_); refine goesL_ (some 21) rfl rfl Tryd.func8 (by kernel_rfl) rfl #[.agg #[.int .u8 a0_0, .int .u8 a0_1, .int .u8 a0_2, .int .u16 a0_3], .int .i64 a1] rfl (by (try simp only [List.map_toArray, List.map_cons, List.map_nil]); first | done | rfl | (simp only [List.length_drop, List.length_take]; rfl)) ?_; (with_reducible refine (vitrineref09_Answer.calls k a0_0 a0_1 a0_2 a0_3 a1 t185 _ A6.out).mono ?_); rintro e w13 ⟨v186, rfl, ho0, hb⟩; refine ⟨_, rfl, ?_⟩; have n0_ := Aside0.mk (Kd.R_elder' (by (with_reducible repeat (first | apply Kd.R_alloc | apply Kd.R_drewN | apply Kd.R_drew)); exact HO183.out) (Kd.R_base ho0) hb); have n1_ := Aside0.mk (Kd.R_lower (Kd.R_new' ho0 (Kd.R_lt (by (with_reducible repeat (first | apply Kd.R_alloc | apply Kd.R_drewN | apply Kd.R_drew)); exact HO183.out))) (below_size (by repeat (first | (with_reducible first | exact HB.out | apply below_alloc | apply pw_below_drewN | apply below_drew1 | refine below_set ?_ GE179.out) | exact HB.out)))); have n2_ := Aside0.mk (blk_below (g := gb179) (o := .cells #[.int .u8 a0_0, .int .u8 a0_1, .int .u8 a0_2, .int .u16 a0_3] 24 (0, 0)) (by (with_reducible repeat (first | refine blk_drewN ?_ _ | refine blk_drew ?_ | refine blk_alloc ?_ _)); exact BK179.out) hb); have n3_ := Aside0.mk (below_step (by repeat (first | (with_reducible first | exact HB.out | apply below_alloc | apply pw_below_drewN | apply below_drew1 | refine below_set ?_ GE179.out) | exact HB.out)) hb); clear HO183; clear BK179; clear HB; have HO183 := n0_; have HO187 := n1_; have BK179 := n2_; have HB := n3_; clear n0_ n1_ n2_ n3_; (try clear hb); (try clear hb2); (try clear hk); (try clear hi); (try clear ho0)))
    (try simp only [Act.put, List.setIfInBounds_toArray, List.set_cons_zero, List.set_cons_succ])
    go_cut [39] (fun v39 wc => ∃ (kq : Nat) (x39_6 : Bool), v39 = .bool x39_6 ∧ Aside0 (vitrinelaw09_HeaderAnswers.j0 kq a1 t181 t184 x39_6 a0_0 a0_1 a0_2 a0_3 = some r) ∧ Aside0 (kq ≤ k) ∧ Aside0 (Kd.R (Kd.int .u8) 5 wc w.heap.size (fun _ => True) v182 t181) ∧ Aside0 (wc.heap[gb179]? = some (.cells #[.int .u8 a0_0, .int .u8 a0_1, .int .u8 a0_2, .int .u16 a0_3] 24 (0, 0))) ∧ Aside0 (Below w.heap.size w wc))
    case first =>
      have H := HC7.out
      clear HC7
      replace H := Option.bind_eq_some_iff.mp H
      obtain ⟨t188, A140, H⟩ := H
      replace H : (if t188 = true then (if (t184 != (decide ((t185.length : Int) > 0))) = true then (none) else ((header_Code.f k a1).bind fun t189 => ((vitrineref09_Code.f k a1).bind fun t190 => (vitrinelaw09_HeaderAnswers.j0 k a1 t181 t184 (t189 != t190) a0_0 a0_1 a0_2 a0_3)))) else (none)) = some r := H
      have A14 := Aside0.mk A140
      clear A140
      by_cases c15 : t188 = true
      · subst c15
        have H1 : (if (t184 != (decide ((t185.length : Int) > 0))) = true then (none) else ((header_Code.f k a1).bind fun t189 => ((vitrineref09_Code.f k a1).bind fun t190 => (vitrinelaw09_HeaderAnswers.j0 k a1 t181 t184 (t189 != t190) a0_0 a0_1 a0_2 a0_3)))) = some r := by rw [if_pos rfl] at H; exact H
        clear H
        have H := H1
        clear H1
        by_cases c16 : (t184 != (decide ((t185.length : Int) > 0))) = true
        · rw [if_pos c16] at H
          exact absurd H (by simp)
        · rw [if_neg c16] at H
          have e16 : t184 = decide (0 < t185.length) := by simpa using c16
          clear c16
          subst e16
          replace H := Option.bind_eq_some_iff.mp H
          obtain ⟨t189, A170, H⟩ := H
          replace H : ((vitrineref09_Code.f k a1).bind fun t190 => (vitrinelaw09_HeaderAnswers.j0 k a1 t181 (decide (0 < t185.length)) (t189 != t190) a0_0 a0_1 a0_2 a0_3)) = some r := H
          have A17 := Aside0.mk A170
          clear A170
          replace H := Option.bind_eq_some_iff.mp H
          obtain ⟨t190, A180, H⟩ := H
          replace H : (vitrinelaw09_HeaderAnswers.j0 k a1 t181 (decide (0 < t185.length)) (t189 != t190) a0_0 a0_1 a0_2 a0_3) = some r := H
          have A18 := Aside0.mk A180
          clear A180
          have H' := Aside0.mk H
          clear H
          obtain ⟨Ao19, co19, eo19⟩ := Kd.R_slice HO183.out
          subst eo19
          obtain ⟨Ao20, co20, eo20⟩ := Kd.R_slice HO187.out
          subst eo20
          go_wp2_with (first | ((with_reducible refine gate_callee (f := 9) rfl ?_); refine goesL_ (some 24) rfl rfl Tryd.func9 (by kernel_rfl) rfl #[.slice Ao19 t181.length co19, .slice Ao20 t185.length co20] rfl (by (try simp only [List.map_toArray, List.map_cons, List.map_nil]); first | done | rfl | (simp only [List.length_drop, List.length_take]; rfl)) ?_; (with_reducible refine (vitrineref01_Same.calls _ _ t181 _ _ t185 true _ ?side1 ?side2 ?side3 ?side4 A14.out).mono ?_); (case side1 => repeat (first | exact (Kd.R_reads' HO183.out).2.2 | (with_reducible refine Kd.C_alloc ?_ _) | (with_reducible refine Kd.C_drewN ?_ _) | (with_reducible refine Kd.C_drew ?_))); (case side2 => exact (Kd.R_reads' HO183.out).2.1); (case side3 => repeat (first | exact (Kd.R_reads' HO187.out).2.2 | (with_reducible refine Kd.C_alloc ?_ _) | (with_reducible refine Kd.C_drewN ?_ _) | (with_reducible refine Kd.C_drew ?_))); (case side4 => exact (Kd.R_reads' HO187.out).2.1); rintro e w' ⟨rfl, ⟨nd, rfl⟩⟩; refine ⟨_, rfl, ?_⟩) | (go_at_call 10; (with_reducible refine (header_Code.calls k a1 t189 _ A17.out).mono ?_); rintro e w' ⟨rfl, ⟨nd, rfl⟩⟩) | (go_at_call 11; (with_reducible refine (vitrineref09_Code.calls k a1 t190 _ A18.out).mono ?_); rintro e w' ⟨rfl, ⟨nd, rfl⟩⟩))
          go_meet
          case rel => exact ⟨_, ((t189 != t190)), (by first | rfl | (simp; done) | (simp [*]; done)), H', ⟨by first | omega | exact Nat.le_refl _⟩, ⟨by (with_reducible repeat (first | apply Kd.R_alloc | apply Kd.R_drewN | apply Kd.R_drew)); exact Kd.R_mono HO183.out (fun _ hk => trivial)⟩, ⟨by (with_reducible repeat (first | refine blk_drewN ?_ _ | refine blk_drew ?_ | refine blk_alloc ?_ _)); exact BK179.out⟩, ⟨by repeat (first | (with_reducible first | exact HB.out | apply below_alloc | apply pw_below_drewN | apply below_drew1 | refine below_set ?_ GE179.out) | exact HB.out)⟩⟩
      · replace c15 := Bool.eq_false_iff.mpr c15
        subst c15
        have H1 : (none) = some r := by rw [if_neg (show ¬ (false = true) by decide)] at H; exact H
        clear H
        have H := H1
        clear H1
        exact absurd H (by simp)
    case rest =>
      clear HC7
      try clear c1
      try clear p2
      try clear c3
      try clear c4
      try clear c6
      try clear c7
      try clear c8
      try clear c9
      try clear c15
      try clear c16
      try clear c16b0
      try clear c16b1
      try clear hcz10_0
      try clear hcz10_1
      try clear hcz10_2
      try clear hcz10_3
      try clear hcz12_0
      try clear hcz12_1
      try clear hcz12_2
      try clear hcz12_3
      try clear hfz10_0
      try clear hfz10_1
      try clear hfz10_2
      try clear hfz10_3
      try clear hfz12_0
      try clear hfz12_1
      try clear hfz12_2
      try clear hfz12_3
      obtain ⟨kq, x39_6, rfl, HA, HJ6, HO_5, BK179, HB⟩ := hcut
      cases kq with
      | zero => exact absurd HA.out (by simp [vitrinelaw09_HeaderAnswers.j0])
      | succ kj6 =>
        have H := HA.out
        clear HA
        simp only [vitrinelaw09_HeaderAnswers.j0] at H
        by_cases c21 : x39_6 = true
        · subst c21
          have H1 : (none) = some r := by rw [if_pos rfl] at H; exact H
          clear H
          have H := H1
          clear H1
          exact absurd H (by simp)
        · replace c21 := Bool.eq_false_iff.mpr c21
          subst c21
          have H1 : (if t184 = true then ((header_Parse.f t181).bind fun bt191 => (if bt191.2.2.2.2.2 = 0 then (if bt191.1 = 2 then (if bt191.2.2.2.1 = a0_3 then (if (bt191.2.2.2.2.1.length : Int) = 1 then (some ((bt191.2.2.1 == 0) == (a1 == 0))) else (none)) else (none)) else (none)) else (none))) else (some true)) = some r := by rw [if_neg (show ¬ (false = true) by decide)] at H; exact H
          clear H
          have H := H1
          clear H1
          by_cases c22 : t184 = true
          · subst c22
            have H1 : ((header_Parse.f t181).bind fun bt191 => (if bt191.2.2.2.2.2 = 0 then (if bt191.1 = 2 then (if bt191.2.2.2.1 = a0_3 then (if (bt191.2.2.2.2.1.length : Int) = 1 then (some ((bt191.2.2.1 == 0) == (a1 == 0))) else (none)) else (none)) else (none)) else (none))) = some r := by rw [if_pos rfl] at H; exact H
            clear H
            have H := H1
            clear H1
            replace H := Option.bind_eq_some_iff.mp H
            obtain ⟨⟨t191, t192, t193, t194, t195, t198⟩, A230, H⟩ := H
            replace H : (if t198 = 0 then (if t191 = 2 then (if t194 = a0_3 then (if (t195.length : Int) = 1 then (some ((t193 == 0) == (a1 == 0))) else (none)) else (none)) else (none)) else (none)) = some r := H
            have A23 := Aside0.mk A230
            clear A230
            by_cases c24 : t198 = 0
            · rw [if_pos c24] at H
              have c24b0 : (t198 == 0) = true := beq_iff_eq.mpr c24
              have c24b1 : (t198 != 0) = false := bne_eq_false_iff_eq.mpr c24
              clear c24
              by_cases c25 : t191 = 2
              · rw [if_pos c25] at H
                have c25b0 : (t191 == 2) = true := beq_iff_eq.mpr c25
                have c25b1 : (t191 != 2) = false := bne_eq_false_iff_eq.mpr c25
                clear c25
                by_cases c26 : t194 = a0_3
                · rw [if_pos c26] at H
                  have c26b0 : (t194 == a0_3) = true := beq_iff_eq.mpr c26
                  have c26b1 : (t194 != a0_3) = false := bne_eq_false_iff_eq.mpr c26
                  clear c26
                  by_cases c27 : (t195.length : Int) = 1
                  · rw [if_pos c27] at H
                    have c27b0 : ((t195.length : Int) == 1) = true := beq_iff_eq.mpr c27
                    have c27b1 : ((t195.length : Int) != 1) = false := bne_eq_false_iff_eq.mpr c27
                    clear c27
                    obtain rfl := Option.some.inj H
                    obtain ⟨Ao28, co28, eo28⟩ := Kd.R_slice HO_5.out
                    subst eo28
                    go_wp2_with (first | ((with_reducible refine gate_callee (f := 12) rfl ?_); refine goesL_ (some 44) rfl rfl Tryd.func12 (by kernel_rfl) rfl #[.slice Ao28 t181.length co28] rfl (by (try simp only [List.map_toArray, List.map_cons, List.map_nil]); first | done | rfl | (simp only [List.length_drop, List.length_take]; rfl)) ?_; (with_reducible refine (header_Parse.calls _ _ t181 t191 t192 t193 t194 t195 t198 _ ?side1 ?side2 A23.out).mono ?_); (case side1 => repeat (first | exact (Kd.R_reads' HO_5.out).2.2 | (with_reducible refine Kd.C_alloc ?_ _) | (with_reducible refine Kd.C_drewN ?_ _) | (with_reducible refine Kd.C_drew ?_))); (case side2 => exact (Kd.R_reads' HO_5.out).2.1); rintro e w29 ⟨v196, rfl, ho0, hb⟩; refine ⟨_, rfl, ?_⟩; have n0_ := Aside0.mk (Kd.R_elder' (by (with_reducible repeat (first | apply Kd.R_alloc | apply Kd.R_drewN | apply Kd.R_drew)); exact HO_5.out) (Kd.R_base ho0) hb); have n1_ := Aside0.mk (Kd.R_lower (Kd.R_new' ho0 (Kd.R_lt (by (with_reducible repeat (first | apply Kd.R_alloc | apply Kd.R_drewN | apply Kd.R_drew)); exact HO_5.out))) (below_size (by repeat (first | (with_reducible first | exact HB.out | apply below_alloc | apply pw_below_drewN | apply below_drew1 | refine below_set ?_ GE179.out) | exact HB.out)))); have n2_ := Aside0.mk (blk_below (g := gb179) (o := .cells #[.int .u8 a0_0, .int .u8 a0_1, .int .u8 a0_2, .int .u16 a0_3] 24 (0, 0)) (by (with_reducible repeat (first | refine blk_drewN ?_ _ | refine blk_drew ?_ | refine blk_alloc ?_ _)); exact BK179.out) hb); have n3_ := Aside0.mk (below_step (by repeat (first | (with_reducible first | exact HB.out | apply below_alloc | apply pw_below_drewN | apply below_drew1 | refine below_set ?_ GE179.out) | exact HB.out)) hb); clear HO_5; clear BK179; clear HB; have HO_5 := n0_; have HO197 := n1_; have BK179 := n2_; have HB := n3_; clear n0_ n1_ n2_ n3_; (try clear hb); (try clear hb2); (try clear hk); (try clear hi); (try clear ho0)) | ((with_reducible refine gate_dst (N := 8) rfl ?_); (try (refine gate_guard (by rfl) ?_; dsimp only)); refine box_event ?hg (N := 8) ?hd (cs := #[.int .u8 0, .int .u8 0, .int .u8 0, .int .u16 0]) (t := 29) ?hr ?_; (case hd => rfl); (case hg => rfl); (case hr => first | (go_simp; done) | (go_simp; rfl)); intro gb199 hg w30 hbox hb; have n0_ := Aside0.mk (Kd.R_below (by (with_reducible repeat (first | apply Kd.R_alloc | apply Kd.R_drewN | apply Kd.R_drew)); exact HO_5.out) hb); have n1_ := Aside0.mk (Kd.R_below (by (with_reducible repeat (first | apply Kd.R_alloc | apply Kd.R_drewN | apply Kd.R_drew)); exact HO197.out) hb); have n2_ := Aside0.mk (blk_below (g := gb179) (o := .cells #[.int .u8 a0_0, .int .u8 a0_1, .int .u8 a0_2, .int .u16 a0_3] 24 (0, 0)) (by (with_reducible repeat (first | refine blk_drewN ?_ _ | refine blk_drew ?_ | refine blk_alloc ?_ _)); exact BK179.out) hb); have n3_ := Aside0.mk (below_step (by repeat (first | (with_reducible first | exact HB.out | apply below_alloc | apply pw_below_drewN | apply below_drew1 | refine below_set ?_ GE179.out) | exact HB.out)) hb); have n4_ := Aside0.mk (hbox); have n5_ := Aside0.mk ((by rw [hg]; exact (below_size (by repeat (first | (with_reducible first | exact HB.out | apply below_alloc | apply pw_below_drewN | apply below_drew1 | refine below_set ?_ GE179.out) | exact HB.out))) : w.heap.size ≤ gb199)); have n6_ := Aside0.mk ((by rw [hg]; exact (below_size (by repeat (first | (with_reducible first | exact HB.out | apply below_alloc | apply pw_below_drewN | apply below_drew1 | refine below_set ?_ GE179.out) | exact HB.out))) : w.heap.size ≤ gb199)); have n7_ := Aside0.mk ((by rw [hg]; exact Nat.ne_of_lt (blk_lt (g := gb179) (o := .cells #[.int .u8 a0_0, .int .u8 a0_1, .int .u8 a0_2, .int .u16 a0_3] 24 (0, 0)) (by (with_reducible repeat (first | refine blk_drewN ?_ _ | refine blk_drew ?_ | refine blk_alloc ?_ _)); exact BK179.out)) : gb179 ≠ gb199)); have n8_ := Aside0.mk ((by rw [hg]; exact Nat.ne_of_gt (blk_lt (g := gb179) (o := .cells #[.int .u8 a0_0, .int .u8 a0_1, .int .u8 a0_2, .int .u16 a0_3] 24 (0, 0)) (by (with_reducible repeat (first | refine blk_drewN ?_ _ | refine blk_drew ?_ | refine blk_alloc ?_ _)); exact BK179.out)) : gb199 ≠ gb179)); clear HO_5; clear HO197; clear BK179; clear HB; have HO_5 := n0_; have HO197 := n1_; have BK179 := n2_; have HB := n3_; have BK199 := n4_; have GW199 := n5_; have GE199 := n6_; have NB179_199 := n7_; have NB199_179 := n8_; clear n0_ n1_ n2_ n3_ n4_ n5_ n6_ n7_ n8_; clear hb hbox hg; have hnb31 := NB199_179.out; have hnc31 := NB179_199.out; have hcz32_0 : w30.cell? ⟨gb199, 0, none⟩ = some (.int .u8 0) := (blk_cell BK199.out 0).trans rfl; have hcz32_1 : w30.cell? ⟨gb199, 1, none⟩ = some (.int .u8 0) := (blk_cell BK199.out 1).trans rfl; have hcz32_2 : w30.cell? ⟨gb199, 2, none⟩ = some (.int .u8 0) := (blk_cell BK199.out 2).trans rfl; have hcz32_3 : w30.cell? ⟨gb199, 3, none⟩ = some (.int .u16 0) := (blk_cell BK199.out 3).trans rfl; have hfz32_0 := blk_frozen BK199.out 0; have hfz32_1 := blk_frozen BK199.out 1; have hfz32_2 := blk_frozen BK199.out 2; have hfz32_3 := blk_frozen BK199.out 3; have hcz33_0 : w30.cell? ⟨gb179, 0, none⟩ = some (.int .u8 a0_0) := (blk_cell BK179.out 0).trans rfl; have hcz33_1 : w30.cell? ⟨gb179, 1, none⟩ = some (.int .u8 a0_1) := (blk_cell BK179.out 1).trans rfl; have hcz33_2 : w30.cell? ⟨gb179, 2, none⟩ = some (.int .u8 a0_2) := (blk_cell BK179.out 2).trans rfl; have hcz33_3 : w30.cell? ⟨gb179, 3, none⟩ = some (.int .u16 a0_3) := (blk_cell BK179.out 3).trans rfl; have hfz33_0 := blk_frozen BK179.out 0; have hfz33_1 := blk_frozen BK179.out 1; have hfz33_2 := blk_frozen BK179.out 2; have hfz33_3 := blk_frozen BK179.out 3; obtain ⟨Ao34, co34, eo34⟩ := Kd.R_slice HO197.out; subst eo34))
                    go_ret
                    exact ⟨by first | rfl | (simp [errW_none, errW_some] <;> rfl) | (simp [*, errW_none, errW_some] <;> rfl), by repeat (first | (with_reducible first | exact HB.out | apply below_alloc | apply pw_below_drewN | apply below_drew1 | refine below_set ?_ GE179.out | refine below_set ?_ GE199.out) | exact HB.out)⟩
                  · rw [if_neg c27] at H
                    exact absurd H (by simp)
                · rw [if_neg c26] at H
                  exact absurd H (by simp)
              · rw [if_neg c25] at H
                exact absurd H (by simp)
            · rw [if_neg c24] at H
              exact absurd H (by simp)
          · replace c22 := Bool.eq_false_iff.mpr c22
            subst c22
            have H1 : (some true) = some r := by rw [if_neg (show ¬ (false = true) by decide)] at H; exact H
            clear H
            have H := H1
            clear H1
            obtain rfl := Option.some.inj H
            go_wp2
            go_ret
            exact ⟨by first | rfl | (simp [errW_none, errW_some] <;> rfl) | (simp [*, errW_none, errW_some] <;> rfl), by repeat (first | (with_reducible first | exact HB.out | apply below_alloc | apply pw_below_drewN | apply below_drew1 | refine below_set ?_ GE179.out) | exact HB.out)⟩
  · replace c4 := Bool.eq_false_iff.mpr c4
    subst c4
    have H1 : (none) = some r := by rw [if_neg (show ¬ (false = true) by decide)] at H; exact H
    clear H
    have H := H1
    clear H1
    exact absurd H (by simp)

end Go.Proofs.YtnncgipmfikooaaDoor.PHd
