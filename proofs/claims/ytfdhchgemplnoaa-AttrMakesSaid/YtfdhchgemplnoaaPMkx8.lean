-- Written by a program of this session (a changed copy of the kit's print program): not the kit's print.
import Derived.Test.YtfdhchgemplnoaaPMkx0
import Derived.Test.YtfdhchgemplnoaaPMkx4
namespace Go.Proofs.Ytfdhchgemplnoaa.PMk
open Go.RowKit Go.Proofs.YtfdhchgemplnoaaW.PrintWords Go.Proofs.YtfdhchgemplnoaaW.PrintLast Go.Proofs.YtfdhchgemplnoaaW.PrintMore
attribute [local go_sem] max2_int min2_int max_two min_two max_three min_three max_four min_four   -- for this text's walks alone
set_option linter.unusedVariables false
set_option linter.unusedSimpArgs false

/-! ### vitrineref05_Diff: function 34 -/
def vitrineref05_Diff.j0 : Nat → List (S36) → Int → Bool → Int → Int → Int → Int → Int → Bool → Int → Int → Int → Int → Option ((List (S36)))
  | 0, _, _, _, _, _, _, _, _, _, _, _, _, _ => none
  | k + 1, x5, x133000, x133001, x133002, x133003, x133004, x133005, x134000, x134001, x134002, x134003, x134004, x134005 => if x133004 = x134004 then (if x133005 = x134005 then (some x5) else (if x5.length < 70368744177664 then (some (x5 ++ [(⟨67, x134005⟩ : S36)])) else (none))) else (if x5.length < 70368744177664 then ((some (x5 ++ [(⟨66, x134004⟩ : S36)] : List (S36))).bind fun y140 => (if x133005 = x134005 then (some y140) else (if y140.length < 70368744177664 then (some (y140 ++ [(⟨67, x134005⟩ : S36)])) else (none)))) else (none))
def vitrineref05_Diff.f (k : Nat) (a0_0 : Int) (a0_1 : Bool) (a0_2 : Int) (a0_3 : Int) (a0_4 : Int) (a0_5 : Int) (a1_0 : Int) (a1_1 : Bool) (a1_2 : Int) (a1_3 : Int) (a1_4 : Int) (a1_5 : Int) : Option ((List (S36))) := if a0_3 = a1_3 then (vitrineref05_Diff.j0 k ([] : List (S36)) a0_0 a0_1 a0_2 a0_3 a0_4 a0_5 a1_0 a1_1 a1_2 a1_3 a1_4 a1_5) else (if ([] : List (S36)).length < 70368744177664 then (vitrineref05_Diff.j0 k (([] : List (S36)) ++ [(⟨65, a1_3⟩ : S36)]) a0_0 a0_1 a0_2 a0_3 a0_4 a0_5 a1_0 a1_1 a1_2 a1_3 a1_4 a1_5) else (none))
theorem vitrineref05_Diff.mono_l : ∀ k, (∀ y0 y1 y2 y3 y4 y5 y6 y7 y8 y9 y10 y11 y12, LeO (vitrineref05_Diff.j0 k y0 y1 y2 y3 y4 y5 y6 y7 y8 y9 y10 y11 y12) (vitrineref05_Diff.j0 (k + 1) y0 y1 y2 y3 y4 y5 y6 y7 y8 y9 y10 y11 y12))
  | 0 => fun _ _ _ _ _ _ _ _ _ _ _ _ _ r h => by simp [vitrineref05_Diff.j0] at h
  | k + 1 => by
    have ih0 := vitrineref05_Diff.mono_l k
    · intro y0 y1 y2 y3 y4 y5 y6 y7 y8 y9 y10 y11 y12
      unfold vitrineref05_Diff.j0
      repeat' first
      | (with_reducible exact ih0 _ _ _ _ _ _ _ _ _ _ _ _ _)
      | (with_reducible exact LeO.refl _)
      | (with_reducible exact LeO.none _)
      | (with_reducible refine LeO.ite ?_ ?_)
      | (with_reducible refine LeO.bind ?_ (fun _ => ?_))
      | exact ih0 _ _ _ _ _ _ _ _ _ _ _ _ _
      | exact LeO.none _
      | refine LeO.ite ?_ ?_
      | refine LeO.bind ?_ (fun _ => ?_)
theorem vitrineref05_Diff.mono : ∀ a0 a1 a2 a3 a4 a5 a6 a7 a8 a9 a10 a11 k, LeO (vitrineref05_Diff.f k a0 a1 a2 a3 a4 a5 a6 a7 a8 a9 a10 a11) (vitrineref05_Diff.f (k + 1) a0 a1 a2 a3 a4 a5 a6 a7 a8 a9 a10 a11) := by
  intro a0 a1 a2 a3 a4 a5 a6 a7 a8 a9 a10 a11 k
  have ih0 := vitrineref05_Diff.mono_l k
  unfold vitrineref05_Diff.f
  repeat' first
      | (with_reducible exact ih0 _ _ _ _ _ _ _ _ _ _ _ _ _)
      | (with_reducible exact LeO.refl _)
      | (with_reducible exact LeO.none _)
      | (with_reducible refine LeO.ite ?_ ?_)
      | (with_reducible refine LeO.bind ?_ (fun _ => ?_))
      | exact ih0 _ _ _ _ _ _ _ _ _ _ _ _ _
      | exact LeO.none _
      | refine LeO.ite ?_ ?_
      | refine LeO.bind ?_ (fun _ => ?_)
set_option maxHeartbeats 8000000 in
set_option maxRecDepth 100000 in
theorem vitrineref05_Diff.calls (k : Nat) (a0_0 : Int) (a0_1 : Bool) (a0_2 : Int) (a0_3 : Int) (a0_4 : Int) (a0_5 : Int) (a1_0 : Int) (a1_1 : Bool) (a1_2 : Int) (a1_3 : Int) (a1_4 : Int) (a1_5 : Int) (r : List (S36)) (w : World) (h : vitrineref05_Diff.f k a0_0 a0_1 a0_2 a0_3 a0_4 a0_5 a1_0 a1_1 a1_2 a1_3 a1_4 a1_5 = some r) :
    Calls Try.prog 34 #[.agg #[.int .u8 a0_0, .bool a0_1, .int .u8 a0_2, .int .u8 a0_3, .int .u8 a0_4, .int .u8 a0_5], .agg #[.int .u8 a1_0, .bool a1_1, .int .u8 a1_2, .int .u8 a1_3, .int .u8 a1_4, .int .u8 a1_5]] w fun e w' => ∃ v0_ : Value, e = .returned (v0_) ∧ Kd.R k36 36 w' w.heap.size (fun _ => True) v0_ r ∧ Below w.heap.size w w' := by
  have hu38 := Try.underlying38
  have hu36 := Try.underlying36
  have HB := Aside0.mk (Below.refl w.heap.size w)
  have H : (if a0_3 = a1_3 then (vitrineref05_Diff.j0 k ([] : List (S36)) a0_0 a0_1 a0_2 a0_3 a0_4 a0_5 a1_0 a1_1 a1_2 a1_3 a1_4 a1_5) else (if ([] : List (S36)).length < 70368744177664 then (vitrineref05_Diff.j0 k (([] : List (S36)) ++ [(⟨65, a1_3⟩ : S36)]) a0_0 a0_1 a0_2 a0_3 a0_4 a0_5 a1_0 a1_1 a1_2 a1_3 a1_4 a1_5) else (none))) = some r := h
  clear h
  have HC3 := Aside0.mk H
  clear H
  go_enter Try.func34, Try.ntmps34
  go_upto_if 10 with (first | ((with_reducible refine gate_dst (N := 2) rfl ?_); refine box_event ?hg (N := 2) ?hd (cs := #[.int .u8 a0_0, .bool a0_1, .int .u8 a0_2, .int .u8 a0_3, .int .u8 a0_4, .int .u8 a0_5]) (t := 38) ?hr ?_; (case hd => rfl); (case hg => rfl); (case hr => first | (go_simp; done) | (go_simp; rfl)); intro gb132 hg w4 hbox hb; have n0_ := Aside0.mk (below_step (by repeat (first | (with_reducible first | exact HB.out | apply below_alloc | apply pw_below_drewN | apply below_drew1) | exact HB.out)) hb); have n1_ := Aside0.mk (hbox); have n2_ := Aside0.mk ((by rw [hg]; exact (below_size (by repeat (first | (with_reducible first | exact HB.out | apply below_alloc | apply pw_below_drewN | apply below_drew1) | exact HB.out))) : w.heap.size ≤ gb132)); have n3_ := Aside0.mk ((by rw [hg]; exact (below_size (by repeat (first | (with_reducible first | exact HB.out | apply below_alloc | apply pw_below_drewN | apply below_drew1) | exact HB.out))) : w.heap.size ≤ gb132)); clear HB; have HB := n0_; have BK132 := n1_; have GW132 := n2_; have GE132 := n3_; clear n0_ n1_ n2_ n3_; clear hb hbox hg) | ((with_reducible refine gate_dst (N := 3) rfl ?_); refine box_event ?hg (N := 3) ?hd (cs := #[.int .u8 a1_0, .bool a1_1, .int .u8 a1_2, .int .u8 a1_3, .int .u8 a1_4, .int .u8 a1_5]) (t := 38) ?hr ?_; (case hd => rfl); (case hg => rfl); (case hr => first | (go_simp; done) | (go_simp; rfl)); intro gb133 hg w5 hbox hb; have n0_ := Aside0.mk (blk_below (g := gb132) (o := .cells #[.int .u8 a0_0, .bool a0_1, .int .u8 a0_2, .int .u8 a0_3, .int .u8 a0_4, .int .u8 a0_5] 38 (0, 0)) (by (with_reducible repeat (first | refine blk_drewN ?_ _ | refine blk_drew ?_ | refine blk_alloc ?_ _)); exact BK132.out) hb); have n1_ := Aside0.mk (below_step (by repeat (first | (with_reducible first | exact HB.out | apply below_alloc | apply pw_below_drewN | apply below_drew1 | refine below_set ?_ GE132.out) | exact HB.out)) hb); have n2_ := Aside0.mk (hbox); have n3_ := Aside0.mk ((by rw [hg]; exact (below_size (by repeat (first | (with_reducible first | exact HB.out | apply below_alloc | apply pw_below_drewN | apply below_drew1 | refine below_set ?_ GE132.out) | exact HB.out))) : w.heap.size ≤ gb133)); have n4_ := Aside0.mk ((by rw [hg]; exact (below_size (by repeat (first | (with_reducible first | exact HB.out | apply below_alloc | apply pw_below_drewN | apply below_drew1 | refine below_set ?_ GE132.out) | exact HB.out))) : w.heap.size ≤ gb133)); have n5_ := Aside0.mk ((by rw [hg]; exact Nat.ne_of_lt (blk_lt (g := gb132) (o := .cells #[.int .u8 a0_0, .bool a0_1, .int .u8 a0_2, .int .u8 a0_3, .int .u8 a0_4, .int .u8 a0_5] 38 (0, 0)) (by (with_reducible repeat (first | refine blk_drewN ?_ _ | refine blk_drew ?_ | refine blk_alloc ?_ _)); exact BK132.out)) : gb132 ≠ gb133)); have n6_ := Aside0.mk ((by rw [hg]; exact Nat.ne_of_gt (blk_lt (g := gb132) (o := .cells #[.int .u8 a0_0, .bool a0_1, .int .u8 a0_2, .int .u8 a0_3, .int .u8 a0_4, .int .u8 a0_5] 38 (0, 0)) (by (with_reducible repeat (first | refine blk_drewN ?_ _ | refine blk_drew ?_ | refine blk_alloc ?_ _)); exact BK132.out)) : gb133 ≠ gb132)); clear BK132; clear HB; have BK132 := n0_; have HB := n1_; have BK133 := n2_; have GW133 := n3_; have GE133 := n4_; have NB132_133 := n5_; have NB133_132 := n6_; clear n0_ n1_ n2_ n3_ n4_ n5_ n6_; clear hb hbox hg; have hnb6 := NB132_133.out; have hnc6 := NB133_132.out; have hcz7_0 : w5.cell? ⟨gb132, 0, none⟩ = some (.int .u8 a0_0) := (blk_cell BK132.out 0).trans rfl; have hcz7_1 : w5.cell? ⟨gb132, 1, none⟩ = some (.bool a0_1) := (blk_cell BK132.out 1).trans rfl; have hcz7_2 : w5.cell? ⟨gb132, 2, none⟩ = some (.int .u8 a0_2) := (blk_cell BK132.out 2).trans rfl; have hcz7_3 : w5.cell? ⟨gb132, 3, none⟩ = some (.int .u8 a0_3) := (blk_cell BK132.out 3).trans rfl; have hcz7_4 : w5.cell? ⟨gb132, 4, none⟩ = some (.int .u8 a0_4) := (blk_cell BK132.out 4).trans rfl; have hcz7_5 : w5.cell? ⟨gb132, 5, none⟩ = some (.int .u8 a0_5) := (blk_cell BK132.out 5).trans rfl; have hfz7_0 := blk_frozen BK132.out 0; have hfz7_1 := blk_frozen BK132.out 1; have hfz7_2 := blk_frozen BK132.out 2; have hfz7_3 := blk_frozen BK132.out 3; have hfz7_4 := blk_frozen BK132.out 4; have hfz7_5 := blk_frozen BK132.out 5; have hcz8_0 : w5.cell? ⟨gb133, 0, none⟩ = some (.int .u8 a1_0) := (blk_cell BK133.out 0).trans rfl; have hcz8_1 : w5.cell? ⟨gb133, 1, none⟩ = some (.bool a1_1) := (blk_cell BK133.out 1).trans rfl; have hcz8_2 : w5.cell? ⟨gb133, 2, none⟩ = some (.int .u8 a1_2) := (blk_cell BK133.out 2).trans rfl; have hcz8_3 : w5.cell? ⟨gb133, 3, none⟩ = some (.int .u8 a1_3) := (blk_cell BK133.out 3).trans rfl; have hcz8_4 : w5.cell? ⟨gb133, 4, none⟩ = some (.int .u8 a1_4) := (blk_cell BK133.out 4).trans rfl; have hcz8_5 : w5.cell? ⟨gb133, 5, none⟩ = some (.int .u8 a1_5) := (blk_cell BK133.out 5).trans rfl; have hfz8_0 := blk_frozen BK133.out 0; have hfz8_1 := blk_frozen BK133.out 1; have hfz8_2 := blk_frozen BK133.out 2; have hfz8_3 := blk_frozen BK133.out 3; have hfz8_4 := blk_frozen BK133.out 4; have hfz8_5 := blk_frozen BK133.out 5))
  (try simp only [Act.put, List.setIfInBounds_toArray, List.set_cons_zero, List.set_cons_succ])
  go_cut [5] (fun v5 wc => ∃ (kq : Nat) (x5_2 : List (S36)), Aside0 (vitrineref05_Diff.j0 kq x5_2 a0_0 a0_1 a0_2 a0_3 a0_4 a0_5 a1_0 a1_1 a1_2 a1_3 a1_4 a1_5 = some r) ∧ Aside0 (kq ≤ k) ∧ Aside0 (Kd.R k36 36 wc w.heap.size (fun _ => True) v5 x5_2) ∧ Aside0 (wc.heap[gb132]? = some (.cells #[.int .u8 a0_0, .bool a0_1, .int .u8 a0_2, .int .u8 a0_3, .int .u8 a0_4, .int .u8 a0_5] 38 (0, 0))) ∧ Aside0 (wc.heap[gb133]? = some (.cells #[.int .u8 a1_0, .bool a1_1, .int .u8 a1_2, .int .u8 a1_3, .int .u8 a1_4, .int .u8 a1_5] 38 (0, 0))) ∧ Aside0 (Below w.heap.size w wc))
  case first =>
    have H := HC3.out
    clear HC3
    by_cases c9 : a0_3 = a1_3
    · rw [if_pos c9] at H
      have c9b0 : (a0_3 == a1_3) = true := beq_iff_eq.mpr c9
      have c9b1 : (a0_3 != a1_3) = false := bne_eq_false_iff_eq.mpr c9
      clear c9
      (first | rw [c9b0] | (simp only [i64_w, i32_w]; rw [c9b0]) | skip)
      have H' := Aside0.mk H
      clear H
      go_wp2
      go_meet
      case rel => exact ⟨_, (([] : List (S36))), H', ⟨by first | omega | exact Nat.le_refl _⟩, ⟨by first | exact Kd.R_nil _ _ _ _ _ | exact Kd.N_nil _ _ _ _ _ | exact Kd.V_nil _ _ _ _ _ | exact Kd.Q_nil _ _ _ _ _ | exact Kd.S_nil _ _ _ _ _⟩, ⟨by (with_reducible repeat (first | refine blk_drewN ?_ _ | refine blk_drew ?_ | refine blk_alloc ?_ _)); exact BK132.out⟩, ⟨by (with_reducible repeat (first | refine blk_drewN ?_ _ | refine blk_drew ?_ | refine blk_alloc ?_ _)); exact BK133.out⟩, ⟨by repeat (first | (with_reducible first | exact HB.out | apply below_alloc | apply pw_below_drewN | apply below_drew1 | refine below_set ?_ GE132.out | refine below_set ?_ GE133.out) | exact HB.out)⟩⟩
    · rw [if_neg c9] at H
      have c9b0 : (a0_3 == a1_3) = false := beq_eq_false_iff_ne.mpr c9
      have c9b1 : (a0_3 != a1_3) = true := bne_iff_ne.mpr c9
      (first | rw [c9b0] | (simp only [i64_w, i32_w]; rw [c9b0]) | skip)
      by_cases c10 : ([] : List (S36)).length < 70368744177664
      · rw [if_pos c10] at H
        have LMc10 := Aside0.mk c10
        clear c10
        obtain ⟨y134, hy134⟩ : ∃ y_ : List (S36), y_ = (([] : List (S36)) ++ [(⟨65, a1_3⟩ : S36)]) := ⟨_, rfl⟩
        replace H : (vitrineref05_Diff.j0 k y134 a0_0 a0_1 a0_2 a0_3 a0_4 a0_5 a1_0 a1_1 a1_2 a1_3 a1_4 a1_5) = some r := by first | (rw [hy134]; with_reducible exact H) | (have H2_ := (Option.bind_some _ _).symm.trans H; rw [hy134]; with_reducible exact H2_) | (have H2_ := (Option.bind_some _ _).symm.trans H; with_reducible exact H2_) | with_reducible exact H | (rw [hy134]; exact H) | exact H
        have Ny134 := Aside0.mk hy134
        clear hy134
        have H' := Aside0.mk H
        clear H
        have hnb11 := NB133_132.out
        have hnc11 := NB132_133.out
        have hcz12_0 : w5.cell? ⟨gb133, 0, none⟩ = some (.int .u8 a1_0) := (blk_cell BK133.out 0).trans rfl
        have hcz12_1 : w5.cell? ⟨gb133, 1, none⟩ = some (.bool a1_1) := (blk_cell BK133.out 1).trans rfl
        have hcz12_2 : w5.cell? ⟨gb133, 2, none⟩ = some (.int .u8 a1_2) := (blk_cell BK133.out 2).trans rfl
        have hcz12_3 : w5.cell? ⟨gb133, 3, none⟩ = some (.int .u8 a1_3) := (blk_cell BK133.out 3).trans rfl
        have hcz12_4 : w5.cell? ⟨gb133, 4, none⟩ = some (.int .u8 a1_4) := (blk_cell BK133.out 4).trans rfl
        have hcz12_5 : w5.cell? ⟨gb133, 5, none⟩ = some (.int .u8 a1_5) := (blk_cell BK133.out 5).trans rfl
        have hfz12_0 := blk_frozen BK133.out 0
        have hfz12_1 := blk_frozen BK133.out 1
        have hfz12_2 := blk_frozen BK133.out 2
        have hfz12_3 := blk_frozen BK133.out 3
        have hfz12_4 := blk_frozen BK133.out 4
        have hfz12_5 := blk_frozen BK133.out 5
        go_wp2_with (first | ((with_reducible refine gate_builtin (b := .append) (xs := #[.tmp 11, .tmp 15]) rfl ?_); at_builtin; refine Kd.R_append k36 (w0 := w) w.heap.size rfl (.tmp 11) (.tmp 15) 53 36 (.agg #[(.int .u8 0), (.int .u8 0)]) 2 rfl Try.underlying53 info36 rfl (by decide) (by omega) (.slice none 0 0) ([] : List (S36)) (⟨65, a1_3⟩ : S36) [.int .u8 65, .int .u8 a1_3] (fun _ => True) (fun _ => False) rfl rfl ?aP (fun _ hk => hk.elim) ?aF ?aO ?aB ?aS ?aL ?_; (case aP => exact k36_mkM _ _ _ (⟨65, a1_3⟩ : S36)); (case aB => exact (by repeat (first | (with_reducible first | exact HB.out | apply below_alloc | apply pw_below_drewN | apply below_drew1 | refine below_set ?_ GE132.out | refine below_set ?_ GE133.out) | exact HB.out))); (case aF => exact (fun _ _ => trivial)); (case aO => exact ((Kd.R_nil _ _ _ _ (fun _ => True)))); (case aS => exact (below_size (by repeat (first | (with_reducible first | exact HB.out | apply below_alloc | apply pw_below_drewN | apply below_drew1 | refine below_set ?_ GE132.out | refine below_set ?_ GE133.out) | exact HB.out)))); (case aL => have := LMc10.out; omega); intro v135 w13 ho hb hg hat; rw [← Ny134.out] at ho; have n0_ := Aside0.mk (blk_grown (g := gb132) (o := .cells #[.int .u8 a0_0, .bool a0_1, .int .u8 a0_2, .int .u8 a0_3, .int .u8 a0_4, .int .u8 a0_5] 38 (0, 0)) (by (with_reducible repeat (first | refine blk_drewN ?_ _ | refine blk_drew ?_ | refine blk_alloc ?_ _)); exact BK132.out) hg (by simp [Value.ownBlock])); have n1_ := Aside0.mk (blk_grown (g := gb133) (o := .cells #[.int .u8 a1_0, .bool a1_1, .int .u8 a1_2, .int .u8 a1_3, .int .u8 a1_4, .int .u8 a1_5] 38 (0, 0)) (by (with_reducible repeat (first | refine blk_drewN ?_ _ | refine blk_drew ?_ | refine blk_alloc ?_ _)); exact BK133.out) hg (by simp [Value.ownBlock])); have n2_ := Aside0.mk (hb); have n3_ := Aside0.mk (ho); clear BK132; clear BK133; clear HB; have BK132 := n0_; have BK133 := n1_; have HB := n2_; have HO136 := n3_; clear n0_ n1_ n2_ n3_; clear ho hb hg hat))
        go_meet
        case rel => exact ⟨_, (y134), H', ⟨by first | omega | exact Nat.le_refl _⟩, ⟨by (with_reducible repeat (first | apply Kd.R_alloc | apply Kd.R_drewN | apply Kd.R_drew)); exact HO136.out⟩, ⟨by (with_reducible repeat (first | refine blk_drewN ?_ _ | refine blk_drew ?_ | refine blk_alloc ?_ _)); exact BK132.out⟩, ⟨by (with_reducible repeat (first | refine blk_drewN ?_ _ | refine blk_drew ?_ | refine blk_alloc ?_ _)); exact BK133.out⟩, ⟨by repeat (first | (with_reducible first | exact HB.out | apply below_alloc | apply pw_below_drewN | apply below_drew1 | refine below_set ?_ GE132.out | refine below_set ?_ GE133.out) | exact HB.out)⟩⟩
      · rw [if_neg c10] at H
        exact absurd H (by simp)
  case rest =>
    clear HC3
    try clear c1
    try clear p2
    try clear c3
    try clear c6
    try clear c9
    try clear c9b0
    try clear c9b1
    try clear c10
    try clear c11
    try clear hcz12_0
    try clear hcz12_1
    try clear hcz12_2
    try clear hcz12_3
    try clear hcz12_4
    try clear hcz12_5
    try clear hcz7_0
    try clear hcz7_1
    try clear hcz7_2
    try clear hcz7_3
    try clear hcz7_4
    try clear hcz7_5
    try clear hcz8_0
    try clear hcz8_1
    try clear hcz8_2
    try clear hcz8_3
    try clear hcz8_4
    try clear hcz8_5
    try clear hfz12_0
    try clear hfz12_1
    try clear hfz12_2
    try clear hfz12_3
    try clear hfz12_4
    try clear hfz12_5
    try clear hfz7_0
    try clear hfz7_1
    try clear hfz7_2
    try clear hfz7_3
    try clear hfz7_4
    try clear hfz7_5
    try clear hfz8_0
    try clear hfz8_1
    try clear hfz8_2
    try clear hfz8_3
    try clear hfz8_4
    try clear hfz8_5
    obtain ⟨kq, x5_2, HA, HJ2, HO_5, BK132, BK133, HB⟩ := hcut
    cases kq with
    | zero => exact absurd HA.out (by simp [vitrineref05_Diff.j0])
    | succ kj2 =>
      have H := HA.out
      clear HA
      simp only [vitrineref05_Diff.j0] at H
      by_cases c14 : a0_4 = a1_4
      · rw [if_pos c14] at H
        have c14b0 : (a0_4 == a1_4) = true := beq_iff_eq.mpr c14
        have c14b1 : (a0_4 != a1_4) = false := bne_eq_false_iff_eq.mpr c14
        clear c14
        by_cases c15 : a0_5 = a1_5
        · rw [if_pos c15] at H
          have c15b0 : (a0_5 == a1_5) = true := beq_iff_eq.mpr c15
          have c15b1 : (a0_5 != a1_5) = false := bne_eq_false_iff_eq.mpr c15
          clear c15
          obtain rfl := Option.some.inj H
          have hnb16 := NB132_133.out
          have hnc16 := NB133_132.out
          have hcz17_0 : wc.cell? ⟨gb132, 0, none⟩ = some (.int .u8 a0_0) := (blk_cell BK132.out 0).trans rfl
          have hcz17_1 : wc.cell? ⟨gb132, 1, none⟩ = some (.bool a0_1) := (blk_cell BK132.out 1).trans rfl
          have hcz17_2 : wc.cell? ⟨gb132, 2, none⟩ = some (.int .u8 a0_2) := (blk_cell BK132.out 2).trans rfl
          have hcz17_3 : wc.cell? ⟨gb132, 3, none⟩ = some (.int .u8 a0_3) := (blk_cell BK132.out 3).trans rfl
          have hcz17_4 : wc.cell? ⟨gb132, 4, none⟩ = some (.int .u8 a0_4) := (blk_cell BK132.out 4).trans rfl
          have hcz17_5 : wc.cell? ⟨gb132, 5, none⟩ = some (.int .u8 a0_5) := (blk_cell BK132.out 5).trans rfl
          have hfz17_0 := blk_frozen BK132.out 0
          have hfz17_1 := blk_frozen BK132.out 1
          have hfz17_2 := blk_frozen BK132.out 2
          have hfz17_3 := blk_frozen BK132.out 3
          have hfz17_4 := blk_frozen BK132.out 4
          have hfz17_5 := blk_frozen BK132.out 5
          have hcz18_0 : wc.cell? ⟨gb133, 0, none⟩ = some (.int .u8 a1_0) := (blk_cell BK133.out 0).trans rfl
          have hcz18_1 : wc.cell? ⟨gb133, 1, none⟩ = some (.bool a1_1) := (blk_cell BK133.out 1).trans rfl
          have hcz18_2 : wc.cell? ⟨gb133, 2, none⟩ = some (.int .u8 a1_2) := (blk_cell BK133.out 2).trans rfl
          have hcz18_3 : wc.cell? ⟨gb133, 3, none⟩ = some (.int .u8 a1_3) := (blk_cell BK133.out 3).trans rfl
          have hcz18_4 : wc.cell? ⟨gb133, 4, none⟩ = some (.int .u8 a1_4) := (blk_cell BK133.out 4).trans rfl
          have hcz18_5 : wc.cell? ⟨gb133, 5, none⟩ = some (.int .u8 a1_5) := (blk_cell BK133.out 5).trans rfl
          have hfz18_0 := blk_frozen BK133.out 0
          have hfz18_1 := blk_frozen BK133.out 1
          have hfz18_2 := blk_frozen BK133.out 2
          have hfz18_3 := blk_frozen BK133.out 3
          have hfz18_4 := blk_frozen BK133.out 4
          have hfz18_5 := blk_frozen BK133.out 5
          go_wp2
          go_ret
          exact ⟨_, by first | rfl | (simp [errW_none, errW_some] <;> rfl) | (simp [*, errW_none, errW_some] <;> rfl), by (with_reducible repeat (first | apply Kd.R_alloc | apply Kd.R_drewN | apply Kd.R_drew)); exact HO_5.out, by repeat (first | (with_reducible first | exact HB.out | apply below_alloc | apply pw_below_drewN | apply below_drew1 | refine below_set ?_ GE132.out | refine below_set ?_ GE133.out) | exact HB.out)⟩
        · rw [if_neg c15] at H
          have c15b0 : (a0_5 == a1_5) = false := beq_eq_false_iff_ne.mpr c15
          have c15b1 : (a0_5 != a1_5) = true := bne_iff_ne.mpr c15
          by_cases c19 : x5_2.length < 70368744177664
          · rw [if_pos c19] at H
            have LMc19 := Aside0.mk c19
            clear c19
            obtain ⟨y137, hy137⟩ : ∃ y_ : List (S36), y_ = (x5_2 ++ [(⟨67, a1_5⟩ : S36)]) := ⟨_, rfl⟩
            replace H : (some y137) = some r := by first | (rw [hy137]; with_reducible exact H) | (have H2_ := (Option.bind_some _ _).symm.trans H; rw [hy137]; with_reducible exact H2_) | (have H2_ := (Option.bind_some _ _).symm.trans H; with_reducible exact H2_) | with_reducible exact H | (rw [hy137]; exact H) | exact H
            have Ny137 := Aside0.mk hy137
            clear hy137
            obtain rfl := Option.some.inj H
            have hnb20 := NB132_133.out
            have hnc20 := NB133_132.out
            have hcz21_0 : wc.cell? ⟨gb132, 0, none⟩ = some (.int .u8 a0_0) := (blk_cell BK132.out 0).trans rfl
            have hcz21_1 : wc.cell? ⟨gb132, 1, none⟩ = some (.bool a0_1) := (blk_cell BK132.out 1).trans rfl
            have hcz21_2 : wc.cell? ⟨gb132, 2, none⟩ = some (.int .u8 a0_2) := (blk_cell BK132.out 2).trans rfl
            have hcz21_3 : wc.cell? ⟨gb132, 3, none⟩ = some (.int .u8 a0_3) := (blk_cell BK132.out 3).trans rfl
            have hcz21_4 : wc.cell? ⟨gb132, 4, none⟩ = some (.int .u8 a0_4) := (blk_cell BK132.out 4).trans rfl
            have hcz21_5 : wc.cell? ⟨gb132, 5, none⟩ = some (.int .u8 a0_5) := (blk_cell BK132.out 5).trans rfl
            have hfz21_0 := blk_frozen BK132.out 0
            have hfz21_1 := blk_frozen BK132.out 1
            have hfz21_2 := blk_frozen BK132.out 2
            have hfz21_3 := blk_frozen BK132.out 3
            have hfz21_4 := blk_frozen BK132.out 4
            have hfz21_5 := blk_frozen BK132.out 5
            have hcz22_0 : wc.cell? ⟨gb133, 0, none⟩ = some (.int .u8 a1_0) := (blk_cell BK133.out 0).trans rfl
            have hcz22_1 : wc.cell? ⟨gb133, 1, none⟩ = some (.bool a1_1) := (blk_cell BK133.out 1).trans rfl
            have hcz22_2 : wc.cell? ⟨gb133, 2, none⟩ = some (.int .u8 a1_2) := (blk_cell BK133.out 2).trans rfl
            have hcz22_3 : wc.cell? ⟨gb133, 3, none⟩ = some (.int .u8 a1_3) := (blk_cell BK133.out 3).trans rfl
            have hcz22_4 : wc.cell? ⟨gb133, 4, none⟩ = some (.int .u8 a1_4) := (blk_cell BK133.out 4).trans rfl
            have hcz22_5 : wc.cell? ⟨gb133, 5, none⟩ = some (.int .u8 a1_5) := (blk_cell BK133.out 5).trans rfl
            have hfz22_0 := blk_frozen BK133.out 0
            have hfz22_1 := blk_frozen BK133.out 1
            have hfz22_2 := blk_frozen BK133.out 2
            have hfz22_3 := blk_frozen BK133.out 3
            have hfz22_4 := blk_frozen BK133.out 4
            have hfz22_5 := blk_frozen BK133.out 5
            go_wp2_with (first | ((with_reducible refine gate_builtin (b := .append) (xs := #[.tmp 33, .tmp 37]) rfl ?_); at_builtin; refine Kd.R_append k36 (w0 := w) w.heap.size rfl (.tmp 33) (.tmp 37) 53 36 (.agg #[(.int .u8 0), (.int .u8 0)]) 2 rfl Try.underlying53 info36 rfl (by decide) (by omega) u5 x5_2 (⟨67, a1_5⟩ : S36) [.int .u8 67, .int .u8 a1_5] (fun _ => True) (fun _ => False) rfl rfl ?aP (fun _ hk => hk.elim) ?aF ?aO ?aB ?aS ?aL ?_; (case aP => exact k36_mkM _ _ _ (⟨67, a1_5⟩ : S36)); (case aB => exact (by repeat (first | (with_reducible first | exact HB.out | apply below_alloc | apply pw_below_drewN | apply below_drew1 | refine below_set ?_ GE132.out | refine below_set ?_ GE133.out) | exact HB.out))); (case aF => exact (fun _ _ => trivial)); (case aO => exact (by (with_reducible repeat (first | apply Kd.R_alloc | apply Kd.R_drewN | apply Kd.R_drew)); exact HO_5.out)); (case aS => exact (below_size (by repeat (first | (with_reducible first | exact HB.out | apply below_alloc | apply pw_below_drewN | apply below_drew1 | refine below_set ?_ GE132.out | refine below_set ?_ GE133.out) | exact HB.out)))); (case aL => have := LMc19.out; omega); intro v138 w23 ho hb hg hat; rw [← Ny137.out] at ho; have n0_ := Aside0.mk (blk_grown (g := gb132) (o := .cells #[.int .u8 a0_0, .bool a0_1, .int .u8 a0_2, .int .u8 a0_3, .int .u8 a0_4, .int .u8 a0_5] 38 (0, 0)) (by (with_reducible repeat (first | refine blk_drewN ?_ _ | refine blk_drew ?_ | refine blk_alloc ?_ _)); exact BK132.out) hg (Kd.R_ne HO_5.out BK132.out (by decide))); have n1_ := Aside0.mk (blk_grown (g := gb133) (o := .cells #[.int .u8 a1_0, .bool a1_1, .int .u8 a1_2, .int .u8 a1_3, .int .u8 a1_4, .int .u8 a1_5] 38 (0, 0)) (by (with_reducible repeat (first | refine blk_drewN ?_ _ | refine blk_drew ?_ | refine blk_alloc ?_ _)); exact BK133.out) hg (Kd.R_ne HO_5.out BK133.out (by decide))); have n2_ := Aside0.mk (hb); have n3_ := Aside0.mk (ho); clear BK132; clear BK133; clear HB; clear HO_5; have BK132 := n0_; have BK133 := n1_; have HB := n2_; have HO139 := n3_; clear n0_ n1_ n2_ n3_; clear ho hb hg hat))
            go_ret
            exact ⟨_, by first | rfl | (simp [errW_none, errW_some] <;> rfl) | (simp [*, errW_none, errW_some] <;> rfl), by (with_reducible repeat (first | apply Kd.R_alloc | apply Kd.R_drewN | apply Kd.R_drew)); exact HO139.out, by repeat (first | (with_reducible first | exact HB.out | apply below_alloc | apply pw_below_drewN | apply below_drew1 | refine below_set ?_ GE132.out | refine below_set ?_ GE133.out) | exact HB.out)⟩
          · rw [if_neg c19] at H
            exact absurd H (by simp)
      · rw [if_neg c14] at H
        have c14b0 : (a0_4 == a1_4) = false := beq_eq_false_iff_ne.mpr c14
        have c14b1 : (a0_4 != a1_4) = true := bne_iff_ne.mpr c14
        by_cases c24 : x5_2.length < 70368744177664
        · rw [if_pos c24] at H
          have LMc24 := Aside0.mk c24
          clear c24
          obtain ⟨y140, hy140⟩ : ∃ y_ : List (S36), y_ = (x5_2 ++ [(⟨66, a1_4⟩ : S36)]) := ⟨_, rfl⟩
          replace H : (if a0_5 = a1_5 then (some y140) else (if y140.length < 70368744177664 then (some (y140 ++ [(⟨67, a1_5⟩ : S36)])) else (none))) = some r := by first | (rw [hy140]; with_reducible exact H) | (have H2_ := (Option.bind_some _ _).symm.trans H; rw [hy140]; with_reducible exact H2_) | (have H2_ := (Option.bind_some _ _).symm.trans H; with_reducible exact H2_) | with_reducible exact H | (rw [hy140]; exact H) | exact H
          have Ny140 := Aside0.mk hy140
          clear hy140
          by_cases c25 : a0_5 = a1_5
          · rw [if_pos c25] at H
            have c25b0 : (a0_5 == a1_5) = true := beq_iff_eq.mpr c25
            have c25b1 : (a0_5 != a1_5) = false := bne_eq_false_iff_eq.mpr c25
            clear c25
            obtain rfl := Option.some.inj H
            have hnb26 := NB132_133.out
            have hnc26 := NB133_132.out
            have hcz27_0 : wc.cell? ⟨gb132, 0, none⟩ = some (.int .u8 a0_0) := (blk_cell BK132.out 0).trans rfl
            have hcz27_1 : wc.cell? ⟨gb132, 1, none⟩ = some (.bool a0_1) := (blk_cell BK132.out 1).trans rfl
            have hcz27_2 : wc.cell? ⟨gb132, 2, none⟩ = some (.int .u8 a0_2) := (blk_cell BK132.out 2).trans rfl
            have hcz27_3 : wc.cell? ⟨gb132, 3, none⟩ = some (.int .u8 a0_3) := (blk_cell BK132.out 3).trans rfl
            have hcz27_4 : wc.cell? ⟨gb132, 4, none⟩ = some (.int .u8 a0_4) := (blk_cell BK132.out 4).trans rfl
            have hcz27_5 : wc.cell? ⟨gb132, 5, none⟩ = some (.int .u8 a0_5) := (blk_cell BK132.out 5).trans rfl
            have hfz27_0 := blk_frozen BK132.out 0
            have hfz27_1 := blk_frozen BK132.out 1
            have hfz27_2 := blk_frozen BK132.out 2
            have hfz27_3 := blk_frozen BK132.out 3
            have hfz27_4 := blk_frozen BK132.out 4
            have hfz27_5 := blk_frozen BK132.out 5
            have hcz28_0 : wc.cell? ⟨gb133, 0, none⟩ = some (.int .u8 a1_0) := (blk_cell BK133.out 0).trans rfl
            have hcz28_1 : wc.cell? ⟨gb133, 1, none⟩ = some (.bool a1_1) := (blk_cell BK133.out 1).trans rfl
            have hcz28_2 : wc.cell? ⟨gb133, 2, none⟩ = some (.int .u8 a1_2) := (blk_cell BK133.out 2).trans rfl
            have hcz28_3 : wc.cell? ⟨gb133, 3, none⟩ = some (.int .u8 a1_3) := (blk_cell BK133.out 3).trans rfl
            have hcz28_4 : wc.cell? ⟨gb133, 4, none⟩ = some (.int .u8 a1_4) := (blk_cell BK133.out 4).trans rfl
            have hcz28_5 : wc.cell? ⟨gb133, 5, none⟩ = some (.int .u8 a1_5) := (blk_cell BK133.out 5).trans rfl
            have hfz28_0 := blk_frozen BK133.out 0
            have hfz28_1 := blk_frozen BK133.out 1
            have hfz28_2 := blk_frozen BK133.out 2
            have hfz28_3 := blk_frozen BK133.out 3
            have hfz28_4 := blk_frozen BK133.out 4
            have hfz28_5 := blk_frozen BK133.out 5
            go_wp2_with (first | ((with_reducible refine gate_builtin (b := .append) (xs := #[.tmp 22, .tmp 26]) rfl ?_); at_builtin; refine Kd.R_append k36 (w0 := w) w.heap.size rfl (.tmp 22) (.tmp 26) 53 36 (.agg #[(.int .u8 0), (.int .u8 0)]) 2 rfl Try.underlying53 info36 rfl (by decide) (by omega) u5 x5_2 (⟨66, a1_4⟩ : S36) [.int .u8 66, .int .u8 a1_4] (fun _ => True) (fun _ => False) rfl rfl ?aP (fun _ hk => hk.elim) ?aF ?aO ?aB ?aS ?aL ?_; (case aP => exact k36_mkM _ _ _ (⟨66, a1_4⟩ : S36)); (case aB => exact (by repeat (first | (with_reducible first | exact HB.out | apply below_alloc | apply pw_below_drewN | apply below_drew1 | refine below_set ?_ GE132.out | refine below_set ?_ GE133.out) | exact HB.out))); (case aF => exact (fun _ _ => trivial)); (case aO => exact (by (with_reducible repeat (first | apply Kd.R_alloc | apply Kd.R_drewN | apply Kd.R_drew)); exact HO_5.out)); (case aS => exact (below_size (by repeat (first | (with_reducible first | exact HB.out | apply below_alloc | apply pw_below_drewN | apply below_drew1 | refine below_set ?_ GE132.out | refine below_set ?_ GE133.out) | exact HB.out)))); (case aL => have := LMc24.out; omega); intro v141 w29 ho hb hg hat; rw [← Ny140.out] at ho; have n0_ := Aside0.mk (blk_grown (g := gb132) (o := .cells #[.int .u8 a0_0, .bool a0_1, .int .u8 a0_2, .int .u8 a0_3, .int .u8 a0_4, .int .u8 a0_5] 38 (0, 0)) (by (with_reducible repeat (first | refine blk_drewN ?_ _ | refine blk_drew ?_ | refine blk_alloc ?_ _)); exact BK132.out) hg (Kd.R_ne HO_5.out BK132.out (by decide))); have n1_ := Aside0.mk (blk_grown (g := gb133) (o := .cells #[.int .u8 a1_0, .bool a1_1, .int .u8 a1_2, .int .u8 a1_3, .int .u8 a1_4, .int .u8 a1_5] 38 (0, 0)) (by (with_reducible repeat (first | refine blk_drewN ?_ _ | refine blk_drew ?_ | refine blk_alloc ?_ _)); exact BK133.out) hg (Kd.R_ne HO_5.out BK133.out (by decide))); have n2_ := Aside0.mk (hb); have n3_ := Aside0.mk (ho); clear BK132; clear BK133; clear HB; clear HO_5; have BK132 := n0_; have BK133 := n1_; have HB := n2_; have HO142 := n3_; clear n0_ n1_ n2_ n3_; clear ho hb hg hat; have hcz30_0 : w29.cell? ⟨gb132, 0, none⟩ = some (.int .u8 a0_0) := (blk_cell BK132.out 0).trans rfl; have hcz30_1 : w29.cell? ⟨gb132, 1, none⟩ = some (.bool a0_1) := (blk_cell BK132.out 1).trans rfl; have hcz30_2 : w29.cell? ⟨gb132, 2, none⟩ = some (.int .u8 a0_2) := (blk_cell BK132.out 2).trans rfl; have hcz30_3 : w29.cell? ⟨gb132, 3, none⟩ = some (.int .u8 a0_3) := (blk_cell BK132.out 3).trans rfl; have hcz30_4 : w29.cell? ⟨gb132, 4, none⟩ = some (.int .u8 a0_4) := (blk_cell BK132.out 4).trans rfl; have hcz30_5 : w29.cell? ⟨gb132, 5, none⟩ = some (.int .u8 a0_5) := (blk_cell BK132.out 5).trans rfl; have hfz30_0 := blk_frozen BK132.out 0; have hfz30_1 := blk_frozen BK132.out 1; have hfz30_2 := blk_frozen BK132.out 2; have hfz30_3 := blk_frozen BK132.out 3; have hfz30_4 := blk_frozen BK132.out 4; have hfz30_5 := blk_frozen BK132.out 5; have hcz31_0 : w29.cell? ⟨gb133, 0, none⟩ = some (.int .u8 a1_0) := (blk_cell BK133.out 0).trans rfl; have hcz31_1 : w29.cell? ⟨gb133, 1, none⟩ = some (.bool a1_1) := (blk_cell BK133.out 1).trans rfl; have hcz31_2 : w29.cell? ⟨gb133, 2, none⟩ = some (.int .u8 a1_2) := (blk_cell BK133.out 2).trans rfl; have hcz31_3 : w29.cell? ⟨gb133, 3, none⟩ = some (.int .u8 a1_3) := (blk_cell BK133.out 3).trans rfl; have hcz31_4 : w29.cell? ⟨gb133, 4, none⟩ = some (.int .u8 a1_4) := (blk_cell BK133.out 4).trans rfl; have hcz31_5 : w29.cell? ⟨gb133, 5, none⟩ = some (.int .u8 a1_5) := (blk_cell BK133.out 5).trans rfl; have hfz31_0 := blk_frozen BK133.out 0; have hfz31_1 := blk_frozen BK133.out 1; have hfz31_2 := blk_frozen BK133.out 2; have hfz31_3 := blk_frozen BK133.out 3; have hfz31_4 := blk_frozen BK133.out 4; have hfz31_5 := blk_frozen BK133.out 5))
            go_ret
            exact ⟨_, by first | rfl | (simp [errW_none, errW_some] <;> rfl) | (simp [*, errW_none, errW_some] <;> rfl), by (with_reducible repeat (first | apply Kd.R_alloc | apply Kd.R_drewN | apply Kd.R_drew)); exact HO142.out, by repeat (first | (with_reducible first | exact HB.out | apply below_alloc | apply pw_below_drewN | apply below_drew1 | refine below_set ?_ GE132.out | refine below_set ?_ GE133.out) | exact HB.out)⟩
          · rw [if_neg c25] at H
            have c25b0 : (a0_5 == a1_5) = false := beq_eq_false_iff_ne.mpr c25
            have c25b1 : (a0_5 != a1_5) = true := bne_iff_ne.mpr c25
            by_cases c32 : y140.length < 70368744177664
            · rw [if_pos c32] at H
              have LMc32 := Aside0.mk c32
              clear c32
              obtain ⟨y143, hy143⟩ : ∃ y_ : List (S36), y_ = (y140 ++ [(⟨67, a1_5⟩ : S36)]) := ⟨_, rfl⟩
              replace H : (some y143) = some r := by first | (rw [hy143]; with_reducible exact H) | (have H2_ := (Option.bind_some _ _).symm.trans H; rw [hy143]; with_reducible exact H2_) | (have H2_ := (Option.bind_some _ _).symm.trans H; with_reducible exact H2_) | with_reducible exact H | (rw [hy143]; exact H) | exact H
              have Ny143 := Aside0.mk hy143
              clear hy143
              obtain rfl := Option.some.inj H
              have hnb33 := NB132_133.out
              have hnc33 := NB133_132.out
              have hcz34_0 : wc.cell? ⟨gb132, 0, none⟩ = some (.int .u8 a0_0) := (blk_cell BK132.out 0).trans rfl
              have hcz34_1 : wc.cell? ⟨gb132, 1, none⟩ = some (.bool a0_1) := (blk_cell BK132.out 1).trans rfl
              have hcz34_2 : wc.cell? ⟨gb132, 2, none⟩ = some (.int .u8 a0_2) := (blk_cell BK132.out 2).trans rfl
              have hcz34_3 : wc.cell? ⟨gb132, 3, none⟩ = some (.int .u8 a0_3) := (blk_cell BK132.out 3).trans rfl
              have hcz34_4 : wc.cell? ⟨gb132, 4, none⟩ = some (.int .u8 a0_4) := (blk_cell BK132.out 4).trans rfl
              have hcz34_5 : wc.cell? ⟨gb132, 5, none⟩ = some (.int .u8 a0_5) := (blk_cell BK132.out 5).trans rfl
              have hfz34_0 := blk_frozen BK132.out 0
              have hfz34_1 := blk_frozen BK132.out 1
              have hfz34_2 := blk_frozen BK132.out 2
              have hfz34_3 := blk_frozen BK132.out 3
              have hfz34_4 := blk_frozen BK132.out 4
              have hfz34_5 := blk_frozen BK132.out 5
              have hcz35_0 : wc.cell? ⟨gb133, 0, none⟩ = some (.int .u8 a1_0) := (blk_cell BK133.out 0).trans rfl
              have hcz35_1 : wc.cell? ⟨gb133, 1, none⟩ = some (.bool a1_1) := (blk_cell BK133.out 1).trans rfl
              have hcz35_2 : wc.cell? ⟨gb133, 2, none⟩ = some (.int .u8 a1_2) := (blk_cell BK133.out 2).trans rfl
              have hcz35_3 : wc.cell? ⟨gb133, 3, none⟩ = some (.int .u8 a1_3) := (blk_cell BK133.out 3).trans rfl
              have hcz35_4 : wc.cell? ⟨gb133, 4, none⟩ = some (.int .u8 a1_4) := (blk_cell BK133.out 4).trans rfl
              have hcz35_5 : wc.cell? ⟨gb133, 5, none⟩ = some (.int .u8 a1_5) := (blk_cell BK133.out 5).trans rfl
              have hfz35_0 := blk_frozen BK133.out 0
              have hfz35_1 := blk_frozen BK133.out 1
              have hfz35_2 := blk_frozen BK133.out 2
              have hfz35_3 := blk_frozen BK133.out 3
              have hfz35_4 := blk_frozen BK133.out 4
              have hfz35_5 := blk_frozen BK133.out 5
              go_wp2_with (first | ((with_reducible refine gate_builtin (b := .append) (xs := #[.tmp 22, .tmp 26]) rfl ?_); at_builtin; refine Kd.R_append k36 (w0 := w) w.heap.size rfl (.tmp 22) (.tmp 26) 53 36 (.agg #[(.int .u8 0), (.int .u8 0)]) 2 rfl Try.underlying53 info36 rfl (by decide) (by omega) u5 x5_2 (⟨66, a1_4⟩ : S36) [.int .u8 66, .int .u8 a1_4] (fun _ => True) (fun _ => False) rfl rfl ?aP (fun _ hk => hk.elim) ?aF ?aO ?aB ?aS ?aL ?_; (case aP => exact k36_mkM _ _ _ (⟨66, a1_4⟩ : S36)); (case aB => exact (by repeat (first | (with_reducible first | exact HB.out | apply below_alloc | apply pw_below_drewN | apply below_drew1 | refine below_set ?_ GE132.out | refine below_set ?_ GE133.out) | exact HB.out))); (case aF => exact (fun _ _ => trivial)); (case aO => exact (by (with_reducible repeat (first | apply Kd.R_alloc | apply Kd.R_drewN | apply Kd.R_drew)); exact HO_5.out)); (case aS => exact (below_size (by repeat (first | (with_reducible first | exact HB.out | apply below_alloc | apply pw_below_drewN | apply below_drew1 | refine below_set ?_ GE132.out | refine below_set ?_ GE133.out) | exact HB.out)))); (case aL => have := LMc24.out; omega); intro v141 w36 ho hb hg hat; rw [← Ny140.out] at ho; have n0_ := Aside0.mk (blk_grown (g := gb132) (o := .cells #[.int .u8 a0_0, .bool a0_1, .int .u8 a0_2, .int .u8 a0_3, .int .u8 a0_4, .int .u8 a0_5] 38 (0, 0)) (by (with_reducible repeat (first | refine blk_drewN ?_ _ | refine blk_drew ?_ | refine blk_alloc ?_ _)); exact BK132.out) hg (Kd.R_ne HO_5.out BK132.out (by decide))); have n1_ := Aside0.mk (blk_grown (g := gb133) (o := .cells #[.int .u8 a1_0, .bool a1_1, .int .u8 a1_2, .int .u8 a1_3, .int .u8 a1_4, .int .u8 a1_5] 38 (0, 0)) (by (with_reducible repeat (first | refine blk_drewN ?_ _ | refine blk_drew ?_ | refine blk_alloc ?_ _)); exact BK133.out) hg (Kd.R_ne HO_5.out BK133.out (by decide))); have n2_ := Aside0.mk (hb); have n3_ := Aside0.mk (ho); clear BK132; clear BK133; clear HB; clear HO_5; have BK132 := n0_; have BK133 := n1_; have HB := n2_; have HO142 := n3_; clear n0_ n1_ n2_ n3_; clear ho hb hg hat; have hcz37_0 : w36.cell? ⟨gb132, 0, none⟩ = some (.int .u8 a0_0) := (blk_cell BK132.out 0).trans rfl; have hcz37_1 : w36.cell? ⟨gb132, 1, none⟩ = some (.bool a0_1) := (blk_cell BK132.out 1).trans rfl; have hcz37_2 : w36.cell? ⟨gb132, 2, none⟩ = some (.int .u8 a0_2) := (blk_cell BK132.out 2).trans rfl; have hcz37_3 : w36.cell? ⟨gb132, 3, none⟩ = some (.int .u8 a0_3) := (blk_cell BK132.out 3).trans rfl; have hcz37_4 : w36.cell? ⟨gb132, 4, none⟩ = some (.int .u8 a0_4) := (blk_cell BK132.out 4).trans rfl; have hcz37_5 : w36.cell? ⟨gb132, 5, none⟩ = some (.int .u8 a0_5) := (blk_cell BK132.out 5).trans rfl; have hfz37_0 := blk_frozen BK132.out 0; have hfz37_1 := blk_frozen BK132.out 1; have hfz37_2 := blk_frozen BK132.out 2; have hfz37_3 := blk_frozen BK132.out 3; have hfz37_4 := blk_frozen BK132.out 4; have hfz37_5 := blk_frozen BK132.out 5; have hcz38_0 : w36.cell? ⟨gb133, 0, none⟩ = some (.int .u8 a1_0) := (blk_cell BK133.out 0).trans rfl; have hcz38_1 : w36.cell? ⟨gb133, 1, none⟩ = some (.bool a1_1) := (blk_cell BK133.out 1).trans rfl; have hcz38_2 : w36.cell? ⟨gb133, 2, none⟩ = some (.int .u8 a1_2) := (blk_cell BK133.out 2).trans rfl; have hcz38_3 : w36.cell? ⟨gb133, 3, none⟩ = some (.int .u8 a1_3) := (blk_cell BK133.out 3).trans rfl; have hcz38_4 : w36.cell? ⟨gb133, 4, none⟩ = some (.int .u8 a1_4) := (blk_cell BK133.out 4).trans rfl; have hcz38_5 : w36.cell? ⟨gb133, 5, none⟩ = some (.int .u8 a1_5) := (blk_cell BK133.out 5).trans rfl; have hfz38_0 := blk_frozen BK133.out 0; have hfz38_1 := blk_frozen BK133.out 1; have hfz38_2 := blk_frozen BK133.out 2; have hfz38_3 := blk_frozen BK133.out 3; have hfz38_4 := blk_frozen BK133.out 4; have hfz38_5 := blk_frozen BK133.out 5) | ((with_reducible refine gate_builtin (b := .append) (xs := #[.tmp 33, .tmp 37]) rfl ?_); at_builtin; refine Kd.R_append k36 (w0 := w) w.heap.size rfl (.tmp 33) (.tmp 37) 53 36 (.agg #[(.int .u8 0), (.int .u8 0)]) 2 rfl Try.underlying53 info36 rfl (by decide) (by omega) v141 y140 (⟨67, a1_5⟩ : S36) [.int .u8 67, .int .u8 a1_5] (fun _ => True) (fun _ => False) rfl rfl ?aP (fun _ hk => hk.elim) ?aF ?aO ?aB ?aS ?aL ?_; (case aP => exact k36_mkM _ _ _ (⟨67, a1_5⟩ : S36)); (case aB => exact (by repeat (first | (with_reducible first | exact HB.out | apply below_alloc | apply pw_below_drewN | apply below_drew1 | refine below_set ?_ GE132.out | refine below_set ?_ GE133.out) | exact HB.out))); (case aF => exact (fun _ _ => trivial)); (case aO => exact (by (with_reducible repeat (first | apply Kd.R_alloc | apply Kd.R_drewN | apply Kd.R_drew)); exact HO142.out)); (case aS => exact (below_size (by repeat (first | (with_reducible first | exact HB.out | apply below_alloc | apply pw_below_drewN | apply below_drew1 | refine below_set ?_ GE132.out | refine below_set ?_ GE133.out) | exact HB.out)))); (case aL => have := LMc32.out; omega); intro v144 w39 ho hb hg hat; rw [← Ny143.out] at ho; have n0_ := Aside0.mk (blk_grown (g := gb132) (o := .cells #[.int .u8 a0_0, .bool a0_1, .int .u8 a0_2, .int .u8 a0_3, .int .u8 a0_4, .int .u8 a0_5] 38 (0, 0)) (by (with_reducible repeat (first | refine blk_drewN ?_ _ | refine blk_drew ?_ | refine blk_alloc ?_ _)); exact BK132.out) hg (Kd.R_ne HO142.out BK132.out (by decide))); have n1_ := Aside0.mk (blk_grown (g := gb133) (o := .cells #[.int .u8 a1_0, .bool a1_1, .int .u8 a1_2, .int .u8 a1_3, .int .u8 a1_4, .int .u8 a1_5] 38 (0, 0)) (by (with_reducible repeat (first | refine blk_drewN ?_ _ | refine blk_drew ?_ | refine blk_alloc ?_ _)); exact BK133.out) hg (Kd.R_ne HO142.out BK133.out (by decide))); have n2_ := Aside0.mk (hb); have n3_ := Aside0.mk (ho); clear BK132; clear BK133; clear HB; clear HO142; have BK132 := n0_; have BK133 := n1_; have HB := n2_; have HO145 := n3_; clear n0_ n1_ n2_ n3_; clear ho hb hg hat))
              go_ret
              exact ⟨_, by first | rfl | (simp [errW_none, errW_some] <;> rfl) | (simp [*, errW_none, errW_some] <;> rfl), by (with_reducible repeat (first | apply Kd.R_alloc | apply Kd.R_drewN | apply Kd.R_drew)); exact HO145.out, by repeat (first | (with_reducible first | exact HB.out | apply below_alloc | apply pw_below_drewN | apply below_drew1 | refine below_set ?_ GE132.out | refine below_set ?_ GE133.out) | exact HB.out)⟩
            · rw [if_neg c32] at H
              exact absurd H (by simp)
        · rw [if_neg c24] at H
          exact absurd H (by simp)

/-! ### vitrineref05_Pairs: function 32 -/
def vitrineref05_Pairs.f (k : Nat) (a0_0 : Int) (a0_1 : Bool) (a0_2 : Int) (a0_3 : Int) (a0_4 : Int) (a0_5 : Int) : Option ((List (S36))) := if a0_1 = true then ((vitrineref05_Six.f k a0_2).bind fun t155 => ((vitrineref04_Six.f k (wrap64 (t155))).bind fun t156 => (if ([] : List (S36)).length < 70368744177664 then ((some (([] : List (S36)) ++ [(⟨192, t156⟩ : S36)] : List (S36))).bind fun y157 => ((vitrineref05_Diff.f k 0 false 0 0 0 0 a0_0 a0_1 a0_2 a0_3 a0_4 a0_5).bind fun t160 => (if y157.length + t160.length < 70368744177664 then (some (y157 ++ t160)) else (none)))) else (none)))) else ((vitrineref05_Diff.f k 0 false 0 0 0 0 a0_0 a0_1 a0_2 a0_3 a0_4 a0_5).bind fun t166 => (if ([] : List (S36)).length + t166.length < 70368744177664 then (some (([] : List (S36)) ++ t166)) else (none)))
theorem vitrineref05_Pairs.mono : ∀ a0 a1 a2 a3 a4 a5 k, LeO (vitrineref05_Pairs.f k a0 a1 a2 a3 a4 a5) (vitrineref05_Pairs.f (k + 1) a0 a1 a2 a3 a4 a5) := by
  intro a0 a1 a2 a3 a4 a5 k
  unfold vitrineref05_Pairs.f
  repeat' first
      | (with_reducible exact vitrineref04_Six.mono _ _)
      | (with_reducible exact vitrineref05_Diff.mono _ _ _ _ _ _ _ _ _ _ _ _ _)
      | (with_reducible exact vitrineref05_Six.mono _ _)
      | (with_reducible exact LeO.refl _)
      | (with_reducible exact LeO.none _)
      | (with_reducible refine LeO.ite ?_ ?_)
      | (with_reducible refine LeO.bind ?_ (fun _ => ?_))
      | exact vitrineref04_Six.mono _ _
      | exact vitrineref05_Diff.mono _ _ _ _ _ _ _ _ _ _ _ _ _
      | exact vitrineref05_Six.mono _ _
      | exact LeO.none _
      | refine LeO.ite ?_ ?_
      | refine LeO.bind ?_ (fun _ => ?_)
set_option maxHeartbeats 8000000 in
set_option maxRecDepth 100000 in
theorem vitrineref05_Pairs.calls (k : Nat) (a0_0 : Int) (a0_1 : Bool) (a0_2 : Int) (a0_3 : Int) (a0_4 : Int) (a0_5 : Int) (r : List (S36)) (w : World) (h : vitrineref05_Pairs.f k a0_0 a0_1 a0_2 a0_3 a0_4 a0_5 = some r) :
    Calls Try.prog 32 #[.agg #[.int .u8 a0_0, .bool a0_1, .int .u8 a0_2, .int .u8 a0_3, .int .u8 a0_4, .int .u8 a0_5]] w fun e w' => ∃ v0_ : Value, e = .returned (v0_) ∧ Kd.R k36 36 w' w.heap.size (fun _ => True) v0_ r ∧ Below w.heap.size w w' := by
  have hu38 := Try.underlying38
  have hu36 := Try.underlying36
  have HB := Aside0.mk (Below.refl w.heap.size w)
  have H : (if a0_1 = true then ((vitrineref05_Six.f k a0_2).bind fun t155 => ((vitrineref04_Six.f k (wrap64 (t155))).bind fun t156 => (if ([] : List (S36)).length < 70368744177664 then ((some (([] : List (S36)) ++ [(⟨192, t156⟩ : S36)] : List (S36))).bind fun y157 => ((vitrineref05_Diff.f k 0 false 0 0 0 0 a0_0 a0_1 a0_2 a0_3 a0_4 a0_5).bind fun t160 => (if y157.length + t160.length < 70368744177664 then (some (y157 ++ t160)) else (none)))) else (none)))) else ((vitrineref05_Diff.f k 0 false 0 0 0 0 a0_0 a0_1 a0_2 a0_3 a0_4 a0_5).bind fun t166 => (if ([] : List (S36)).length + t166.length < 70368744177664 then (some (([] : List (S36)) ++ t166)) else (none)))) = some r := h
  clear h
  by_cases c2 : a0_1 = true
  · subst c2
    have H1 : ((vitrineref05_Six.f k a0_2).bind fun t155 => ((vitrineref04_Six.f k (wrap64 (t155))).bind fun t156 => (if ([] : List (S36)).length < 70368744177664 then ((some (([] : List (S36)) ++ [(⟨192, t156⟩ : S36)] : List (S36))).bind fun y157 => ((vitrineref05_Diff.f k 0 false 0 0 0 0 a0_0 true a0_2 a0_3 a0_4 a0_5).bind fun t160 => (if y157.length + t160.length < 70368744177664 then (some (y157 ++ t160)) else (none)))) else (none)))) = some r := by rw [if_pos rfl] at H; exact H
    clear H
    have H := H1
    clear H1
    replace H := Option.bind_eq_some_iff.mp H
    obtain ⟨t155, A30, H⟩ := H
    replace H : ((vitrineref04_Six.f k (wrap64 (t155))).bind fun t156 => (if ([] : List (S36)).length < 70368744177664 then ((some (([] : List (S36)) ++ [(⟨192, t156⟩ : S36)] : List (S36))).bind fun y157 => ((vitrineref05_Diff.f k 0 false 0 0 0 0 a0_0 true a0_2 a0_3 a0_4 a0_5).bind fun t160 => (if y157.length + t160.length < 70368744177664 then (some (y157 ++ t160)) else (none)))) else (none))) = some r := H
    have A3 := Aside0.mk A30
    clear A30
    replace H := Option.bind_eq_some_iff.mp H
    obtain ⟨t156, A40, H⟩ := H
    replace H : (if ([] : List (S36)).length < 70368744177664 then ((some (([] : List (S36)) ++ [(⟨192, t156⟩ : S36)] : List (S36))).bind fun y157 => ((vitrineref05_Diff.f k 0 false 0 0 0 0 a0_0 true a0_2 a0_3 a0_4 a0_5).bind fun t160 => (if y157.length + t160.length < 70368744177664 then (some (y157 ++ t160)) else (none)))) else (none)) = some r := H
    have A4 := Aside0.mk A40
    clear A40
    by_cases c5 : ([] : List (S36)).length < 70368744177664
    · rw [if_pos c5] at H
      have LMc5 := Aside0.mk c5
      clear c5
      obtain ⟨y157, hy157⟩ : ∃ y_ : List (S36), y_ = (([] : List (S36)) ++ [(⟨192, t156⟩ : S36)]) := ⟨_, rfl⟩
      replace H : ((vitrineref05_Diff.f k 0 false 0 0 0 0 a0_0 true a0_2 a0_3 a0_4 a0_5).bind fun t160 => (if y157.length + t160.length < 70368744177664 then (some (y157 ++ t160)) else (none))) = some r := by first | (rw [hy157]; with_reducible exact H) | (have H2_ := (Option.bind_some _ _).symm.trans H; rw [hy157]; with_reducible exact H2_) | (have H2_ := (Option.bind_some _ _).symm.trans H; with_reducible exact H2_) | with_reducible exact H | (rw [hy157]; exact H) | exact H
      have Ny157 := Aside0.mk hy157
      clear hy157
      replace H := Option.bind_eq_some_iff.mp H
      obtain ⟨t160, A60, H⟩ := H
      replace H : (if y157.length + t160.length < 70368744177664 then (some (y157 ++ t160)) else (none)) = some r := H
      have A6 := Aside0.mk A60
      clear A60
      by_cases c7 : y157.length + t160.length < 70368744177664
      · rw [if_pos c7] at H
        have LMc7 := Aside0.mk c7
        clear c7
        obtain ⟨y163, hy163⟩ : ∃ y_ : List (S36), y_ = (y157 ++ t160) := ⟨_, rfl⟩
        replace H : (some y163) = some r := by first | (rw [hy163]; with_reducible exact H) | (have H2_ := (Option.bind_some _ _).symm.trans H; rw [hy163]; with_reducible exact H2_) | (have H2_ := (Option.bind_some _ _).symm.trans H; with_reducible exact H2_) | with_reducible exact H | (rw [hy163]; exact H) | exact H
        have Ny163 := Aside0.mk hy163
        clear hy163
        obtain rfl := Option.some.inj H
        go_enter Try.func32, Try.ntmps32
        go_wp2_with (first | ((with_reducible refine gate_dst (N := 1) rfl ?_); refine box_event ?hg (N := 1) ?hd (cs := #[.int .u8 a0_0, .bool true, .int .u8 a0_2, .int .u8 a0_3, .int .u8 a0_4, .int .u8 a0_5]) (t := 38) ?hr ?_; (case hd => rfl); (case hg => rfl); (case hr => first | (go_simp; done) | (go_simp; rfl)); intro gb154 hg w8 hbox hb; have n0_ := Aside0.mk (below_step (by repeat (first | (with_reducible first | exact HB.out | apply below_alloc | apply pw_below_drewN | apply below_drew1) | exact HB.out)) hb); have n1_ := Aside0.mk (hbox); have n2_ := Aside0.mk ((by rw [hg]; exact (below_size (by repeat (first | (with_reducible first | exact HB.out | apply below_alloc | apply pw_below_drewN | apply below_drew1) | exact HB.out))) : w.heap.size ≤ gb154)); have n3_ := Aside0.mk ((by rw [hg]; exact (below_size (by repeat (first | (with_reducible first | exact HB.out | apply below_alloc | apply pw_below_drewN | apply below_drew1) | exact HB.out))) : w.heap.size ≤ gb154)); clear HB; have HB := n0_; have BK154 := n1_; have GW154 := n2_; have GE154 := n3_; clear n0_ n1_ n2_ n3_; clear hb hbox hg; have hcz9_0 : w8.cell? ⟨gb154, 0, none⟩ = some (.int .u8 a0_0) := (blk_cell BK154.out 0).trans rfl; have hcz9_1 : w8.cell? ⟨gb154, 1, none⟩ = some (.bool true) := (blk_cell BK154.out 1).trans rfl; have hcz9_2 : w8.cell? ⟨gb154, 2, none⟩ = some (.int .u8 a0_2) := (blk_cell BK154.out 2).trans rfl; have hcz9_3 : w8.cell? ⟨gb154, 3, none⟩ = some (.int .u8 a0_3) := (blk_cell BK154.out 3).trans rfl; have hcz9_4 : w8.cell? ⟨gb154, 4, none⟩ = some (.int .u8 a0_4) := (blk_cell BK154.out 4).trans rfl; have hcz9_5 : w8.cell? ⟨gb154, 5, none⟩ = some (.int .u8 a0_5) := (blk_cell BK154.out 5).trans rfl; have hfz9_0 := blk_frozen BK154.out 0; have hfz9_1 := blk_frozen BK154.out 1; have hfz9_2 := blk_frozen BK154.out 2; have hfz9_3 := blk_frozen BK154.out 3; have hfz9_4 := blk_frozen BK154.out 4; have hfz9_5 := blk_frozen BK154.out 5) | ((with_reducible refine gate_callee (f := 35) rfl ?_); refine goesL_ (some 9) rfl rfl Try.func35 (by kernel_rfl) rfl #[.int .u8 a0_2] rfl (by (try simp only [List.map_toArray, List.map_cons, List.map_nil]); first | done | rfl | (simp only [List.length_drop, List.length_take]; rfl)) ?_; (with_reducible refine (vitrineref05_Six.calls k a0_2 t155 _ A3.out).mono ?_); rintro e w10 ⟨rfl, hb⟩; refine ⟨_, rfl, ?_⟩; have n0_ := Aside0.mk (blk_below (g := gb154) (o := .cells #[.int .u8 a0_0, .bool true, .int .u8 a0_2, .int .u8 a0_3, .int .u8 a0_4, .int .u8 a0_5] 38 (0, 0)) (by (with_reducible repeat (first | refine blk_drewN ?_ _ | refine blk_drew ?_ | refine blk_alloc ?_ _)); exact BK154.out) hb); have n1_ := Aside0.mk (below_step (by repeat (first | (with_reducible first | exact HB.out | apply below_alloc | apply pw_below_drewN | apply below_drew1 | refine below_set ?_ GE154.out) | exact HB.out)) hb); clear BK154; clear HB; have BK154 := n0_; have HB := n1_; clear n0_ n1_; (try clear hb); (try clear hb2); (try clear hk); (try clear hi)) | ((with_reducible refine gate_callee (f := 12) rfl ?_); refine goesL_ (some 11) rfl rfl Try.func12 (by kernel_rfl) rfl #[.int .i64 (wrap64 (t155))] rfl (by (try simp only [List.map_toArray, List.map_cons, List.map_nil]); first | done | rfl | (simp only [List.length_drop, List.length_take]; rfl)) ?_; (with_reducible refine (vitrineref04_Six.calls k (wrap64 (t155)) t156 _ A4.out).mono ?_); rintro e w' ⟨rfl, ⟨nd, rfl⟩⟩; refine ⟨_, rfl, ?_⟩) | ((with_reducible refine gate_builtin (b := .append) (xs := #[.tmp 6, .tmp 13]) rfl ?_); at_builtin; refine Kd.R_append k36 (w0 := w) w.heap.size rfl (.tmp 6) (.tmp 13) 53 36 (.agg #[(.int .u8 0), (.int .u8 0)]) 2 rfl Try.underlying53 info36 rfl (by decide) (by omega) (.slice none 0 0) ([] : List (S36)) (⟨192, t156⟩ : S36) [.int .u8 192, .int .u8 t156] (fun _ => True) (fun _ => False) rfl rfl ?aP (fun _ hk => hk.elim) ?aF ?aO ?aB ?aS ?aL ?_; (case aP => exact k36_mkM _ _ _ (⟨192, t156⟩ : S36)); (case aB => exact (by repeat (first | (with_reducible first | exact HB.out | apply below_alloc | apply pw_below_drewN | apply below_drew1 | refine below_set ?_ GE154.out) | exact HB.out))); (case aF => exact (fun _ _ => trivial)); (case aO => exact ((Kd.R_nil _ _ _ _ (fun _ => True)))); (case aS => exact (below_size (by repeat (first | (with_reducible first | exact HB.out | apply below_alloc | apply pw_below_drewN | apply below_drew1 | refine below_set ?_ GE154.out) | exact HB.out)))); (case aL => have := LMc5.out; omega); intro v158 w11 ho hb hg hat; rw [← Ny157.out] at ho; have n0_ := Aside0.mk (blk_grown (g := gb154) (o := .cells #[.int .u8 a0_0, .bool true, .int .u8 a0_2, .int .u8 a0_3, .int .u8 a0_4, .int .u8 a0_5] 38 (0, 0)) (by (with_reducible repeat (first | refine blk_drewN ?_ _ | refine blk_drew ?_ | refine blk_alloc ?_ _)); exact BK154.out) hg (by simp [Value.ownBlock])); have n1_ := Aside0.mk (hb); have n2_ := Aside0.mk (ho); clear BK154; clear HB; have BK154 := n0_; have HB := n1_; have HO159 := n2_; clear n0_ n1_ n2_; clear ho hb hg hat; have hcz12_0 : w11.cell? ⟨gb154, 0, none⟩ = some (.int .u8 a0_0) := (blk_cell BK154.out 0).trans rfl; have hcz12_1 : w11.cell? ⟨gb154, 1, none⟩ = some (.bool true) := (blk_cell BK154.out 1).trans rfl; have hcz12_2 : w11.cell? ⟨gb154, 2, none⟩ = some (.int .u8 a0_2) := (blk_cell BK154.out 2).trans rfl; have hcz12_3 : w11.cell? ⟨gb154, 3, none⟩ = some (.int .u8 a0_3) := (blk_cell BK154.out 3).trans rfl; have hcz12_4 : w11.cell? ⟨gb154, 4, none⟩ = some (.int .u8 a0_4) := (blk_cell BK154.out 4).trans rfl; have hcz12_5 : w11.cell? ⟨gb154, 5, none⟩ = some (.int .u8 a0_5) := (blk_cell BK154.out 5).trans rfl; have hfz12_0 := blk_frozen BK154.out 0; have hfz12_1 := blk_frozen BK154.out 1; have hfz12_2 := blk_frozen BK154.out 2; have hfz12_3 := blk_frozen BK154.out 3; have hfz12_4 := blk_frozen BK154.out 4; have hfz12_5 := blk_frozen BK154.out 5) | ((with_reducible refine gate_callee (f := 34) rfl ?_); refine goesL_ (some 18) rfl rfl Try.func34 (by kernel_rfl) rfl #[.agg #[.int .u8 0, .bool false, .int .u8 0, .int .u8 0, .int .u8 0, .int .u8 0], .agg #[.int .u8 a0_0, .bool true, .int .u8 a0_2, .int .u8 a0_3, .int .u8 a0_4, .int .u8 a0_5]] rfl (by (try simp only [List.map_toArray, List.map_cons, List.map_nil]); first | done | rfl | (simp only [List.length_drop, List.length_take]; rfl)) ?_; (with_reducible refine (vitrineref05_Diff.calls k 0 false 0 0 0 0 a0_0 true a0_2 a0_3 a0_4 a0_5 t160 _ A6.out).mono ?_); rintro e w13 ⟨v161, rfl, ho0, hb⟩; refine ⟨_, rfl, ?_⟩; have n0_ := Aside0.mk (Kd.R_elder' (by (with_reducible repeat (first | apply Kd.R_alloc | apply Kd.R_drewN | apply Kd.R_drew)); exact HO159.out) (Kd.R_base ho0) hb); have n1_ := Aside0.mk (Kd.R_lower (Kd.R_new' ho0 (Kd.R_lt (by (with_reducible repeat (first | apply Kd.R_alloc | apply Kd.R_drewN | apply Kd.R_drew)); exact HO159.out))) (below_size (by repeat (first | (with_reducible first | exact HB.out | apply below_alloc | apply pw_below_drewN | apply below_drew1 | refine below_set ?_ GE154.out) | exact HB.out)))); have n2_ := Aside0.mk (blk_below (g := gb154) (o := .cells #[.int .u8 a0_0, .bool true, .int .u8 a0_2, .int .u8 a0_3, .int .u8 a0_4, .int .u8 a0_5] 38 (0, 0)) (by (with_reducible repeat (first | refine blk_drewN ?_ _ | refine blk_drew ?_ | refine blk_alloc ?_ _)); exact BK154.out) hb); have n3_ := Aside0.mk (below_step (by repeat (first | (with_reducible first | exact HB.out | apply below_alloc | apply pw_below_drewN | apply below_drew1 | refine below_set ?_ GE154.out) | exact HB.out)) hb); clear HO159; clear BK154; clear HB; have HO159 := n0_; have HO162 := n1_; have BK154 := n2_; have HB := n3_; clear n0_ n1_ n2_ n3_; (try clear hb); (try clear hb2); (try clear hk); (try clear hi); (try clear ho0); obtain ⟨Ao15, co15, eo15⟩ := Kd.R_slice HO162.out; subst eo15) | ((with_reducible refine gate_builtin (b := .append) (xs := #[.tmp 15, .tmp 18]) rfl ?_); at_builtin; refine Kd.R_append_rows k36 (w0 := w) w.heap.size rfl (.tmp 15) (.tmp 18) 53 36 (.agg #[(.int .u8 0), (.int .u8 0)]) 2 rfl Try.underlying53 info36 rfl (by decide) (by omega) v158 y157 t160 _ _ _ (fun k_ => some k_ ≠ (.slice Ao15 t160.length co15 : Value).ownBlock) (fun _ => False) rfl rfl ?aO ?aR (fun _ _ h => h) (fun _ h => h.elim) ?aF ?aB ?aS ?aL ?_; (case aR => repeat (first | exact (Kd.R_reads' HO162.out).2.2 | (with_reducible refine Kd.C_alloc ?_ _) | (with_reducible refine Kd.C_drewN ?_ _) | (with_reducible refine Kd.C_drew ?_))); (case aB => exact (by repeat (first | (with_reducible first | exact HB.out | apply below_alloc | apply pw_below_drewN | apply below_drew1 | refine below_set ?_ GE154.out) | exact HB.out))); (case aF => exact (fun k_ hk => Kd.fresh' (Kd.R_lt (by (with_reducible repeat (first | apply Kd.R_alloc | apply Kd.R_drewN | apply Kd.R_drew)); exact HO162.out)) k_ hk)); (case aO => exact (by (with_reducible repeat (first | apply Kd.R_alloc | apply Kd.R_drewN | apply Kd.R_drew)); exact Kd.R_mono HO159.out (fun _ hk => hk.2))); (case aS => exact (below_size (by repeat (first | (with_reducible first | exact HB.out | apply below_alloc | apply pw_below_drewN | apply below_drew1 | refine below_set ?_ GE154.out) | exact HB.out)))); (case aL => have := LMc7.out; omega); intro v164 w14 ho hb hg hat; rw [← Ny163.out] at ho; have n0_ := Aside0.mk (blk_grown (g := gb154) (o := .cells #[.int .u8 a0_0, .bool true, .int .u8 a0_2, .int .u8 a0_3, .int .u8 a0_4, .int .u8 a0_5] 38 (0, 0)) (by (with_reducible repeat (first | refine blk_drewN ?_ _ | refine blk_drew ?_ | refine blk_alloc ?_ _)); exact BK154.out) hg (Kd.R_ne HO159.out BK154.out (by decide))); have n1_ := Aside0.mk (Kd.R_after (ok := (fun _ => True)) (by (with_reducible repeat (first | apply Kd.R_alloc | apply Kd.R_drewN | apply Kd.R_drew)); exact HO162.out) hg hat); have n2_ := Aside0.mk (hb); have n3_ := Aside0.mk (ho); clear BK154; clear HO162; clear HB; clear HO159; have BK154 := n0_; have HO162 := n1_; have HB := n2_; have HO165 := n3_; clear n0_ n1_ n2_ n3_; clear ho hb hg hat))
        go_ret
        exact ⟨_, by first | rfl | (simp [errW_none, errW_some] <;> rfl) | (simp [*, errW_none, errW_some] <;> rfl), by (with_reducible repeat (first | apply Kd.R_alloc | apply Kd.R_drewN | apply Kd.R_drew)); exact Kd.R_mono HO165.out (fun _ hk => trivial), by repeat (first | (with_reducible first | exact HB.out | apply below_alloc | apply pw_below_drewN | apply below_drew1 | refine below_set ?_ GE154.out) | exact HB.out)⟩
      · rw [if_neg c7] at H
        exact absurd H (by simp)
    · rw [if_neg c5] at H
      exact absurd H (by simp)
  · replace c2 := Bool.eq_false_iff.mpr c2
    subst c2
    have H1 : ((vitrineref05_Diff.f k 0 false 0 0 0 0 a0_0 false a0_2 a0_3 a0_4 a0_5).bind fun t166 => (if ([] : List (S36)).length + t166.length < 70368744177664 then (some (([] : List (S36)) ++ t166)) else (none))) = some r := by rw [if_neg (show ¬ (false = true) by decide)] at H; exact H
    clear H
    have H := H1
    clear H1
    replace H := Option.bind_eq_some_iff.mp H
    obtain ⟨t166, A160, H⟩ := H
    replace H : (if ([] : List (S36)).length + t166.length < 70368744177664 then (some (([] : List (S36)) ++ t166)) else (none)) = some r := H
    have A16 := Aside0.mk A160
    clear A160
    by_cases c17 : ([] : List (S36)).length + t166.length < 70368744177664
    · rw [if_pos c17] at H
      have LMc17 := Aside0.mk c17
      clear c17
      obtain ⟨y169, hy169⟩ : ∃ y_ : List (S36), y_ = (([] : List (S36)) ++ t166) := ⟨_, rfl⟩
      replace H : (some y169) = some r := by first | (rw [hy169]; with_reducible exact H) | (have H2_ := (Option.bind_some _ _).symm.trans H; rw [hy169]; with_reducible exact H2_) | (have H2_ := (Option.bind_some _ _).symm.trans H; with_reducible exact H2_) | with_reducible exact H | (rw [hy169]; exact H) | exact H
      have Ny169 := Aside0.mk hy169
      clear hy169
      obtain rfl := Option.some.inj H
      go_enter Try.func32, Try.ntmps32
      go_wp2_with (first | ((with_reducible refine gate_dst (N := 1) rfl ?_); refine box_event ?hg (N := 1) ?hd (cs := #[.int .u8 a0_0, .bool false, .int .u8 a0_2, .int .u8 a0_3, .int .u8 a0_4, .int .u8 a0_5]) (t := 38) ?hr ?_; (case hd => rfl); (case hg => rfl); (case hr => first | (go_simp; done) | (go_simp; rfl)); intro gb154 hg w18 hbox hb; have n0_ := Aside0.mk (below_step (by repeat (first | (with_reducible first | exact HB.out | apply below_alloc | apply pw_below_drewN | apply below_drew1) | exact HB.out)) hb); have n1_ := Aside0.mk (hbox); have n2_ := Aside0.mk ((by rw [hg]; exact (below_size (by repeat (first | (with_reducible first | exact HB.out | apply below_alloc | apply pw_below_drewN | apply below_drew1) | exact HB.out))) : w.heap.size ≤ gb154)); have n3_ := Aside0.mk ((by rw [hg]; exact (below_size (by repeat (first | (with_reducible first | exact HB.out | apply below_alloc | apply pw_below_drewN | apply below_drew1) | exact HB.out))) : w.heap.size ≤ gb154)); clear HB; have HB := n0_; have BK154 := n1_; have GW154 := n2_; have GE154 := n3_; clear n0_ n1_ n2_ n3_; clear hb hbox hg; have hcz19_0 : w18.cell? ⟨gb154, 0, none⟩ = some (.int .u8 a0_0) := (blk_cell BK154.out 0).trans rfl; have hcz19_1 : w18.cell? ⟨gb154, 1, none⟩ = some (.bool false) := (blk_cell BK154.out 1).trans rfl; have hcz19_2 : w18.cell? ⟨gb154, 2, none⟩ = some (.int .u8 a0_2) := (blk_cell BK154.out 2).trans rfl; have hcz19_3 : w18.cell? ⟨gb154, 3, none⟩ = some (.int .u8 a0_3) := (blk_cell BK154.out 3).trans rfl; have hcz19_4 : w18.cell? ⟨gb154, 4, none⟩ = some (.int .u8 a0_4) := (blk_cell BK154.out 4).trans rfl; have hcz19_5 : w18.cell? ⟨gb154, 5, none⟩ = some (.int .u8 a0_5) := (blk_cell BK154.out 5).trans rfl; have hfz19_0 := blk_frozen BK154.out 0; have hfz19_1 := blk_frozen BK154.out 1; have hfz19_2 := blk_frozen BK154.out 2; have hfz19_3 := blk_frozen BK154.out 3; have hfz19_4 := blk_frozen BK154.out 4; have hfz19_5 := blk_frozen BK154.out 5) | ((with_reducible refine gate_callee (f := 34) rfl ?_); refine goesL_ (some 18) rfl rfl Try.func34 (by kernel_rfl) rfl #[.agg #[.int .u8 0, .bool false, .int .u8 0, .int .u8 0, .int .u8 0, .int .u8 0], .agg #[.int .u8 a0_0, .bool false, .int .u8 a0_2, .int .u8 a0_3, .int .u8 a0_4, .int .u8 a0_5]] rfl (by (try simp only [List.map_toArray, List.map_cons, List.map_nil]); first | done | rfl | (simp only [List.length_drop, List.length_take]; rfl)) ?_; (with_reducible refine (vitrineref05_Diff.calls k 0 false 0 0 0 0 a0_0 false a0_2 a0_3 a0_4 a0_5 t166 _ A16.out).mono ?_); rintro e w20 ⟨v167, rfl, ho0, hb⟩; refine ⟨_, rfl, ?_⟩; have n0_ := Aside0.mk (Kd.R_lower ho0 (below_size (by repeat (first | (with_reducible first | exact HB.out | apply below_alloc | apply pw_below_drewN | apply below_drew1 | refine below_set ?_ GE154.out) | exact HB.out)))); have n1_ := Aside0.mk (blk_below (g := gb154) (o := .cells #[.int .u8 a0_0, .bool false, .int .u8 a0_2, .int .u8 a0_3, .int .u8 a0_4, .int .u8 a0_5] 38 (0, 0)) (by (with_reducible repeat (first | refine blk_drewN ?_ _ | refine blk_drew ?_ | refine blk_alloc ?_ _)); exact BK154.out) hb); have n2_ := Aside0.mk (below_step (by repeat (first | (with_reducible first | exact HB.out | apply below_alloc | apply pw_below_drewN | apply below_drew1 | refine below_set ?_ GE154.out) | exact HB.out)) hb); clear BK154; clear HB; have HO168 := n0_; have BK154 := n1_; have HB := n2_; clear n0_ n1_ n2_; (try clear hb); (try clear hb2); (try clear hk); (try clear hi); (try clear ho0); obtain ⟨Ao22, co22, eo22⟩ := Kd.R_slice HO168.out; subst eo22) | ((with_reducible refine gate_builtin (b := .append) (xs := #[.tmp 15, .tmp 18]) rfl ?_); at_builtin; refine Kd.R_append_rows k36 (w0 := w) w.heap.size rfl (.tmp 15) (.tmp 18) 53 36 (.agg #[(.int .u8 0), (.int .u8 0)]) 2 rfl Try.underlying53 info36 rfl (by decide) (by omega) (.slice none 0 0) ([] : List (S36)) t166 _ _ _ (fun k_ => some k_ ≠ (.slice Ao22 t166.length co22 : Value).ownBlock) (fun _ => False) rfl rfl ?aO ?aR (fun _ _ h => h) (fun _ h => h.elim) ?aF ?aB ?aS ?aL ?_; (case aR => repeat (first | exact (Kd.R_reads' HO168.out).2.2 | (with_reducible refine Kd.C_alloc ?_ _) | (with_reducible refine Kd.C_drewN ?_ _) | (with_reducible refine Kd.C_drew ?_))); (case aB => exact (by repeat (first | (with_reducible first | exact HB.out | apply below_alloc | apply pw_below_drewN | apply below_drew1 | refine below_set ?_ GE154.out) | exact HB.out))); (case aF => exact (fun k_ hk => Kd.fresh' (Kd.R_lt (by (with_reducible repeat (first | apply Kd.R_alloc | apply Kd.R_drewN | apply Kd.R_drew)); exact HO168.out)) k_ hk)); (case aO => exact ((Kd.R_nil _ _ _ _ (fun k_ => some k_ ≠ (.slice Ao22 t166.length co22 : Value).ownBlock)))); (case aS => exact (below_size (by repeat (first | (with_reducible first | exact HB.out | apply below_alloc | apply pw_below_drewN | apply below_drew1 | refine below_set ?_ GE154.out) | exact HB.out)))); (case aL => have := LMc17.out; omega); intro v170 w21 ho hb hg hat; rw [← Ny169.out] at ho; have n0_ := Aside0.mk (blk_grown (g := gb154) (o := .cells #[.int .u8 a0_0, .bool false, .int .u8 a0_2, .int .u8 a0_3, .int .u8 a0_4, .int .u8 a0_5] 38 (0, 0)) (by (with_reducible repeat (first | refine blk_drewN ?_ _ | refine blk_drew ?_ | refine blk_alloc ?_ _)); exact BK154.out) hg (by simp [Value.ownBlock])); have n1_ := Aside0.mk (Kd.R_after (Kd.R_apart_nil (by (with_reducible repeat (first | apply Kd.R_alloc | apply Kd.R_drewN | apply Kd.R_drew)); exact HO168.out)) hg hat); have n2_ := Aside0.mk (hb); have n3_ := Aside0.mk (ho); clear BK154; clear HO168; clear HB; have BK154 := n0_; have HO168 := n1_; have HB := n2_; have HO171 := n3_; clear n0_ n1_ n2_ n3_; clear ho hb hg hat))
      go_ret
      exact ⟨_, by first | rfl | (simp [errW_none, errW_some] <;> rfl) | (simp [*, errW_none, errW_some] <;> rfl), by (with_reducible repeat (first | apply Kd.R_alloc | apply Kd.R_drewN | apply Kd.R_drew)); exact Kd.R_mono HO171.out (fun _ hk => trivial), by repeat (first | (with_reducible first | exact HB.out | apply below_alloc | apply pw_below_drewN | apply below_drew1 | refine below_set ?_ GE154.out) | exact HB.out)⟩
    · rw [if_neg c17] at H
      exact absurd H (by simp)

end Go.Proofs.Ytfdhchgemplnoaa.PMk
