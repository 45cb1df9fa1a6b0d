-- Written by a program of this session (a changed copy of the kit's print program): not the kit's print.
import Derived.Test.YtfdhchgemplnoaaPAllx0
import Derived.Test.YtfdhchgemplnoaaPAllx4
import Derived.Test.YtfdhchgemplnoaaPAllx5
namespace Go.Proofs.Ytfdhchgemplnoaa.PAll
open Go.RowKit Go.Proofs.YtfdhchgemplnoaaW.PrintWords Go.Proofs.YtfdhchgemplnoaaW.PrintLast Go.Proofs.YtfdhchgemplnoaaW.PrintMore
attribute [local go_sem] max2_int min2_int max_two min_two max_three min_three max_four min_four   -- for this text's walks alone
set_option linter.unusedVariables false
set_option linter.unusedSimpArgs false

/-! ### vitrineref05_Apply: function 19 -/
mutual
def vitrineref05_Apply.j0 : Nat → Bool → Int → Int → Int → Bool → Int → Int → Int → Int → Option (Int × Bool × Int × Int × Int × Int × Int)
  | 0, _, _, _, _, _, _, _, _, _ => none
  | k + 1, x18, x179000, x179001, x183000, x183001, x183002, x183003, x183004, x183005 => if x18 = true then ((vitrineref05_Six.f k x179001).bind fun t183 => (vitrineref05_Apply.j1 k x179000 x179001 x183000 x183001 t183 x183003 x183004 x183005)) else (vitrineref05_Apply.j1 k x179000 x179001 x183000 x183001 x183002 x183003 x183004 x183005)
def vitrineref05_Apply.j1 : Nat → Int → Int → Int → Bool → Int → Int → Int → Int → Option (Int × Bool × Int × Int × Int × Int × Int)
  | 0, _, _, _, _, _, _, _, _ => none
  | k + 1, x179000, x179001, x183000, x183001, x183002, x183003, x183004, x183005 => if x179000 = 65 then (vitrineref05_Apply.j2 k true x179000 x179001 x183000 x183001 x183002 x183003 x183004 x183005) else (vitrineref05_Apply.j2 k (x179000 == 0) x179000 x179001 x183000 x183001 x183002 x183003 x183004 x183005)
def vitrineref05_Apply.j2 : Nat → Bool → Int → Int → Int → Bool → Int → Int → Int → Int → Option (Int × Bool × Int × Int × Int × Int × Int)
  | 0, _, _, _, _, _, _, _, _, _ => none
  | k + 1, x30, x179000, x179001, x183000, x183001, x183002, x183003, x183004, x183005 => if x30 = true then (vitrineref05_Apply.j3 k x179000 x179001 x183000 x183001 x183002 x179001 x183004 x183005) else (vitrineref05_Apply.j3 k x179000 x179001 x183000 x183001 x183002 x183003 x183004 x183005)
def vitrineref05_Apply.j3 : Nat → Int → Int → Int → Bool → Int → Int → Int → Int → Option (Int × Bool × Int × Int × Int × Int × Int)
  | 0, _, _, _, _, _, _, _, _ => none
  | k + 1, x179000, x179001, x183000, x183001, x183002, x183003, x183004, x183005 => if x179000 = 66 then (vitrineref05_Apply.j4 k true x179000 x179001 x183000 x183001 x183002 x183003 x183004 x183005) else (vitrineref05_Apply.j4 k (x179000 == 0) x179000 x179001 x183000 x183001 x183002 x183003 x183004 x183005)
def vitrineref05_Apply.j4 : Nat → Bool → Int → Int → Int → Bool → Int → Int → Int → Int → Option (Int × Bool × Int × Int × Int × Int × Int)
  | 0, _, _, _, _, _, _, _, _, _ => none
  | k + 1, x41, x179000, x179001, x183000, x183001, x183002, x183003, x183004, x183005 => if x41 = true then (if x179000 = 67 then (some (x183000, x183001, x183002, x183003, x179001, x179001, 0)) else (if x179000 = 0 then (some (x183000, x183001, x183002, x183003, x179001, x179001, 0)) else (some (x183000, x183001, x183002, x183003, x179001, x183005, 0)))) else (if x179000 = 67 then (some (x183000, x183001, x183002, x183003, x183004, x179001, 0)) else (if x179000 = 0 then (some (x183000, x183001, x183002, x183003, x183004, x179001, 0)) else (some (x183000, x183001, x183002, x183003, x183004, x183005, 0))))
end
def vitrineref05_Apply.f (k : Nat) (a0_0 : Int) (a0_1 : Int) (a1_0 : Int) (a1_1 : Bool) (a1_2 : Int) (a1_3 : Int) (a1_4 : Int) (a1_5 : Int) : Option (Int × Bool × Int × Int × Int × Int × Int) := (vitrineref05_Right.f k a0_0 a0_1).bind fun t181 => (if t181 = true then (if a0_0 = 192 then (vitrineref05_Apply.j0 k a1_1 a0_0 a0_1 a1_0 a1_1 a1_2 a1_3 a1_4 a1_5) else (vitrineref05_Apply.j0 k false a0_0 a0_1 a1_0 a1_1 a1_2 a1_3 a1_4 a1_5)) else (some (0, false, 0, 0, 0, 0, 10)))
theorem vitrineref05_Apply.mono_l : ∀ k, (∀ y0 y1 y2 y3 y4 y5 y6 y7 y8, LeO (vitrineref05_Apply.j0 k y0 y1 y2 y3 y4 y5 y6 y7 y8) (vitrineref05_Apply.j0 (k + 1) y0 y1 y2 y3 y4 y5 y6 y7 y8)) ∧ (∀ y0 y1 y2 y3 y4 y5 y6 y7, LeO (vitrineref05_Apply.j1 k y0 y1 y2 y3 y4 y5 y6 y7) (vitrineref05_Apply.j1 (k + 1) y0 y1 y2 y3 y4 y5 y6 y7)) ∧ (∀ y0 y1 y2 y3 y4 y5 y6 y7 y8, LeO (vitrineref05_Apply.j2 k y0 y1 y2 y3 y4 y5 y6 y7 y8) (vitrineref05_Apply.j2 (k + 1) y0 y1 y2 y3 y4 y5 y6 y7 y8)) ∧ (∀ y0 y1 y2 y3 y4 y5 y6 y7, LeO (vitrineref05_Apply.j3 k y0 y1 y2 y3 y4 y5 y6 y7) (vitrineref05_Apply.j3 (k + 1) y0 y1 y2 y3 y4 y5 y6 y7)) ∧ (∀ y0 y1 y2 y3 y4 y5 y6 y7 y8, LeO (vitrineref05_Apply.j4 k y0 y1 y2 y3 y4 y5 y6 y7 y8) (vitrineref05_Apply.j4 (k + 1) y0 y1 y2 y3 y4 y5 y6 y7 y8))
  | 0 => ⟨fun _ _ _ _ _ _ _ _ _ r h => by simp [vitrineref05_Apply.j0] at h, fun _ _ _ _ _ _ _ _ r h => by simp [vitrineref05_Apply.j1] at h, fun _ _ _ _ _ _ _ _ _ r h => by simp [vitrineref05_Apply.j2] at h, fun _ _ _ _ _ _ _ _ r h => by simp [vitrineref05_Apply.j3] at h, fun _ _ _ _ _ _ _ _ _ r h => by simp [vitrineref05_Apply.j4] at h⟩
  | k + 1 => by
    obtain ⟨ih0, ih1, ih2, ih3, ih4⟩ := vitrineref05_Apply.mono_l k
    refine ⟨?_, ?_, ?_, ?_, ?_⟩
    · intro y0 y1 y2 y3 y4 y5 y6 y7 y8
      unfold vitrineref05_Apply.j0
      repeat' first
      | (with_reducible exact ih0 _ _ _ _ _ _ _ _ _)
      | (with_reducible exact ih1 _ _ _ _ _ _ _ _)
      | (with_reducible exact ih2 _ _ _ _ _ _ _ _ _)
      | (with_reducible exact ih3 _ _ _ _ _ _ _ _)
      | (with_reducible exact ih4 _ _ _ _ _ _ _ _ _)
      | (with_reducible exact vitrineref05_Right.mono _ _ _)
      | (with_reducible exact vitrineref05_Six.mono _ _)
      | (with_reducible exact LeO.refl _)
      | (with_reducible exact LeO.none _)
      | (with_reducible refine LeO.ite ?_ ?_)
      | (with_reducible refine LeO.bind ?_ (fun _ => ?_))
      | exact ih0 _ _ _ _ _ _ _ _ _
      | exact ih1 _ _ _ _ _ _ _ _
      | exact ih2 _ _ _ _ _ _ _ _ _
      | exact ih3 _ _ _ _ _ _ _ _
      | exact ih4 _ _ _ _ _ _ _ _ _
      | exact vitrineref05_Right.mono _ _ _
      | exact vitrineref05_Six.mono _ _
      | exact LeO.none _
      | refine LeO.ite ?_ ?_
      | refine LeO.bind ?_ (fun _ => ?_)
    · intro y0 y1 y2 y3 y4 y5 y6 y7
      unfold vitrineref05_Apply.j1
      repeat' first
      | (with_reducible exact ih0 _ _ _ _ _ _ _ _ _)
      | (with_reducible exact ih1 _ _ _ _ _ _ _ _)
      | (with_reducible exact ih2 _ _ _ _ _ _ _ _ _)
      | (with_reducible exact ih3 _ _ _ _ _ _ _ _)
      | (with_reducible exact ih4 _ _ _ _ _ _ _ _ _)
      | (with_reducible exact vitrineref05_Right.mono _ _ _)
      | (with_reducible exact vitrineref05_Six.mono _ _)
      | (with_reducible exact LeO.refl _)
      | (with_reducible exact LeO.none _)
      | (with_reducible refine LeO.ite ?_ ?_)
      | (with_reducible refine LeO.bind ?_ (fun _ => ?_))
      | exact ih0 _ _ _ _ _ _ _ _ _
      | exact ih1 _ _ _ _ _ _ _ _
      | exact ih2 _ _ _ _ _ _ _ _ _
      | exact ih3 _ _ _ _ _ _ _ _
      | exact ih4 _ _ _ _ _ _ _ _ _
      | exact vitrineref05_Right.mono _ _ _
      | exact vitrineref05_Six.mono _ _
      | exact LeO.none _
      | refine LeO.ite ?_ ?_
      | refine LeO.bind ?_ (fun _ => ?_)
    · intro y0 y1 y2 y3 y4 y5 y6 y7 y8
      unfold vitrineref05_Apply.j2
      repeat' first
      | (with_reducible exact ih0 _ _ _ _ _ _ _ _ _)
      | (with_reducible exact ih1 _ _ _ _ _ _ _ _)
      | (with_reducible exact ih2 _ _ _ _ _ _ _ _ _)
      | (with_reducible exact ih3 _ _ _ _ _ _ _ _)
      | (with_reducible exact ih4 _ _ _ _ _ _ _ _ _)
      | (with_reducible exact vitrineref05_Right.mono _ _ _)
      | (with_reducible exact vitrineref05_Six.mono _ _)
      | (with_reducible exact LeO.refl _)
      | (with_reducible exact LeO.none _)
      | (with_reducible refine LeO.ite ?_ ?_)
      | (with_reducible refine LeO.bind ?_ (fun _ => ?_))
      | exact ih0 _ _ _ _ _ _ _ _ _
      | exact ih1 _ _ _ _ _ _ _ _
      | exact ih2 _ _ _ _ _ _ _ _ _
      | exact ih3 _ _ _ _ _ _ _ _
      | exact ih4 _ _ _ _ _ _ _ _ _
      | exact vitrineref05_Right.mono _ _ _
      | exact vitrineref05_Six.mono _ _
      | exact LeO.none _
      | refine LeO.ite ?_ ?_
      | refine LeO.bind ?_ (fun _ => ?_)
    · intro y0 y1 y2 y3 y4 y5 y6 y7
      unfold vitrineref05_Apply.j3
      repeat' first
      | (with_reducible exact ih0 _ _ _ _ _ _ _ _ _)
      | (with_reducible exact ih1 _ _ _ _ _ _ _ _)
      | (with_reducible exact ih2 _ _ _ _ _ _ _ _ _)
      | (with_reducible exact ih3 _ _ _ _ _ _ _ _)
      | (with_reducible exact ih4 _ _ _ _ _ _ _ _ _)
      | (with_reducible exact vitrineref05_Right.mono _ _ _)
      | (with_reducible exact vitrineref05_Six.mono _ _)
      | (with_reducible exact LeO.refl _)
      | (with_reducible exact LeO.none _)
      | (with_reducible refine LeO.ite ?_ ?_)
      | (with_reducible refine LeO.bind ?_ (fun _ => ?_))
      | exact ih0 _ _ _ _ _ _ _ _ _
      | exact ih1 _ _ _ _ _ _ _ _
      | exact ih2 _ _ _ _ _ _ _ _ _
      | exact ih3 _ _ _ _ _ _ _ _
      | exact ih4 _ _ _ _ _ _ _ _ _
      | exact vitrineref05_Right.mono _ _ _
      | exact vitrineref05_Six.mono _ _
      | exact LeO.none _
      | refine LeO.ite ?_ ?_
      | refine LeO.bind ?_ (fun _ => ?_)
    · intro y0 y1 y2 y3 y4 y5 y6 y7 y8
      unfold vitrineref05_Apply.j4
      repeat' first
      | (with_reducible exact ih0 _ _ _ _ _ _ _ _ _)
      | (with_reducible exact ih1 _ _ _ _ _ _ _ _)
      | (with_reducible exact ih2 _ _ _ _ _ _ _ _ _)
      | (with_reducible exact ih3 _ _ _ _ _ _ _ _)
      | (with_reducible exact ih4 _ _ _ _ _ _ _ _ _)
      | (with_reducible exact vitrineref05_Right.mono _ _ _)
      | (with_reducible exact vitrineref05_Six.mono _ _)
      | (with_reducible exact LeO.refl _)
      | (with_reducible exact LeO.none _)
      | (with_reducible refine LeO.ite ?_ ?_)
      | (with_reducible refine LeO.bind ?_ (fun _ => ?_))
      | exact ih0 _ _ _ _ _ _ _ _ _
      | exact ih1 _ _ _ _ _ _ _ _
      | exact ih2 _ _ _ _ _ _ _ _ _
      | exact ih3 _ _ _ _ _ _ _ _
      | exact ih4 _ _ _ _ _ _ _ _ _
      | exact vitrineref05_Right.mono _ _ _
      | exact vitrineref05_Six.mono _ _
      | exact LeO.none _
      | refine LeO.ite ?_ ?_
      | refine LeO.bind ?_ (fun _ => ?_)
theorem vitrineref05_Apply.mono : ∀ a0 a1 a2 a3 a4 a5 a6 a7 k, LeO (vitrineref05_Apply.f k a0 a1 a2 a3 a4 a5 a6 a7) (vitrineref05_Apply.f (k + 1) a0 a1 a2 a3 a4 a5 a6 a7) := by
  intro a0 a1 a2 a3 a4 a5 a6 a7 k
  obtain ⟨ih0, ih1, ih2, ih3, ih4⟩ := vitrineref05_Apply.mono_l k
  unfold vitrineref05_Apply.f
  repeat' first
      | (with_reducible exact ih0 _ _ _ _ _ _ _ _ _)
      | (with_reducible exact ih1 _ _ _ _ _ _ _ _)
      | (with_reducible exact ih2 _ _ _ _ _ _ _ _ _)
      | (with_reducible exact ih3 _ _ _ _ _ _ _ _)
      | (with_reducible exact ih4 _ _ _ _ _ _ _ _ _)
      | (with_reducible exact vitrineref05_Right.mono _ _ _)
      | (with_reducible exact vitrineref05_Six.mono _ _)
      | (with_reducible exact LeO.refl _)
      | (with_reducible exact LeO.none _)
      | (with_reducible refine LeO.ite ?_ ?_)
      | (with_reducible refine LeO.bind ?_ (fun _ => ?_))
      | exact ih0 _ _ _ _ _ _ _ _ _
      | exact ih1 _ _ _ _ _ _ _ _
      | exact ih2 _ _ _ _ _ _ _ _ _
      | exact ih3 _ _ _ _ _ _ _ _
      | exact ih4 _ _ _ _ _ _ _ _ _
      | exact vitrineref05_Right.mono _ _ _
      | exact vitrineref05_Six.mono _ _
      | exact LeO.none _
      | refine LeO.ite ?_ ?_
      | refine LeO.bind ?_ (fun _ => ?_)
set_option maxHeartbeats 8000000 in
set_option maxRecDepth 100000 in
theorem vitrineref05_Apply.calls (k : Nat) (a0_0 : Int) (a0_1 : Int) (a1_0 : Int) (a1_1 : Bool) (a1_2 : Int) (a1_3 : Int) (a1_4 : Int) (a1_5 : Int) (r1 : Int) (r2 : Bool) (r3 : Int) (r4 : Int) (r5 : Int) (r6 : Int) (r7 : Int) (w : World) (h : vitrineref05_Apply.f k a0_0 a0_1 a1_0 a1_1 a1_2 a1_3 a1_4 a1_5 = some (r1, r2, r3, r4, r5, r6, r7)) :
    Calls Try.prog 19 #[.agg #[.int .u8 a0_0, .int .u8 a0_1], .agg #[.int .u8 a1_0, .bool a1_1, .int .u8 a1_2, .int .u8 a1_3, .int .u8 a1_4, .int .u8 a1_5]] w fun e w' => e = .returned (.tuple #[.agg #[.int .u8 r1, .bool r2, .int .u8 r3, .int .u8 r4, .int .u8 r5, .int .u8 r6], .int .i64 r7]) ∧ Below w.heap.size w w' := by
  have hu36 := Try.underlying36
  have hu38 := Try.underlying38
  have HB := Aside0.mk (Below.refl w.heap.size w)
  have H : ((vitrineref05_Right.f k a0_0 a0_1).bind fun t181 => (if t181 = true then (if a0_0 = 192 then (vitrineref05_Apply.j0 k a1_1 a0_0 a0_1 a1_0 a1_1 a1_2 a1_3 a1_4 a1_5) else (vitrineref05_Apply.j0 k false a0_0 a0_1 a1_0 a1_1 a1_2 a1_3 a1_4 a1_5)) else (some (0, false, 0, 0, 0, 0, 10)))) = some (r1, r2, r3, r4, r5, r6, r7) := h
  clear h
  replace H := Option.bind_eq_some_iff.mp H
  obtain ⟨t181, A30, H⟩ := H
  replace H : (if t181 = true then (if a0_0 = 192 then (vitrineref05_Apply.j0 k a1_1 a0_0 a0_1 a1_0 a1_1 a1_2 a1_3 a1_4 a1_5) else (vitrineref05_Apply.j0 k false a0_0 a0_1 a1_0 a1_1 a1_2 a1_3 a1_4 a1_5)) else (some (0, false, 0, 0, 0, 0, 10))) = some (r1, r2, r3, r4, r5, r6, r7) := H
  have A3 := Aside0.mk A30
  clear A30
  by_cases c4 : t181 = true
  · subst c4
    have H1 : (if a0_0 = 192 then (vitrineref05_Apply.j0 k a1_1 a0_0 a0_1 a1_0 a1_1 a1_2 a1_3 a1_4 a1_5) else (vitrineref05_Apply.j0 k false a0_0 a0_1 a1_0 a1_1 a1_2 a1_3 a1_4 a1_5)) = some (r1, r2, r3, r4, r5, r6, r7) := by rw [if_pos rfl] at H; exact H
    clear H
    have H := H1
    clear H1
    have HC5 := Aside0.mk H
    clear H
    go_enter Try.func19, Try.ntmps19
    go_upto_region 4 with (first | ((with_reducible refine gate_dst (N := 2) rfl ?_); refine box_event ?hg (N := 2) ?hd (cs := #[.int .u8 a0_0, .int .u8 a0_1]) (t := 36) ?hr ?_; (case hd => rfl); (case hg => rfl); (case hr => first | (go_simp; done) | (go_simp; rfl)); intro gb178 hg w6 hbox hb; have n0_ := Aside0.mk (below_step (by repeat (first | (with_reducible first | exact HB.out | apply below_alloc | apply pw_below_drewN | apply below_drew1) | exact HB.out)) hb); have n1_ := Aside0.mk (hbox); have n2_ := Aside0.mk ((by rw [hg]; exact (below_size (by repeat (first | (with_reducible first | exact HB.out | apply below_alloc | apply pw_below_drewN | apply below_drew1) | exact HB.out))) : w.heap.size ≤ gb178)); have n3_ := Aside0.mk ((by rw [hg]; exact (below_size (by repeat (first | (with_reducible first | exact HB.out | apply below_alloc | apply pw_below_drewN | apply below_drew1) | exact HB.out))) : w.heap.size ≤ gb178)); clear HB; have HB := n0_; have BK178 := n1_; have GW178 := n2_; have GE178 := n3_; clear n0_ n1_ n2_ n3_; clear hb hbox hg) | ((with_reducible refine gate_dst (N := 3) rfl ?_); refine box_event ?hg (N := 3) ?hd (cs := #[.int .u8 a1_0, .bool a1_1, .int .u8 a1_2, .int .u8 a1_3, .int .u8 a1_4, .int .u8 a1_5]) (t := 38) ?hr ?_; (case hd => rfl); (case hg => rfl); (case hr => first | (go_simp; done) | (go_simp; rfl)); intro gb179 hg w7 hbox hb; have n0_ := Aside0.mk (blk_below (g := gb178) (o := .cells #[.int .u8 a0_0, .int .u8 a0_1] 36 (0, 0)) (by (with_reducible repeat (first | refine blk_drewN ?_ _ | refine blk_drew ?_ | refine blk_alloc ?_ _)); exact BK178.out) hb); have n1_ := Aside0.mk (below_step (by repeat (first | (with_reducible first | exact HB.out | apply below_alloc | apply pw_below_drewN | apply below_drew1 | refine below_set ?_ GE178.out) | exact HB.out)) hb); have n2_ := Aside0.mk (hbox); have n3_ := Aside0.mk ((by rw [hg]; exact (below_size (by repeat (first | (with_reducible first | exact HB.out | apply below_alloc | apply pw_below_drewN | apply below_drew1 | refine below_set ?_ GE178.out) | exact HB.out))) : w.heap.size ≤ gb179)); have n4_ := Aside0.mk ((by rw [hg]; exact (below_size (by repeat (first | (with_reducible first | exact HB.out | apply below_alloc | apply pw_below_drewN | apply below_drew1 | refine below_set ?_ GE178.out) | exact HB.out))) : w.heap.size ≤ gb179)); have n5_ := Aside0.mk ((by rw [hg]; exact Nat.ne_of_lt (blk_lt (g := gb178) (o := .cells #[.int .u8 a0_0, .int .u8 a0_1] 36 (0, 0)) (by (with_reducible repeat (first | refine blk_drewN ?_ _ | refine blk_drew ?_ | refine blk_alloc ?_ _)); exact BK178.out)) : gb178 ≠ gb179)); have n6_ := Aside0.mk ((by rw [hg]; exact Nat.ne_of_gt (blk_lt (g := gb178) (o := .cells #[.int .u8 a0_0, .int .u8 a0_1] 36 (0, 0)) (by (with_reducible repeat (first | refine blk_drewN ?_ _ | refine blk_drew ?_ | refine blk_alloc ?_ _)); exact BK178.out)) : gb179 ≠ gb178)); clear BK178; clear HB; have BK178 := n0_; have HB := n1_; have BK179 := n2_; have GW179 := n3_; have GE179 := n4_; have NB178_179 := n5_; have NB179_178 := n6_; clear n0_ n1_ n2_ n3_ n4_ n5_ n6_; clear hb hbox hg) | ((with_reducible refine gate_dst (N := 4) rfl ?_); refine box_event ?hg (N := 4) ?hd (cs := #[.int .u8 0, .bool false, .int .u8 0, .int .u8 0, .int .u8 0, .int .u8 0]) (t := 38) ?hr ?_; (case hd => rfl); (case hg => rfl); (case hr => first | (go_simp; done) | (go_simp; rfl)); intro gb180 hg w8 hbox hb; have n0_ := Aside0.mk (blk_below (g := gb178) (o := .cells #[.int .u8 a0_0, .int .u8 a0_1] 36 (0, 0)) (by (with_reducible repeat (first | refine blk_drewN ?_ _ | refine blk_drew ?_ | refine blk_alloc ?_ _)); exact BK178.out) hb); have n1_ := Aside0.mk (blk_below (g := gb179) (o := .cells #[.int .u8 a1_0, .bool a1_1, .int .u8 a1_2, .int .u8 a1_3, .int .u8 a1_4, .int .u8 a1_5] 38 (0, 0)) (by (with_reducible repeat (first | refine blk_drewN ?_ _ | refine blk_drew ?_ | refine blk_alloc ?_ _)); exact BK179.out) hb); have n2_ := Aside0.mk (below_step (by repeat (first | (with_reducible first | exact HB.out | apply below_alloc | apply pw_below_drewN | apply below_drew1 | refine below_set ?_ GE178.out | refine below_set ?_ GE179.out) | exact HB.out)) hb); have n3_ := Aside0.mk (hbox); have n4_ := Aside0.mk ((by rw [hg]; exact (below_size (by repeat (first | (with_reducible first | exact HB.out | apply below_alloc | apply pw_below_drewN | apply below_drew1 | refine below_set ?_ GE178.out | refine below_set ?_ GE179.out) | exact HB.out))) : w.heap.size ≤ gb180)); have n5_ := Aside0.mk ((by rw [hg]; exact (below_size (by repeat (first | (with_reducible first | exact HB.out | apply below_alloc | apply pw_below_drewN | apply below_drew1 | refine below_set ?_ GE178.out | refine below_set ?_ GE179.out) | exact HB.out))) : w.heap.size ≤ gb180)); have n6_ := Aside0.mk ((by rw [hg]; exact Nat.ne_of_lt (blk_lt (g := gb178) (o := .cells #[.int .u8 a0_0, .int .u8 a0_1] 36 (0, 0)) (by (with_reducible repeat (first | refine blk_drewN ?_ _ | refine blk_drew ?_ | refine blk_alloc ?_ _)); exact BK178.out)) : gb178 ≠ gb180)); have n7_ := Aside0.mk ((by rw [hg]; exact Nat.ne_of_gt (blk_lt (g := gb178) (o := .cells #[.int .u8 a0_0, .int .u8 a0_1] 36 (0, 0)) (by (with_reducible repeat (first | refine blk_drewN ?_ _ | refine blk_drew ?_ | refine blk_alloc ?_ _)); exact BK178.out)) : gb180 ≠ gb178)); have n8_ := Aside0.mk ((by rw [hg]; exact Nat.ne_of_lt (blk_lt (g := gb179) (o := .cells #[.int .u8 a1_0, .bool a1_1, .int .u8 a1_2, .int .u8 a1_3, .int .u8 a1_4, .int .u8 a1_5] 38 (0, 0)) (by (with_reducible repeat (first | refine blk_drewN ?_ _ | refine blk_drew ?_ | refine blk_alloc ?_ _)); exact BK179.out)) : gb179 ≠ gb180)); have n9_ := Aside0.mk ((by rw [hg]; exact Nat.ne_of_gt (blk_lt (g := gb179) (o := .cells #[.int .u8 a1_0, .bool a1_1, .int .u8 a1_2, .int .u8 a1_3, .int .u8 a1_4, .int .u8 a1_5] 38 (0, 0)) (by (with_reducible repeat (first | refine blk_drewN ?_ _ | refine blk_drew ?_ | refine blk_alloc ?_ _)); exact BK179.out)) : gb180 ≠ gb179)); clear BK178; clear BK179; clear HB; have BK178 := n0_; have BK179 := n1_; have HB := n2_; have BK180 := n3_; have GW180 := n4_; have GE180 := n5_; have NB178_180 := n6_; have NB180_178 := n7_; have NB179_180 := n8_; have NB180_179 := n9_; clear n0_ n1_ n2_ n3_ n4_ n5_ n6_ n7_ n8_ n9_; clear hb hbox hg; have hnb9 := NB178_179.out; have hnc9 := NB179_178.out; have hnb10 := NB178_180.out; have hnc10 := NB180_178.out; have hcz11_0 : w8.cell? ⟨gb178, 0, none⟩ = some (.int .u8 a0_0) := (blk_cell BK178.out 0).trans rfl; have hcz11_1 : w8.cell? ⟨gb178, 1, none⟩ = some (.int .u8 a0_1) := (blk_cell BK178.out 1).trans rfl; have hfz11_0 := blk_frozen BK178.out 0; have hfz11_1 := blk_frozen BK178.out 1) | ((with_reducible refine gate_callee (f := 21) rfl ?_); refine goesL_ (some 8) rfl rfl Try.func21 (by kernel_rfl) rfl #[.agg #[.int .u8 a0_0, .int .u8 a0_1]] rfl (by (try simp only [List.map_toArray, List.map_cons, List.map_nil]); first | done | rfl | (simp only [List.length_drop, List.length_take]; rfl)) ?_; (with_reducible refine (vitrineref05_Right.calls k a0_0 a0_1 true _ A3.out).mono ?_); rintro e w12 ⟨rfl, hb⟩; refine ⟨_, rfl, ?_⟩; have n0_ := Aside0.mk (blk_below (g := gb178) (o := .cells #[.int .u8 a0_0, .int .u8 a0_1] 36 (0, 0)) (by (with_reducible repeat (first | refine blk_drewN ?_ _ | refine blk_drew ?_ | refine blk_alloc ?_ _)); exact BK178.out) hb); have n1_ := Aside0.mk (blk_below (g := gb179) (o := .cells #[.int .u8 a1_0, .bool a1_1, .int .u8 a1_2, .int .u8 a1_3, .int .u8 a1_4, .int .u8 a1_5] 38 (0, 0)) (by (with_reducible repeat (first | refine blk_drewN ?_ _ | refine blk_drew ?_ | refine blk_alloc ?_ _)); exact BK179.out) hb); have n2_ := Aside0.mk (blk_below (g := gb180) (o := .cells #[.int .u8 0, .bool false, .int .u8 0, .int .u8 0, .int .u8 0, .int .u8 0] 38 (0, 0)) (by (with_reducible repeat (first | refine blk_drewN ?_ _ | refine blk_drew ?_ | refine blk_alloc ?_ _)); exact BK180.out) hb); have n3_ := Aside0.mk (below_step (by repeat (first | (with_reducible first | exact HB.out | apply below_alloc | apply pw_below_drewN | apply below_drew1 | refine below_set ?_ GE178.out | refine below_set ?_ GE179.out | refine below_set ?_ GE180.out) | exact HB.out)) hb); clear BK178; clear BK179; clear BK180; clear HB; have BK178 := n0_; have BK179 := n1_; have BK180 := n2_; have HB := n3_; clear n0_ n1_ n2_ n3_; (try clear hb); (try clear hb2); (try clear hk); (try clear hi); have hnb13 := NB179_180.out; have hnc13 := NB180_179.out; have hcz14_0 : w12.cell? ⟨gb179, 0, none⟩ = some (.int .u8 a1_0) := (blk_cell BK179.out 0).trans rfl; have hcz14_1 : w12.cell? ⟨gb179, 1, none⟩ = some (.bool a1_1) := (blk_cell BK179.out 1).trans rfl; have hcz14_2 : w12.cell? ⟨gb179, 2, none⟩ = some (.int .u8 a1_2) := (blk_cell BK179.out 2).trans rfl; have hcz14_3 : w12.cell? ⟨gb179, 3, none⟩ = some (.int .u8 a1_3) := (blk_cell BK179.out 3).trans rfl; have hcz14_4 : w12.cell? ⟨gb179, 4, none⟩ = some (.int .u8 a1_4) := (blk_cell BK179.out 4).trans rfl; have hcz14_5 : w12.cell? ⟨gb179, 5, none⟩ = some (.int .u8 a1_5) := (blk_cell BK179.out 5).trans rfl; have hfz14_0 := blk_frozen BK179.out 0; have hfz14_1 := blk_frozen BK179.out 1; have hfz14_2 := blk_frozen BK179.out 2; have hfz14_3 := blk_frozen BK179.out 3; have hfz14_4 := blk_frozen BK179.out 4; have hfz14_5 := blk_frozen BK179.out 5) | ((with_reducible refine gate_dst (N := 6) rfl ?_); refine box_event ?hg (N := 6) ?hd (cs := #[.int .u8 0, .bool false, .int .u8 0, .int .u8 0, .int .u8 0, .int .u8 0]) (t := 38) ?hr ?_; (case hd => rfl); (case hg => rfl); (case hr => first | (go_simp; done) | (go_simp; rfl)); intro gb182 hg w15 hbox hb; have n0_ := Aside0.mk (blk_below (g := gb178) (o := .cells #[.int .u8 a0_0, .int .u8 a0_1] 36 (0, 0)) (by (with_reducible repeat (first | refine blk_drewN ?_ _ | refine blk_drew ?_ | refine blk_alloc ?_ _)); exact BK178.out) hb); have n1_ := Aside0.mk (blk_below (g := gb179) (o := .cells #[.int .u8 a1_0, .bool a1_1, .int .u8 a1_2, .int .u8 a1_3, .int .u8 a1_4, .int .u8 a1_5] 38 (0, 0)) (by (with_reducible repeat (first | refine blk_drewN ?_ _ | refine blk_drew ?_ | refine blk_alloc ?_ _)); exact BK179.out) hb); have n2_ := Aside0.mk (blk_below (g := gb180) (o := .cells #[.int .u8 0, .bool false, .int .u8 0, .int .u8 0, .int .u8 0, .int .u8 0] 38 (0, 0)) (by (with_reducible repeat (first | refine blk_drewN ?_ _ | refine blk_drew ?_ | refine blk_alloc ?_ _)); exact BK180.out) hb); have n3_ := Aside0.mk (below_step (by repeat (first | (with_reducible first | exact HB.out | apply below_alloc | apply pw_below_drewN | apply below_drew1 | refine below_set ?_ GE178.out | refine below_set ?_ GE179.out | refine below_set ?_ GE180.out) | exact HB.out)) hb); have n4_ := Aside0.mk (hbox); have n5_ := Aside0.mk ((by rw [hg]; exact (below_size (by repeat (first | (with_reducible first | exact HB.out | apply below_alloc | apply pw_below_drewN | apply below_drew1 | refine below_set ?_ GE178.out | refine below_set ?_ GE179.out | refine below_set ?_ GE180.out) | exact HB.out))) : w.heap.size ≤ gb182)); have n6_ := Aside0.mk ((by rw [hg]; exact (below_size (by repeat (first | (with_reducible first | exact HB.out | apply below_alloc | apply pw_below_drewN | apply below_drew1 | refine below_set ?_ GE178.out | refine below_set ?_ GE179.out | refine below_set ?_ GE180.out) | exact HB.out))) : w.heap.size ≤ gb182)); have n7_ := Aside0.mk ((by rw [hg]; exact Nat.ne_of_lt (blk_lt (g := gb178) (o := .cells #[.int .u8 a0_0, .int .u8 a0_1] 36 (0, 0)) (by (with_reducible repeat (first | refine blk_drewN ?_ _ | refine blk_drew ?_ | refine blk_alloc ?_ _)); exact BK178.out)) : gb178 ≠ gb182)); have n8_ := Aside0.mk ((by rw [hg]; exact Nat.ne_of_gt (blk_lt (g := gb178) (o := .cells #[.int .u8 a0_0, .int .u8 a0_1] 36 (0, 0)) (by (with_reducible repeat (first | refine blk_drewN ?_ _ | refine blk_drew ?_ | refine blk_alloc ?_ _)); exact BK178.out)) : gb182 ≠ gb178)); have n9_ := Aside0.mk ((by rw [hg]; exact Nat.ne_of_lt (blk_lt (g := gb179) (o := .cells #[.int .u8 a1_0, .bool a1_1, .int .u8 a1_2, .int .u8 a1_3, .int .u8 a1_4, .int .u8 a1_5] 38 (0, 0)) (by (with_reducible repeat (first | refine blk_drewN ?_ _ | refine blk_drew ?_ | refine blk_alloc ?_ _)); exact BK179.out)) : gb179 ≠ gb182)); have n10_ := Aside0.mk ((by rw [hg]; exact Nat.ne_of_gt (blk_lt (g := gb179) (o := .cells #[.int .u8 a1_0, .bool a1_1, .int .u8 a1_2, .int .u8 a1_3, .int .u8 a1_4, .int .u8 a1_5] 38 (0, 0)) (by (with_reducible repeat (first | refine blk_drewN ?_ _ | refine blk_drew ?_ | refine blk_alloc ?_ _)); exact BK179.out)) : gb182 ≠ gb179)); have n11_ := Aside0.mk ((by rw [hg]; exact Nat.ne_of_lt (blk_lt (g := gb180) (o := .cells #[.int .u8 0, .bool false, .int .u8 0, .int .u8 0, .int .u8 0, .int .u8 0] 38 (0, 0)) (by (with_reducible repeat (first | refine blk_drewN ?_ _ | refine blk_drew ?_ | refine blk_alloc ?_ _)); exact BK180.out)) : gb180 ≠ gb182)); have n12_ := Aside0.mk ((by rw [hg]; exact Nat.ne_of_gt (blk_lt (g := gb180) (o := .cells #[.int .u8 0, .bool false, .int .u8 0, .int .u8 0, .int .u8 0, .int .u8 0] 38 (0, 0)) (by (with_reducible repeat (first | refine blk_drewN ?_ _ | refine blk_drew ?_ | refine blk_alloc ?_ _)); exact BK180.out)) : gb182 ≠ gb180)); clear BK178; clear BK179; clear BK180; clear HB; have BK178 := n0_; have BK179 := n1_; have BK180 := n2_; have HB := n3_; have BK182 := n4_; have GW182 := n5_; have GE182 := n6_; have NB178_182 := n7_; have NB182_178 := n8_; have NB179_182 := n9_; have NB182_179 := n10_; have NB180_182 := n11_; have NB182_180 := n12_; clear n0_ n1_ n2_ n3_ n4_ n5_ n6_ n7_ n8_ n9_ n10_ n11_ n12_; clear hb hbox hg; have hnb16 := NB182_178.out; have hnc16 := NB178_182.out; have hnb17 := NB182_179.out; have hnc17 := NB179_182.out; have hnb18 := NB182_180.out; have hnc18 := NB180_182.out; have hcz19_0 : w15.cell? ⟨gb182, 0, none⟩ = some (.int .u8 0) := (blk_cell BK182.out 0).trans rfl; have hcz19_1 : w15.cell? ⟨gb182, 1, none⟩ = some (.bool false) := (blk_cell BK182.out 1).trans rfl; have hcz19_2 : w15.cell? ⟨gb182, 2, none⟩ = some (.int .u8 0) := (blk_cell BK182.out 2).trans rfl; have hcz19_3 : w15.cell? ⟨gb182, 3, none⟩ = some (.int .u8 0) := (blk_cell BK182.out 3).trans rfl; have hcz19_4 : w15.cell? ⟨gb182, 4, none⟩ = some (.int .u8 0) := (blk_cell BK182.out 4).trans rfl; have hcz19_5 : w15.cell? ⟨gb182, 5, none⟩ = some (.int .u8 0) := (blk_cell BK182.out 5).trans rfl; have hfz19_0 := blk_frozen BK182.out 0; have hfz19_1 := blk_frozen BK182.out 1; have hfz19_2 := blk_frozen BK182.out 2; have hfz19_3 := blk_frozen BK182.out 3; have hfz19_4 := blk_frozen BK182.out 4; have hfz19_5 := blk_frozen BK182.out 5))
    (try simp only [Act.put, List.setIfInBounds_toArray, List.set_cons_zero, List.set_cons_succ])
    go_cut [18] (fun v18 wc => ∃ (kq : Nat) (x18_4 : Bool), v18 = .bool x18_4 ∧ Aside0 (vitrineref05_Apply.j0 kq x18_4 a0_0 a0_1 a1_0 a1_1 a1_2 a1_3 a1_4 a1_5 = some (r1, r2, r3, r4, r5, r6, r7)) ∧ Aside0 (kq ≤ k) ∧ Aside0 (wc.heap[gb178]? = some (.cells #[.int .u8 a0_0, .int .u8 a0_1] 36 (0, 0))) ∧ Aside0 (wc.heap[gb179]? = some (.cells #[.int .u8 a1_0, .bool a1_1, .int .u8 a1_2, .int .u8 a1_3, .int .u8 a1_4, .int .u8 a1_5] 38 (0, 0))) ∧ Aside0 (wc.heap[gb180]? = some (.cells #[.int .u8 0, .bool false, .int .u8 0, .int .u8 0, .int .u8 0, .int .u8 0] 38 (0, 0))) ∧ Aside0 (wc.heap[gb182]? = some (.cells #[.int .u8 a1_0, .bool a1_1, .int .u8 a1_2, .int .u8 a1_3, .int .u8 a1_4, .int .u8 a1_5] 38 (0, 0))) ∧ Aside0 (Below w.heap.size w wc))
    case first =>
      have H := HC5.out
      clear HC5
      by_cases c20 : a0_0 = 192
      · rw [if_pos c20] at H
        have c20b0 : (a0_0 == 192) = true := beq_iff_eq.mpr c20
        have c20b1 : (a0_0 != 192) = false := bne_eq_false_iff_eq.mpr c20
        clear c20
        (first | rw [c20b0] | (simp only [i64_w, i32_w]; rw [c20b0]) | skip)
        have H' := Aside0.mk H
        clear H
        have hnb21 := NB178_179.out
        have hnc21 := NB179_178.out
        have hnb22 := NB178_180.out
        have hnc22 := NB180_178.out
        have hnb23 := NB178_182.out
        have hnc23 := NB182_178.out
        have hcz24_0 : w15.cell? ⟨gb178, 0, none⟩ = some (.int .u8 a0_0) := (blk_cell BK178.out 0).trans rfl
        have hcz24_1 : w15.cell? ⟨gb178, 1, none⟩ = some (.int .u8 a0_1) := (blk_cell BK178.out 1).trans rfl
        have hfz24_0 := blk_frozen BK178.out 0
        have hfz24_1 := blk_frozen BK178.out 1
        have hnb25 := NB179_180.out
        have hnc25 := NB180_179.out
        have hnb26 := NB179_182.out
        have hnc26 := NB182_179.out
        have hcz27_0 : w15.cell? ⟨gb179, 0, none⟩ = some (.int .u8 a1_0) := (blk_cell BK179.out 0).trans rfl
        have hcz27_1 : w15.cell? ⟨gb179, 1, none⟩ = some (.bool a1_1) := (blk_cell BK179.out 1).trans rfl
        have hcz27_2 : w15.cell? ⟨gb179, 2, none⟩ = some (.int .u8 a1_2) := (blk_cell BK179.out 2).trans rfl
        have hcz27_3 : w15.cell? ⟨gb179, 3, none⟩ = some (.int .u8 a1_3) := (blk_cell BK179.out 3).trans rfl
        have hcz27_4 : w15.cell? ⟨gb179, 4, none⟩ = some (.int .u8 a1_4) := (blk_cell BK179.out 4).trans rfl
        have hcz27_5 : w15.cell? ⟨gb179, 5, none⟩ = some (.int .u8 a1_5) := (blk_cell BK179.out 5).trans rfl
        have hfz27_0 := blk_frozen BK179.out 0
        have hfz27_1 := blk_frozen BK179.out 1
        have hfz27_2 := blk_frozen BK179.out 2
        have hfz27_3 := blk_frozen BK179.out 3
        have hfz27_4 := blk_frozen BK179.out 4
        have hfz27_5 := blk_frozen BK179.out 5
        go_wp2
        go_meet
        case rel => exact ⟨_, (a1_1), (by first | rfl | (simp; done) | (simp [*]; done)), H', ⟨by first | omega | exact Nat.le_refl _⟩, ⟨by (with_reducible repeat (first | refine blk_drewN ?_ _ | refine blk_drew ?_ | refine blk_alloc ?_ _)); refine blk_far ?_ NB178_182.out _; (with_reducible repeat (first | refine blk_drewN ?_ _ | refine blk_drew ?_ | refine blk_alloc ?_ _)); refine blk_far ?_ NB178_182.out _; (with_reducible repeat (first | refine blk_drewN ?_ _ | refine blk_drew ?_ | refine blk_alloc ?_ _)); refine blk_far ?_ NB178_182.out _; (with_reducible repeat (first | refine blk_drewN ?_ _ | refine blk_drew ?_ | refine blk_alloc ?_ _)); refine blk_far ?_ NB178_182.out _; (with_reducible repeat (first | refine blk_drewN ?_ _ | refine blk_drew ?_ | refine blk_alloc ?_ _)); refine blk_far ?_ NB178_182.out _; (with_reducible repeat (first | refine blk_drewN ?_ _ | refine blk_drew ?_ | refine blk_alloc ?_ _)); refine blk_far ?_ NB178_182.out _; (with_reducible repeat (first | refine blk_drewN ?_ _ | refine blk_drew ?_ | refine blk_alloc ?_ _)); exact BK178.out⟩, ⟨by (with_reducible repeat (first | refine blk_drewN ?_ _ | refine blk_drew ?_ | refine blk_alloc ?_ _)); refine blk_far ?_ NB179_182.out _; (with_reducible repeat (first | refine blk_drewN ?_ _ | refine blk_drew ?_ | refine blk_alloc ?_ _)); refine blk_far ?_ NB179_182.out _; (with_reducible repeat (first | refine blk_drewN ?_ _ | refine blk_drew ?_ | refine blk_alloc ?_ _)); refine blk_far ?_ NB179_182.out _; (with_reducible repeat (first | refine blk_drewN ?_ _ | refine blk_drew ?_ | refine blk_alloc ?_ _)); refine blk_far ?_ NB179_182.out _; (with_reducible repeat (first | refine blk_drewN ?_ _ | refine blk_drew ?_ | refine blk_alloc ?_ _)); refine blk_far ?_ NB179_182.out _; (with_reducible repeat (first | refine blk_drewN ?_ _ | refine blk_drew ?_ | refine blk_alloc ?_ _)); refine blk_far ?_ NB179_182.out _; (with_reducible repeat (first | refine blk_drewN ?_ _ | refine blk_drew ?_ | refine blk_alloc ?_ _)); exact BK179.out⟩, ⟨by (with_reducible repeat (first | refine blk_drewN ?_ _ | refine blk_drew ?_ | refine blk_alloc ?_ _)); refine blk_far ?_ NB180_182.out _; (with_reducible repeat (first | refine blk_drewN ?_ _ | refine blk_drew ?_ | refine blk_alloc ?_ _)); refine blk_far ?_ NB180_182.out _; (with_reducible repeat (first | refine blk_drewN ?_ _ | refine blk_drew ?_ | refine blk_alloc ?_ _)); refine blk_far ?_ NB180_182.out _; (with_reducible repeat (first | refine blk_drewN ?_ _ | refine blk_drew ?_ | refine blk_alloc ?_ _)); refine blk_far ?_ NB180_182.out _; (with_reducible repeat (first | refine blk_drewN ?_ _ | refine blk_drew ?_ | refine blk_alloc ?_ _)); refine blk_far ?_ NB180_182.out _; (with_reducible repeat (first | refine blk_drewN ?_ _ | refine blk_drew ?_ | refine blk_alloc ?_ _)); refine blk_far ?_ NB180_182.out _; (with_reducible repeat (first | refine blk_drewN ?_ _ | refine blk_drew ?_ | refine blk_alloc ?_ _)); exact BK180.out⟩, ⟨by (with_reducible repeat (first | refine blk_drewN ?_ _ | refine blk_drew ?_ | refine blk_alloc ?_ _)); refine blk_put (cs := #[.int .u8 a1_0, .bool a1_1, .int .u8 a1_2, .int .u8 a1_3, .int .u8 a1_4, .int .u8 0]) ?_ 5 _ rfl; (with_reducible repeat (first | refine blk_drewN ?_ _ | refine blk_drew ?_ | refine blk_alloc ?_ _)); refine blk_put (cs := #[.int .u8 a1_0, .bool a1_1, .int .u8 a1_2, .int .u8 a1_3, .int .u8 0, .int .u8 0]) ?_ 4 _ rfl; (with_reducible repeat (first | refine blk_drewN ?_ _ | refine blk_drew ?_ | refine blk_alloc ?_ _)); refine blk_put (cs := #[.int .u8 a1_0, .bool a1_1, .int .u8 a1_2, .int .u8 0, .int .u8 0, .int .u8 0]) ?_ 3 _ rfl; (with_reducible repeat (first | refine blk_drewN ?_ _ | refine blk_drew ?_ | refine blk_alloc ?_ _)); refine blk_put (cs := #[.int .u8 a1_0, .bool a1_1, .int .u8 0, .int .u8 0, .int .u8 0, .int .u8 0]) ?_ 2 _ rfl; (with_reducible repeat (first | refine blk_drewN ?_ _ | refine blk_drew ?_ | refine blk_alloc ?_ _)); refine blk_put (cs := #[.int .u8 a1_0, .bool false, .int .u8 0, .int .u8 0, .int .u8 0, .int .u8 0]) ?_ 1 _ rfl; (with_reducible repeat (first | refine blk_drewN ?_ _ | refine blk_drew ?_ | refine blk_alloc ?_ _)); refine blk_put (cs := #[.int .u8 0, .bool false, .int .u8 0, .int .u8 0, .int .u8 0, .int .u8 0]) ?_ 0 _ rfl; (with_reducible repeat (first | refine blk_drewN ?_ _ | refine blk_drew ?_ | refine blk_alloc ?_ _)); exact BK182.out⟩, ⟨by repeat (first | (with_reducible first | exact HB.out | apply below_alloc | apply pw_below_drewN | apply below_drew1 | refine below_set ?_ GE178.out | refine below_set ?_ GE179.out | refine below_set ?_ GE180.out | refine below_set ?_ GE182.out) | exact HB.out)⟩⟩
      · rw [if_neg c20] at H
        have c20b0 : (a0_0 == 192) = false := beq_eq_false_iff_ne.mpr c20
        have c20b1 : (a0_0 != 192) = true := bne_iff_ne.mpr c20
        (first | rw [c20b0] | (simp only [i64_w, i32_w]; rw [c20b0]) | skip)
        have H' := Aside0.mk H
        clear H
        have hnb28 := NB178_179.out
        have hnc28 := NB179_178.out
        have hnb29 := NB178_180.out
        have hnc29 := NB180_178.out
        have hnb30 := NB178_182.out
        have hnc30 := NB182_178.out
        have hcz31_0 : w15.cell? ⟨gb178, 0, none⟩ = some (.int .u8 a0_0) := (blk_cell BK178.out 0).trans rfl
        have hcz31_1 : w15.cell? ⟨gb178, 1, none⟩ = some (.int .u8 a0_1) := (blk_cell BK178.out 1).trans rfl
        have hfz31_0 := blk_frozen BK178.out 0
        have hfz31_1 := blk_frozen BK178.out 1
        go_wp2
        go_meet
        case rel => exact ⟨_, (false), (by first | rfl | (simp; done) | (simp [*]; done)), H', ⟨by first | omega | exact Nat.le_refl _⟩, ⟨by (with_reducible repeat (first | refine blk_drewN ?_ _ | refine blk_drew ?_ | refine blk_alloc ?_ _)); refine blk_far ?_ NB178_182.out _; (with_reducible repeat (first | refine blk_drewN ?_ _ | refine blk_drew ?_ | refine blk_alloc ?_ _)); refine blk_far ?_ NB178_182.out _; (with_reducible repeat (first | refine blk_drewN ?_ _ | refine blk_drew ?_ | refine blk_alloc ?_ _)); refine blk_far ?_ NB178_182.out _; (with_reducible repeat (first | refine blk_drewN ?_ _ | refine blk_drew ?_ | refine blk_alloc ?_ _)); refine blk_far ?_ NB178_182.out _; (with_reducible repeat (first | refine blk_drewN ?_ _ | refine blk_drew ?_ | refine blk_alloc ?_ _)); refine blk_far ?_ NB178_182.out _; (with_reducible repeat (first | refine blk_drewN ?_ _ | refine blk_drew ?_ | refine blk_alloc ?_ _)); refine blk_far ?_ NB178_182.out _; (with_reducible repeat (first | refine blk_drewN ?_ _ | refine blk_drew ?_ | refine blk_alloc ?_ _)); exact BK178.out⟩, ⟨by (with_reducible repeat (first | refine blk_drewN ?_ _ | refine blk_drew ?_ | refine blk_alloc ?_ _)); refine blk_far ?_ NB179_182.out _; (with_reducible repeat (first | refine blk_drewN ?_ _ | refine blk_drew ?_ | refine blk_alloc ?_ _)); refine blk_far ?_ NB179_182.out _; (with_reducible repeat (first | refine blk_drewN ?_ _ | refine blk_drew ?_ | refine blk_alloc ?_ _)); refine blk_far ?_ NB179_182.out _; (with_reducible repeat (first | refine blk_drewN ?_ _ | refine blk_drew ?_ | refine blk_alloc ?_ _)); refine blk_far ?_ NB179_182.out _; (with_reducible repeat (first | refine blk_drewN ?_ _ | refine blk_drew ?_ | refine blk_alloc ?_ _)); refine blk_far ?_ NB179_182.out _; (with_reducible repeat (first | refine blk_drewN ?_ _ | refine blk_drew ?_ | refine blk_alloc ?_ _)); refine blk_far ?_ NB179_182.out _; (with_reducible repeat (first | refine blk_drewN ?_ _ | refine blk_drew ?_ | refine blk_alloc ?_ _)); exact BK179.out⟩, ⟨by (with_reducible repeat (first | refine blk_drewN ?_ _ | refine blk_drew ?_ | refine blk_alloc ?_ _)); refine blk_far ?_ NB180_182.out _; (with_reducible repeat (first | refine blk_drewN ?_ _ | refine blk_drew ?_ | refine blk_alloc ?_ _)); refine blk_far ?_ NB180_182.out _; (with_reducible repeat (first | refine blk_drewN ?_ _ | refine blk_drew ?_ | refine blk_alloc ?_ _)); refine blk_far ?_ NB180_182.out _; (with_reducible repeat (first | refine blk_drewN ?_ _ | refine blk_drew ?_ | refine blk_alloc ?_ _)); refine blk_far ?_ NB180_182.out _; (with_reducible repeat (first | refine blk_drewN ?_ _ | refine blk_drew ?_ | refine blk_alloc ?_ _)); refine blk_far ?_ NB180_182.out _; (with_reducible repeat (first | refine blk_drewN ?_ _ | refine blk_drew ?_ | refine blk_alloc ?_ _)); refine blk_far ?_ NB180_182.out _; (with_reducible repeat (first | refine blk_drewN ?_ _ | refine blk_drew ?_ | refine blk_alloc ?_ _)); exact BK180.out⟩, ⟨by (with_reducible repeat (first | refine blk_drewN ?_ _ | refine blk_drew ?_ | refine blk_alloc ?_ _)); refine blk_put (cs := #[.int .u8 a1_0, .bool a1_1, .int .u8 a1_2, .int .u8 a1_3, .int .u8 a1_4, .int .u8 0]) ?_ 5 _ rfl; (with_reducible repeat (first | refine blk_drewN ?_ _ | refine blk_drew ?_ | refine blk_alloc ?_ _)); refine blk_put (cs := #[.int .u8 a1_0, .bool a1_1, .int .u8 a1_2, .int .u8 a1_3, .int .u8 0, .int .u8 0]) ?_ 4 _ rfl; (with_reducible repeat (first | refine blk_drewN ?_ _ | refine blk_drew ?_ | refine blk_alloc ?_ _)); refine blk_put (cs := #[.int .u8 a1_0, .bool a1_1, .int .u8 a1_2, .int .u8 0, .int .u8 0, .int .u8 0]) ?_ 3 _ rfl; (with_reducible repeat (first | refine blk_drewN ?_ _ | refine blk_drew ?_ | refine blk_alloc ?_ _)); refine blk_put (cs := #[.int .u8 a1_0, .bool a1_1, .int .u8 0, .int .u8 0, .int .u8 0, .int .u8 0]) ?_ 2 _ rfl; (with_reducible repeat (first | refine blk_drewN ?_ _ | refine blk_drew ?_ | refine blk_alloc ?_ _)); refine blk_put (cs := #[.int .u8 a1_0, .bool false, .int .u8 0, .int .u8 0, .int .u8 0, .int .u8 0]) ?_ 1 _ rfl; (with_reducible repeat (first | refine blk_drewN ?_ _ | refine blk_drew ?_ | refine blk_alloc ?_ _)); refine blk_put (cs := #[.int .u8 0, .bool false, .int .u8 0, .int .u8 0, .int .u8 0, .int .u8 0]) ?_ 0 _ rfl; (with_reducible repeat (first | refine blk_drewN ?_ _ | refine blk_drew ?_ | refine blk_alloc ?_ _)); exact BK182.out⟩, ⟨by repeat (first | (with_reducible first | exact HB.out | apply below_alloc | apply pw_below_drewN | apply below_drew1 | refine below_set ?_ GE178.out | refine below_set ?_ GE179.out | refine below_set ?_ GE180.out | refine below_set ?_ GE182.out) | exact HB.out)⟩⟩
    case rest =>
      clear HC5
      try clear c1
      try clear c2
      try clear p2
      try clear c3
      try clear c4
      try clear c9
      try clear c10
      try clear c13
      try clear c16
      try clear c17
      try clear c18
      try clear c19
      try clear c20
      try clear c20b0
      try clear c20b1
      try clear c21
      try clear c22
      try clear c23
      try clear c25
      try clear c26
      try clear c28
      try clear c29
      try clear c30
      try clear hcz11_0
      try clear hcz11_1
      try clear hcz14_0
      try clear hcz14_1
      try clear hcz14_2
      try clear hcz14_3
      try clear hcz14_4
      try clear hcz14_5
      try clear hcz19_0
      try clear hcz19_1
      try clear hcz19_2
      try clear hcz19_3
      try clear hcz19_4
      try clear hcz19_5
      try clear hcz24_0
      try clear hcz24_1
      try clear hcz27_0
      try clear hcz27_1
      try clear hcz27_2
      try clear hcz27_3
      try clear hcz27_4
      try clear hcz27_5
      try clear hcz31_0
      try clear hcz31_1
      try clear hfz11_0
      try clear hfz11_1
      try clear hfz14_0
      try clear hfz14_1
      try clear hfz14_2
      try clear hfz14_3
      try clear hfz14_4
      try clear hfz14_5
      try clear hfz19_0
      try clear hfz19_1
      try clear hfz19_2
      try clear hfz19_3
      try clear hfz19_4
      try clear hfz19_5
      try clear hfz24_0
      try clear hfz24_1
      try clear hfz27_0
      try clear hfz27_1
      try clear hfz27_2
      try clear hfz27_3
      try clear hfz27_4
      try clear hfz27_5
      try clear hfz31_0
      try clear hfz31_1
      obtain ⟨kq, x18_4, rfl, HA, HJ4, BK178, BK179, BK180, BK182, HB⟩ := hcut
      cases kq with
      | zero => exact absurd HA.out (by simp [vitrineref05_Apply.j0])
      | succ kj4 =>
        have H := HA.out
        clear HA
        simp only [vitrineref05_Apply.j0] at H
        have HC32 := Aside0.mk H
        clear H
        go_upto_if 18 with (fail)
        go_cut [] (fun wc => ∃ (kq : Nat) (x183002_31 : Int), Aside0 (vitrineref05_Apply.j1 kq a0_0 a0_1 a1_0 a1_1 x183002_31 a1_3 a1_4 a1_5 = some (r1, r2, r3, r4, r5, r6, r7)) ∧ Aside0 (kq ≤ kj4) ∧ Aside0 (wc.heap[gb178]? = some (.cells #[.int .u8 a0_0, .int .u8 a0_1] 36 (0, 0))) ∧ Aside0 (wc.heap[gb179]? = some (.cells #[.int .u8 a1_0, .bool a1_1, .int .u8 a1_2, .int .u8 a1_3, .int .u8 a1_4, .int .u8 a1_5] 38 (0, 0))) ∧ Aside0 (wc.heap[gb180]? = some (.cells #[.int .u8 0, .bool false, .int .u8 0, .int .u8 0, .int .u8 0, .int .u8 0] 38 (0, 0))) ∧ Aside0 (wc.heap[gb182]? = some (.cells #[.int .u8 a1_0, .bool a1_1, .int .u8 x183002_31, .int .u8 a1_3, .int .u8 a1_4, .int .u8 a1_5] 38 (0, 0))) ∧ Aside0 (Below w.heap.size w wc))
        case first =>
          have H := HC32.out
          clear HC32
          by_cases c33 : x18_4 = true
          · subst c33
            have H1 : ((vitrineref05_Six.f kj4 a0_1).bind fun t183 => (vitrineref05_Apply.j1 kj4 a0_0 a0_1 a1_0 a1_1 t183 a1_3 a1_4 a1_5)) = some (r1, r2, r3, r4, r5, r6, r7) := by rw [if_pos rfl] at H; exact H
            clear H
            have H := H1
            clear H1
            replace H := Option.bind_eq_some_iff.mp H
            obtain ⟨t183, A340, H⟩ := H
            replace H : (vitrineref05_Apply.j1 kj4 a0_0 a0_1 a1_0 a1_1 t183 a1_3 a1_4 a1_5) = some (r1, r2, r3, r4, r5, r6, r7) := H
            have A34 := Aside0.mk A340
            clear A340
            have H' := Aside0.mk H
            clear H
            have hnb35 := NB178_179.out
            have hnc35 := NB179_178.out
            have hnb36 := NB178_180.out
            have hnc36 := NB180_178.out
            have hnb37 := NB178_182.out
            have hnc37 := NB182_178.out
            have hcz38_0 : wc.cell? ⟨gb178, 0, none⟩ = some (.int .u8 a0_0) := (blk_cell BK178.out 0).trans rfl
            have hcz38_1 : wc.cell? ⟨gb178, 1, none⟩ = some (.int .u8 a0_1) := (blk_cell BK178.out 1).trans rfl
            have hfz38_0 := blk_frozen BK178.out 0
            have hfz38_1 := blk_frozen BK178.out 1
            go_wp2_with (first | ((with_reducible refine gate_callee (f := 35) rfl ?_); refine goesL_ (some 21) rfl rfl Try.func35 (by kernel_rfl) rfl #[.int .u8 a0_1] rfl (by (try simp only [List.map_toArray, List.map_cons, List.map_nil]); first | done | rfl | (simp only [List.length_drop, List.length_take]; rfl)) ?_; (with_reducible refine (vitrineref05_Six.calls kj4 a0_1 t183 _ A34.out).mono ?_); rintro e w39 ⟨rfl, hb⟩; refine ⟨_, rfl, ?_⟩; have n0_ := Aside0.mk (blk_below (g := gb178) (o := .cells #[.int .u8 a0_0, .int .u8 a0_1] 36 (0, 0)) (by (with_reducible repeat (first | refine blk_drewN ?_ _ | refine blk_drew ?_ | refine blk_alloc ?_ _)); exact BK178.out) hb); have n1_ := Aside0.mk (blk_below (g := gb179) (o := .cells #[.int .u8 a1_0, .bool a1_1, .int .u8 a1_2, .int .u8 a1_3, .int .u8 a1_4, .int .u8 a1_5] 38 (0, 0)) (by (with_reducible repeat (first | refine blk_drewN ?_ _ | refine blk_drew ?_ | refine blk_alloc ?_ _)); exact BK179.out) hb); have n2_ := Aside0.mk (blk_below (g := gb180) (o := .cells #[.int .u8 0, .bool false, .int .u8 0, .int .u8 0, .int .u8 0, .int .u8 0] 38 (0, 0)) (by (with_reducible repeat (first | refine blk_drewN ?_ _ | refine blk_drew ?_ | refine blk_alloc ?_ _)); exact BK180.out) hb); have n3_ := Aside0.mk (blk_below (g := gb182) (o := .cells #[.int .u8 a1_0, .bool a1_1, .int .u8 a1_2, .int .u8 a1_3, .int .u8 a1_4, .int .u8 a1_5] 38 (0, 0)) (by (with_reducible repeat (first | refine blk_drewN ?_ _ | refine blk_drew ?_ | refine blk_alloc ?_ _)); exact BK182.out) hb); have n4_ := Aside0.mk (below_step (by repeat (first | (with_reducible first | exact HB.out | apply below_alloc | apply pw_below_drewN | apply below_drew1 | refine below_set ?_ GE178.out | refine below_set ?_ GE179.out | refine below_set ?_ GE180.out | refine below_set ?_ GE182.out) | exact HB.out)) hb); clear BK178; clear BK179; clear BK180; clear BK182; clear HB; have BK178 := n0_; have BK179 := n1_; have BK180 := n2_; have BK182 := n3_; have HB := n4_; clear n0_ n1_ n2_ n3_ n4_; (try clear hb); (try clear hb2); (try clear hk); (try clear hi); have hnb40 := NB182_179.out; have hnc40 := NB179_182.out; have hnb41 := NB182_180.out; have hnc41 := NB180_182.out; have hcz42_0 : w39.cell? ⟨gb182, 0, none⟩ = some (.int .u8 a1_0) := (blk_cell BK182.out 0).trans rfl; have hcz42_1 : w39.cell? ⟨gb182, 1, none⟩ = some (.bool a1_1) := (blk_cell BK182.out 1).trans rfl; have hcz42_2 : w39.cell? ⟨gb182, 2, none⟩ = some (.int .u8 a1_2) := (blk_cell BK182.out 2).trans rfl; have hcz42_3 : w39.cell? ⟨gb182, 3, none⟩ = some (.int .u8 a1_3) := (blk_cell BK182.out 3).trans rfl; have hcz42_4 : w39.cell? ⟨gb182, 4, none⟩ = some (.int .u8 a1_4) := (blk_cell BK182.out 4).trans rfl; have hcz42_5 : w39.cell? ⟨gb182, 5, none⟩ = some (.int .u8 a1_5) := (blk_cell BK182.out 5).trans rfl; have hfz42_0 := blk_frozen BK182.out 0; have hfz42_1 := blk_frozen BK182.out 1; have hfz42_2 := blk_frozen BK182.out 2; have hfz42_3 := blk_frozen BK182.out 3; have hfz42_4 := blk_frozen BK182.out 4; have hfz42_5 := blk_frozen BK182.out 5))
            go_meet
            case rel => exact ⟨_, (t183), H', ⟨by have := HJ4.out; first | omega | exact Nat.le_refl _⟩, ⟨by (with_reducible repeat (first | refine blk_drewN ?_ _ | refine blk_drew ?_ | refine blk_alloc ?_ _)); refine blk_far ?_ NB178_182.out _; (with_reducible repeat (first | refine blk_drewN ?_ _ | refine blk_drew ?_ | refine blk_alloc ?_ _)); exact BK178.out⟩, ⟨by (with_reducible repeat (first | refine blk_drewN ?_ _ | refine blk_drew ?_ | refine blk_alloc ?_ _)); refine blk_far ?_ NB179_182.out _; (with_reducible repeat (first | refine blk_drewN ?_ _ | refine blk_drew ?_ | refine blk_alloc ?_ _)); exact BK179.out⟩, ⟨by (with_reducible repeat (first | refine blk_drewN ?_ _ | refine blk_drew ?_ | refine blk_alloc ?_ _)); refine blk_far ?_ NB180_182.out _; (with_reducible repeat (first | refine blk_drewN ?_ _ | refine blk_drew ?_ | refine blk_alloc ?_ _)); exact BK180.out⟩, ⟨by (with_reducible repeat (first | refine blk_drewN ?_ _ | refine blk_drew ?_ | refine blk_alloc ?_ _)); refine blk_put (cs := #[.int .u8 a1_0, .bool a1_1, .int .u8 a1_2, .int .u8 a1_3, .int .u8 a1_4, .int .u8 a1_5]) ?_ 2 _ rfl; (with_reducible repeat (first | refine blk_drewN ?_ _ | refine blk_drew ?_ | refine blk_alloc ?_ _)); exact BK182.out⟩, ⟨by repeat (first | (with_reducible first | exact HB.out | apply below_alloc | apply pw_below_drewN | apply below_drew1 | refine below_set ?_ GE178.out | refine below_set ?_ GE179.out | refine below_set ?_ GE180.out | refine below_set ?_ GE182.out) | exact HB.out)⟩⟩
          · replace c33 := Bool.eq_false_iff.mpr c33
            subst c33
            have H1 : (vitrineref05_Apply.j1 kj4 a0_0 a0_1 a1_0 a1_1 a1_2 a1_3 a1_4 a1_5) = some (r1, r2, r3, r4, r5, r6, r7) := by rw [if_neg (show ¬ (false = true) by decide)] at H; exact H
            clear H
            have H := H1
            clear H1
            have H' := Aside0.mk H
            clear H
            go_wp2
            go_meet
            case rel => exact ⟨_, (a1_2), H', ⟨by have := HJ4.out; first | omega | exact Nat.le_refl _⟩, ⟨by (with_reducible repeat (first | refine blk_drewN ?_ _ | refine blk_drew ?_ | refine blk_alloc ?_ _)); exact BK178.out⟩, ⟨by (with_reducible repeat (first | refine blk_drewN ?_ _ | refine blk_drew ?_ | refine blk_alloc ?_ _)); exact BK179.out⟩, ⟨by (with_reducible repeat (first | refine blk_drewN ?_ _ | refine blk_drew ?_ | refine blk_alloc ?_ _)); exact BK180.out⟩, ⟨by (with_reducible repeat (first | refine blk_drewN ?_ _ | refine blk_drew ?_ | refine blk_alloc ?_ _)); exact BK182.out⟩, ⟨by repeat (first | (with_reducible first | exact HB.out | apply below_alloc | apply pw_below_drewN | apply below_drew1 | refine below_set ?_ GE178.out | refine below_set ?_ GE179.out | refine below_set ?_ GE180.out | refine below_set ?_ GE182.out) | exact HB.out)⟩⟩
        case rest =>
          clear HC32
          try clear c1
          try clear c2
          try clear p2
          try clear c3
          try clear c4
          try clear c9
          try clear c10
          try clear c13
          try clear c16
          try clear c17
          try clear c18
          try clear c19
          try clear c20
          try clear c20b0
          try clear c20b1
          try clear c21
          try clear c22
          try clear c23
          try clear c25
          try clear c26
          try clear c28
          try clear c29
          try clear c30
          try clear c33
          try clear c35
          try clear c36
          try clear c37
          try clear c40
          try clear c41
          try clear hcz11_0
          try clear hcz11_1
          try clear hcz14_0
          try clear hcz14_1
          try clear hcz14_2
          try clear hcz14_3
          try clear hcz14_4
          try clear hcz14_5
          try clear hcz19_0
          try clear hcz19_1
          try clear hcz19_2
          try clear hcz19_3
          try clear hcz19_4
          try clear hcz19_5
          try clear hcz24_0
          try clear hcz24_1
          try clear hcz27_0
          try clear hcz27_1
          try clear hcz27_2
          try clear hcz27_3
          try clear hcz27_4
          try clear hcz27_5
          try clear hcz31_0
          try clear hcz31_1
          try clear hcz38_0
          try clear hcz38_1
          try clear hcz42_0
          try clear hcz42_1
          try clear hcz42_2
          try clear hcz42_3
          try clear hcz42_4
          try clear hcz42_5
          try clear hfz11_0
          try clear hfz11_1
          try clear hfz14_0
          try clear hfz14_1
          try clear hfz14_2
          try clear hfz14_3
          try clear hfz14_4
          try clear hfz14_5
          try clear hfz19_0
          try clear hfz19_1
          try clear hfz19_2
          try clear hfz19_3
          try clear hfz19_4
          try clear hfz19_5
          try clear hfz24_0
          try clear hfz24_1
          try clear hfz27_0
          try clear hfz27_1
          try clear hfz27_2
          try clear hfz27_3
          try clear hfz27_4
          try clear hfz27_5
          try clear hfz31_0
          try clear hfz31_1
          try clear hfz38_0
          try clear hfz38_1
          try clear hfz42_0
          try clear hfz42_1
          try clear hfz42_2
          try clear hfz42_3
          try clear hfz42_4
          try clear hfz42_5
          try clear p2
          obtain ⟨kq, x183002_31, HA, HJ31, BK178, BK179, BK180, BK182, HB⟩ := hcut
          cases kq with
          | zero => exact absurd HA.out (by simp [vitrineref05_Apply.j1])
          | succ kj31 =>
            have H := HA.out
            clear HA
            simp only [vitrineref05_Apply.j1] at H
            have HC43 := Aside0.mk H
            clear H
            go_upto_region 6 with (fail)
            go_cut [30] (fun v30 wc => ∃ (kq : Nat) (x30_42 : Bool), v30 = .bool x30_42 ∧ Aside0 (vitrineref05_Apply.j2 kq x30_42 a0_0 a0_1 a1_0 a1_1 x183002_31 a1_3 a1_4 a1_5 = some (r1, r2, r3, r4, r5, r6, r7)) ∧ Aside0 (kq ≤ kj31) ∧ Aside0 (wc.heap[gb178]? = some (.cells #[.int .u8 a0_0, .int .u8 a0_1] 36 (0, 0))) ∧ Aside0 (wc.heap[gb179]? = some (.cells #[.int .u8 a1_0, .bool a1_1, .int .u8 a1_2, .int .u8 a1_3, .int .u8 a1_4, .int .u8 a1_5] 38 (0, 0))) ∧ Aside0 (wc.heap[gb180]? = some (.cells #[.int .u8 0, .bool false, .int .u8 0, .int .u8 0, .int .u8 0, .int .u8 0] 38 (0, 0))) ∧ Aside0 (wc.heap[gb182]? = some (.cells #[.int .u8 a1_0, .bool a1_1, .int .u8 x183002_31, .int .u8 a1_3, .int .u8 a1_4, .int .u8 a1_5] 38 (0, 0))) ∧ Aside0 (Below w.heap.size w wc))
            case first =>
              have H := HC43.out
              clear HC43
              by_cases c44 : a0_0 = 65
              · rw [if_pos c44] at H
                have c44b0 : (a0_0 == 65) = true := beq_iff_eq.mpr c44
                have c44b1 : (a0_0 != 65) = false := bne_eq_false_iff_eq.mpr c44
                clear c44
                (first | rw [c44b0] | (simp only [i64_w, i32_w]; rw [c44b0]) | skip)
                have H' := Aside0.mk H
                clear H
                have hnb45 := NB178_179.out
                have hnc45 := NB179_178.out
                have hnb46 := NB178_180.out
                have hnc46 := NB180_178.out
                have hnb47 := NB178_182.out
                have hnc47 := NB182_178.out
                have hcz48_0 : wc.cell? ⟨gb178, 0, none⟩ = some (.int .u8 a0_0) := (blk_cell BK178.out 0).trans rfl
                have hcz48_1 : wc.cell? ⟨gb178, 1, none⟩ = some (.int .u8 a0_1) := (blk_cell BK178.out 1).trans rfl
                have hfz48_0 := blk_frozen BK178.out 0
                have hfz48_1 := blk_frozen BK178.out 1
                go_wp2
                go_meet
                case rel => exact ⟨_, (true), (by first | rfl | (simp; done) | (simp [*]; done)), H', ⟨by have := HJ4.out; have := HJ31.out; first | omega | exact Nat.le_refl _⟩, ⟨by (with_reducible repeat (first | refine blk_drewN ?_ _ | refine blk_drew ?_ | refine blk_alloc ?_ _)); exact BK178.out⟩, ⟨by (with_reducible repeat (first | refine blk_drewN ?_ _ | refine blk_drew ?_ | refine blk_alloc ?_ _)); exact BK179.out⟩, ⟨by (with_reducible repeat (first | refine blk_drewN ?_ _ | refine blk_drew ?_ | refine blk_alloc ?_ _)); exact BK180.out⟩, ⟨by (with_reducible repeat (first | refine blk_drewN ?_ _ | refine blk_drew ?_ | refine blk_alloc ?_ _)); exact BK182.out⟩, ⟨by repeat (first | (with_reducible first | exact HB.out | apply below_alloc | apply pw_below_drewN | apply below_drew1 | refine below_set ?_ GE178.out | refine below_set ?_ GE179.out | refine below_set ?_ GE180.out | refine below_set ?_ GE182.out) | exact HB.out)⟩⟩
              · rw [if_neg c44] at H
                have c44b0 : (a0_0 == 65) = false := beq_eq_false_iff_ne.mpr c44
                have c44b1 : (a0_0 != 65) = true := bne_iff_ne.mpr c44
                (first | rw [c44b0] | (simp only [i64_w, i32_w]; rw [c44b0]) | skip)
                have H' := Aside0.mk H
                clear H
                have hnb49 := NB178_179.out
                have hnc49 := NB179_178.out
                have hnb50 := NB178_180.out
                have hnc50 := NB180_178.out
                have hnb51 := NB178_182.out
                have hnc51 := NB182_178.out
                have hcz52_0 : wc.cell? ⟨gb178, 0, none⟩ = some (.int .u8 a0_0) := (blk_cell BK178.out 0).trans rfl
                have hcz52_1 : wc.cell? ⟨gb178, 1, none⟩ = some (.int .u8 a0_1) := (blk_cell BK178.out 1).trans rfl
                have hfz52_0 := blk_frozen BK178.out 0
                have hfz52_1 := blk_frozen BK178.out 1
                go_wp2
                go_meet
                case rel => exact ⟨_, ((a0_0 == 0)), (by first | rfl | (simp; done) | (simp [*]; done)), H', ⟨by have := HJ4.out; have := HJ31.out; first | omega | exact Nat.le_refl _⟩, ⟨by (with_reducible repeat (first | refine blk_drewN ?_ _ | refine blk_drew ?_ | refine blk_alloc ?_ _)); exact BK178.out⟩, ⟨by (with_reducible repeat (first | refine blk_drewN ?_ _ | refine blk_drew ?_ | refine blk_alloc ?_ _)); exact BK179.out⟩, ⟨by (with_reducible repeat (first | refine blk_drewN ?_ _ | refine blk_drew ?_ | refine blk_alloc ?_ _)); exact BK180.out⟩, ⟨by (with_reducible repeat (first | refine blk_drewN ?_ _ | refine blk_drew ?_ | refine blk_alloc ?_ _)); exact BK182.out⟩, ⟨by repeat (first | (with_reducible first | exact HB.out | apply below_alloc | apply pw_below_drewN | apply below_drew1 | refine below_set ?_ GE178.out | refine below_set ?_ GE179.out | refine below_set ?_ GE180.out | refine below_set ?_ GE182.out) | exact HB.out)⟩⟩
            case rest =>
              clear HC43
              try clear c1
              try clear c2
              try clear p2
              try clear c3
              try clear c4
              try clear c5
              try clear c9
              try clear c10
              try clear c13
              try clear c16
              try clear c17
              try clear c18
              try clear c19
              try clear c20
              try clear c20b0
              try clear c20b1
              try clear c21
              try clear c22
              try clear c23
              try clear c25
              try clear c26
              try clear c28
              try clear c29
              try clear c30
              try clear c33
              try clear c35
              try clear c36
              try clear c37
              try clear c40
              try clear c41
              try clear c44
              try clear c44b0
              try clear c44b1
              try clear c45
              try clear c46
              try clear c47
              try clear c49
              try clear c50
              try clear c51
              try clear hcz11_0
              try clear hcz11_1
              try clear hcz14_0
              try clear hcz14_1
              try clear hcz14_2
              try clear hcz14_3
              try clear hcz14_4
              try clear hcz14_5
              try clear hcz19_0
              try clear hcz19_1
              try clear hcz19_2
              try clear hcz19_3
              try clear hcz19_4
              try clear hcz19_5
              try clear hcz24_0
              try clear hcz24_1
              try clear hcz27_0
              try clear hcz27_1
              try clear hcz27_2
              try clear hcz27_3
              try clear hcz27_4
              try clear hcz27_5
              try clear hcz31_0
              try clear hcz31_1
              try clear hcz38_0
              try clear hcz38_1
              try clear hcz42_0
              try clear hcz42_1
              try clear hcz42_2
              try clear hcz42_3
              try clear hcz42_4
              try clear hcz42_5
              try clear hcz48_0
              try clear hcz48_1
              try clear hcz52_0
              try clear hcz52_1
              try clear hfz11_0
              try clear hfz11_1
              try clear hfz14_0
              try clear hfz14_1
              try clear hfz14_2
              try clear hfz14_3
              try clear hfz14_4
              try clear hfz14_5
              try clear hfz19_0
              try clear hfz19_1
              try clear hfz19_2
              try clear hfz19_3
              try clear hfz19_4
              try clear hfz19_5
              try clear hfz24_0
              try clear hfz24_1
              try clear hfz27_0
              try clear hfz27_1
              try clear hfz27_2
              try clear hfz27_3
              try clear hfz27_4
              try clear hfz27_5
              try clear hfz31_0
              try clear hfz31_1
              try clear hfz38_0
              try clear hfz38_1
              try clear hfz42_0
              try clear hfz42_1
              try clear hfz42_2
              try clear hfz42_3
              try clear hfz42_4
              try clear hfz42_5
              try clear hfz48_0
              try clear hfz48_1
              try clear hfz52_0
              try clear hfz52_1
              try clear p2
              obtain ⟨kq, x30_42, rfl, HA, HJ42, BK178, BK179, BK180, BK182, HB⟩ := hcut
              cases kq with
              | zero => exact absurd HA.out (by simp [vitrineref05_Apply.j2])
              | succ kj42 =>
                have H := HA.out
                clear HA
                simp only [vitrineref05_Apply.j2] at H
                have HC53 := Aside0.mk H
                clear H
                go_upto_if 30 with (fail)
                go_cut [] (fun wc => ∃ (kq : Nat) (x183003_52 : Int), Aside0 (vitrineref05_Apply.j3 kq a0_0 a0_1 a1_0 a1_1 x183002_31 x183003_52 a1_4 a1_5 = some (r1, r2, r3, r4, r5, r6, r7)) ∧ Aside0 (kq ≤ kj42) ∧ Aside0 (wc.heap[gb178]? = some (.cells #[.int .u8 a0_0, .int .u8 a0_1] 36 (0, 0))) ∧ Aside0 (wc.heap[gb179]? = some (.cells #[.int .u8 a1_0, .bool a1_1, .int .u8 a1_2, .int .u8 a1_3, .int .u8 a1_4, .int .u8 a1_5] 38 (0, 0))) ∧ Aside0 (wc.heap[gb180]? = some (.cells #[.int .u8 0, .bool false, .int .u8 0, .int .u8 0, .int .u8 0, .int .u8 0] 38 (0, 0))) ∧ Aside0 (wc.heap[gb182]? = some (.cells #[.int .u8 a1_0, .bool a1_1, .int .u8 x183002_31, .int .u8 x183003_52, .int .u8 a1_4, .int .u8 a1_5] 38 (0, 0))) ∧ Aside0 (Below w.heap.size w wc))
                case first =>
                  have H := HC53.out
                  clear HC53
                  by_cases c54 : x30_42 = true
                  · subst c54
                    have H1 : (vitrineref05_Apply.j3 kj42 a0_0 a0_1 a1_0 a1_1 x183002_31 a0_1 a1_4 a1_5) = some (r1, r2, r3, r4, r5, r6, r7) := by rw [if_pos rfl] at H; exact H
                    clear H
                    have H := H1
                    clear H1
                    have H' := Aside0.mk H
                    clear H
                    have hnb55 := NB178_179.out
                    have hnc55 := NB179_178.out
                    have hnb56 := NB178_180.out
                    have hnc56 := NB180_178.out
                    have hnb57 := NB178_182.out
                    have hnc57 := NB182_178.out
                    have hcz58_0 : wc.cell? ⟨gb178, 0, none⟩ = some (.int .u8 a0_0) := (blk_cell BK178.out 0).trans rfl
                    have hcz58_1 : wc.cell? ⟨gb178, 1, none⟩ = some (.int .u8 a0_1) := (blk_cell BK178.out 1).trans rfl
                    have hfz58_0 := blk_frozen BK178.out 0
                    have hfz58_1 := blk_frozen BK178.out 1
                    have hnb59 := NB182_179.out
                    have hnc59 := NB179_182.out
                    have hnb60 := NB182_180.out
                    have hnc60 := NB180_182.out
                    have hcz61_0 : wc.cell? ⟨gb182, 0, none⟩ = some (.int .u8 a1_0) := (blk_cell BK182.out 0).trans rfl
                    have hcz61_1 : wc.cell? ⟨gb182, 1, none⟩ = some (.bool a1_1) := (blk_cell BK182.out 1).trans rfl
                    have hcz61_2 : wc.cell? ⟨gb182, 2, none⟩ = some (.int .u8 x183002_31) := (blk_cell BK182.out 2).trans rfl
                    have hcz61_3 : wc.cell? ⟨gb182, 3, none⟩ = some (.int .u8 a1_3) := (blk_cell BK182.out 3).trans rfl
                    have hcz61_4 : wc.cell? ⟨gb182, 4, none⟩ = some (.int .u8 a1_4) := (blk_cell BK182.out 4).trans rfl
                    have hcz61_5 : wc.cell? ⟨gb182, 5, none⟩ = some (.int .u8 a1_5) := (blk_cell BK182.out 5).trans rfl
                    have hfz61_0 := blk_frozen BK182.out 0
                    have hfz61_1 := blk_frozen BK182.out 1
                    have hfz61_2 := blk_frozen BK182.out 2
                    have hfz61_3 := blk_frozen BK182.out 3
                    have hfz61_4 := blk_frozen BK182.out 4
                    have hfz61_5 := blk_frozen BK182.out 5
                    go_wp2
                    go_meet
                    case rel => exact ⟨_, (a0_1), H', ⟨by have := HJ4.out; have := HJ31.out; have := HJ42.out; first | omega | exact Nat.le_refl _⟩, ⟨by (with_reducible repeat (first | refine blk_drewN ?_ _ | refine blk_drew ?_ | refine blk_alloc ?_ _)); refine blk_far ?_ NB178_182.out _; (with_reducible repeat (first | refine blk_drewN ?_ _ | refine blk_drew ?_ | refine blk_alloc ?_ _)); exact BK178.out⟩, ⟨by (with_reducible repeat (first | refine blk_drewN ?_ _ | refine blk_drew ?_ | refine blk_alloc ?_ _)); refine blk_far ?_ NB179_182.out _; (with_reducible repeat (first | refine blk_drewN ?_ _ | refine blk_drew ?_ | refine blk_alloc ?_ _)); exact BK179.out⟩, ⟨by (with_reducible repeat (first | refine blk_drewN ?_ _ | refine blk_drew ?_ | refine blk_alloc ?_ _)); refine blk_far ?_ NB180_182.out _; (with_reducible repeat (first | refine blk_drewN ?_ _ | refine blk_drew ?_ | refine blk_alloc ?_ _)); exact BK180.out⟩, ⟨by (with_reducible repeat (first | refine blk_drewN ?_ _ | refine blk_drew ?_ | refine blk_alloc ?_ _)); refine blk_put (cs := #[.int .u8 a1_0, .bool a1_1, .int .u8 x183002_31, .int .u8 a1_3, .int .u8 a1_4, .int .u8 a1_5]) ?_ 3 _ rfl; (with_reducible repeat (first | refine blk_drewN ?_ _ | refine blk_drew ?_ | refine blk_alloc ?_ _)); exact BK182.out⟩, ⟨by repeat (first | (with_reducible first | exact HB.out | apply below_alloc | apply pw_below_drewN | apply below_drew1 | refine below_set ?_ GE178.out | refine below_set ?_ GE179.out | refine below_set ?_ GE180.out | refine below_set ?_ GE182.out) | exact HB.out)⟩⟩
                  · replace c54 := Bool.eq_false_iff.mpr c54
                    subst c54
                    have H1 : (vitrineref05_Apply.j3 kj42 a0_0 a0_1 a1_0 a1_1 x183002_31 a1_3 a1_4 a1_5) = some (r1, r2, r3, r4, r5, r6, r7) := by rw [if_neg (show ¬ (false = true) by decide)] at H; exact H
                    clear H
                    have H := H1
                    clear H1
                    have H' := Aside0.mk H
                    clear H
                    go_wp2
                    go_meet
                    case rel => exact ⟨_, (a1_3), H', ⟨by have := HJ4.out; have := HJ31.out; have := HJ42.out; first | omega | exact Nat.le_refl _⟩, ⟨by (with_reducible repeat (first | refine blk_drewN ?_ _ | refine blk_drew ?_ | refine blk_alloc ?_ _)); exact BK178.out⟩, ⟨by (with_reducible repeat (first | refine blk_drewN ?_ _ | refine blk_drew ?_ | refine blk_alloc ?_ _)); exact BK179.out⟩, ⟨by (with_reducible repeat (first | refine blk_drewN ?_ _ | refine blk_drew ?_ | refine blk_alloc ?_ _)); exact BK180.out⟩, ⟨by (with_reducible repeat (first | refine blk_drewN ?_ _ | refine blk_drew ?_ | refine blk_alloc ?_ _)); exact BK182.out⟩, ⟨by repeat (first | (with_reducible first | exact HB.out | apply below_alloc | apply pw_below_drewN | apply below_drew1 | refine below_set ?_ GE178.out | refine below_set ?_ GE179.out | refine below_set ?_ GE180.out | refine below_set ?_ GE182.out) | exact HB.out)⟩⟩
                case rest =>
                  clear HC53
                  try clear c1
                  try clear c2
                  try clear p2
                  try clear c3
                  try clear c4
                  try clear c5
                  try clear c6
                  try clear c9
                  try clear c10
                  try clear c13
                  try clear c16
                  try clear c17
                  try clear c18
                  try clear c19
                  try clear c20
                  try clear c20b0
                  try clear c20b1
                  try clear c21
                  try clear c22
                  try clear c23
                  try clear c25
                  try clear c26
                  try clear c28
                  try clear c29
                  try clear c30
                  try clear c33
                  try clear c35
                  try clear c36
                  try clear c37
                  try clear c40
                  try clear c41
                  try clear c44
                  try clear c44b0
                  try clear c44b1
                  try clear c45
                  try clear c46
                  try clear c47
                  try clear c49
                  try clear c50
                  try clear c51
                  try clear c54
                  try clear c55
                  try clear c56
                  try clear c57
                  try clear c59
                  try clear c60
                  try clear hcz11_0
                  try clear hcz11_1
                  try clear hcz14_0
                  try clear hcz14_1
                  try clear hcz14_2
                  try clear hcz14_3
                  try clear hcz14_4
                  try clear hcz14_5
                  try clear hcz19_0
                  try clear hcz19_1
                  try clear hcz19_2
                  try clear hcz19_3
                  try clear hcz19_4
                  try clear hcz19_5
                  try clear hcz24_0
                  try clear hcz24_1
                  try clear hcz27_0
                  try clear hcz27_1
                  try clear hcz27_2
                  try clear hcz27_3
                  try clear hcz27_4
                  try clear hcz27_5
                  try clear hcz31_0
                  try clear hcz31_1
                  try clear hcz38_0
                  try clear hcz38_1
                  try clear hcz42_0
                  try clear hcz42_1
                  try clear hcz42_2
                  try clear hcz42_3
                  try clear hcz42_4
                  try clear hcz42_5
                  try clear hcz48_0
                  try clear hcz48_1
                  try clear hcz52_0
                  try clear hcz52_1
                  try clear hcz58_0
                  try clear hcz58_1
                  try clear hcz61_0
                  try clear hcz61_1
                  try clear hcz61_2
                  try clear hcz61_3
                  try clear hcz61_4
                  try clear hcz61_5
                  try clear hfz11_0
                  try clear hfz11_1
                  try clear hfz14_0
                  try clear hfz14_1
                  try clear hfz14_2
                  try clear hfz14_3
                  try clear hfz14_4
                  try clear hfz14_5
                  try clear hfz19_0
                  try clear hfz19_1
                  try clear hfz19_2
                  try clear hfz19_3
                  try clear hfz19_4
                  try clear hfz19_5
                  try clear hfz24_0
                  try clear hfz24_1
                  try clear hfz27_0
                  try clear hfz27_1
                  try clear hfz27_2
                  try clear hfz27_3
                  try clear hfz27_4
                  try clear hfz27_5
                  try clear hfz31_0
                  try clear hfz31_1
                  try clear hfz38_0
                  try clear hfz38_1
                  try clear hfz42_0
                  try clear hfz42_1
                  try clear hfz42_2
                  try clear hfz42_3
                  try clear hfz42_4
                  try clear hfz42_5
                  try clear hfz48_0
                  try clear hfz48_1
                  try clear hfz52_0
                  try clear hfz52_1
                  try clear hfz58_0
                  try clear hfz58_1
                  try clear hfz61_0
                  try clear hfz61_1
                  try clear hfz61_2
                  try clear hfz61_3
                  try clear hfz61_4
                  try clear hfz61_5
                  try clear p2
                  obtain ⟨kq, x183003_52, HA, HJ52, BK178, BK179, BK180, BK182, HB⟩ := hcut
                  cases kq with
                  | zero => exact absurd HA.out (by simp [vitrineref05_Apply.j3])
                  | succ kj52 =>
                    have H := HA.out
                    clear HA
                    simp only [vitrineref05_Apply.j3] at H
                    have HC62 := Aside0.mk H
                    clear H
                    go_upto_region 8 with (fail)
                    go_cut [41] (fun v41 wc => ∃ (kq : Nat) (x41_61 : Bool), v41 = .bool x41_61 ∧ Aside0 (vitrineref05_Apply.j4 kq x41_61 a0_0 a0_1 a1_0 a1_1 x183002_31 x183003_52 a1_4 a1_5 = some (r1, r2, r3, r4, r5, r6, r7)) ∧ Aside0 (kq ≤ kj52) ∧ Aside0 (wc.heap[gb178]? = some (.cells #[.int .u8 a0_0, .int .u8 a0_1] 36 (0, 0))) ∧ Aside0 (wc.heap[gb179]? = some (.cells #[.int .u8 a1_0, .bool a1_1, .int .u8 a1_2, .int .u8 a1_3, .int .u8 a1_4, .int .u8 a1_5] 38 (0, 0))) ∧ Aside0 (wc.heap[gb180]? = some (.cells #[.int .u8 0, .bool false, .int .u8 0, .int .u8 0, .int .u8 0, .int .u8 0] 38 (0, 0))) ∧ Aside0 (wc.heap[gb182]? = some (.cells #[.int .u8 a1_0, .bool a1_1, .int .u8 x183002_31, .int .u8 x183003_52, .int .u8 a1_4, .int .u8 a1_5] 38 (0, 0))) ∧ Aside0 (Below w.heap.size w wc))
                    case first =>
                      have H := HC62.out
                      clear HC62
                      by_cases c63 : a0_0 = 66
                      · rw [if_pos c63] at H
                        have c63b0 : (a0_0 == 66) = true := beq_iff_eq.mpr c63
                        have c63b1 : (a0_0 != 66) = false := bne_eq_false_iff_eq.mpr c63
                        clear c63
                        (first | rw [c63b0] | (simp only [i64_w, i32_w]; rw [c63b0]) | skip)
                        have H' := Aside0.mk H
                        clear H
                        have hnb64 := NB178_179.out
                        have hnc64 := NB179_178.out
                        have hnb65 := NB178_180.out
                        have hnc65 := NB180_178.out
                        have hnb66 := NB178_182.out
                        have hnc66 := NB182_178.out
                        have hcz67_0 : wc.cell? ⟨gb178, 0, none⟩ = some (.int .u8 a0_0) := (blk_cell BK178.out 0).trans rfl
                        have hcz67_1 : wc.cell? ⟨gb178, 1, none⟩ = some (.int .u8 a0_1) := (blk_cell BK178.out 1).trans rfl
                        have hfz67_0 := blk_frozen BK178.out 0
                        have hfz67_1 := blk_frozen BK178.out 1
                        go_wp2
                        go_meet
                        case rel => exact ⟨_, (true), (by first | rfl | (simp; done) | (simp [*]; done)), H', ⟨by have := HJ4.out; have := HJ31.out; have := HJ42.out; have := HJ52.out; first | omega | exact Nat.le_refl _⟩, ⟨by (with_reducible repeat (first | refine blk_drewN ?_ _ | refine blk_drew ?_ | refine blk_alloc ?_ _)); exact BK178.out⟩, ⟨by (with_reducible repeat (first | refine blk_drewN ?_ _ | refine blk_drew ?_ | refine blk_alloc ?_ _)); exact BK179.out⟩, ⟨by (with_reducible repeat (first | refine blk_drewN ?_ _ | refine blk_drew ?_ | refine blk_alloc ?_ _)); exact BK180.out⟩, ⟨by (with_reducible repeat (first | refine blk_drewN ?_ _ | refine blk_drew ?_ | refine blk_alloc ?_ _)); exact BK182.out⟩, ⟨by repeat (first | (with_reducible first | exact HB.out | apply below_alloc | apply pw_below_drewN | apply below_drew1 | refine below_set ?_ GE178.out | refine below_set ?_ GE179.out | refine below_set ?_ GE180.out | refine below_set ?_ GE182.out) | exact HB.out)⟩⟩
                      · rw [if_neg c63] at H
                        have c63b0 : (a0_0 == 66) = false := beq_eq_false_iff_ne.mpr c63
                        have c63b1 : (a0_0 != 66) = true := bne_iff_ne.mpr c63
                        (first | rw [c63b0] | (simp only [i64_w, i32_w]; rw [c63b0]) | skip)
                        have H' := Aside0.mk H
                        clear H
                        have hnb68 := NB178_179.out
                        have hnc68 := NB179_178.out
                        have hnb69 := NB178_180.out
                        have hnc69 := NB180_178.out
                        have hnb70 := NB178_182.out
                        have hnc70 := NB182_178.out
                        have hcz71_0 : wc.cell? ⟨gb178, 0, none⟩ = some (.int .u8 a0_0) := (blk_cell BK178.out 0).trans rfl
                        have hcz71_1 : wc.cell? ⟨gb178, 1, none⟩ = some (.int .u8 a0_1) := (blk_cell BK178.out 1).trans rfl
                        have hfz71_0 := blk_frozen BK178.out 0
                        have hfz71_1 := blk_frozen BK178.out 1
                        go_wp2
                        go_meet
                        case rel => exact ⟨_, ((a0_0 == 0)), (by first | rfl | (simp; done) | (simp [*]; done)), H', ⟨by have := HJ4.out; have := HJ31.out; have := HJ42.out; have := HJ52.out; first | omega | exact Nat.le_refl _⟩, ⟨by (with_reducible repeat (first | refine blk_drewN ?_ _ | refine blk_drew ?_ | refine blk_alloc ?_ _)); exact BK178.out⟩, ⟨by (with_reducible repeat (first | refine blk_drewN ?_ _ | refine blk_drew ?_ | refine blk_alloc ?_ _)); exact BK179.out⟩, ⟨by (with_reducible repeat (first | refine blk_drewN ?_ _ | refine blk_drew ?_ | refine blk_alloc ?_ _)); exact BK180.out⟩, ⟨by (with_reducible repeat (first | refine blk_drewN ?_ _ | refine blk_drew ?_ | refine blk_alloc ?_ _)); exact BK182.out⟩, ⟨by repeat (first | (with_reducible first | exact HB.out | apply below_alloc | apply pw_below_drewN | apply below_drew1 | refine below_set ?_ GE178.out | refine below_set ?_ GE179.out | refine below_set ?_ GE180.out | refine below_set ?_ GE182.out) | exact HB.out)⟩⟩
                    case rest =>
                      clear HC62
                      try clear c1
                      try clear c2
                      try clear p2
                      try clear c3
                      try clear c4
                      try clear c5
                      try clear c6
                      try clear c7
                      try clear c9
                      try clear c10
                      try clear c13
                      try clear c16
                      try clear c17
                      try clear c18
                      try clear c19
                      try clear c20
                      try clear c20b0
                      try clear c20b1
                      try clear c21
                      try clear c22
                      try clear c23
                      try clear c25
                      try clear c26
                      try clear c28
                      try clear c29
                      try clear c30
                      try clear c33
                      try clear c35
                      try clear c36
                      try clear c37
                      try clear c40
                      try clear c41
                      try clear c44
                      try clear c44b0
                      try clear c44b1
                      try clear c45
                      try clear c46
                      try clear c47
                      try clear c49
                      try clear c50
                      try clear c51
                      try clear c54
                      try clear c55
                      try clear c56
                      try clear c57
                      try clear c59
                      try clear c60
                      try clear c63
                      try clear c63b0
                      try clear c63b1
                      try clear c64
                      try clear c65
                      try clear c66
                      try clear c68
                      try clear c69
                      try clear c70
                      try clear hcz11_0
                      try clear hcz11_1
                      try clear hcz14_0
                      try clear hcz14_1
                      try clear hcz14_2
                      try clear hcz14_3
                      try clear hcz14_4
                      try clear hcz14_5
                      try clear hcz19_0
                      try clear hcz19_1
                      try clear hcz19_2
                      try clear hcz19_3
                      try clear hcz19_4
                      try clear hcz19_5
                      try clear hcz24_0
                      try clear hcz24_1
                      try clear hcz27_0
                      try clear hcz27_1
                      try clear hcz27_2
                      try clear hcz27_3
                      try clear hcz27_4
                      try clear hcz27_5
                      try clear hcz31_0
                      try clear hcz31_1
                      try clear hcz38_0
                      try clear hcz38_1
                      try clear hcz42_0
                      try clear hcz42_1
                      try clear hcz42_2
                      try clear hcz42_3
                      try clear hcz42_4
                      try clear hcz42_5
                      try clear hcz48_0
                      try clear hcz48_1
                      try clear hcz52_0
                      try clear hcz52_1
                      try clear hcz58_0
                      try clear hcz58_1
                      try clear hcz61_0
                      try clear hcz61_1
                      try clear hcz61_2
                      try clear hcz61_3
                      try clear hcz61_4
                      try clear hcz61_5
                      try clear hcz67_0
                      try clear hcz67_1
                      try clear hcz71_0
                      try clear hcz71_1
                      try clear hfz11_0
                      try clear hfz11_1
                      try clear hfz14_0
                      try clear hfz14_1
                      try clear hfz14_2
                      try clear hfz14_3
                      try clear hfz14_4
                      try clear hfz14_5
                      try clear hfz19_0
                      try clear hfz19_1
                      try clear hfz19_2
                      try clear hfz19_3
                      try clear hfz19_4
                      try clear hfz19_5
                      try clear hfz24_0
                      try clear hfz24_1
                      try clear hfz27_0
                      try clear hfz27_1
                      try clear hfz27_2
                      try clear hfz27_3
                      try clear hfz27_4
                      try clear hfz27_5
                      try clear hfz31_0
                      try clear hfz31_1
                      try clear hfz38_0
                      try clear hfz38_1
                      try clear hfz42_0
                      try clear hfz42_1
                      try clear hfz42_2
                      try clear hfz42_3
                      try clear hfz42_4
                      try clear hfz42_5
                      try clear hfz48_0
                      try clear hfz48_1
                      try clear hfz52_0
                      try clear hfz52_1
                      try clear hfz58_0
                      try clear hfz58_1
                      try clear hfz61_0
                      try clear hfz61_1
                      try clear hfz61_2
                      try clear hfz61_3
                      try clear hfz61_4
                      try clear hfz61_5
                      try clear hfz67_0
                      try clear hfz67_1
                      try clear hfz71_0
                      try clear hfz71_1
                      try clear p2
                      obtain ⟨kq, x41_61, rfl, HA, HJ61, BK178, BK179, BK180, BK182, HB⟩ := hcut
                      cases kq with
                      | zero => exact absurd HA.out (by simp [vitrineref05_Apply.j4])
                      | succ kj61 =>
                        have H := HA.out
                        clear HA
                        simp only [vitrineref05_Apply.j4] at H
                        by_cases c72 : x41_61 = true
                        · subst c72
                          have H1 : (if a0_0 = 67 then (some (a1_0, a1_1, x183002_31, x183003_52, a0_1, a0_1, 0)) else (if a0_0 = 0 then (some (a1_0, a1_1, x183002_31, x183003_52, a0_1, a0_1, 0)) else (some (a1_0, a1_1, x183002_31, x183003_52, a0_1, a1_5, 0)))) = some (r1, r2, r3, r4, r5, r6, r7) := by rw [if_pos rfl] at H; exact H
                          clear H
                          have H := H1
                          clear H1
                          by_cases c73 : a0_0 = 67
                          · rw [if_pos c73] at H
                            have c73b0 : (a0_0 == 67) = true := beq_iff_eq.mpr c73
                            have c73b1 : (a0_0 != 67) = false := bne_eq_false_iff_eq.mpr c73
                            clear c73
                            simp only [Option.some.injEq, Prod.mk.injEq] at H
                            obtain ⟨rfl, rfl, rfl, rfl, rfl, rfl, rfl⟩ := H
                            have hnb74 := NB178_179.out
                            have hnc74 := NB179_178.out
                            have hnb75 := NB178_180.out
                            have hnc75 := NB180_178.out
                            have hnb76 := NB178_182.out
                            have hnc76 := NB182_178.out
                            have hcz77_0 : wc.cell? ⟨gb178, 0, none⟩ = some (.int .u8 a0_0) := (blk_cell BK178.out 0).trans rfl
                            have hcz77_1 : wc.cell? ⟨gb178, 1, none⟩ = some (.int .u8 a0_1) := (blk_cell BK178.out 1).trans rfl
                            have hfz77_0 := blk_frozen BK178.out 0
                            have hfz77_1 := blk_frozen BK178.out 1
                            have hnb78 := NB182_179.out
                            have hnc78 := NB179_182.out
                            have hnb79 := NB182_180.out
                            have hnc79 := NB180_182.out
                            have hcz80_0 : wc.cell? ⟨gb182, 0, none⟩ = some (.int .u8 a1_0) := (blk_cell BK182.out 0).trans rfl
                            have hcz80_1 : wc.cell? ⟨gb182, 1, none⟩ = some (.bool a1_1) := (blk_cell BK182.out 1).trans rfl
                            have hcz80_2 : wc.cell? ⟨gb182, 2, none⟩ = some (.int .u8 x183002_31) := (blk_cell BK182.out 2).trans rfl
                            have hcz80_3 : wc.cell? ⟨gb182, 3, none⟩ = some (.int .u8 x183003_52) := (blk_cell BK182.out 3).trans rfl
                            have hcz80_4 : wc.cell? ⟨gb182, 4, none⟩ = some (.int .u8 a1_4) := (blk_cell BK182.out 4).trans rfl
                            have hcz80_5 : wc.cell? ⟨gb182, 5, none⟩ = some (.int .u8 a1_5) := (blk_cell BK182.out 5).trans rfl
                            have hfz80_0 := blk_frozen BK182.out 0
                            have hfz80_1 := blk_frozen BK182.out 1
                            have hfz80_2 := blk_frozen BK182.out 2
                            have hfz80_3 := blk_frozen BK182.out 3
                            have hfz80_4 := blk_frozen BK182.out 4
                            have hfz80_5 := blk_frozen BK182.out 5
                            have hnb81 := NB180_179.out
                            have hnc81 := NB179_180.out
                            have hcz82_0 : wc.cell? ⟨gb180, 0, none⟩ = some (.int .u8 0) := (blk_cell BK180.out 0).trans rfl
                            have hcz82_1 : wc.cell? ⟨gb180, 1, none⟩ = some (.bool false) := (blk_cell BK180.out 1).trans rfl
                            have hcz82_2 : wc.cell? ⟨gb180, 2, none⟩ = some (.int .u8 0) := (blk_cell BK180.out 2).trans rfl
                            have hcz82_3 : wc.cell? ⟨gb180, 3, none⟩ = some (.int .u8 0) := (blk_cell BK180.out 3).trans rfl
                            have hcz82_4 : wc.cell? ⟨gb180, 4, none⟩ = some (.int .u8 0) := (blk_cell BK180.out 4).trans rfl
                            have hcz82_5 : wc.cell? ⟨gb180, 5, none⟩ = some (.int .u8 0) := (blk_cell BK180.out 5).trans rfl
                            have hfz82_0 := blk_frozen BK180.out 0
                            have hfz82_1 := blk_frozen BK180.out 1
                            have hfz82_2 := blk_frozen BK180.out 2
                            have hfz82_3 := blk_frozen BK180.out 3
                            have hfz82_4 := blk_frozen BK180.out 4
                            have hfz82_5 := blk_frozen BK180.out 5
                            go_wp2
                            refine bodyPost_ret (results_ct rfl _ _ gb180 38 #[.int .u8 a1_0, .bool a1_1, .int .u8 x183002_31, .int .u8 x183003_52, .int .u8 a0_1, .int .u8 a0_1] (0, 0) _ rfl (by (with_reducible repeat (first | refine blk_drewN ?_ _ | refine blk_drew ?_ | refine blk_alloc ?_ _)); refine blk_put (cs := #[.int .u8 a1_0, .bool a1_1, .int .u8 x183002_31, .int .u8 x183003_52, .int .u8 a0_1, .int .u8 0]) ?_ 5 _ rfl; (with_reducible repeat (first | refine blk_drewN ?_ _ | refine blk_drew ?_ | refine blk_alloc ?_ _)); refine blk_put (cs := #[.int .u8 a1_0, .bool a1_1, .int .u8 x183002_31, .int .u8 x183003_52, .int .u8 0, .int .u8 0]) ?_ 4 _ rfl; (with_reducible repeat (first | refine blk_drewN ?_ _ | refine blk_drew ?_ | refine blk_alloc ?_ _)); refine blk_put (cs := #[.int .u8 a1_0, .bool a1_1, .int .u8 x183002_31, .int .u8 0, .int .u8 0, .int .u8 0]) ?_ 3 _ rfl; (with_reducible repeat (first | refine blk_drewN ?_ _ | refine blk_drew ?_ | refine blk_alloc ?_ _)); refine blk_put (cs := #[.int .u8 a1_0, .bool a1_1, .int .u8 0, .int .u8 0, .int .u8 0, .int .u8 0]) ?_ 2 _ rfl; (with_reducible repeat (first | refine blk_drewN ?_ _ | refine blk_drew ?_ | refine blk_alloc ?_ _)); refine blk_put (cs := #[.int .u8 a1_0, .bool false, .int .u8 0, .int .u8 0, .int .u8 0, .int .u8 0]) ?_ 1 _ rfl; (with_reducible repeat (first | refine blk_drewN ?_ _ | refine blk_drew ?_ | refine blk_alloc ?_ _)); refine blk_put (cs := #[.int .u8 0, .bool false, .int .u8 0, .int .u8 0, .int .u8 0, .int .u8 0]) ?_ 0 _ rfl; (with_reducible repeat (first | refine blk_drewN ?_ _ | refine blk_drew ?_ | refine blk_alloc ?_ _)); refine blk_far ?_ NB180_182.out _; (with_reducible repeat (first | refine blk_drewN ?_ _ | refine blk_drew ?_ | refine blk_alloc ?_ _)); refine blk_far ?_ NB180_182.out _; (with_reducible repeat (first | refine blk_drewN ?_ _ | refine blk_drew ?_ | refine blk_alloc ?_ _)); exact BK180.out) Try.underlying38 rfl (by kernel_rfl)) rfl ?_
                            exact ⟨by first | rfl | (simp [errW_none, errW_some] <;> rfl) | (simp [*, errW_none, errW_some] <;> rfl), by repeat (first | (with_reducible first | exact HB.out | apply below_alloc | apply pw_below_drewN | apply below_drew1 | refine below_set ?_ GE178.out | refine below_set ?_ GE179.out | refine below_set ?_ GE180.out | refine below_set ?_ GE182.out) | exact HB.out)⟩
                          · rw [if_neg c73] at H
                            have c73b0 : (a0_0 == 67) = false := beq_eq_false_iff_ne.mpr c73
                            have c73b1 : (a0_0 != 67) = true := bne_iff_ne.mpr c73
                            by_cases c83 : a0_0 = 0
                            · rw [if_pos c83] at H
                              have c83b0 : (a0_0 == 0) = true := beq_iff_eq.mpr c83
                              have c83b1 : (a0_0 != 0) = false := bne_eq_false_iff_eq.mpr c83
                              clear c83
                              simp only [Option.some.injEq, Prod.mk.injEq] at H
                              obtain ⟨rfl, rfl, rfl, rfl, rfl, rfl, rfl⟩ := H
                              have hnb84 := NB178_179.out
                              have hnc84 := NB179_178.out
                              have hnb85 := NB178_180.out
                              have hnc85 := NB180_178.out
                              have hnb86 := NB178_182.out
                              have hnc86 := NB182_178.out
                              have hcz87_0 : wc.cell? ⟨gb178, 0, none⟩ = some (.int .u8 a0_0) := (blk_cell BK178.out 0).trans rfl
                              have hcz87_1 : wc.cell? ⟨gb178, 1, none⟩ = some (.int .u8 a0_1) := (blk_cell BK178.out 1).trans rfl
                              have hfz87_0 := blk_frozen BK178.out 0
                              have hfz87_1 := blk_frozen BK178.out 1
                              have hnb88 := NB182_179.out
                              have hnc88 := NB179_182.out
                              have hnb89 := NB182_180.out
                              have hnc89 := NB180_182.out
                              have hcz90_0 : wc.cell? ⟨gb182, 0, none⟩ = some (.int .u8 a1_0) := (blk_cell BK182.out 0).trans rfl
                              have hcz90_1 : wc.cell? ⟨gb182, 1, none⟩ = some (.bool a1_1) := (blk_cell BK182.out 1).trans rfl
                              have hcz90_2 : wc.cell? ⟨gb182, 2, none⟩ = some (.int .u8 x183002_31) := (blk_cell BK182.out 2).trans rfl
                              have hcz90_3 : wc.cell? ⟨gb182, 3, none⟩ = some (.int .u8 x183003_52) := (blk_cell BK182.out 3).trans rfl
                              have hcz90_4 : wc.cell? ⟨gb182, 4, none⟩ = some (.int .u8 a1_4) := (blk_cell BK182.out 4).trans rfl
                              have hcz90_5 : wc.cell? ⟨gb182, 5, none⟩ = some (.int .u8 a1_5) := (blk_cell BK182.out 5).trans rfl
                              have hfz90_0 := blk_frozen BK182.out 0
                              have hfz90_1 := blk_frozen BK182.out 1
                              have hfz90_2 := blk_frozen BK182.out 2
                              have hfz90_3 := blk_frozen BK182.out 3
                              have hfz90_4 := blk_frozen BK182.out 4
                              have hfz90_5 := blk_frozen BK182.out 5
                              have hnb91 := NB180_179.out
                              have hnc91 := NB179_180.out
                              have hcz92_0 : wc.cell? ⟨gb180, 0, none⟩ = some (.int .u8 0) := (blk_cell BK180.out 0).trans rfl
                              have hcz92_1 : wc.cell? ⟨gb180, 1, none⟩ = some (.bool false) := (blk_cell BK180.out 1).trans rfl
                              have hcz92_2 : wc.cell? ⟨gb180, 2, none⟩ = some (.int .u8 0) := (blk_cell BK180.out 2).trans rfl
                              have hcz92_3 : wc.cell? ⟨gb180, 3, none⟩ = some (.int .u8 0) := (blk_cell BK180.out 3).trans rfl
                              have hcz92_4 : wc.cell? ⟨gb180, 4, none⟩ = some (.int .u8 0) := (blk_cell BK180.out 4).trans rfl
                              have hcz92_5 : wc.cell? ⟨gb180, 5, none⟩ = some (.int .u8 0) := (blk_cell BK180.out 5).trans rfl
                              have hfz92_0 := blk_frozen BK180.out 0
                              have hfz92_1 := blk_frozen BK180.out 1
                              have hfz92_2 := blk_frozen BK180.out 2
                              have hfz92_3 := blk_frozen BK180.out 3
                              have hfz92_4 := blk_frozen BK180.out 4
                              have hfz92_5 := blk_frozen BK180.out 5
                              go_wp2
                              refine bodyPost_ret (results_ct rfl _ _ gb180 38 #[.int .u8 a1_0, .bool a1_1, .int .u8 x183002_31, .int .u8 x183003_52, .int .u8 a0_1, .int .u8 a0_1] (0, 0) _ rfl (by (with_reducible repeat (first | refine blk_drewN ?_ _ | refine blk_drew ?_ | refine blk_alloc ?_ _)); refine blk_put (cs := #[.int .u8 a1_0, .bool a1_1, .int .u8 x183002_31, .int .u8 x183003_52, .int .u8 a0_1, .int .u8 0]) ?_ 5 _ rfl; (with_reducible repeat (first | refine blk_drewN ?_ _ | refine blk_drew ?_ | refine blk_alloc ?_ _)); refine blk_put (cs := #[.int .u8 a1_0, .bool a1_1, .int .u8 x183002_31, .int .u8 x183003_52, .int .u8 0, .int .u8 0]) ?_ 4 _ rfl; (with_reducible repeat (first | refine blk_drewN ?_ _ | refine blk_drew ?_ | refine blk_alloc ?_ _)); refine blk_put (cs := #[.int .u8 a1_0, .bool a1_1, .int .u8 x183002_31, .int .u8 0, .int .u8 0, .int .u8 0]) ?_ 3 _ rfl; (with_reducible repeat (first | refine blk_drewN ?_ _ | refine blk_drew ?_ | refine blk_alloc ?_ _)); refine blk_put (cs := #[.int .u8 a1_0, .bool a1_1, .int .u8 0, .int .u8 0, .int .u8 0, .int .u8 0]) ?_ 2 _ rfl; (with_reducible repeat (first | refine blk_drewN ?_ _ | refine blk_drew ?_ | refine blk_alloc ?_ _)); refine blk_put (cs := #[.int .u8 a1_0, .bool false, .int .u8 0, .int .u8 0, .int .u8 0, .int .u8 0]) ?_ 1 _ rfl; (with_reducible repeat (first | refine blk_drewN ?_ _ | refine blk_drew ?_ | refine blk_alloc ?_ _)); refine blk_put (cs := #[.int .u8 0, .bool false, .int .u8 0, .int .u8 0, .int .u8 0, .int .u8 0]) ?_ 0 _ rfl; (with_reducible repeat (first | refine blk_drewN ?_ _ | refine blk_drew ?_ | refine blk_alloc ?_ _)); refine blk_far ?_ NB180_182.out _; (with_reducible repeat (first | refine blk_drewN ?_ _ | refine blk_drew ?_ | refine blk_alloc ?_ _)); refine blk_far ?_ NB180_182.out _; (with_reducible repeat (first | refine blk_drewN ?_ _ | refine blk_drew ?_ | refine blk_alloc ?_ _)); exact BK180.out) Try.underlying38 rfl (by kernel_rfl)) rfl ?_
                              exact ⟨by first | rfl | (simp [errW_none, errW_some] <;> rfl) | (simp [*, errW_none, errW_some] <;> rfl), by repeat (first | (with_reducible first | exact HB.out | apply below_alloc | apply pw_below_drewN | apply below_drew1 | refine below_set ?_ GE178.out | refine below_set ?_ GE179.out | refine below_set ?_ GE180.out | refine below_set ?_ GE182.out) | exact HB.out)⟩
                            · rw [if_neg c83] at H
                              have c83b0 : (a0_0 == 0) = false := beq_eq_false_iff_ne.mpr c83
                              have c83b1 : (a0_0 != 0) = true := bne_iff_ne.mpr c83
                              simp only [Option.some.injEq, Prod.mk.injEq] at H
                              obtain ⟨rfl, rfl, rfl, rfl, rfl, rfl, rfl⟩ := H
                              have hnb93 := NB178_179.out
                              have hnc93 := NB179_178.out
                              have hnb94 := NB178_180.out
                              have hnc94 := NB180_178.out
                              have hnb95 := NB178_182.out
                              have hnc95 := NB182_178.out
                              have hcz96_0 : wc.cell? ⟨gb178, 0, none⟩ = some (.int .u8 a0_0) := (blk_cell BK178.out 0).trans rfl
                              have hcz96_1 : wc.cell? ⟨gb178, 1, none⟩ = some (.int .u8 a0_1) := (blk_cell BK178.out 1).trans rfl
                              have hfz96_0 := blk_frozen BK178.out 0
                              have hfz96_1 := blk_frozen BK178.out 1
                              have hnb97 := NB182_179.out
                              have hnc97 := NB179_182.out
                              have hnb98 := NB182_180.out
                              have hnc98 := NB180_182.out
                              have hcz99_0 : wc.cell? ⟨gb182, 0, none⟩ = some (.int .u8 a1_0) := (blk_cell BK182.out 0).trans rfl
                              have hcz99_1 : wc.cell? ⟨gb182, 1, none⟩ = some (.bool a1_1) := (blk_cell BK182.out 1).trans rfl
                              have hcz99_2 : wc.cell? ⟨gb182, 2, none⟩ = some (.int .u8 x183002_31) := (blk_cell BK182.out 2).trans rfl
                              have hcz99_3 : wc.cell? ⟨gb182, 3, none⟩ = some (.int .u8 x183003_52) := (blk_cell BK182.out 3).trans rfl
                              have hcz99_4 : wc.cell? ⟨gb182, 4, none⟩ = some (.int .u8 a1_4) := (blk_cell BK182.out 4).trans rfl
                              have hcz99_5 : wc.cell? ⟨gb182, 5, none⟩ = some (.int .u8 a1_5) := (blk_cell BK182.out 5).trans rfl
                              have hfz99_0 := blk_frozen BK182.out 0
                              have hfz99_1 := blk_frozen BK182.out 1
                              have hfz99_2 := blk_frozen BK182.out 2
                              have hfz99_3 := blk_frozen BK182.out 3
                              have hfz99_4 := blk_frozen BK182.out 4
                              have hfz99_5 := blk_frozen BK182.out 5
                              have hnb100 := NB180_179.out
                              have hnc100 := NB179_180.out
                              have hcz101_0 : wc.cell? ⟨gb180, 0, none⟩ = some (.int .u8 0) := (blk_cell BK180.out 0).trans rfl
                              have hcz101_1 : wc.cell? ⟨gb180, 1, none⟩ = some (.bool false) := (blk_cell BK180.out 1).trans rfl
                              have hcz101_2 : wc.cell? ⟨gb180, 2, none⟩ = some (.int .u8 0) := (blk_cell BK180.out 2).trans rfl
                              have hcz101_3 : wc.cell? ⟨gb180, 3, none⟩ = some (.int .u8 0) := (blk_cell BK180.out 3).trans rfl
                              have hcz101_4 : wc.cell? ⟨gb180, 4, none⟩ = some (.int .u8 0) := (blk_cell BK180.out 4).trans rfl
                              have hcz101_5 : wc.cell? ⟨gb180, 5, none⟩ = some (.int .u8 0) := (blk_cell BK180.out 5).trans rfl
                              have hfz101_0 := blk_frozen BK180.out 0
                              have hfz101_1 := blk_frozen BK180.out 1
                              have hfz101_2 := blk_frozen BK180.out 2
                              have hfz101_3 := blk_frozen BK180.out 3
                              have hfz101_4 := blk_frozen BK180.out 4
                              have hfz101_5 := blk_frozen BK180.out 5
                              go_wp2
                              refine bodyPost_ret (results_ct rfl _ _ gb180 38 #[.int .u8 a1_0, .bool a1_1, .int .u8 x183002_31, .int .u8 x183003_52, .int .u8 a0_1, .int .u8 a1_5] (0, 0) _ rfl (by (with_reducible repeat (first | refine blk_drewN ?_ _ | refine blk_drew ?_ | refine blk_alloc ?_ _)); refine blk_put (cs := #[.int .u8 a1_0, .bool a1_1, .int .u8 x183002_31, .int .u8 x183003_52, .int .u8 a0_1, .int .u8 0]) ?_ 5 _ rfl; (with_reducible repeat (first | refine blk_drewN ?_ _ | refine blk_drew ?_ | refine blk_alloc ?_ _)); refine blk_put (cs := #[.int .u8 a1_0, .bool a1_1, .int .u8 x183002_31, .int .u8 x183003_52, .int .u8 0, .int .u8 0]) ?_ 4 _ rfl; (with_reducible repeat (first | refine blk_drewN ?_ _ | refine blk_drew ?_ | refine blk_alloc ?_ _)); refine blk_put (cs := #[.int .u8 a1_0, .bool a1_1, .int .u8 x183002_31, .int .u8 0, .int .u8 0, .int .u8 0]) ?_ 3 _ rfl; (with_reducible repeat (first | refine blk_drewN ?_ _ | refine blk_drew ?_ | refine blk_alloc ?_ _)); refine blk_put (cs := #[.int .u8 a1_0, .bool a1_1, .int .u8 0, .int .u8 0, .int .u8 0, .int .u8 0]) ?_ 2 _ rfl; (with_reducible repeat (first | refine blk_drewN ?_ _ | refine blk_drew ?_ | refine blk_alloc ?_ _)); refine blk_put (cs := #[.int .u8 a1_0, .bool false, .int .u8 0, .int .u8 0, .int .u8 0, .int .u8 0]) ?_ 1 _ rfl; (with_reducible repeat (first | refine blk_drewN ?_ _ | refine blk_drew ?_ | refine blk_alloc ?_ _)); refine blk_put (cs := #[.int .u8 0, .bool false, .int .u8 0, .int .u8 0, .int .u8 0, .int .u8 0]) ?_ 0 _ rfl; (with_reducible repeat (first | refine blk_drewN ?_ _ | refine blk_drew ?_ | refine blk_alloc ?_ _)); refine blk_far ?_ NB180_182.out _; (with_reducible repeat (first | refine blk_drewN ?_ _ | refine blk_drew ?_ | refine blk_alloc ?_ _)); exact BK180.out) Try.underlying38 rfl (by kernel_rfl)) rfl ?_
                              exact ⟨by first | rfl | (simp [errW_none, errW_some] <;> rfl) | (simp [*, errW_none, errW_some] <;> rfl), by repeat (first | (with_reducible first | exact HB.out | apply below_alloc | apply pw_below_drewN | apply below_drew1 | refine below_set ?_ GE178.out | refine below_set ?_ GE179.out | refine below_set ?_ GE180.out | refine below_set ?_ GE182.out) | exact HB.out)⟩
                        · replace c72 := Bool.eq_false_iff.mpr c72
                          subst c72
                          have H1 : (if a0_0 = 67 then (some (a1_0, a1_1, x183002_31, x183003_52, a1_4, a0_1, 0)) else (if a0_0 = 0 then (some (a1_0, a1_1, x183002_31, x183003_52, a1_4, a0_1, 0)) else (some (a1_0, a1_1, x183002_31, x183003_52, a1_4, a1_5, 0)))) = some (r1, r2, r3, r4, r5, r6, r7) := by rw [if_neg (show ¬ (false = true) by decide)] at H; exact H
                          clear H
                          have H := H1
                          clear H1
                          by_cases c102 : a0_0 = 67
                          · rw [if_pos c102] at H
                            have c102b0 : (a0_0 == 67) = true := beq_iff_eq.mpr c102
                            have c102b1 : (a0_0 != 67) = false := bne_eq_false_iff_eq.mpr c102
                            clear c102
                            simp only [Option.some.injEq, Prod.mk.injEq] at H
                            obtain ⟨rfl, rfl, rfl, rfl, rfl, rfl, rfl⟩ := H
                            have hnb103 := NB178_179.out
                            have hnc103 := NB179_178.out
                            have hnb104 := NB178_180.out
                            have hnc104 := NB180_178.out
                            have hnb105 := NB178_182.out
                            have hnc105 := NB182_178.out
                            have hcz106_0 : wc.cell? ⟨gb178, 0, none⟩ = some (.int .u8 a0_0) := (blk_cell BK178.out 0).trans rfl
                            have hcz106_1 : wc.cell? ⟨gb178, 1, none⟩ = some (.int .u8 a0_1) := (blk_cell BK178.out 1).trans rfl
                            have hfz106_0 := blk_frozen BK178.out 0
                            have hfz106_1 := blk_frozen BK178.out 1
                            have hnb107 := NB182_179.out
                            have hnc107 := NB179_182.out
                            have hnb108 := NB182_180.out
                            have hnc108 := NB180_182.out
                            have hcz109_0 : wc.cell? ⟨gb182, 0, none⟩ = some (.int .u8 a1_0) := (blk_cell BK182.out 0).trans rfl
                            have hcz109_1 : wc.cell? ⟨gb182, 1, none⟩ = some (.bool a1_1) := (blk_cell BK182.out 1).trans rfl
                            have hcz109_2 : wc.cell? ⟨gb182, 2, none⟩ = some (.int .u8 x183002_31) := (blk_cell BK182.out 2).trans rfl
                            have hcz109_3 : wc.cell? ⟨gb182, 3, none⟩ = some (.int .u8 x183003_52) := (blk_cell BK182.out 3).trans rfl
                            have hcz109_4 : wc.cell? ⟨gb182, 4, none⟩ = some (.int .u8 a1_4) := (blk_cell BK182.out 4).trans rfl
                            have hcz109_5 : wc.cell? ⟨gb182, 5, none⟩ = some (.int .u8 a1_5) := (blk_cell BK182.out 5).trans rfl
                            have hfz109_0 := blk_frozen BK182.out 0
                            have hfz109_1 := blk_frozen BK182.out 1
                            have hfz109_2 := blk_frozen BK182.out 2
                            have hfz109_3 := blk_frozen BK182.out 3
                            have hfz109_4 := blk_frozen BK182.out 4
                            have hfz109_5 := blk_frozen BK182.out 5
                            have hnb110 := NB180_179.out
                            have hnc110 := NB179_180.out
                            have hcz111_0 : wc.cell? ⟨gb180, 0, none⟩ = some (.int .u8 0) := (blk_cell BK180.out 0).trans rfl
                            have hcz111_1 : wc.cell? ⟨gb180, 1, none⟩ = some (.bool false) := (blk_cell BK180.out 1).trans rfl
                            have hcz111_2 : wc.cell? ⟨gb180, 2, none⟩ = some (.int .u8 0) := (blk_cell BK180.out 2).trans rfl
                            have hcz111_3 : wc.cell? ⟨gb180, 3, none⟩ = some (.int .u8 0) := (blk_cell BK180.out 3).trans rfl
                            have hcz111_4 : wc.cell? ⟨gb180, 4, none⟩ = some (.int .u8 0) := (blk_cell BK180.out 4).trans rfl
                            have hcz111_5 : wc.cell? ⟨gb180, 5, none⟩ = some (.int .u8 0) := (blk_cell BK180.out 5).trans rfl
                            have hfz111_0 := blk_frozen BK180.out 0
                            have hfz111_1 := blk_frozen BK180.out 1
                            have hfz111_2 := blk_frozen BK180.out 2
                            have hfz111_3 := blk_frozen BK180.out 3
                            have hfz111_4 := blk_frozen BK180.out 4
                            have hfz111_5 := blk_frozen BK180.out 5
                            go_wp2
                            refine bodyPost_ret (results_ct rfl _ _ gb180 38 #[.int .u8 a1_0, .bool a1_1, .int .u8 x183002_31, .int .u8 x183003_52, .int .u8 a1_4, .int .u8 a0_1] (0, 0) _ rfl (by (with_reducible repeat (first | refine blk_drewN ?_ _ | refine blk_drew ?_ | refine blk_alloc ?_ _)); refine blk_put (cs := #[.int .u8 a1_0, .bool a1_1, .int .u8 x183002_31, .int .u8 x183003_52, .int .u8 a1_4, .int .u8 0]) ?_ 5 _ rfl; (with_reducible repeat (first | refine blk_drewN ?_ _ | refine blk_drew ?_ | refine blk_alloc ?_ _)); refine blk_put (cs := #[.int .u8 a1_0, .bool a1_1, .int .u8 x183002_31, .int .u8 x183003_52, .int .u8 0, .int .u8 0]) ?_ 4 _ rfl; (with_reducible repeat (first | refine blk_drewN ?_ _ | refine blk_drew ?_ | refine blk_alloc ?_ _)); refine blk_put (cs := #[.int .u8 a1_0, .bool a1_1, .int .u8 x183002_31, .int .u8 0, .int .u8 0, .int .u8 0]) ?_ 3 _ rfl; (with_reducible repeat (first | refine blk_drewN ?_ _ | refine blk_drew ?_ | refine blk_alloc ?_ _)); refine blk_put (cs := #[.int .u8 a1_0, .bool a1_1, .int .u8 0, .int .u8 0, .int .u8 0, .int .u8 0]) ?_ 2 _ rfl; (with_reducible repeat (first | refine blk_drewN ?_ _ | refine blk_drew ?_ | refine blk_alloc ?_ _)); refine blk_put (cs := #[.int .u8 a1_0, .bool false, .int .u8 0, .int .u8 0, .int .u8 0, .int .u8 0]) ?_ 1 _ rfl; (with_reducible repeat (first | refine blk_drewN ?_ _ | refine blk_drew ?_ | refine blk_alloc ?_ _)); refine blk_put (cs := #[.int .u8 0, .bool false, .int .u8 0, .int .u8 0, .int .u8 0, .int .u8 0]) ?_ 0 _ rfl; (with_reducible repeat (first | refine blk_drewN ?_ _ | refine blk_drew ?_ | refine blk_alloc ?_ _)); refine blk_far ?_ NB180_182.out _; (with_reducible repeat (first | refine blk_drewN ?_ _ | refine blk_drew ?_ | refine blk_alloc ?_ _)); exact BK180.out) Try.underlying38 rfl (by kernel_rfl)) rfl ?_
                            exact ⟨by first | rfl | (simp [errW_none, errW_some] <;> rfl) | (simp [*, errW_none, errW_some] <;> rfl), by repeat (first | (with_reducible first | exact HB.out | apply below_alloc | apply pw_below_drewN | apply below_drew1 | refine below_set ?_ GE178.out | refine below_set ?_ GE179.out | refine below_set ?_ GE180.out | refine below_set ?_ GE182.out) | exact HB.out)⟩
                          · rw [if_neg c102] at H
                            have c102b0 : (a0_0 == 67) = false := beq_eq_false_iff_ne.mpr c102
                            have c102b1 : (a0_0 != 67) = true := bne_iff_ne.mpr c102
                            by_cases c112 : a0_0 = 0
                            · rw [if_pos c112] at H
                              have c112b0 : (a0_0 == 0) = true := beq_iff_eq.mpr c112
                              have c112b1 : (a0_0 != 0) = false := bne_eq_false_iff_eq.mpr c112
                              clear c112
                              simp only [Option.some.injEq, Prod.mk.injEq] at H
                              obtain ⟨rfl, rfl, rfl, rfl, rfl, rfl, rfl⟩ := H
                              have hnb113 := NB178_179.out
                              have hnc113 := NB179_178.out
                              have hnb114 := NB178_180.out
                              have hnc114 := NB180_178.out
                              have hnb115 := NB178_182.out
                              have hnc115 := NB182_178.out
                              have hcz116_0 : wc.cell? ⟨gb178, 0, none⟩ = some (.int .u8 a0_0) := (blk_cell BK178.out 0).trans rfl
                              have hcz116_1 : wc.cell? ⟨gb178, 1, none⟩ = some (.int .u8 a0_1) := (blk_cell BK178.out 1).trans rfl
                              have hfz116_0 := blk_frozen BK178.out 0
                              have hfz116_1 := blk_frozen BK178.out 1
                              have hnb117 := NB182_179.out
                              have hnc117 := NB179_182.out
                              have hnb118 := NB182_180.out
                              have hnc118 := NB180_182.out
                              have hcz119_0 : wc.cell? ⟨gb182, 0, none⟩ = some (.int .u8 a1_0) := (blk_cell BK182.out 0).trans rfl
                              have hcz119_1 : wc.cell? ⟨gb182, 1, none⟩ = some (.bool a1_1) := (blk_cell BK182.out 1).trans rfl
                              have hcz119_2 : wc.cell? ⟨gb182, 2, none⟩ = some (.int .u8 x183002_31) := (blk_cell BK182.out 2).trans rfl
                              have hcz119_3 : wc.cell? ⟨gb182, 3, none⟩ = some (.int .u8 x183003_52) := (blk_cell BK182.out 3).trans rfl
                              have hcz119_4 : wc.cell? ⟨gb182, 4, none⟩ = some (.int .u8 a1_4) := (blk_cell BK182.out 4).trans rfl
                              have hcz119_5 : wc.cell? ⟨gb182, 5, none⟩ = some (.int .u8 a1_5) := (blk_cell BK182.out 5).trans rfl
                              have hfz119_0 := blk_frozen BK182.out 0
                              have hfz119_1 := blk_frozen BK182.out 1
                              have hfz119_2 := blk_frozen BK182.out 2
                              have hfz119_3 := blk_frozen BK182.out 3
                              have hfz119_4 := blk_frozen BK182.out 4
                              have hfz119_5 := blk_frozen BK182.out 5
                              have hnb120 := NB180_179.out
                              have hnc120 := NB179_180.out
                              have hcz121_0 : wc.cell? ⟨gb180, 0, none⟩ = some (.int .u8 0) := (blk_cell BK180.out 0).trans rfl
                              have hcz121_1 : wc.cell? ⟨gb180, 1, none⟩ = some (.bool false) := (blk_cell BK180.out 1).trans rfl
                              have hcz121_2 : wc.cell? ⟨gb180, 2, none⟩ = some (.int .u8 0) := (blk_cell BK180.out 2).trans rfl
                              have hcz121_3 : wc.cell? ⟨gb180, 3, none⟩ = some (.int .u8 0) := (blk_cell BK180.out 3).trans rfl
                              have hcz121_4 : wc.cell? ⟨gb180, 4, none⟩ = some (.int .u8 0) := (blk_cell BK180.out 4).trans rfl
                              have hcz121_5 : wc.cell? ⟨gb180, 5, none⟩ = some (.int .u8 0) := (blk_cell BK180.out 5).trans rfl
                              have hfz121_0 := blk_frozen BK180.out 0
                              have hfz121_1 := blk_frozen BK180.out 1
                              have hfz121_2 := blk_frozen BK180.out 2
                              have hfz121_3 := blk_frozen BK180.out 3
                              have hfz121_4 := blk_frozen BK180.out 4
                              have hfz121_5 := blk_frozen BK180.out 5
                              go_wp2
                              refine bodyPost_ret (results_ct rfl _ _ gb180 38 #[.int .u8 a1_0, .bool a1_1, .int .u8 x183002_31, .int .u8 x183003_52, .int .u8 a1_4, .int .u8 a0_1] (0, 0) _ rfl (by (with_reducible repeat (first | refine blk_drewN ?_ _ | refine blk_drew ?_ | refine blk_alloc ?_ _)); refine blk_put (cs := #[.int .u8 a1_0, .bool a1_1, .int .u8 x183002_31, .int .u8 x183003_52, .int .u8 a1_4, .int .u8 0]) ?_ 5 _ rfl; (with_reducible repeat (first | refine blk_drewN ?_ _ | refine blk_drew ?_ | refine blk_alloc ?_ _)); refine blk_put (cs := #[.int .u8 a1_0, .bool a1_1, .int .u8 x183002_31, .int .u8 x183003_52, .int .u8 0, .int .u8 0]) ?_ 4 _ rfl; (with_reducible repeat (first | refine blk_drewN ?_ _ | refine blk_drew ?_ | refine blk_alloc ?_ _)); refine blk_put (cs := #[.int .u8 a1_0, .bool a1_1, .int .u8 x183002_31, .int .u8 0, .int .u8 0, .int .u8 0]) ?_ 3 _ rfl; (with_reducible repeat (first | refine blk_drewN ?_ _ | refine blk_drew ?_ | refine blk_alloc ?_ _)); refine blk_put (cs := #[.int .u8 a1_0, .bool a1_1, .int .u8 0, .int .u8 0, .int .u8 0, .int .u8 0]) ?_ 2 _ rfl; (with_reducible repeat (first | refine blk_drewN ?_ _ | refine blk_drew ?_ | refine blk_alloc ?_ _)); refine blk_put (cs := #[.int .u8 a1_0, .bool false, .int .u8 0, .int .u8 0, .int .u8 0, .int .u8 0]) ?_ 1 _ rfl; (with_reducible repeat (first | refine blk_drewN ?_ _ | refine blk_drew ?_ | refine blk_alloc ?_ _)); refine blk_put (cs := #[.int .u8 0, .bool false, .int .u8 0, .int .u8 0, .int .u8 0, .int .u8 0]) ?_ 0 _ rfl; (with_reducible repeat (first | refine blk_drewN ?_ _ | refine blk_drew ?_ | refine blk_alloc ?_ _)); refine blk_far ?_ NB180_182.out _; (with_reducible repeat (first | refine blk_drewN ?_ _ | refine blk_drew ?_ | refine blk_alloc ?_ _)); exact BK180.out) Try.underlying38 rfl (by kernel_rfl)) rfl ?_
                              exact ⟨by first | rfl | (simp [errW_none, errW_some] <;> rfl) | (simp [*, errW_none, errW_some] <;> rfl), by repeat (first | (with_reducible first | exact HB.out | apply below_alloc | apply pw_below_drewN | apply below_drew1 | refine below_set ?_ GE178.out | refine below_set ?_ GE179.out | refine below_set ?_ GE180.out | refine below_set ?_ GE182.out) | exact HB.out)⟩
                            · rw [if_neg c112] at H
                              have c112b0 : (a0_0 == 0) = false := beq_eq_false_iff_ne.mpr c112
                              have c112b1 : (a0_0 != 0) = true := bne_iff_ne.mpr c112
                              simp only [Option.some.injEq, Prod.mk.injEq] at H
                              obtain ⟨rfl, rfl, rfl, rfl, rfl, rfl, rfl⟩ := H
                              have hnb122 := NB178_179.out
                              have hnc122 := NB179_178.out
                              have hnb123 := NB178_180.out
                              have hnc123 := NB180_178.out
                              have hnb124 := NB178_182.out
                              have hnc124 := NB182_178.out
                              have hcz125_0 : wc.cell? ⟨gb178, 0, none⟩ = some (.int .u8 a0_0) := (blk_cell BK178.out 0).trans rfl
                              have hcz125_1 : wc.cell? ⟨gb178, 1, none⟩ = some (.int .u8 a0_1) := (blk_cell BK178.out 1).trans rfl
                              have hfz125_0 := blk_frozen BK178.out 0
                              have hfz125_1 := blk_frozen BK178.out 1
                              have hnb126 := NB182_179.out
                              have hnc126 := NB179_182.out
                              have hnb127 := NB182_180.out
                              have hnc127 := NB180_182.out
                              have hcz128_0 : wc.cell? ⟨gb182, 0, none⟩ = some (.int .u8 a1_0) := (blk_cell BK182.out 0).trans rfl
                              have hcz128_1 : wc.cell? ⟨gb182, 1, none⟩ = some (.bool a1_1) := (blk_cell BK182.out 1).trans rfl
                              have hcz128_2 : wc.cell? ⟨gb182, 2, none⟩ = some (.int .u8 x183002_31) := (blk_cell BK182.out 2).trans rfl
                              have hcz128_3 : wc.cell? ⟨gb182, 3, none⟩ = some (.int .u8 x183003_52) := (blk_cell BK182.out 3).trans rfl
                              have hcz128_4 : wc.cell? ⟨gb182, 4, none⟩ = some (.int .u8 a1_4) := (blk_cell BK182.out 4).trans rfl
                              have hcz128_5 : wc.cell? ⟨gb182, 5, none⟩ = some (.int .u8 a1_5) := (blk_cell BK182.out 5).trans rfl
                              have hfz128_0 := blk_frozen BK182.out 0
                              have hfz128_1 := blk_frozen BK182.out 1
                              have hfz128_2 := blk_frozen BK182.out 2
                              have hfz128_3 := blk_frozen BK182.out 3
                              have hfz128_4 := blk_frozen BK182.out 4
                              have hfz128_5 := blk_frozen BK182.out 5
                              have hnb129 := NB180_179.out
                              have hnc129 := NB179_180.out
                              have hcz130_0 : wc.cell? ⟨gb180, 0, none⟩ = some (.int .u8 0) := (blk_cell BK180.out 0).trans rfl
                              have hcz130_1 : wc.cell? ⟨gb180, 1, none⟩ = some (.bool false) := (blk_cell BK180.out 1).trans rfl
                              have hcz130_2 : wc.cell? ⟨gb180, 2, none⟩ = some (.int .u8 0) := (blk_cell BK180.out 2).trans rfl
                              have hcz130_3 : wc.cell? ⟨gb180, 3, none⟩ = some (.int .u8 0) := (blk_cell BK180.out 3).trans rfl
                              have hcz130_4 : wc.cell? ⟨gb180, 4, none⟩ = some (.int .u8 0) := (blk_cell BK180.out 4).trans rfl
                              have hcz130_5 : wc.cell? ⟨gb180, 5, none⟩ = some (.int .u8 0) := (blk_cell BK180.out 5).trans rfl
                              have hfz130_0 := blk_frozen BK180.out 0
                              have hfz130_1 := blk_frozen BK180.out 1
                              have hfz130_2 := blk_frozen BK180.out 2
                              have hfz130_3 := blk_frozen BK180.out 3
                              have hfz130_4 := blk_frozen BK180.out 4
                              have hfz130_5 := blk_frozen BK180.out 5
                              go_wp2
                              refine bodyPost_ret (results_ct rfl _ _ gb180 38 #[.int .u8 a1_0, .bool a1_1, .int .u8 x183002_31, .int .u8 x183003_52, .int .u8 a1_4, .int .u8 a1_5] (0, 0) _ rfl (by (with_reducible repeat (first | refine blk_drewN ?_ _ | refine blk_drew ?_ | refine blk_alloc ?_ _)); refine blk_put (cs := #[.int .u8 a1_0, .bool a1_1, .int .u8 x183002_31, .int .u8 x183003_52, .int .u8 a1_4, .int .u8 0]) ?_ 5 _ rfl; (with_reducible repeat (first | refine blk_drewN ?_ _ | refine blk_drew ?_ | refine blk_alloc ?_ _)); refine blk_put (cs := #[.int .u8 a1_0, .bool a1_1, .int .u8 x183002_31, .int .u8 x183003_52, .int .u8 0, .int .u8 0]) ?_ 4 _ rfl; (with_reducible repeat (first | refine blk_drewN ?_ _ | refine blk_drew ?_ | refine blk_alloc ?_ _)); refine blk_put (cs := #[.int .u8 a1_0, .bool a1_1, .int .u8 x183002_31, .int .u8 0, .int .u8 0, .int .u8 0]) ?_ 3 _ rfl; (with_reducible repeat (first | refine blk_drewN ?_ _ | refine blk_drew ?_ | refine blk_alloc ?_ _)); refine blk_put (cs := #[.int .u8 a1_0, .bool a1_1, .int .u8 0, .int .u8 0, .int .u8 0, .int .u8 0]) ?_ 2 _ rfl; (with_reducible repeat (first | refine blk_drewN ?_ _ | refine blk_drew ?_ | refine blk_alloc ?_ _)); refine blk_put (cs := #[.int .u8 a1_0, .bool false, .int .u8 0, .int .u8 0, .int .u8 0, .int .u8 0]) ?_ 1 _ rfl; (with_reducible repeat (first | refine blk_drewN ?_ _ | refine blk_drew ?_ | refine blk_alloc ?_ _)); refine blk_put (cs := #[.int .u8 0, .bool false, .int .u8 0, .int .u8 0, .int .u8 0, .int .u8 0]) ?_ 0 _ rfl; (with_reducible repeat (first | refine blk_drewN ?_ _ | refine blk_drew ?_ | refine blk_alloc ?_ _)); exact BK180.out) Try.underlying38 rfl (by kernel_rfl)) rfl ?_
                              exact ⟨by first | rfl | (simp [errW_none, errW_some] <;> rfl) | (simp [*, errW_none, errW_some] <;> rfl), by repeat (first | (with_reducible first | exact HB.out | apply below_alloc | apply pw_below_drewN | apply below_drew1 | refine below_set ?_ GE178.out | refine below_set ?_ GE179.out | refine below_set ?_ GE180.out | refine below_set ?_ GE182.out) | exact HB.out)⟩
  · replace c4 := Bool.eq_false_iff.mpr c4
    subst c4
    have H1 : (some (0, false, 0, 0, 0, 0, 10)) = some (r1, r2, r3, r4, r5, r6, r7) := by rw [if_neg (show ¬ (false = true) by decide)] at H; exact H
    clear H
    have H := H1
    clear H1
    simp only [Option.some.injEq, Prod.mk.injEq] at H
    obtain ⟨rfl, rfl, rfl, rfl, rfl, rfl, rfl⟩ := H
    go_enter Try.func19, Try.ntmps19
    go_wp2_with (first | ((with_reducible refine gate_dst (N := 2) rfl ?_); refine box_event ?hg (N := 2) ?hd (cs := #[.int .u8 a0_0, .int .u8 a0_1]) (t := 36) ?hr ?_; (case hd => rfl); (case hg => rfl); (case hr => first | (go_simp; done) | (go_simp; rfl)); intro gb178 hg w131 hbox hb; have n0_ := Aside0.mk (below_step (by repeat (first | (with_reducible first | exact HB.out | apply below_alloc | apply pw_below_drewN | apply below_drew1) | exact HB.out)) hb); have n1_ := Aside0.mk (hbox); have n2_ := Aside0.mk ((by rw [hg]; exact (below_size (by repeat (first | (with_reducible first | exact HB.out | apply below_alloc | apply pw_below_drewN | apply below_drew1) | exact HB.out))) : w.heap.size ≤ gb178)); have n3_ := Aside0.mk ((by rw [hg]; exact (below_size (by repeat (first | (with_reducible first | exact HB.out | apply below_alloc | apply pw_below_drewN | apply below_drew1) | exact HB.out))) : w.heap.size ≤ gb178)); clear HB; have HB := n0_; have BK178 := n1_; have GW178 := n2_; have GE178 := n3_; clear n0_ n1_ n2_ n3_; clear hb hbox hg) | ((with_reducible refine gate_dst (N := 3) rfl ?_); refine box_event ?hg (N := 3) ?hd (cs := #[.int .u8 a1_0, .bool a1_1, .int .u8 a1_2, .int .u8 a1_3, .int .u8 a1_4, .int .u8 a1_5]) (t := 38) ?hr ?_; (case hd => rfl); (case hg => rfl); (case hr => first | (go_simp; done) | (go_simp; rfl)); intro gb179 hg w132 hbox hb; have n0_ := Aside0.mk (blk_below (g := gb178) (o := .cells #[.int .u8 a0_0, .int .u8 a0_1] 36 (0, 0)) (by (with_reducible repeat (first | refine blk_drewN ?_ _ | refine blk_drew ?_ | refine blk_alloc ?_ _)); exact BK178.out) hb); have n1_ := Aside0.mk (below_step (by repeat (first | (with_reducible first | exact HB.out | apply below_alloc | apply pw_below_drewN | apply below_drew1 | refine below_set ?_ GE178.out) | exact HB.out)) hb); have n2_ := Aside0.mk (hbox); have n3_ := Aside0.mk ((by rw [hg]; exact (below_size (by repeat (first | (with_reducible first | exact HB.out | apply below_alloc | apply pw_below_drewN | apply below_drew1 | refine below_set ?_ GE178.out) | exact HB.out))) : w.heap.size ≤ gb179)); have n4_ := Aside0.mk ((by rw [hg]; exact (below_size (by repeat (first | (with_reducible first | exact HB.out | apply below_alloc | apply pw_below_drewN | apply below_drew1 | refine below_set ?_ GE178.out) | exact HB.out))) : w.heap.size ≤ gb179)); have n5_ := Aside0.mk ((by rw [hg]; exact Nat.ne_of_lt (blk_lt (g := gb178) (o := .cells #[.int .u8 a0_0, .int .u8 a0_1] 36 (0, 0)) (by (with_reducible repeat (first | refine blk_drewN ?_ _ | refine blk_drew ?_ | refine blk_alloc ?_ _)); exact BK178.out)) : gb178 ≠ gb179)); have n6_ := Aside0.mk ((by rw [hg]; exact Nat.ne_of_gt (blk_lt (g := gb178) (o := .cells #[.int .u8 a0_0, .int .u8 a0_1] 36 (0, 0)) (by (with_reducible repeat (first | refine blk_drewN ?_ _ | refine blk_drew ?_ | refine blk_alloc ?_ _)); exact BK178.out)) : gb179 ≠ gb178)); clear BK178; clear HB; have BK178 := n0_; have HB := n1_; have BK179 := n2_; have GW179 := n3_; have GE179 := n4_; have NB178_179 := n5_; have NB179_178 := n6_; clear n0_ n1_ n2_ n3_ n4_ n5_ n6_; clear hb hbox hg) | ((with_reducible refine gate_dst (N := 4) rfl ?_); refine box_event ?hg (N := 4) ?hd (cs := #[.int .u8 0, .bool false, .int .u8 0, .int .u8 0, .int .u8 0, .int .u8 0]) (t := 38) ?hr ?_; (case hd => rfl); (case hg => rfl); (case hr => first | (go_simp; done) | (go_simp; rfl)); intro gb180 hg w133 hbox hb; have n0_ := Aside0.mk (blk_below (g := gb178) (o := .cells #[.int .u8 a0_0, .int .u8 a0_1] 36 (0, 0)) (by (with_reducible repeat (first | refine blk_drewN ?_ _ | refine blk_drew ?_ | refine blk_alloc ?_ _)); exact BK178.out) hb); have n1_ := Aside0.mk (blk_below (g := gb179) (o := .cells #[.int .u8 a1_0, .bool a1_1, .int .u8 a1_2, .int .u8 a1_3, .int .u8 a1_4, .int .u8 a1_5] 38 (0, 0)) (by (with_reducible repeat (first | refine blk_drewN ?_ _ | refine blk_drew ?_ | refine blk_alloc ?_ _)); exact BK179.out) hb); have n2_ := Aside0.mk (below_step (by repeat (first | (with_reducible first | exact HB.out | apply below_alloc | apply pw_below_drewN | apply below_drew1 | refine below_set ?_ GE178.out | refine below_set ?_ GE179.out) | exact HB.out)) hb); have n3_ := Aside0.mk (hbox); have n4_ := Aside0.mk ((by rw [hg]; exact (below_size (by repeat (first | (with_reducible first | exact HB.out | apply below_alloc | apply pw_below_drewN | apply below_drew1 | refine below_set ?_ GE178.out | refine below_set ?_ GE179.out) | exact HB.out))) : w.heap.size ≤ gb180)); have n5_ := Aside0.mk ((by rw [hg]; exact (below_size (by repeat (first | (with_reducible first | exact HB.out | apply below_alloc | apply pw_below_drewN | apply below_drew1 | refine below_set ?_ GE178.out | refine below_set ?_ GE179.out) | exact HB.out))) : w.heap.size ≤ gb180)); have n6_ := Aside0.mk ((by rw [hg]; exact Nat.ne_of_lt (blk_lt (g := gb178) (o := .cells #[.int .u8 a0_0, .int .u8 a0_1] 36 (0, 0)) (by (with_reducible repeat (first | refine blk_drewN ?_ _ | refine blk_drew ?_ | refine blk_alloc ?_ _)); exact BK178.out)) : gb178 ≠ gb180)); have n7_ := Aside0.mk ((by rw [hg]; exact Nat.ne_of_gt (blk_lt (g := gb178) (o := .cells #[.int .u8 a0_0, .int .u8 a0_1] 36 (0, 0)) (by (with_reducible repeat (first | refine blk_drewN ?_ _ | refine blk_drew ?_ | refine blk_alloc ?_ _)); exact BK178.out)) : gb180 ≠ gb178)); have n8_ := Aside0.mk ((by rw [hg]; exact Nat.ne_of_lt (blk_lt (g := gb179) (o := .cells #[.int .u8 a1_0, .bool a1_1, .int .u8 a1_2, .int .u8 a1_3, .int .u8 a1_4, .int .u8 a1_5] 38 (0, 0)) (by (with_reducible repeat (first | refine blk_drewN ?_ _ | refine blk_drew ?_ | refine blk_alloc ?_ _)); exact BK179.out)) : gb179 ≠ gb180)); have n9_ := Aside0.mk ((by rw [hg]; exact Nat.ne_of_gt (blk_lt (g := gb179) (o := .cells #[.int .u8 a1_0, .bool a1_1, .int .u8 a1_2, .int .u8 a1_3, .int .u8 a1_4, .int .u8 a1_5] 38 (0, 0)) (by (with_reducible repeat (first | refine blk_drewN ?_ _ | refine blk_drew ?_ | refine blk_alloc ?_ _)); exact BK179.out)) : gb180 ≠ gb179)); clear BK178; clear BK179; clear HB; have BK178 := n0_; have BK179 := n1_; have HB := n2_; have BK180 := n3_; have GW180 := n4_; have GE180 := n5_; have NB178_180 := n6_; have NB180_178 := n7_; have NB179_180 := n8_; have NB180_179 := n9_; clear n0_ n1_ n2_ n3_ n4_ n5_ n6_ n7_ n8_ n9_; clear hb hbox hg; have hnb134 := NB178_179.out; have hnc134 := NB179_178.out; have hnb135 := NB178_180.out; have hnc135 := NB180_178.out; have hcz136_0 : w133.cell? ⟨gb178, 0, none⟩ = some (.int .u8 a0_0) := (blk_cell BK178.out 0).trans rfl; have hcz136_1 : w133.cell? ⟨gb178, 1, none⟩ = some (.int .u8 a0_1) := (blk_cell BK178.out 1).trans rfl; have hfz136_0 := blk_frozen BK178.out 0; have hfz136_1 := blk_frozen BK178.out 1) | ((with_reducible refine gate_callee (f := 21) rfl ?_); refine goesL_ (some 8) rfl rfl Try.func21 (by kernel_rfl) rfl #[.agg #[.int .u8 a0_0, .int .u8 a0_1]] rfl (by (try simp only [List.map_toArray, List.map_cons, List.map_nil]); first | done | rfl | (simp only [List.length_drop, List.length_take]; rfl)) ?_; (with_reducible refine (vitrineref05_Right.calls k a0_0 a0_1 false _ A3.out).mono ?_); rintro e w137 ⟨rfl, hb⟩; refine ⟨_, rfl, ?_⟩; have n0_ := Aside0.mk (blk_below (g := gb178) (o := .cells #[.int .u8 a0_0, .int .u8 a0_1] 36 (0, 0)) (by (with_reducible repeat (first | refine blk_drewN ?_ _ | refine blk_drew ?_ | refine blk_alloc ?_ _)); exact BK178.out) hb); have n1_ := Aside0.mk (blk_below (g := gb179) (o := .cells #[.int .u8 a1_0, .bool a1_1, .int .u8 a1_2, .int .u8 a1_3, .int .u8 a1_4, .int .u8 a1_5] 38 (0, 0)) (by (with_reducible repeat (first | refine blk_drewN ?_ _ | refine blk_drew ?_ | refine blk_alloc ?_ _)); exact BK179.out) hb); have n2_ := Aside0.mk (blk_below (g := gb180) (o := .cells #[.int .u8 0, .bool false, .int .u8 0, .int .u8 0, .int .u8 0, .int .u8 0] 38 (0, 0)) (by (with_reducible repeat (first | refine blk_drewN ?_ _ | refine blk_drew ?_ | refine blk_alloc ?_ _)); exact BK180.out) hb); have n3_ := Aside0.mk (below_step (by repeat (first | (with_reducible first | exact HB.out | apply below_alloc | apply pw_below_drewN | apply below_drew1 | refine below_set ?_ GE178.out | refine below_set ?_ GE179.out | refine below_set ?_ GE180.out) | exact HB.out)) hb); clear BK178; clear BK179; clear BK180; clear HB; have BK178 := n0_; have BK179 := n1_; have BK180 := n2_; have HB := n3_; clear n0_ n1_ n2_ n3_; (try clear hb); (try clear hb2); (try clear hk); (try clear hi); have hnb138 := NB180_179.out; have hnc138 := NB179_180.out; have hcz139_0 : w137.cell? ⟨gb180, 0, none⟩ = some (.int .u8 0) := (blk_cell BK180.out 0).trans rfl; have hcz139_1 : w137.cell? ⟨gb180, 1, none⟩ = some (.bool false) := (blk_cell BK180.out 1).trans rfl; have hcz139_2 : w137.cell? ⟨gb180, 2, none⟩ = some (.int .u8 0) := (blk_cell BK180.out 2).trans rfl; have hcz139_3 : w137.cell? ⟨gb180, 3, none⟩ = some (.int .u8 0) := (blk_cell BK180.out 3).trans rfl; have hcz139_4 : w137.cell? ⟨gb180, 4, none⟩ = some (.int .u8 0) := (blk_cell BK180.out 4).trans rfl; have hcz139_5 : w137.cell? ⟨gb180, 5, none⟩ = some (.int .u8 0) := (blk_cell BK180.out 5).trans rfl; have hfz139_0 := blk_frozen BK180.out 0; have hfz139_1 := blk_frozen BK180.out 1; have hfz139_2 := blk_frozen BK180.out 2; have hfz139_3 := blk_frozen BK180.out 3; have hfz139_4 := blk_frozen BK180.out 4; have hfz139_5 := blk_frozen BK180.out 5))
    refine bodyPost_ret (results_ct rfl _ _ gb180 38 #[.int .u8 0, .bool false, .int .u8 0, .int .u8 0, .int .u8 0, .int .u8 0] (0, 0) _ rfl (by (with_reducible repeat (first | refine blk_drewN ?_ _ | refine blk_drew ?_ | refine blk_alloc ?_ _)); refine blk_put (cs := #[.int .u8 0, .bool false, .int .u8 0, .int .u8 0, .int .u8 0, .int .u8 0]) ?_ 5 _ rfl; (with_reducible repeat (first | refine blk_drewN ?_ _ | refine blk_drew ?_ | refine blk_alloc ?_ _)); refine blk_put (cs := #[.int .u8 0, .bool false, .int .u8 0, .int .u8 0, .int .u8 0, .int .u8 0]) ?_ 4 _ rfl; (with_reducible repeat (first | refine blk_drewN ?_ _ | refine blk_drew ?_ | refine blk_alloc ?_ _)); refine blk_put (cs := #[.int .u8 0, .bool false, .int .u8 0, .int .u8 0, .int .u8 0, .int .u8 0]) ?_ 3 _ rfl; (with_reducible repeat (first | refine blk_drewN ?_ _ | refine blk_drew ?_ | refine blk_alloc ?_ _)); refine blk_put (cs := #[.int .u8 0, .bool false, .int .u8 0, .int .u8 0, .int .u8 0, .int .u8 0]) ?_ 2 _ rfl; (with_reducible repeat (first | refine blk_drewN ?_ _ | refine blk_drew ?_ | refine blk_alloc ?_ _)); refine blk_put (cs := #[.int .u8 0, .bool false, .int .u8 0, .int .u8 0, .int .u8 0, .int .u8 0]) ?_ 1 _ rfl; (with_reducible repeat (first | refine blk_drewN ?_ _ | refine blk_drew ?_ | refine blk_alloc ?_ _)); refine blk_put (cs := #[.int .u8 0, .bool false, .int .u8 0, .int .u8 0, .int .u8 0, .int .u8 0]) ?_ 0 _ rfl; (with_reducible repeat (first | refine blk_drewN ?_ _ | refine blk_drew ?_ | refine blk_alloc ?_ _)); exact BK180.out) Try.underlying38 rfl (by kernel_rfl)) rfl ?_
    exact ⟨by first | rfl | (simp [errW_none, errW_some] <;> rfl) | (simp [*, errW_none, errW_some] <;> rfl), by repeat (first | (with_reducible first | exact HB.out | apply below_alloc | apply pw_below_drewN | apply below_drew1 | refine below_set ?_ GE178.out | refine below_set ?_ GE179.out | refine below_set ?_ GE180.out) | exact HB.out)⟩

end Go.Proofs.Ytfdhchgemplnoaa.PAll
