-- Written by a program of this session (a changed copy of the kit's print program): not the kit's print.
import Derived.Test.YtmejmlohinjpdaaPOrx0
import Derived.Test.YtmejmlohinjpdaaPOrx1
import Derived.Test.YtmejmlohinjpdaaPOrx6
namespace Go.Proofs.Ytmejmlohinjpdaa.POr
open Go.RowKit Go.Proofs.YtmejmlohinjpdaaW.PrintWords Go.Proofs.YtmejmlohinjpdaaW.PrintLast Go.Proofs.YtmejmlohinjpdaaW.PrintMore
attribute [local go_sem] max2_int min2_int max_two min_two max_three min_three max_four min_four   -- for this text's walks alone
set_option linter.unusedVariables false
set_option linter.unusedSimpArgs false

attribute [local go_sem high] eqA51
/-! ### vitrineref16_Same: function 13 -/
mutual
def vitrineref16_Same.j0 : Nat → Bool → Int → Int → Int → Bool → Int → List (S51) → List Int → Int → Int → Int → Bool → Int → List (S51) → List Int → Option (Bool)
  | 0, _, _, _, _, _, _, _, _, _, _, _, _, _, _, _ => none
  | k + 1, x55, x171000, x171001, x171002, x171003, x171004, x171005, x171006, x172000, x172001, x172002, x172003, x172004, x172005, x172006 => if x55 = true then (some false) else (vitrineref16_Same.l0 k (x171005.length : Int) 0 x171000 x171001 x171002 x171003 x171004 x171005 x171006 x172000 x172001 x172002 x172003 x172004 x172005 x172006)
def vitrineref16_Same.l0 : Nat → Int → Int → Int → Int → Int → Bool → Int → List (S51) → List Int → Int → Int → Int → Bool → Int → List (S51) → List Int → Option (Bool)
  | 0, _, _, _, _, _, _, _, _, _, _, _, _, _, _, _, _ => none
  | k + 1, x58, x59, x171000, x171001, x171002, x171003, x171004, x171005, x171006, x172000, x172001, x172002, x172003, x172004, x172005, x172006 => if x59 < x58 then (if 0 ≤ x59 then (if x59 < (x171005.length : Int) then (if x59 < (x172005.length : Int) then (if (!(((rd_T51 x171005 x59).f0) == ((rd_T51 x172005 x59).f0)) || (!(((rd_T51 x171005 x59).f1) == ((rd_T51 x172005 x59).f1)))) = true then (some false) else (vitrineref16_Same.l0 k x58 (wrap64 (x59 + 1)) x171000 x171001 x171002 x171003 x171004 x171005 x171006 x172000 x172001 x172002 x172003 x172004 x172005 x172006)) else (none)) else (none)) else (none)) else (some true)
end
def vitrineref16_Same.f (k : Nat) (a0_0 : Int) (a0_1 : Int) (a0_2 : Int) (a0_3 : Bool) (a0_4 : Int) (l0_5 : List (S51)) (l0_6 : List Int) (a1_0 : Int) (a1_1 : Int) (a1_2 : Int) (a1_3 : Bool) (a1_4 : Int) (l1_5 : List (S51)) (l1_6 : List Int) : Option (Bool) := if a0_0 = a1_0 then (if a0_1 = a1_1 then (if a0_2 = a1_2 then (if (a0_3 != a1_3) = true then (vitrineref16_Same.j0 k true a0_0 a0_1 a0_2 a0_3 a0_4 l0_5 l0_6 a1_0 a1_1 a1_2 a1_3 a1_4 l1_5 l1_6) else (if a0_4 = a1_4 then ((vitrineref01_Same.f l0_6 l1_6).bind fun t172 => (if t172 = true then (vitrineref16_Same.j0 k ((l0_5.length : Int) != (l1_5.length : Int)) a0_0 a0_1 a0_2 a0_3 a0_4 l0_5 l0_6 a1_0 a1_1 a1_2 a1_3 a1_4 l1_5 l1_6) else (vitrineref16_Same.j0 k true a0_0 a0_1 a0_2 a0_3 a0_4 l0_5 l0_6 a1_0 a1_1 a1_2 a1_3 a1_4 l1_5 l1_6))) else (vitrineref16_Same.j0 k true a0_0 a0_1 a0_2 a0_3 a0_4 l0_5 l0_6 a1_0 a1_1 a1_2 a1_3 a1_4 l1_5 l1_6))) else (vitrineref16_Same.j0 k true a0_0 a0_1 a0_2 a0_3 a0_4 l0_5 l0_6 a1_0 a1_1 a1_2 a1_3 a1_4 l1_5 l1_6)) else (vitrineref16_Same.j0 k true a0_0 a0_1 a0_2 a0_3 a0_4 l0_5 l0_6 a1_0 a1_1 a1_2 a1_3 a1_4 l1_5 l1_6)) else (vitrineref16_Same.j0 k true a0_0 a0_1 a0_2 a0_3 a0_4 l0_5 l0_6 a1_0 a1_1 a1_2 a1_3 a1_4 l1_5 l1_6)
theorem vitrineref16_Same.mono_l : ∀ k, (∀ y0 y1 y2 y3 y4 y5 y6 y7 y8 y9 y10 y11 y12 y13 y14, LeO (vitrineref16_Same.j0 k y0 y1 y2 y3 y4 y5 y6 y7 y8 y9 y10 y11 y12 y13 y14) (vitrineref16_Same.j0 (k + 1) y0 y1 y2 y3 y4 y5 y6 y7 y8 y9 y10 y11 y12 y13 y14)) ∧ (∀ y0 y1 y2 y3 y4 y5 y6 y7 y8 y9 y10 y11 y12 y13 y14 y15, LeO (vitrineref16_Same.l0 k y0 y1 y2 y3 y4 y5 y6 y7 y8 y9 y10 y11 y12 y13 y14 y15) (vitrineref16_Same.l0 (k + 1) y0 y1 y2 y3 y4 y5 y6 y7 y8 y9 y10 y11 y12 y13 y14 y15))
  | 0 => ⟨fun _ _ _ _ _ _ _ _ _ _ _ _ _ _ _ r h => by simp [vitrineref16_Same.j0] at h, fun _ _ _ _ _ _ _ _ _ _ _ _ _ _ _ _ r h => by simp [vitrineref16_Same.l0] at h⟩
  | k + 1 => by
    obtain ⟨ih0, ih1⟩ := vitrineref16_Same.mono_l k
    refine ⟨?_, ?_⟩
    · intro y0 y1 y2 y3 y4 y5 y6 y7 y8 y9 y10 y11 y12 y13 y14
      unfold vitrineref16_Same.j0
      repeat' first
      | (with_reducible exact ih0 _ _ _ _ _ _ _ _ _ _ _ _ _ _ _)
      | (with_reducible exact ih1 _ _ _ _ _ _ _ _ _ _ _ _ _ _ _ _)
      | (with_reducible exact LeO.refl _)
      | (with_reducible exact LeO.none _)
      | (with_reducible refine LeO.ite ?_ ?_)
      | (with_reducible refine LeO.bind ?_ (fun _ => ?_))
      | exact ih0 _ _ _ _ _ _ _ _ _ _ _ _ _ _ _
      | exact ih1 _ _ _ _ _ _ _ _ _ _ _ _ _ _ _ _
      | exact LeO.none _
      | refine LeO.ite ?_ ?_
      | refine LeO.bind ?_ (fun _ => ?_)
    · intro y0 y1 y2 y3 y4 y5 y6 y7 y8 y9 y10 y11 y12 y13 y14 y15
      unfold vitrineref16_Same.l0
      repeat' first
      | (with_reducible exact ih0 _ _ _ _ _ _ _ _ _ _ _ _ _ _ _)
      | (with_reducible exact ih1 _ _ _ _ _ _ _ _ _ _ _ _ _ _ _ _)
      | (with_reducible exact LeO.refl _)
      | (with_reducible exact LeO.none _)
      | (with_reducible refine LeO.ite ?_ ?_)
      | (with_reducible refine LeO.bind ?_ (fun _ => ?_))
      | exact ih0 _ _ _ _ _ _ _ _ _ _ _ _ _ _ _
      | exact ih1 _ _ _ _ _ _ _ _ _ _ _ _ _ _ _ _
      | exact LeO.none _
      | refine LeO.ite ?_ ?_
      | refine LeO.bind ?_ (fun _ => ?_)
theorem vitrineref16_Same.mono : ∀ a0 a1 a2 a3 a4 a5 a6 a7 a8 a9 a10 a11 a12 a13 k, LeO (vitrineref16_Same.f k a0 a1 a2 a3 a4 a5 a6 a7 a8 a9 a10 a11 a12 a13) (vitrineref16_Same.f (k + 1) a0 a1 a2 a3 a4 a5 a6 a7 a8 a9 a10 a11 a12 a13) := by
  intro a0 a1 a2 a3 a4 a5 a6 a7 a8 a9 a10 a11 a12 a13 k
  obtain ⟨ih0, ih1⟩ := vitrineref16_Same.mono_l k
  unfold vitrineref16_Same.f
  repeat' first
      | (with_reducible exact ih0 _ _ _ _ _ _ _ _ _ _ _ _ _ _ _)
      | (with_reducible exact ih1 _ _ _ _ _ _ _ _ _ _ _ _ _ _ _ _)
      | (with_reducible exact LeO.refl _)
      | (with_reducible exact LeO.none _)
      | (with_reducible refine LeO.ite ?_ ?_)
      | (with_reducible refine LeO.bind ?_ (fun _ => ?_))
      | exact ih0 _ _ _ _ _ _ _ _ _ _ _ _ _ _ _
      | exact ih1 _ _ _ _ _ _ _ _ _ _ _ _ _ _ _ _
      | exact LeO.none _
      | refine LeO.ite ?_ ?_
      | refine LeO.bind ?_ (fun _ => ?_)
set_option maxHeartbeats 8000000 in
set_option maxRecDepth 100000 in
theorem vitrineref16_Same.calls (k : Nat) (a0_0 : Int) (a0_1 : Int) (a0_2 : Int) (a0_3 : Bool) (a0_4 : Int) (A0_5 : Option Addr) (c0_5 : Nat) (l0_5 : List (S51)) (A0_6 : Option Addr) (c0_6 : Nat) (l0_6 : List Int) (a1_0 : Int) (a1_1 : Int) (a1_2 : Int) (a1_3 : Bool) (a1_4 : Int) (A1_5 : Option Addr) (c1_5 : Nat) (l1_5 : List (S51)) (A1_6 : Option Addr) (c1_6 : Nat) (l1_6 : List Int) (r : Bool) (w : World) (hr0_5 : Kd.C k51 w A0_5 l0_5.length l0_5) (hc0_5 : l0_5.length ≤ c0_5) (hr0_6 : Kd.C (Kd.int .u8) w A0_6 l0_6.length l0_6) (hc0_6 : l0_6.length ≤ c0_6) (hr1_5 : Kd.C k51 w A1_5 l1_5.length l1_5) (hc1_5 : l1_5.length ≤ c1_5) (hr1_6 : Kd.C (Kd.int .u8) w A1_6 l1_6.length l1_6) (hc1_6 : l1_6.length ≤ c1_6) (h : vitrineref16_Same.f k a0_0 a0_1 a0_2 a0_3 a0_4 l0_5 l0_6 a1_0 a1_1 a1_2 a1_3 a1_4 l1_5 l1_6 = some r) :
    Calls Try.prog 13 #[.agg #[.int .i64 a0_0, .int .i64 a0_1, .int .u8 a0_2, .bool a0_3, .int .u8 a0_4, .slice A0_5 l0_5.length c0_5, .slice A0_6 l0_6.length c0_6], .agg #[.int .i64 a1_0, .int .i64 a1_1, .int .u8 a1_2, .bool a1_3, .int .u8 a1_4, .slice A1_5 l1_5.length c1_5, .slice A1_6 l1_6.length c1_6]] w fun e w' => e = .returned (.bool r) ∧ Below w.heap.size w w' := by
  have hu38 := Try.underlying38
  have hu51 := Try.underlying51
  have HR0_5 := Aside0.mk hr0_5
  have HC0_5 := Aside0.mk hc0_5
  clear hr0_5 hc0_5
  have HR0_6 := Aside0.mk hr0_6
  have HC0_6 := Aside0.mk hc0_6
  clear hr0_6 hc0_6
  have HR1_5 := Aside0.mk hr1_5
  have HC1_5 := Aside0.mk hc1_5
  clear hr1_5 hc1_5
  have HR1_6 := Aside0.mk hr1_6
  have HC1_6 := Aside0.mk hc1_6
  clear hr1_6 hc1_6
  have HB := Aside0.mk (Below.refl w.heap.size w)
  have H : (if a0_0 = a1_0 then (if a0_1 = a1_1 then (if a0_2 = a1_2 then (if (a0_3 != a1_3) = true then (vitrineref16_Same.j0 k true a0_0 a0_1 a0_2 a0_3 a0_4 l0_5 l0_6 a1_0 a1_1 a1_2 a1_3 a1_4 l1_5 l1_6) else (if a0_4 = a1_4 then ((vitrineref01_Same.f l0_6 l1_6).bind fun t172 => (if t172 = true then (vitrineref16_Same.j0 k ((l0_5.length : Int) != (l1_5.length : Int)) a0_0 a0_1 a0_2 a0_3 a0_4 l0_5 l0_6 a1_0 a1_1 a1_2 a1_3 a1_4 l1_5 l1_6) else (vitrineref16_Same.j0 k true a0_0 a0_1 a0_2 a0_3 a0_4 l0_5 l0_6 a1_0 a1_1 a1_2 a1_3 a1_4 l1_5 l1_6))) else (vitrineref16_Same.j0 k true a0_0 a0_1 a0_2 a0_3 a0_4 l0_5 l0_6 a1_0 a1_1 a1_2 a1_3 a1_4 l1_5 l1_6))) else (vitrineref16_Same.j0 k true a0_0 a0_1 a0_2 a0_3 a0_4 l0_5 l0_6 a1_0 a1_1 a1_2 a1_3 a1_4 l1_5 l1_6)) else (vitrineref16_Same.j0 k true a0_0 a0_1 a0_2 a0_3 a0_4 l0_5 l0_6 a1_0 a1_1 a1_2 a1_3 a1_4 l1_5 l1_6)) else (vitrineref16_Same.j0 k true a0_0 a0_1 a0_2 a0_3 a0_4 l0_5 l0_6 a1_0 a1_1 a1_2 a1_3 a1_4 l1_5 l1_6)) = some r := h
  clear h
  have HC3 := Aside0.mk H
  clear H
  go_enter Try.func13, Try.ntmps13
  go_upto_region 1 with (first | ((with_reducible refine gate_dst (N := 2) rfl ?_); (try (refine gate_guard (by rfl) ?_; dsimp only)); refine box_event ?hg (N := 2) ?hd (cs := #[.int .i64 a0_0, .int .i64 a0_1, .int .u8 a0_2, .bool a0_3, .int .u8 a0_4, .slice A0_5 l0_5.length c0_5, .slice A0_6 l0_6.length c0_6]) (t := 38) ?hr ?_; (case hd => rfl); (case hg => rfl); (case hr => first | (go_simp; done) | (go_simp; rfl)); intro gb170 hg w4 hbox hb; have n0_ := Aside0.mk (below_step (by repeat (first | (with_reducible first | exact HB.out | apply below_alloc | apply pw_below_drewN | apply below_drew1) | exact HB.out)) hb); have n1_ := Aside0.mk (hbox); have n2_ := Aside0.mk ((by rw [hg]; exact (below_size (by repeat (first | (with_reducible first | exact HB.out | apply below_alloc | apply pw_below_drewN | apply below_drew1) | exact HB.out))) : w.heap.size ≤ gb170)); have n3_ := Aside0.mk ((by rw [hg]; exact (below_size (by repeat (first | (with_reducible first | exact HB.out | apply below_alloc | apply pw_below_drewN | apply below_drew1) | exact HB.out))) : w.heap.size ≤ gb170)); clear HB; have HB := n0_; have BK170 := n1_; have GW170 := n2_; have GE170 := n3_; clear n0_ n1_ n2_ n3_; clear hb hbox hg) | ((with_reducible refine gate_dst (N := 3) rfl ?_); (try (refine gate_guard (by rfl) ?_; dsimp only)); refine box_event ?hg (N := 3) ?hd (cs := #[.int .i64 a1_0, .int .i64 a1_1, .int .u8 a1_2, .bool a1_3, .int .u8 a1_4, .slice A1_5 l1_5.length c1_5, .slice A1_6 l1_6.length c1_6]) (t := 38) ?hr ?_; (case hd => rfl); (case hg => rfl); (case hr => first | (go_simp; done) | (go_simp; rfl)); intro gb171 hg w5 hbox hb; have n0_ := Aside0.mk (blk_below (g := gb170) (o := .cells #[.int .i64 a0_0, .int .i64 a0_1, .int .u8 a0_2, .bool a0_3, .int .u8 a0_4, .slice A0_5 l0_5.length c0_5, .slice A0_6 l0_6.length c0_6] 38 (0, 0)) (by (with_reducible repeat (first | refine blk_drewN ?_ _ | refine blk_drew ?_ | refine blk_alloc ?_ _)); exact BK170.out) hb); have n1_ := Aside0.mk (below_step (by repeat (first | (with_reducible first | exact HB.out | apply below_alloc | apply pw_below_drewN | apply below_drew1 | refine below_set ?_ GE170.out) | exact HB.out)) hb); have n2_ := Aside0.mk (hbox); have n3_ := Aside0.mk ((by rw [hg]; exact (below_size (by repeat (first | (with_reducible first | exact HB.out | apply below_alloc | apply pw_below_drewN | apply below_drew1 | refine below_set ?_ GE170.out) | exact HB.out))) : w.heap.size ≤ gb171)); have n4_ := Aside0.mk ((by rw [hg]; exact (below_size (by repeat (first | (with_reducible first | exact HB.out | apply below_alloc | apply pw_below_drewN | apply below_drew1 | refine below_set ?_ GE170.out) | exact HB.out))) : w.heap.size ≤ gb171)); have n5_ := Aside0.mk ((by rw [hg]; exact Nat.ne_of_lt (blk_lt (g := gb170) (o := .cells #[.int .i64 a0_0, .int .i64 a0_1, .int .u8 a0_2, .bool a0_3, .int .u8 a0_4, .slice A0_5 l0_5.length c0_5, .slice A0_6 l0_6.length c0_6] 38 (0, 0)) (by (with_reducible repeat (first | refine blk_drewN ?_ _ | refine blk_drew ?_ | refine blk_alloc ?_ _)); exact BK170.out)) : gb170 ≠ gb171)); have n6_ := Aside0.mk ((by rw [hg]; exact Nat.ne_of_gt (blk_lt (g := gb170) (o := .cells #[.int .i64 a0_0, .int .i64 a0_1, .int .u8 a0_2, .bool a0_3, .int .u8 a0_4, .slice A0_5 l0_5.length c0_5, .slice A0_6 l0_6.length c0_6] 38 (0, 0)) (by (with_reducible repeat (first | refine blk_drewN ?_ _ | refine blk_drew ?_ | refine blk_alloc ?_ _)); exact BK170.out)) : gb171 ≠ gb170)); clear BK170; clear HB; have BK170 := n0_; have HB := n1_; have BK171 := n2_; have GW171 := n3_; have GE171 := n4_; have NB170_171 := n5_; have NB171_170 := n6_; clear n0_ n1_ n2_ n3_ n4_ n5_ n6_; clear hb hbox hg))
  repeat (go_quiet (first | ((with_reducible refine gate_dst (N := 2) rfl ?_); (try (refine gate_guard (by rfl) ?_; dsimp only)); refine box_event ?hg (N := 2) ?hd (cs := #[.int .i64 a0_0, .int .i64 a0_1, .int .u8 a0_2, .bool a0_3, .int .u8 a0_4, .slice A0_5 l0_5.length c0_5, .slice A0_6 l0_6.length c0_6]) (t := 38) ?hr ?_; (case hd => rfl); (case hg => rfl); (case hr => first | (go_simp; done) | (go_simp; rfl)); intro gb170 hg w4 hbox hb; have n0_ := Aside0.mk (below_step (by repeat (first | (with_reducible first | exact HB.out | apply below_alloc | apply pw_below_drewN | apply below_drew1) | exact HB.out)) hb); have n1_ := Aside0.mk (hbox); have n2_ := Aside0.mk ((by rw [hg]; exact (below_size (by repeat (first | (with_reducible first | exact HB.out | apply below_alloc | apply pw_below_drewN | apply below_drew1) | exact HB.out))) : w.heap.size ≤ gb170)); have n3_ := Aside0.mk ((by rw [hg]; exact (below_size (by repeat (first | (with_reducible first | exact HB.out | apply below_alloc | apply pw_below_drewN | apply below_drew1) | exact HB.out))) : w.heap.size ≤ gb170)); clear HB; have HB := n0_; have BK170 := n1_; have GW170 := n2_; have GE170 := n3_; clear n0_ n1_ n2_ n3_; clear hb hbox hg) | ((with_reducible refine gate_dst (N := 3) rfl ?_); (try (refine gate_guard (by rfl) ?_; dsimp only)); refine box_event ?hg (N := 3) ?hd (cs := #[.int .i64 a1_0, .int .i64 a1_1, .int .u8 a1_2, .bool a1_3, .int .u8 a1_4, .slice A1_5 l1_5.length c1_5, .slice A1_6 l1_6.length c1_6]) (t := 38) ?hr ?_; (case hd => rfl); (case hg => rfl); (case hr => first | (go_simp; done) | (go_simp; rfl)); intro gb171 hg w5 hbox hb; have n0_ := Aside0.mk (blk_below (g := gb170) (o := .cells #[.int .i64 a0_0, .int .i64 a0_1, .int .u8 a0_2, .bool a0_3, .int .u8 a0_4, .slice A0_5 l0_5.length c0_5, .slice A0_6 l0_6.length c0_6] 38 (0, 0)) (by (with_reducible repeat (first | refine blk_drewN ?_ _ | refine blk_drew ?_ | refine blk_alloc ?_ _)); exact BK170.out) hb); have n1_ := Aside0.mk (below_step (by repeat (first | (with_reducible first | exact HB.out | apply below_alloc | apply pw_below_drewN | apply below_drew1 | refine below_set ?_ GE170.out) | exact HB.out)) hb); have n2_ := Aside0.mk (hbox); have n3_ := Aside0.mk ((by rw [hg]; exact (below_size (by repeat (first | (with_reducible first | exact HB.out | apply below_alloc | apply pw_below_drewN | apply below_drew1 | refine below_set ?_ GE170.out) | exact HB.out))) : w.heap.size ≤ gb171)); have n4_ := Aside0.mk ((by rw [hg]; exact (below_size (by repeat (first | (with_reducible first | exact HB.out | apply below_alloc | apply pw_below_drewN | apply below_drew1 | refine below_set ?_ GE170.out) | exact HB.out))) : w.heap.size ≤ gb171)); have n5_ := Aside0.mk ((by rw [hg]; exact Nat.ne_of_lt (blk_lt (g := gb170) (o := .cells #[.int .i64 a0_0, .int .i64 a0_1, .int .u8 a0_2, .bool a0_3, .int .u8 a0_4, .slice A0_5 l0_5.length c0_5, .slice A0_6 l0_6.length c0_6] 38 (0, 0)) (by (with_reducible repeat (first | refine blk_drewN ?_ _ | refine blk_drew ?_ | refine blk_alloc ?_ _)); exact BK170.out)) : gb170 ≠ gb171)); have n6_ := Aside0.mk ((by rw [hg]; exact Nat.ne_of_gt (blk_lt (g := gb170) (o := .cells #[.int .i64 a0_0, .int .i64 a0_1, .int .u8 a0_2, .bool a0_3, .int .u8 a0_4, .slice A0_5 l0_5.length c0_5, .slice A0_6 l0_6.length c0_6] 38 (0, 0)) (by (with_reducible repeat (first | refine blk_drewN ?_ _ | refine blk_drew ?_ | refine blk_alloc ?_ _)); exact BK170.out)) : gb171 ≠ gb170)); clear BK170; clear HB; have BK170 := n0_; have HB := n1_; have BK171 := n2_; have GW171 := n3_; have GE171 := n4_; have NB170_171 := n5_; have NB171_170 := n6_; clear n0_ n1_ n2_ n3_ n4_ n5_ n6_; clear hb hbox hg)); go_upto_region 1 with (first | ((with_reducible refine gate_dst (N := 2) rfl ?_); (try (refine gate_guard (by rfl) ?_; dsimp only)); refine box_event ?hg (N := 2) ?hd (cs := #[.int .i64 a0_0, .int .i64 a0_1, .int .u8 a0_2, .bool a0_3, .int .u8 a0_4, .slice A0_5 l0_5.length c0_5, .slice A0_6 l0_6.length c0_6]) (t := 38) ?hr ?_; (case hd => rfl); (case hg => rfl); (case hr => first | (go_simp; done) | (go_simp; rfl)); intro gb170 hg w4 hbox hb; have n0_ := Aside0.mk (below_step (by repeat (first | (with_reducible first | exact HB.out | apply below_alloc | apply pw_below_drewN | apply below_drew1) | exact HB.out)) hb); have n1_ := Aside0.mk (hbox); have n2_ := Aside0.mk ((by rw [hg]; exact (below_size (by repeat (first | (with_reducible first | exact HB.out | apply below_alloc | apply pw_below_drewN | apply below_drew1) | exact HB.out))) : w.heap.size ≤ gb170)); have n3_ := Aside0.mk ((by rw [hg]; exact (below_size (by repeat (first | (with_reducible first | exact HB.out | apply below_alloc | apply pw_below_drewN | apply below_drew1) | exact HB.out))) : w.heap.size ≤ gb170)); clear HB; have HB := n0_; have BK170 := n1_; have GW170 := n2_; have GE170 := n3_; clear n0_ n1_ n2_ n3_; clear hb hbox hg) | ((with_reducible refine gate_dst (N := 3) rfl ?_); (try (refine gate_guard (by rfl) ?_; dsimp only)); refine box_event ?hg (N := 3) ?hd (cs := #[.int .i64 a1_0, .int .i64 a1_1, .int .u8 a1_2, .bool a1_3, .int .u8 a1_4, .slice A1_5 l1_5.length c1_5, .slice A1_6 l1_6.length c1_6]) (t := 38) ?hr ?_; (case hd => rfl); (case hg => rfl); (case hr => first | (go_simp; done) | (go_simp; rfl)); intro gb171 hg w5 hbox hb; have n0_ := Aside0.mk (blk_below (g := gb170) (o := .cells #[.int .i64 a0_0, .int .i64 a0_1, .int .u8 a0_2, .bool a0_3, .int .u8 a0_4, .slice A0_5 l0_5.length c0_5, .slice A0_6 l0_6.length c0_6] 38 (0, 0)) (by (with_reducible repeat (first | refine blk_drewN ?_ _ | refine blk_drew ?_ | refine blk_alloc ?_ _)); exact BK170.out) hb); have n1_ := Aside0.mk (below_step (by repeat (first | (with_reducible first | exact HB.out | apply below_alloc | apply pw_below_drewN | apply below_drew1 | refine below_set ?_ GE170.out) | exact HB.out)) hb); have n2_ := Aside0.mk (hbox); have n3_ := Aside0.mk ((by rw [hg]; exact (below_size (by repeat (first | (with_reducible first | exact HB.out | apply below_alloc | apply pw_below_drewN | apply below_drew1 | refine below_set ?_ GE170.out) | exact HB.out))) : w.heap.size ≤ gb171)); have n4_ := Aside0.mk ((by rw [hg]; exact (below_size (by repeat (first | (with_reducible first | exact HB.out | apply below_alloc | apply pw_below_drewN | apply below_drew1 | refine below_set ?_ GE170.out) | exact HB.out))) : w.heap.size ≤ gb171)); have n5_ := Aside0.mk ((by rw [hg]; exact Nat.ne_of_lt (blk_lt (g := gb170) (o := .cells #[.int .i64 a0_0, .int .i64 a0_1, .int .u8 a0_2, .bool a0_3, .int .u8 a0_4, .slice A0_5 l0_5.length c0_5, .slice A0_6 l0_6.length c0_6] 38 (0, 0)) (by (with_reducible repeat (first | refine blk_drewN ?_ _ | refine blk_drew ?_ | refine blk_alloc ?_ _)); exact BK170.out)) : gb170 ≠ gb171)); have n6_ := Aside0.mk ((by rw [hg]; exact Nat.ne_of_gt (blk_lt (g := gb170) (o := .cells #[.int .i64 a0_0, .int .i64 a0_1, .int .u8 a0_2, .bool a0_3, .int .u8 a0_4, .slice A0_5 l0_5.length c0_5, .slice A0_6 l0_6.length c0_6] 38 (0, 0)) (by (with_reducible repeat (first | refine blk_drewN ?_ _ | refine blk_drew ?_ | refine blk_alloc ?_ _)); exact BK170.out)) : gb171 ≠ gb170)); clear BK170; clear HB; have BK170 := n0_; have HB := n1_; have BK171 := n2_; have GW171 := n3_; have GE171 := n4_; have NB170_171 := n5_; have NB171_170 := n6_; clear n0_ n1_ n2_ n3_ n4_ n5_ n6_; clear hb hbox hg)))
  (try simp only [Act.put, List.setIfInBounds_toArray, List.set_cons_zero, List.set_cons_succ])
  go_cut [55] (fun v55 wc => ∃ (kq : Nat) (x55_2 : Bool), v55 = .bool x55_2 ∧ Aside0 (vitrineref16_Same.j0 kq x55_2 a0_0 a0_1 a0_2 a0_3 a0_4 l0_5 l0_6 a1_0 a1_1 a1_2 a1_3 a1_4 l1_5 l1_6 = some r) ∧ Aside0 (kq ≤ k) ∧ Aside0 (wc.heap[gb170]? = some (.cells #[.int .i64 a0_0, .int .i64 a0_1, .int .u8 a0_2, .bool a0_3, .int .u8 a0_4, (.slice A0_5 l0_5.length c0_5), (.slice A0_6 l0_6.length c0_6)] 38 (0, 0))) ∧ Aside0 (wc.heap[gb171]? = some (.cells #[.int .i64 a1_0, .int .i64 a1_1, .int .u8 a1_2, .bool a1_3, .int .u8 a1_4, (.slice A1_5 l1_5.length c1_5), (.slice A1_6 l1_6.length c1_6)] 38 (0, 0))) ∧ Aside0 (Below w.heap.size w wc))
  case first =>
    have H := HC3.out
    clear HC3
    by_cases c6 : a0_0 = a1_0
    · rw [if_pos c6] at H
      have c6b0 : (a0_0 == a1_0) = true := beq_iff_eq.mpr c6
      have c6b1 : (a0_0 != a1_0) = false := bne_eq_false_iff_eq.mpr c6
      clear c6
      (first | rw [c6b0] | (simp only [i64_w, i32_w]; rw [c6b0]) | skip)
      by_cases c7 : a0_1 = a1_1
      · rw [if_pos c7] at H
        have c7b0 : (a0_1 == a1_1) = true := beq_iff_eq.mpr c7
        have c7b1 : (a0_1 != a1_1) = false := bne_eq_false_iff_eq.mpr c7
        clear c7
        by_cases c8 : a0_2 = a1_2
        · rw [if_pos c8] at H
          have c8b0 : (a0_2 == a1_2) = true := beq_iff_eq.mpr c8
          have c8b1 : (a0_2 != a1_2) = false := bne_eq_false_iff_eq.mpr c8
          clear c8
          by_cases c9 : (a0_3 != a1_3) = true
          · rw [if_pos c9] at H
            have c9b0 : (a0_3 != a1_3) = true := c9
            (try (have c9b1 : decide (a0_3 = a1_3) = false := by simpa using c9))
            (try (have c9b2 : (a0_3 == a1_3) = false := by simpa using c9))
            (try (have c9b3 : ¬ (a0_3 = a1_3) := by simpa using c9))
            clear c9
            have H' := Aside0.mk H
            clear H
            have hnb10 := NB170_171.out
            have hnc10 := NB171_170.out
            have hcz11_0 : w5.cell? ⟨gb170, 0, none⟩ = some (.int .i64 a0_0) := (blk_cell BK170.out 0).trans rfl
            have hcz11_1 : w5.cell? ⟨gb170, 1, none⟩ = some (.int .i64 a0_1) := (blk_cell BK170.out 1).trans rfl
            have hcz11_2 : w5.cell? ⟨gb170, 2, none⟩ = some (.int .u8 a0_2) := (blk_cell BK170.out 2).trans rfl
            have hcz11_3 : w5.cell? ⟨gb170, 3, none⟩ = some (.bool a0_3) := (blk_cell BK170.out 3).trans rfl
            have hcz11_4 : w5.cell? ⟨gb170, 4, none⟩ = some (.int .u8 a0_4) := (blk_cell BK170.out 4).trans rfl
            have hcz11_5 : w5.cell? ⟨gb170, 5, none⟩ = some (.slice A0_5 l0_5.length c0_5) := (blk_cell BK170.out 5).trans rfl
            have hcz11_6 : w5.cell? ⟨gb170, 6, none⟩ = some (.slice A0_6 l0_6.length c0_6) := (blk_cell BK170.out 6).trans rfl
            have hfz11_0 := blk_frozen BK170.out 0
            have hfz11_1 := blk_frozen BK170.out 1
            have hfz11_2 := blk_frozen BK170.out 2
            have hfz11_3 := blk_frozen BK170.out 3
            have hfz11_4 := blk_frozen BK170.out 4
            have hfz11_5 := blk_frozen BK170.out 5
            have hfz11_6 := blk_frozen BK170.out 6
            have hcz12_0 : w5.cell? ⟨gb171, 0, none⟩ = some (.int .i64 a1_0) := (blk_cell BK171.out 0).trans rfl
            have hcz12_1 : w5.cell? ⟨gb171, 1, none⟩ = some (.int .i64 a1_1) := (blk_cell BK171.out 1).trans rfl
            have hcz12_2 : w5.cell? ⟨gb171, 2, none⟩ = some (.int .u8 a1_2) := (blk_cell BK171.out 2).trans rfl
            have hcz12_3 : w5.cell? ⟨gb171, 3, none⟩ = some (.bool a1_3) := (blk_cell BK171.out 3).trans rfl
            have hcz12_4 : w5.cell? ⟨gb171, 4, none⟩ = some (.int .u8 a1_4) := (blk_cell BK171.out 4).trans rfl
            have hcz12_5 : w5.cell? ⟨gb171, 5, none⟩ = some (.slice A1_5 l1_5.length c1_5) := (blk_cell BK171.out 5).trans rfl
            have hcz12_6 : w5.cell? ⟨gb171, 6, none⟩ = some (.slice A1_6 l1_6.length c1_6) := (blk_cell BK171.out 6).trans rfl
            have hfz12_0 := blk_frozen BK171.out 0
            have hfz12_1 := blk_frozen BK171.out 1
            have hfz12_2 := blk_frozen BK171.out 2
            have hfz12_3 := blk_frozen BK171.out 3
            have hfz12_4 := blk_frozen BK171.out 4
            have hfz12_5 := blk_frozen BK171.out 5
            have hfz12_6 := blk_frozen BK171.out 6
            go_wp2
            repeat (go_quiet (fail); try go_wp2)
            go_meet
            case rel => exact ⟨_, (true), (by first | rfl | (simp; done) | (simp [*]; done)), H', ⟨by first | omega | exact Nat.le_refl _⟩, ⟨by (with_reducible repeat (first | refine blk_drewN ?_ _ | refine blk_drew ?_ | refine blk_alloc ?_ _)); exact BK170.out⟩, ⟨by (with_reducible repeat (first | refine blk_drewN ?_ _ | refine blk_drew ?_ | refine blk_alloc ?_ _)); exact BK171.out⟩, ⟨by repeat (first | (with_reducible first | exact HB.out | apply below_alloc | apply pw_below_drewN | apply below_drew1 | refine below_set ?_ GE170.out | refine below_set ?_ GE171.out) | exact HB.out)⟩⟩
          · rw [if_neg c9] at H
            have c9b0 : (a0_3 != a1_3) = false := by simpa using c9
            (try (have c9b1 : decide (a0_3 = a1_3) = true := by simpa using c9))
            (try (have c9b2 : (a0_3 == a1_3) = true := by simpa using c9))
            clear c9
            by_cases c13 : a0_4 = a1_4
            · rw [if_pos c13] at H
              have c13b0 : (a0_4 == a1_4) = true := beq_iff_eq.mpr c13
              have c13b1 : (a0_4 != a1_4) = false := bne_eq_false_iff_eq.mpr c13
              clear c13
              replace H := Option.bind_eq_some_iff.mp H
              obtain ⟨t172, A140, H⟩ := H
              replace H : (if t172 = true then (vitrineref16_Same.j0 k ((l0_5.length : Int) != (l1_5.length : Int)) a0_0 a0_1 a0_2 a0_3 a0_4 l0_5 l0_6 a1_0 a1_1 a1_2 a1_3 a1_4 l1_5 l1_6) else (vitrineref16_Same.j0 k true a0_0 a0_1 a0_2 a0_3 a0_4 l0_5 l0_6 a1_0 a1_1 a1_2 a1_3 a1_4 l1_5 l1_6)) = some r := H
              have A14 := Aside0.mk A140
              clear A140
              by_cases c15 : t172 = true
              · subst c15
                have H1 : (vitrineref16_Same.j0 k ((l0_5.length : Int) != (l1_5.length : Int)) a0_0 a0_1 a0_2 a0_3 a0_4 l0_5 l0_6 a1_0 a1_1 a1_2 a1_3 a1_4 l1_5 l1_6) = some r := by rw [if_pos rfl] at H; exact H
                clear H
                have H := H1
                clear H1
                have H' := Aside0.mk H
                clear H
                have hnb16 := NB170_171.out
                have hnc16 := NB171_170.out
                have hcz17_0 : w5.cell? ⟨gb170, 0, none⟩ = some (.int .i64 a0_0) := (blk_cell BK170.out 0).trans rfl
                have hcz17_1 : w5.cell? ⟨gb170, 1, none⟩ = some (.int .i64 a0_1) := (blk_cell BK170.out 1).trans rfl
                have hcz17_2 : w5.cell? ⟨gb170, 2, none⟩ = some (.int .u8 a0_2) := (blk_cell BK170.out 2).trans rfl
                have hcz17_3 : w5.cell? ⟨gb170, 3, none⟩ = some (.bool a0_3) := (blk_cell BK170.out 3).trans rfl
                have hcz17_4 : w5.cell? ⟨gb170, 4, none⟩ = some (.int .u8 a0_4) := (blk_cell BK170.out 4).trans rfl
                have hcz17_5 : w5.cell? ⟨gb170, 5, none⟩ = some (.slice A0_5 l0_5.length c0_5) := (blk_cell BK170.out 5).trans rfl
                have hcz17_6 : w5.cell? ⟨gb170, 6, none⟩ = some (.slice A0_6 l0_6.length c0_6) := (blk_cell BK170.out 6).trans rfl
                have hfz17_0 := blk_frozen BK170.out 0
                have hfz17_1 := blk_frozen BK170.out 1
                have hfz17_2 := blk_frozen BK170.out 2
                have hfz17_3 := blk_frozen BK170.out 3
                have hfz17_4 := blk_frozen BK170.out 4
                have hfz17_5 := blk_frozen BK170.out 5
                have hfz17_6 := blk_frozen BK170.out 6
                have hcz18_0 : w5.cell? ⟨gb171, 0, none⟩ = some (.int .i64 a1_0) := (blk_cell BK171.out 0).trans rfl
                have hcz18_1 : w5.cell? ⟨gb171, 1, none⟩ = some (.int .i64 a1_1) := (blk_cell BK171.out 1).trans rfl
                have hcz18_2 : w5.cell? ⟨gb171, 2, none⟩ = some (.int .u8 a1_2) := (blk_cell BK171.out 2).trans rfl
                have hcz18_3 : w5.cell? ⟨gb171, 3, none⟩ = some (.bool a1_3) := (blk_cell BK171.out 3).trans rfl
                have hcz18_4 : w5.cell? ⟨gb171, 4, none⟩ = some (.int .u8 a1_4) := (blk_cell BK171.out 4).trans rfl
                have hcz18_5 : w5.cell? ⟨gb171, 5, none⟩ = some (.slice A1_5 l1_5.length c1_5) := (blk_cell BK171.out 5).trans rfl
                have hcz18_6 : w5.cell? ⟨gb171, 6, none⟩ = some (.slice A1_6 l1_6.length c1_6) := (blk_cell BK171.out 6).trans rfl
                have hfz18_0 := blk_frozen BK171.out 0
                have hfz18_1 := blk_frozen BK171.out 1
                have hfz18_2 := blk_frozen BK171.out 2
                have hfz18_3 := blk_frozen BK171.out 3
                have hfz18_4 := blk_frozen BK171.out 4
                have hfz18_5 := blk_frozen BK171.out 5
                have hfz18_6 := blk_frozen BK171.out 6
                go_wp2_with (first | (go_at_call 16; (with_reducible refine (vitrineref01_Same.calls _ _ l0_6 _ _ l1_6 true _ ?side1 ?side2 ?side3 ?side4 A14.out).mono ?_); (case side1 => repeat (first | exact (Kd.C_below HR0_6.out HB.out) | (with_reducible refine Kd.C_alloc ?_ _) | (with_reducible refine Kd.C_drewN ?_ _) | (with_reducible refine Kd.C_drew ?_))); (case side2 => exact HC0_6.out); (case side3 => repeat (first | exact (Kd.C_below HR1_6.out HB.out) | (with_reducible refine Kd.C_alloc ?_ _) | (with_reducible refine Kd.C_drewN ?_ _) | (with_reducible refine Kd.C_drew ?_))); (case side4 => exact HC1_6.out); rintro e w' ⟨rfl, ⟨nd, rfl⟩⟩; (try first | exact ⟨rfl, _, World.drewN_drewN _ _ _⟩ | exact ⟨rfl, _, Eq.trans (World.drewN_drewN _ _ _) (congrArg (World.drewN _) (Nat.add_assoc _ _ _))⟩)))
                repeat (go_quiet (first | (go_at_call 16; (with_reducible refine (vitrineref01_Same.calls _ _ l0_6 _ _ l1_6 true _ ?side1 ?side2 ?side3 ?side4 A14.out).mono ?_); (case side1 => repeat (first | exact (Kd.C_below HR0_6.out HB.out) | (with_reducible refine Kd.C_alloc ?_ _) | (with_reducible refine Kd.C_drewN ?_ _) | (with_reducible refine Kd.C_drew ?_))); (case side2 => exact HC0_6.out); (case side3 => repeat (first | exact (Kd.C_below HR1_6.out HB.out) | (with_reducible refine Kd.C_alloc ?_ _) | (with_reducible refine Kd.C_drewN ?_ _) | (with_reducible refine Kd.C_drew ?_))); (case side4 => exact HC1_6.out); rintro e w' ⟨rfl, ⟨nd, rfl⟩⟩; (try first | exact ⟨rfl, _, World.drewN_drewN _ _ _⟩ | exact ⟨rfl, _, Eq.trans (World.drewN_drewN _ _ _) (congrArg (World.drewN _) (Nat.add_assoc _ _ _))⟩))); try go_wp2_with (first | (go_at_call 16; (with_reducible refine (vitrineref01_Same.calls _ _ l0_6 _ _ l1_6 true _ ?side1 ?side2 ?side3 ?side4 A14.out).mono ?_); (case side1 => repeat (first | exact (Kd.C_below HR0_6.out HB.out) | (with_reducible refine Kd.C_alloc ?_ _) | (with_reducible refine Kd.C_drewN ?_ _) | (with_reducible refine Kd.C_drew ?_))); (case side2 => exact HC0_6.out); (case side3 => repeat (first | exact (Kd.C_below HR1_6.out HB.out) | (with_reducible refine Kd.C_alloc ?_ _) | (with_reducible refine Kd.C_drewN ?_ _) | (with_reducible refine Kd.C_drew ?_))); (case side4 => exact HC1_6.out); rintro e w' ⟨rfl, ⟨nd, rfl⟩⟩; (try first | exact ⟨rfl, _, World.drewN_drewN _ _ _⟩ | exact ⟨rfl, _, Eq.trans (World.drewN_drewN _ _ _) (congrArg (World.drewN _) (Nat.add_assoc _ _ _))⟩))))
                go_meet
                case rel => exact ⟨_, (((l0_5.length : Int) != (l1_5.length : Int))), (by first | rfl | (simp; done) | (simp [*]; done)), H', ⟨by first | omega | exact Nat.le_refl _⟩, ⟨by (with_reducible repeat (first | refine blk_drewN ?_ _ | refine blk_drew ?_ | refine blk_alloc ?_ _)); exact BK170.out⟩, ⟨by (with_reducible repeat (first | refine blk_drewN ?_ _ | refine blk_drew ?_ | refine blk_alloc ?_ _)); exact BK171.out⟩, ⟨by repeat (first | (with_reducible first | exact HB.out | apply below_alloc | apply pw_below_drewN | apply below_drew1 | refine below_set ?_ GE170.out | refine below_set ?_ GE171.out) | exact HB.out)⟩⟩
              · replace c15 := Bool.eq_false_iff.mpr c15
                subst c15
                have H1 : (vitrineref16_Same.j0 k true a0_0 a0_1 a0_2 a0_3 a0_4 l0_5 l0_6 a1_0 a1_1 a1_2 a1_3 a1_4 l1_5 l1_6) = some r := by rw [if_neg (show ¬ (false = true) by decide)] at H; exact H
                clear H
                have H := H1
                clear H1
                have H' := Aside0.mk H
                clear H
                have hnb19 := NB170_171.out
                have hnc19 := NB171_170.out
                have hcz20_0 : w5.cell? ⟨gb170, 0, none⟩ = some (.int .i64 a0_0) := (blk_cell BK170.out 0).trans rfl
                have hcz20_1 : w5.cell? ⟨gb170, 1, none⟩ = some (.int .i64 a0_1) := (blk_cell BK170.out 1).trans rfl
                have hcz20_2 : w5.cell? ⟨gb170, 2, none⟩ = some (.int .u8 a0_2) := (blk_cell BK170.out 2).trans rfl
                have hcz20_3 : w5.cell? ⟨gb170, 3, none⟩ = some (.bool a0_3) := (blk_cell BK170.out 3).trans rfl
                have hcz20_4 : w5.cell? ⟨gb170, 4, none⟩ = some (.int .u8 a0_4) := (blk_cell BK170.out 4).trans rfl
                have hcz20_5 : w5.cell? ⟨gb170, 5, none⟩ = some (.slice A0_5 l0_5.length c0_5) := (blk_cell BK170.out 5).trans rfl
                have hcz20_6 : w5.cell? ⟨gb170, 6, none⟩ = some (.slice A0_6 l0_6.length c0_6) := (blk_cell BK170.out 6).trans rfl
                have hfz20_0 := blk_frozen BK170.out 0
                have hfz20_1 := blk_frozen BK170.out 1
                have hfz20_2 := blk_frozen BK170.out 2
                have hfz20_3 := blk_frozen BK170.out 3
                have hfz20_4 := blk_frozen BK170.out 4
                have hfz20_5 := blk_frozen BK170.out 5
                have hfz20_6 := blk_frozen BK170.out 6
                have hcz21_0 : w5.cell? ⟨gb171, 0, none⟩ = some (.int .i64 a1_0) := (blk_cell BK171.out 0).trans rfl
                have hcz21_1 : w5.cell? ⟨gb171, 1, none⟩ = some (.int .i64 a1_1) := (blk_cell BK171.out 1).trans rfl
                have hcz21_2 : w5.cell? ⟨gb171, 2, none⟩ = some (.int .u8 a1_2) := (blk_cell BK171.out 2).trans rfl
                have hcz21_3 : w5.cell? ⟨gb171, 3, none⟩ = some (.bool a1_3) := (blk_cell BK171.out 3).trans rfl
                have hcz21_4 : w5.cell? ⟨gb171, 4, none⟩ = some (.int .u8 a1_4) := (blk_cell BK171.out 4).trans rfl
                have hcz21_5 : w5.cell? ⟨gb171, 5, none⟩ = some (.slice A1_5 l1_5.length c1_5) := (blk_cell BK171.out 5).trans rfl
                have hcz21_6 : w5.cell? ⟨gb171, 6, none⟩ = some (.slice A1_6 l1_6.length c1_6) := (blk_cell BK171.out 6).trans rfl
                have hfz21_0 := blk_frozen BK171.out 0
                have hfz21_1 := blk_frozen BK171.out 1
                have hfz21_2 := blk_frozen BK171.out 2
                have hfz21_3 := blk_frozen BK171.out 3
                have hfz21_4 := blk_frozen BK171.out 4
                have hfz21_5 := blk_frozen BK171.out 5
                have hfz21_6 := blk_frozen BK171.out 6
                go_wp2_with (first | (go_at_call 16; (with_reducible refine (vitrineref01_Same.calls _ _ l0_6 _ _ l1_6 false _ ?side1 ?side2 ?side3 ?side4 A14.out).mono ?_); (case side1 => repeat (first | exact (Kd.C_below HR0_6.out HB.out) | (with_reducible refine Kd.C_alloc ?_ _) | (with_reducible refine Kd.C_drewN ?_ _) | (with_reducible refine Kd.C_drew ?_))); (case side2 => exact HC0_6.out); (case side3 => repeat (first | exact (Kd.C_below HR1_6.out HB.out) | (with_reducible refine Kd.C_alloc ?_ _) | (with_reducible refine Kd.C_drewN ?_ _) | (with_reducible refine Kd.C_drew ?_))); (case side4 => exact HC1_6.out); rintro e w' ⟨rfl, ⟨nd, rfl⟩⟩; (try first | exact ⟨rfl, _, World.drewN_drewN _ _ _⟩ | exact ⟨rfl, _, Eq.trans (World.drewN_drewN _ _ _) (congrArg (World.drewN _) (Nat.add_assoc _ _ _))⟩)))
                repeat (go_quiet (first | (go_at_call 16; (with_reducible refine (vitrineref01_Same.calls _ _ l0_6 _ _ l1_6 false _ ?side1 ?side2 ?side3 ?side4 A14.out).mono ?_); (case side1 => repeat (first | exact (Kd.C_below HR0_6.out HB.out) | (with_reducible refine Kd.C_alloc ?_ _) | (with_reducible refine Kd.C_drewN ?_ _) | (with_reducible refine Kd.C_drew ?_))); (case side2 => exact HC0_6.out); (case side3 => repeat (first | exact (Kd.C_below HR1_6.out HB.out) | (with_reducible refine Kd.C_alloc ?_ _) | (with_reducible refine Kd.C_drewN ?_ _) | (with_reducible refine Kd.C_drew ?_))); (case side4 => exact HC1_6.out); rintro e w' ⟨rfl, ⟨nd, rfl⟩⟩; (try first | exact ⟨rfl, _, World.drewN_drewN _ _ _⟩ | exact ⟨rfl, _, Eq.trans (World.drewN_drewN _ _ _) (congrArg (World.drewN _) (Nat.add_assoc _ _ _))⟩))); try go_wp2_with (first | (go_at_call 16; (with_reducible refine (vitrineref01_Same.calls _ _ l0_6 _ _ l1_6 false _ ?side1 ?side2 ?side3 ?side4 A14.out).mono ?_); (case side1 => repeat (first | exact (Kd.C_below HR0_6.out HB.out) | (with_reducible refine Kd.C_alloc ?_ _) | (with_reducible refine Kd.C_drewN ?_ _) | (with_reducible refine Kd.C_drew ?_))); (case side2 => exact HC0_6.out); (case side3 => repeat (first | exact (Kd.C_below HR1_6.out HB.out) | (with_reducible refine Kd.C_alloc ?_ _) | (with_reducible refine Kd.C_drewN ?_ _) | (with_reducible refine Kd.C_drew ?_))); (case side4 => exact HC1_6.out); rintro e w' ⟨rfl, ⟨nd, rfl⟩⟩; (try first | exact ⟨rfl, _, World.drewN_drewN _ _ _⟩ | exact ⟨rfl, _, Eq.trans (World.drewN_drewN _ _ _) (congrArg (World.drewN _) (Nat.add_assoc _ _ _))⟩))))
                go_meet
                case rel => exact ⟨_, (true), (by first | rfl | (simp; done) | (simp [*]; done)), H', ⟨by first | omega | exact Nat.le_refl _⟩, ⟨by (with_reducible repeat (first | refine blk_drewN ?_ _ | refine blk_drew ?_ | refine blk_alloc ?_ _)); exact BK170.out⟩, ⟨by (with_reducible repeat (first | refine blk_drewN ?_ _ | refine blk_drew ?_ | refine blk_alloc ?_ _)); exact BK171.out⟩, ⟨by repeat (first | (with_reducible first | exact HB.out | apply below_alloc | apply pw_below_drewN | apply below_drew1 | refine below_set ?_ GE170.out | refine below_set ?_ GE171.out) | exact HB.out)⟩⟩
            · rw [if_neg c13] at H
              have c13b0 : (a0_4 == a1_4) = false := beq_eq_false_iff_ne.mpr c13
              have c13b1 : (a0_4 != a1_4) = true := bne_iff_ne.mpr c13
              have H' := Aside0.mk H
              clear H
              have hnb22 := NB170_171.out
              have hnc22 := NB171_170.out
              have hcz23_0 : w5.cell? ⟨gb170, 0, none⟩ = some (.int .i64 a0_0) := (blk_cell BK170.out 0).trans rfl
              have hcz23_1 : w5.cell? ⟨gb170, 1, none⟩ = some (.int .i64 a0_1) := (blk_cell BK170.out 1).trans rfl
              have hcz23_2 : w5.cell? ⟨gb170, 2, none⟩ = some (.int .u8 a0_2) := (blk_cell BK170.out 2).trans rfl
              have hcz23_3 : w5.cell? ⟨gb170, 3, none⟩ = some (.bool a0_3) := (blk_cell BK170.out 3).trans rfl
              have hcz23_4 : w5.cell? ⟨gb170, 4, none⟩ = some (.int .u8 a0_4) := (blk_cell BK170.out 4).trans rfl
              have hcz23_5 : w5.cell? ⟨gb170, 5, none⟩ = some (.slice A0_5 l0_5.length c0_5) := (blk_cell BK170.out 5).trans rfl
              have hcz23_6 : w5.cell? ⟨gb170, 6, none⟩ = some (.slice A0_6 l0_6.length c0_6) := (blk_cell BK170.out 6).trans rfl
              have hfz23_0 := blk_frozen BK170.out 0
              have hfz23_1 := blk_frozen BK170.out 1
              have hfz23_2 := blk_frozen BK170.out 2
              have hfz23_3 := blk_frozen BK170.out 3
              have hfz23_4 := blk_frozen BK170.out 4
              have hfz23_5 := blk_frozen BK170.out 5
              have hfz23_6 := blk_frozen BK170.out 6
              have hcz24_0 : w5.cell? ⟨gb171, 0, none⟩ = some (.int .i64 a1_0) := (blk_cell BK171.out 0).trans rfl
              have hcz24_1 : w5.cell? ⟨gb171, 1, none⟩ = some (.int .i64 a1_1) := (blk_cell BK171.out 1).trans rfl
              have hcz24_2 : w5.cell? ⟨gb171, 2, none⟩ = some (.int .u8 a1_2) := (blk_cell BK171.out 2).trans rfl
              have hcz24_3 : w5.cell? ⟨gb171, 3, none⟩ = some (.bool a1_3) := (blk_cell BK171.out 3).trans rfl
              have hcz24_4 : w5.cell? ⟨gb171, 4, none⟩ = some (.int .u8 a1_4) := (blk_cell BK171.out 4).trans rfl
              have hcz24_5 : w5.cell? ⟨gb171, 5, none⟩ = some (.slice A1_5 l1_5.length c1_5) := (blk_cell BK171.out 5).trans rfl
              have hcz24_6 : w5.cell? ⟨gb171, 6, none⟩ = some (.slice A1_6 l1_6.length c1_6) := (blk_cell BK171.out 6).trans rfl
              have hfz24_0 := blk_frozen BK171.out 0
              have hfz24_1 := blk_frozen BK171.out 1
              have hfz24_2 := blk_frozen BK171.out 2
              have hfz24_3 := blk_frozen BK171.out 3
              have hfz24_4 := blk_frozen BK171.out 4
              have hfz24_5 := blk_frozen BK171.out 5
              have hfz24_6 := blk_frozen BK171.out 6
              go_wp2
              repeat (go_quiet (fail); try go_wp2)
              go_meet
              case rel => exact ⟨_, (true), (by first | rfl | (simp; done) | (simp [*]; done)), H', ⟨by first | omega | exact Nat.le_refl _⟩, ⟨by (with_reducible repeat (first | refine blk_drewN ?_ _ | refine blk_drew ?_ | refine blk_alloc ?_ _)); exact BK170.out⟩, ⟨by (with_reducible repeat (first | refine blk_drewN ?_ _ | refine blk_drew ?_ | refine blk_alloc ?_ _)); exact BK171.out⟩, ⟨by repeat (first | (with_reducible first | exact HB.out | apply below_alloc | apply pw_below_drewN | apply below_drew1 | refine below_set ?_ GE170.out | refine below_set ?_ GE171.out) | exact HB.out)⟩⟩
        · rw [if_neg c8] at H
          have c8b0 : (a0_2 == a1_2) = false := beq_eq_false_iff_ne.mpr c8
          have c8b1 : (a0_2 != a1_2) = true := bne_iff_ne.mpr c8
          have H' := Aside0.mk H
          clear H
          have hnb25 := NB170_171.out
          have hnc25 := NB171_170.out
          have hcz26_0 : w5.cell? ⟨gb170, 0, none⟩ = some (.int .i64 a0_0) := (blk_cell BK170.out 0).trans rfl
          have hcz26_1 : w5.cell? ⟨gb170, 1, none⟩ = some (.int .i64 a0_1) := (blk_cell BK170.out 1).trans rfl
          have hcz26_2 : w5.cell? ⟨gb170, 2, none⟩ = some (.int .u8 a0_2) := (blk_cell BK170.out 2).trans rfl
          have hcz26_3 : w5.cell? ⟨gb170, 3, none⟩ = some (.bool a0_3) := (blk_cell BK170.out 3).trans rfl
          have hcz26_4 : w5.cell? ⟨gb170, 4, none⟩ = some (.int .u8 a0_4) := (blk_cell BK170.out 4).trans rfl
          have hcz26_5 : w5.cell? ⟨gb170, 5, none⟩ = some (.slice A0_5 l0_5.length c0_5) := (blk_cell BK170.out 5).trans rfl
          have hcz26_6 : w5.cell? ⟨gb170, 6, none⟩ = some (.slice A0_6 l0_6.length c0_6) := (blk_cell BK170.out 6).trans rfl
          have hfz26_0 := blk_frozen BK170.out 0
          have hfz26_1 := blk_frozen BK170.out 1
          have hfz26_2 := blk_frozen BK170.out 2
          have hfz26_3 := blk_frozen BK170.out 3
          have hfz26_4 := blk_frozen BK170.out 4
          have hfz26_5 := blk_frozen BK170.out 5
          have hfz26_6 := blk_frozen BK170.out 6
          have hcz27_0 : w5.cell? ⟨gb171, 0, none⟩ = some (.int .i64 a1_0) := (blk_cell BK171.out 0).trans rfl
          have hcz27_1 : w5.cell? ⟨gb171, 1, none⟩ = some (.int .i64 a1_1) := (blk_cell BK171.out 1).trans rfl
          have hcz27_2 : w5.cell? ⟨gb171, 2, none⟩ = some (.int .u8 a1_2) := (blk_cell BK171.out 2).trans rfl
          have hcz27_3 : w5.cell? ⟨gb171, 3, none⟩ = some (.bool a1_3) := (blk_cell BK171.out 3).trans rfl
          have hcz27_4 : w5.cell? ⟨gb171, 4, none⟩ = some (.int .u8 a1_4) := (blk_cell BK171.out 4).trans rfl
          have hcz27_5 : w5.cell? ⟨gb171, 5, none⟩ = some (.slice A1_5 l1_5.length c1_5) := (blk_cell BK171.out 5).trans rfl
          have hcz27_6 : w5.cell? ⟨gb171, 6, none⟩ = some (.slice A1_6 l1_6.length c1_6) := (blk_cell BK171.out 6).trans rfl
          have hfz27_0 := blk_frozen BK171.out 0
          have hfz27_1 := blk_frozen BK171.out 1
          have hfz27_2 := blk_frozen BK171.out 2
          have hfz27_3 := blk_frozen BK171.out 3
          have hfz27_4 := blk_frozen BK171.out 4
          have hfz27_5 := blk_frozen BK171.out 5
          have hfz27_6 := blk_frozen BK171.out 6
          go_wp2
          repeat (go_quiet (fail); try go_wp2)
          go_meet
          case rel => exact ⟨_, (true), (by first | rfl | (simp; done) | (simp [*]; done)), H', ⟨by first | omega | exact Nat.le_refl _⟩, ⟨by (with_reducible repeat (first | refine blk_drewN ?_ _ | refine blk_drew ?_ | refine blk_alloc ?_ _)); exact BK170.out⟩, ⟨by (with_reducible repeat (first | refine blk_drewN ?_ _ | refine blk_drew ?_ | refine blk_alloc ?_ _)); exact BK171.out⟩, ⟨by repeat (first | (with_reducible first | exact HB.out | apply below_alloc | apply pw_below_drewN | apply below_drew1 | refine below_set ?_ GE170.out | refine below_set ?_ GE171.out) | exact HB.out)⟩⟩
      · rw [if_neg c7] at H
        have c7b0 : (a0_1 == a1_1) = false := beq_eq_false_iff_ne.mpr c7
        have c7b1 : (a0_1 != a1_1) = true := bne_iff_ne.mpr c7
        have H' := Aside0.mk H
        clear H
        have hnb28 := NB170_171.out
        have hnc28 := NB171_170.out
        have hcz29_0 : w5.cell? ⟨gb170, 0, none⟩ = some (.int .i64 a0_0) := (blk_cell BK170.out 0).trans rfl
        have hcz29_1 : w5.cell? ⟨gb170, 1, none⟩ = some (.int .i64 a0_1) := (blk_cell BK170.out 1).trans rfl
        have hcz29_2 : w5.cell? ⟨gb170, 2, none⟩ = some (.int .u8 a0_2) := (blk_cell BK170.out 2).trans rfl
        have hcz29_3 : w5.cell? ⟨gb170, 3, none⟩ = some (.bool a0_3) := (blk_cell BK170.out 3).trans rfl
        have hcz29_4 : w5.cell? ⟨gb170, 4, none⟩ = some (.int .u8 a0_4) := (blk_cell BK170.out 4).trans rfl
        have hcz29_5 : w5.cell? ⟨gb170, 5, none⟩ = some (.slice A0_5 l0_5.length c0_5) := (blk_cell BK170.out 5).trans rfl
        have hcz29_6 : w5.cell? ⟨gb170, 6, none⟩ = some (.slice A0_6 l0_6.length c0_6) := (blk_cell BK170.out 6).trans rfl
        have hfz29_0 := blk_frozen BK170.out 0
        have hfz29_1 := blk_frozen BK170.out 1
        have hfz29_2 := blk_frozen BK170.out 2
        have hfz29_3 := blk_frozen BK170.out 3
        have hfz29_4 := blk_frozen BK170.out 4
        have hfz29_5 := blk_frozen BK170.out 5
        have hfz29_6 := blk_frozen BK170.out 6
        have hcz30_0 : w5.cell? ⟨gb171, 0, none⟩ = some (.int .i64 a1_0) := (blk_cell BK171.out 0).trans rfl
        have hcz30_1 : w5.cell? ⟨gb171, 1, none⟩ = some (.int .i64 a1_1) := (blk_cell BK171.out 1).trans rfl
        have hcz30_2 : w5.cell? ⟨gb171, 2, none⟩ = some (.int .u8 a1_2) := (blk_cell BK171.out 2).trans rfl
        have hcz30_3 : w5.cell? ⟨gb171, 3, none⟩ = some (.bool a1_3) := (blk_cell BK171.out 3).trans rfl
        have hcz30_4 : w5.cell? ⟨gb171, 4, none⟩ = some (.int .u8 a1_4) := (blk_cell BK171.out 4).trans rfl
        have hcz30_5 : w5.cell? ⟨gb171, 5, none⟩ = some (.slice A1_5 l1_5.length c1_5) := (blk_cell BK171.out 5).trans rfl
        have hcz30_6 : w5.cell? ⟨gb171, 6, none⟩ = some (.slice A1_6 l1_6.length c1_6) := (blk_cell BK171.out 6).trans rfl
        have hfz30_0 := blk_frozen BK171.out 0
        have hfz30_1 := blk_frozen BK171.out 1
        have hfz30_2 := blk_frozen BK171.out 2
        have hfz30_3 := blk_frozen BK171.out 3
        have hfz30_4 := blk_frozen BK171.out 4
        have hfz30_5 := blk_frozen BK171.out 5
        have hfz30_6 := blk_frozen BK171.out 6
        go_wp2
        repeat (go_quiet (fail); try go_wp2)
        go_meet
        case rel => exact ⟨_, (true), (by first | rfl | (simp; done) | (simp [*]; done)), H', ⟨by first | omega | exact Nat.le_refl _⟩, ⟨by (with_reducible repeat (first | refine blk_drewN ?_ _ | refine blk_drew ?_ | refine blk_alloc ?_ _)); exact BK170.out⟩, ⟨by (with_reducible repeat (first | refine blk_drewN ?_ _ | refine blk_drew ?_ | refine blk_alloc ?_ _)); exact BK171.out⟩, ⟨by repeat (first | (with_reducible first | exact HB.out | apply below_alloc | apply pw_below_drewN | apply below_drew1 | refine below_set ?_ GE170.out | refine below_set ?_ GE171.out) | exact HB.out)⟩⟩
    · rw [if_neg c6] at H
      have c6b0 : (a0_0 == a1_0) = false := beq_eq_false_iff_ne.mpr c6
      have c6b1 : (a0_0 != a1_0) = true := bne_iff_ne.mpr c6
      (first | rw [c6b0] | (simp only [i64_w, i32_w]; rw [c6b0]) | skip)
      have H' := Aside0.mk H
      clear H
      have hnb31 := NB170_171.out
      have hnc31 := NB171_170.out
      have hcz32_0 : w5.cell? ⟨gb170, 0, none⟩ = some (.int .i64 a0_0) := (blk_cell BK170.out 0).trans rfl
      have hcz32_1 : w5.cell? ⟨gb170, 1, none⟩ = some (.int .i64 a0_1) := (blk_cell BK170.out 1).trans rfl
      have hcz32_2 : w5.cell? ⟨gb170, 2, none⟩ = some (.int .u8 a0_2) := (blk_cell BK170.out 2).trans rfl
      have hcz32_3 : w5.cell? ⟨gb170, 3, none⟩ = some (.bool a0_3) := (blk_cell BK170.out 3).trans rfl
      have hcz32_4 : w5.cell? ⟨gb170, 4, none⟩ = some (.int .u8 a0_4) := (blk_cell BK170.out 4).trans rfl
      have hcz32_5 : w5.cell? ⟨gb170, 5, none⟩ = some (.slice A0_5 l0_5.length c0_5) := (blk_cell BK170.out 5).trans rfl
      have hcz32_6 : w5.cell? ⟨gb170, 6, none⟩ = some (.slice A0_6 l0_6.length c0_6) := (blk_cell BK170.out 6).trans rfl
      have hfz32_0 := blk_frozen BK170.out 0
      have hfz32_1 := blk_frozen BK170.out 1
      have hfz32_2 := blk_frozen BK170.out 2
      have hfz32_3 := blk_frozen BK170.out 3
      have hfz32_4 := blk_frozen BK170.out 4
      have hfz32_5 := blk_frozen BK170.out 5
      have hfz32_6 := blk_frozen BK170.out 6
      have hcz33_0 : w5.cell? ⟨gb171, 0, none⟩ = some (.int .i64 a1_0) := (blk_cell BK171.out 0).trans rfl
      have hcz33_1 : w5.cell? ⟨gb171, 1, none⟩ = some (.int .i64 a1_1) := (blk_cell BK171.out 1).trans rfl
      have hcz33_2 : w5.cell? ⟨gb171, 2, none⟩ = some (.int .u8 a1_2) := (blk_cell BK171.out 2).trans rfl
      have hcz33_3 : w5.cell? ⟨gb171, 3, none⟩ = some (.bool a1_3) := (blk_cell BK171.out 3).trans rfl
      have hcz33_4 : w5.cell? ⟨gb171, 4, none⟩ = some (.int .u8 a1_4) := (blk_cell BK171.out 4).trans rfl
      have hcz33_5 : w5.cell? ⟨gb171, 5, none⟩ = some (.slice A1_5 l1_5.length c1_5) := (blk_cell BK171.out 5).trans rfl
      have hcz33_6 : w5.cell? ⟨gb171, 6, none⟩ = some (.slice A1_6 l1_6.length c1_6) := (blk_cell BK171.out 6).trans rfl
      have hfz33_0 := blk_frozen BK171.out 0
      have hfz33_1 := blk_frozen BK171.out 1
      have hfz33_2 := blk_frozen BK171.out 2
      have hfz33_3 := blk_frozen BK171.out 3
      have hfz33_4 := blk_frozen BK171.out 4
      have hfz33_5 := blk_frozen BK171.out 5
      have hfz33_6 := blk_frozen BK171.out 6
      go_wp2
      repeat (go_quiet (fail); try go_wp2)
      go_meet
      case rel => exact ⟨_, (true), (by first | rfl | (simp; done) | (simp [*]; done)), H', ⟨by first | omega | exact Nat.le_refl _⟩, ⟨by (with_reducible repeat (first | refine blk_drewN ?_ _ | refine blk_drew ?_ | refine blk_alloc ?_ _)); exact BK170.out⟩, ⟨by (with_reducible repeat (first | refine blk_drewN ?_ _ | refine blk_drew ?_ | refine blk_alloc ?_ _)); exact BK171.out⟩, ⟨by repeat (first | (with_reducible first | exact HB.out | apply below_alloc | apply pw_below_drewN | apply below_drew1 | refine below_set ?_ GE170.out | refine below_set ?_ GE171.out) | exact HB.out)⟩⟩
  case rest =>
    clear HC3
    try clear c1
    try clear c2
    try clear p2
    try clear c3
    try clear c6
    try clear c6b0
    try clear c6b1
    try clear c7
    try clear c7b0
    try clear c7b1
    try clear c8
    try clear c8b0
    try clear c8b1
    try clear c9
    try clear c9b0
    try clear c9b1
    try clear c9b2
    try clear c10
    try clear c13
    try clear c13b0
    try clear c13b1
    try clear c15
    try clear c16
    try clear c19
    try clear c22
    try clear c25
    try clear c28
    try clear c31
    try clear hcz11_0
    try clear hcz11_1
    try clear hcz11_2
    try clear hcz11_3
    try clear hcz11_4
    try clear hcz11_5
    try clear hcz11_6
    try clear hcz12_0
    try clear hcz12_1
    try clear hcz12_2
    try clear hcz12_3
    try clear hcz12_4
    try clear hcz12_5
    try clear hcz12_6
    try clear hcz17_0
    try clear hcz17_1
    try clear hcz17_2
    try clear hcz17_3
    try clear hcz17_4
    try clear hcz17_5
    try clear hcz17_6
    try clear hcz18_0
    try clear hcz18_1
    try clear hcz18_2
    try clear hcz18_3
    try clear hcz18_4
    try clear hcz18_5
    try clear hcz18_6
    try clear hcz20_0
    try clear hcz20_1
    try clear hcz20_2
    try clear hcz20_3
    try clear hcz20_4
    try clear hcz20_5
    try clear hcz20_6
    try clear hcz21_0
    try clear hcz21_1
    try clear hcz21_2
    try clear hcz21_3
    try clear hcz21_4
    try clear hcz21_5
    try clear hcz21_6
    try clear hcz23_0
    try clear hcz23_1
    try clear hcz23_2
    try clear hcz23_3
    try clear hcz23_4
    try clear hcz23_5
    try clear hcz23_6
    try clear hcz24_0
    try clear hcz24_1
    try clear hcz24_2
    try clear hcz24_3
    try clear hcz24_4
    try clear hcz24_5
    try clear hcz24_6
    try clear hcz26_0
    try clear hcz26_1
    try clear hcz26_2
    try clear hcz26_3
    try clear hcz26_4
    try clear hcz26_5
    try clear hcz26_6
    try clear hcz27_0
    try clear hcz27_1
    try clear hcz27_2
    try clear hcz27_3
    try clear hcz27_4
    try clear hcz27_5
    try clear hcz27_6
    try clear hcz29_0
    try clear hcz29_1
    try clear hcz29_2
    try clear hcz29_3
    try clear hcz29_4
    try clear hcz29_5
    try clear hcz29_6
    try clear hcz30_0
    try clear hcz30_1
    try clear hcz30_2
    try clear hcz30_3
    try clear hcz30_4
    try clear hcz30_5
    try clear hcz30_6
    try clear hcz32_0
    try clear hcz32_1
    try clear hcz32_2
    try clear hcz32_3
    try clear hcz32_4
    try clear hcz32_5
    try clear hcz32_6
    try clear hcz33_0
    try clear hcz33_1
    try clear hcz33_2
    try clear hcz33_3
    try clear hcz33_4
    try clear hcz33_5
    try clear hcz33_6
    try clear hfz11_0
    try clear hfz11_1
    try clear hfz11_2
    try clear hfz11_3
    try clear hfz11_4
    try clear hfz11_5
    try clear hfz11_6
    try clear hfz12_0
    try clear hfz12_1
    try clear hfz12_2
    try clear hfz12_3
    try clear hfz12_4
    try clear hfz12_5
    try clear hfz12_6
    try clear hfz17_0
    try clear hfz17_1
    try clear hfz17_2
    try clear hfz17_3
    try clear hfz17_4
    try clear hfz17_5
    try clear hfz17_6
    try clear hfz18_0
    try clear hfz18_1
    try clear hfz18_2
    try clear hfz18_3
    try clear hfz18_4
    try clear hfz18_5
    try clear hfz18_6
    try clear hfz20_0
    try clear hfz20_1
    try clear hfz20_2
    try clear hfz20_3
    try clear hfz20_4
    try clear hfz20_5
    try clear hfz20_6
    try clear hfz21_0
    try clear hfz21_1
    try clear hfz21_2
    try clear hfz21_3
    try clear hfz21_4
    try clear hfz21_5
    try clear hfz21_6
    try clear hfz23_0
    try clear hfz23_1
    try clear hfz23_2
    try clear hfz23_3
    try clear hfz23_4
    try clear hfz23_5
    try clear hfz23_6
    try clear hfz24_0
    try clear hfz24_1
    try clear hfz24_2
    try clear hfz24_3
    try clear hfz24_4
    try clear hfz24_5
    try clear hfz24_6
    try clear hfz26_0
    try clear hfz26_1
    try clear hfz26_2
    try clear hfz26_3
    try clear hfz26_4
    try clear hfz26_5
    try clear hfz26_6
    try clear hfz27_0
    try clear hfz27_1
    try clear hfz27_2
    try clear hfz27_3
    try clear hfz27_4
    try clear hfz27_5
    try clear hfz27_6
    try clear hfz29_0
    try clear hfz29_1
    try clear hfz29_2
    try clear hfz29_3
    try clear hfz29_4
    try clear hfz29_5
    try clear hfz29_6
    try clear hfz30_0
    try clear hfz30_1
    try clear hfz30_2
    try clear hfz30_3
    try clear hfz30_4
    try clear hfz30_5
    try clear hfz30_6
    try clear hfz32_0
    try clear hfz32_1
    try clear hfz32_2
    try clear hfz32_3
    try clear hfz32_4
    try clear hfz32_5
    try clear hfz32_6
    try clear hfz33_0
    try clear hfz33_1
    try clear hfz33_2
    try clear hfz33_3
    try clear hfz33_4
    try clear hfz33_5
    try clear hfz33_6
    obtain ⟨kq, x55_2, rfl, HA, HJ2, BK170, BK171, HB⟩ := hcut
    cases kq with
    | zero => exact absurd HA.out (by simp [vitrineref16_Same.j0])
    | succ kj2 =>
      have H := HA.out
      clear HA
      simp only [vitrineref16_Same.j0] at H
      by_cases c34 : x55_2 = true
      · subst c34
        have H1 : (some false) = some r := by rw [if_pos rfl] at H; exact H
        clear H
        have H := H1
        clear H1
        obtain rfl := Option.some.inj H
        go_wp2
        repeat (go_quiet (fail); try go_wp2)
        go_ret
        exact ⟨by first | rfl | (simp [errW_none, errW_some] <;> rfl) | (simp [*, errW_none, errW_some] <;> rfl), by repeat (first | (with_reducible first | exact HB.out | apply below_alloc | apply pw_below_drewN | apply below_drew1 | refine below_set ?_ GE170.out | refine below_set ?_ GE171.out) | exact HB.out)⟩
      · replace c34 := Bool.eq_false_iff.mpr c34
        subst c34
        have H1 : (vitrineref16_Same.l0 kj2 (l0_5.length : Int) 0 a0_0 a0_1 a0_2 a0_3 a0_4 l0_5 l0_6 a1_0 a1_1 a1_2 a1_3 a1_4 l1_5 l1_6) = some r := by rw [if_neg (show ¬ (false = true) by decide)] at H; exact H
        clear H
        have H := H1
        clear H1
        have H' := Aside0.mk H
        clear H
        have hnb35 := NB170_171.out
        have hnc35 := NB171_170.out
        have hcz36_0 : wc.cell? ⟨gb170, 0, none⟩ = some (.int .i64 a0_0) := (blk_cell BK170.out 0).trans rfl
        have hcz36_1 : wc.cell? ⟨gb170, 1, none⟩ = some (.int .i64 a0_1) := (blk_cell BK170.out 1).trans rfl
        have hcz36_2 : wc.cell? ⟨gb170, 2, none⟩ = some (.int .u8 a0_2) := (blk_cell BK170.out 2).trans rfl
        have hcz36_3 : wc.cell? ⟨gb170, 3, none⟩ = some (.bool a0_3) := (blk_cell BK170.out 3).trans rfl
        have hcz36_4 : wc.cell? ⟨gb170, 4, none⟩ = some (.int .u8 a0_4) := (blk_cell BK170.out 4).trans rfl
        have hcz36_5 : wc.cell? ⟨gb170, 5, none⟩ = some (.slice A0_5 l0_5.length c0_5) := (blk_cell BK170.out 5).trans rfl
        have hcz36_6 : wc.cell? ⟨gb170, 6, none⟩ = some (.slice A0_6 l0_6.length c0_6) := (blk_cell BK170.out 6).trans rfl
        have hfz36_0 := blk_frozen BK170.out 0
        have hfz36_1 := blk_frozen BK170.out 1
        have hfz36_2 := blk_frozen BK170.out 2
        have hfz36_3 := blk_frozen BK170.out 3
        have hfz36_4 := blk_frozen BK170.out 4
        have hfz36_5 := blk_frozen BK170.out 5
        have hfz36_6 := blk_frozen BK170.out 6
        go_wp2
        repeat (go_quiet (fail); try go_wp2)
        go_loopg [59] kj2 (fun kq v59 w' => ∃ (x59_2 : Int), v59 = .int .i64 x59_2 ∧ Aside0 (vitrineref16_Same.l0 kq (l0_5.length : Int) x59_2 a0_0 a0_1 a0_2 a0_3 a0_4 l0_5 l0_6 a1_0 a1_1 a1_2 a1_3 a1_4 l1_5 l1_6 = some r) ∧ Aside0 (kq ≤ kj2) ∧ Aside0 (w'.heap[gb170]? = some (.cells #[.int .i64 a0_0, .int .i64 a0_1, .int .u8 a0_2, .bool a0_3, .int .u8 a0_4, (.slice A0_5 l0_5.length c0_5), (.slice A0_6 l0_6.length c0_6)] 38 (0, 0))) ∧ Aside0 (w'.heap[gb171]? = some (.cells #[.int .i64 a1_0, .int .i64 a1_1, .int .u8 a1_2, .bool a1_3, .int .u8 a1_4, (.slice A1_5 l1_5.length c1_5), (.slice A1_6 l1_6.length c1_6)] 38 (0, 0))) ∧ Aside0 (Below w.heap.size w w'))
        case atStart => exact ⟨(0), (by first | rfl | (simp; done) | (simp [*]; done)), H', ⟨Nat.le_refl _⟩, ⟨by (with_reducible repeat (first | refine blk_drewN ?_ _ | refine blk_drew ?_ | refine blk_alloc ?_ _)); exact BK170.out⟩, ⟨by (with_reducible repeat (first | refine blk_drewN ?_ _ | refine blk_drew ?_ | refine blk_alloc ?_ _)); exact BK171.out⟩, ⟨by repeat (first | (with_reducible first | exact HB.out | apply below_alloc | apply pw_below_drewN | apply below_drew1 | refine below_set ?_ GE170.out | refine below_set ?_ GE171.out) | exact HB.out)⟩⟩
        case round =>
          clear H'
          try clear c1
          try clear c2
          try clear p2
          try clear c3
          try clear c6
          try clear c6b0
          try clear c6b1
          try clear c7
          try clear c7b0
          try clear c7b1
          try clear c8
          try clear c8b0
          try clear c8b1
          try clear c9
          try clear c9b0
          try clear c9b1
          try clear c9b2
          try clear c10
          try clear c13
          try clear c13b0
          try clear c13b1
          try clear c15
          try clear c16
          try clear c19
          try clear c22
          try clear c25
          try clear c28
          try clear c31
          try clear c34
          try clear c35
          try clear hcz11_0
          try clear hcz11_1
          try clear hcz11_2
          try clear hcz11_3
          try clear hcz11_4
          try clear hcz11_5
          try clear hcz11_6
          try clear hcz12_0
          try clear hcz12_1
          try clear hcz12_2
          try clear hcz12_3
          try clear hcz12_4
          try clear hcz12_5
          try clear hcz12_6
          try clear hcz17_0
          try clear hcz17_1
          try clear hcz17_2
          try clear hcz17_3
          try clear hcz17_4
          try clear hcz17_5
          try clear hcz17_6
          try clear hcz18_0
          try clear hcz18_1
          try clear hcz18_2
          try clear hcz18_3
          try clear hcz18_4
          try clear hcz18_5
          try clear hcz18_6
          try clear hcz20_0
          try clear hcz20_1
          try clear hcz20_2
          try clear hcz20_3
          try clear hcz20_4
          try clear hcz20_5
          try clear hcz20_6
          try clear hcz21_0
          try clear hcz21_1
          try clear hcz21_2
          try clear hcz21_3
          try clear hcz21_4
          try clear hcz21_5
          try clear hcz21_6
          try clear hcz23_0
          try clear hcz23_1
          try clear hcz23_2
          try clear hcz23_3
          try clear hcz23_4
          try clear hcz23_5
          try clear hcz23_6
          try clear hcz24_0
          try clear hcz24_1
          try clear hcz24_2
          try clear hcz24_3
          try clear hcz24_4
          try clear hcz24_5
          try clear hcz24_6
          try clear hcz26_0
          try clear hcz26_1
          try clear hcz26_2
          try clear hcz26_3
          try clear hcz26_4
          try clear hcz26_5
          try clear hcz26_6
          try clear hcz27_0
          try clear hcz27_1
          try clear hcz27_2
          try clear hcz27_3
          try clear hcz27_4
          try clear hcz27_5
          try clear hcz27_6
          try clear hcz29_0
          try clear hcz29_1
          try clear hcz29_2
          try clear hcz29_3
          try clear hcz29_4
          try clear hcz29_5
          try clear hcz29_6
          try clear hcz30_0
          try clear hcz30_1
          try clear hcz30_2
          try clear hcz30_3
          try clear hcz30_4
          try clear hcz30_5
          try clear hcz30_6
          try clear hcz32_0
          try clear hcz32_1
          try clear hcz32_2
          try clear hcz32_3
          try clear hcz32_4
          try clear hcz32_5
          try clear hcz32_6
          try clear hcz33_0
          try clear hcz33_1
          try clear hcz33_2
          try clear hcz33_3
          try clear hcz33_4
          try clear hcz33_5
          try clear hcz33_6
          try clear hcz36_0
          try clear hcz36_1
          try clear hcz36_2
          try clear hcz36_3
          try clear hcz36_4
          try clear hcz36_5
          try clear hcz36_6
          try clear hfz11_0
          try clear hfz11_1
          try clear hfz11_2
          try clear hfz11_3
          try clear hfz11_4
          try clear hfz11_5
          try clear hfz11_6
          try clear hfz12_0
          try clear hfz12_1
          try clear hfz12_2
          try clear hfz12_3
          try clear hfz12_4
          try clear hfz12_5
          try clear hfz12_6
          try clear hfz17_0
          try clear hfz17_1
          try clear hfz17_2
          try clear hfz17_3
          try clear hfz17_4
          try clear hfz17_5
          try clear hfz17_6
          try clear hfz18_0
          try clear hfz18_1
          try clear hfz18_2
          try clear hfz18_3
          try clear hfz18_4
          try clear hfz18_5
          try clear hfz18_6
          try clear hfz20_0
          try clear hfz20_1
          try clear hfz20_2
          try clear hfz20_3
          try clear hfz20_4
          try clear hfz20_5
          try clear hfz20_6
          try clear hfz21_0
          try clear hfz21_1
          try clear hfz21_2
          try clear hfz21_3
          try clear hfz21_4
          try clear hfz21_5
          try clear hfz21_6
          try clear hfz23_0
          try clear hfz23_1
          try clear hfz23_2
          try clear hfz23_3
          try clear hfz23_4
          try clear hfz23_5
          try clear hfz23_6
          try clear hfz24_0
          try clear hfz24_1
          try clear hfz24_2
          try clear hfz24_3
          try clear hfz24_4
          try clear hfz24_5
          try clear hfz24_6
          try clear hfz26_0
          try clear hfz26_1
          try clear hfz26_2
          try clear hfz26_3
          try clear hfz26_4
          try clear hfz26_5
          try clear hfz26_6
          try clear hfz27_0
          try clear hfz27_1
          try clear hfz27_2
          try clear hfz27_3
          try clear hfz27_4
          try clear hfz27_5
          try clear hfz27_6
          try clear hfz29_0
          try clear hfz29_1
          try clear hfz29_2
          try clear hfz29_3
          try clear hfz29_4
          try clear hfz29_5
          try clear hfz29_6
          try clear hfz30_0
          try clear hfz30_1
          try clear hfz30_2
          try clear hfz30_3
          try clear hfz30_4
          try clear hfz30_5
          try clear hfz30_6
          try clear hfz32_0
          try clear hfz32_1
          try clear hfz32_2
          try clear hfz32_3
          try clear hfz32_4
          try clear hfz32_5
          try clear hfz32_6
          try clear hfz33_0
          try clear hfz33_1
          try clear hfz33_2
          try clear hfz33_3
          try clear hfz33_4
          try clear hfz33_5
          try clear hfz33_6
          try clear hfz36_0
          try clear hfz36_1
          try clear hfz36_2
          try clear hfz36_3
          try clear hfz36_4
          try clear hfz36_5
          try clear hfz36_6
          try clear p2
          obtain ⟨x59_2, rfl, HA, HK2, BK170, BK171, HB⟩ := hrel
          cases gk with
          | zero => exact absurd HA.out (by simp [vitrineref16_Same.l0])
          | succ k2 =>
            have H := HA.out
            clear HA
            simp only [vitrineref16_Same.l0] at H
            by_cases c37 : x59_2 < (l0_5.length : Int)
            · rw [if_pos c37] at H
              have c37b0 : decide (x59_2 < (l0_5.length : Int)) = true := decide_eq_true c37
              clear c37
              by_cases c38 : 0 ≤ x59_2
              · rw [if_pos c38] at H
                have c38b0 : decide (0 ≤ x59_2) = true := decide_eq_true c38
                clear c38
                by_cases c39 : x59_2 < (l0_5.length : Int)
                · rw [if_pos c39] at H
                  have c39b0 : decide (x59_2 < (l0_5.length : Int)) = true := decide_eq_true c39
                  clear c39
                  by_cases c40 : x59_2 < (l1_5.length : Int)
                  · rw [if_pos c40] at H
                    have c40b0 : decide (x59_2 < (l1_5.length : Int)) = true := decide_eq_true c40
                    clear c40
                    by_cases c41 : (!(((rd_T51 l0_5 x59_2).f0) == ((rd_T51 l1_5 x59_2).f0)) || (!(((rd_T51 l0_5 x59_2).f1) == ((rd_T51 l1_5 x59_2).f1)))) = true
                    · rw [if_pos c41] at H
                      have c41b0 : (!(((rd_T51 l0_5 x59_2).f0) == ((rd_T51 l1_5 x59_2).f0)) || (!(((rd_T51 l0_5 x59_2).f1) == ((rd_T51 l1_5 x59_2).f1)))) = true := c41
                      clear c41
                      obtain rfl := Option.some.inj H
                      have hnb42 := NB170_171.out
                      have hnc42 := NB171_170.out
                      have hcz43_0 : wr.cell? ⟨gb170, 0, none⟩ = some (.int .i64 a0_0) := (blk_cell BK170.out 0).trans rfl
                      have hcz43_1 : wr.cell? ⟨gb170, 1, none⟩ = some (.int .i64 a0_1) := (blk_cell BK170.out 1).trans rfl
                      have hcz43_2 : wr.cell? ⟨gb170, 2, none⟩ = some (.int .u8 a0_2) := (blk_cell BK170.out 2).trans rfl
                      have hcz43_3 : wr.cell? ⟨gb170, 3, none⟩ = some (.bool a0_3) := (blk_cell BK170.out 3).trans rfl
                      have hcz43_4 : wr.cell? ⟨gb170, 4, none⟩ = some (.int .u8 a0_4) := (blk_cell BK170.out 4).trans rfl
                      have hcz43_5 : wr.cell? ⟨gb170, 5, none⟩ = some (.slice A0_5 l0_5.length c0_5) := (blk_cell BK170.out 5).trans rfl
                      have hcz43_6 : wr.cell? ⟨gb170, 6, none⟩ = some (.slice A0_6 l0_6.length c0_6) := (blk_cell BK170.out 6).trans rfl
                      have hfz43_0 := blk_frozen BK170.out 0
                      have hfz43_1 := blk_frozen BK170.out 1
                      have hfz43_2 := blk_frozen BK170.out 2
                      have hfz43_3 := blk_frozen BK170.out 3
                      have hfz43_4 := blk_frozen BK170.out 4
                      have hfz43_5 := blk_frozen BK170.out 5
                      have hfz43_6 := blk_frozen BK170.out 6
                      have p173 : 0 ≤ (x59_2 : Int) := of_decide_eq_true (by first | (with_reducible assumption) | assumption)
                      have q173 : x59_2 < (l0_5.length : Int) := of_decide_eq_true (by first | (with_reducible assumption) | assumption)
                      obtain ⟨ad173, e173, hx173_0, hx173_1⟩ := at_T51 HR0_5.out x59_2 p173 q173
                      cases e173
                      replace hx173_0 := (HB.out.cell (World.block_lt_of_cell? w _ hx173_0)).trans hx173_0
                      replace hx173_1 := (HB.out.cell (World.block_lt_of_cell? w _ hx173_1)).trans hx173_1
                      replace p173 := eq_true p173
                      replace q173 := eq_true q173
                      have hcz44_0 : wr.cell? ⟨gb171, 0, none⟩ = some (.int .i64 a1_0) := (blk_cell BK171.out 0).trans rfl
                      have hcz44_1 : wr.cell? ⟨gb171, 1, none⟩ = some (.int .i64 a1_1) := (blk_cell BK171.out 1).trans rfl
                      have hcz44_2 : wr.cell? ⟨gb171, 2, none⟩ = some (.int .u8 a1_2) := (blk_cell BK171.out 2).trans rfl
                      have hcz44_3 : wr.cell? ⟨gb171, 3, none⟩ = some (.bool a1_3) := (blk_cell BK171.out 3).trans rfl
                      have hcz44_4 : wr.cell? ⟨gb171, 4, none⟩ = some (.int .u8 a1_4) := (blk_cell BK171.out 4).trans rfl
                      have hcz44_5 : wr.cell? ⟨gb171, 5, none⟩ = some (.slice A1_5 l1_5.length c1_5) := (blk_cell BK171.out 5).trans rfl
                      have hcz44_6 : wr.cell? ⟨gb171, 6, none⟩ = some (.slice A1_6 l1_6.length c1_6) := (blk_cell BK171.out 6).trans rfl
                      have hfz44_0 := blk_frozen BK171.out 0
                      have hfz44_1 := blk_frozen BK171.out 1
                      have hfz44_2 := blk_frozen BK171.out 2
                      have hfz44_3 := blk_frozen BK171.out 3
                      have hfz44_4 := blk_frozen BK171.out 4
                      have hfz44_5 := blk_frozen BK171.out 5
                      have hfz44_6 := blk_frozen BK171.out 6
                      have p174 : 0 ≤ (x59_2 : Int) := of_decide_eq_true (by first | (with_reducible assumption) | assumption)
                      have q174 : x59_2 < (l1_5.length : Int) := of_decide_eq_true (by first | (with_reducible assumption) | assumption)
                      obtain ⟨ad174, e174, hx174_0, hx174_1⟩ := at_T51 HR1_5.out x59_2 p174 q174
                      cases e174
                      replace hx174_0 := (HB.out.cell (World.block_lt_of_cell? w _ hx174_0)).trans hx174_0
                      replace hx174_1 := (HB.out.cell (World.block_lt_of_cell? w _ hx174_1)).trans hx174_1
                      replace p174 := eq_true p174
                      replace q174 := eq_true q174
                      go_wp2
                      repeat (go_quiet (fail); try go_wp2)
                      go_ret
                      exact ⟨by first | rfl | (simp [errW_none, errW_some] <;> rfl) | (simp [*, errW_none, errW_some] <;> rfl), by repeat (first | (with_reducible first | exact HB.out | apply below_alloc | apply pw_below_drewN | apply below_drew1 | refine below_set ?_ GE170.out | refine below_set ?_ GE171.out) | exact HB.out)⟩
                    · rw [if_neg c41] at H
                      have c41b0 : (!(((rd_T51 l0_5 x59_2).f0) == ((rd_T51 l1_5 x59_2).f0)) || (!(((rd_T51 l0_5 x59_2).f1) == ((rd_T51 l1_5 x59_2).f1)))) = false := by simpa using c41
                      clear c41
                      have H' := Aside0.mk H
                      clear H
                      have hnb45 := NB170_171.out
                      have hnc45 := NB171_170.out
                      have hcz46_0 : wr.cell? ⟨gb170, 0, none⟩ = some (.int .i64 a0_0) := (blk_cell BK170.out 0).trans rfl
                      have hcz46_1 : wr.cell? ⟨gb170, 1, none⟩ = some (.int .i64 a0_1) := (blk_cell BK170.out 1).trans rfl
                      have hcz46_2 : wr.cell? ⟨gb170, 2, none⟩ = some (.int .u8 a0_2) := (blk_cell BK170.out 2).trans rfl
                      have hcz46_3 : wr.cell? ⟨gb170, 3, none⟩ = some (.bool a0_3) := (blk_cell BK170.out 3).trans rfl
                      have hcz46_4 : wr.cell? ⟨gb170, 4, none⟩ = some (.int .u8 a0_4) := (blk_cell BK170.out 4).trans rfl
                      have hcz46_5 : wr.cell? ⟨gb170, 5, none⟩ = some (.slice A0_5 l0_5.length c0_5) := (blk_cell BK170.out 5).trans rfl
                      have hcz46_6 : wr.cell? ⟨gb170, 6, none⟩ = some (.slice A0_6 l0_6.length c0_6) := (blk_cell BK170.out 6).trans rfl
                      have hfz46_0 := blk_frozen BK170.out 0
                      have hfz46_1 := blk_frozen BK170.out 1
                      have hfz46_2 := blk_frozen BK170.out 2
                      have hfz46_3 := blk_frozen BK170.out 3
                      have hfz46_4 := blk_frozen BK170.out 4
                      have hfz46_5 := blk_frozen BK170.out 5
                      have hfz46_6 := blk_frozen BK170.out 6
                      have p173 : 0 ≤ (x59_2 : Int) := of_decide_eq_true (by first | (with_reducible assumption) | assumption)
                      have q173 : x59_2 < (l0_5.length : Int) := of_decide_eq_true (by first | (with_reducible assumption) | assumption)
                      obtain ⟨ad173, e173, hx173_0, hx173_1⟩ := at_T51 HR0_5.out x59_2 p173 q173
                      cases e173
                      replace hx173_0 := (HB.out.cell (World.block_lt_of_cell? w _ hx173_0)).trans hx173_0
                      replace hx173_1 := (HB.out.cell (World.block_lt_of_cell? w _ hx173_1)).trans hx173_1
                      replace p173 := eq_true p173
                      replace q173 := eq_true q173
                      have hcz47_0 : wr.cell? ⟨gb171, 0, none⟩ = some (.int .i64 a1_0) := (blk_cell BK171.out 0).trans rfl
                      have hcz47_1 : wr.cell? ⟨gb171, 1, none⟩ = some (.int .i64 a1_1) := (blk_cell BK171.out 1).trans rfl
                      have hcz47_2 : wr.cell? ⟨gb171, 2, none⟩ = some (.int .u8 a1_2) := (blk_cell BK171.out 2).trans rfl
                      have hcz47_3 : wr.cell? ⟨gb171, 3, none⟩ = some (.bool a1_3) := (blk_cell BK171.out 3).trans rfl
                      have hcz47_4 : wr.cell? ⟨gb171, 4, none⟩ = some (.int .u8 a1_4) := (blk_cell BK171.out 4).trans rfl
                      have hcz47_5 : wr.cell? ⟨gb171, 5, none⟩ = some (.slice A1_5 l1_5.length c1_5) := (blk_cell BK171.out 5).trans rfl
                      have hcz47_6 : wr.cell? ⟨gb171, 6, none⟩ = some (.slice A1_6 l1_6.length c1_6) := (blk_cell BK171.out 6).trans rfl
                      have hfz47_0 := blk_frozen BK171.out 0
                      have hfz47_1 := blk_frozen BK171.out 1
                      have hfz47_2 := blk_frozen BK171.out 2
                      have hfz47_3 := blk_frozen BK171.out 3
                      have hfz47_4 := blk_frozen BK171.out 4
                      have hfz47_5 := blk_frozen BK171.out 5
                      have hfz47_6 := blk_frozen BK171.out 6
                      have p174 : 0 ≤ (x59_2 : Int) := of_decide_eq_true (by first | (with_reducible assumption) | assumption)
                      have q174 : x59_2 < (l1_5.length : Int) := of_decide_eq_true (by first | (with_reducible assumption) | assumption)
                      obtain ⟨ad174, e174, hx174_0, hx174_1⟩ := at_T51 HR1_5.out x59_2 p174 q174
                      cases e174
                      replace hx174_0 := (HB.out.cell (World.block_lt_of_cell? w _ hx174_0)).trans hx174_0
                      replace hx174_1 := (HB.out.cell (World.block_lt_of_cell? w _ hx174_1)).trans hx174_1
                      replace p174 := eq_true p174
                      replace q174 := eq_true q174
                      go_wp2
                      repeat (go_quiet (fail); try go_wp2)
                      go_roundg k2
                      case measure => have := HJ2.out; have := HK2.out; omega
                      case rel => exact ⟨(wrap64 (x59_2 + 1)), (by first | rfl | (simp; done) | (simp [*]; done)), H', ⟨by have := HJ2.out; have := HK2.out; omega⟩, ⟨by (with_reducible repeat (first | refine blk_drewN ?_ _ | refine blk_drew ?_ | refine blk_alloc ?_ _)); exact BK170.out⟩, ⟨by (with_reducible repeat (first | refine blk_drewN ?_ _ | refine blk_drew ?_ | refine blk_alloc ?_ _)); exact BK171.out⟩, ⟨by repeat (first | (with_reducible first | exact HB.out | apply below_alloc | apply pw_below_drewN | apply below_drew1 | refine below_set ?_ GE170.out | refine below_set ?_ GE171.out) | exact HB.out)⟩⟩
                  · rw [if_neg c40] at H
                    exact absurd H (by simp)
                · rw [if_neg c39] at H
                  exact absurd H (by simp)
              · rw [if_neg c38] at H
                exact absurd H (by simp)
            · rw [if_neg c37] at H
              have c37b0 : decide (x59_2 < (l0_5.length : Int)) = false := decide_eq_false c37
              clear c37
              obtain rfl := Option.some.inj H
              go_wp2
              repeat (go_quiet (fail); try go_wp2)
              go_ret
              exact ⟨by first | rfl | (simp [errW_none, errW_some] <;> rfl) | (simp [*, errW_none, errW_some] <;> rfl), by repeat (first | (with_reducible first | exact HB.out | apply below_alloc | apply pw_below_drewN | apply below_drew1 | refine below_set ?_ GE170.out | refine below_set ?_ GE171.out) | exact HB.out)⟩

end Go.Proofs.Ytmejmlohinjpdaa.POr
