-- Written by a program of this session (a changed copy of the kit's print program): not the kit's print.
import Derived.Test.YtnncgipmfikooaaDoorPHdx0
import Derived.Test.YtnncgipmfikooaaDoorPHdx1
import Derived.Test.YtnncgipmfikooaaDoorPHdx2
import Derived.Test.YtnncgipmfikooaaDoorPHdx3
import Derived.Test.YtnncgipmfikooaaDoorPHdx4
import Derived.Test.YtnncgipmfikooaaDoorPHdx5
import Derived.Test.YtnncgipmfikooaaDoorPHdx7
namespace Go.Proofs.YtnncgipmfikooaaDoor.PHd
open Go.RowKit Go.Proofs.YtnncgipmfikooaaDoorW.PrintWords Go.Proofs.YtnncgipmfikooaaDoorW.PrintLast Go.Proofs.YtnncgipmfikooaaDoorW.PrintMore
attribute [local go_sem] max2_int min2_int max_two min_two max_three min_three max_four min_four   -- for this text's walks alone
set_option linter.unusedVariables false
set_option linter.unusedSimpArgs false

attribute [local go_sem high] eqA24
/-! ### vitrinelaw09_HeaderCodes: function 4 -/
mutual
def vitrinelaw09_HeaderCodes.j0 : Nat → List Int → List Int → Int → Bool → Int → Int → Int → Int → Option (Bool)
  | 0, _, _, _, _, _, _, _, _ => none
  | k + 1, x1, x5, x6, x39, x236000, x236001, x236002, x236003 => if x39 = true then (none) else ((vitrineref01_Cut.f x1 30).bind fun t246 => (if x6 = 0 then (if x5.length + t246.length < 140737488355328 then ((header_Parse.f (x5 ++ t246)).bind fun bt252 => (if bt252.2.2.2.2.2 = 0 then (if (!(bt252.1 == x236000) || (!(bt252.2.1 == x236001) || (!(bt252.2.2.1 == x236002) || (!(bt252.2.2.2.1 == x236003))))) = true then (none) else ((vitrineref01_Same.f bt252.2.2.2.2.1 t246).bind fun t261 => (if t261 = true then (vitrinelaw09_HeaderCodes.j1 k t246) else (none)))) else (none))) else (none)) else (vitrinelaw09_HeaderCodes.j1 k t246)))
def vitrinelaw09_HeaderCodes.j1 : Nat → List Int → Option (Bool)
  | 0, _ => none
  | k + 1, x1 => (vitrineref01_Copy.f x1).bind fun t262 => ((header_Parse.f t262).bind fun bt265 => ((vitrineref09_Parse.f x1).bind fun bt274 => ((vitrineref01_Flip.f k t262).bind fun t283 => (if (bt265.1 == bt274.1 && (bt265.2.1 == bt274.2.1 && (bt265.2.2.1 == bt274.2.2.1 && (bt265.2.2.2.1 == bt274.2.2.2.1)))) = true then ((vitrineref01_Same.f bt265.2.2.2.2.1 bt274.2.2.2.2.1).bind fun t284 => (if t284 = true then (some (bt265.2.2.2.2.2 == bt274.2.2.2.2.2)) else (none))) else (none)))))
end
def vitrinelaw09_HeaderCodes.f (k : Nat) (a0_0 : Int) (a0_1 : Int) (a0_2 : Int) (a0_3 : Int) (l1 : List Int) : Option (Bool) := (vitrinelaw09_awake.f k).bind fun t236 => (if t236 = true then ((header_Header_Bytes.f a0_0 a0_1 a0_2 a0_3).bind fun bt237 => ((vitrineref09_Bytes.f a0_0 a0_1 a0_2 a0_3).bind fun bt241 => ((vitrineref01_Same.f bt237.1 bt241.1).bind fun t245 => (if t245 = true then (vitrinelaw09_HeaderCodes.j0 k l1 bt237.1 bt237.2 (bt237.2 != bt241.2) a0_0 a0_1 a0_2 a0_3) else (none))))) else (none))
theorem vitrinelaw09_HeaderCodes.mono_l : ∀ k, (∀ y0 y1 y2 y3 y4 y5 y6 y7, LeO (vitrinelaw09_HeaderCodes.j0 k y0 y1 y2 y3 y4 y5 y6 y7) (vitrinelaw09_HeaderCodes.j0 (k + 1) y0 y1 y2 y3 y4 y5 y6 y7)) ∧ (∀ y0, LeO (vitrinelaw09_HeaderCodes.j1 k y0) (vitrinelaw09_HeaderCodes.j1 (k + 1) y0))
  | 0 => ⟨fun _ _ _ _ _ _ _ _ r h => by simp [vitrinelaw09_HeaderCodes.j0] at h, fun _ r h => by simp [vitrinelaw09_HeaderCodes.j1] at h⟩
  | k + 1 => by
    obtain ⟨ih0, ih1⟩ := vitrinelaw09_HeaderCodes.mono_l k
    refine ⟨?_, ?_⟩
    · intro y0 y1 y2 y3 y4 y5 y6 y7
      unfold vitrinelaw09_HeaderCodes.j0
      repeat' first
      | (with_reducible exact ih0 _ _ _ _ _ _ _ _)
      | (with_reducible exact ih1 _)
      | (with_reducible exact vitrinelaw09_awake.mono _)
      | (with_reducible exact vitrineref01_Flip.mono _ _)
      | (with_reducible exact LeO.refl _)
      | (with_reducible exact LeO.none _)
      | (with_reducible refine LeO.ite ?_ ?_)
      | (with_reducible refine LeO.bind ?_ (fun _ => ?_))
      | exact ih0 _ _ _ _ _ _ _ _
      | exact ih1 _
      | exact vitrinelaw09_awake.mono _
      | exact vitrineref01_Flip.mono _ _
      | exact LeO.none _
      | refine LeO.ite ?_ ?_
      | refine LeO.bind ?_ (fun _ => ?_)
    · intro y0
      unfold vitrinelaw09_HeaderCodes.j1
      repeat' first
      | (with_reducible exact ih0 _ _ _ _ _ _ _ _)
      | (with_reducible exact ih1 _)
      | (with_reducible exact vitrinelaw09_awake.mono _)
      | (with_reducible exact vitrineref01_Flip.mono _ _)
      | (with_reducible exact LeO.refl _)
      | (with_reducible exact LeO.none _)
      | (with_reducible refine LeO.ite ?_ ?_)
      | (with_reducible refine LeO.bind ?_ (fun _ => ?_))
      | exact ih0 _ _ _ _ _ _ _ _
      | exact ih1 _
      | exact vitrinelaw09_awake.mono _
      | exact vitrineref01_Flip.mono _ _
      | exact LeO.none _
      | refine LeO.ite ?_ ?_
      | refine LeO.bind ?_ (fun _ => ?_)
theorem vitrinelaw09_HeaderCodes.mono : ∀ a0 a1 a2 a3 a4 k, LeO (vitrinelaw09_HeaderCodes.f k a0 a1 a2 a3 a4) (vitrinelaw09_HeaderCodes.f (k + 1) a0 a1 a2 a3 a4) := by
  intro a0 a1 a2 a3 a4 k
  obtain ⟨ih0, ih1⟩ := vitrinelaw09_HeaderCodes.mono_l k
  unfold vitrinelaw09_HeaderCodes.f
  repeat' first
      | (with_reducible exact ih0 _ _ _ _ _ _ _ _)
      | (with_reducible exact ih1 _)
      | (with_reducible exact vitrinelaw09_awake.mono _)
      | (with_reducible exact vitrineref01_Flip.mono _ _)
      | (with_reducible exact LeO.refl _)
      | (with_reducible exact LeO.none _)
      | (with_reducible refine LeO.ite ?_ ?_)
      | (with_reducible refine LeO.bind ?_ (fun _ => ?_))
      | exact ih0 _ _ _ _ _ _ _ _
      | exact ih1 _
      | exact vitrinelaw09_awake.mono _
      | exact vitrineref01_Flip.mono _ _
      | exact LeO.none _
      | refine LeO.ite ?_ ?_
      | refine LeO.bind ?_ (fun _ => ?_)
set_option maxHeartbeats 8000000 in
set_option maxRecDepth 100000 in
theorem vitrinelaw09_HeaderCodes.calls (k : Nat) (a0_0 : Int) (a0_1 : Int) (a0_2 : Int) (a0_3 : Int) (A1 : Option Addr) (c1 : Nat) (l1 : List Int) (r : Bool) (w : World) (hr1 : Kd.C (Kd.int .u8) w A1 l1.length l1) (hc1 : l1.length ≤ c1) (hGL : GL w) (h : vitrinelaw09_HeaderCodes.f k a0_0 a0_1 a0_2 a0_3 l1 = some r) :
    Calls Tryd.prog 4 #[.agg #[.int .u8 a0_0, .int .u8 a0_1, .int .u8 a0_2, .int .u16 a0_3], .slice A1 l1.length c1] w fun e w' => e = .returned (.bool r) ∧ Below w.heap.size w w' := by
  have hu24 := Tryd.underlying24
  have hu29 := Tryd.underlying29
  have HR1 := Aside0.mk hr1
  have HC1 := Aside0.mk hc1
  clear hr1 hc1
  have HGL := Aside0.mk hGL
  clear hGL
  have HB := Aside0.mk (Below.refl w.heap.size w)
  have H : ((vitrinelaw09_awake.f k).bind fun t236 => (if t236 = true then ((header_Header_Bytes.f a0_0 a0_1 a0_2 a0_3).bind fun bt237 => ((vitrineref09_Bytes.f a0_0 a0_1 a0_2 a0_3).bind fun bt241 => ((vitrineref01_Same.f bt237.1 bt241.1).bind fun t245 => (if t245 = true then (vitrinelaw09_HeaderCodes.j0 k l1 bt237.1 bt237.2 (bt237.2 != bt241.2) a0_0 a0_1 a0_2 a0_3) else (none))))) else (none))) = some r := h
  clear h
  replace H := Option.bind_eq_some_iff.mp H
  obtain ⟨t236, A30, H⟩ := H
  replace H : (if t236 = true then ((header_Header_Bytes.f a0_0 a0_1 a0_2 a0_3).bind fun bt237 => ((vitrineref09_Bytes.f a0_0 a0_1 a0_2 a0_3).bind fun bt241 => ((vitrineref01_Same.f bt237.1 bt241.1).bind fun t245 => (if t245 = true then (vitrinelaw09_HeaderCodes.j0 k l1 bt237.1 bt237.2 (bt237.2 != bt241.2) a0_0 a0_1 a0_2 a0_3) else (none))))) else (none)) = some r := H
  have A3 := Aside0.mk A30
  clear A30
  by_cases c4 : t236 = true
  · subst c4
    have H1 : ((header_Header_Bytes.f a0_0 a0_1 a0_2 a0_3).bind fun bt237 => ((vitrineref09_Bytes.f a0_0 a0_1 a0_2 a0_3).bind fun bt241 => ((vitrineref01_Same.f bt237.1 bt241.1).bind fun t245 => (if t245 = true then (vitrinelaw09_HeaderCodes.j0 k l1 bt237.1 bt237.2 (bt237.2 != bt241.2) a0_0 a0_1 a0_2 a0_3) else (none))))) = some r := by rw [if_pos rfl] at H; exact H
    clear H
    have H := H1
    clear H1
    replace H := Option.bind_eq_some_iff.mp H
    obtain ⟨⟨t237, t240⟩, A50, H⟩ := H
    replace H : ((vitrineref09_Bytes.f a0_0 a0_1 a0_2 a0_3).bind fun bt241 => ((vitrineref01_Same.f t237 bt241.1).bind fun t245 => (if t245 = true then (vitrinelaw09_HeaderCodes.j0 k l1 t237 t240 (t240 != bt241.2) a0_0 a0_1 a0_2 a0_3) else (none)))) = some r := H
    have A5 := Aside0.mk A50
    clear A50
    replace H := Option.bind_eq_some_iff.mp H
    obtain ⟨⟨t241, t244⟩, A60, H⟩ := H
    replace H : ((vitrineref01_Same.f t237 t241).bind fun t245 => (if t245 = true then (vitrinelaw09_HeaderCodes.j0 k l1 t237 t240 (t240 != t244) a0_0 a0_1 a0_2 a0_3) else (none))) = some r := H
    have A6 := Aside0.mk A60
    clear A60
    have HC7 := Aside0.mk H
    clear H
    go_enter Tryd.func4, Tryd.ntmps4
    go_upto_region 5 with (first | ((with_reducible refine gate_dst (N := 2) rfl ?_); refine box_event ?hg (N := 2) ?hd (cs := #[.int .u8 a0_0, .int .u8 a0_1, .int .u8 a0_2, .int .u16 a0_3]) (t := 24) ?hr ?_; (case hd => rfl); (case hg => rfl); (case hr => first | (go_simp; done) | (go_simp; rfl)); intro gb235 hg w8 hbox hb; have n0_ := Aside0.mk (below_step (by repeat (first | (with_reducible first | exact HB.out | apply below_alloc | apply pw_below_drewN | apply below_drew1) | exact HB.out)) hb); have n1_ := Aside0.mk (hbox); have n2_ := Aside0.mk ((by rw [hg]; exact (below_size (by repeat (first | (with_reducible first | exact HB.out | apply below_alloc | apply pw_below_drewN | apply below_drew1) | exact HB.out))) : w.heap.size ≤ gb235)); have n3_ := Aside0.mk ((by rw [hg]; exact (below_size (by repeat (first | (with_reducible first | exact HB.out | apply below_alloc | apply pw_below_drewN | apply below_drew1) | exact HB.out))) : w.heap.size ≤ gb235)); clear HB; have HB := n0_; have BK235 := n1_; have GW235 := n2_; have GE235 := n3_; clear n0_ n1_ n2_ n3_; clear hb hbox hg) | ((with_reducible refine gate_callee (f := 6) rfl ?_); refine goesL_ (some 19) rfl rfl Tryd.func6 (by kernel_rfl) rfl #[] rfl (by (try simp only [List.map_toArray, List.map_cons, List.map_nil]); first | done | rfl | (simp only [List.length_drop, List.length_take]; rfl)) ?_; (with_reducible refine (vitrinelaw09_awake.calls k  true _ ?side1 A3.out).mono ?_); (case side1 => exact GL_below HGL.out (by repeat (first | (with_reducible first | exact HB.out | apply below_alloc | apply pw_below_drewN | apply below_drew1 | refine below_set ?_ GE235.out) | exact HB.out))); rintro e w9 ⟨rfl, hb⟩; refine ⟨_, rfl, ?_⟩; have n0_ := Aside0.mk (blk_below (g := gb235) (o := .cells #[.int .u8 a0_0, .int .u8 a0_1, .int .u8 a0_2, .int .u16 a0_3] 24 (0, 0)) (by (with_reducible repeat (first | refine blk_drewN ?_ _ | refine blk_drew ?_ | refine blk_alloc ?_ _)); exact BK235.out) hb); have n1_ := Aside0.mk (below_step (by repeat (first | (with_reducible first | exact HB.out | apply below_alloc | apply pw_below_drewN | apply below_drew1 | refine below_set ?_ GE235.out) | exact HB.out)) hb); clear BK235; clear HB; have BK235 := n0_; have HB := n1_; clear n0_ n1_; (try clear hb); (try clear hb2); (try clear hk); (try clear hi); have hcz10_0 : w9.cell? ⟨gb235, 0, none⟩ = some (.int .u8 a0_0) := (blk_cell BK235.out 0).trans rfl; have hcz10_1 : w9.cell? ⟨gb235, 1, none⟩ = some (.int .u8 a0_1) := (blk_cell BK235.out 1).trans rfl; have hcz10_2 : w9.cell? ⟨gb235, 2, none⟩ = some (.int .u8 a0_2) := (blk_cell BK235.out 2).trans rfl; have hcz10_3 : w9.cell? ⟨gb235, 3, none⟩ = some (.int .u16 a0_3) := (blk_cell BK235.out 3).trans rfl; have hfz10_0 := blk_frozen BK235.out 0; have hfz10_1 := blk_frozen BK235.out 1; have hfz10_2 := blk_frozen BK235.out 2; have hfz10_3 := blk_frozen BK235.out 3) | ((with_reducible refine gate_callee (f := 13) rfl ?_); refine goesL_ (some 23) rfl rfl Tryd.func13 (by kernel_rfl) rfl #[.agg #[.int .u8 a0_0, .int .u8 a0_1, .int .u8 a0_2, .int .u16 a0_3]] rfl (by (try simp only [List.map_toArray, List.map_cons, List.map_nil]); first | done | rfl | (simp only [List.length_drop, List.length_take]; rfl)) ?_; (with_reducible refine (header_Header_Bytes.calls a0_0 a0_1 a0_2 a0_3 t237 t240 _ A5.out).mono ?_); rintro e w11 ⟨v238, rfl, ho0, hb⟩; refine ⟨_, rfl, ?_⟩; have n0_ := Aside0.mk (Kd.R_lower ho0 (below_size (by repeat (first | (with_reducible first | exact HB.out | apply below_alloc | apply pw_below_drewN | apply below_drew1 | refine below_set ?_ GE235.out) | exact HB.out)))); have n1_ := Aside0.mk (blk_below (g := gb235) (o := .cells #[.int .u8 a0_0, .int .u8 a0_1, .int .u8 a0_2, .int .u16 a0_3] 24 (0, 0)) (by (with_reducible repeat (first | refine blk_drewN ?_ _ | refine blk_drew ?_ | refine blk_alloc ?_ _)); exact BK235.out) hb); have n2_ := Aside0.mk (below_step (by repeat (first | (with_reducible first | exact HB.out | apply below_alloc | apply pw_below_drewN | apply below_drew1 | refine below_set ?_ GE235.out) | exact HB.out)) hb); clear BK235; clear HB; have HO239 := n0_; have BK235 := n1_; have HB := n2_; clear n0_ n1_ n2_; (try clear hb); (try clear hb2); (try clear hk); (try clear hi); (try clear ho0); have hcz12_0 : w11.cell? ⟨gb235, 0, none⟩ = some (.int .u8 a0_0) := (blk_cell BK235.out 0).trans rfl; have hcz12_1 : w11.cell? ⟨gb235, 1, none⟩ = some (.int .u8 a0_1) := (blk_cell BK235.out 1).trans rfl; have hcz12_2 : w11.cell? ⟨gb235, 2, none⟩ = some (.int .u8 a0_2) := (blk_cell BK235.out 2).trans rfl; have hcz12_3 : w11.cell? ⟨gb235, 3, none⟩ = some (.int .u16 a0_3) := (blk_cell BK235.out 3).trans rfl; have hfz12_0 := blk_frozen BK235.out 0; have hfz12_1 := blk_frozen BK235.out 1; have hfz12_2 := blk_frozen BK235.out 2; have hfz12_3 := blk_frozen BK235.out 3) | ((with_reducible refine gate_callee (f := 14) rfl ?_); refine goesL_ (some 28) rfl rfl Tryd.func14 (by kernel_rfl) rfl #[.agg #[.int .u8 a0_0, .int .u8 a0_1, .int .u8 a0_2, .int .u16 a0_3]] rfl (by (try simp only [List.map_toArray, List.map_cons, List.map_nil]); first | done | rfl | (simp only [List.length_drop, List.length_take]; rfl)) ?_; (with_reducible refine (vitrineref09_Bytes.calls a0_0 a0_1 a0_2 a0_3 t241 t244 _ A6.out).mono ?_); rintro e w13 ⟨v242, rfl, ho0, hb⟩; refine ⟨_, rfl, ?_⟩; have n0_ := Aside0.mk (Kd.R_elder' (by (with_reducible repeat (first | apply Kd.R_alloc | apply Kd.R_drewN | apply Kd.R_drew)); exact HO239.out) (Kd.R_base ho0) hb); have n1_ := Aside0.mk (Kd.R_lower (Kd.R_new' ho0 (Kd.R_lt (by (with_reducible repeat (first | apply Kd.R_alloc | apply Kd.R_drewN | apply Kd.R_drew)); exact HO239.out))) (below_size (by repeat (first | (with_reducible first | exact HB.out | apply below_alloc | apply pw_below_drewN | apply below_drew1 | refine below_set ?_ GE235.out) | exact HB.out)))); have n2_ := Aside0.mk (blk_below (g := gb235) (o := .cells #[.int .u8 a0_0, .int .u8 a0_1, .int .u8 a0_2, .int .u16 a0_3] 24 (0, 0)) (by (with_reducible repeat (first | refine blk_drewN ?_ _ | refine blk_drew ?_ | refine blk_alloc ?_ _)); exact BK235.out) hb); have n3_ := Aside0.mk (below_step (by repeat (first | (with_reducible first | exact HB.out | apply below_alloc | apply pw_below_drewN | apply below_drew1 | refine below_set ?_ GE235.out) | exact HB.out)) hb); clear HO239; clear BK235; clear HB; have HO239 := n0_; have HO243 := n1_; have BK235 := n2_; have HB := n3_; clear n0_ n1_ n2_ n3_; (try clear hb); (try clear hb2); (try clear hk); (try clear hi); (try clear ho0)))
    (try simp only [Act.put, List.setIfInBounds_toArray, List.set_cons_zero, List.set_cons_succ])
    go_cut [39] (fun v39 wc => ∃ (kq : Nat) (x39_6 : Bool), v39 = .bool x39_6 ∧ Aside0 (vitrinelaw09_HeaderCodes.j0 kq l1 t237 t240 x39_6 a0_0 a0_1 a0_2 a0_3 = some r) ∧ Aside0 (kq ≤ k) ∧ Aside0 (Kd.R (Kd.int .u8) 5 wc w.heap.size (fun _ => True) v238 t237) ∧ Aside0 (wc.heap[gb235]? = some (.cells #[.int .u8 a0_0, .int .u8 a0_1, .int .u8 a0_2, .int .u16 a0_3] 24 (0, 0))) ∧ Aside0 (Below w.heap.size w wc))
    case first =>
      have H := HC7.out
      clear HC7
      replace H := Option.bind_eq_some_iff.mp H
      obtain ⟨t245, A140, H⟩ := H
      replace H : (if t245 = true then (vitrinelaw09_HeaderCodes.j0 k l1 t237 t240 (t240 != t244) a0_0 a0_1 a0_2 a0_3) else (none)) = some r := H
      have A14 := Aside0.mk A140
      clear A140
      by_cases c15 : t245 = true
      · subst c15
        have H1 : (vitrinelaw09_HeaderCodes.j0 k l1 t237 t240 (t240 != t244) a0_0 a0_1 a0_2 a0_3) = some r := by rw [if_pos rfl] at H; exact H
        clear H
        have H := H1
        clear H1
        have H' := Aside0.mk H
        clear H
        obtain ⟨Ao16, co16, eo16⟩ := Kd.R_slice HO239.out
        subst eo16
        obtain ⟨Ao17, co17, eo17⟩ := Kd.R_slice HO243.out
        subst eo17
        go_wp2_with (first | ((with_reducible refine gate_callee (f := 9) rfl ?_); refine goesL_ (some 33) rfl rfl Tryd.func9 (by kernel_rfl) rfl #[.slice Ao16 t237.length co16, .slice Ao17 t241.length co17] rfl (by (try simp only [List.map_toArray, List.map_cons, List.map_nil]); first | done | rfl | (simp only [List.length_drop, List.length_take]; rfl)) ?_; (with_reducible refine (vitrineref01_Same.calls _ _ t237 _ _ t241 true _ ?side1 ?side2 ?side3 ?side4 A14.out).mono ?_); (case side1 => repeat (first | exact (Kd.R_reads' HO239.out).2.2 | (with_reducible refine Kd.C_alloc ?_ _) | (with_reducible refine Kd.C_drewN ?_ _) | (with_reducible refine Kd.C_drew ?_))); (case side2 => exact (Kd.R_reads' HO239.out).2.1); (case side3 => repeat (first | exact (Kd.R_reads' HO243.out).2.2 | (with_reducible refine Kd.C_alloc ?_ _) | (with_reducible refine Kd.C_drewN ?_ _) | (with_reducible refine Kd.C_drew ?_))); (case side4 => exact (Kd.R_reads' HO243.out).2.1); rintro e w' ⟨rfl, ⟨nd, rfl⟩⟩; refine ⟨_, rfl, ?_⟩))
        go_meet
        case rel => exact ⟨_, ((t240 != t244)), (by first | rfl | (simp; done) | (simp [*]; done)), H', ⟨by first | omega | exact Nat.le_refl _⟩, ⟨by (with_reducible repeat (first | apply Kd.R_alloc | apply Kd.R_drewN | apply Kd.R_drew)); exact Kd.R_mono HO239.out (fun _ hk => trivial)⟩, ⟨by (with_reducible repeat (first | refine blk_drewN ?_ _ | refine blk_drew ?_ | refine blk_alloc ?_ _)); exact BK235.out⟩, ⟨by repeat (first | (with_reducible first | exact HB.out | apply below_alloc | apply pw_below_drewN | apply below_drew1 | refine below_set ?_ GE235.out) | exact HB.out)⟩⟩
      · replace c15 := Bool.eq_false_iff.mpr c15
        subst c15
        have H1 : (none) = some r := by rw [if_neg (show ¬ (false = true) by decide)] at H; exact H
        clear H
        have H := H1
        clear H1
        exact absurd H (by simp)
    case rest =>
      clear HC7
      try clear c1
      try clear p2
      try clear c4
      try clear c6
      try clear c9
      try clear c13
      try clear c14
      try clear c15
      try clear hcz10_0
      try clear hcz10_1
      try clear hcz10_2
      try clear hcz10_3
      try clear hcz12_0
      try clear hcz12_1
      try clear hcz12_2
      try clear hcz12_3
      try clear hfz10_0
      try clear hfz10_1
      try clear hfz10_2
      try clear hfz10_3
      try clear hfz12_0
      try clear hfz12_1
      try clear hfz12_2
      try clear hfz12_3
      obtain ⟨kq, x39_6, rfl, HA, HJ6, HO_5, BK235, HB⟩ := hcut
      cases kq with
      | zero => exact absurd HA.out (by simp [vitrinelaw09_HeaderCodes.j0])
      | succ kj6 =>
        have H := HA.out
        clear HA
        simp only [vitrinelaw09_HeaderCodes.j0] at H
        by_cases c18 : x39_6 = true
        · subst c18
          have H1 : (none) = some r := by rw [if_pos rfl] at H; exact H
          clear H
          have H := H1
          clear H1
          exact absurd H (by simp)
        · replace c18 := Bool.eq_false_iff.mpr c18
          subst c18
          have H1 : ((vitrineref01_Cut.f l1 30).bind fun t246 => (if t240 = 0 then (if t237.length + t246.length < 140737488355328 then ((header_Parse.f (t237 ++ t246)).bind fun bt252 => (if bt252.2.2.2.2.2 = 0 then (if (!(bt252.1 == a0_0) || (!(bt252.2.1 == a0_1) || (!(bt252.2.2.1 == a0_2) || (!(bt252.2.2.2.1 == a0_3))))) = true then (none) else ((vitrineref01_Same.f bt252.2.2.2.2.1 t246).bind fun t261 => (if t261 = true then (vitrinelaw09_HeaderCodes.j1 kj6 t246) else (none)))) else (none))) else (none)) else (vitrinelaw09_HeaderCodes.j1 kj6 t246))) = some r := by rw [if_neg (show ¬ (false = true) by decide)] at H; exact H
          clear H
          have H := H1
          clear H1
          replace H := Option.bind_eq_some_iff.mp H
          obtain ⟨t246, A190, H⟩ := H
          replace H : (if t240 = 0 then (if t237.length + t246.length < 140737488355328 then ((header_Parse.f (t237 ++ t246)).bind fun bt252 => (if bt252.2.2.2.2.2 = 0 then (if (!(bt252.1 == a0_0) || (!(bt252.2.1 == a0_1) || (!(bt252.2.2.1 == a0_2) || (!(bt252.2.2.2.1 == a0_3))))) = true then (none) else ((vitrineref01_Same.f bt252.2.2.2.2.1 t246).bind fun t261 => (if t261 = true then (vitrinelaw09_HeaderCodes.j1 kj6 t246) else (none)))) else (none))) else (none)) else (vitrinelaw09_HeaderCodes.j1 kj6 t246)) = some r := H
          have A19 := Aside0.mk A190
          clear A190
          have HC20 := Aside0.mk H
          clear H
          go_upto_if 43 with (first | ((with_reducible refine gate_callee (f := 15) rfl ?_); refine goesL_ (some 41) rfl rfl Tryd.func15 (by kernel_rfl) rfl #[.slice A1 l1.length c1, .int .i64 30] rfl (by (try simp only [List.map_toArray, List.map_cons, List.map_nil]); first | done | rfl | (simp only [List.length_drop, List.length_take]; rfl)) ?_; (with_reducible refine (vitrineref01_Cut.calls _ _ l1 30 t246 _ ?side1 ?side2 A19.out).mono ?_); (case side1 => repeat (first | exact (Kd.C_below HR1.out HB.out) | (with_reducible refine Kd.C_alloc ?_ _) | (with_reducible refine Kd.C_drewN ?_ _) | (with_reducible refine Kd.C_drew ?_))); (case side2 => exact HC1.out); rintro e w21 ⟨v247, rfl, ho0, hb⟩; refine ⟨_, rfl, ?_⟩; have n0_ := Aside0.mk (Kd.R_elder' (by (with_reducible repeat (first | apply Kd.R_alloc | apply Kd.R_drewN | apply Kd.R_drew)); exact HO_5.out) (Kd.R_base ho0) hb); have n1_ := Aside0.mk (Kd.R_lower (Kd.R_new' ho0 (Kd.R_lt (by (with_reducible repeat (first | apply Kd.R_alloc | apply Kd.R_drewN | apply Kd.R_drew)); exact HO_5.out))) (below_size (by repeat (first | (with_reducible first | exact HB.out | apply below_alloc | apply pw_below_drewN | apply below_drew1 | refine below_set ?_ GE235.out) | exact HB.out)))); have n2_ := Aside0.mk (blk_below (g := gb235) (o := .cells #[.int .u8 a0_0, .int .u8 a0_1, .int .u8 a0_2, .int .u16 a0_3] 24 (0, 0)) (by (with_reducible repeat (first | refine blk_drewN ?_ _ | refine blk_drew ?_ | refine blk_alloc ?_ _)); exact BK235.out) hb); have n3_ := Aside0.mk (below_step (by repeat (first | (with_reducible first | exact HB.out | apply below_alloc | apply pw_below_drewN | apply below_drew1 | refine below_set ?_ GE235.out) | exact HB.out)) hb); clear HO_5; clear BK235; clear HB; have HO_5 := n0_; have HO248 := n1_; have BK235 := n2_; have HB := n3_; clear n0_ n1_ n2_ n3_; (try clear hb); (try clear hb2); (try clear hk); (try clear hi); (try clear ho0)))
          (try simp only [Act.put, List.setIfInBounds_toArray, List.set_cons_zero, List.set_cons_succ])
          go_cut [] (fun wc => ∃ (kq : Nat), Aside0 (vitrinelaw09_HeaderCodes.j1 kq t246 = some r) ∧ Aside0 (kq ≤ kj6) ∧ Aside0 (Kd.R (Kd.int .u8) 5 wc w.heap.size (fun _ => True) v247 t246) ∧ Aside0 (wc.heap[gb235]? = some (.cells #[.int .u8 a0_0, .int .u8 a0_1, .int .u8 a0_2, .int .u16 a0_3] 24 (0, 0))) ∧ Aside0 (Below w.heap.size w wc))
          case first =>
            have H := HC20.out
            clear HC20
            by_cases c22 : t240 = 0
            · rw [if_pos c22] at H
              have c22b0 : (t240 == 0) = true := beq_iff_eq.mpr c22
              have c22b1 : (t240 != 0) = false := bne_eq_false_iff_eq.mpr c22
              clear c22
              (first | rw [c22b0] | (simp only [i64_w, i32_w]; rw [c22b0]) | skip)
              by_cases c23 : t237.length + t246.length < 140737488355328
              · rw [if_pos c23] at H
                have LMc23 := Aside0.mk c23
                clear c23
                obtain ⟨y249, hy249⟩ : ∃ y_ : List Int, y_ = (t237 ++ t246) := ⟨_, rfl⟩
                replace H : ((header_Parse.f y249).bind fun bt252 => (if bt252.2.2.2.2.2 = 0 then (if (!(bt252.1 == a0_0) || (!(bt252.2.1 == a0_1) || (!(bt252.2.2.1 == a0_2) || (!(bt252.2.2.2.1 == a0_3))))) = true then (none) else ((vitrineref01_Same.f bt252.2.2.2.2.1 t246).bind fun t261 => (if t261 = true then (vitrinelaw09_HeaderCodes.j1 kj6 t246) else (none)))) else (none))) = some r := by first | (rw [hy249]; with_reducible exact H) | (have H2_ := (Option.bind_some _ _).symm.trans H; rw [hy249]; with_reducible exact H2_) | (have H2_ := (Option.bind_some _ _).symm.trans H; with_reducible exact H2_) | with_reducible exact H | (rw [hy249]; exact H) | exact H
                have Ny249 := Aside0.mk hy249
                clear hy249
                replace H := Option.bind_eq_some_iff.mp H
                obtain ⟨⟨t252, t253, t254, t255, t256, t259⟩, A240, H⟩ := H
                replace H : (if t259 = 0 then (if (!(t252 == a0_0) || (!(t253 == a0_1) || (!(t254 == a0_2) || (!(t255 == a0_3))))) = true then (none) else ((vitrineref01_Same.f t256 t246).bind fun t261 => (if t261 = true then (vitrinelaw09_HeaderCodes.j1 kj6 t246) else (none)))) else (none)) = some r := H
                have A24 := Aside0.mk A240
                clear A240
                by_cases c25 : t259 = 0
                · rw [if_pos c25] at H
                  have c25b0 : (t259 == 0) = true := beq_iff_eq.mpr c25
                  have c25b1 : (t259 != 0) = false := bne_eq_false_iff_eq.mpr c25
                  clear c25
                  by_cases c26 : (!(t252 == a0_0) || (!(t253 == a0_1) || (!(t254 == a0_2) || (!(t255 == a0_3))))) = true
                  · rw [if_pos c26] at H
                    exact absurd H (by simp)
                  · rw [if_neg c26] at H
                    have c26b0 : (!(t252 == a0_0) || (!(t253 == a0_1) || (!(t254 == a0_2) || (!(t255 == a0_3))))) = false := by simpa using c26
                    clear c26
                    replace H := Option.bind_eq_some_iff.mp H
                    obtain ⟨t261, A270, H⟩ := H
                    replace H : (if t261 = true then (vitrinelaw09_HeaderCodes.j1 kj6 t246) else (none)) = some r := H
                    have A27 := Aside0.mk A270
                    clear A270
                    by_cases c28 : t261 = true
                    · subst c28
                      have H1 : (vitrinelaw09_HeaderCodes.j1 kj6 t246) = some r := by rw [if_pos rfl] at H; exact H
                      clear H
                      have H := H1
                      clear H1
                      have H' := Aside0.mk H
                      clear H
                      obtain ⟨Ao30, co30, eo30⟩ := Kd.R_slice HO248.out
                      subst eo30
                      go_wp2_with (first | ((with_reducible refine gate_builtin (b := .append) (xs := #[.tmp 45, .tmp 46]) rfl ?_); at_builtin; refine Kd.R_append_rows (Kd.int .u8) (w0 := w) w.heap.size rfl (.tmp 45) (.tmp 46) 26 5 (.int .u8 0) 1 rfl Tryd.underlying26 info5 rfl (by decide) (by omega) v238 t237 t246 _ _ _ (fun k_ => some k_ ≠ (.slice Ao30 t246.length co30 : Value).ownBlock) (fun _ => False) rfl rfl ?aO ?aR (fun _ _ h => h) (fun _ h => h.elim) ?aF ?aB ?aS ?aL ?_; (case aR => repeat (first | exact (Kd.R_reads' HO248.out).2.2 | (with_reducible refine Kd.C_alloc ?_ _) | (with_reducible refine Kd.C_drewN ?_ _) | (with_reducible refine Kd.C_drew ?_))); (case aB => exact (by repeat (first | (with_reducible first | exact HB.out | apply below_alloc | apply pw_below_drewN | apply below_drew1 | refine below_set ?_ GE235.out) | exact HB.out))); (case aF => exact (fun k_ hk => Kd.fresh' (Kd.R_lt (by (with_reducible repeat (first | apply Kd.R_alloc | apply Kd.R_drewN | apply Kd.R_drew)); exact HO248.out)) k_ hk)); (case aO => exact (by (with_reducible repeat (first | apply Kd.R_alloc | apply Kd.R_drewN | apply Kd.R_drew)); exact Kd.R_mono HO_5.out (fun _ hk => hk.2))); (case aS => exact (below_size (by repeat (first | (with_reducible first | exact HB.out | apply below_alloc | apply pw_below_drewN | apply below_drew1 | refine below_set ?_ GE235.out) | exact HB.out)))); (case aL => have := LMc23.out; omega); intro v250 w29 ho hb hg hat; rw [← Ny249.out] at ho; have n0_ := Aside0.mk (blk_grown (g := gb235) (o := .cells #[.int .u8 a0_0, .int .u8 a0_1, .int .u8 a0_2, .int .u16 a0_3] 24 (0, 0)) (by (with_reducible repeat (first | refine blk_drewN ?_ _ | refine blk_drew ?_ | refine blk_alloc ?_ _)); exact BK235.out) hg (Kd.R_ne HO_5.out BK235.out (by decide))); have n1_ := Aside0.mk (Kd.R_after (ok := (fun _ => True)) (by (with_reducible repeat (first | apply Kd.R_alloc | apply Kd.R_drewN | apply Kd.R_drew)); exact HO248.out) hg hat); have n2_ := Aside0.mk (hb); have n3_ := Aside0.mk (ho); clear BK235; clear HO248; clear HB; clear HO_5; have BK235 := n0_; have HO248 := n1_; have HB := n2_; have HO251 := n3_; clear n0_ n1_ n2_ n3_; clear ho hb hg hat; obtain ⟨Ao31, co31, eo31⟩ := Kd.R_slice HO251.out; subst eo31) | ((with_reducible refine gate_callee (f := 12) rfl ?_); refine goesL_ (some 48) rfl rfl Tryd.func12 (by kernel_rfl) rfl #[.slice Ao31 y249.length co31] rfl (by (try simp only [List.map_toArray, List.map_cons, List.map_nil]); first | done | rfl | (simp only [List.length_drop, List.length_take]; rfl)) ?_; (with_reducible refine (header_Parse.calls _ _ y249 t252 t253 t254 t255 t256 t259 _ ?side1 ?side2 A24.out).mono ?_); (case side1 => repeat (first | exact (Kd.R_reads' HO251.out).2.2 | (with_reducible refine Kd.C_alloc ?_ _) | (with_reducible refine Kd.C_drewN ?_ _) | (with_reducible refine Kd.C_drew ?_))); (case side2 => exact (Kd.R_reads' HO251.out).2.1); rintro e w32 ⟨v257, rfl, ho0, hb⟩; refine ⟨_, rfl, ?_⟩; have n0_ := Aside0.mk (Kd.R_elder' (by (with_reducible repeat (first | apply Kd.R_alloc | apply Kd.R_drewN | apply Kd.R_drew)); exact HO248.out) (Kd.R_base ho0) hb); have n1_ := Aside0.mk (Kd.R_elder' (by (with_reducible repeat (first | apply Kd.R_alloc | apply Kd.R_drewN | apply Kd.R_drew)); exact HO251.out) (Kd.R_base ho0) hb); have n2_ := Aside0.mk (Kd.R_lower (Kd.R_new' (Kd.R_new' ho0 (Kd.R_lt (by (with_reducible repeat (first | apply Kd.R_alloc | apply Kd.R_drewN | apply Kd.R_drew)); exact HO248.out))) (Kd.R_lt (by (with_reducible repeat (first | apply Kd.R_alloc | apply Kd.R_drewN | apply Kd.R_drew)); exact HO251.out))) (below_size (by repeat (first | (with_reducible first | exact HB.out | apply below_alloc | apply pw_below_drewN | apply below_drew1 | refine below_set ?_ GE235.out) | exact HB.out)))); have n3_ := Aside0.mk (blk_below (g := gb235) (o := .cells #[.int .u8 a0_0, .int .u8 a0_1, .int .u8 a0_2, .int .u16 a0_3] 24 (0, 0)) (by (with_reducible repeat (first | refine blk_drewN ?_ _ | refine blk_drew ?_ | refine blk_alloc ?_ _)); exact BK235.out) hb); have n4_ := Aside0.mk (below_step (by repeat (first | (with_reducible first | exact HB.out | apply below_alloc | apply pw_below_drewN | apply below_drew1 | refine below_set ?_ GE235.out) | exact HB.out)) hb); clear HO248; clear HO251; clear BK235; clear HB; have HO248 := n0_; have HO251 := n1_; have HO258 := n2_; have BK235 := n3_; have HB := n4_; clear n0_ n1_ n2_ n3_ n4_; (try clear hb); (try clear hb2); (try clear hk); (try clear hi); (try clear ho0)) | ((with_reducible refine gate_dst (N := 9) rfl ?_); refine box_event ?hg (N := 9) ?hd (cs := #[.int .u8 0, .int .u8 0, .int .u8 0, .int .u16 0]) (t := 29) ?hr ?_; (case hd => rfl); (case hg => rfl); (case hr => first | (go_simp; done) | (go_simp; rfl)); intro gb260 hg w33 hbox hb; have n0_ := Aside0.mk (Kd.R_below (by (with_reducible repeat (first | apply Kd.R_alloc | apply Kd.R_drewN | apply Kd.R_drew)); exact HO248.out) hb); have n1_ := Aside0.mk (Kd.R_below (by (with_reducible repeat (first | apply Kd.R_alloc | apply Kd.R_drewN | apply Kd.R_drew)); exact HO251.out) hb); have n2_ := Aside0.mk (Kd.R_below (by (with_reducible repeat (first | apply Kd.R_alloc | apply Kd.R_drewN | apply Kd.R_drew)); exact HO258.out) hb); have n3_ := Aside0.mk (blk_below (g := gb235) (o := .cells #[.int .u8 a0_0, .int .u8 a0_1, .int .u8 a0_2, .int .u16 a0_3] 24 (0, 0)) (by (with_reducible repeat (first | refine blk_drewN ?_ _ | refine blk_drew ?_ | refine blk_alloc ?_ _)); exact BK235.out) hb); have n4_ := Aside0.mk (below_step (by repeat (first | (with_reducible first | exact HB.out | apply below_alloc | apply pw_below_drewN | apply below_drew1 | refine below_set ?_ GE235.out) | exact HB.out)) hb); have n5_ := Aside0.mk (hbox); have n6_ := Aside0.mk ((by rw [hg]; exact (below_size (by repeat (first | (with_reducible first | exact HB.out | apply below_alloc | apply pw_below_drewN | apply below_drew1 | refine below_set ?_ GE235.out) | exact HB.out))) : w.heap.size ≤ gb260)); have n7_ := Aside0.mk ((by rw [hg]; exact (below_size (by repeat (first | (with_reducible first | exact HB.out | apply below_alloc | apply pw_below_drewN | apply below_drew1 | refine below_set ?_ GE235.out) | exact HB.out))) : w.heap.size ≤ gb260)); have n8_ := Aside0.mk ((by rw [hg]; exact Nat.ne_of_lt (blk_lt (g := gb235) (o := .cells #[.int .u8 a0_0, .int .u8 a0_1, .int .u8 a0_2, .int .u16 a0_3] 24 (0, 0)) (by (with_reducible repeat (first | refine blk_drewN ?_ _ | refine blk_drew ?_ | refine blk_alloc ?_ _)); exact BK235.out)) : gb235 ≠ gb260)); have n9_ := Aside0.mk ((by rw [hg]; exact Nat.ne_of_gt (blk_lt (g := gb235) (o := .cells #[.int .u8 a0_0, .int .u8 a0_1, .int .u8 a0_2, .int .u16 a0_3] 24 (0, 0)) (by (with_reducible repeat (first | refine blk_drewN ?_ _ | refine blk_drew ?_ | refine blk_alloc ?_ _)); exact BK235.out)) : gb260 ≠ gb235)); clear HO248; clear HO251; clear HO258; clear BK235; clear HB; have HO248 := n0_; have HO251 := n1_; have HO258 := n2_; have BK235 := n3_; have HB := n4_; have BK260 := n5_; have GW260 := n6_; have GE260 := n7_; have NB235_260 := n8_; have NB260_235 := n9_; clear n0_ n1_ n2_ n3_ n4_ n5_ n6_ n7_ n8_ n9_; clear hb hbox hg; have hnb34 := NB260_235.out; have hnc34 := NB235_260.out; have hcz35_0 : w33.cell? ⟨gb260, 0, none⟩ = some (.int .u8 0) := (blk_cell BK260.out 0).trans rfl; have hcz35_1 : w33.cell? ⟨gb260, 1, none⟩ = some (.int .u8 0) := (blk_cell BK260.out 1).trans rfl; have hcz35_2 : w33.cell? ⟨gb260, 2, none⟩ = some (.int .u8 0) := (blk_cell BK260.out 2).trans rfl; have hcz35_3 : w33.cell? ⟨gb260, 3, none⟩ = some (.int .u16 0) := (blk_cell BK260.out 3).trans rfl; have hfz35_0 := blk_frozen BK260.out 0; have hfz35_1 := blk_frozen BK260.out 1; have hfz35_2 := blk_frozen BK260.out 2; have hfz35_3 := blk_frozen BK260.out 3; have hcz36_0 : w33.cell? ⟨gb235, 0, none⟩ = some (.int .u8 a0_0) := (blk_cell BK235.out 0).trans rfl; have hcz36_1 : w33.cell? ⟨gb235, 1, none⟩ = some (.int .u8 a0_1) := (blk_cell BK235.out 1).trans rfl; have hcz36_2 : w33.cell? ⟨gb235, 2, none⟩ = some (.int .u8 a0_2) := (blk_cell BK235.out 2).trans rfl; have hcz36_3 : w33.cell? ⟨gb235, 3, none⟩ = some (.int .u16 a0_3) := (blk_cell BK235.out 3).trans rfl; have hfz36_0 := blk_frozen BK235.out 0; have hfz36_1 := blk_frozen BK235.out 1; have hfz36_2 := blk_frozen BK235.out 2; have hfz36_3 := blk_frozen BK235.out 3; obtain ⟨Ao37, co37, eo37⟩ := Kd.R_slice HO258.out; subst eo37) | (go_at_call 9; (with_reducible refine (vitrineref01_Same.calls _ _ t256 _ _ t246 true _ ?side1 ?side2 ?side3 ?side4 A27.out).mono ?_); (case side1 => refine (Kd.R_reads' (e := 5) (base := w.heap.size) (ok := fun k_ => ((True ∧ some k_ ≠ (.slice Ao30 t246.length co30 : Value).ownBlock) ∧ some k_ ≠ (.slice Ao31 y249.length co31 : Value).ownBlock)) (n := t256.length) (c := co37) ?_).2.2; exact (by (with_reducible repeat (first | apply Kd.R_alloc | apply Kd.R_drewN | apply Kd.R_drew)); exact (Kd.R_mono (Kd.R_far (p := ⟨gb260, 3, none⟩) (Kd.R_far (p := ⟨gb260, 2, none⟩) (Kd.R_far (p := ⟨gb260, 1, none⟩) (Kd.R_far (p := ⟨gb260, 0, none⟩) (Kd.R_types HO258.out BK260.out (by decide)) (fun _ hk => hk.2) (.int .u8 t252)) (fun _ hk => hk.2) (.int .u8 t253)) (fun _ hk => hk.2) (.int .u8 t254)) (fun _ hk => hk.2) (.int .u16 t255)) (fun _ h_ => h_.1)))); (case side2 => exact (Kd.R_reads' HO258.out).2.1); (case side3 => refine (Kd.R_reads' (e := 5) (base := w.heap.size) (ok := fun k_ => ((True ∧ some k_ ≠ (.slice Ao31 y249.length co31 : Value).ownBlock) ∧ some k_ ≠ (.slice Ao37 t256.length co37 : Value).ownBlock)) (n := t246.length) (c := co30) ?_).2.2; exact (by (with_reducible repeat (first | apply Kd.R_alloc | apply Kd.R_drewN | apply Kd.R_drew)); exact (Kd.R_mono (Kd.R_far (p := ⟨gb260, 3, none⟩) (Kd.R_far (p := ⟨gb260, 2, none⟩) (Kd.R_far (p := ⟨gb260, 1, none⟩) (Kd.R_far (p := ⟨gb260, 0, none⟩) (Kd.R_types HO248.out BK260.out (by decide)) (fun _ hk => hk.2) (.int .u8 t252)) (fun _ hk => hk.2) (.int .u8 t253)) (fun _ hk => hk.2) (.int .u8 t254)) (fun _ hk => hk.2) (.int .u16 t255)) (fun _ h_ => h_.1)))); (case side4 => exact (Kd.R_reads' HO248.out).2.1); rintro e w' ⟨rfl, ⟨nd, rfl⟩⟩))
                      go_meet
                      case rel => exact ⟨_, H', ⟨by have := HJ6.out; first | omega | exact Nat.le_refl _⟩, ⟨by (with_reducible repeat (first | apply Kd.R_alloc | apply Kd.R_drewN | apply Kd.R_drew)); exact Kd.R_mono (Kd.R_far (p := ⟨gb260, 3, none⟩) (Kd.R_far (p := ⟨gb260, 2, none⟩) (Kd.R_far (p := ⟨gb260, 1, none⟩) (Kd.R_far (p := ⟨gb260, 0, none⟩) (Kd.R_types HO248.out BK260.out (by decide)) (fun _ hk => hk.2) (.int .u8 t252)) (fun _ hk => hk.2) (.int .u8 t253)) (fun _ hk => hk.2) (.int .u8 t254)) (fun _ hk => hk.2) (.int .u16 t255)) (fun _ hk => trivial)⟩, ⟨by (with_reducible repeat (first | refine blk_drewN ?_ _ | refine blk_drew ?_ | refine blk_alloc ?_ _)); refine blk_far ?_ NB235_260.out _; (with_reducible repeat (first | refine blk_drewN ?_ _ | refine blk_drew ?_ | refine blk_alloc ?_ _)); refine blk_far ?_ NB235_260.out _; (with_reducible repeat (first | refine blk_drewN ?_ _ | refine blk_drew ?_ | refine blk_alloc ?_ _)); refine blk_far ?_ NB235_260.out _; (with_reducible repeat (first | refine blk_drewN ?_ _ | refine blk_drew ?_ | refine blk_alloc ?_ _)); refine blk_far ?_ NB235_260.out _; (with_reducible repeat (first | refine blk_drewN ?_ _ | refine blk_drew ?_ | refine blk_alloc ?_ _)); exact BK235.out⟩, ⟨by repeat (first | (with_reducible first | exact HB.out | apply below_alloc | apply pw_below_drewN | apply below_drew1 | refine below_set ?_ GE235.out | refine below_set ?_ GE260.out) | exact HB.out)⟩⟩
                    · replace c28 := Bool.eq_false_iff.mpr c28
                      subst c28
                      have H1 : (none) = some r := by rw [if_neg (show ¬ (false = true) by decide)] at H; exact H
                      clear H
                      have H := H1
                      clear H1
                      exact absurd H (by simp)
                · rw [if_neg c25] at H
                  exact absurd H (by simp)
              · rw [if_neg c23] at H
                exact absurd H (by simp)
            · rw [if_neg c22] at H
              have c22b0 : (t240 == 0) = false := beq_eq_false_iff_ne.mpr c22
              have c22b1 : (t240 != 0) = true := bne_iff_ne.mpr c22
              (first | rw [c22b0] | (simp only [i64_w, i32_w]; rw [c22b0]) | skip)
              have H' := Aside0.mk H
              clear H
              go_wp2
              go_meet
              case rel => exact ⟨_, H', ⟨by have := HJ6.out; first | omega | exact Nat.le_refl _⟩, ⟨by (with_reducible repeat (first | apply Kd.R_alloc | apply Kd.R_drewN | apply Kd.R_drew)); exact Kd.R_mono HO248.out (fun _ hk => trivial)⟩, ⟨by (with_reducible repeat (first | refine blk_drewN ?_ _ | refine blk_drew ?_ | refine blk_alloc ?_ _)); exact BK235.out⟩, ⟨by repeat (first | (with_reducible first | exact HB.out | apply below_alloc | apply pw_below_drewN | apply below_drew1 | refine below_set ?_ GE235.out) | exact HB.out)⟩⟩
          case rest =>
            clear HC20
            try clear c1
            try clear c2
            try clear p2
            try clear c3
            try clear c4
            try clear c6
            try clear c9
            try clear c12
            try clear c13
            try clear c14
            try clear c15
            try clear c18
            try clear c22
            try clear c22b0
            try clear c22b1
            try clear c23
            try clear c25
            try clear c25b0
            try clear c25b1
            try clear c26
            try clear c26b0
            try clear c28
            try clear c34
            try clear hcz10_0
            try clear hcz10_1
            try clear hcz10_2
            try clear hcz10_3
            try clear hcz12_0
            try clear hcz12_1
            try clear hcz12_2
            try clear hcz12_3
            try clear hcz35_0
            try clear hcz35_1
            try clear hcz35_2
            try clear hcz35_3
            try clear hcz36_0
            try clear hcz36_1
            try clear hcz36_2
            try clear hcz36_3
            try clear hfz10_0
            try clear hfz10_1
            try clear hfz10_2
            try clear hfz10_3
            try clear hfz12_0
            try clear hfz12_1
            try clear hfz12_2
            try clear hfz12_3
            try clear hfz35_0
            try clear hfz35_1
            try clear hfz35_2
            try clear hfz35_3
            try clear hfz36_0
            try clear hfz36_1
            try clear hfz36_2
            try clear hfz36_3
            try clear p2
            obtain ⟨kq, HA, HJ19, HO_1, BK235, HB⟩ := hcut
            cases kq with
            | zero => exact absurd HA.out (by simp [vitrinelaw09_HeaderCodes.j1])
            | succ kj19 =>
              have H := HA.out
              clear HA
              simp only [vitrinelaw09_HeaderCodes.j1] at H
              replace H := Option.bind_eq_some_iff.mp H
              obtain ⟨t262, A380, H⟩ := H
              replace H : ((header_Parse.f t262).bind fun bt265 => ((vitrineref09_Parse.f t246).bind fun bt274 => ((vitrineref01_Flip.f kj19 t262).bind fun t283 => (if (bt265.1 == bt274.1 && (bt265.2.1 == bt274.2.1 && (bt265.2.2.1 == bt274.2.2.1 && (bt265.2.2.2.1 == bt274.2.2.2.1)))) = true then ((vitrineref01_Same.f bt265.2.2.2.2.1 bt274.2.2.2.2.1).bind fun t284 => (if t284 = true then (some (bt265.2.2.2.2.2 == bt274.2.2.2.2.2)) else (none))) else (none))))) = some r := H
              have A38 := Aside0.mk A380
              clear A380
              replace H := Option.bind_eq_some_iff.mp H
              obtain ⟨⟨t265, t266, t267, t268, t269, t272⟩, A390, H⟩ := H
              replace H : ((vitrineref09_Parse.f t246).bind fun bt274 => ((vitrineref01_Flip.f kj19 t262).bind fun t283 => (if (t265 == bt274.1 && (t266 == bt274.2.1 && (t267 == bt274.2.2.1 && (t268 == bt274.2.2.2.1)))) = true then ((vitrineref01_Same.f t269 bt274.2.2.2.2.1).bind fun t284 => (if t284 = true then (some (t272 == bt274.2.2.2.2.2)) else (none))) else (none)))) = some r := H
              have A39 := Aside0.mk A390
              clear A390
              replace H := Option.bind_eq_some_iff.mp H
              obtain ⟨⟨t274, t275, t276, t277, t278, t281⟩, A400, H⟩ := H
              replace H : ((vitrineref01_Flip.f kj19 t262).bind fun t283 => (if (t265 == t274 && (t266 == t275 && (t267 == t276 && (t268 == t277)))) = true then ((vitrineref01_Same.f t269 t278).bind fun t284 => (if t284 = true then (some (t272 == t281)) else (none))) else (none))) = some r := H
              have A40 := Aside0.mk A400
              clear A400
              replace H := Option.bind_eq_some_iff.mp H
              obtain ⟨t283, A410, H⟩ := H
              replace H : (if (t265 == t274 && (t266 == t275 && (t267 == t276 && (t268 == t277)))) = true then ((vitrineref01_Same.f t269 t278).bind fun t284 => (if t284 = true then (some (t272 == t281)) else (none))) else (none)) = some r := H
              have A41 := Aside0.mk A410
              clear A410
              by_cases c42 : (t265 == t274 && (t266 == t275 && (t267 == t276 && (t268 == t277)))) = true
              · rw [if_pos c42] at H
                have c42b0 : (t265 == t274 && (t266 == t275 && (t267 == t276 && (t268 == t277)))) = true := c42
                (try (have c42b1 : decide (t265 = t274 && (t266 == t275 && (t267 == t276 && (t268 == t277)))) = true := by simpa using c42))
                (try (have c42b2 : (t265 == t274 && (t266 == t275 && (t267 == t276 && (t268 == t277)))) = true := by simpa using c42))
                clear c42
                replace H := Option.bind_eq_some_iff.mp H
                obtain ⟨t284, A430, H⟩ := H
                replace H : (if t284 = true then (some (t272 == t281)) else (none)) = some r := H
                have A43 := Aside0.mk A430
                clear A430
                by_cases c44 : t284 = true
                · subst c44
                  have H1 : (some (t272 == t281)) = some r := by rw [if_pos rfl] at H; exact H
                  clear H
                  have H := H1
                  clear H1
                  obtain rfl := Option.some.inj H
                  obtain ⟨Ao45, co45, eo45⟩ := Kd.R_slice HO_1.out
                  subst eo45
                  go_wp2_with (first | ((with_reducible refine gate_callee (f := 16) rfl ?_); refine goesL_ (some 66) rfl rfl Tryd.func16 (by kernel_rfl) rfl #[.slice Ao45 t246.length co45] rfl (by (try simp only [List.map_toArray, List.map_cons, List.map_nil]); first | done | rfl | (simp only [List.length_drop, List.length_take]; rfl)) ?_; (with_reducible refine (vitrineref01_Copy.calls _ _ t246 t262 _ ?side1 ?side2 A38.out).mono ?_); (case side1 => repeat (first | exact (Kd.R_reads' HO_1.out).2.2 | (with_reducible refine Kd.C_alloc ?_ _) | (with_reducible refine Kd.C_drewN ?_ _) | (with_reducible refine Kd.C_drew ?_))); (case side2 => exact (Kd.R_reads' HO_1.out).2.1); rintro e w46 ⟨v263, rfl, ho0, hb⟩; refine ⟨_, rfl, ?_⟩; have n0_ := Aside0.mk (Kd.R_elder' (by (with_reducible repeat (first | apply Kd.R_alloc | apply Kd.R_drewN | apply Kd.R_drew)); exact HO_1.out) (Kd.R_base ho0) hb); have n1_ := Aside0.mk (Kd.R_lower (Kd.R_new' ho0 (Kd.R_lt (by (with_reducible repeat (first | apply Kd.R_alloc | apply Kd.R_drewN | apply Kd.R_drew)); exact HO_1.out))) (below_size (by repeat (first | (with_reducible first | exact HB.out | apply below_alloc | apply pw_below_drewN | apply below_drew1 | refine below_set ?_ GE235.out) | exact HB.out)))); have n2_ := Aside0.mk (blk_below (g := gb235) (o := .cells #[.int .u8 a0_0, .int .u8 a0_1, .int .u8 a0_2, .int .u16 a0_3] 24 (0, 0)) (by (with_reducible repeat (first | refine blk_drewN ?_ _ | refine blk_drew ?_ | refine blk_alloc ?_ _)); exact BK235.out) hb); have n3_ := Aside0.mk (below_step (by repeat (first | (with_reducible first | exact HB.out | apply below_alloc | apply pw_below_drewN | apply below_drew1 | refine below_set ?_ GE235.out) | exact HB.out)) hb); clear HO_1; clear BK235; clear HB; have HO_1 := n0_; have HO264 := n1_; have BK235 := n2_; have HB := n3_; clear n0_ n1_ n2_ n3_; (try clear hb); (try clear hb2); (try clear hk); (try clear hi); (try clear ho0); obtain ⟨Ao47, co47, eo47⟩ := Kd.R_slice HO264.out; subst eo47) | ((with_reducible refine gate_callee (f := 12) rfl ?_); refine goesL_ (some 69) rfl rfl Tryd.func12 (by kernel_rfl) rfl #[.slice Ao47 t262.length co47] rfl (by (try simp only [List.map_toArray, List.map_cons, List.map_nil]); first | done | rfl | (simp only [List.length_drop, List.length_take]; rfl)) ?_; (with_reducible refine (header_Parse.calls _ _ t262 t265 t266 t267 t268 t269 t272 _ ?side1 ?side2 A39.out).mono ?_); (case side1 => repeat (first | exact (Kd.R_reads' HO264.out).2.2 | (with_reducible refine Kd.C_alloc ?_ _) | (with_reducible refine Kd.C_drewN ?_ _) | (with_reducible refine Kd.C_drew ?_))); (case side2 => exact (Kd.R_reads' HO264.out).2.1); rintro e w48 ⟨v270, rfl, ho0, hb⟩; refine ⟨_, rfl, ?_⟩; have n0_ := Aside0.mk (Kd.R_elder' (by (with_reducible repeat (first | apply Kd.R_alloc | apply Kd.R_drewN | apply Kd.R_drew)); exact HO_1.out) (Kd.R_base ho0) hb); have n1_ := Aside0.mk (Kd.R_elder' (by (with_reducible repeat (first | apply Kd.R_alloc | apply Kd.R_drewN | apply Kd.R_drew)); exact HO264.out) (Kd.R_base ho0) hb); have n2_ := Aside0.mk (Kd.R_lower (Kd.R_new' (Kd.R_new' ho0 (Kd.R_lt (by (with_reducible repeat (first | apply Kd.R_alloc | apply Kd.R_drewN | apply Kd.R_drew)); exact HO_1.out))) (Kd.R_lt (by (with_reducible repeat (first | apply Kd.R_alloc | apply Kd.R_drewN | apply Kd.R_drew)); exact HO264.out))) (below_size (by repeat (first | (with_reducible first | exact HB.out | apply below_alloc | apply pw_below_drewN | apply below_drew1 | refine below_set ?_ GE235.out) | exact HB.out)))); have n3_ := Aside0.mk (blk_below (g := gb235) (o := .cells #[.int .u8 a0_0, .int .u8 a0_1, .int .u8 a0_2, .int .u16 a0_3] 24 (0, 0)) (by (with_reducible repeat (first | refine blk_drewN ?_ _ | refine blk_drew ?_ | refine blk_alloc ?_ _)); exact BK235.out) hb); have n4_ := Aside0.mk (below_step (by repeat (first | (with_reducible first | exact HB.out | apply below_alloc | apply pw_below_drewN | apply below_drew1 | refine below_set ?_ GE235.out) | exact HB.out)) hb); clear HO_1; clear HO264; clear BK235; clear HB; have HO_1 := n0_; have HO264 := n1_; have HO271 := n2_; have BK235 := n3_; have HB := n4_; clear n0_ n1_ n2_ n3_ n4_; (try clear hb); (try clear hb2); (try clear hk); (try clear hi); (try clear ho0)) | ((with_reducible refine gate_dst (N := 13) rfl ?_); refine box_event ?hg (N := 13) ?hd (cs := #[.int .u8 0, .int .u8 0, .int .u8 0, .int .u16 0]) (t := 29) ?hr ?_; (case hd => rfl); (case hg => rfl); (case hr => first | (go_simp; done) | (go_simp; rfl)); intro gb273 hg w49 hbox hb; have n0_ := Aside0.mk (Kd.R_below (by (with_reducible repeat (first | apply Kd.R_alloc | apply Kd.R_drewN | apply Kd.R_drew)); exact HO_1.out) hb); have n1_ := Aside0.mk (Kd.R_below (by (with_reducible repeat (first | apply Kd.R_alloc | apply Kd.R_drewN | apply Kd.R_drew)); exact HO264.out) hb); have n2_ := Aside0.mk (Kd.R_below (by (with_reducible repeat (first | apply Kd.R_alloc | apply Kd.R_drewN | apply Kd.R_drew)); exact HO271.out) hb); have n3_ := Aside0.mk (blk_below (g := gb235) (o := .cells #[.int .u8 a0_0, .int .u8 a0_1, .int .u8 a0_2, .int .u16 a0_3] 24 (0, 0)) (by (with_reducible repeat (first | refine blk_drewN ?_ _ | refine blk_drew ?_ | refine blk_alloc ?_ _)); exact BK235.out) hb); have n4_ := Aside0.mk (below_step (by repeat (first | (with_reducible first | exact HB.out | apply below_alloc | apply pw_below_drewN | apply below_drew1 | refine below_set ?_ GE235.out) | exact HB.out)) hb); have n5_ := Aside0.mk (hbox); have n6_ := Aside0.mk ((by rw [hg]; exact (below_size (by repeat (first | (with_reducible first | exact HB.out | apply below_alloc | apply pw_below_drewN | apply below_drew1 | refine below_set ?_ GE235.out) | exact HB.out))) : w.heap.size ≤ gb273)); have n7_ := Aside0.mk ((by rw [hg]; exact (below_size (by repeat (first | (with_reducible first | exact HB.out | apply below_alloc | apply pw_below_drewN | apply below_drew1 | refine below_set ?_ GE235.out) | exact HB.out))) : w.heap.size ≤ gb273)); have n8_ := Aside0.mk ((by rw [hg]; exact Nat.ne_of_lt (blk_lt (g := gb235) (o := .cells #[.int .u8 a0_0, .int .u8 a0_1, .int .u8 a0_2, .int .u16 a0_3] 24 (0, 0)) (by (with_reducible repeat (first | refine blk_drewN ?_ _ | refine blk_drew ?_ | refine blk_alloc ?_ _)); exact BK235.out)) : gb235 ≠ gb273)); have n9_ := Aside0.mk ((by rw [hg]; exact Nat.ne_of_gt (blk_lt (g := gb235) (o := .cells #[.int .u8 a0_0, .int .u8 a0_1, .int .u8 a0_2, .int .u16 a0_3] 24 (0, 0)) (by (with_reducible repeat (first | refine blk_drewN ?_ _ | refine blk_drew ?_ | refine blk_alloc ?_ _)); exact BK235.out)) : gb273 ≠ gb235)); clear HO_1; clear HO264; clear HO271; clear BK235; clear HB; have HO_1 := n0_; have HO264 := n1_; have HO271 := n2_; have BK235 := n3_; have HB := n4_; have BK273 := n5_; have GW273 := n6_; have GE273 := n7_; have NB235_273 := n8_; have NB273_235 := n9_; clear n0_ n1_ n2_ n3_ n4_ n5_ n6_ n7_ n8_ n9_; clear hb hbox hg; have hnb50 := NB273_235.out; have hnc50 := NB235_273.out; have hcz51_0 : w49.cell? ⟨gb273, 0, none⟩ = some (.int .u8 0) := (blk_cell BK273.out 0).trans rfl; have hcz51_1 : w49.cell? ⟨gb273, 1, none⟩ = some (.int .u8 0) := (blk_cell BK273.out 1).trans rfl; have hcz51_2 : w49.cell? ⟨gb273, 2, none⟩ = some (.int .u8 0) := (blk_cell BK273.out 2).trans rfl; have hcz51_3 : w49.cell? ⟨gb273, 3, none⟩ = some (.int .u16 0) := (blk_cell BK273.out 3).trans rfl; have hfz51_0 := blk_frozen BK273.out 0; have hfz51_1 := blk_frozen BK273.out 1; have hfz51_2 := blk_frozen BK273.out 2; have hfz51_3 := blk_frozen BK273.out 3) | ((with_reducible refine gate_callee (f := 17) rfl ?_); refine goesL_ (some 75) rfl rfl Tryd.func17 (by kernel_rfl) rfl #[.slice Ao45 t246.length co45] rfl (by (try simp only [List.map_toArray, List.map_cons, List.map_nil]); first | done | rfl | (simp only [List.length_drop, List.length_take]; rfl)) ?_; (with_reducible refine (vitrineref09_Parse.calls _ _ t246 t274 t275 t276 t277 t278 t281 _ ?side1 ?side2 A40.out).mono ?_); (case side1 => refine (Kd.R_reads' (e := 5) (base := w.heap.size) (ok := fun k_ => ((True ∧ some k_ ≠ (.slice Ao47 t262.length co47 : Value).ownBlock) ∧ some k_ ≠ (v270 : Value).ownBlock)) (n := t246.length) (c := co45) ?_).2.2; exact (by (with_reducible repeat (first | apply Kd.R_alloc | apply Kd.R_drewN | apply Kd.R_drew)); exact (Kd.R_mono (Kd.R_far (p := ⟨gb273, 3, none⟩) (Kd.R_far (p := ⟨gb273, 2, none⟩) (Kd.R_far (p := ⟨gb273, 1, none⟩) (Kd.R_far (p := ⟨gb273, 0, none⟩) (Kd.R_types HO_1.out BK273.out (by decide)) (fun _ hk => hk.2) (.int .u8 t265)) (fun _ hk => hk.2) (.int .u8 t266)) (fun _ hk => hk.2) (.int .u8 t267)) (fun _ hk => hk.2) (.int .u16 t268)) (fun _ h_ => h_.1)))); (case side2 => exact (Kd.R_reads' HO_1.out).2.1); rintro e w52 ⟨v279, rfl, ho0, hb⟩; refine ⟨_, rfl, ?_⟩; have n0_ := Aside0.mk (Kd.R_elder' (by (with_reducible repeat (first | apply Kd.R_alloc | apply Kd.R_drewN | apply Kd.R_drew)); exact (Kd.R_mono (Kd.R_far (p := ⟨gb273, 3, none⟩) (Kd.R_far (p := ⟨gb273, 2, none⟩) (Kd.R_far (p := ⟨gb273, 1, none⟩) (Kd.R_far (p := ⟨gb273, 0, none⟩) (Kd.R_types HO_1.out BK273.out (by decide)) (fun _ hk => hk.2) (.int .u8 t265)) (fun _ hk => hk.2) (.int .u8 t266)) (fun _ hk => hk.2) (.int .u8 t267)) (fun _ hk => hk.2) (.int .u16 t268)) (fun _ h_ => h_.1))) (Kd.R_base ho0) hb); have n1_ := Aside0.mk (Kd.R_elder' (by (with_reducible repeat (first | apply Kd.R_alloc | apply Kd.R_drewN | apply Kd.R_drew)); exact (Kd.R_mono (Kd.R_far (p := ⟨gb273, 3, none⟩) (Kd.R_far (p := ⟨gb273, 2, none⟩) (Kd.R_far (p := ⟨gb273, 1, none⟩) (Kd.R_far (p := ⟨gb273, 0, none⟩) (Kd.R_types HO264.out BK273.out (by decide)) (fun _ hk => hk.2) (.int .u8 t265)) (fun _ hk => hk.2) (.int .u8 t266)) (fun _ hk => hk.2) (.int .u8 t267)) (fun _ hk => hk.2) (.int .u16 t268)) (fun _ h_ => h_.1))) (Kd.R_base ho0) hb); have n2_ := Aside0.mk (Kd.R_elder' (by (with_reducible repeat (first | apply Kd.R_alloc | apply Kd.R_drewN | apply Kd.R_drew)); exact (Kd.R_mono (Kd.R_far (p := ⟨gb273, 3, none⟩) (Kd.R_far (p := ⟨gb273, 2, none⟩) (Kd.R_far (p := ⟨gb273, 1, none⟩) (Kd.R_far (p := ⟨gb273, 0, none⟩) (Kd.R_types HO271.out BK273.out (by decide)) (fun _ hk => hk.2) (.int .u8 t265)) (fun _ hk => hk.2) (.int .u8 t266)) (fun _ hk => hk.2) (.int .u8 t267)) (fun _ hk => hk.2) (.int .u16 t268)) (fun _ h_ => h_.1))) (Kd.R_base ho0) hb); have n3_ := Aside0.mk (Kd.R_lower (Kd.R_new' (Kd.R_new' (Kd.R_new' ho0 (Kd.R_lt (by (with_reducible repeat (first | apply Kd.R_alloc | apply Kd.R_drewN | apply Kd.R_drew)); exact (Kd.R_mono (Kd.R_far (p := ⟨gb273, 3, none⟩) (Kd.R_far (p := ⟨gb273, 2, none⟩) (Kd.R_far (p := ⟨gb273, 1, none⟩) (Kd.R_far (p := ⟨gb273, 0, none⟩) (Kd.R_types HO_1.out BK273.out (by decide)) (fun _ hk => hk.2) (.int .u8 t265)) (fun _ hk => hk.2) (.int .u8 t266)) (fun _ hk => hk.2) (.int .u8 t267)) (fun _ hk => hk.2) (.int .u16 t268)) (fun _ h_ => h_.1))))) (Kd.R_lt (by (with_reducible repeat (first | apply Kd.R_alloc | apply Kd.R_drewN | apply Kd.R_drew)); exact (Kd.R_mono (Kd.R_far (p := ⟨gb273, 3, none⟩) (Kd.R_far (p := ⟨gb273, 2, none⟩) (Kd.R_far (p := ⟨gb273, 1, none⟩) (Kd.R_far (p := ⟨gb273, 0, none⟩) (Kd.R_types HO264.out BK273.out (by decide)) (fun _ hk => hk.2) (.int .u8 t265)) (fun _ hk => hk.2) (.int .u8 t266)) (fun _ hk => hk.2) (.int .u8 t267)) (fun _ hk => hk.2) (.int .u16 t268)) (fun _ h_ => h_.1))))) (Kd.R_lt (by (with_reducible repeat (first | apply Kd.R_alloc | apply Kd.R_drewN | apply Kd.R_drew)); exact (Kd.R_mono (Kd.R_far (p := ⟨gb273, 3, none⟩) (Kd.R_far (p := ⟨gb273, 2, none⟩) (Kd.R_far (p := ⟨gb273, 1, none⟩) (Kd.R_far (p := ⟨gb273, 0, none⟩) (Kd.R_types HO271.out BK273.out (by decide)) (fun _ hk => hk.2) (.int .u8 t265)) (fun _ hk => hk.2) (.int .u8 t266)) (fun _ hk => hk.2) (.int .u8 t267)) (fun _ hk => hk.2) (.int .u16 t268)) (fun _ h_ => h_.1))))) (below_size (by repeat (first | (with_reducible first | exact HB.out | apply below_alloc | apply pw_below_drewN | apply below_drew1 | refine below_set ?_ GE235.out | refine below_set ?_ GE273.out) | exact HB.out)))); have n4_ := Aside0.mk (blk_below (g := gb235) (o := .cells #[.int .u8 a0_0, .int .u8 a0_1, .int .u8 a0_2, .int .u16 a0_3] 24 (0, 0)) (by (with_reducible repeat (first | refine blk_drewN ?_ _ | refine blk_drew ?_ | refine blk_alloc ?_ _)); refine blk_far ?_ NB235_273.out _; (with_reducible repeat (first | refine blk_drewN ?_ _ | refine blk_drew ?_ | refine blk_alloc ?_ _)); refine blk_far ?_ NB235_273.out _; (with_reducible repeat (first | refine blk_drewN ?_ _ | refine blk_drew ?_ | refine blk_alloc ?_ _)); refine blk_far ?_ NB235_273.out _; (with_reducible repeat (first | refine blk_drewN ?_ _ | refine blk_drew ?_ | refine blk_alloc ?_ _)); refine blk_far ?_ NB235_273.out _; (with_reducible repeat (first | refine blk_drewN ?_ _ | refine blk_drew ?_ | refine blk_alloc ?_ _)); exact BK235.out) hb); have n5_ := Aside0.mk (blk_below (g := gb273) (o := .cells #[.int .u8 t265, .int .u8 t266, .int .u8 t267, .int .u16 t268] 29 (0, 0)) (by (with_reducible repeat (first | refine blk_drewN ?_ _ | refine blk_drew ?_ | refine blk_alloc ?_ _)); refine blk_put (cs := #[.int .u8 t265, .int .u8 t266, .int .u8 t267, .int .u16 0]) ?_ 3 _ rfl; (with_reducible repeat (first | refine blk_drewN ?_ _ | refine blk_drew ?_ | refine blk_alloc ?_ _)); refine blk_put (cs := #[.int .u8 t265, .int .u8 t266, .int .u8 0, .int .u16 0]) ?_ 2 _ rfl; (with_reducible repeat (first | refine blk_drewN ?_ _ | refine blk_drew ?_ | refine blk_alloc ?_ _)); refine blk_put (cs := #[.int .u8 t265, .int .u8 0, .int .u8 0, .int .u16 0]) ?_ 1 _ rfl; (with_reducible repeat (first | refine blk_drewN ?_ _ | refine blk_drew ?_ | refine blk_alloc ?_ _)); refine blk_put (cs := #[.int .u8 0, .int .u8 0, .int .u8 0, .int .u16 0]) ?_ 0 _ rfl; (with_reducible repeat (first | refine blk_drewN ?_ _ | refine blk_drew ?_ | refine blk_alloc ?_ _)); exact BK273.out) hb); have n6_ := Aside0.mk (below_step (by repeat (first | (with_reducible first | exact HB.out | apply below_alloc | apply pw_below_drewN | apply below_drew1 | refine below_set ?_ GE235.out | refine below_set ?_ GE273.out) | exact HB.out)) hb); clear HO_1; clear HO264; clear HO271; clear BK235; clear BK273; clear HB; have HO_1 := n0_; have HO264 := n1_; have HO271 := n2_; have HO280 := n3_; have BK235 := n4_; have BK273 := n5_; have HB := n6_; clear n0_ n1_ n2_ n3_ n4_ n5_ n6_; (try clear hb); (try clear hb2); (try clear hk); (try clear hi); (try clear ho0)) | ((with_reducible refine gate_dst (N := 16) rfl ?_); refine box_event ?hg (N := 16) ?hd (cs := #[.int .u8 0, .int .u8 0, .int .u8 0, .int .u16 0]) (t := 24) ?hr ?_; (case hd => rfl); (case hg => rfl); (case hr => first | (go_simp; done) | (go_simp; rfl)); intro gb282 hg w53 hbox hb; have n0_ := Aside0.mk (Kd.R_below (by (with_reducible repeat (first | apply Kd.R_alloc | apply Kd.R_drewN | apply Kd.R_drew)); exact HO_1.out) hb); have n1_ := Aside0.mk (Kd.R_below (by (with_reducible repeat (first | apply Kd.R_alloc | apply Kd.R_drewN | apply Kd.R_drew)); exact HO264.out) hb); have n2_ := Aside0.mk (Kd.R_below (by (with_reducible repeat (first | apply Kd.R_alloc | apply Kd.R_drewN | apply Kd.R_drew)); exact HO271.out) hb); have n3_ := Aside0.mk (Kd.R_below (by (with_reducible repeat (first | apply Kd.R_alloc | apply Kd.R_drewN | apply Kd.R_drew)); exact HO280.out) hb); have n4_ := Aside0.mk (blk_below (g := gb235) (o := .cells #[.int .u8 a0_0, .int .u8 a0_1, .int .u8 a0_2, .int .u16 a0_3] 24 (0, 0)) (by (with_reducible repeat (first | refine blk_drewN ?_ _ | refine blk_drew ?_ | refine blk_alloc ?_ _)); exact BK235.out) hb); have n5_ := Aside0.mk (blk_below (g := gb273) (o := .cells #[.int .u8 t265, .int .u8 t266, .int .u8 t267, .int .u16 t268] 29 (0, 0)) (by (with_reducible repeat (first | refine blk_drewN ?_ _ | refine blk_drew ?_ | refine blk_alloc ?_ _)); exact BK273.out) hb); have n6_ := Aside0.mk (below_step (by repeat (first | (with_reducible first | exact HB.out | apply below_alloc | apply pw_below_drewN | apply below_drew1 | refine below_set ?_ GE235.out | refine below_set ?_ GE273.out) | exact HB.out)) hb); have n7_ := Aside0.mk (hbox); have n8_ := Aside0.mk ((by rw [hg]; exact (below_size (by repeat (first | (with_reducible first | exact HB.out | apply below_alloc | apply pw_below_drewN | apply below_drew1 | refine below_set ?_ GE235.out | refine below_set ?_ GE273.out) | exact HB.out))) : w.heap.size ≤ gb282)); have n9_ := Aside0.mk ((by rw [hg]; exact (below_size (by repeat (first | (with_reducible first | exact HB.out | apply below_alloc | apply pw_below_drewN | apply below_drew1 | refine below_set ?_ GE235.out | refine below_set ?_ GE273.out) | exact HB.out))) : w.heap.size ≤ gb282)); have n10_ := Aside0.mk ((by rw [hg]; exact Nat.ne_of_lt (blk_lt (g := gb235) (o := .cells #[.int .u8 a0_0, .int .u8 a0_1, .int .u8 a0_2, .int .u16 a0_3] 24 (0, 0)) (by (with_reducible repeat (first | refine blk_drewN ?_ _ | refine blk_drew ?_ | refine blk_alloc ?_ _)); exact BK235.out)) : gb235 ≠ gb282)); have n11_ := Aside0.mk ((by rw [hg]; exact Nat.ne_of_gt (blk_lt (g := gb235) (o := .cells #[.int .u8 a0_0, .int .u8 a0_1, .int .u8 a0_2, .int .u16 a0_3] 24 (0, 0)) (by (with_reducible repeat (first | refine blk_drewN ?_ _ | refine blk_drew ?_ | refine blk_alloc ?_ _)); exact BK235.out)) : gb282 ≠ gb235)); have n12_ := Aside0.mk ((by rw [hg]; exact Nat.ne_of_lt (blk_lt (g := gb273) (o := .cells #[.int .u8 t265, .int .u8 t266, .int .u8 t267, .int .u16 t268] 29 (0, 0)) (by (with_reducible repeat (first | refine blk_drewN ?_ _ | refine blk_drew ?_ | refine blk_alloc ?_ _)); exact BK273.out)) : gb273 ≠ gb282)); have n13_ := Aside0.mk ((by rw [hg]; exact Nat.ne_of_gt (blk_lt (g := gb273) (o := .cells #[.int .u8 t265, .int .u8 t266, .int .u8 t267, .int .u16 t268] 29 (0, 0)) (by (with_reducible repeat (first | refine blk_drewN ?_ _ | refine blk_drew ?_ | refine blk_alloc ?_ _)); exact BK273.out)) : gb282 ≠ gb273)); clear HO_1; clear HO264; clear HO271; clear HO280; clear BK235; clear BK273; clear HB; have HO_1 := n0_; have HO264 := n1_; have HO271 := n2_; have HO280 := n3_; have BK235 := n4_; have BK273 := n5_; have HB := n6_; have BK282 := n7_; have GW282 := n8_; have GE282 := n9_; have NB235_282 := n10_; have NB282_235 := n11_; have NB273_282 := n12_; have NB282_273 := n13_; clear n0_ n1_ n2_ n3_ n4_ n5_ n6_ n7_ n8_ n9_ n10_ n11_ n12_ n13_; clear hb hbox hg; have hnb54 := NB282_235.out; have hnc54 := NB235_282.out; have hnb55 := NB282_273.out; have hnc55 := NB273_282.out; have hcz56_0 : w53.cell? ⟨gb282, 0, none⟩ = some (.int .u8 0) := (blk_cell BK282.out 0).trans rfl; have hcz56_1 : w53.cell? ⟨gb282, 1, none⟩ = some (.int .u8 0) := (blk_cell BK282.out 1).trans rfl; have hcz56_2 : w53.cell? ⟨gb282, 2, none⟩ = some (.int .u8 0) := (blk_cell BK282.out 2).trans rfl; have hcz56_3 : w53.cell? ⟨gb282, 3, none⟩ = some (.int .u16 0) := (blk_cell BK282.out 3).trans rfl; have hfz56_0 := blk_frozen BK282.out 0; have hfz56_1 := blk_frozen BK282.out 1; have hfz56_2 := blk_frozen BK282.out 2; have hfz56_3 := blk_frozen BK282.out 3) | ((with_reducible refine gate_store (t := 24) (p := 16) rfl ?_); refine store_event (t := 24) (p := 16) (v := ?vo_w57) (w1 := ((((w53.setCell ⟨gb282, 0, none⟩ (.int .u8 t274)).setCell ⟨gb282, 1, none⟩ (.int .u8 t275)).setCell ⟨gb282, 2, none⟩ (.int .u8 t276)).setCell ⟨gb282, 3, none⟩ (.int .u16 t277))) ?hg ?ho ?hn ?hr ?_; (case ho => rfl); (case hg => rfl); (case hn => rfl); (case hr => first | (go_simp; done) | (go_simp; rfl)); intro w57 hw; have n0_ : Aside0 (Kd.R (Kd.int .u8) 5 w57 w.heap.size (fun k_ => some k_ ≠ (.slice Ao47 t262.length co47 : Value).ownBlock ∧ some k_ ≠ (v270 : Value).ownBlock ∧ some k_ ≠ (v279 : Value).ownBlock) (.slice Ao45 t246.length co45) t246) := ⟨(by rw [hw]; exact (by (with_reducible repeat (first | apply Kd.R_alloc | apply Kd.R_drewN | apply Kd.R_drew)); exact Kd.R_mono (Kd.R_far (p := ⟨gb282, 3, none⟩) (Kd.R_far (p := ⟨gb282, 2, none⟩) (Kd.R_far (p := ⟨gb282, 1, none⟩) (Kd.R_far (p := ⟨gb282, 0, none⟩) (Kd.R_types HO_1.out BK282.out (by decide)) (fun _ hk => hk.2) (.int .u8 t274)) (fun _ hk => hk.2) (.int .u8 t275)) (fun _ hk => hk.2) (.int .u8 t276)) (fun _ hk => hk.2) (.int .u16 t277)) (fun _ hk => ⟨hk.1.1.1.2, ⟨hk.1.1.2, hk.1.2⟩⟩)))⟩; have n1_ : Aside0 (Kd.R (Kd.int .u8) 5 w57 w.heap.size (fun k_ => some k_ ≠ (.slice Ao45 t246.length co45 : Value).ownBlock ∧ some k_ ≠ (v270 : Value).ownBlock ∧ some k_ ≠ (v279 : Value).ownBlock) (.slice Ao47 t262.length co47) t262) := ⟨(by rw [hw]; exact (by (with_reducible repeat (first | apply Kd.R_alloc | apply Kd.R_drewN | apply Kd.R_drew)); exact Kd.R_mono (Kd.R_far (p := ⟨gb282, 3, none⟩) (Kd.R_far (p := ⟨gb282, 2, none⟩) (Kd.R_far (p := ⟨gb282, 1, none⟩) (Kd.R_far (p := ⟨gb282, 0, none⟩) (Kd.R_types HO264.out BK282.out (by decide)) (fun _ hk => hk.2) (.int .u8 t274)) (fun _ hk => hk.2) (.int .u8 t275)) (fun _ hk => hk.2) (.int .u8 t276)) (fun _ hk => hk.2) (.int .u16 t277)) (fun _ hk => ⟨hk.1.1.1.2, ⟨hk.1.1.2, hk.1.2⟩⟩)))⟩; have n2_ : Aside0 (Kd.R (Kd.int .u8) 5 w57 w.heap.size (fun k_ => some k_ ≠ (.slice Ao45 t246.length co45 : Value).ownBlock ∧ some k_ ≠ (.slice Ao47 t262.length co47 : Value).ownBlock ∧ some k_ ≠ (v279 : Value).ownBlock) v270 t269) := ⟨(by rw [hw]; exact (by (with_reducible repeat (first | apply Kd.R_alloc | apply Kd.R_drewN | apply Kd.R_drew)); exact Kd.R_mono (Kd.R_far (p := ⟨gb282, 3, none⟩) (Kd.R_far (p := ⟨gb282, 2, none⟩) (Kd.R_far (p := ⟨gb282, 1, none⟩) (Kd.R_far (p := ⟨gb282, 0, none⟩) (Kd.R_types HO271.out BK282.out (by decide)) (fun _ hk => hk.2) (.int .u8 t274)) (fun _ hk => hk.2) (.int .u8 t275)) (fun _ hk => hk.2) (.int .u8 t276)) (fun _ hk => hk.2) (.int .u16 t277)) (fun _ hk => ⟨hk.1.1.1.2, ⟨hk.1.1.2, hk.1.2⟩⟩)))⟩; have n3_ : Aside0 (Kd.R (Kd.int .u8) 5 w57 w.heap.size (fun k_ => some k_ ≠ (.slice Ao45 t246.length co45 : Value).ownBlock ∧ some k_ ≠ (.slice Ao47 t262.length co47 : Value).ownBlock ∧ some k_ ≠ (v270 : Value).ownBlock) v279 t278) := ⟨(by rw [hw]; exact (by (with_reducible repeat (first | apply Kd.R_alloc | apply Kd.R_drewN | apply Kd.R_drew)); exact Kd.R_mono (Kd.R_far (p := ⟨gb282, 3, none⟩) (Kd.R_far (p := ⟨gb282, 2, none⟩) (Kd.R_far (p := ⟨gb282, 1, none⟩) (Kd.R_far (p := ⟨gb282, 0, none⟩) (Kd.R_types HO280.out BK282.out (by decide)) (fun _ hk => hk.2) (.int .u8 t274)) (fun _ hk => hk.2) (.int .u8 t275)) (fun _ hk => hk.2) (.int .u8 t276)) (fun _ hk => hk.2) (.int .u16 t277)) (fun _ hk => ⟨hk.1.1.1.2, ⟨hk.1.1.2, hk.1.2⟩⟩)))⟩; have n4_ : Aside0 (w57.heap[gb235]? = some (.cells #[.int .u8 a0_0, .int .u8 a0_1, .int .u8 a0_2, .int .u16 a0_3] 24 (0, 0))) := ⟨(by rw [hw]; exact (by (with_reducible repeat (first | refine blk_drewN ?_ _ | refine blk_drew ?_ | refine blk_alloc ?_ _)); refine blk_far ?_ NB235_282.out _; (with_reducible repeat (first | refine blk_drewN ?_ _ | refine blk_drew ?_ | refine blk_alloc ?_ _)); refine blk_far ?_ NB235_282.out _; (with_reducible repeat (first | refine blk_drewN ?_ _ | refine blk_drew ?_ | refine blk_alloc ?_ _)); refine blk_far ?_ NB235_282.out _; (with_reducible repeat (first | refine blk_drewN ?_ _ | refine blk_drew ?_ | refine blk_alloc ?_ _)); refine blk_far ?_ NB235_282.out _; (with_reducible repeat (first | refine blk_drewN ?_ _ | refine blk_drew ?_ | refine blk_alloc ?_ _)); exact BK235.out))⟩; have n5_ : Aside0 (w57.heap[gb273]? = some (.cells #[.int .u8 t265, .int .u8 t266, .int .u8 t267, .int .u16 t268] 29 (0, 0))) := ⟨(by rw [hw]; exact (by (with_reducible repeat (first | refine blk_drewN ?_ _ | refine blk_drew ?_ | refine blk_alloc ?_ _)); refine blk_far ?_ NB273_282.out _; (with_reducible repeat (first | refine blk_drewN ?_ _ | refine blk_drew ?_ | refine blk_alloc ?_ _)); refine blk_far ?_ NB273_282.out _; (with_reducible repeat (first | refine blk_drewN ?_ _ | refine blk_drew ?_ | refine blk_alloc ?_ _)); refine blk_far ?_ NB273_282.out _; (with_reducible repeat (first | refine blk_drewN ?_ _ | refine blk_drew ?_ | refine blk_alloc ?_ _)); refine blk_far ?_ NB273_282.out _; (with_reducible repeat (first | refine blk_drewN ?_ _ | refine blk_drew ?_ | refine blk_alloc ?_ _)); exact BK273.out))⟩; have n6_ : Aside0 (w57.heap[gb282]? = some (.cells #[.int .u8 t274, .int .u8 t275, .int .u8 t276, .int .u16 t277] 24 (0, 0))) := ⟨(by rw [hw]; exact (by (with_reducible repeat (first | refine blk_drewN ?_ _ | refine blk_drew ?_ | refine blk_alloc ?_ _)); refine blk_put (cs := #[.int .u8 t274, .int .u8 t275, .int .u8 t276, .int .u16 0]) ?_ 3 _ rfl; (with_reducible repeat (first | refine blk_drewN ?_ _ | refine blk_drew ?_ | refine blk_alloc ?_ _)); refine blk_put (cs := #[.int .u8 t274, .int .u8 t275, .int .u8 0, .int .u16 0]) ?_ 2 _ rfl; (with_reducible repeat (first | refine blk_drewN ?_ _ | refine blk_drew ?_ | refine blk_alloc ?_ _)); refine blk_put (cs := #[.int .u8 t274, .int .u8 0, .int .u8 0, .int .u16 0]) ?_ 1 _ rfl; (with_reducible repeat (first | refine blk_drewN ?_ _ | refine blk_drew ?_ | refine blk_alloc ?_ _)); refine blk_put (cs := #[.int .u8 0, .int .u8 0, .int .u8 0, .int .u16 0]) ?_ 0 _ rfl; (with_reducible repeat (first | refine blk_drewN ?_ _ | refine blk_drew ?_ | refine blk_alloc ?_ _)); exact BK282.out))⟩; have n7_ : Aside0 (Below w.heap.size w w57) := ⟨(by rw [hw]; exact (by repeat (first | (with_reducible first | exact HB.out | apply below_alloc | apply pw_below_drewN | apply below_drew1 | refine below_set ?_ GE235.out | refine below_set ?_ GE273.out | refine below_set ?_ GE282.out) | exact HB.out)))⟩; clear hw; clear HO_1; clear HO264; clear HO271; clear HO280; clear BK235; clear BK273; clear BK282; clear HB; have HO_1 := n0_; have HO264 := n1_; have HO271 := n2_; have HO280 := n3_; have BK235 := n4_; have BK273 := n5_; have BK282 := n6_; have HB := n7_; clear n0_ n1_ n2_ n3_ n4_ n5_ n6_ n7_) | ((with_reducible refine gate_callee (f := 18) rfl ?_); refine goesL_ (some 80) rfl rfl Tryd.func18 (by kernel_rfl) rfl #[.slice Ao47 t262.length co47] rfl (by (try simp only [List.map_toArray, List.map_cons, List.map_nil]); first | done | rfl | (simp only [List.length_drop, List.length_take]; rfl)) ?_; (with_reducible refine (vitrineref01_Flip.calls kj19 (fun k_ => some k_ = (.slice Ao47 t262.length co47 : Value).ownBlock) (.slice Ao47 t262.length co47) t262 t283 w _ ?side1 ?side2 A41.out).mono ?_); (case side1 => repeat (first | (with_reducible first | exact HB.out | apply below_alloc | apply pw_below_drewN | apply below_drew1 | refine below_set ?_ GE235.out | refine below_set ?_ GE273.out | refine below_set ?_ GE282.out) | exact HB.out)); (case side2 => exact Kd.R_tight rfl HO264.out); rintro e w58 ⟨rfl, hy0, hb, hkp⟩; refine ⟨_, rfl, ?_⟩; have n0_ := Aside0.mk (Kd.R_mono (ok' := fun k_ => some k_ ≠ (.slice Ao47 t262.length co47 : Value).ownBlock ∧ some k_ ≠ (v270 : Value).ownBlock ∧ some k_ ≠ (v279 : Value).ownBlock) (Kd.R_keptB (HO_1.out) hkp (fun k_ hk_ hs_ => (hk_.1) hs_)) (fun k_ hk_ => ⟨hk_.1.1, hk_.1.2.1, hk_.1.2.2⟩)); have n1_ := Aside0.mk (blk_kept (by (with_reducible repeat (first | refine blk_drewN ?_ _ | refine blk_drew ?_ | refine blk_alloc ?_ _)); exact BK235.out) hkp (fun hs_ => (fun e_ => (Kd.R_ne HO264.out BK235.out (by decide)) e_) hs_)); have n2_ := Aside0.mk (Kd.R_reok rfl hy0 (fun k_ e_ => HO264.out.1 k_ e_)); have n3_ := Aside0.mk (Kd.R_mono (ok' := fun k_ => some k_ ≠ (.slice Ao45 t246.length co45 : Value).ownBlock ∧ some k_ ≠ (.slice Ao47 t262.length co47 : Value).ownBlock ∧ some k_ ≠ (v279 : Value).ownBlock) (Kd.R_keptB (HO271.out) hkp (fun k_ hk_ hs_ => (hk_.2.1) hs_)) (fun k_ hk_ => ⟨hk_.1.1, hk_.1.2.1, hk_.1.2.2⟩)); have n4_ := Aside0.mk (blk_kept (by (with_reducible repeat (first | refine blk_drewN ?_ _ | refine blk_drew ?_ | refine blk_alloc ?_ _)); exact BK273.out) hkp (fun hs_ => (fun e_ => (Kd.R_ne HO264.out BK273.out (by decide)) e_) hs_)); have n5_ := Aside0.mk (Kd.R_mono (ok' := fun k_ => some k_ ≠ (.slice Ao45 t246.length co45 : Value).ownBlock ∧ some k_ ≠ (.slice Ao47 t262.length co47 : Value).ownBlock ∧ some k_ ≠ (v270 : Value).ownBlock) (Kd.R_keptB (HO280.out) hkp (fun k_ hk_ hs_ => (hk_.2.1) hs_)) (fun k_ hk_ => ⟨hk_.1.1, hk_.1.2.1, hk_.1.2.2⟩)); have n6_ := Aside0.mk (blk_kept (by (with_reducible repeat (first | refine blk_drewN ?_ _ | refine blk_drew ?_ | refine blk_alloc ?_ _)); exact BK282.out) hkp (fun hs_ => (fun e_ => (Kd.R_ne HO264.out BK282.out (by decide)) e_) hs_)); have n7_ := Aside0.mk (hb); clear HO_1; clear BK235; clear HO264; clear HO271; clear BK273; clear HO280; clear BK282; clear HB; have HO_1 := n0_; have BK235 := n1_; have HO264 := n2_; have HO271 := n3_; have BK273 := n4_; have HO280 := n5_; have BK282 := n6_; have HB := n7_; clear n0_ n1_ n2_ n3_ n4_ n5_ n6_ n7_; (try clear hb); (try clear hkp); (try clear hy0); have hcz59_0 : w58.cell? ⟨gb273, 0, none⟩ = some (.int .u8 t265) := (blk_cell BK273.out 0).trans rfl; have hcz59_1 : w58.cell? ⟨gb273, 1, none⟩ = some (.int .u8 t266) := (blk_cell BK273.out 1).trans rfl; have hcz59_2 : w58.cell? ⟨gb273, 2, none⟩ = some (.int .u8 t267) := (blk_cell BK273.out 2).trans rfl; have hcz59_3 : w58.cell? ⟨gb273, 3, none⟩ = some (.int .u16 t268) := (blk_cell BK273.out 3).trans rfl; have hfz59_0 := blk_frozen BK273.out 0; have hfz59_1 := blk_frozen BK273.out 1; have hfz59_2 := blk_frozen BK273.out 2; have hfz59_3 := blk_frozen BK273.out 3; have hcz60_0 : w58.cell? ⟨gb282, 0, none⟩ = some (.int .u8 t274) := (blk_cell BK282.out 0).trans rfl; have hcz60_1 : w58.cell? ⟨gb282, 1, none⟩ = some (.int .u8 t275) := (blk_cell BK282.out 1).trans rfl; have hcz60_2 : w58.cell? ⟨gb282, 2, none⟩ = some (.int .u8 t276) := (blk_cell BK282.out 2).trans rfl; have hcz60_3 : w58.cell? ⟨gb282, 3, none⟩ = some (.int .u16 t277) := (blk_cell BK282.out 3).trans rfl; have hfz60_0 := blk_frozen BK282.out 0; have hfz60_1 := blk_frozen BK282.out 1; have hfz60_2 := blk_frozen BK282.out 2; have hfz60_3 := blk_frozen BK282.out 3; obtain ⟨Ao61, co61, eo61⟩ := Kd.R_slice HO271.out; subst eo61; obtain ⟨Ao62, co62, eo62⟩ := Kd.R_slice HO280.out; subst eo62) | (go_at_call 9; (with_reducible refine (vitrineref01_Same.calls _ _ t269 _ _ t278 true _ ?side1 ?side2 ?side3 ?side4 A43.out).mono ?_); (case side1 => repeat (first | exact (Kd.R_reads' HO271.out).2.2 | (with_reducible refine Kd.C_alloc ?_ _) | (with_reducible refine Kd.C_drewN ?_ _) | (with_reducible refine Kd.C_drew ?_))); (case side2 => exact (Kd.R_reads' HO271.out).2.1); (case side3 => repeat (first | exact (Kd.R_reads' HO280.out).2.2 | (with_reducible refine Kd.C_alloc ?_ _) | (with_reducible refine Kd.C_drewN ?_ _) | (with_reducible refine Kd.C_drew ?_))); (case side4 => exact (Kd.R_reads' HO280.out).2.1); rintro e w' ⟨rfl, ⟨nd, rfl⟩⟩))
                  go_ret
                  exact ⟨by first | rfl | (simp [errW_none, errW_some] <;> rfl) | (simp [*, errW_none, errW_some] <;> rfl), by repeat (first | (with_reducible first | exact HB.out | apply below_alloc | apply pw_below_drewN | apply below_drew1 | refine below_set ?_ GE235.out | refine below_set ?_ GE273.out | refine below_set ?_ GE282.out) | exact HB.out)⟩
                · replace c44 := Bool.eq_false_iff.mpr c44
                  subst c44
                  have H1 : (none) = some r := by rw [if_neg (show ¬ (false = true) by decide)] at H; exact H
                  clear H
                  have H := H1
                  clear H1
                  exact absurd H (by simp)
              · rw [if_neg c42] at H
                exact absurd H (by simp)
  · replace c4 := Bool.eq_false_iff.mpr c4
    subst c4
    have H1 : (none) = some r := by rw [if_neg (show ¬ (false = true) by decide)] at H; exact H
    clear H
    have H := H1
    clear H1
    exact absurd H (by simp)

end Go.Proofs.YtnncgipmfikooaaDoor.PHd
