/- attr.looks, attr.Pairs, attr.Diff: their contracts, by hand, in the form of the printed ones. -/
import Derived.Test.YtfdhchgemplnoaaPMkx3
import Derived.WalkSpells
namespace Go.Proofs.Ytfdhchgemplnoaa.PMk
open Go.RowKit Go.Proofs.YtfdhchgemplnoaaW.PrintWords Go.Proofs.YtfdhchgemplnoaaW.PrintLast Go.Proofs.YtfdhchgemplnoaaW.PrintMore
set_option linter.unusedVariables false
set_option linter.unusedSimpArgs false

theorem looks_any (c0 : Int) (c1 : Bool) (c2 c3 c4 c5 : Int) (w : World) :
    Calls Try.prog 39 #[.agg #[.int .u8 c0, .bool c1, .int .u8 c2, .int .u8 c3, .int .u8 c4, .int .u8 c5]] w fun e w' =>
      e = .returned (.agg #[.int .u8 65, .int .u8 c3, .int .u8 66, .int .u8 c4, .int .u8 67, .int .u8 c5]) ∧ Below w.heap.size w w' := by
  go_enter Try.func39, Try.ntmps39
  go_wp2
  refine bodyPost_ret (v := .agg #[.int .u8 65, .int .u8 c3, .int .u8 66, .int .u8 c4, .int .u8 67, .int .u8 c5]) (by simp [results, Try.results39, go_sem]) rfl ⟨rfl, ?_⟩
  exact ((Below.refl _ _).alloc (Nat.le_refl _) _).alloc (by simp) _

def lookL (c3 c4 c5 : Int) : List S40 := [⟨65, c3⟩, ⟨66, c4⟩, ⟨67, c5⟩]
def attr_Pairs.f (c0 : Int) (c1 : Bool) (c2 c3 c4 c5 : Int) : Option (List S40) :=
  if c1 = true then (addr_Six.f (wrap64 (Go.bits .and .u8 c2 61))).bind fun s => some ([⟨192, s⟩] ++ (lookL c3 c4 c5).filter fun p => p.f1 != 0)
  else some ([] ++ (lookL c3 c4 c5).filter fun p => p.f1 != 0)

def lkp (c3 c4 c5 : Int) (k : Nat) : List S40 := ((lookL c3 c4 c5).take k).filter fun p => p.f1 != 0
theorem lkp3 (c3 c4 c5 : Int) : lkp c3 c4 c5 3 = (lookL c3 c4 c5).filter fun p => p.f1 != 0 := rfl
theorem lkp_len (c3 c4 c5 : Int) (k : Nat) : (lkp c3 c4 c5 k).length ≤ 3 := Nat.le_trans (List.length_filter_le _ _) (by simp [lookL]; omega)

theorem info40 : (Try.prog.info? 40).map (fun i => (i.zero, i.size, i.bytes)) = some (some (.agg #[(.int .u8 0), (.int .u8 0)]), 2, 2) := by kernel_rfl
theorem idx0 (c3 c4 c5 : Int) (w : World) : (Instr.index 74 (.agg #[.int .u8 65, .int .u8 c3, .int .u8 66, .int .u8 c4, .int .u8 67, .int .u8 c5]) (.int .i64 0)).run Try.prog w = .ok (.agg #[.int .u8 65, .int .u8 c3]) w := by kernel_rfl
theorem idx1 (c3 c4 c5 : Int) (w : World) : (Instr.index 74 (.agg #[.int .u8 65, .int .u8 c3, .int .u8 66, .int .u8 c4, .int .u8 67, .int .u8 c5]) (.int .i64 1)).run Try.prog w = .ok (.agg #[.int .u8 66, .int .u8 c4]) w := by kernel_rfl
theorem idx2 (c3 c4 c5 : Int) (w : World) : (Instr.index 74 (.agg #[.int .u8 65, .int .u8 c3, .int .u8 66, .int .u8 c4, .int .u8 67, .int .u8 c5]) (.int .i64 2)).run Try.prog w = .ok (.agg #[.int .u8 67, .int .u8 c5]) w := by kernel_rfl
set_option maxHeartbeats 4000000 in
theorem attr_Pairs.calls (c0 : Int) (c1 : Bool) (c2 c3 c4 c5 : Int) (r : List S40) (w : World) (h : attr_Pairs.f c0 c1 c2 c3 c4 c5 = some r) :
    Calls Try.prog 31 #[.agg #[.int .u8 c0, .bool c1, .int .u8 c2, .int .u8 c3, .int .u8 c4, .int .u8 c5]] w fun e w' => ∃ v0_ : Value, e = .returned (v0_) ∧ Kd.R k40 40 w' w.heap.size (fun _ => True) v0_ r ∧ Below w.heap.size w w' := by
  have hu40 := Try.underlying40
  cases c1 with
  | false =>
    have hr : r = [] ++ lkp c3 c4 c5 3 := by simpa [attr_Pairs.f, lkp3] using h.symm
    have HR := Aside0.mk hr
    clear h hr
    go_enter Try.func31, Try.ntmps31
    go_wp2_with fail
    refine (looks_any _ _ _ _ _ _ _).mono ?_
    rintro e w1 ⟨rfl, hb1⟩
    have HB := Aside0.mk (below_step (below_alloc (Below.refl w.heap.size w) _) hb1)
    clear hb1
    have HO := Aside0.mk (Kd.R_nil k40 40 w1 w.heap.size (fun _ => True))
    go_wp2_with fail
    go_loopw [3, 19] (fun v i wr => ∃ k : Nat, k ≤ 3 ∧ i = .int .i64 k ∧ Aside0 (Kd.R k40 40 wr w.heap.size (fun _ => True) v ([] ++ lkp c3 c4 c5 k)) ∧ Aside0 (Below w.heap.size w wr)) (fun _ i _ => 3 - (intOf i).toNat)
    case atStart => exact ⟨0, by omega, rfl, HO, HB⟩
    case round =>
      clear HO HB
      obtain ⟨k, hk, rfl, HO, HB⟩ := hrel
      match k, hk with
      | 0, _ =>
        by_cases hc : c3 = 0
        · have hc' : (c3 != 0) = false := by simp [hc]
          have hp : lkp c3 c4 c5 1 = lkp c3 c4 c5 0 := by by_cases h3 : c3 = 0 <;> by_cases h4 : c4 = 0 <;> by_cases h5 : c5 = 0 <;> simp_all [lkp, lookL]
          have HP := Aside0.mk hp
          clear hc hp
          have ix := idx0 c3 c4 c5
          go_wp2_with fail
          go_roundw
          case rel => exact ⟨1, by omega, rfl, ⟨by rw [HP.out]; exact (by (with_reducible repeat (first | apply Kd.R_alloc | apply Kd.R_drewN | apply Kd.R_drew)); exact HO.out)⟩, ⟨(by repeat (first | (with_reducible first | exact HB.out | apply below_alloc | apply pw_below_drewN | apply below_drew1) | exact HB.out))⟩⟩
          case measure => simp [intOf]
        · have hc' : (c3 != 0) = true := by simp [hc]
          have hp : [] ++ lkp c3 c4 c5 1 = ([] ++ lkp c3 c4 c5 0) ++ [(⟨65, c3⟩ : S40)] := by by_cases h3 : c3 = 0 <;> by_cases h4 : c4 = 0 <;> by_cases h5 : c5 = 0 <;> simp_all [lkp, lookL]
          have HP := Aside0.mk hp
          clear hc hp
          have ix := idx0 c3 c4 c5
          go_wp2_with (first | ((with_reducible refine gate_builtin (b := .append) (xs := #[.tmp 25, .tmp 27]) rfl ?_); at_builtin; refine Kd.R_append k40 (w0 := w) w.heap.size rfl (.tmp 25) (.tmp 27) 50 40 (.agg #[(.int .u8 0), (.int .u8 0)]) 2 rfl Try.underlying50 info40 rfl (by decide) (by omega) u3 ([] ++ lkp c3 c4 c5 0) (⟨65, c3⟩ : S40) [.int .u8 65, .int .u8 c3] (fun _ => True) (fun _ => False) rfl (by first | (go_simp; done) | (go_simp; rfl)) ?aP (fun _ hk => hk.elim) ?aF ?aO ?aB ?aS ?aL ?_; (case aP => exact k40_mkM _ _ _ (⟨65, c3⟩ : S40)); (case aB => exact (by repeat (first | (with_reducible first | exact HB.out | apply below_alloc | apply pw_below_drewN | apply below_drew1) | exact HB.out))); (case aF => exact (fun _ _ => trivial)); (case aO => exact (by (with_reducible repeat (first | apply Kd.R_alloc | apply Kd.R_drewN | apply Kd.R_drew)); exact HO.out)); (case aS => exact (below_size (by repeat (first | (with_reducible first | exact HB.out | apply below_alloc | apply pw_below_drewN | apply below_drew1) | exact HB.out)))); (case aL => have hpl := lkp_len c3 c4 c5 0; simp only [List.length_append, List.length_cons, List.length_nil]; omega); intro v1 w8 ho hb hg hat; have HO1 := Aside0.mk ho; have HB1 := Aside0.mk hb; clear ho hb hg hat))
          go_roundw
          case rel => exact ⟨1, by omega, rfl, ⟨by rw [HP.out]; exact HO1.out⟩, HB1⟩
          case measure => simp [intOf]
      | 1, _ =>
        by_cases hc : c4 = 0
        · have hc' : (c4 != 0) = false := by simp [hc]
          have hp : lkp c3 c4 c5 2 = lkp c3 c4 c5 1 := by by_cases h3 : c3 = 0 <;> by_cases h4 : c4 = 0 <;> by_cases h5 : c5 = 0 <;> simp_all [lkp, lookL]
          have HP := Aside0.mk hp
          clear hc hp
          have ix := idx1 c3 c4 c5
          go_wp2_with fail
          go_roundw
          case rel => exact ⟨2, by omega, rfl, ⟨by rw [HP.out]; exact (by (with_reducible repeat (first | apply Kd.R_alloc | apply Kd.R_drewN | apply Kd.R_drew)); exact HO.out)⟩, ⟨(by repeat (first | (with_reducible first | exact HB.out | apply below_alloc | apply pw_below_drewN | apply below_drew1) | exact HB.out))⟩⟩
          case measure => simp [intOf]
        · have hc' : (c4 != 0) = true := by simp [hc]
          have hp : [] ++ lkp c3 c4 c5 2 = ([] ++ lkp c3 c4 c5 1) ++ [(⟨66, c4⟩ : S40)] := by by_cases h3 : c3 = 0 <;> by_cases h4 : c4 = 0 <;> by_cases h5 : c5 = 0 <;> simp_all [lkp, lookL]
          have HP := Aside0.mk hp
          clear hc hp
          have ix := idx1 c3 c4 c5
          go_wp2_with (first | ((with_reducible refine gate_builtin (b := .append) (xs := #[.tmp 25, .tmp 27]) rfl ?_); at_builtin; refine Kd.R_append k40 (w0 := w) w.heap.size rfl (.tmp 25) (.tmp 27) 50 40 (.agg #[(.int .u8 0), (.int .u8 0)]) 2 rfl Try.underlying50 info40 rfl (by decide) (by omega) u3 ([] ++ lkp c3 c4 c5 1) (⟨66, c4⟩ : S40) [.int .u8 66, .int .u8 c4] (fun _ => True) (fun _ => False) rfl (by first | (go_simp; done) | (go_simp; rfl)) ?aP (fun _ hk => hk.elim) ?aF ?aO ?aB ?aS ?aL ?_; (case aP => exact k40_mkM _ _ _ (⟨66, c4⟩ : S40)); (case aB => exact (by repeat (first | (with_reducible first | exact HB.out | apply below_alloc | apply pw_below_drewN | apply below_drew1) | exact HB.out))); (case aF => exact (fun _ _ => trivial)); (case aO => exact (by (with_reducible repeat (first | apply Kd.R_alloc | apply Kd.R_drewN | apply Kd.R_drew)); exact HO.out)); (case aS => exact (below_size (by repeat (first | (with_reducible first | exact HB.out | apply below_alloc | apply pw_below_drewN | apply below_drew1) | exact HB.out)))); (case aL => have hpl := lkp_len c3 c4 c5 1; simp only [List.length_append, List.length_cons, List.length_nil]; omega); intro v1 w8 ho hb hg hat; have HO1 := Aside0.mk ho; have HB1 := Aside0.mk hb; clear ho hb hg hat))
          go_roundw
          case rel => exact ⟨2, by omega, rfl, ⟨by rw [HP.out]; exact HO1.out⟩, HB1⟩
          case measure => simp [intOf]
      | 2, _ =>
        by_cases hc : c5 = 0
        · have hc' : (c5 != 0) = false := by simp [hc]
          have hp : lkp c3 c4 c5 3 = lkp c3 c4 c5 2 := by by_cases h3 : c3 = 0 <;> by_cases h4 : c4 = 0 <;> by_cases h5 : c5 = 0 <;> simp_all [lkp, lookL]
          have HP := Aside0.mk hp
          clear hc hp
          have ix := idx2 c3 c4 c5
          go_wp2_with fail
          go_roundw
          case rel => exact ⟨3, by omega, rfl, ⟨by rw [HP.out]; exact (by (with_reducible repeat (first | apply Kd.R_alloc | apply Kd.R_drewN | apply Kd.R_drew)); exact HO.out)⟩, ⟨(by repeat (first | (with_reducible first | exact HB.out | apply below_alloc | apply pw_below_drewN | apply below_drew1) | exact HB.out))⟩⟩
          case measure => simp [intOf]
        · have hc' : (c5 != 0) = true := by simp [hc]
          have hp : [] ++ lkp c3 c4 c5 3 = ([] ++ lkp c3 c4 c5 2) ++ [(⟨67, c5⟩ : S40)] := by by_cases h3 : c3 = 0 <;> by_cases h4 : c4 = 0 <;> by_cases h5 : c5 = 0 <;> simp_all [lkp, lookL]
          have HP := Aside0.mk hp
          clear hc hp
          have ix := idx2 c3 c4 c5
          go_wp2_with (first | ((with_reducible refine gate_builtin (b := .append) (xs := #[.tmp 25, .tmp 27]) rfl ?_); at_builtin; refine Kd.R_append k40 (w0 := w) w.heap.size rfl (.tmp 25) (.tmp 27) 50 40 (.agg #[(.int .u8 0), (.int .u8 0)]) 2 rfl Try.underlying50 info40 rfl (by decide) (by omega) u3 ([] ++ lkp c3 c4 c5 2) (⟨67, c5⟩ : S40) [.int .u8 67, .int .u8 c5] (fun _ => True) (fun _ => False) rfl (by first | (go_simp; done) | (go_simp; rfl)) ?aP (fun _ hk => hk.elim) ?aF ?aO ?aB ?aS ?aL ?_; (case aP => exact k40_mkM _ _ _ (⟨67, c5⟩ : S40)); (case aB => exact (by repeat (first | (with_reducible first | exact HB.out | apply below_alloc | apply pw_below_drewN | apply below_drew1) | exact HB.out))); (case aF => exact (fun _ _ => trivial)); (case aO => exact (by (with_reducible repeat (first | apply Kd.R_alloc | apply Kd.R_drewN | apply Kd.R_drew)); exact HO.out)); (case aS => exact (below_size (by repeat (first | (with_reducible first | exact HB.out | apply below_alloc | apply pw_below_drewN | apply below_drew1) | exact HB.out)))); (case aL => have hpl := lkp_len c3 c4 c5 2; simp only [List.length_append, List.length_cons, List.length_nil]; omega); intro v1 w8 ho hb hg hat; have HO1 := Aside0.mk ho; have HB1 := Aside0.mk hb; clear ho hb hg hat))
          go_roundw
          case rel => exact ⟨3, by omega, rfl, ⟨by rw [HP.out]; exact HO1.out⟩, HB1⟩
          case measure => simp [intOf]
      | 3, _ =>
        go_wp2_with fail
        go_ret
        exact ⟨_, rfl, by rw [HR.out]; exact HO.out, HB.out⟩
  | true =>
    obtain ⟨s, hs, hr⟩ : ∃ s, addr_Six.f (wrap64 (Go.bits .and .u8 c2 61)) = some s ∧ r = [⟨192, s⟩] ++ lkp c3 c4 c5 3 := by
      simp only [attr_Pairs.f, if_true] at h
      obtain ⟨s, hs, h⟩ := Option.bind_eq_some_iff.1 h
      exact ⟨s, hs, (Option.some.inj h).symm⟩
    have HR := Aside0.mk hr
    have HS := Aside0.mk hs
    clear h hr hs
    go_enter Try.func31, Try.ntmps31
    go_wp2_with fail
    refine (addr_Six.calls _ s _ HS.out).mono ?_
    rintro e w0 ⟨rfl, hd0⟩
    have HB := Aside0.mk (below_step (below_alloc (Below.refl w.heap.size w) _) hd0.below)
    have BK := Aside0.mk (blk_below (blk_new w (.cells #[.int .u8 c0, .bool true, .int .u8 c2, .int .u8 c3, .int .u8 c4, .int .u8 c5] 38)) hd0.below)
    clear hd0
    go_wp2_with (first | ((with_reducible refine gate_builtin (b := .append) (xs := #[.tmp 8, .tmp 15]) rfl ?_); at_builtin; refine Kd.R_append k40 (w0 := w) w.heap.size rfl (.tmp 8) (.tmp 15) 50 40 (.agg #[(.int .u8 0), (.int .u8 0)]) 2 rfl Try.underlying50 info40 rfl (by decide) (by omega) (.slice none 0 0) [] (⟨192, s⟩ : S40) [.int .u8 192, .int .u8 s] (fun _ => True) (fun _ => False) rfl (by first | (go_simp; done) | (go_simp; rfl)) ?aP (fun _ hk => hk.elim) ?aF ?aO ?aB ?aS ?aL ?_; (case aP => exact k40_mkM _ _ _ (⟨192, s⟩ : S40)); (case aB => exact HB.out); (case aF => exact (fun _ _ => trivial)); (case aO => exact (Kd.R_nil k40 40 _ w.heap.size (fun _ => True))); (case aS => exact (below_size HB.out)); (case aL => simp); intro v1 w8 ho hb hg hat; have HO1 := Aside0.mk ho; have HB1 := Aside0.mk hb; have BK1 := Aside0.mk (blk_grown BK.out hg (by simp [Value.ownBlock])); clear ho hb hg hat BK HB; have hz0 := blk_cell BK1.out 0; have hz1 := blk_cell BK1.out 1; have hz2 := blk_cell BK1.out 2; have hz3 := blk_cell BK1.out 3; have hz4 := blk_cell BK1.out 4; have hz5 := blk_cell BK1.out 5) | (go_at_call 39; refine (looks_any _ _ _ _ _ _ _).mono ?_; rintro e w9 ⟨rfl, hb9⟩; have HB := Aside0.mk (below_step HB1.out hb9); have HO := Aside0.mk (Kd.R_below HO1.out hb9); clear hb9 HB1 HO1 BK1 hz0 hz1 hz2 hz3 hz4 hz5))
    go_loopw [3, 19] (fun v i wr => ∃ k : Nat, k ≤ 3 ∧ i = .int .i64 k ∧ Aside0 (Kd.R k40 40 wr w.heap.size (fun _ => True) v ([⟨192, s⟩] ++ lkp c3 c4 c5 k)) ∧ Aside0 (Below w.heap.size w wr)) (fun _ i _ => 3 - (intOf i).toNat)
    case atStart => exact ⟨0, by omega, rfl, HO, HB⟩
    case round =>
      clear HO HB
      obtain ⟨k, hk, rfl, HO, HB⟩ := hrel
      match k, hk with
      | 0, _ =>
        by_cases hc : c3 = 0
        · have hc' : (c3 != 0) = false := by simp [hc]
          have hp : lkp c3 c4 c5 1 = lkp c3 c4 c5 0 := by by_cases h3 : c3 = 0 <;> by_cases h4 : c4 = 0 <;> by_cases h5 : c5 = 0 <;> simp_all [lkp, lookL]
          have HP := Aside0.mk hp
          clear hc hp
          have ix := idx0 c3 c4 c5
          go_wp2_with fail
          go_roundw
          case rel => exact ⟨1, by omega, rfl, ⟨by rw [HP.out]; exact (by (with_reducible repeat (first | apply Kd.R_alloc | apply Kd.R_drewN | apply Kd.R_drew)); exact HO.out)⟩, ⟨(by repeat (first | (with_reducible first | exact HB.out | apply below_alloc | apply pw_below_drewN | apply below_drew1) | exact HB.out))⟩⟩
          case measure => simp [intOf]
        · have hc' : (c3 != 0) = true := by simp [hc]
          have hp : [⟨192, s⟩] ++ lkp c3 c4 c5 1 = ([⟨192, s⟩] ++ lkp c3 c4 c5 0) ++ [(⟨65, c3⟩ : S40)] := by by_cases h3 : c3 = 0 <;> by_cases h4 : c4 = 0 <;> by_cases h5 : c5 = 0 <;> simp_all [lkp, lookL]
          have HP := Aside0.mk hp
          clear hc hp
          have ix := idx0 c3 c4 c5
          go_wp2_with (first | ((with_reducible refine gate_builtin (b := .append) (xs := #[.tmp 25, .tmp 27]) rfl ?_); at_builtin; refine Kd.R_append k40 (w0 := w) w.heap.size rfl (.tmp 25) (.tmp 27) 50 40 (.agg #[(.int .u8 0), (.int .u8 0)]) 2 rfl Try.underlying50 info40 rfl (by decide) (by omega) u3 ([⟨192, s⟩] ++ lkp c3 c4 c5 0) (⟨65, c3⟩ : S40) [.int .u8 65, .int .u8 c3] (fun _ => True) (fun _ => False) rfl (by first | (go_simp; done) | (go_simp; rfl)) ?aP (fun _ hk => hk.elim) ?aF ?aO ?aB ?aS ?aL ?_; (case aP => exact k40_mkM _ _ _ (⟨65, c3⟩ : S40)); (case aB => exact (by repeat (first | (with_reducible first | exact HB.out | apply below_alloc | apply pw_below_drewN | apply below_drew1) | exact HB.out))); (case aF => exact (fun _ _ => trivial)); (case aO => exact (by (with_reducible repeat (first | apply Kd.R_alloc | apply Kd.R_drewN | apply Kd.R_drew)); exact HO.out)); (case aS => exact (below_size (by repeat (first | (with_reducible first | exact HB.out | apply below_alloc | apply pw_below_drewN | apply below_drew1) | exact HB.out)))); (case aL => have hpl := lkp_len c3 c4 c5 0; simp only [List.length_append, List.length_cons, List.length_nil]; omega); intro v1 w8 ho hb hg hat; have HO1 := Aside0.mk ho; have HB1 := Aside0.mk hb; clear ho hb hg hat))
          go_roundw
          case rel => exact ⟨1, by omega, rfl, ⟨by rw [HP.out]; exact HO1.out⟩, HB1⟩
          case measure => simp [intOf]
      | 1, _ =>
        by_cases hc : c4 = 0
        · have hc' : (c4 != 0) = false := by simp [hc]
          have hp : lkp c3 c4 c5 2 = lkp c3 c4 c5 1 := by by_cases h3 : c3 = 0 <;> by_cases h4 : c4 = 0 <;> by_cases h5 : c5 = 0 <;> simp_all [lkp, lookL]
          have HP := Aside0.mk hp
          clear hc hp
          have ix := idx1 c3 c4 c5
          go_wp2_with fail
          go_roundw
          case rel => exact ⟨2, by omega, rfl, ⟨by rw [HP.out]; exact (by (with_reducible repeat (first | apply Kd.R_alloc | apply Kd.R_drewN | apply Kd.R_drew)); exact HO.out)⟩, ⟨(by repeat (first | (with_reducible first | exact HB.out | apply below_alloc | apply pw_below_drewN | apply below_drew1) | exact HB.out))⟩⟩
          case measure => simp [intOf]
        · have hc' : (c4 != 0) = true := by simp [hc]
          have hp : [⟨192, s⟩] ++ lkp c3 c4 c5 2 = ([⟨192, s⟩] ++ lkp c3 c4 c5 1) ++ [(⟨66, c4⟩ : S40)] := by by_cases h3 : c3 = 0 <;> by_cases h4 : c4 = 0 <;> by_cases h5 : c5 = 0 <;> simp_all [lkp, lookL]
          have HP := Aside0.mk hp
          clear hc hp
          have ix := idx1 c3 c4 c5
          go_wp2_with (first | ((with_reducible refine gate_builtin (b := .append) (xs := #[.tmp 25, .tmp 27]) rfl ?_); at_builtin; refine Kd.R_append k40 (w0 := w) w.heap.size rfl (.tmp 25) (.tmp 27) 50 40 (.agg #[(.int .u8 0), (.int .u8 0)]) 2 rfl Try.underlying50 info40 rfl (by decide) (by omega) u3 ([⟨192, s⟩] ++ lkp c3 c4 c5 1) (⟨66, c4⟩ : S40) [.int .u8 66, .int .u8 c4] (fun _ => True) (fun _ => False) rfl (by first | (go_simp; done) | (go_simp; rfl)) ?aP (fun _ hk => hk.elim) ?aF ?aO ?aB ?aS ?aL ?_; (case aP => exact k40_mkM _ _ _ (⟨66, c4⟩ : S40)); (case aB => exact (by repeat (first | (with_reducible first | exact HB.out | apply below_alloc | apply pw_below_drewN | apply below_drew1) | exact HB.out))); (case aF => exact (fun _ _ => trivial)); (case aO => exact (by (with_reducible repeat (first | apply Kd.R_alloc | apply Kd.R_drewN | apply Kd.R_drew)); exact HO.out)); (case aS => exact (below_size (by repeat (first | (with_reducible first | exact HB.out | apply below_alloc | apply pw_below_drewN | apply below_drew1) | exact HB.out)))); (case aL => have hpl := lkp_len c3 c4 c5 1; simp only [List.length_append, List.length_cons, List.length_nil]; omega); intro v1 w8 ho hb hg hat; have HO1 := Aside0.mk ho; have HB1 := Aside0.mk hb; clear ho hb hg hat))
          go_roundw
          case rel => exact ⟨2, by omega, rfl, ⟨by rw [HP.out]; exact HO1.out⟩, HB1⟩
          case measure => simp [intOf]
      | 2, _ =>
        by_cases hc : c5 = 0
        · have hc' : (c5 != 0) = false := by simp [hc]
          have hp : lkp c3 c4 c5 3 = lkp c3 c4 c5 2 := by by_cases h3 : c3 = 0 <;> by_cases h4 : c4 = 0 <;> by_cases h5 : c5 = 0 <;> simp_all [lkp, lookL]
          have HP := Aside0.mk hp
          clear hc hp
          have ix := idx2 c3 c4 c5
          go_wp2_with fail
          go_roundw
          case rel => exact ⟨3, by omega, rfl, ⟨by rw [HP.out]; exact (by (with_reducible repeat (first | apply Kd.R_alloc | apply Kd.R_drewN | apply Kd.R_drew)); exact HO.out)⟩, ⟨(by repeat (first | (with_reducible first | exact HB.out | apply below_alloc | apply pw_below_drewN | apply below_drew1) | exact HB.out))⟩⟩
          case measure => simp [intOf]
        · have hc' : (c5 != 0) = true := by simp [hc]
          have hp : [⟨192, s⟩] ++ lkp c3 c4 c5 3 = ([⟨192, s⟩] ++ lkp c3 c4 c5 2) ++ [(⟨67, c5⟩ : S40)] := by by_cases h3 : c3 = 0 <;> by_cases h4 : c4 = 0 <;> by_cases h5 : c5 = 0 <;> simp_all [lkp, lookL]
          have HP := Aside0.mk hp
          clear hc hp
          have ix := idx2 c3 c4 c5
          go_wp2_with (first | ((with_reducible refine gate_builtin (b := .append) (xs := #[.tmp 25, .tmp 27]) rfl ?_); at_builtin; refine Kd.R_append k40 (w0 := w) w.heap.size rfl (.tmp 25) (.tmp 27) 50 40 (.agg #[(.int .u8 0), (.int .u8 0)]) 2 rfl Try.underlying50 info40 rfl (by decide) (by omega) u3 ([⟨192, s⟩] ++ lkp c3 c4 c5 2) (⟨67, c5⟩ : S40) [.int .u8 67, .int .u8 c5] (fun _ => True) (fun _ => False) rfl (by first | (go_simp; done) | (go_simp; rfl)) ?aP (fun _ hk => hk.elim) ?aF ?aO ?aB ?aS ?aL ?_; (case aP => exact k40_mkM _ _ _ (⟨67, c5⟩ : S40)); (case aB => exact (by repeat (first | (with_reducible first | exact HB.out | apply below_alloc | apply pw_below_drewN | apply below_drew1) | exact HB.out))); (case aF => exact (fun _ _ => trivial)); (case aO => exact (by (with_reducible repeat (first | apply Kd.R_alloc | apply Kd.R_drewN | apply Kd.R_drew)); exact HO.out)); (case aS => exact (below_size (by repeat (first | (with_reducible first | exact HB.out | apply below_alloc | apply pw_below_drewN | apply below_drew1) | exact HB.out)))); (case aL => have hpl := lkp_len c3 c4 c5 2; simp only [List.length_append, List.length_cons, List.length_nil]; omega); intro v1 w8 ho hb hg hat; have HO1 := Aside0.mk ho; have HB1 := Aside0.mk hb; clear ho hb hg hat))
          go_roundw
          case rel => exact ⟨3, by omega, rfl, ⟨by rw [HP.out]; exact HO1.out⟩, HB1⟩
          case measure => simp [intOf]
      | 3, _ =>
        go_wp2_with fail
        go_ret
        exact ⟨_, rfl, by rw [HR.out]; exact HO.out, HB.out⟩
end Go.Proofs.Ytfdhchgemplnoaa.PMk
