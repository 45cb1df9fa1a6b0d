/- vitrinelaw16.back: its contract, by hand. -/
import Derived.Test.YtmejmlohinjpdaaSj
namespace Go.Proofs.Ytmejmlohinjpdaa.Sc
open Go.RowKit Go.Proofs.YtmejmlohinjpdaaW.PrintWords Go.Proofs.YtmejmlohinjpdaaW.PrintLast Go.Proofs.YtmejmlohinjpdaaW.PrintMore Go.Proofs.Ytmejmlohinjpdaa.POr
set_option linter.unusedVariables false
set_option linter.unusedSimpArgs false
def S51.of (x : S50) : S51 := ⟨x.f0, x.f1⟩
theorem st7_blk' {W : World} {gb t : Nat} {a0 a1 a2 a3 a4 a5 a6 : Value} (h : W.heap[gb]? = some (.cells #[a0, a1, a2, a3, a4, a5, a6] t (0, 0))) (b0 b1 b2 b3 b4 b5 b6 : Value) :
    (st7 W gb b0 b1 b2 b3 b4 b5 b6).heap[gb]? = some (.cells #[b0, b1, b2, b3, b4, b5, b6] t (0, 0)) := by
  have h0 := blk_put (cs' := #[b0, a1, a2, a3, a4, a5, a6]) h 0 b0 rfl
  have h1 := blk_put (cs' := #[b0, b1, a2, a3, a4, a5, a6]) h0 1 b1 rfl
  have h2 := blk_put (cs' := #[b0, b1, b2, a3, a4, a5, a6]) h1 2 b2 rfl
  have h3 := blk_put (cs' := #[b0, b1, b2, b3, a4, a5, a6]) h2 3 b3 rfl
  have h4 := blk_put (cs' := #[b0, b1, b2, b3, b4, a5, a6]) h3 4 b4 rfl
  have h5 := blk_put (cs' := #[b0, b1, b2, b3, b4, b5, a6]) h4 5 b5 rfl
  exact blk_put (cs' := #[b0, b1, b2, b3, b4, b5, b6]) h5 6 b6 rfl
set_option maxHeartbeats 4000000 in
set_option maxRecDepth 100000 in
theorem back_of (k a ch : Int) (gr : Bool) (fa : Int) (A : Option Addr) (c : Nat) (prs : List S50) (B : Option Addr) (tl d : Nat) (w : World) (hC : Kd.C k50 w A prs.length prs) (hc : prs.length ≤ c) (hl : prs.length ≤ 100000) :
    Calls Try.prog 12 #[.agg #[.int .i64 k, .int .i64 a, .int .u8 ch, .bool gr, .int .u8 fa, .slice A prs.length c, .slice B tl d]] w fun e w' => ∃ v, e = .returned (.agg #[.int .i64 k, .int .i64 a, .int .u8 ch, .bool gr, .int .u8 fa, v, .slice B tl d]) ∧ Kd.R k51 51 w' w.heap.size (fun _ => True) v (prs.map S51.of) ∧ Below w.heap.size w w' := by
  have HC := Aside0.mk hC
  clear hC
  go_enter Try.func12, Try.ntmps12
  go_wp2
  obtain ⟨g2, hg2⟩ : ∃ g, g = w.heap.size + 1 := ⟨_, rfl⟩
  obtain ⟨g3, hg3⟩ : ∃ g, g = w.heap.size + 1 + 1 := ⟨_, rfl⟩
  have B2 := Aside0.mk (blk_alloc (blk_new (w.alloc (.cells #[.int .i64 k, .int .i64 a, .int .u8 ch, .bool gr, .int .u8 fa, .slice A prs.length c, .slice B tl d] 35)) (.cells #[.int .i64 0, .int .i64 0, .int .u8 0, .bool false, .int .u8 0, .slice none 0 0, .slice none 0 0] 38)) (.cells #[.int .i64 k, .int .i64 a, .int .u8 ch, .bool gr, .int .u8 fa, .slice none 0 0, .slice B tl d] 38))
  have B3 := Aside0.mk (blk_new ((w.alloc (.cells #[.int .i64 k, .int .i64 a, .int .u8 ch, .bool gr, .int .u8 fa, .slice A prs.length c, .slice B tl d] 35)).alloc (.cells #[.int .i64 0, .int .i64 0, .int .u8 0, .bool false, .int .u8 0, .slice none 0 0, .slice none 0 0] 38)) (.cells #[.int .i64 k, .int .i64 a, .int .u8 ch, .bool gr, .int .u8 fa, .slice none 0 0, .slice B tl d] 38))
  have HB := Aside0.mk (below_alloc (below_alloc (below_alloc (Below.refl w.heap.size w) (.cells #[.int .i64 k, .int .i64 a, .int .u8 ch, .bool gr, .int .u8 fa, .slice A prs.length c, .slice B tl d] 35)) (.cells #[.int .i64 0, .int .i64 0, .int .u8 0, .bool false, .int .u8 0, .slice none 0 0, .slice none 0 0] 38)) (.cells #[.int .i64 k, .int .i64 a, .int .u8 ch, .bool gr, .int .u8 fa, .slice none 0 0, .slice B tl d] 38))
  simp only [World.size_alloc] at B2 B3
  rw [← hg2] at B2
  rw [← hg3] at B3
  rw [← hg3, ← hg2]
  have hs2 : w.heap.size ≤ g2 := by omega
  have hs3 : w.heap.size ≤ g3 := by omega
  have hne : g3 ≠ g2 := by omega
  clear hg2 hg3
  go_loopw [22] (fun v wr => ∃ (j : Nat) (Av : Option Addr) (cv : Nat) (y0 : List S51), j ≤ prs.length ∧ v = .int .i64 (j : Int) ∧ Aside0 (y0 = (prs.take j).map S51.of) ∧ Aside0 (wr.heap[g2]? = some (.cells #[.int .i64 0, .int .i64 0, .int .u8 0, .bool false, .int .u8 0, .slice none 0 0, .slice none 0 0] 38 (0, 0))) ∧ Aside0 (wr.heap[g3]? = some (.cells #[.int .i64 k, .int .i64 a, .int .u8 ch, .bool gr, .int .u8 fa, .slice Av y0.length cv, .slice B tl d] 38 (0, 0))) ∧ Aside0 (Kd.R k51 51 wr w.heap.size (fun k => k ≠ g3 ∧ k ≠ g2) (.slice Av y0.length cv) y0) ∧ Aside0 (Below w.heap.size w wr)) (fun v _ => prs.length - (intOf v).toNat)
  case atStart => exact ⟨0, none, 0, [], by omega, rfl, ⟨rfl⟩, B2, B3, ⟨Kd.R_nil _ _ _ _ _⟩, HB⟩
  case round =>
    clear B2 B3 HB
    obtain ⟨j, Av, cv, y0, hj, rfl, HY0, B2, B3, HO, HB⟩ := hrel
    have hm : prs.length ≤ 9223372036854775807 := by omega
    by_cases cj : j < prs.length
    · have cb : decide ((j : Int) < (prs.length : Int)) = true := decide_eq_true (by omega)
      obtain ⟨ad, e1, x0h, x1h⟩ := at_T50 (Kd.C_below HC.out HB.out) (j : Int) (by omega) (by omega)
      cases e1
      have hrd : rd_T50 prs (j : Int) = prs[j] := by unfold rd_T50; simp [List.getD_eq_getElem?_getD, cj]
      rw [hrd] at x0h x1h
      simp only [Int.toNat_natCast] at x0h x1h
      have hx : prs[j]? = some prs[j] := List.getElem?_eq_getElem cj
      have hY : ∀ x0 x1, prs[j] = ⟨x0, x1⟩ → y0 ++ [(⟨x0, x1⟩ : S51)] = (prs.take (j + 1)).map S51.of := by
        intro x0 x1 h
        rw [HY0.out, List.take_succ_eq_append_getElem cj, List.map_append, h]; rfl
      generalize prs[j] = x at *
      obtain ⟨x0, x1⟩ := x
      obtain ⟨y1, hy1⟩ : ∃ y1, y1 = (prs.take (j + 1)).map S51.of := ⟨_, rfl⟩
      have HY := Aside0.mk ((hY x0 x1 rfl).trans hy1.symm)
      have HY1 := Aside0.mk hy1
      have HL0 := Aside0.mk (show y0.length ≤ 100000 by rw [HY0.out, List.length_map, List.length_take]; omega)
      have p0 : (0 ≤ (j : Int)) = True := eq_true (by omega)
      have q0 : ((j : Int) < (prs.length : Int)) = True := eq_true (by omega)
      have z5 : wr.cell? ⟨g3, 5, none⟩ = some (.slice Av y0.length cv) := blk_cell B3.out 5
      have z5a := cell_al (.cells #[.int .u8 x0, .int .u8 x1] 50) z5
      have hk1 := Aside0.mk cj
      clear hrd hx hY hy1 cj
      go_wp2_with (first | ((with_reducible refine gate_builtin (b := .append) (xs := #[.tmp 27, .tmp 29]) rfl ?_); at_builtin; go_must (refine Kd.R_append k51 (w0 := w) w.heap.size rfl (.tmp 27) (.tmp 29) 36 51 (.agg #[.int .u8 0, .int .u8 0]) 2 rfl Try.underlying36 info51 rfl (by decide) (by omega) (.slice Av y0.length cv) y0 (⟨x0, x1⟩ : S51) [.int .u8 x0, .int .u8 x1] (fun k => k ≠ g3 ∧ k ≠ g2) (fun _ => False) rfl (by first | (go_simp; done) | (go_simp; rfl)) ?aP (fun _ hk => hk.elim) ?aF ?aO ?aB ?aS ?aL ?_); (case aP => exact k51_mkM _ _ _ (⟨x0, x1⟩ : S51)); (case aB => exact below_alloc HB.out _); (case aF => exact (fun j hj => by simp at hj; have := blk_lt B3.out; have := blk_lt B2.out; omega)); (case aO => exact Kd.R_alloc HO.out _); (case aS => exact below_size (below_alloc HB.out _)); (case aL => have := HL0.out; omega); intro v1 w8 ho hb hg hat; rw [HY.out] at ho; have hn3 := Kd.R_ne HO.out B3.out (by decide); have hn2 := Kd.R_ne HO.out B2.out (by decide); have B3' := Aside0.mk (blk_grown (blk_alloc B3.out _) hg hn3); have B2' := Aside0.mk (blk_grown (blk_alloc B2.out _) hg hn2); obtain ⟨A9, c9, rfl⟩ := Kd.R_slice ho; have HO9 := Aside0.mk ho; have HB9 := Aside0.mk hb; have zz := blk_cell B3'.out 5; have zf := blk_frozen B3'.out 5; clear ho hb hg hat hn3 hn2))
      go_roundw
      case rel => exact ⟨j + 1, A9, c9, y1, hk1.out, rfl, HY1, ⟨blk_far B2'.out (by show g2 ≠ g3; omega) _⟩, ⟨blk_put B3'.out 5 _ rfl⟩, ⟨Kd.R_far (p := ⟨g3, 5, none⟩) HO9.out (fun _ hk => hk.1) _⟩, ⟨below_set HB9.out hs3⟩⟩
      case measure => exact meas1 hk1.out
    · have cb : decide ((j : Int) < (prs.length : Int)) = false := decide_eq_false (by omega)
      have cb' : decide (j < prs.length) = false := decide_eq_false cj
      have hjl : j = prs.length := by omega
      have HYF := Aside0.mk (HY0.out.trans (by rw [hjl, List.take_length]))
      clear hjl cj
      have a0 := blk_cell B3.out 0
      have a1 := blk_cell B3.out 1
      have a2 := blk_cell B3.out 2
      have a3 := blk_cell B3.out 3
      have a4 := blk_cell B3.out 4
      have a5 := blk_cell B3.out 5
      have a6 := blk_cell B3.out 6
      have b0 := blk_cell B2.out 0
      have b1 := blk_cell B2.out 1
      have b2 := blk_cell B2.out 2
      have b3 := blk_cell B2.out 3
      have b4 := blk_cell B2.out 4
      have b5 := blk_cell B2.out 5
      have b6 := blk_cell B2.out 6
      have bf0 := blk_frozen B2.out 0
      have bf1 := blk_frozen B2.out 1
      have bf2 := blk_frozen B2.out 2
      have bf3 := blk_frozen B2.out 3
      have bf4 := blk_frozen B2.out 4
      have bf5 := blk_frozen B2.out 5
      have bf6 := blk_frozen B2.out 6
      go_wp2
      show bodyPost Try.prog Try.f12 _ .ret _ (st7 wr g2 (.int .i64 k) (.int .i64 a) (.int .u8 ch) (.bool gr) (.int .u8 fa) (.slice Av y0.length cv) (.slice B tl d))
      refine bodyPost_ret (results_cell_row rfl _ _ g2 38 #[.int .i64 k, .int .i64 a, .int .u8 ch, .bool gr, .int .u8 fa, .slice Av y0.length cv, .slice B tl d] (0, 0) _ rfl (st7_blk' B2.out _ _ _ _ _ _ _) Try.underlying38 rfl (by kernel_rfl)) rfl ?_
      refine ⟨_, rfl, ?_, st7_below HB.out hs2 _ _ _ _ _ _ _⟩
      have := Kd.R_keep HO.out (st7_keep wr g2 (.int .i64 k) (.int .i64 a) (.int .u8 ch) (.bool gr) (.int .u8 fa) (.slice Av y0.length cv) (.slice B tl d)) (fun _ hk => hk.2)
      rw [← HYF.out]
      exact Kd.R_mono this (fun _ _ => trivial)
end Go.Proofs.Ytmejmlohinjpdaa.Sc
