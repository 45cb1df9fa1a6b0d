/- order.All, the walk. -/
import Derived.Test.YtmejmlohinjpdaaSh
namespace Go.Proofs.Ytmejmlohinjpdaa.Sc
open Go.RowKit Go.Proofs.YtmejmlohinjpdaaW.PrintWords Go.Proofs.YtmejmlohinjpdaaW.PrintLast Go.Proofs.YtmejmlohinjpdaaW.PrintMore Go.Proofs.Ytmejmlohinjpdaa.POr
set_option linter.unusedVariables false
set_option linter.unusedSimpArgs false
theorem SS.len {w0 W : World} {g : Nat} {p : List Int} {code : Int} (h : SS w0 W g p code) : ∃ A c, W.cell? ⟨g, 0, none⟩ = some (.slice A p.length c) := by
  obtain ⟨A, c, hb, _⟩ := h; exact ⟨A, c, blk_cell hb 0⟩
def AllPost (w : World) (p : List Int) (r : List OpR × Nat × Int) (e : Ending) (w' : World) : Prop :=
  ∃ v, e = .returned (.tuple #[v, .int .i64 ((p.length : Int) - (r.2.1 : Int)), .int .i64 r.2.2]) ∧ Kd.R k35 35 w' w.heap.size (fun _ => True) v r.1 ∧ Below w.heap.size w w'
def AllInv (p : List Int) (kq : Nat) (done : List OpR) (p' : List Int) : Prop :=
  p'.length ≤ kq ∧ done.length + p'.length ≤ p.length ∧ Bytes p' ∧ allF p.length p = (done ++ (allF kq p').1, (allF kq p').2)
theorem AllInv.start {p : List Int} (hp : Bytes p) : AllInv p p.length [] p := ⟨Nat.le_refl _, by simp, hp, rfl⟩
theorem AllInv.stop {p : List Int} {kq : Nat} {done : List OpR} (h : AllInv p kq done []) : allF p.length p = (done, 0, 0) := by
  obtain ⟨_, _, _, h⟩ := h
  have : allF kq [] = ([], 0, 0) := by cases kq <;> rfl
  rw [h, this, List.append_nil]
theorem AllInv.err {p : List Int} {kq : Nat} {done : List OpR} {b : Int} {q : List Int} (h : AllInv p kq done (b :: q)) (hc : (opF (b :: q)).2.2 ≠ 0) : allF p.length p = (done, (b :: q).length, (opF (b :: q)).2.2) := by
  obtain ⟨h1, _, _, h⟩ := h
  obtain ⟨m, rfl⟩ : ∃ m, kq = m + 1 := ⟨kq - 1, by simp at h1; omega⟩
  have : allF (m + 1) (b :: q) = ([], (b :: q).length, (opF (b :: q)).2.2) := by
    simp only [allF]
    rw [if_neg (by simp), if_neg hc]
  rw [h, this, List.append_nil]
theorem AllInv.next {p : List Int} {m : Nat} {done : List OpR} {b : Int} {q : List Int} (h : AllInv p (m + 1) done (b :: q)) (hc : (opF (b :: q)).2.2 = 0) : AllInv p m (done ++ [(opF (b :: q)).1]) (opF (b :: q)).2.1 := by
  obtain ⟨h1, h2, h3, h⟩ := h
  obtain ⟨h4, h5⟩ := opF_part b q
  have : allF (m + 1) (b :: q) = ((opF (b :: q)).1 :: (allF m (opF (b :: q)).2.1).1, (allF m (opF (b :: q)).2.1).2) := by
    simp only [allF]
    rw [if_neg (by simp), if_pos hc]
  refine ⟨by simp at h1; omega, by simp at h2 ⊢; omega, fun x hx => h3 x (h5 x hx), ?_⟩
  rw [h, this]
  simp
theorem SS.grow {w0 W W' : World} {g : Nat} {p : List Int} {code : Int} (h : SS w0 W g p code) {row : Option Nat} (hg : W.grownBy W' row) (hne : ∀ k, row = some k → k ≠ g) : SS w0 W' g p code := by
  obtain ⟨A, c, hb, h1⟩ := h
  exact ⟨A, c, blk_grown hb hg (fun e => hne g e.symm rfl), h1⟩
theorem post_of {w W : World} {p : List Int} {done : List OpR} {left : Nat} {code n : Int} {v : Value} {g : Nat} (h : allF p.length p = (done, left, code)) (hv : Kd.R k35 35 W w.heap.size (fun k => k ≠ g) v done) (hB : Below w.heap.size w W) (hn : n = (p.length : Int) - (left : Int)) :
    AllPost w p (allF p.length p) (.returned (.tuple #[v, .int .i64 n, .int .i64 code])) W := by
  subst hn
  rw [h]
  exact ⟨v, rfl, Kd.R_mono hv (fun _ _ => trivial), hB⟩
set_option maxHeartbeats 4000000 in
set_option maxRecDepth 100000 in
theorem all_of (A0 : Option Addr) (c0 : Nat) (p : List Int) (hp : Bytes p) (hl : p.length ≤ 100000) (w : World) (h : Kd.C (Kd.int .u8) w A0 p.length p) (hc : p.length ≤ c0) :
    Calls Try.prog 11 #[.slice A0 p.length c0] w (AllPost w p (allF p.length p)) := by
  have H := Aside0.mk h
  have HPB := Aside0.mk hp
  clear h hp
  go_enter Try.func11, Try.ntmps11
  go_wp2
  have HS : Aside0 (SS w (w.alloc (.cells #[.slice A0 p.length c0, .int .i64 0] 47)) w.heap.size p 0) := ⟨⟨A0, c0, blk_new _ _, Nat.le_refl _, hc, H.out⟩⟩
  have HB := Aside0.mk (below_alloc (Below.refl w.heap.size w) (.cells #[.slice A0 p.length c0, .int .i64 0] 47))
  have HN := Aside0.mk (AllInv.start HPB.out)
  obtain ⟨g, hg⟩ : ∃ g, g = w.heap.size := ⟨_, rfl⟩
  rw [← hg] at HS
  have hg0 : w.heap.size ≤ g := Nat.le_of_eq hg.symm
  rw [← hg]
  clear hg
  go_loopg [5] p.length (fun kq v5 wr => ∃ (done : List OpR) (p' : List Int), Aside0 (AllInv p kq done p') ∧ Aside0 (kq ≤ p.length) ∧ Aside0 (SS w wr g p' 0) ∧ Aside0 (Kd.R k35 35 wr w.heap.size (fun k => k ≠ g) v5 done) ∧ Aside0 (Below w.heap.size w wr))
  case atStart => exact ⟨[], p, HN, ⟨Nat.le_refl _⟩, HS, ⟨Kd.R_nil _ _ _ _ _⟩, HB⟩
  case round =>
    clear HN HS HB
    obtain ⟨done, p', HN, HK1, HS, HO, HB⟩ := hrel
    obtain ⟨A1, c1, y0⟩ := HS.out.len
    cases p' with
    | nil =>
      have HE := Aside0.mk (AllInv.stop HN.out)
      go_wp2
      go_ret3
      exact post_of HE.out HO.out HB.out (by simp)
    | cons b q =>
      obtain ⟨k1, hk1⟩ : ∃ m, gk = m + 1 := ⟨gk - 1, by have := HN.out.1; simp at this; omega⟩
      subst hk1
      have hq : (0 < (b :: q).length) = True := eq_true (by simp)
      have hq' : decide (0 < (b :: q).length) = true := decide_eq_true (by simp)
      have HP' := Aside0.mk HN.out.2.2.1
      have hl' : (b :: q).length ≤ 100000 := by have := HN.out.2.1; omega
      have HOP := Aside0.mk (op_of g (b :: q) HP'.out hl' (by simp) w wr HS.out HB.out)
      obtain ⟨pp, hpp⟩ : ∃ pp, pp = b :: q := ⟨_, rfl⟩
      have HPP := Aside0.mk hpp
      rw [← hpp] at y0 hq hq' HOP
      clear hpp
      go_wp2_with fail
      refine HOP.out.mono ?_
      rintro e w1 ⟨vp, vt, rfl, hvp, hvt, hs, hb, hk⟩
      have hgl : g < wr.heap.size := HS.out.lt
      obtain ⟨r, hr⟩ : ∃ r, r = opF pp := ⟨_, rfl⟩
      rw [← hr] at hvp hvt hs ⊢
      have HRR := Aside0.mk (hr.trans (by rw [HPP.out]) : r = opF (b :: q))
      clear hr
      obtain ⟨⟨k, a, c, gr, f, prs, tx⟩, p2, c2⟩ := r
      dsimp only at hvp hvt hs ⊢
      obtain ⟨Ap, cp, rfl⟩ := Kd.R_slice hvp
      obtain ⟨At, ct, rfl⟩ := Kd.R_slice hvt
      have HVP := Aside0.mk hvp
      have HVT := Aside0.mk hvt
      have HS1 := Aside0.mk hs
      have HB1 := Aside0.mk hb
      have hw1 := hk.1
      have HO1 := Aside0.mk (Kd.R_keep HO.out hk (fun _ h => h))
      have z1 := cell_al (.cells #[.int .i64 k, .int .i64 a, .int .u8 c, .bool gr, .int .u8 f, .slice Ap prs.length cp, .slice At tx.length ct] 35) hs.code
      clear hvp hvt hs hb hk y0 HOP
      by_cases hc2 : c2 = 0
      · subst hc2
        have HKN := Aside0.mk (fun k hk => ⟨by omega, fun he => by have := Kd.R_lt HO.out k he.symm; omega⟩ : ∀ k, wr.heap.size ≤ k → k ≠ g ∧ some k ≠ u5.ownBlock)
        have HPL := Aside0.mk hl
        have HG5 := Aside0.mk (HO.out.1 : ∀ k, u5.ownBlock = some k → k ≠ g)
        go_wp2_with (first | ((with_reducible refine gate_builtin (b := .append) (xs := #[.tmp 39, .tmp 41]) rfl ?_); at_builtin; refine Kd.R_append k35 (w0 := w) w.heap.size rfl (.tmp 39) (.tmp 41) 29 35 (.agg #[.int .i64 0, .int .i64 0, .int .u8 0, .bool false, .int .u8 0, .slice none 0 0, .slice none 0 0]) 72 rfl Try.underlying29 info35 rfl (by decide) (by omega) u5 done (⟨k, a, c, gr, f, prs, tx⟩ : OpR) [.int .i64 k, .int .i64 a, .int .u8 c, .bool gr, .int .u8 f, .slice Ap prs.length cp, .slice At tx.length ct] (fun k => k ≠ g) (fun k => wr.heap.size ≤ k) rfl (by first | (go_simp; done) | (go_simp; rfl)) ?aP ?aK ?aF ?aO ?aB ?aS ?aL ?_; (case aP => exact k35_mkM (x := (⟨k, a, c, gr, f, prs, tx⟩ : OpR)) (Kd.R_alloc (Kd.R_lower (Kd.R_mono (Kd.R_bound HVP.out) (fun _ hk => hk.2.1)) (below_size HB.out)) _) (Kd.R_alloc (Kd.R_lower (Kd.R_mono (Kd.R_bound HVT.out) (fun _ hk => hk.2.1)) (below_size HB.out)) _)); (case aK => exact HKN.out); (case aB => exact below_alloc HB1.out _); (case aF => exact (fun j hj => by simp at hj; omega)); (case aO => exact Kd.R_alloc HO1.out _); (case aS => exact below_size (below_alloc HB1.out _)); (case aL => have := HN.out.2.1; have := HPL.out; omega); intro v1 w8 ho hb hg hat; have HO2 := Aside0.mk ho; have HB2 := Aside0.mk hb; have HS2 := Aside0.mk (SS.grow (HS1.out.al _) hg (fun j hj => HG5.out j hj)); clear ho hb hg hat))
        go_roundg k1
        case measure => have := HK1.out; omega
        case rel => exact ⟨_, _, ⟨by have := AllInv.next HN.out (by rw [← HRR.out]); rw [← HRR.out] at this; exact this⟩, ⟨by have := HK1.out; omega⟩, HS2, HO2, HB2⟩
      · have cb : (c2 != 0) = true := by simpa using hc2
        have hsub : wrap64 ((p.length : Int) - (pp.length : Int)) = (p.length : Int) - (pp.length : Int) := by
          have h1 := HN.out.2.1
          have h2 := HPP.out
          rw [← h2] at h1
          rw [wrap_in _ (by omega) (by omega)]
        have HSB := Aside0.mk hsub
        clear hsub
        go_wp2
        go_quiet (fail)
        go_wp2
        go_ret3
        exact post_of (code := c2) ((AllInv.err HN.out (by rw [← HRR.out]; exact hc2)).trans (by rw [← HRR.out])) (by (with_reducible repeat (first | apply Kd.R_alloc | apply Kd.R_drewN | apply Kd.R_drew)); exact HO1.out) (by repeat (first | (with_reducible first | exact HB1.out | apply below_alloc | apply pw_below_drewN | apply below_drew1) | exact HB1.out)) (by rw [HSB.out, HPP.out])
end Go.Proofs.Ytmejmlohinjpdaa.Sc
