/- option: OptionRefuses, the walk. -/
import Derived.Test.YtaabojppahcejaaMg
import Derived.Deep.CutBlock
import Derived.Deep.RegionHeld3
namespace Go.Proofs.Ytaabojppahcejaa.Op
open Go.RowKit Go.Proofs.YtaabojppahcejaaW.PrintWords Go.Proofs.YtaabojppahcejaaW.PrintLast Go.Proofs.YtaabojppahcejaaW.PrintMore Go.Proofs.Ytaabojppahcejaa.POp
set_option linter.unusedVariables false
set_option linter.unusedSimpArgs false
/-- What isn't agreed to is off. -/
def Off (S : Nat → Nat → Int) (A : Nat → Nat → Bool) : Prop := ∀ i n, i < 2 → n < 256 → A i n = false → S i n = 0
def MOff (W : World) (g : Nat) (A : Nat → Nat → Bool) : Prop := ∃ S, MIs W g S A ∧ Rng S ∧ Off S A
theorem off_put {S : Nat → Nat → Int} {A : Nat → Nat → Bool} (h : Off S A) (i n : Nat) {x : Int} (hx : A i n = false → x = 0) : Off (put S i n x) A := by
  intro j m hj hm ha
  unfold put
  by_cases c : j = i ∧ m = n
  · obtain ⟨rfl, rfl⟩ := c
    rw [if_pos ⟨rfl, rfl⟩]; exact hx ha
  · rw [if_neg c]; exact h j m hj hm ha
theorem MOff.drewN {W : World} {g : Nat} {A : Nat → Nat → Bool} (h : MOff W g A) (m : Nat) : MOff (W.drewN m) g A := by
  obtain ⟨S, h1, h2⟩ := h
  exact ⟨S, h1.drN m, h2⟩
theorem MOff.dr1 {W : World} {g : Nat} {A : Nat → Nat → Bool} (h : MOff W g A) : MOff W.drew g A := by
  obtain ⟨S, h1, h2⟩ := h
  exact ⟨S, h1.dr1, h2⟩
theorem MOff.al {W : World} {g : Nat} {A : Nat → Nat → Bool} (h : MOff W g A) (o : Obj) : MOff (W.alloc o) g A := by
  obtain ⟨S, h1, h2⟩ := h
  exact ⟨S, h1.al o, h2⟩
theorem u8_rng {x : Int} (h : (Lit.int .u8 x).wf = true) : 0 ≤ x ∧ x ≤ 255 := by
  simp only [Lit.wf, IntKind.min, IntKind.max, IntKind.signed, IntKind.bits, Bool.and_eq_true, decide_eq_true_eq] at h
  simp at h
  omega

theorem take_rng {l : List Int} (h : ∀ x ∈ l, (Lit.int .u8 x).wf = true) (m : Nat) : ∀ x ∈ l.take m, 0 ≤ x ∧ x ≤ 255 := fun x hx => u8_rng (h x (List.mem_of_mem_take hx))
set_option maxHeartbeats 4000000 in
set_option maxRecDepth 100000 in
theorem refuses_walk (A0 : Option Addr) (c0 : Nat) (l0 : List Int) (A1 : Option Addr) (c1 : Nat) (l1 : List Int) (A2 : Option Addr) (c2 : Nat) (l2 : List S29) (w : World)
    (h0 : Kd.C (Kd.int .u8) w A0 l0.length l0) (hc0 : l0.length ≤ c0) (ok0 : l0.length ≤ maxLen ∧ ∀ x ∈ l0, (Lit.int .u8 x).wf = true)
    (h1 : Kd.C (Kd.int .u8) w A1 l1.length l1) (hc1 : l1.length ≤ c1) (ok1 : l1.length ≤ maxLen ∧ ∀ x ∈ l1, (Lit.int .u8 x).wf = true)
    (h2 : Kd.C k29 w A2 l2.length l2) (hc2 : l2.length ≤ c2) (ok2 : l2.length ≤ maxLen ∧ ∀ x ∈ l2, True ∧ (Lit.int .u8 x.v).wf = true ∧ (Lit.int .u8 x.o).wf = true ∧ (Lit.int .i64 x.s).wf = true ∧ True) :
    Calls Try.prog 3 #[.slice A0 l0.length c0, .slice A1 l1.length c1, .slice A2 l2.length c2] w fun e w' => e = .returned (.bool true) ∧ Below w.heap.size w w' := by
  have H0 := Aside0.mk h0
  have H1 := Aside0.mk h1
  have H2 := Aside0.mk h2
  have K0 := Aside0.mk ok0
  have K1 := Aside0.mk ok1
  have K2 := Aside0.mk ok2
  clear h0 h1 h2 ok0 ok1 ok2
  go_enter Try.func3, Try.ntmps3
  go_wp2_with fail
  refine (awake_of _).mono ?_
  rintro e w1 ⟨rfl, hb⟩
  have B1 := Aside0.mk hb
  clear hb
  go_wp2_with fail
  refine (cut_of 20 (by decide) A0 c0 l0 _ (Kd.C_below H0.out B1.out) hc0).mono ?_
  rintro e w2 ⟨us, A3, c3, rfl, hus, hc3, h3, hf3, hb⟩
  have B2 := Aside0.mk (B1.out.trans (hb.mono (below_size B1.out)))
  have H3 := Aside0.mk h3
  have F3 := Aside0.mk hf3
  clear hb h3 hf3 H0
  go_wp2_with fail
  refine (cut_of 20 (by decide) A1 c1 l1 _ (Kd.C_below H1.out B2.out) hc1).mono ?_
  rintro e w3 ⟨him, A4, c4, rfl, hhim, hc4, h4, hf4, hb⟩
  have B3 := Aside0.mk (B2.out.trans (hb.mono (below_size B2.out)))
  have H3' := Aside0.mk (Kd.C_below H3.out hb)
  have H4 := Aside0.mk h4
  have F4 := Aside0.mk hf4
  have hs23 := hb.size
  clear hb h4 hf4 H1 H3
  have hb1 := Aside0.mk (by rw [hus.out]; exact take_rng K0.out.2 20 : ∀ x ∈ us, 0 ≤ x ∧ x ≤ 255)
  have hb2 := Aside0.mk (by rw [hhim.out]; exact take_rng K1.out.2 20 : ∀ x ∈ him, 0 ≤ x ∧ x ≤ 255)
  have hl3 : us.length ≤ 20 := by rw [hus.out, List.length_take]; omega
  have hl4 : him.length ≤ 20 := by rw [hhim.out, List.length_take]; omega
  clear hus hhim K0 K1
  go_wp2_with fail
  refine (new_of A3 c3 us A4 c4 him _ H3'.out hc3 H4.out hc4 hb1.out hb2.out (by omega) (by omega)).mono ?_
  rintro e w4 ⟨g, rfl, hg, hm, hb⟩
  have B4 := Aside0.mk (B3.out.trans (hb.mono (below_size B3.out)))
  have H3 := Aside0.mk (Kd.C_below H3'.out hb)
  have H5 := Aside0.mk (Kd.C_below H4.out hb)
  have HF3 := Aside0.mk (fun ad ha hp => (by have := (F3.out ad ha hp).2; omega) : ∀ ad, A3 = some ad → 0 < us.length → ad.block ≠ g)
  have HF4 := Aside0.mk (fun ad ha hp => (by have := (F4.out ad ha hp).2; omega) : ∀ ad, A4 = some ad → 0 < him.length → ad.block ≠ g)
  have hgw : w.heap.size ≤ g := Nat.le_trans (below_size B3.out) hg
  have M := Aside0.mk (⟨_, hm, rng0, fun _ _ _ _ _ => rfl⟩ : MOff w4 g (agL us him))
  clear hb hm F3 F4 H3' H4 B1 B2 B3 hg hs23 hb1 hb2
  go_wp2_with fail
  have hl2 : l2.length ≤ 9223372036854775807 := by have := K2.out.1; unfold maxLen at this; omega
  go_loopw [26] (fun v wr => ∃ k : Nat, k ≤ l2.length ∧ v = .int .i64 (k : Int) ∧ Aside0 (MOff wr g (agL us him)) ∧ Aside0 (Kd.C (Kd.int .u8) wr A3 us.length us) ∧ Aside0 (Kd.C (Kd.int .u8) wr A4 him.length him) ∧ Aside0 (Below w.heap.size w wr)) (fun v _ => l2.length - (intOf v).toNat)
  case atStart => exact ⟨0, by omega, rfl, M, H3, H5, B4⟩
  case round =>
    clear M H3 H5 B4
    obtain ⟨k, hk, rfl, M, H3, H5, HB⟩ := hrel
    by_cases c : k < l2.length
    · have cb : decide ((k : Int) < (l2.length : Int)) = true := decide_eq_true (by omega)
      obtain ⟨ad, e1, x0, x1, x2, x3, x4⟩ := at_29 (Kd.C_below H2.out HB.out) (k : Int) (by omega) (by omega)
      cases e1
      simp only [Int.toNat_natCast] at x0 x1 x2 x3 x4
      have hx := Aside0.mk (K2.out.2 (l2.getD k z29) (by rw [List.getD_eq_getElem?_getD, List.getElem?_eq_getElem c]; exact List.getElem_mem c))
      generalize l2.getD k z29 = x at *
      obtain ⟨xh, xv, xo, xs, xt⟩ := x
      dsimp only at x0 x1 x2 x3 x4 hx
      have p0 : (0 ≤ (k : Int)) = True := eq_true (by omega)
      have q0 : ((k : Int) < (l2.length : Int)) = True := eq_true (by omega)
      have hw : wrap64 ((k : Int) + 1) = ((k + 1 : Nat) : Int) := by rw [wrap_in _ (by omega) (by omega)]; omega
      by_cases c60 : (k : Int) ≥ 60
      · have c60b : decide ((k : Int) ≥ 60) = true := decide_eq_true c60
        clear c60
        go_wp2
        go_ret
        exact ⟨rfl, by repeat (first | (with_reducible first | exact HB.out | apply below_alloc | apply pw_below_drewN | apply below_drew1) | exact HB.out)⟩
      · have c60b : decide ((k : Int) ≥ 60) = false := decide_eq_false c60
        clear c60
        -- BEGIN ROUND
        obtain ⟨S, hm, hr, ho⟩ := M.out
        obtain ⟨n, hn, hxn⟩ : ∃ n : Nat, n < 256 ∧ xo = (n : Int) := by
          have := u8_rng hx.out.2.2.1
          exact ⟨xo.toNat, by omega, by omega⟩
        subst hxn
        have hne : wr.heap.size ≠ g := by have := hm.lt; omega
        have hmm := Aside0.mk hm
        have MA := Aside0.mk (hm.below (below_alloc (Below.refl wr.heap.size wr) (.cells #[.bool xh, .int .u8 xv, .int .u8 (n : Int), .int .i64 xs, .bool xt] 29)))
        have BX := Aside0.mk (blk_new wr (.cells #[.bool xh, .int .u8 xv, .int .u8 (n : Int), .int .i64 xs, .bool xt] 29))
        have HR := Aside0.mk hr
        have HO := Aside0.mk ho
        have HBa := Aside0.mk (below_alloc HB.out (.cells #[.bool xh, .int .u8 xv, .int .u8 (n : Int), .int .i64 xs, .bool xt] 29))
        have H3a := Aside0.mk (Kd.C_alloc H3.out (.cells #[.bool xh, .int .u8 xv, .int .u8 (n : Int), .int .i64 xs, .bool xt] 29))
        have H5a := Aside0.mk (Kd.C_alloc H5.out (.cells #[.bool xh, .int .u8 xv, .int .u8 (n : Int), .int .i64 xs, .bool xt] 29))
        have hk1 := Aside0.mk c
        clear hm hr ho M H3 H5 hx c
        by_cases c251 : xv = 251
        · subst c251
          by_cases ca : him.contains (n : Int) = true
          · have HC := Aside0.mk ca
            clear ca
            go_wp2_with fail
            refine (hear_will g n hn S _ _ MA.out).mono ?_
            rintro e w5 ⟨u, rfl, hu, hm, hk, hb⟩
            have M := Aside0.mk (⟨_, hm, put_rng HR.out _ n (hOn_rng _ _), off_put HO.out 1 n (fun h => by have h' : him.contains (n : Int) = false := h; rw [HC.out] at h'; cases h')⟩ : MOff w5 g (agL us him))
            have H3 := Aside0.mk (Ckeep H3a.out hk HF3.out)
            have H5 := Aside0.mk (Ckeep H5a.out hk HF4.out)
            have HB := Aside0.mk (HBa.out.trans (hb.mono hgw))
            have b1 := keep_cell hk ((blk_cell BX.out 1).trans rfl) hne
            have b2 := keep_cell hk ((blk_cell BX.out 2).trans rfl) hne
            clear hu hm hk hb MA BX HR HO HBa H3a H5a
            go_wp2_with fail
            have hC := contains_of A4 c4 him (n : Int) w5 (by omega) H5.out hc4
            rw [HC.out] at hC
            refine hC.mono ?_
            clear hC
            rintro e w6 ⟨rfl, m, rfl⟩
            go_wp2_with fail
            go_roundw
            case rel => exact ⟨k + 1, Nat.succ_le_of_lt hk1.out, next_i hk1.out hl2, ⟨MOff.drewN M.out m⟩, ⟨Kd.C_drewN H3.out m⟩, ⟨Kd.C_drewN H5.out m⟩, ⟨pw_below_drewN HB.out m⟩⟩
            case measure => exact meas hk1.out hl2
          · have cf : him.contains (n : Int) = false := Bool.eq_false_iff.2 ca
            have HC := Aside0.mk cf
            have hS := HO.out 1 n (by decide) hn cf
            clear ca cf
            go_wp2_with fail
            refine (hear_will g n hn S _ _ MA.out).mono ?_
            rintro e w5 ⟨u, rfl, hu, hm, hk, hb⟩
            have he : (hOn (S 1 n) (agL us him 1 n)) = (0, 1) := by rw [hS, show agL us him 1 n = false from HC.out]; rfl
            rw [he] at hu hm
            have hO' := off_put HO.out 1 n (x := 0) (fun _ => rfl)
            have hR' := put_rng HR.out 1 n (x := 0) (by decide)
            have M1 := Aside0.mk hm
            have M := Aside0.mk (⟨_, hm, hR', hO'⟩ : MOff w5 g (agL us him))
            have H3 := Aside0.mk (Ckeep H3a.out hk HF3.out)
            have H5 := Aside0.mk (Ckeep H5a.out hk HF4.out)
            have HB := Aside0.mk (HBa.out.trans (hb.mono hgw))
            have b1 := keep_cell hk ((blk_cell BX.out 1).trans rfl) hne
            have b2 := keep_cell hk ((blk_cell BX.out 2).trans rfl) hne
            obtain ⟨gu, cu, rfl, y0, y1, hgu, hgl⟩ := row_one (x := 254) (y := (n : Int)) hu
            clear hu hm hk hb MA BX HO HBa H3a H5a hS he hO'
            go_wp2_with fail
            have hC := contains_of A4 c4 him (n : Int) w5 (by omega) H5.out hc4
            rw [HC.out] at hC
            refine hC.mono ?_
            clear hC
            rintro e w6 ⟨rfl, m, rfl⟩
            have ON : ∀ W : World, MIs W g (put S 1 n 0) (agL us him) → Calls Try.prog 13 #[.pointer (some ⟨g, 0, none⟩), .int .i64 1, .int .u8 (n : Int)] W fun e w' => e = .returned (.bool false) ∧ ∃ m, w' = W.drewN m := by
              intro W h
              exact on_lit1 g n hn _ _ W h hR' false (by simp [put])
            have HON := Aside0.mk ON
            clear ON hR'
            have M1d := Aside0.mk (M1.out.drN m)
            clear M1
            have hn1 : ∀ q : Nat, ((w5.drewN q).alloc (.cells #[.int .u8 252, .int .u8 254] 5)).cell? ⟨w5.heap.size, 1, none⟩ = some (.int .u8 254) := fun q => blk_cell (blk_new (w5.drewN q) (.cells #[.int .u8 252, .int .u8 254] 5)) 1
            go_wp2
            refine start_ (n := 26) (S := fun w' => w'.cell? ⟨wr.heap.size, 2, none⟩ = some (.int .u8 (n : Int)) ∧ w'.cell? ⟨gu, 0, none⟩ = some (.int .u8 254)) (ds := []) #[false, false, false, false, false, false, false, false, false, false, false, false, false, false, false, false, false, false, false, false, false, false, false, false, false, false] (by kernel_rfl) rfl rfl ⟨cell_dr1 (cell_drN m b2), cell_dr1 (cell_drN m y0)⟩ (fun hHeld => ?_)
            refine pure_ (i := 0) (N := some 63) (v := ?_) (a' := ?_) #[true, false, false, false, false, false, false, false, false, false, false, false, false, false, false, false, false, false, false, false, false, false, false, false, false, false] rfl rfl (by kernel_rfl) (fun _ _ _ h => h) (Or.inl ⟨by rfl, ?_⟩) ?_ ?_
            rotate_left
            · intro w'
              go_simp
              with_reducible rfl
            rotate_left
            · simp only [Act.put, List.setIfInBounds_toArray, List.set_cons_zero, List.set_cons_succ, i64_w, i32_w]
              rfl
            refine pure_ (i := 1) (N := some 64) (v := ?_) (a' := ?_) #[true, true, false, false, false, false, false, false, false, false, false, false, false, false, false, false, false, false, false, false, false, false, false, false, false, false] rfl rfl (by kernel_rfl) (fun _ _ _ h => h) (Or.inl ⟨by rfl, ?_⟩) ?_ ?_
            rotate_left
            · intro w'
              go_simp
              with_reducible rfl
            rotate_left
            · simp only [Act.put, List.setIfInBounds_toArray, List.set_cons_zero, List.set_cons_succ, i64_w, i32_w]
              rfl
            refine pure_ (i := 2) (N := some 65) (v := ?_) (a' := ?_) #[true, true, true, false, false, false, false, false, false, false, false, false, false, false, false, false, false, false, false, false, false, false, false, false, false, false] rfl rfl (by kernel_rfl) (fun _ _ _ h => h) (Or.inl ⟨by rfl, ?_⟩) ?_ ?_
            rotate_left
            · intro w'
              go_simp
              with_reducible rfl
            rotate_left
            · simp only [Act.put, List.setIfInBounds_toArray, List.set_cons_zero, List.set_cons_succ, i64_w, i32_w]
              rfl
            refine take_ (i := 3) (N := some 66) (v := ?_) (a' := ?_) #[true, true, true, true, false, false, false, false, false, false, false, false, false, false, false, false, false, false, false, false, false, false, false, false, false, false] rfl rfl (by kernel_rfl) (fun _ _ _ h => h) (Or.inl ⟨by rfl, ?_⟩) hHeld ?_ ?_
            rotate_left
            · rintro w' ⟨s0, s1⟩
              go_simp
              with_reducible rfl
            rotate_left
            · simp only [Act.put, List.setIfInBounds_toArray, List.set_cons_zero, List.set_cons_succ, i64_w, i32_w]
              rfl
            refine one_ (i := 4) (N := some 67) #[true, true, true, true, true, false, false, false, false, false, false, false, false, false, false, false, false, false, false, false, false, false, false, false, false, false] rfl rfl (by kernel_rfl) (by decide) (fun K hK => ?_)
            refine goes_ Try.func13 (by kernel_rfl) rfl #[.pointer (some ⟨g, 0, none⟩), .int .i64 1, .int .u8 (n : Int)] (by rfl) rfl rfl (by simp only [List.map_toArray, List.map_cons, List.map_nil]; rfl) ?_
            with_reducible refine (HON.out _ (MIs.dr1 M1d.out)).mono ?_
            rintro e w7 ⟨rfl, m7, rfl⟩
            refine ⟨_, rfl, ?_⟩
            refine hK.out _ _ ⟨cell_drN m7 hHeld.1, cell_drN m7 hHeld.2⟩ (fun hHeld => ?_)
            clear hK K
            refine norm_ (a' := ?_) ?_ ?_
            rotate_left
            · show Act.put _ (some 67) _ = _
              simp only [Act.put, List.setIfInBounds_toArray, List.set_cons_zero, List.set_cons_succ, i64_w, i32_w]
              rfl
            refine pure_ (i := 5) (N := some 68) (v := ?_) (a' := ?_) #[true, true, true, true, true, true, false, false, false, false, false, false, false, false, false, false, false, false, false, false, false, false, false, false, false, false] rfl rfl (by kernel_rfl) (fun _ _ _ h => h) (Or.inl ⟨by rfl, ?_⟩) ?_ ?_
            rotate_left
            · intro w'
              go_simp
              with_reducible rfl
            rotate_left
            · simp only [Act.put, List.setIfInBounds_toArray, List.set_cons_zero, List.set_cons_succ, i64_w, i32_w]
              rfl
            refine pure_ (i := 6) (N := some 69) (v := ?_) (a' := ?_) #[true, true, true, true, true, true, true, false, false, false, false, false, false, false, false, false, false, false, false, false, false, false, false, false, false, false] rfl rfl (by kernel_rfl) (fun _ _ _ h => h) (Or.inl ⟨by rfl, ?_⟩) ?_ ?_
            rotate_left
            · intro w'
              go_simp
              with_reducible rfl
            rotate_left
            · simp only [Act.put, List.setIfInBounds_toArray, List.set_cons_zero, List.set_cons_succ, i64_w, i32_w]
              rfl
            refine pure_ (i := 7) (N := some 70) (v := ?_) (a' := ?_) #[true, true, true, true, true, true, true, true, false, false, false, false, false, false, false, false, false, false, false, false, false, false, false, false, false, false] rfl rfl (by kernel_rfl) (fun _ _ _ h => h) (Or.inl ⟨by rfl, ?_⟩) ?_ ?_
            rotate_left
            · intro w'
              go_simp
              with_reducible rfl
            rotate_left
            · simp only [Act.put, List.setIfInBounds_toArray, List.set_cons_zero, List.set_cons_succ, i64_w, i32_w]
              rfl
            refine pure_ (i := 8) (N := some 71) (v := ?_) (a' := ?_) #[true, true, true, true, true, true, true, true, true, false, false, false, false, false, false, false, false, false, false, false, false, false, false, false, false, false] rfl rfl (by kernel_rfl) (fun _ _ _ h => h) (Or.inl ⟨by rfl, ?_⟩) ?_ ?_
            rotate_left
            · intro w'
              go_simp
              with_reducible rfl
            rotate_left
            · simp only [Act.put, List.setIfInBounds_toArray, List.set_cons_zero, List.set_cons_succ, i64_w, i32_w]
              rfl
            refine pure_ (i := 9) (N := some 72) (v := ?_) (a' := ?_) #[true, true, true, true, true, true, true, true, true, true, false, false, false, false, false, false, false, false, false, false, false, false, false, false, false, false] rfl rfl (by kernel_rfl) (fun _ _ _ h => h) (Or.inl ⟨by rfl, ?_⟩) ?_ ?_
            rotate_left
            · intro w'
              go_simp
              with_reducible rfl
            rotate_left
            · simp only [Act.put, List.setIfInBounds_toArray, List.set_cons_zero, List.set_cons_succ, i64_w, i32_w]
              rfl
            refine pure_ (i := 10) (N := some 73) (v := ?_) (a' := ?_) #[true, true, true, true, true, true, true, true, true, true, true, false, false, false, false, false, false, false, false, false, false, false, false, false, false, false] rfl rfl (by kernel_rfl) (fun _ _ _ h => h) (Or.inl ⟨by rfl, ?_⟩) ?_ ?_
            rotate_left
            · intro w'
              go_simp
              with_reducible rfl
            rotate_left
            · simp only [Act.put, List.setIfInBounds_toArray, List.set_cons_zero, List.set_cons_succ, i64_w, i32_w]
              rfl
            refine pure_ (i := 11) (N := some 74) (v := ?_) (a' := ?_) #[true, true, true, true, true, true, true, true, true, true, true, true, false, false, false, false, false, false, false, false, false, false, false, false, false, false] rfl rfl (by kernel_rfl) (fun _ _ _ h => h) (Or.inl ⟨by rfl, ?_⟩) ?_ ?_
            rotate_left
            · intro w'
              go_simp
              with_reducible rfl
            rotate_left
            · simp only [Act.put, List.setIfInBounds_toArray, List.set_cons_zero, List.set_cons_succ, i64_w, i32_w]
              rfl
            refine pure_ (i := 12) (N := some 75) (v := ?_) (a' := ?_) #[true, true, true, true, true, true, true, true, true, true, true, true, true, false, false, false, false, false, false, false, false, false, false, false, false, false] rfl rfl (by kernel_rfl) (fun _ _ _ h => h) (Or.inl ⟨by rfl, ?_⟩) ?_ ?_
            rotate_left
            · intro w'
              go_simp
              with_reducible rfl
            rotate_left
            · simp only [Act.put, List.setIfInBounds_toArray, List.set_cons_zero, List.set_cons_succ, i64_w, i32_w]
              rfl
            refine pure_ (i := 13) (N := some 76) (v := ?_) (a' := ?_) #[true, true, true, true, true, true, true, true, true, true, true, true, true, true, false, false, false, false, false, false, false, false, false, false, false, false] rfl rfl (by kernel_rfl) (fun _ _ _ h => h) (Or.inl ⟨by rfl, ?_⟩) ?_ ?_
            rotate_left
            · intro w'
              go_simp
              with_reducible rfl
            rotate_left
            · simp only [Act.put, List.setIfInBounds_toArray, List.set_cons_zero, List.set_cons_succ, i64_w, i32_w]
              rfl
            refine pure_ (i := 14) (N := some 77) (v := ?_) (a' := ?_) #[true, true, true, true, true, true, true, true, true, true, true, true, true, true, true, false, false, false, false, false, false, false, false, false, false, false] rfl rfl (by kernel_rfl) (fun _ _ _ h => h) (Or.inl ⟨by rfl, ?_⟩) ?_ ?_
            rotate_left
            · intro w'
              go_simp
              with_reducible rfl
            rotate_left
            · simp only [Act.put, List.setIfInBounds_toArray, List.set_cons_zero, List.set_cons_succ, i64_w, i32_w]
              rfl
            refine pure_ (i := 15) (N := some 78) (v := ?_) (a' := ?_) #[true, true, true, true, true, true, true, true, true, true, true, true, true, true, true, true, false, false, false, false, false, false, false, false, false, false] rfl rfl (by kernel_rfl) (fun _ _ _ h => h) (Or.inl ⟨by rfl, ?_⟩) ?_ ?_
            rotate_left
            · intro w'
              go_simp
              with_reducible rfl
            rotate_left
            · simp only [Act.put, List.setIfInBounds_toArray, List.set_cons_zero, List.set_cons_succ, i64_w, i32_w]
              rfl
            refine pure_ (i := 16) (N := some 79) (v := ?_) (a' := ?_) #[true, true, true, true, true, true, true, true, true, true, true, true, true, true, true, true, true, false, false, false, false, false, false, false, false, false] rfl rfl (by kernel_rfl) (fun _ _ _ h => h) (Or.inl ⟨by rfl, ?_⟩) ?_ ?_
            rotate_left
            · intro w'
              go_simp
              with_reducible rfl
            rotate_left
            · simp only [Act.put, List.setIfInBounds_toArray, List.set_cons_zero, List.set_cons_succ, i64_w, i32_w]
              rfl
            refine pure_ (i := 17) (N := some 80) (v := ?_) (a' := ?_) #[true, true, true, true, true, true, true, true, true, true, true, true, true, true, true, true, true, true, false, false, false, false, false, false, false, false] rfl rfl (by kernel_rfl) (fun _ _ _ h => h) (Or.inl ⟨by rfl, ?_⟩) ?_ ?_
            rotate_left
            · intro w'
              go_simp
              with_reducible rfl
            rotate_left
            · simp only [Act.put, List.setIfInBounds_toArray, List.set_cons_zero, List.set_cons_succ, i64_w, i32_w]
              rfl
            refine pure_ (i := 20) (N := some 83) (v := ?_) (a' := ?_) #[true, true, true, true, true, true, true, true, true, true, true, true, true, true, true, true, true, true, false, false, true, false, false, false, false, false] rfl rfl (by kernel_rfl) (fun _ _ _ h => h) (Or.inl ⟨by rfl, ?_⟩) ?_ ?_
            rotate_left
            · intro w'
              go_simp
              with_reducible rfl
            rotate_left
            · simp only [Act.put, List.setIfInBounds_toArray, List.set_cons_zero, List.set_cons_succ, i64_w, i32_w]
              rfl
            refine take_ (i := 18) (N := some 81) (v := ?_) (a' := ?_) #[true, true, true, true, true, true, true, true, true, true, true, true, true, true, true, true, true, true, true, false, true, false, false, false, false, false] rfl rfl (by kernel_rfl) (fun _ _ _ h => h) (Or.inl ⟨by rfl, ?_⟩) hHeld ?_ ?_
            rotate_left
            · rintro w' ⟨s0, s1⟩
              go_simp
              with_reducible rfl
            rotate_left
            · simp only [Act.put, List.setIfInBounds_toArray, List.set_cons_zero, List.set_cons_succ, i64_w, i32_w]
              rfl
            refine one_ (i := 19) (N := some 82) #[true, true, true, true, true, true, true, true, true, true, true, true, true, true, true, true, true, true, true, true, true, false, false, false, false, false] rfl rfl (by kernel_rfl) (by decide) (fun K hK => ?_)
            refine value_ (w1 := ?_) (v := ?_) (by rfl) rfl ?_ ?_
            rotate_left 2
            · go_simp
              constructor
              · rfl
              · rfl
            refine hK.out _ _ ⟨cell_al _ hHeld.1, cell_al _ hHeld.2⟩ (fun hHeld => ?_)
            clear hK K
            refine norm_ (a' := ?_) ?_ ?_
            rotate_left
            · show Act.put _ (some 82) _ = _
              simp only [Act.put, List.setIfInBounds_toArray, List.set_cons_zero, List.set_cons_succ, i64_w, i32_w]
              rfl
            refine pure_ (i := 21) (N := some 84) (v := ?_) (a' := ?_) #[true, true, true, true, true, true, true, true, true, true, true, true, true, true, true, true, true, true, true, true, true, true, false, false, false, false] rfl rfl (by kernel_rfl) (fun _ _ _ h => h) (Or.inl ⟨by rfl, ?_⟩) ?_ ?_
            rotate_left
            · intro w'
              go_simp
              with_reducible rfl
            rotate_left
            · simp only [Act.put, List.setIfInBounds_toArray, List.set_cons_zero, List.set_cons_succ, i64_w, i32_w]
              rfl
            refine one_ (i := 22) (N := some 85) #[true, true, true, true, true, true, true, true, true, true, true, true, true, true, true, true, true, true, true, true, true, true, true, false, false, false] rfl rfl (by kernel_rfl) (by decide) (fun K hK => ?_)
            refine value_ (w1 := ?_) (v := ?_) (by rfl) rfl ?_ ?_
            rotate_left 2
            · go_simp
              constructor
              · rfl
              · rfl
            refine hK.out _ _ ⟨hHeld.1, hHeld.2⟩ (fun hHeld => ?_)
            clear hK K
            refine norm_ (a' := ?_) ?_ ?_
            rotate_left
            · show Act.put _ (some 85) _ = _
              simp only [Act.put, List.setIfInBounds_toArray, List.set_cons_zero, List.set_cons_succ, i64_w, i32_w]
              rfl
            refine pure_ (i := 23) (N := some 86) (v := ?_) (a' := ?_) #[true, true, true, true, true, true, true, true, true, true, true, true, true, true, true, true, true, true, true, true, true, true, true, true, false, false] rfl rfl (by kernel_rfl) (fun _ _ _ h => h) (Or.inl ⟨by rfl, ?_⟩) ?_ ?_
            rotate_left
            · intro w'
              go_simp
              with_reducible rfl
            rotate_left
            · simp only [Act.put, List.setIfInBounds_toArray, List.set_cons_zero, List.set_cons_succ, i64_w, i32_w]
              rfl
            refine pure_ (i := 24) (N := some 87) (v := ?_) (a' := ?_) #[true, true, true, true, true, true, true, true, true, true, true, true, true, true, true, true, true, true, true, true, true, true, true, true, true, false] rfl rfl (by kernel_rfl) (fun _ _ _ h => h) (Or.inl ⟨by rfl, ?_⟩) ?_ ?_
            rotate_left
            · intro w'
              go_simp
              with_reducible rfl
            rotate_left
            · simp only [Act.put, List.setIfInBounds_toArray, List.set_cons_zero, List.set_cons_succ, i64_w, i32_w]
              rfl
            refine pure_ (i := 25) (N := some 88) (v := ?_) (a' := ?_) #[true, true, true, true, true, true, true, true, true, true, true, true, true, true, true, true, true, true, true, true, true, true, true, true, true, true] rfl rfl (by kernel_rfl) (fun _ _ _ h => h) (Or.inl ⟨by rfl, ?_⟩) ?_ ?_
            rotate_left
            · intro w'
              go_simp
              with_reducible rfl
            rotate_left
            · simp only [Act.put, List.setIfInBounds_toArray, List.set_cons_zero, List.set_cons_succ, i64_w, i32_w]
              rfl
            refine done_ (by kernel_rfl) ?_
            go_wp2
            go_roundw
            case rel => exact ⟨k + 1, Nat.succ_le_of_lt hk1.out, next_i hk1.out hl2, ⟨by (with_reducible repeat (first | apply MOff.al | apply MOff.drewN | apply MOff.dr1)); exact M.out⟩, ⟨by (with_reducible repeat (first | apply Kd.C_alloc | apply Kd.C_drewN | apply Kd.C_drew)); exact H3.out⟩, ⟨by (with_reducible repeat (first | apply Kd.C_alloc | apply Kd.C_drewN | apply Kd.C_drew)); exact H5.out⟩, ⟨by repeat (first | (with_reducible first | exact HB.out | apply below_alloc | apply pw_below_drewN | apply below_drew1) | exact HB.out)⟩⟩
            case measure => exact meas hk1.out hl2
        by_cases c252 : xv = 252
        · subst c252
          by_cases ca : him.contains (n : Int) = true
          · have HC := Aside0.mk ca
            clear ca
            go_wp2_with fail
            refine (hear_wont g n hn S _ _ MA.out).mono ?_
            rintro e w5 ⟨u, rfl, hu, hm, hk, hb⟩
            have M := Aside0.mk (⟨_, hm, put_rng HR.out _ n (hOff_rng _), off_put HO.out 1 n (fun h => by have h' : him.contains (n : Int) = false := h; rw [HC.out] at h'; cases h')⟩ : MOff w5 g (agL us him))
            have H3 := Aside0.mk (Ckeep H3a.out hk HF3.out)
            have H5 := Aside0.mk (Ckeep H5a.out hk HF4.out)
            have HB := Aside0.mk (HBa.out.trans (hb.mono hgw))
            have b1 := keep_cell hk ((blk_cell BX.out 1).trans rfl) hne
            have b2 := keep_cell hk ((blk_cell BX.out 2).trans rfl) hne
            clear hu hm hk hb MA BX HR HO HBa H3a H5a
            go_wp2_with fail
            have hC := contains_of A4 c4 him (n : Int) w5 (by omega) H5.out hc4
            rw [HC.out] at hC
            refine hC.mono ?_
            clear hC
            rintro e w6 ⟨rfl, m, rfl⟩
            go_wp2_with fail
            go_roundw
            case rel => exact ⟨k + 1, Nat.succ_le_of_lt hk1.out, next_i hk1.out hl2, ⟨MOff.drewN M.out m⟩, ⟨Kd.C_drewN H3.out m⟩, ⟨Kd.C_drewN H5.out m⟩, ⟨pw_below_drewN HB.out m⟩⟩
            case measure => exact meas hk1.out hl2
          · have cf : him.contains (n : Int) = false := Bool.eq_false_iff.2 ca
            have HC := Aside0.mk cf
            have hS := HO.out 1 n (by decide) hn cf
            clear ca cf
            go_wp2_with fail
            refine (hear_wont g n hn S _ _ MA.out).mono ?_
            rintro e w5 ⟨u, rfl, hu, hm, hk, hb⟩
            have he : (hOff (S 1 n)) = (0, 0) := by rw [hS]; rfl
            rw [he] at hu hm
            have hO' := off_put HO.out 1 n (x := 0) (fun _ => rfl)
            have hR' := put_rng HR.out 1 n (x := 0) (by decide)
            have M1 := Aside0.mk hm
            have M := Aside0.mk (⟨_, hm, hR', hO'⟩ : MOff w5 g (agL us him))
            have H3 := Aside0.mk (Ckeep H3a.out hk HF3.out)
            have H5 := Aside0.mk (Ckeep H5a.out hk HF4.out)
            have HB := Aside0.mk (HBa.out.trans (hb.mono hgw))
            have b1 := keep_cell hk ((blk_cell BX.out 1).trans rfl) hne
            have b2 := keep_cell hk ((blk_cell BX.out 2).trans rfl) hne
            obtain ⟨gu, cu, rfl⟩ := row_zero hu
            clear hu hm hk hb MA BX HO HBa H3a H5a hS he hO'
            go_wp2_with fail
            have hC := contains_of A4 c4 him (n : Int) w5 (by omega) H5.out hc4
            rw [HC.out] at hC
            refine hC.mono ?_
            clear hC
            rintro e w6 ⟨rfl, m, rfl⟩
            have ON : ∀ W : World, MIs W g (put S 1 n 0) (agL us him) → Calls Try.prog 13 #[.pointer (some ⟨g, 0, none⟩), .int .i64 1, .int .u8 (n : Int)] W fun e w' => e = .returned (.bool false) ∧ ∃ m, w' = W.drewN m := by
              intro W h
              exact on_lit1 g n hn _ _ W h hR' false (by simp [put])
            have HON := Aside0.mk ON
            clear ON hR'
            have M1d := Aside0.mk (M1.out.drN m)
            clear M1
            have hn1 : ∀ q : Nat, ((w5.drewN q).alloc (.cells #[.int .u8 252, .int .u8 254] 5)).cell? ⟨w5.heap.size, 1, none⟩ = some (.int .u8 254) := fun q => blk_cell (blk_new (w5.drewN q) (.cells #[.int .u8 252, .int .u8 254] 5)) 1
            go_wp2
            refine start_ (n := 26) (S := fun w' => w'.cell? ⟨wr.heap.size, 2, none⟩ = some (.int .u8 (n : Int))) (ds := []) #[false, false, false, false, false, false, false, false, false, false, false, false, false, false, false, false, false, false, false, false, false, false, false, false, false, false] (by kernel_rfl) rfl rfl (cell_dr1 (cell_drN m b2)) (fun hHeld => ?_)
            refine pure_ (i := 0) (N := some 63) (v := ?_) (a' := ?_) #[true, false, false, false, false, false, false, false, false, false, false, false, false, false, false, false, false, false, false, false, false, false, false, false, false, false] rfl rfl (by kernel_rfl) (fun _ _ _ h => h) (Or.inl ⟨by rfl, ?_⟩) ?_ ?_
            rotate_left
            · intro w'
              go_simp
              with_reducible rfl
            rotate_left
            · simp only [Act.put, List.setIfInBounds_toArray, List.set_cons_zero, List.set_cons_succ, i64_w, i32_w]
              rfl
            refine pure_ (i := 1) (N := some 64) (v := ?_) (a' := ?_) #[true, true, false, false, false, false, false, false, false, false, false, false, false, false, false, false, false, false, false, false, false, false, false, false, false, false] rfl rfl (by kernel_rfl) (fun _ _ _ h => h) (Or.inl ⟨by rfl, ?_⟩) ?_ ?_
            rotate_left
            · intro w'
              go_simp
              with_reducible rfl
            rotate_left
            · simp only [Act.put, List.setIfInBounds_toArray, List.set_cons_zero, List.set_cons_succ, i64_w, i32_w]
              rfl
            refine pure_ (i := 2) (N := some 65) (v := ?_) (a' := ?_) #[true, true, true, false, false, false, false, false, false, false, false, false, false, false, false, false, false, false, false, false, false, false, false, false, false, false] rfl rfl (by kernel_rfl) (fun _ _ _ h => h) (Or.inl ⟨by rfl, ?_⟩) ?_ ?_
            rotate_left
            · intro w'
              go_simp
              with_reducible rfl
            rotate_left
            · simp only [Act.put, List.setIfInBounds_toArray, List.set_cons_zero, List.set_cons_succ, i64_w, i32_w]
              rfl
            refine take_ (i := 3) (N := some 66) (v := ?_) (a' := ?_) #[true, true, true, true, false, false, false, false, false, false, false, false, false, false, false, false, false, false, false, false, false, false, false, false, false, false] rfl rfl (by kernel_rfl) (fun _ _ _ h => h) (Or.inl ⟨by rfl, ?_⟩) hHeld ?_ ?_
            rotate_left
            · intro w' s0
              go_simp
              with_reducible rfl
            rotate_left
            · simp only [Act.put, List.setIfInBounds_toArray, List.set_cons_zero, List.set_cons_succ, i64_w, i32_w]
              rfl
            refine one_ (i := 4) (N := some 67) #[true, true, true, true, true, false, false, false, false, false, false, false, false, false, false, false, false, false, false, false, false, false, false, false, false, false] rfl rfl (by kernel_rfl) (by decide) (fun K hK => ?_)
            refine goes_ Try.func13 (by kernel_rfl) rfl #[.pointer (some ⟨g, 0, none⟩), .int .i64 1, .int .u8 (n : Int)] (by rfl) rfl rfl (by simp only [List.map_toArray, List.map_cons, List.map_nil]; rfl) ?_
            with_reducible refine (HON.out _ (MIs.dr1 M1d.out)).mono ?_
            rintro e w7 ⟨rfl, m7, rfl⟩
            refine ⟨_, rfl, ?_⟩
            refine hK.out _ _ (cell_drN m7 hHeld) (fun hHeld => ?_)
            clear hK K
            refine norm_ (a' := ?_) ?_ ?_
            rotate_left
            · show Act.put _ (some 67) _ = _
              simp only [Act.put, List.setIfInBounds_toArray, List.set_cons_zero, List.set_cons_succ, i64_w, i32_w]
              rfl
            refine pure_ (i := 5) (N := some 68) (v := ?_) (a' := ?_) #[true, true, true, true, true, true, false, false, false, false, false, false, false, false, false, false, false, false, false, false, false, false, false, false, false, false] rfl rfl (by kernel_rfl) (fun _ _ _ h => h) (Or.inl ⟨by rfl, ?_⟩) ?_ ?_
            rotate_left
            · intro w'
              go_simp
              with_reducible rfl
            rotate_left
            · simp only [Act.put, List.setIfInBounds_toArray, List.set_cons_zero, List.set_cons_succ, i64_w, i32_w]
              rfl
            refine pure_ (i := 6) (N := some 69) (v := ?_) (a' := ?_) #[true, true, true, true, true, true, true, false, false, false, false, false, false, false, false, false, false, false, false, false, false, false, false, false, false, false] rfl rfl (by kernel_rfl) (fun _ _ _ h => h) (Or.inl ⟨by rfl, ?_⟩) ?_ ?_
            rotate_left
            · intro w'
              go_simp
              with_reducible rfl
            rotate_left
            · simp only [Act.put, List.setIfInBounds_toArray, List.set_cons_zero, List.set_cons_succ, i64_w, i32_w]
              rfl
            refine pure_ (i := 7) (N := some 70) (v := ?_) (a' := ?_) #[true, true, true, true, true, true, true, true, false, false, false, false, false, false, false, false, false, false, false, false, false, false, false, false, false, false] rfl rfl (by kernel_rfl) (fun _ _ _ h => h) (Or.inl ⟨by rfl, ?_⟩) ?_ ?_
            rotate_left
            · intro w'
              go_simp
              with_reducible rfl
            rotate_left
            · simp only [Act.put, List.setIfInBounds_toArray, List.set_cons_zero, List.set_cons_succ, i64_w, i32_w]
              rfl
            refine pure_ (i := 8) (N := some 71) (v := ?_) (a' := ?_) #[true, true, true, true, true, true, true, true, true, false, false, false, false, false, false, false, false, false, false, false, false, false, false, false, false, false] rfl rfl (by kernel_rfl) (fun _ _ _ h => h) (Or.inl ⟨by rfl, ?_⟩) ?_ ?_
            rotate_left
            · intro w'
              go_simp
              with_reducible rfl
            rotate_left
            · simp only [Act.put, List.setIfInBounds_toArray, List.set_cons_zero, List.set_cons_succ, i64_w, i32_w]
              rfl
            refine pure_ (i := 9) (N := some 72) (v := ?_) (a' := ?_) #[true, true, true, true, true, true, true, true, true, true, false, false, false, false, false, false, false, false, false, false, false, false, false, false, false, false] rfl rfl (by kernel_rfl) (fun _ _ _ h => h) (Or.inl ⟨by rfl, ?_⟩) ?_ ?_
            rotate_left
            · intro w'
              go_simp
              with_reducible rfl
            rotate_left
            · simp only [Act.put, List.setIfInBounds_toArray, List.set_cons_zero, List.set_cons_succ, i64_w, i32_w]
              rfl
            refine pure_ (i := 10) (N := some 73) (v := ?_) (a' := ?_) #[true, true, true, true, true, true, true, true, true, true, true, false, false, false, false, false, false, false, false, false, false, false, false, false, false, false] rfl rfl (by kernel_rfl) (fun _ _ _ h => h) (Or.inl ⟨by rfl, ?_⟩) ?_ ?_
            rotate_left
            · intro w'
              go_simp
              with_reducible rfl
            rotate_left
            · simp only [Act.put, List.setIfInBounds_toArray, List.set_cons_zero, List.set_cons_succ, i64_w, i32_w]
              rfl
            refine pure_ (i := 11) (N := some 74) (v := ?_) (a' := ?_) #[true, true, true, true, true, true, true, true, true, true, true, true, false, false, false, false, false, false, false, false, false, false, false, false, false, false] rfl rfl (by kernel_rfl) (fun _ _ _ h => h) (Or.inl ⟨by rfl, ?_⟩) ?_ ?_
            rotate_left
            · intro w'
              go_simp
              with_reducible rfl
            rotate_left
            · simp only [Act.put, List.setIfInBounds_toArray, List.set_cons_zero, List.set_cons_succ, i64_w, i32_w]
              rfl
            refine pure_ (i := 12) (N := some 75) (v := ?_) (a' := ?_) #[true, true, true, true, true, true, true, true, true, true, true, true, true, false, false, false, false, false, false, false, false, false, false, false, false, false] rfl rfl (by kernel_rfl) (fun _ _ _ h => h) (Or.inl ⟨by rfl, ?_⟩) ?_ ?_
            rotate_left
            · intro w'
              go_simp
              with_reducible rfl
            rotate_left
            · simp only [Act.put, List.setIfInBounds_toArray, List.set_cons_zero, List.set_cons_succ, i64_w, i32_w]
              rfl
            refine pure_ (i := 13) (N := some 76) (v := ?_) (a' := ?_) #[true, true, true, true, true, true, true, true, true, true, true, true, true, true, false, false, false, false, false, false, false, false, false, false, false, false] rfl rfl (by kernel_rfl) (fun _ _ _ h => h) (Or.inl ⟨by rfl, ?_⟩) ?_ ?_
            rotate_left
            · intro w'
              go_simp
              with_reducible rfl
            rotate_left
            · simp only [Act.put, List.setIfInBounds_toArray, List.set_cons_zero, List.set_cons_succ, i64_w, i32_w]
              rfl
            refine pure_ (i := 14) (N := some 77) (v := ?_) (a' := ?_) #[true, true, true, true, true, true, true, true, true, true, true, true, true, true, true, false, false, false, false, false, false, false, false, false, false, false] rfl rfl (by kernel_rfl) (fun _ _ _ h => h) (Or.inl ⟨by rfl, ?_⟩) ?_ ?_
            rotate_left
            · intro w'
              go_simp
              with_reducible rfl
            rotate_left
            · simp only [Act.put, List.setIfInBounds_toArray, List.set_cons_zero, List.set_cons_succ, i64_w, i32_w]
              rfl
            refine pure_ (i := 15) (N := some 78) (v := undef) (a' := ?_) #[true, true, true, true, true, true, true, true, true, true, true, true, true, true, true, true, false, false, false, false, false, false, false, false, false, false] rfl rfl (by kernel_rfl) (fun _ _ _ h => h) (Or.inr ⟨by rfl, rfl⟩) ?_ ?_
            rotate_left
            · simp only [Act.put, List.setIfInBounds_toArray, List.set_cons_zero, List.set_cons_succ, i64_w, i32_w]
              rfl
            refine pure_ (i := 16) (N := some 79) (v := undef) (a' := ?_) #[true, true, true, true, true, true, true, true, true, true, true, true, true, true, true, true, true, false, false, false, false, false, false, false, false, false] rfl rfl (by kernel_rfl) (fun _ _ _ h => h) (Or.inr ⟨by rfl, rfl⟩) ?_ ?_
            rotate_left
            · simp only [Act.put, List.setIfInBounds_toArray, List.set_cons_zero, List.set_cons_succ, i64_w, i32_w]
              rfl
            refine pure_ (i := 17) (N := some 80) (v := undef) (a' := ?_) #[true, true, true, true, true, true, true, true, true, true, true, true, true, true, true, true, true, true, false, false, false, false, false, false, false, false] rfl rfl (by kernel_rfl) (fun _ _ _ h => h) (Or.inr ⟨by rfl, rfl⟩) ?_ ?_
            rotate_left
            · simp only [Act.put, List.setIfInBounds_toArray, List.set_cons_zero, List.set_cons_succ, i64_w, i32_w]
              rfl
            refine pure_ (i := 18) (N := some 81) (v := undef) (a' := ?_) #[true, true, true, true, true, true, true, true, true, true, true, true, true, true, true, true, true, true, true, false, false, false, false, false, false, false] rfl rfl (by kernel_rfl) (fun _ _ _ h => h) (Or.inr ⟨by rfl, rfl⟩) ?_ ?_
            rotate_left
            · simp only [Act.put, List.setIfInBounds_toArray, List.set_cons_zero, List.set_cons_succ, i64_w, i32_w]
              rfl
            refine pure_ (i := 19) (N := some 82) (v := undef) (a' := ?_) #[true, true, true, true, true, true, true, true, true, true, true, true, true, true, true, true, true, true, true, true, false, false, false, false, false, false] rfl rfl (by kernel_rfl) (fun _ _ _ h => h) (Or.inr ⟨by rfl, rfl⟩) ?_ ?_
            rotate_left
            · simp only [Act.put, List.setIfInBounds_toArray, List.set_cons_zero, List.set_cons_succ, i64_w, i32_w]
              rfl
            refine pure_ (i := 20) (N := some 83) (v := undef) (a' := ?_) #[true, true, true, true, true, true, true, true, true, true, true, true, true, true, true, true, true, true, true, true, true, false, false, false, false, false] rfl rfl (by kernel_rfl) (fun _ _ _ h => h) (Or.inr ⟨by rfl, rfl⟩) ?_ ?_
            rotate_left
            · simp only [Act.put, List.setIfInBounds_toArray, List.set_cons_zero, List.set_cons_succ, i64_w, i32_w]
              rfl
            refine pure_ (i := 21) (N := some 84) (v := undef) (a' := ?_) #[true, true, true, true, true, true, true, true, true, true, true, true, true, true, true, true, true, true, true, true, true, true, false, false, false, false] rfl rfl (by kernel_rfl) (fun _ _ _ h => h) (Or.inr ⟨by rfl, rfl⟩) ?_ ?_
            rotate_left
            · simp only [Act.put, List.setIfInBounds_toArray, List.set_cons_zero, List.set_cons_succ, i64_w, i32_w]
              rfl
            refine pure_ (i := 22) (N := some 85) (v := undef) (a' := ?_) #[true, true, true, true, true, true, true, true, true, true, true, true, true, true, true, true, true, true, true, true, true, true, true, false, false, false] rfl rfl (by kernel_rfl) (fun _ _ _ h => h) (Or.inr ⟨by rfl, rfl⟩) ?_ ?_
            rotate_left
            · simp only [Act.put, List.setIfInBounds_toArray, List.set_cons_zero, List.set_cons_succ, i64_w, i32_w]
              rfl
            refine pure_ (i := 23) (N := some 86) (v := undef) (a' := ?_) #[true, true, true, true, true, true, true, true, true, true, true, true, true, true, true, true, true, true, true, true, true, true, true, true, false, false] rfl rfl (by kernel_rfl) (fun _ _ _ h => h) (Or.inr ⟨by rfl, rfl⟩) ?_ ?_
            rotate_left
            · simp only [Act.put, List.setIfInBounds_toArray, List.set_cons_zero, List.set_cons_succ, i64_w, i32_w]
              rfl
            refine pure_ (i := 24) (N := some 87) (v := ?_) (a' := ?_) #[true, true, true, true, true, true, true, true, true, true, true, true, true, true, true, true, true, true, true, true, true, true, true, true, true, false] rfl rfl (by kernel_rfl) (fun _ _ _ h => h) (Or.inl ⟨by rfl, ?_⟩) ?_ ?_
            rotate_left
            · intro w'
              go_simp
              with_reducible rfl
            rotate_left
            · simp only [Act.put, List.setIfInBounds_toArray, List.set_cons_zero, List.set_cons_succ, i64_w, i32_w]
              rfl
            refine pure_ (i := 25) (N := some 88) (v := ?_) (a' := ?_) #[true, true, true, true, true, true, true, true, true, true, true, true, true, true, true, true, true, true, true, true, true, true, true, true, true, true] rfl rfl (by kernel_rfl) (fun _ _ _ h => h) (Or.inl ⟨by rfl, ?_⟩) ?_ ?_
            rotate_left
            · intro w'
              go_simp
              with_reducible rfl
            rotate_left
            · simp only [Act.put, List.setIfInBounds_toArray, List.set_cons_zero, List.set_cons_succ, i64_w, i32_w]
              rfl
            refine done_ (by kernel_rfl) ?_
            go_wp2
            go_roundw
            case rel => exact ⟨k + 1, Nat.succ_le_of_lt hk1.out, next_i hk1.out hl2, ⟨by (with_reducible repeat (first | apply MOff.al | apply MOff.drewN | apply MOff.dr1)); exact M.out⟩, ⟨by (with_reducible repeat (first | apply Kd.C_alloc | apply Kd.C_drewN | apply Kd.C_drew)); exact H3.out⟩, ⟨by (with_reducible repeat (first | apply Kd.C_alloc | apply Kd.C_drewN | apply Kd.C_drew)); exact H5.out⟩, ⟨by repeat (first | (with_reducible first | exact HB.out | apply below_alloc | apply pw_below_drewN | apply below_drew1) | exact HB.out)⟩⟩
            case measure => exact meas hk1.out hl2
        by_cases c253 : xv = 253
        · subst c253
          by_cases ca : us.contains (n : Int) = true
          · have HC := Aside0.mk ca
            clear ca
            go_wp2_with fail
            refine (hear_do g n hn S _ _ MA.out).mono ?_
            rintro e w5 ⟨u, rfl, hu, hm, hk, hb⟩
            have M := Aside0.mk (⟨_, hm, put_rng HR.out _ n (hOn_rng _ _), off_put HO.out 0 n (fun h => by have h' : us.contains (n : Int) = false := h; rw [HC.out] at h'; cases h')⟩ : MOff w5 g (agL us him))
            have H3 := Aside0.mk (Ckeep H3a.out hk HF3.out)
            have H5 := Aside0.mk (Ckeep H5a.out hk HF4.out)
            have HB := Aside0.mk (HBa.out.trans (hb.mono hgw))
            have b1 := keep_cell hk ((blk_cell BX.out 1).trans rfl) hne
            have b2 := keep_cell hk ((blk_cell BX.out 2).trans rfl) hne
            clear hu hm hk hb MA BX HR HO HBa H3a H5a
            go_wp2_with fail
            have hC := contains_of A3 c3 us (n : Int) w5 (by omega) H3.out hc3
            rw [HC.out] at hC
            refine hC.mono ?_
            clear hC
            rintro e w6 ⟨rfl, m, rfl⟩
            go_wp2_with fail
            go_roundw
            case rel => exact ⟨k + 1, Nat.succ_le_of_lt hk1.out, next_i hk1.out hl2, ⟨MOff.drewN M.out m⟩, ⟨Kd.C_drewN H3.out m⟩, ⟨Kd.C_drewN H5.out m⟩, ⟨pw_below_drewN HB.out m⟩⟩
            case measure => exact meas hk1.out hl2
          · have cf : us.contains (n : Int) = false := Bool.eq_false_iff.2 ca
            have HC := Aside0.mk cf
            have hS := HO.out 0 n (by decide) hn cf
            clear ca cf
            go_wp2_with fail
            refine (hear_do g n hn S _ _ MA.out).mono ?_
            rintro e w5 ⟨u, rfl, hu, hm, hk, hb⟩
            have he : (hOn (S 0 n) (agL us him 0 n)) = (0, 1) := by rw [hS, show agL us him 0 n = false from HC.out]; rfl
            rw [he] at hu hm
            have hO' := off_put HO.out 0 n (x := 0) (fun _ => rfl)
            have hR' := put_rng HR.out 0 n (x := 0) (by decide)
            have M1 := Aside0.mk hm
            have M := Aside0.mk (⟨_, hm, hR', hO'⟩ : MOff w5 g (agL us him))
            have H3 := Aside0.mk (Ckeep H3a.out hk HF3.out)
            have H5 := Aside0.mk (Ckeep H5a.out hk HF4.out)
            have HB := Aside0.mk (HBa.out.trans (hb.mono hgw))
            have b1 := keep_cell hk ((blk_cell BX.out 1).trans rfl) hne
            have b2 := keep_cell hk ((blk_cell BX.out 2).trans rfl) hne
            obtain ⟨gu, cu, rfl, y0, y1, hgu, hgl⟩ := row_one (x := 252) (y := (n : Int)) hu
            clear hu hm hk hb MA BX HO HBa H3a H5a hS he hO'
            go_wp2_with fail
            have hC := contains_of A3 c3 us (n : Int) w5 (by omega) H3.out hc3
            rw [HC.out] at hC
            refine hC.mono ?_
            clear hC
            rintro e w6 ⟨rfl, m, rfl⟩
            have ON : ∀ W : World, MIs W g (put S 0 n 0) (agL us him) → Calls Try.prog 13 #[.pointer (some ⟨g, 0, none⟩), .int .i64 0, .int .u8 (n : Int)] W fun e w' => e = .returned (.bool false) ∧ ∃ m, w' = W.drewN m := by
              intro W h
              exact on_lit0 g n hn _ _ W h hR' false (by simp [put])
            have HON := Aside0.mk ON
            clear ON hR'
            have M1d := Aside0.mk (M1.out.drN m)
            clear M1
            have hn1 : ∀ q : Nat, ((w5.drewN q).alloc (.cells #[.int .u8 252, .int .u8 254] 5)).cell? ⟨w5.heap.size, 0, none⟩ = some (.int .u8 252) := fun q => blk_cell (blk_new (w5.drewN q) (.cells #[.int .u8 252, .int .u8 254] 5)) 0
            go_wp2
            refine start_ (n := 26) (S := fun w' => w'.cell? ⟨wr.heap.size, 2, none⟩ = some (.int .u8 (n : Int)) ∧ w'.cell? ⟨gu, 0, none⟩ = some (.int .u8 252)) (ds := []) #[false, false, false, false, false, false, false, false, false, false, false, false, false, false, false, false, false, false, false, false, false, false, false, false, false, false] (by kernel_rfl) rfl rfl ⟨cell_dr1 (cell_drN m b2), cell_dr1 (cell_drN m y0)⟩ (fun hHeld => ?_)
            refine pure_ (i := 0) (N := some 63) (v := ?_) (a' := ?_) #[true, false, false, false, false, false, false, false, false, false, false, false, false, false, false, false, false, false, false, false, false, false, false, false, false, false] rfl rfl (by kernel_rfl) (fun _ _ _ h => h) (Or.inl ⟨by rfl, ?_⟩) ?_ ?_
            rotate_left
            · intro w'
              go_simp
              with_reducible rfl
            rotate_left
            · simp only [Act.put, List.setIfInBounds_toArray, List.set_cons_zero, List.set_cons_succ, i64_w, i32_w]
              rfl
            refine pure_ (i := 1) (N := some 64) (v := ?_) (a' := ?_) #[true, true, false, false, false, false, false, false, false, false, false, false, false, false, false, false, false, false, false, false, false, false, false, false, false, false] rfl rfl (by kernel_rfl) (fun _ _ _ h => h) (Or.inl ⟨by rfl, ?_⟩) ?_ ?_
            rotate_left
            · intro w'
              go_simp
              with_reducible rfl
            rotate_left
            · simp only [Act.put, List.setIfInBounds_toArray, List.set_cons_zero, List.set_cons_succ, i64_w, i32_w]
              rfl
            refine pure_ (i := 2) (N := some 65) (v := ?_) (a' := ?_) #[true, true, true, false, false, false, false, false, false, false, false, false, false, false, false, false, false, false, false, false, false, false, false, false, false, false] rfl rfl (by kernel_rfl) (fun _ _ _ h => h) (Or.inl ⟨by rfl, ?_⟩) ?_ ?_
            rotate_left
            · intro w'
              go_simp
              with_reducible rfl
            rotate_left
            · simp only [Act.put, List.setIfInBounds_toArray, List.set_cons_zero, List.set_cons_succ, i64_w, i32_w]
              rfl
            refine take_ (i := 3) (N := some 66) (v := ?_) (a' := ?_) #[true, true, true, true, false, false, false, false, false, false, false, false, false, false, false, false, false, false, false, false, false, false, false, false, false, false] rfl rfl (by kernel_rfl) (fun _ _ _ h => h) (Or.inl ⟨by rfl, ?_⟩) hHeld ?_ ?_
            rotate_left
            · rintro w' ⟨s0, s1⟩
              go_simp
              with_reducible rfl
            rotate_left
            · simp only [Act.put, List.setIfInBounds_toArray, List.set_cons_zero, List.set_cons_succ, i64_w, i32_w]
              rfl
            refine one_ (i := 4) (N := some 67) #[true, true, true, true, true, false, false, false, false, false, false, false, false, false, false, false, false, false, false, false, false, false, false, false, false, false] rfl rfl (by kernel_rfl) (by decide) (fun K hK => ?_)
            refine goes_ Try.func13 (by kernel_rfl) rfl #[.pointer (some ⟨g, 0, none⟩), .int .i64 0, .int .u8 (n : Int)] (by rfl) rfl rfl (by simp only [List.map_toArray, List.map_cons, List.map_nil]; rfl) ?_
            with_reducible refine (HON.out _ (MIs.dr1 M1d.out)).mono ?_
            rintro e w7 ⟨rfl, m7, rfl⟩
            refine ⟨_, rfl, ?_⟩
            refine hK.out _ _ ⟨cell_drN m7 hHeld.1, cell_drN m7 hHeld.2⟩ (fun hHeld => ?_)
            clear hK K
            refine norm_ (a' := ?_) ?_ ?_
            rotate_left
            · show Act.put _ (some 67) _ = _
              simp only [Act.put, List.setIfInBounds_toArray, List.set_cons_zero, List.set_cons_succ, i64_w, i32_w]
              rfl
            refine pure_ (i := 5) (N := some 68) (v := ?_) (a' := ?_) #[true, true, true, true, true, true, false, false, false, false, false, false, false, false, false, false, false, false, false, false, false, false, false, false, false, false] rfl rfl (by kernel_rfl) (fun _ _ _ h => h) (Or.inl ⟨by rfl, ?_⟩) ?_ ?_
            rotate_left
            · intro w'
              go_simp
              with_reducible rfl
            rotate_left
            · simp only [Act.put, List.setIfInBounds_toArray, List.set_cons_zero, List.set_cons_succ, i64_w, i32_w]
              rfl
            refine pure_ (i := 6) (N := some 69) (v := ?_) (a' := ?_) #[true, true, true, true, true, true, true, false, false, false, false, false, false, false, false, false, false, false, false, false, false, false, false, false, false, false] rfl rfl (by kernel_rfl) (fun _ _ _ h => h) (Or.inl ⟨by rfl, ?_⟩) ?_ ?_
            rotate_left
            · intro w'
              go_simp
              with_reducible rfl
            rotate_left
            · simp only [Act.put, List.setIfInBounds_toArray, List.set_cons_zero, List.set_cons_succ, i64_w, i32_w]
              rfl
            refine pure_ (i := 7) (N := some 70) (v := ?_) (a' := ?_) #[true, true, true, true, true, true, true, true, false, false, false, false, false, false, false, false, false, false, false, false, false, false, false, false, false, false] rfl rfl (by kernel_rfl) (fun _ _ _ h => h) (Or.inl ⟨by rfl, ?_⟩) ?_ ?_
            rotate_left
            · intro w'
              go_simp
              with_reducible rfl
            rotate_left
            · simp only [Act.put, List.setIfInBounds_toArray, List.set_cons_zero, List.set_cons_succ, i64_w, i32_w]
              rfl
            refine pure_ (i := 8) (N := some 71) (v := ?_) (a' := ?_) #[true, true, true, true, true, true, true, true, true, false, false, false, false, false, false, false, false, false, false, false, false, false, false, false, false, false] rfl rfl (by kernel_rfl) (fun _ _ _ h => h) (Or.inl ⟨by rfl, ?_⟩) ?_ ?_
            rotate_left
            · intro w'
              go_simp
              with_reducible rfl
            rotate_left
            · simp only [Act.put, List.setIfInBounds_toArray, List.set_cons_zero, List.set_cons_succ, i64_w, i32_w]
              rfl
            refine pure_ (i := 9) (N := some 72) (v := ?_) (a' := ?_) #[true, true, true, true, true, true, true, true, true, true, false, false, false, false, false, false, false, false, false, false, false, false, false, false, false, false] rfl rfl (by kernel_rfl) (fun _ _ _ h => h) (Or.inl ⟨by rfl, ?_⟩) ?_ ?_
            rotate_left
            · intro w'
              go_simp
              with_reducible rfl
            rotate_left
            · simp only [Act.put, List.setIfInBounds_toArray, List.set_cons_zero, List.set_cons_succ, i64_w, i32_w]
              rfl
            refine pure_ (i := 10) (N := some 73) (v := ?_) (a' := ?_) #[true, true, true, true, true, true, true, true, true, true, true, false, false, false, false, false, false, false, false, false, false, false, false, false, false, false] rfl rfl (by kernel_rfl) (fun _ _ _ h => h) (Or.inl ⟨by rfl, ?_⟩) ?_ ?_
            rotate_left
            · intro w'
              go_simp
              with_reducible rfl
            rotate_left
            · simp only [Act.put, List.setIfInBounds_toArray, List.set_cons_zero, List.set_cons_succ, i64_w, i32_w]
              rfl
            refine pure_ (i := 11) (N := some 74) (v := ?_) (a' := ?_) #[true, true, true, true, true, true, true, true, true, true, true, true, false, false, false, false, false, false, false, false, false, false, false, false, false, false] rfl rfl (by kernel_rfl) (fun _ _ _ h => h) (Or.inl ⟨by rfl, ?_⟩) ?_ ?_
            rotate_left
            · intro w'
              go_simp
              with_reducible rfl
            rotate_left
            · simp only [Act.put, List.setIfInBounds_toArray, List.set_cons_zero, List.set_cons_succ, i64_w, i32_w]
              rfl
            refine pure_ (i := 12) (N := some 75) (v := ?_) (a' := ?_) #[true, true, true, true, true, true, true, true, true, true, true, true, true, false, false, false, false, false, false, false, false, false, false, false, false, false] rfl rfl (by kernel_rfl) (fun _ _ _ h => h) (Or.inl ⟨by rfl, ?_⟩) ?_ ?_
            rotate_left
            · intro w'
              go_simp
              with_reducible rfl
            rotate_left
            · simp only [Act.put, List.setIfInBounds_toArray, List.set_cons_zero, List.set_cons_succ, i64_w, i32_w]
              rfl
            refine pure_ (i := 13) (N := some 76) (v := ?_) (a' := ?_) #[true, true, true, true, true, true, true, true, true, true, true, true, true, true, false, false, false, false, false, false, false, false, false, false, false, false] rfl rfl (by kernel_rfl) (fun _ _ _ h => h) (Or.inl ⟨by rfl, ?_⟩) ?_ ?_
            rotate_left
            · intro w'
              go_simp
              with_reducible rfl
            rotate_left
            · simp only [Act.put, List.setIfInBounds_toArray, List.set_cons_zero, List.set_cons_succ, i64_w, i32_w]
              rfl
            refine pure_ (i := 14) (N := some 77) (v := ?_) (a' := ?_) #[true, true, true, true, true, true, true, true, true, true, true, true, true, true, true, false, false, false, false, false, false, false, false, false, false, false] rfl rfl (by kernel_rfl) (fun _ _ _ h => h) (Or.inl ⟨by rfl, ?_⟩) ?_ ?_
            rotate_left
            · intro w'
              go_simp
              with_reducible rfl
            rotate_left
            · simp only [Act.put, List.setIfInBounds_toArray, List.set_cons_zero, List.set_cons_succ, i64_w, i32_w]
              rfl
            refine pure_ (i := 15) (N := some 78) (v := ?_) (a' := ?_) #[true, true, true, true, true, true, true, true, true, true, true, true, true, true, true, true, false, false, false, false, false, false, false, false, false, false] rfl rfl (by kernel_rfl) (fun _ _ _ h => h) (Or.inl ⟨by rfl, ?_⟩) ?_ ?_
            rotate_left
            · intro w'
              go_simp
              with_reducible rfl
            rotate_left
            · simp only [Act.put, List.setIfInBounds_toArray, List.set_cons_zero, List.set_cons_succ, i64_w, i32_w]
              rfl
            refine pure_ (i := 16) (N := some 79) (v := ?_) (a' := ?_) #[true, true, true, true, true, true, true, true, true, true, true, true, true, true, true, true, true, false, false, false, false, false, false, false, false, false] rfl rfl (by kernel_rfl) (fun _ _ _ h => h) (Or.inl ⟨by rfl, ?_⟩) ?_ ?_
            rotate_left
            · intro w'
              go_simp
              with_reducible rfl
            rotate_left
            · simp only [Act.put, List.setIfInBounds_toArray, List.set_cons_zero, List.set_cons_succ, i64_w, i32_w]
              rfl
            refine pure_ (i := 17) (N := some 80) (v := ?_) (a' := ?_) #[true, true, true, true, true, true, true, true, true, true, true, true, true, true, true, true, true, true, false, false, false, false, false, false, false, false] rfl rfl (by kernel_rfl) (fun _ _ _ h => h) (Or.inl ⟨by rfl, ?_⟩) ?_ ?_
            rotate_left
            · intro w'
              go_simp
              with_reducible rfl
            rotate_left
            · simp only [Act.put, List.setIfInBounds_toArray, List.set_cons_zero, List.set_cons_succ, i64_w, i32_w]
              rfl
            refine pure_ (i := 20) (N := some 83) (v := ?_) (a' := ?_) #[true, true, true, true, true, true, true, true, true, true, true, true, true, true, true, true, true, true, false, false, true, false, false, false, false, false] rfl rfl (by kernel_rfl) (fun _ _ _ h => h) (Or.inl ⟨by rfl, ?_⟩) ?_ ?_
            rotate_left
            · intro w'
              go_simp
              with_reducible rfl
            rotate_left
            · simp only [Act.put, List.setIfInBounds_toArray, List.set_cons_zero, List.set_cons_succ, i64_w, i32_w]
              rfl
            refine take_ (i := 18) (N := some 81) (v := ?_) (a' := ?_) #[true, true, true, true, true, true, true, true, true, true, true, true, true, true, true, true, true, true, true, false, true, false, false, false, false, false] rfl rfl (by kernel_rfl) (fun _ _ _ h => h) (Or.inl ⟨by rfl, ?_⟩) hHeld ?_ ?_
            rotate_left
            · rintro w' ⟨s0, s1⟩
              go_simp
              with_reducible rfl
            rotate_left
            · simp only [Act.put, List.setIfInBounds_toArray, List.set_cons_zero, List.set_cons_succ, i64_w, i32_w]
              rfl
            refine one_ (i := 19) (N := some 82) #[true, true, true, true, true, true, true, true, true, true, true, true, true, true, true, true, true, true, true, true, true, false, false, false, false, false] rfl rfl (by kernel_rfl) (by decide) (fun K hK => ?_)
            refine value_ (w1 := ?_) (v := ?_) (by rfl) rfl ?_ ?_
            rotate_left 2
            · go_simp
              constructor
              · rfl
              · rfl
            refine hK.out _ _ ⟨cell_al _ hHeld.1, cell_al _ hHeld.2⟩ (fun hHeld => ?_)
            clear hK K
            refine norm_ (a' := ?_) ?_ ?_
            rotate_left
            · show Act.put _ (some 82) _ = _
              simp only [Act.put, List.setIfInBounds_toArray, List.set_cons_zero, List.set_cons_succ, i64_w, i32_w]
              rfl
            refine pure_ (i := 21) (N := some 84) (v := ?_) (a' := ?_) #[true, true, true, true, true, true, true, true, true, true, true, true, true, true, true, true, true, true, true, true, true, true, false, false, false, false] rfl rfl (by kernel_rfl) (fun _ _ _ h => h) (Or.inl ⟨by rfl, ?_⟩) ?_ ?_
            rotate_left
            · intro w'
              go_simp
              with_reducible rfl
            rotate_left
            · simp only [Act.put, List.setIfInBounds_toArray, List.set_cons_zero, List.set_cons_succ, i64_w, i32_w]
              rfl
            refine one_ (i := 22) (N := some 85) #[true, true, true, true, true, true, true, true, true, true, true, true, true, true, true, true, true, true, true, true, true, true, true, false, false, false] rfl rfl (by kernel_rfl) (by decide) (fun K hK => ?_)
            refine value_ (w1 := ?_) (v := ?_) (by rfl) rfl ?_ ?_
            rotate_left 2
            · go_simp
              constructor
              · rfl
              · rfl
            refine hK.out _ _ ⟨hHeld.1, hHeld.2⟩ (fun hHeld => ?_)
            clear hK K
            refine norm_ (a' := ?_) ?_ ?_
            rotate_left
            · show Act.put _ (some 85) _ = _
              simp only [Act.put, List.setIfInBounds_toArray, List.set_cons_zero, List.set_cons_succ, i64_w, i32_w]
              rfl
            refine pure_ (i := 23) (N := some 86) (v := ?_) (a' := ?_) #[true, true, true, true, true, true, true, true, true, true, true, true, true, true, true, true, true, true, true, true, true, true, true, true, false, false] rfl rfl (by kernel_rfl) (fun _ _ _ h => h) (Or.inl ⟨by rfl, ?_⟩) ?_ ?_
            rotate_left
            · intro w'
              go_simp
              with_reducible rfl
            rotate_left
            · simp only [Act.put, List.setIfInBounds_toArray, List.set_cons_zero, List.set_cons_succ, i64_w, i32_w]
              rfl
            refine pure_ (i := 24) (N := some 87) (v := ?_) (a' := ?_) #[true, true, true, true, true, true, true, true, true, true, true, true, true, true, true, true, true, true, true, true, true, true, true, true, true, false] rfl rfl (by kernel_rfl) (fun _ _ _ h => h) (Or.inl ⟨by rfl, ?_⟩) ?_ ?_
            rotate_left
            · intro w'
              go_simp
              with_reducible rfl
            rotate_left
            · simp only [Act.put, List.setIfInBounds_toArray, List.set_cons_zero, List.set_cons_succ, i64_w, i32_w]
              rfl
            refine pure_ (i := 25) (N := some 88) (v := ?_) (a' := ?_) #[true, true, true, true, true, true, true, true, true, true, true, true, true, true, true, true, true, true, true, true, true, true, true, true, true, true] rfl rfl (by kernel_rfl) (fun _ _ _ h => h) (Or.inl ⟨by rfl, ?_⟩) ?_ ?_
            rotate_left
            · intro w'
              go_simp
              with_reducible rfl
            rotate_left
            · simp only [Act.put, List.setIfInBounds_toArray, List.set_cons_zero, List.set_cons_succ, i64_w, i32_w]
              rfl
            refine done_ (by kernel_rfl) ?_
            go_wp2
            go_roundw
            case rel => exact ⟨k + 1, Nat.succ_le_of_lt hk1.out, next_i hk1.out hl2, ⟨by (with_reducible repeat (first | apply MOff.al | apply MOff.drewN | apply MOff.dr1)); exact M.out⟩, ⟨by (with_reducible repeat (first | apply Kd.C_alloc | apply Kd.C_drewN | apply Kd.C_drew)); exact H3.out⟩, ⟨by (with_reducible repeat (first | apply Kd.C_alloc | apply Kd.C_drewN | apply Kd.C_drew)); exact H5.out⟩, ⟨by repeat (first | (with_reducible first | exact HB.out | apply below_alloc | apply pw_below_drewN | apply below_drew1) | exact HB.out)⟩⟩
            case measure => exact meas hk1.out hl2
        by_cases c254 : xv = 254
        · subst c254
          by_cases ca : us.contains (n : Int) = true
          · have HC := Aside0.mk ca
            clear ca
            go_wp2_with fail
            refine (hear_dont g n hn S _ _ MA.out).mono ?_
            rintro e w5 ⟨u, rfl, hu, hm, hk, hb⟩
            have M := Aside0.mk (⟨_, hm, put_rng HR.out _ n (hOff_rng _), off_put HO.out 0 n (fun h => by have h' : us.contains (n : Int) = false := h; rw [HC.out] at h'; cases h')⟩ : MOff w5 g (agL us him))
            have H3 := Aside0.mk (Ckeep H3a.out hk HF3.out)
            have H5 := Aside0.mk (Ckeep H5a.out hk HF4.out)
            have HB := Aside0.mk (HBa.out.trans (hb.mono hgw))
            have b1 := keep_cell hk ((blk_cell BX.out 1).trans rfl) hne
            have b2 := keep_cell hk ((blk_cell BX.out 2).trans rfl) hne
            clear hu hm hk hb MA BX HR HO HBa H3a H5a
            go_wp2_with fail
            have hC := contains_of A3 c3 us (n : Int) w5 (by omega) H3.out hc3
            rw [HC.out] at hC
            refine hC.mono ?_
            clear hC
            rintro e w6 ⟨rfl, m, rfl⟩
            go_wp2_with fail
            go_roundw
            case rel => exact ⟨k + 1, Nat.succ_le_of_lt hk1.out, next_i hk1.out hl2, ⟨MOff.drewN M.out m⟩, ⟨Kd.C_drewN H3.out m⟩, ⟨Kd.C_drewN H5.out m⟩, ⟨pw_below_drewN HB.out m⟩⟩
            case measure => exact meas hk1.out hl2
          · have cf : us.contains (n : Int) = false := Bool.eq_false_iff.2 ca
            have HC := Aside0.mk cf
            have hS := HO.out 0 n (by decide) hn cf
            clear ca cf
            go_wp2_with fail
            refine (hear_dont g n hn S _ _ MA.out).mono ?_
            rintro e w5 ⟨u, rfl, hu, hm, hk, hb⟩
            have he : (hOff (S 0 n)) = (0, 0) := by rw [hS]; rfl
            rw [he] at hu hm
            have hO' := off_put HO.out 0 n (x := 0) (fun _ => rfl)
            have hR' := put_rng HR.out 0 n (x := 0) (by decide)
            have M1 := Aside0.mk hm
            have M := Aside0.mk (⟨_, hm, hR', hO'⟩ : MOff w5 g (agL us him))
            have H3 := Aside0.mk (Ckeep H3a.out hk HF3.out)
            have H5 := Aside0.mk (Ckeep H5a.out hk HF4.out)
            have HB := Aside0.mk (HBa.out.trans (hb.mono hgw))
            have b1 := keep_cell hk ((blk_cell BX.out 1).trans rfl) hne
            have b2 := keep_cell hk ((blk_cell BX.out 2).trans rfl) hne
            obtain ⟨gu, cu, rfl⟩ := row_zero hu
            clear hu hm hk hb MA BX HO HBa H3a H5a hS he hO'
            go_wp2_with fail
            have hC := contains_of A3 c3 us (n : Int) w5 (by omega) H3.out hc3
            rw [HC.out] at hC
            refine hC.mono ?_
            clear hC
            rintro e w6 ⟨rfl, m, rfl⟩
            have ON : ∀ W : World, MIs W g (put S 0 n 0) (agL us him) → Calls Try.prog 13 #[.pointer (some ⟨g, 0, none⟩), .int .i64 0, .int .u8 (n : Int)] W fun e w' => e = .returned (.bool false) ∧ ∃ m, w' = W.drewN m := by
              intro W h
              exact on_lit0 g n hn _ _ W h hR' false (by simp [put])
            have HON := Aside0.mk ON
            clear ON hR'
            have M1d := Aside0.mk (M1.out.drN m)
            clear M1
            have hn1 : ∀ q : Nat, ((w5.drewN q).alloc (.cells #[.int .u8 252, .int .u8 254] 5)).cell? ⟨w5.heap.size, 0, none⟩ = some (.int .u8 252) := fun q => blk_cell (blk_new (w5.drewN q) (.cells #[.int .u8 252, .int .u8 254] 5)) 0
            go_wp2
            refine start_ (n := 26) (S := fun w' => w'.cell? ⟨wr.heap.size, 2, none⟩ = some (.int .u8 (n : Int))) (ds := []) #[false, false, false, false, false, false, false, false, false, false, false, false, false, false, false, false, false, false, false, false, false, false, false, false, false, false] (by kernel_rfl) rfl rfl (cell_dr1 (cell_drN m b2)) (fun hHeld => ?_)
            refine pure_ (i := 0) (N := some 63) (v := ?_) (a' := ?_) #[true, false, false, false, false, false, false, false, false, false, false, false, false, false, false, false, false, false, false, false, false, false, false, false, false, false] rfl rfl (by kernel_rfl) (fun _ _ _ h => h) (Or.inl ⟨by rfl, ?_⟩) ?_ ?_
            rotate_left
            · intro w'
              go_simp
              with_reducible rfl
            rotate_left
            · simp only [Act.put, List.setIfInBounds_toArray, List.set_cons_zero, List.set_cons_succ, i64_w, i32_w]
              rfl
            refine pure_ (i := 1) (N := some 64) (v := ?_) (a' := ?_) #[true, true, false, false, false, false, false, false, false, false, false, false, false, false, false, false, false, false, false, false, false, false, false, false, false, false] rfl rfl (by kernel_rfl) (fun _ _ _ h => h) (Or.inl ⟨by rfl, ?_⟩) ?_ ?_
            rotate_left
            · intro w'
              go_simp
              with_reducible rfl
            rotate_left
            · simp only [Act.put, List.setIfInBounds_toArray, List.set_cons_zero, List.set_cons_succ, i64_w, i32_w]
              rfl
            refine pure_ (i := 2) (N := some 65) (v := ?_) (a' := ?_) #[true, true, true, false, false, false, false, false, false, false, false, false, false, false, false, false, false, false, false, false, false, false, false, false, false, false] rfl rfl (by kernel_rfl) (fun _ _ _ h => h) (Or.inl ⟨by rfl, ?_⟩) ?_ ?_
            rotate_left
            · intro w'
              go_simp
              with_reducible rfl
            rotate_left
            · simp only [Act.put, List.setIfInBounds_toArray, List.set_cons_zero, List.set_cons_succ, i64_w, i32_w]
              rfl
            refine take_ (i := 3) (N := some 66) (v := ?_) (a' := ?_) #[true, true, true, true, false, false, false, false, false, false, false, false, false, false, false, false, false, false, false, false, false, false, false, false, false, false] rfl rfl (by kernel_rfl) (fun _ _ _ h => h) (Or.inl ⟨by rfl, ?_⟩) hHeld ?_ ?_
            rotate_left
            · intro w' s0
              go_simp
              with_reducible rfl
            rotate_left
            · simp only [Act.put, List.setIfInBounds_toArray, List.set_cons_zero, List.set_cons_succ, i64_w, i32_w]
              rfl
            refine one_ (i := 4) (N := some 67) #[true, true, true, true, true, false, false, false, false, false, false, false, false, false, false, false, false, false, false, false, false, false, false, false, false, false] rfl rfl (by kernel_rfl) (by decide) (fun K hK => ?_)
            refine goes_ Try.func13 (by kernel_rfl) rfl #[.pointer (some ⟨g, 0, none⟩), .int .i64 0, .int .u8 (n : Int)] (by rfl) rfl rfl (by simp only [List.map_toArray, List.map_cons, List.map_nil]; rfl) ?_
            with_reducible refine (HON.out _ (MIs.dr1 M1d.out)).mono ?_
            rintro e w7 ⟨rfl, m7, rfl⟩
            refine ⟨_, rfl, ?_⟩
            refine hK.out _ _ (cell_drN m7 hHeld) (fun hHeld => ?_)
            clear hK K
            refine norm_ (a' := ?_) ?_ ?_
            rotate_left
            · show Act.put _ (some 67) _ = _
              simp only [Act.put, List.setIfInBounds_toArray, List.set_cons_zero, List.set_cons_succ, i64_w, i32_w]
              rfl
            refine pure_ (i := 5) (N := some 68) (v := ?_) (a' := ?_) #[true, true, true, true, true, true, false, false, false, false, false, false, false, false, false, false, false, false, false, false, false, false, false, false, false, false] rfl rfl (by kernel_rfl) (fun _ _ _ h => h) (Or.inl ⟨by rfl, ?_⟩) ?_ ?_
            rotate_left
            · intro w'
              go_simp
              with_reducible rfl
            rotate_left
            · simp only [Act.put, List.setIfInBounds_toArray, List.set_cons_zero, List.set_cons_succ, i64_w, i32_w]
              rfl
            refine pure_ (i := 6) (N := some 69) (v := ?_) (a' := ?_) #[true, true, true, true, true, true, true, false, false, false, false, false, false, false, false, false, false, false, false, false, false, false, false, false, false, false] rfl rfl (by kernel_rfl) (fun _ _ _ h => h) (Or.inl ⟨by rfl, ?_⟩) ?_ ?_
            rotate_left
            · intro w'
              go_simp
              with_reducible rfl
            rotate_left
            · simp only [Act.put, List.setIfInBounds_toArray, List.set_cons_zero, List.set_cons_succ, i64_w, i32_w]
              rfl
            refine pure_ (i := 7) (N := some 70) (v := ?_) (a' := ?_) #[true, true, true, true, true, true, true, true, false, false, false, false, false, false, false, false, false, false, false, false, false, false, false, false, false, false] rfl rfl (by kernel_rfl) (fun _ _ _ h => h) (Or.inl ⟨by rfl, ?_⟩) ?_ ?_
            rotate_left
            · intro w'
              go_simp
              with_reducible rfl
            rotate_left
            · simp only [Act.put, List.setIfInBounds_toArray, List.set_cons_zero, List.set_cons_succ, i64_w, i32_w]
              rfl
            refine pure_ (i := 8) (N := some 71) (v := ?_) (a' := ?_) #[true, true, true, true, true, true, true, true, true, false, false, false, false, false, false, false, false, false, false, false, false, false, false, false, false, false] rfl rfl (by kernel_rfl) (fun _ _ _ h => h) (Or.inl ⟨by rfl, ?_⟩) ?_ ?_
            rotate_left
            · intro w'
              go_simp
              with_reducible rfl
            rotate_left
            · simp only [Act.put, List.setIfInBounds_toArray, List.set_cons_zero, List.set_cons_succ, i64_w, i32_w]
              rfl
            refine pure_ (i := 9) (N := some 72) (v := ?_) (a' := ?_) #[true, true, true, true, true, true, true, true, true, true, false, false, false, false, false, false, false, false, false, false, false, false, false, false, false, false] rfl rfl (by kernel_rfl) (fun _ _ _ h => h) (Or.inl ⟨by rfl, ?_⟩) ?_ ?_
            rotate_left
            · intro w'
              go_simp
              with_reducible rfl
            rotate_left
            · simp only [Act.put, List.setIfInBounds_toArray, List.set_cons_zero, List.set_cons_succ, i64_w, i32_w]
              rfl
            refine pure_ (i := 10) (N := some 73) (v := ?_) (a' := ?_) #[true, true, true, true, true, true, true, true, true, true, true, false, false, false, false, false, false, false, false, false, false, false, false, false, false, false] rfl rfl (by kernel_rfl) (fun _ _ _ h => h) (Or.inl ⟨by rfl, ?_⟩) ?_ ?_
            rotate_left
            · intro w'
              go_simp
              with_reducible rfl
            rotate_left
            · simp only [Act.put, List.setIfInBounds_toArray, List.set_cons_zero, List.set_cons_succ, i64_w, i32_w]
              rfl
            refine pure_ (i := 11) (N := some 74) (v := ?_) (a' := ?_) #[true, true, true, true, true, true, true, true, true, true, true, true, false, false, false, false, false, false, false, false, false, false, false, false, false, false] rfl rfl (by kernel_rfl) (fun _ _ _ h => h) (Or.inl ⟨by rfl, ?_⟩) ?_ ?_
            rotate_left
            · intro w'
              go_simp
              with_reducible rfl
            rotate_left
            · simp only [Act.put, List.setIfInBounds_toArray, List.set_cons_zero, List.set_cons_succ, i64_w, i32_w]
              rfl
            refine pure_ (i := 12) (N := some 75) (v := ?_) (a' := ?_) #[true, true, true, true, true, true, true, true, true, true, true, true, true, false, false, false, false, false, false, false, false, false, false, false, false, false] rfl rfl (by kernel_rfl) (fun _ _ _ h => h) (Or.inl ⟨by rfl, ?_⟩) ?_ ?_
            rotate_left
            · intro w'
              go_simp
              with_reducible rfl
            rotate_left
            · simp only [Act.put, List.setIfInBounds_toArray, List.set_cons_zero, List.set_cons_succ, i64_w, i32_w]
              rfl
            refine pure_ (i := 13) (N := some 76) (v := ?_) (a' := ?_) #[true, true, true, true, true, true, true, true, true, true, true, true, true, true, false, false, false, false, false, false, false, false, false, false, false, false] rfl rfl (by kernel_rfl) (fun _ _ _ h => h) (Or.inl ⟨by rfl, ?_⟩) ?_ ?_
            rotate_left
            · intro w'
              go_simp
              with_reducible rfl
            rotate_left
            · simp only [Act.put, List.setIfInBounds_toArray, List.set_cons_zero, List.set_cons_succ, i64_w, i32_w]
              rfl
            refine pure_ (i := 14) (N := some 77) (v := ?_) (a' := ?_) #[true, true, true, true, true, true, true, true, true, true, true, true, true, true, true, false, false, false, false, false, false, false, false, false, false, false] rfl rfl (by kernel_rfl) (fun _ _ _ h => h) (Or.inl ⟨by rfl, ?_⟩) ?_ ?_
            rotate_left
            · intro w'
              go_simp
              with_reducible rfl
            rotate_left
            · simp only [Act.put, List.setIfInBounds_toArray, List.set_cons_zero, List.set_cons_succ, i64_w, i32_w]
              rfl
            refine pure_ (i := 15) (N := some 78) (v := undef) (a' := ?_) #[true, true, true, true, true, true, true, true, true, true, true, true, true, true, true, true, false, false, false, false, false, false, false, false, false, false] rfl rfl (by kernel_rfl) (fun _ _ _ h => h) (Or.inr ⟨by rfl, rfl⟩) ?_ ?_
            rotate_left
            · simp only [Act.put, List.setIfInBounds_toArray, List.set_cons_zero, List.set_cons_succ, i64_w, i32_w]
              rfl
            refine pure_ (i := 16) (N := some 79) (v := undef) (a' := ?_) #[true, true, true, true, true, true, true, true, true, true, true, true, true, true, true, true, true, false, false, false, false, false, false, false, false, false] rfl rfl (by kernel_rfl) (fun _ _ _ h => h) (Or.inr ⟨by rfl, rfl⟩) ?_ ?_
            rotate_left
            · simp only [Act.put, List.setIfInBounds_toArray, List.set_cons_zero, List.set_cons_succ, i64_w, i32_w]
              rfl
            refine pure_ (i := 17) (N := some 80) (v := undef) (a' := ?_) #[true, true, true, true, true, true, true, true, true, true, true, true, true, true, true, true, true, true, false, false, false, false, false, false, false, false] rfl rfl (by kernel_rfl) (fun _ _ _ h => h) (Or.inr ⟨by rfl, rfl⟩) ?_ ?_
            rotate_left
            · simp only [Act.put, List.setIfInBounds_toArray, List.set_cons_zero, List.set_cons_succ, i64_w, i32_w]
              rfl
            refine pure_ (i := 18) (N := some 81) (v := undef) (a' := ?_) #[true, true, true, true, true, true, true, true, true, true, true, true, true, true, true, true, true, true, true, false, false, false, false, false, false, false] rfl rfl (by kernel_rfl) (fun _ _ _ h => h) (Or.inr ⟨by rfl, rfl⟩) ?_ ?_
            rotate_left
            · simp only [Act.put, List.setIfInBounds_toArray, List.set_cons_zero, List.set_cons_succ, i64_w, i32_w]
              rfl
            refine pure_ (i := 19) (N := some 82) (v := undef) (a' := ?_) #[true, true, true, true, true, true, true, true, true, true, true, true, true, true, true, true, true, true, true, true, false, false, false, false, false, false] rfl rfl (by kernel_rfl) (fun _ _ _ h => h) (Or.inr ⟨by rfl, rfl⟩) ?_ ?_
            rotate_left
            · simp only [Act.put, List.setIfInBounds_toArray, List.set_cons_zero, List.set_cons_succ, i64_w, i32_w]
              rfl
            refine pure_ (i := 20) (N := some 83) (v := undef) (a' := ?_) #[true, true, true, true, true, true, true, true, true, true, true, true, true, true, true, true, true, true, true, true, true, false, false, false, false, false] rfl rfl (by kernel_rfl) (fun _ _ _ h => h) (Or.inr ⟨by rfl, rfl⟩) ?_ ?_
            rotate_left
            · simp only [Act.put, List.setIfInBounds_toArray, List.set_cons_zero, List.set_cons_succ, i64_w, i32_w]
              rfl
            refine pure_ (i := 21) (N := some 84) (v := undef) (a' := ?_) #[true, true, true, true, true, true, true, true, true, true, true, true, true, true, true, true, true, true, true, true, true, true, false, false, false, false] rfl rfl (by kernel_rfl) (fun _ _ _ h => h) (Or.inr ⟨by rfl, rfl⟩) ?_ ?_
            rotate_left
            · simp only [Act.put, List.setIfInBounds_toArray, List.set_cons_zero, List.set_cons_succ, i64_w, i32_w]
              rfl
            refine pure_ (i := 22) (N := some 85) (v := undef) (a' := ?_) #[true, true, true, true, true, true, true, true, true, true, true, true, true, true, true, true, true, true, true, true, true, true, true, false, false, false] rfl rfl (by kernel_rfl) (fun _ _ _ h => h) (Or.inr ⟨by rfl, rfl⟩) ?_ ?_
            rotate_left
            · simp only [Act.put, List.setIfInBounds_toArray, List.set_cons_zero, List.set_cons_succ, i64_w, i32_w]
              rfl
            refine pure_ (i := 23) (N := some 86) (v := undef) (a' := ?_) #[true, true, true, true, true, true, true, true, true, true, true, true, true, true, true, true, true, true, true, true, true, true, true, true, false, false] rfl rfl (by kernel_rfl) (fun _ _ _ h => h) (Or.inr ⟨by rfl, rfl⟩) ?_ ?_
            rotate_left
            · simp only [Act.put, List.setIfInBounds_toArray, List.set_cons_zero, List.set_cons_succ, i64_w, i32_w]
              rfl
            refine pure_ (i := 24) (N := some 87) (v := ?_) (a' := ?_) #[true, true, true, true, true, true, true, true, true, true, true, true, true, true, true, true, true, true, true, true, true, true, true, true, true, false] rfl rfl (by kernel_rfl) (fun _ _ _ h => h) (Or.inl ⟨by rfl, ?_⟩) ?_ ?_
            rotate_left
            · intro w'
              go_simp
              with_reducible rfl
            rotate_left
            · simp only [Act.put, List.setIfInBounds_toArray, List.set_cons_zero, List.set_cons_succ, i64_w, i32_w]
              rfl
            refine pure_ (i := 25) (N := some 88) (v := ?_) (a' := ?_) #[true, true, true, true, true, true, true, true, true, true, true, true, true, true, true, true, true, true, true, true, true, true, true, true, true, true] rfl rfl (by kernel_rfl) (fun _ _ _ h => h) (Or.inl ⟨by rfl, ?_⟩) ?_ ?_
            rotate_left
            · intro w'
              go_simp
              with_reducible rfl
            rotate_left
            · simp only [Act.put, List.setIfInBounds_toArray, List.set_cons_zero, List.set_cons_succ, i64_w, i32_w]
              rfl
            refine done_ (by kernel_rfl) ?_
            go_wp2
            go_roundw
            case rel => exact ⟨k + 1, Nat.succ_le_of_lt hk1.out, next_i hk1.out hl2, ⟨by (with_reducible repeat (first | apply MOff.al | apply MOff.drewN | apply MOff.dr1)); exact M.out⟩, ⟨by (with_reducible repeat (first | apply Kd.C_alloc | apply Kd.C_drewN | apply Kd.C_drew)); exact H3.out⟩, ⟨by (with_reducible repeat (first | apply Kd.C_alloc | apply Kd.C_drewN | apply Kd.C_drew)); exact H5.out⟩, ⟨by repeat (first | (with_reducible first | exact HB.out | apply below_alloc | apply pw_below_drewN | apply below_drew1) | exact HB.out)⟩⟩
            case measure => exact meas hk1.out hl2
        have b0 : (xv == 251) = false := beq_eq_false_iff_ne.2 c251
        have b1 : (xv == 252) = false := beq_eq_false_iff_ne.2 c252
        go_wp2_with fail
        refine (hear_bad _ xv (n : Int) c251 c252 c253 c254 _).mono ?_
        rintro e w5 ⟨rfl, rfl⟩
        have hM : MOff wr g (agL us him) := ⟨S, hmm.out, HR.out, HO.out⟩
        by_cases c9 : xv ≥ 253
        all_goals
          go_wp2
          go_roundw
          case rel => exact ⟨k + 1, Nat.succ_le_of_lt hk1.out, next_i hk1.out hl2, ⟨by (with_reducible repeat (first | apply MOff.al | apply MOff.drewN | apply MOff.dr1)); exact hM⟩, ⟨by (with_reducible repeat (first | apply Kd.C_drewN | apply Kd.C_drew)); exact H3a.out⟩, ⟨by (with_reducible repeat (first | apply Kd.C_drewN | apply Kd.C_drew)); exact H5a.out⟩, ⟨by (with_reducible repeat (first | apply pw_below_drewN | apply below_drew1)); exact HBa.out⟩⟩
          case measure => exact meas hk1.out hl2
    · have cb : decide ((k : Int) < (l2.length : Int)) = false := decide_eq_false (by omega)
      go_wp2
      go_ret
      exact ⟨rfl, HB.out⟩
end Go.Proofs.Ytaabojppahcejaa.Op
