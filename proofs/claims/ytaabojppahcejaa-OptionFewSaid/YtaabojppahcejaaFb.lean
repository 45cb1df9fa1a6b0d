/- option: OptionFew, the walk. -/
import Derived.Test.YtaabojppahcejaaFa
import Derived.Deep.CutBlock
import Derived.Deep.RegionWith
import Derived.BigQuiet
import Derived.Deep.QuietTactic
namespace Go.Proofs.Ytaabojppahcejaa.Op
open Go.RowKit Go.Proofs.YtaabojppahcejaaW.PrintWords Go.Proofs.YtaabojppahcejaaW.PrintLast Go.Proofs.YtaabojppahcejaaW.PrintMore Go.Proofs.Ytaabojppahcejaa.POp
set_option linter.unusedVariables false
set_option linter.unusedSimpArgs false
theorem u8_rng' {x : Int} (h : (Lit.int .u8 x).wf = true) : 0 ≤ x ∧ x ≤ 255 := by
  simp only [Lit.wf, IntKind.min, IntKind.max, IntKind.signed, IntKind.bits, Bool.and_eq_true, decide_eq_true_eq] at h
  simp at h
  omega
theorem take_rng' {l : List Int} (h : ∀ x ∈ l, (Lit.int .u8 x).wf = true) (m : Nat) : ∀ x ∈ l.take m, 0 ≤ x ∧ x ≤ 255 := fun x hx => u8_rng' (h x (List.mem_of_mem_take hx))
def FewInv (W : World) (g gh gs : Nat) (A : Nat → Nat → Bool) (k : Nat) : Prop :=
  ∃ Hh Hs, CIs W gh Hh ∧ CIs W gs Hs ∧ (∀ n, Hs n ≤ Hh n ∧ Hh n ≤ k) ∧ MR W g A
theorem few_start {W : World} {g gh gs : Nat} {A : Nat → Nat → Bool} (h1 : CIs W gh (fun _ => 0)) (h2 : CIs W gs (fun _ => 0)) (h : MR W g A) : FewInv W g gh gs A 0 :=
  ⟨_, _, h1, h2, fun _ => ⟨Nat.le_refl _, Nat.le_refl _⟩, h⟩
theorem MR.below {W W' : World} {g : Nat} {A : Nat → Nat → Bool} (h : MR W g A) (hb : Below W.heap.size W W') : MR W' g A := by
  obtain ⟨S, h1, h2⟩ := h
  exact ⟨S, h1.below hb, h2⟩
theorem FewInv.below {W W' : World} {g gh gs k : Nat} {A : Nat → Nat → Bool} (h : FewInv W g gh gs A k) (hb : Below W.heap.size W W') : FewInv W' g gh gs A k := by
  obtain ⟨Hh, Hs, h1, h2, h3, h4⟩ := h
  exact ⟨Hh, Hs, h1.below hb, h2.below hb, h3, h4.below hb⟩
theorem FewInv.dr1 {W : World} {g gh gs k : Nat} {A : Nat → Nat → Bool} (h : FewInv W g gh gs A k) : FewInv W.drew g gh gs A k := h.below (below_drew (Below.refl _ _))
theorem FewInv.drN {W : World} {g gh gs k : Nat} {A : Nat → Nat → Bool} (m : Nat) (h : FewInv W g gh gs A k) : FewInv (W.drewN m) g gh gs A k := h.below (pw_below_drewN (Below.refl _ _) m)
theorem FewInv.al {W : World} {g gh gs k : Nat} {A : Nat → Nat → Bool} (o : Obj) (h : FewInv W g gh gs A k) : FewInv (W.alloc o) g gh gs A k := h.below (below_alloc (Below.refl _ _) o)
theorem MR.far {W : World} {g : Nat} {A : Nat → Nat → Bool} (h : MR W g A) {p : Addr} (hp : g ≠ p.block) (u : Value) : MR (W.setCell p u) g A := by
  obtain ⟨S, ⟨cs, hb, h1, h2⟩, hr⟩ := h
  exact ⟨S, ⟨cs, blk_far hb hp u, h1, h2⟩, hr⟩
theorem cell_far {W : World} {p q : Addr} {v : Value} (u : Value) (h : W.cell? p = some v) (hne : p.block ≠ q.block) : (W.setCell q u).cell? p = some v := by
  have := Below.heap_setCell W q u p.block hne
  unfold World.cell? at h ⊢
  rw [this]; exact h
theorem blk_new1 (W : World) (o o' : Obj) : (((W.alloc o).drew).alloc o').heap[W.heap.size + 1]? = some o' := by
  have := blk_new (W.alloc o).drew o'
  simpa using this
theorem few_step {w w5 : World} {g gh gs n k d : Nat} {A : Nat → Nat → Bool} {Hh Hs : Nat → Nat} (h1 : CIs w5 gh Hh) (h2 : CIs w5 gs Hs) (hH : ∀ n, Hs n ≤ Hh n ∧ Hh n ≤ k) (hd : d ≤ 1) (hn : n < 256) (M : MR w5 g A) (n1 : gh ≠ g) (n2 : gs ≠ g) (n3 : gh ≠ gs)
    {a b : Int} (ha : a = ((Hh n + 1 : Nat) : Int)) (hb : b = ((Hs n + d : Nat) : Int)) (hB : Below w.heap.size w w5) (hw1 : w.heap.size ≤ gh) (hw2 : w.heap.size ≤ gs) :
    ∃ w6, ((w5.setCell ⟨gh, n, none⟩ (.int .i64 a)).setCell ⟨gs, n, none⟩ (.int .i64 b)) = w6 ∧ FewInv w6 g gh gs A (k + 1) ∧ w6.cell? ⟨gh, n, none⟩ = some (.int .i64 a) ∧ w6.cell? ⟨gs, n, none⟩ = some (.int .i64 b) ∧ Below w.heap.size w w6 ∧
      (∀ (p : Addr) (v : Value), w5.cell? p = some v → p.block ≠ gh → p.block ≠ gs → w6.cell? p = some v) := by
  subst ha hb
  have c1 := h1.set n 1 hn
  have c2 := (h2.far (p := ⟨gh, n, none⟩) (Ne.symm n3) (.int .i64 ((Hh n + 1 : Nat) : Int))).set n d hn
  have c3 := c1.far (p := ⟨gs, n, none⟩) n3 (.int .i64 ((Hs n + d : Nat) : Int))
  refine ⟨_, rfl, ⟨_, _, c3, c2, fun m => ?_, (M.far (p := ⟨gh, n, none⟩) (Ne.symm n1) _).far (p := ⟨gs, n, none⟩) (Ne.symm n2) _⟩, ?_, ?_, below_set (below_set hB hw1) hw2, fun p v h a b => cell_far (q := ⟨gs, n, none⟩) _ (cell_far (q := ⟨gh, n, none⟩) _ h a) b⟩
  · have := hH m
    unfold bump
    split <;> omega
  · have := (c3.cell n hn).1
    rw [this]
    simp [bump]
  · have := (c2.cell n hn).1
    rw [this]
    simp [bump]
theorem C_three {W : World} {g : Nat} {a b d : Int} (h : W.heap[g]? = some (.cells #[.int .u8 a, .int .u8 b, .int .u8 d] 5 (0, 0))) : Kd.C (Kd.int .u8) W (some ⟨g, 0, none⟩) 3 [a, b, d] :=
  ⟨rfl, by omega, fun _ => ⟨_, rfl, fun j p hj => by
    match j, hj with
    | 0, hj =>
      simp only [List.getElem?_cons_zero, Option.some.injEq] at hj
      subst hj
      exact ⟨[.int .u8 a], rfl, rfl, fun i u hu => by
        match i, hu with
        | 0, hu => exact (blk_cell h 0).trans (by simpa using hu)⟩
    | 1, hj =>
      simp only [List.getElem?_cons_succ, List.getElem?_cons_zero, Option.some.injEq] at hj
      subst hj
      exact ⟨[.int .u8 b], rfl, rfl, fun i u hu => by
        match i, hu with
        | 0, hu => exact (blk_cell h 1).trans (by simpa using hu)⟩
    | 2, hj =>
      simp only [List.getElem?_cons_succ, List.getElem?_cons_zero, Option.some.injEq] at hj
      subst hj
      exact ⟨[.int .u8 d], rfl, rfl, fun i u hu => by
        match i, hu with
        | 0, hu => exact (blk_cell h 2).trans (by simpa using hu)⟩⟩⟩
theorem bytes_of (x : Int) (n : Int) (w : World) : Calls Try.prog 16 #[.agg #[.int .u8 x, .int .u8 n]] w fun e w' => ∃ A c, e = .returned (.slice A 3 c) ∧ 3 ≤ c ∧ Kd.C (Kd.int .u8) w' A 3 [255, x, n] ∧ Below w.heap.size w w' :=
  (option_Message_Bytes.calls x n [255, x, n] w rfl).mono fun e w' ⟨v, he, hR, hb⟩ => by
    obtain ⟨A, c, rfl, hl, hC⟩ := Kd.R_reads hR
    exact ⟨A, c, he, hl, hC, hb⟩
theorem same_of (A0 : Option Addr) (c0 : Nat) (A1 : Option Addr) (c1 : Nat) (l : List Int) (w : World) (h0 : Kd.C (Kd.int .u8) w A0 3 l) (hc0 : 3 ≤ c0) (h1 : Kd.C (Kd.int .u8) w A1 3 l) (hc1 : 3 ≤ c1) :
    Calls Try.prog 15 #[.slice A0 3 c0, .slice A1 3 c1] w fun e w' => e = .returned (.bool true) ∧ ∃ m, w' = w.drewN m := by
  have hl : l.length = 3 := h0.1
  have := vitrineref01_Same.calls A0 c0 l A1 c1 l true w (by rw [hl]; exact h0) (by omega) (by rw [hl]; exact h1) (by omega) (by simp [vitrineref01_Same.f])
  rw [hl] at this
  exact this.mono fun e w' ⟨he, hd⟩ => ⟨he, hd.out⟩
set_option maxHeartbeats 4000000 in
set_option maxRecDepth 100000 in
theorem few_walk (A0 : Option Addr) (c0 : Nat) (l0 : List Int) (A1 : Option Addr) (c1 : Nat) (l1 : List Int) (A2 : Option Addr) (c2 : Nat) (l2 : List S29) (w : World)
    (h0 : Kd.C (Kd.int .u8) w A0 l0.length l0) (hc0 : l0.length ≤ c0) (ok0 : l0.length ≤ maxLen ∧ ∀ x ∈ l0, (Lit.int .u8 x).wf = true)
    (h1 : Kd.C (Kd.int .u8) w A1 l1.length l1) (hc1 : l1.length ≤ c1) (ok1 : l1.length ≤ maxLen ∧ ∀ x ∈ l1, (Lit.int .u8 x).wf = true)
    (h2 : Kd.C k29 w A2 l2.length l2) (hc2 : l2.length ≤ c2) (ok2 : l2.length ≤ maxLen ∧ ∀ x ∈ l2, True ∧ (Lit.int .u8 x.v).wf = true ∧ (Lit.int .u8 x.o).wf = true ∧ (Lit.int .i64 x.s).wf = true ∧ True) :
    Calls Try.prog 4 #[.slice A0 l0.length c0, .slice A1 l1.length c1, .slice A2 l2.length c2] w fun e w' => e = .returned (.bool true) ∧ Below w.heap.size w w' := by
  have H0 := Aside0.mk h0
  have H1 := Aside0.mk h1
  have H2 := Aside0.mk h2
  have K0 := Aside0.mk ok0
  have K1 := Aside0.mk ok1
  have K2 := Aside0.mk ok2
  have hl2 : l2.length ≤ 9223372036854775807 := by have := ok2.1; unfold maxLen at this; omega
  clear h0 h1 h2 ok0 ok1 ok2
  go_enter Try.func4, Try.ntmps4
  go_wp2_with fail
  refine (awake_of _).mono ?_
  rintro e w1 ⟨rfl, hb⟩
  have B1 := Aside0.mk hb
  clear hb
  go_wp2_with fail
  refine (cut_of 20 (by decide) A0 c0 l0 _ (Kd.C_below H0.out B1.out) hc0).mono ?_
  rintro e w2 ⟨us, A3, c3, rfl, hus, hc3, h3, hf3, hb⟩
  have B2 := Aside0.mk (B1.out.trans (hb.mono (below_size B1.out)))
  have H3 := Aside0.mk h3
  clear hb h3 hf3 H0
  go_wp2_with fail
  refine (cut_of 20 (by decide) A1 c1 l1 _ (Kd.C_below H1.out B2.out) hc1).mono ?_
  rintro e w3 ⟨him, A4, c4, rfl, hhim, hc4, h4, hf4, hb⟩
  have B3 := Aside0.mk (B2.out.trans (hb.mono (below_size B2.out)))
  have H3' := Aside0.mk (Kd.C_below H3.out hb)
  have H4 := Aside0.mk h4
  clear hb h4 hf4 H1 H3
  have hb1 := Aside0.mk (by rw [hus.out]; exact take_rng' K0.out.2 20 : ∀ x ∈ us, 0 ≤ x ∧ x ≤ 255)
  have hb2 := Aside0.mk (by rw [hhim.out]; exact take_rng' K1.out.2 20 : ∀ x ∈ him, 0 ≤ x ∧ x ≤ 255)
  have hl3 : us.length ≤ 20 := by rw [hus.out, List.length_take]; omega
  have hl4 : him.length ≤ 20 := by rw [hhim.out, List.length_take]; omega
  clear hus hhim K0 K1
  go_wp2_with fail
  refine (new_of A3 c3 us A4 c4 him _ H3'.out hc3 H4.out hc4 hb1.out hb2.out (by omega) (by omega)).mono ?_
  rintro e w4 ⟨g, rfl, hg, hm, hb⟩
  have B4 := Aside0.mk (B3.out.trans (hb.mono (below_size B3.out)))
  have hgw : w.heap.size ≤ g := Nat.le_trans (below_size B3.out) hg
  have hg4 := hm.lt
  have M : Aside0 (MR w4 g (agL us him)) := ⟨⟨_, hm, rng0⟩⟩
  clear hb hm H3' H4 B1 B2 B3 hg hb1 hb2 hl3 hl4
  generalize agL us him = A at *
  go_wp2_with (first
    | ((with_reducible refine gate_dst (N := 8) rfl ?_); refine box_event ?hg (N := 8) ?hd (cs := Z39) (t := 39) ?hr ?_; (case hd => rfl); (case hg => rfl); (case hr => exact exec39 _ _ _ _ _ _); intro gh hgh w5 hbox hb; have M5 := Aside0.mk (M.out.below hb); have B5 := Aside0.mk (below_step B4.out hb); have C5 := Aside0.mk (CIs.new hbox); have hgh4 : w4.heap.size ≤ gh := Nat.le_of_eq hgh.symm; have hgw5 : w.heap.size ≤ gh := Nat.le_trans (below_size B4.out) hgh4; clear hgh hbox hb M B4)
    | ((with_reducible refine gate_dst (N := 9) rfl ?_); refine box_event ?hg (N := 9) ?hd (cs := Z39) (t := 39) ?hr ?_; (case hd => rfl); (case hg => rfl); (case hr => exact exec39 _ _ _ _ _ _); intro gs hgs w6 hbox hb; have F6 := Aside0.mk (few_start (C5.out.below hb) (CIs.new hbox) (M5.out.below hb)); have B6 := Aside0.mk (below_step B5.out hb); have hgs4 : gh < gs := Nat.lt_of_lt_of_le C5.out.lt (Nat.le_of_eq hgs.symm); clear hgs hbox hb))
  clear M5 C5 B5
  have hgs6 : w.heap.size ≤ gs := by omega
  have hn1 : gh ≠ g := by omega
  have hn2 : gs ≠ g := by omega
  have hn3 : gh ≠ gs := by omega
  go_loopw [24] (fun v wr => ∃ k : Nat, k ≤ l2.length ∧ v = .int .i64 (k : Int) ∧ Aside0 (FewInv wr g gh gs A k) ∧ Aside0 (Below w.heap.size w wr)) (fun v _ => l2.length - (intOf v).toNat)
  case atStart => exact ⟨0, by omega, rfl, F6, B6⟩
  case round =>
    clear F6 B6
    obtain ⟨k, hk, rfl, F, HB⟩ := hrel
    by_cases c : k < l2.length
    · have cb : decide ((k : Int) < (l2.length : Int)) = true := decide_eq_true (by omega)
      obtain ⟨ad, e1, x0, x1, x2, x3, x4⟩ := at_29 (Kd.C_below H2.out HB.out) (k : Int) (by omega) (by omega)
      cases e1
      simp only [Int.toNat_natCast] at x0 x1 x2 x3 x4
      have hx := Aside0.mk (K2.out.2 (l2.getD k z29) (by rw [List.getD_eq_getElem?_getD, List.getElem?_eq_getElem c]; exact List.getElem_mem c))
      generalize l2.getD k z29 = x at *
      obtain ⟨xh, xv, xo, xs, xt⟩ := x
      dsimp only at x0 x1 x2 x3 x4 hx
      have p0 : (0 ≤ (k : Int)) = True := eq_true (by omega)
      have q0 : ((k : Int) < (l2.length : Int)) = True := eq_true (by omega)
      have hk1 := Aside0.mk c
      by_cases c60 : (k : Int) ≥ 60
      · have c60b : decide ((k : Int) ≥ 60) = true := decide_eq_true c60
        clear c60 c
        go_wp2
        go_ret
        exact ⟨rfl, by repeat (first | (with_reducible first | exact HB.out | apply below_alloc | apply pw_below_drewN | apply below_drew1) | exact HB.out)⟩
      · have c60b : decide ((k : Int) ≥ 60) = false := decide_eq_false c60
        have hk60 := Aside0.mk c60
        obtain ⟨n, hn, hxn⟩ : ∃ n : Nat, n < 256 ∧ xo = (n : Int) := by
          have := u8_rng' hx.out.2.2.1
          exact ⟨xo.toNat, by omega, by omega⟩
        subst hxn
        clear c60 c hx
        have F1 := Aside0.mk (F.out.below (below_alloc (Below.refl wr.heap.size wr) (.cells #[.bool xh, .int .u8 xv, .int .u8 (n : Int), .int .i64 xs, .bool xt] 29)))
        have BX := Aside0.mk (blk_new wr (.cells #[.bool xh, .int .u8 xv, .int .u8 (n : Int), .int .i64 xs, .bool xt] 29))
        have HBa := Aside0.mk (below_alloc HB.out (.cells #[.bool xh, .int .u8 xv, .int .u8 (n : Int), .int .i64 xs, .bool xt] 29))
        have hne : wr.heap.size ≠ g := by obtain ⟨Hh, Hs, a1, a2, a3, S, a4, a5⟩ := F.out; have := a4.lt; omega
        have hlt2 : gh < wr.heap.size := by obtain ⟨Hh, Hs, a1, a2, a3, a4⟩ := F.out; exact a1.lt
        have hne2 : wr.heap.size ≠ gh := by omega
        have hlt3 : gs < wr.heap.size := by obtain ⟨Hh, Hs, a1, a2, a3, a4⟩ := F.out; exact a2.lt
        have hne3 : wr.heap.size ≠ gs := by omega
        clear F
        cases xh with
        | true =>
          go_wp2_with fail
          refine (hear_any g xv n hn A _ (by obtain ⟨Hh, Hs, a1, a2, a3, a4⟩ := F1.out; exact a4)).mono ?_
          rintro e w5 ⟨u, er, L, rfl, hu, hL, hm, hkp, hb⟩
          obtain ⟨Hh, Hs, C1, C2, hH, _⟩ := F1.out
          have hF1 := hH n
          have C1' := Aside0.mk (C1.keep hkp hn1)
          have C2' := Aside0.mk (C2.keep hkp hn2)
          have M5 : Aside0 (MR w5 g A) := ⟨hm⟩
          have HH := Aside0.mk hH
          have HB5 := Aside0.mk (HBa.out.trans (hb.mono hgw))
          have b2 := keep_cell hkp ((blk_cell BX.out 2).trans rfl) hne
          obtain ⟨y1, y2⟩ := (C1.keep hkp hn1).cell n hn
          obtain ⟨y3, y4⟩ := (C2.keep hkp hn2).cell n hn
          have ha : (Hh n : Int) ≤ 60 := by have := hk60.out; omega
          have hbb : (Hs n : Int) ≤ 60 := by have := hk60.out; omega
          have hcmp1 : decide ((Hs n : Int) + 1 > (Hh n : Int) + 1) = false := decide_eq_false (by omega)
          have hcmp3 : decide (Hh n < Hs n) = false := decide_eq_false (by omega)
          have hcmp4 : decide ((Hh n : Int) < (Hs n : Int)) = false := decide_eq_false (by omega)
          have hcmp2 : decide ((Hs n : Int) > (Hh n : Int) + 1) = false := decide_eq_false (by omega)
          clear C1 C2 hH F1 hm hkp hb BX HBa hF1
          replace hu := Kd.R_lower hu (base' := wr.heap.size) (by simp)
          generalize wr.heap.size = gb at *
          rcases hL with rfl | ⟨x, rfl⟩
          · obtain ⟨gu, cu, rfl⟩ := row_zero hu
            clear hu
            obtain ⟨w6, e6, F6, v1, v2, B6, hf⟩ := few_step (a := (Hh n : Int) + 1) (b := (Hs n : Int)) C1'.out C2'.out HH.out (d := 0) (by decide) hn M5.out hn1 hn2 hn3 rfl rfl HB5.out hgw5 hgs6
            have F6' := Aside0.mk F6
            have B6' := Aside0.mk B6
            have E6 := Aside0.mk e6
            have b6 := hf _ _ b2 hne2 hne3
            clear F6 B6 e6 hf
            go_wp2
            rw [E6.out]
            clear C1' C2' M5 HH HB5 E6
            go_quiet (fail)
            go_wp2
            go_loopw [78] (fun v wr2 => ∃ j : Nat, j ≤ 0 ∧ v = .int .i64 (j : Int) ∧ Aside0 (FewInv wr2 g gh gs A (k + 1)) ∧ Aside0 (Below w.heap.size w wr2)) (fun v _ => 0 - (intOf v).toNat)
            case atStart => exact ⟨0, by omega, rfl, ⟨by (with_reducible repeat (first | apply FewInv.drN | apply FewInv.dr1)); exact F6'.out⟩, ⟨by repeat (first | (with_reducible first | exact B6'.out | apply pw_below_drewN | apply below_drew1) | exact B6'.out)⟩⟩
            case round =>
              clear F6' B6' b6
              obtain ⟨j, hj, rfl, F6', B6'⟩ := hrel
              obtain rfl : j = 0 := by omega
              go_wp2
              go_roundw
              case rel => exact ⟨k + 1, Nat.succ_le_of_lt hk1.out, next_i hk1.out hl2, ⟨F6'.out⟩, ⟨B6'.out⟩⟩
              case measure => exact meas hk1.out hl2
          · obtain ⟨gu, cu, rfl, z0, z1, hgu, hgl⟩ := row_one hu
            obtain ⟨w6, e6, F6, v1, v2, B6, hf⟩ := few_step (a := (Hh n : Int) + 1) (b := (Hs n : Int) + 1) C1'.out C2'.out HH.out (d := 1) (by decide) hn M5.out hn1 hn2 hn3 rfl rfl HB5.out hgw5 hgs6
            have F6' := Aside0.mk F6
            have B6' := Aside0.mk B6
            have E6 := Aside0.mk e6
            have b6 := hf _ _ b2 hne2 hne3
            have s0 := hf _ _ z0 (by show gu ≠ gh; omega) (by show gu ≠ gs; omega)
            have s1 := hf _ _ z1 (by show gu ≠ gh; omega) (by show gu ≠ gs; omega)
            clear hu hgu hgl
            clear F6 B6 e6 hf
            go_wp2
            rw [E6.out]
            clear C1' C2' M5 HH HB5 E6
            go_quiet (fail)
            go_wp2
            go_loopw [78] (fun v wr2 => ∃ j : Nat, j ≤ 1 ∧ v = .int .i64 (j : Int) ∧ Aside0 (FewInv wr2 g gh gs A (k + 1)) ∧ Aside0 (Below w.heap.size w wr2) ∧ Aside0 (wr2.cell? ⟨gb, 2, none⟩ = some (.int .u8 (n : Int))) ∧ Aside0 (j = 0 → wr2.cell? ⟨gu, 0, none⟩ = some (.int .u8 x)) ∧ Aside0 (j = 0 → wr2.cell? ⟨gu, 1, none⟩ = some (.int .u8 (n : Int)))) (fun v _ => 1 - (intOf v).toNat)
            case atStart => exact ⟨0, by omega, rfl, ⟨by (with_reducible repeat (first | apply FewInv.drN | apply FewInv.dr1)); exact F6'.out⟩, ⟨by repeat (first | (with_reducible first | exact B6'.out | apply pw_below_drewN | apply below_drew1) | exact B6'.out)⟩, ⟨by (with_reducible repeat (first | apply cell_drN | apply cell_dr1)); exact b6⟩, ⟨fun _ => by (with_reducible repeat (first | apply cell_drN | apply cell_dr1)); exact s0⟩, ⟨fun _ => by (with_reducible repeat (first | apply cell_drN | apply cell_dr1)); exact s1⟩⟩
            case round =>
              clear F6' B6' b6 s0 s1
              obtain ⟨j, hj, rfl, F6', B6', b6', s0', s1'⟩ := hrel
              rcases (show j = 0 ∨ j = 1 by omega) with rfl | rfl
              · have b6 := b6'.out
                have s0 := s0'.out rfl
                have s1 := s1'.out rfl
                clear b6' s0' s1' hj
                have b6a := cell_al (.cells #[.int .u8 x, .int .u8 (n : Int)] 37) b6
                go_wp2
                -- REG
                refine start_ (n := 16) (S := fun w' => w'.cell? ⟨gb, 2, none⟩ = some (.int .u8 (n : Int)) ∧ w'.cell? ⟨wr.heap.size, 0, none⟩ = some (.int .u8 x) ∧ w'.cell? ⟨wr.heap.size, 1, none⟩ = some (.int .u8 (n : Int))) (ds := []) #[false, false, false, false, false, false, false, false, false, false, false, false, false, false, false, false] (by kernel_rfl) rfl rfl ⟨cell_dr1 b6a, cell_dr1 (blk_cell (blk_new wr (.cells #[.int .u8 x, .int .u8 (n : Int)] 37)) 0), cell_dr1 (blk_cell (blk_new wr (.cells #[.int .u8 x, .int .u8 (n : Int)] 37)) 1)⟩ (fun hHeld => ?_)
                refine pure_ (i := 0) (N := some 82) (v := ?_) (a' := ?_) #[true, false, false, false, false, false, false, false, false, false, false, false, false, false, false, false] rfl rfl (by kernel_rfl) (fun _ _ _ h => h) (Or.inl ⟨by rfl, ?_⟩) ?_ ?_
                rotate_left
                · intro w'
                  go_simp
                  with_reducible rfl
                rotate_left
                · simp only [Act.put, List.setIfInBounds_toArray, List.set_cons_zero, List.set_cons_succ, i64_w, i32_w]
                  rfl
                refine pure_ (i := 2) (N := some 84) (v := ?_) (a' := ?_) #[true, false, true, false, false, false, false, false, false, false, false, false, false, false, false, false] rfl rfl (by kernel_rfl) (fun _ _ _ h => h) (Or.inl ⟨by rfl, ?_⟩) ?_ ?_
                rotate_left
                · intro w'
                  go_simp
                  with_reducible rfl
                rotate_left
                · simp only [Act.put, List.setIfInBounds_toArray, List.set_cons_zero, List.set_cons_succ, i64_w, i32_w]
                  rfl
                refine take_ (i := 1) (N := some 83) (v := ?_) (a' := ?_) #[true, true, true, false, false, false, false, false, false, false, false, false, false, false, false, false] rfl rfl (by kernel_rfl) (fun _ _ _ h => h) (Or.inl ⟨by rfl, ?_⟩) hHeld ?_ ?_
                rotate_left
                · rintro w' ⟨s0, s1, s2⟩
                  go_simp
                  with_reducible rfl
                rotate_left
                · simp only [Act.put, List.setIfInBounds_toArray, List.set_cons_zero, List.set_cons_succ, i64_w, i32_w]
                  rfl
                refine take_ (i := 3) (N := some 85) (v := ?_) (a' := ?_) #[true, true, true, true, false, false, false, false, false, false, false, false, false, false, false, false] rfl rfl (by kernel_rfl) (fun _ _ _ h => h) (Or.inl ⟨by rfl, ?_⟩) hHeld ?_ ?_
                rotate_left
                · rintro w' ⟨s0, s1, s2⟩
                  go_simp
                  with_reducible rfl
                rotate_left
                · simp only [Act.put, List.setIfInBounds_toArray, List.set_cons_zero, List.set_cons_succ, i64_w, i32_w]
                  rfl
                refine pure_ (i := 4) (N := some 86) (v := ?_) (a' := ?_) #[true, true, true, true, true, false, false, false, false, false, false, false, false, false, false, false] rfl rfl (by kernel_rfl) (fun _ _ _ h => h) (Or.inl ⟨by rfl, ?_⟩) ?_ ?_
                rotate_left
                · intro w'
                  go_simp
                  with_reducible rfl
                rotate_left
                · simp only [Act.put, List.setIfInBounds_toArray, List.set_cons_zero, List.set_cons_succ, i64_w, i32_w]
                  rfl
                refine pure_ (i := 5) (N := some 87) (v := ?_) (a' := ?_) #[true, true, true, true, true, true, false, false, false, false, false, false, false, false, false, false] rfl rfl (by kernel_rfl) (fun _ _ _ h => h) (Or.inl ⟨by rfl, ?_⟩) ?_ ?_
                rotate_left
                · intro w'
                  go_simp
                  with_reducible rfl
                rotate_left
                · simp only [Act.put, List.setIfInBounds_toArray, List.set_cons_zero, List.set_cons_succ, i64_w, i32_w]
                  rfl
                refine pure_ (i := 8) (N := some 90) (v := ?_) (a' := ?_) #[true, true, true, true, true, true, false, false, true, false, false, false, false, false, false, false] rfl rfl (by kernel_rfl) (fun _ _ _ h => h) (Or.inl ⟨by rfl, ?_⟩) ?_ ?_
                rotate_left
                · intro w'
                  go_simp
                  with_reducible rfl
                rotate_left
                · simp only [Act.put, List.setIfInBounds_toArray, List.set_cons_zero, List.set_cons_succ, i64_w, i32_w]
                  rfl
                refine pure_ (i := 10) (N := some 92) (v := ?_) (a' := ?_) #[true, true, true, true, true, true, false, false, true, false, true, false, false, false, false, false] rfl rfl (by kernel_rfl) (fun _ _ _ h => h) (Or.inl ⟨by rfl, ?_⟩) ?_ ?_
                rotate_left
                · intro w'
                  go_simp
                  with_reducible rfl
                rotate_left
                · simp only [Act.put, List.setIfInBounds_toArray, List.set_cons_zero, List.set_cons_succ, i64_w, i32_w]
                  rfl
                refine take_ (i := 6) (N := some 88) (v := ?_) (a' := ?_) #[true, true, true, true, true, true, true, false, true, false, true, false, false, false, false, false] rfl rfl (by kernel_rfl) (fun _ _ _ h => h) (Or.inl ⟨by rfl, ?_⟩) hHeld ?_ ?_
                rotate_left
                · rintro w' ⟨s0, s1, s2⟩
                  go_simp
                  with_reducible rfl
                rotate_left
                · simp only [Act.put, List.setIfInBounds_toArray, List.set_cons_zero, List.set_cons_succ, i64_w, i32_w]
                  rfl
                refine take_ (i := 9) (N := some 91) (v := ?_) (a' := ?_) #[true, true, true, true, true, true, true, false, true, true, true, false, false, false, false, false] rfl rfl (by kernel_rfl) (fun _ _ _ h => h) (Or.inl ⟨by rfl, ?_⟩) hHeld ?_ ?_
                rotate_left
                · rintro w' ⟨s0, s1, s2⟩
                  go_simp
                  with_reducible rfl
                rotate_left
                · simp only [Act.put, List.setIfInBounds_toArray, List.set_cons_zero, List.set_cons_succ, i64_w, i32_w]
                  rfl
                refine take_ (i := 11) (N := some 93) (v := ?_) (a' := ?_) #[true, true, true, true, true, true, true, false, true, true, true, true, false, false, false, false] rfl rfl (by kernel_rfl) (fun _ _ _ h => h) (Or.inl ⟨by rfl, ?_⟩) hHeld ?_ ?_
                rotate_left
                · rintro w' ⟨s0, s1, s2⟩
                  go_simp
                  with_reducible rfl
                rotate_left
                · simp only [Act.put, List.setIfInBounds_toArray, List.set_cons_zero, List.set_cons_succ, i64_w, i32_w]
                  rfl
                refine join_ (σ := Value × Value) 3 #[true, true, true, true, true, true, true, true, true, true, true, true, true, false, false, false] (fun s => [(89, s.1), (94, s.2)]) (fun s w' => ∃ A7 c7 A8, s.1 = Value.slice A7 3 c7 ∧ s.2 = Value.slice A8 3 3 ∧ 3 ≤ c7 ∧ Kd.C (Kd.int .u8) w' A7 3 [255, x, (n : Int)] ∧ Kd.C (Kd.int .u8) w' A8 3 [255, x, (n : Int)] ∧ Below w.heap.size w w' ∧ FewInv w' g gh gs A (k + 1) ∧ w'.cell? ⟨gb, 2, none⟩ = some (.int .u8 (n : Int)) ∧ w'.cell? ⟨wr.heap.size, 0, none⟩ = some (.int .u8 x) ∧ w'.cell? ⟨wr.heap.size, 1, none⟩ = some (.int .u8 (n : Int))) ?_ ?_
                rotate_left
                · intro hCont
                  refine two_ (i := 7) (j := 12) (Ni := some 89) (Nj := some 94) #[true, true, true, true, true, true, true, true, true, true, true, true, false, false, false, false] #[true, true, true, true, true, true, true, false, true, true, true, true, true, false, false, false] rfl rfl rfl rfl (by kernel_rfl) (by decide) (by decide) (fun K hK => ?_) (fun K hK => ?_)
                  · skip
                    refine goes_ Try.func16 (by kernel_rfl) rfl #[.agg #[.int .u8 x, .int .u8 (n : Int)]] (by rfl) rfl rfl (by simp only [List.map_toArray, List.map_cons, List.map_nil]; rfl) ?_
                    with_reducible refine (bytes_of x (n : Int) _).mono ?_
                    rintro e w7 ⟨A7, c7, rfl, hc7, h7, hb7⟩
                    refine ⟨_, rfl, ?_⟩
                    refine hK.out _ _ ⟨pw_cell_below hb7 hHeld.1, pw_cell_below hb7 hHeld.2.1, pw_cell_below hb7 hHeld.2.2⟩ (fun hHeld => ?_)
                    clear hK K
                    refine norm_ (a' := ?_) ?_ ?_
                    rotate_left
                    · show Act.put _ (some 89) _ = _
                      simp only [Act.put, List.setIfInBounds_toArray, List.set_cons_zero, List.set_cons_succ, i64_w, i32_w]
                      rfl
                    refine one_ (i := 12) (N := some 94) #[true, true, true, true, true, true, true, true, true, true, true, true, true, false, false, false] rfl rfl (by kernel_rfl) (by decide) (fun K hK => ?_)
                    refine value_ (w1 := ?_) (v := ?_) (by rfl) rfl ?_ ?_
                    rotate_left 2
                    · go_simp
                      constructor
                      · rfl
                      · rfl
                    refine hK.out _ _ ⟨cell_al _ hHeld.1, cell_al _ hHeld.2.1, cell_al _ hHeld.2.2⟩ (fun hHeld => ?_)
                    clear hK K
                    refine norm_ (a' := ?_) ?_ ?_
                    rotate_left
                    · show Act.put _ (some 94) _ = _
                      simp only [Act.put, List.setIfInBounds_toArray, List.set_cons_zero, List.set_cons_succ, i64_w, i32_w]
                      rfl
                    exact norm_ (by simp only [putAll, Act.put, List.setIfInBounds_toArray, List.set_cons_zero, List.set_cons_succ]) (hCont (Value.slice A7 3 c7, Value.slice (some ⟨w7.heap.size, 0, none⟩) 3 3) _ ⟨A7, c7, _, rfl, rfl, hc7, Kd.C_alloc h7 _, C_three (blk_new _ _), below_alloc (below_step (below_drew (below_alloc B6'.out _)) hb7) _, FewInv.al _ (FewInv.below (FewInv.dr1 (FewInv.al _ F6'.out)) hb7), hHeld⟩)
                  · skip
                    refine value_ (w1 := ?_) (v := ?_) (by rfl) rfl ?_ ?_
                    rotate_left 2
                    · go_simp
                      constructor
                      · rfl
                      · rfl
                    refine hK.out _ _ ⟨cell_al _ hHeld.1, cell_al _ hHeld.2.1, cell_al _ hHeld.2.2⟩ (fun hHeld => ?_)
                    clear hK K
                    refine norm_ (a' := ?_) ?_ ?_
                    rotate_left
                    · show Act.put _ (some 94) _ = _
                      simp only [Act.put, List.setIfInBounds_toArray, List.set_cons_zero, List.set_cons_succ, i64_w, i32_w]
                      rfl
                    refine one_ (i := 7) (N := some 89) #[true, true, true, true, true, true, true, true, true, true, true, true, true, false, false, false] rfl rfl (by kernel_rfl) (by decide) (fun K hK => ?_)
                    refine goes_ Try.func16 (by kernel_rfl) rfl #[.agg #[.int .u8 x, .int .u8 (n : Int)]] (by rfl) rfl rfl (by simp only [List.map_toArray, List.map_cons, List.map_nil]; rfl) ?_
                    with_reducible refine (bytes_of x (n : Int) _).mono ?_
                    rintro e w7 ⟨A7, c7, rfl, hc7, h7, hb7⟩
                    refine ⟨_, rfl, ?_⟩
                    refine hK.out _ _ ⟨pw_cell_below hb7 hHeld.1, pw_cell_below hb7 hHeld.2.1, pw_cell_below hb7 hHeld.2.2⟩ (fun hHeld => ?_)
                    clear hK K
                    refine norm_ (a' := ?_) ?_ ?_
                    rotate_left
                    · show Act.put _ (some 89) _ = _
                      simp only [Act.put, List.setIfInBounds_toArray, List.set_cons_zero, List.set_cons_succ, i64_w, i32_w]
                      rfl
                    exact norm_ (by simp only [putAll, Act.put, List.setIfInBounds_toArray, List.set_cons_zero, List.set_cons_succ]) (hCont (Value.slice A7 3 c7, Value.slice (some ⟨wr.heap.size + 1, 0, none⟩) 3 3) _ ⟨A7, c7, _, rfl, rfl, hc7, h7, C_three (blk_below (blk_new1 _ _ _) hb7), below_step (below_alloc (below_drew (below_alloc B6'.out _)) _) hb7, FewInv.below (FewInv.al _ (FewInv.dr1 (FewInv.al _ F6'.out))) hb7, hHeld⟩)
                rintro ⟨s1, s2⟩ w9 ⟨A7, c7, A8, rfl, rfl, hc7, h7, h8, hB9, hF9, hHeld⟩
                refine norm_ (a' := ?_) ?_ ?_
                rotate_left
                · simp only [putAll, Act.put, List.setIfInBounds_toArray, List.set_cons_zero, List.set_cons_succ]
                  rfl
                refine one_ (i := 13) (N := some 95) #[true, true, true, true, true, true, true, true, true, true, true, true, true, true, false, false] rfl rfl (by kernel_rfl) (by decide) (fun K hK => ?_)
                refine goes_ Try.func15 (by kernel_rfl) rfl #[.slice A7 3 c7, .slice A8 3 3] (by rfl) rfl rfl (by simp only [List.map_toArray, List.map_cons, List.map_nil]; rfl) ?_
                with_reducible refine (same_of A7 c7 A8 3 [255, x, (n : Int)] _ h7 hc7 h8 (by omega)).mono ?_
                rintro e w8 ⟨rfl, m8, rfl⟩
                refine ⟨_, rfl, ?_⟩
                refine hK.out _ _ ⟨cell_drN m8 hHeld.1, cell_drN m8 hHeld.2.1, cell_drN m8 hHeld.2.2⟩ (fun hHeld => ?_)
                clear hK K
                refine norm_ (a' := ?_) ?_ ?_
                rotate_left
                · show Act.put _ (some 95) _ = _
                  simp only [Act.put, List.setIfInBounds_toArray, List.set_cons_zero, List.set_cons_succ, i64_w, i32_w]
                  rfl
                refine pure_ (i := 14) (N := some 96) (v := ?_) (a' := ?_) #[true, true, true, true, true, true, true, true, true, true, true, true, true, true, true, false] rfl rfl (by kernel_rfl) (fun _ _ _ h => h) (Or.inl ⟨by rfl, ?_⟩) ?_ ?_
                rotate_left
                · intro w'
                  go_simp
                  with_reducible rfl
                rotate_left
                · simp only [Act.put, List.setIfInBounds_toArray, List.set_cons_zero, List.set_cons_succ, i64_w, i32_w]
                  rfl
                refine pure_ (i := 15) (N := some 97) (v := ?_) (a' := ?_) #[true, true, true, true, true, true, true, true, true, true, true, true, true, true, true, true] rfl rfl (by kernel_rfl) (fun _ _ _ h => h) (Or.inl ⟨by rfl, ?_⟩) ?_ ?_
                rotate_left
                · intro w'
                  go_simp
                  with_reducible rfl
                rotate_left
                · simp only [Act.put, List.setIfInBounds_toArray, List.set_cons_zero, List.set_cons_succ, i64_w, i32_w]
                  rfl
                refine done_ (by kernel_rfl) ?_
                go_wp2
                go_roundw
                case rel => exact ⟨1, by omega, rfl, ⟨FewInv.drN m8 hF9⟩, ⟨pw_below_drewN hB9 m8⟩, ⟨cell_drN m8 hHeld.1⟩, ⟨fun h => absurd h (by decide)⟩, ⟨fun h => absurd h (by decide)⟩⟩
                case measure => simp [intOf]
              · clear b6' s0' s1' hj
                go_wp2
                go_roundw
                case rel => exact ⟨k + 1, Nat.succ_le_of_lt hk1.out, next_i hk1.out hl2, ⟨F6'.out⟩, ⟨B6'.out⟩⟩
                case measure => exact meas hk1.out hl2
        | false =>
          go_wp2_with fail
          refine (ask_any g xs n xt hn A _ (by obtain ⟨Hh, Hs, a1, a2, a3, a4⟩ := F1.out; exact a4)).mono ?_
          rintro e w5 ⟨u, er, L, rfl, hu, hL, hm, hkp, hb⟩
          obtain ⟨Hh, Hs, C1, C2, hH, _⟩ := F1.out
          have hF1 := hH n
          have C1' := Aside0.mk (C1.keep hkp hn1)
          have C2' := Aside0.mk (C2.keep hkp hn2)
          have M5 : Aside0 (MR w5 g A) := ⟨hm⟩
          have HH := Aside0.mk hH
          have HB5 := Aside0.mk (HBa.out.trans (hb.mono hgw))
          have b2 := keep_cell hkp ((blk_cell BX.out 2).trans rfl) hne
          obtain ⟨y1, y2⟩ := (C1.keep hkp hn1).cell n hn
          obtain ⟨y3, y4⟩ := (C2.keep hkp hn2).cell n hn
          have ha : (Hh n : Int) ≤ 60 := by have := hk60.out; omega
          have hbb : (Hs n : Int) ≤ 60 := by have := hk60.out; omega
          have hcmp1 : decide ((Hs n : Int) + 1 > (Hh n : Int) + 1) = false := decide_eq_false (by omega)
          have hcmp3 : decide (Hh n < Hs n) = false := decide_eq_false (by omega)
          have hcmp4 : decide ((Hh n : Int) < (Hs n : Int)) = false := decide_eq_false (by omega)
          have hcmp2 : decide ((Hs n : Int) > (Hh n : Int) + 1) = false := decide_eq_false (by omega)
          clear C1 C2 hH F1 hm hkp hb BX HBa hF1
          replace hu := Kd.R_lower hu (base' := wr.heap.size) (by simp)
          generalize wr.heap.size = gb at *
          rcases hL with rfl | ⟨x, rfl⟩
          · obtain ⟨gu, cu, rfl⟩ := row_zero hu
            clear hu
            obtain ⟨w6, e6, F6, v1, v2, B6, hf⟩ := few_step (a := (Hh n : Int) + 1) (b := (Hs n : Int)) C1'.out C2'.out HH.out (d := 0) (by decide) hn M5.out hn1 hn2 hn3 rfl rfl HB5.out hgw5 hgs6
            have F6' := Aside0.mk F6
            have B6' := Aside0.mk B6
            have E6 := Aside0.mk e6
            have b6 := hf _ _ b2 hne2 hne3
            clear F6 B6 e6 hf
            go_wp2
            rw [E6.out]
            clear C1' C2' M5 HH HB5 E6
            go_quiet (fail)
            go_wp2
            go_loopw [78] (fun v wr2 => ∃ j : Nat, j ≤ 0 ∧ v = .int .i64 (j : Int) ∧ Aside0 (FewInv wr2 g gh gs A (k + 1)) ∧ Aside0 (Below w.heap.size w wr2)) (fun v _ => 0 - (intOf v).toNat)
            case atStart => exact ⟨0, by omega, rfl, ⟨by (with_reducible repeat (first | apply FewInv.drN | apply FewInv.dr1)); exact F6'.out⟩, ⟨by repeat (first | (with_reducible first | exact B6'.out | apply pw_below_drewN | apply below_drew1) | exact B6'.out)⟩⟩
            case round =>
              clear F6' B6' b6
              obtain ⟨j, hj, rfl, F6', B6'⟩ := hrel
              obtain rfl : j = 0 := by omega
              go_wp2
              go_roundw
              case rel => exact ⟨k + 1, Nat.succ_le_of_lt hk1.out, next_i hk1.out hl2, ⟨F6'.out⟩, ⟨B6'.out⟩⟩
              case measure => exact meas hk1.out hl2
          · obtain ⟨gu, cu, rfl, z0, z1, hgu, hgl⟩ := row_one hu
            obtain ⟨w6, e6, F6, v1, v2, B6, hf⟩ := few_step (a := (Hh n : Int) + 1) (b := (Hs n : Int) + 1) C1'.out C2'.out HH.out (d := 1) (by decide) hn M5.out hn1 hn2 hn3 rfl rfl HB5.out hgw5 hgs6
            have F6' := Aside0.mk F6
            have B6' := Aside0.mk B6
            have E6 := Aside0.mk e6
            have b6 := hf _ _ b2 hne2 hne3
            have s0 := hf _ _ z0 (by show gu ≠ gh; omega) (by show gu ≠ gs; omega)
            have s1 := hf _ _ z1 (by show gu ≠ gh; omega) (by show gu ≠ gs; omega)
            clear hu hgu hgl
            clear F6 B6 e6 hf
            go_wp2
            rw [E6.out]
            clear C1' C2' M5 HH HB5 E6
            go_quiet (fail)
            go_wp2
            go_loopw [78] (fun v wr2 => ∃ j : Nat, j ≤ 1 ∧ v = .int .i64 (j : Int) ∧ Aside0 (FewInv wr2 g gh gs A (k + 1)) ∧ Aside0 (Below w.heap.size w wr2) ∧ Aside0 (wr2.cell? ⟨gb, 2, none⟩ = some (.int .u8 (n : Int))) ∧ Aside0 (j = 0 → wr2.cell? ⟨gu, 0, none⟩ = some (.int .u8 x)) ∧ Aside0 (j = 0 → wr2.cell? ⟨gu, 1, none⟩ = some (.int .u8 (n : Int)))) (fun v _ => 1 - (intOf v).toNat)
            case atStart => exact ⟨0, by omega, rfl, ⟨by (with_reducible repeat (first | apply FewInv.drN | apply FewInv.dr1)); exact F6'.out⟩, ⟨by repeat (first | (with_reducible first | exact B6'.out | apply pw_below_drewN | apply below_drew1) | exact B6'.out)⟩, ⟨by (with_reducible repeat (first | apply cell_drN | apply cell_dr1)); exact b6⟩, ⟨fun _ => by (with_reducible repeat (first | apply cell_drN | apply cell_dr1)); exact s0⟩, ⟨fun _ => by (with_reducible repeat (first | apply cell_drN | apply cell_dr1)); exact s1⟩⟩
            case round =>
              clear F6' B6' b6 s0 s1
              obtain ⟨j, hj, rfl, F6', B6', b6', s0', s1'⟩ := hrel
              rcases (show j = 0 ∨ j = 1 by omega) with rfl | rfl
              · have b6 := b6'.out
                have s0 := s0'.out rfl
                have s1 := s1'.out rfl
                clear b6' s0' s1' hj
                have b6a := cell_al (.cells #[.int .u8 x, .int .u8 (n : Int)] 37) b6
                go_wp2
                -- REG
                refine start_ (n := 16) (S := fun w' => w'.cell? ⟨gb, 2, none⟩ = some (.int .u8 (n : Int)) ∧ w'.cell? ⟨wr.heap.size, 0, none⟩ = some (.int .u8 x) ∧ w'.cell? ⟨wr.heap.size, 1, none⟩ = some (.int .u8 (n : Int))) (ds := []) #[false, false, false, false, false, false, false, false, false, false, false, false, false, false, false, false] (by kernel_rfl) rfl rfl ⟨cell_dr1 b6a, cell_dr1 (blk_cell (blk_new wr (.cells #[.int .u8 x, .int .u8 (n : Int)] 37)) 0), cell_dr1 (blk_cell (blk_new wr (.cells #[.int .u8 x, .int .u8 (n : Int)] 37)) 1)⟩ (fun hHeld => ?_)
                refine pure_ (i := 0) (N := some 82) (v := ?_) (a' := ?_) #[true, false, false, false, false, false, false, false, false, false, false, false, false, false, false, false] rfl rfl (by kernel_rfl) (fun _ _ _ h => h) (Or.inl ⟨by rfl, ?_⟩) ?_ ?_
                rotate_left
                · intro w'
                  go_simp
                  with_reducible rfl
                rotate_left
                · simp only [Act.put, List.setIfInBounds_toArray, List.set_cons_zero, List.set_cons_succ, i64_w, i32_w]
                  rfl
                refine pure_ (i := 2) (N := some 84) (v := ?_) (a' := ?_) #[true, false, true, false, false, false, false, false, false, false, false, false, false, false, false, false] rfl rfl (by kernel_rfl) (fun _ _ _ h => h) (Or.inl ⟨by rfl, ?_⟩) ?_ ?_
                rotate_left
                · intro w'
                  go_simp
                  with_reducible rfl
                rotate_left
                · simp only [Act.put, List.setIfInBounds_toArray, List.set_cons_zero, List.set_cons_succ, i64_w, i32_w]
                  rfl
                refine take_ (i := 1) (N := some 83) (v := ?_) (a' := ?_) #[true, true, true, false, false, false, false, false, false, false, false, false, false, false, false, false] rfl rfl (by kernel_rfl) (fun _ _ _ h => h) (Or.inl ⟨by rfl, ?_⟩) hHeld ?_ ?_
                rotate_left
                · rintro w' ⟨s0, s1, s2⟩
                  go_simp
                  with_reducible rfl
                rotate_left
                · simp only [Act.put, List.setIfInBounds_toArray, List.set_cons_zero, List.set_cons_succ, i64_w, i32_w]
                  rfl
                refine take_ (i := 3) (N := some 85) (v := ?_) (a' := ?_) #[true, true, true, true, false, false, false, false, false, false, false, false, false, false, false, false] rfl rfl (by kernel_rfl) (fun _ _ _ h => h) (Or.inl ⟨by rfl, ?_⟩) hHeld ?_ ?_
                rotate_left
                · rintro w' ⟨s0, s1, s2⟩
                  go_simp
                  with_reducible rfl
                rotate_left
                · simp only [Act.put, List.setIfInBounds_toArray, List.set_cons_zero, List.set_cons_succ, i64_w, i32_w]
                  rfl
                refine pure_ (i := 4) (N := some 86) (v := ?_) (a' := ?_) #[true, true, true, true, true, false, false, false, false, false, false, false, false, false, false, false] rfl rfl (by kernel_rfl) (fun _ _ _ h => h) (Or.inl ⟨by rfl, ?_⟩) ?_ ?_
                rotate_left
                · intro w'
                  go_simp
                  with_reducible rfl
                rotate_left
                · simp only [Act.put, List.setIfInBounds_toArray, List.set_cons_zero, List.set_cons_succ, i64_w, i32_w]
                  rfl
                refine pure_ (i := 5) (N := some 87) (v := ?_) (a' := ?_) #[true, true, true, true, true, true, false, false, false, false, false, false, false, false, false, false] rfl rfl (by kernel_rfl) (fun _ _ _ h => h) (Or.inl ⟨by rfl, ?_⟩) ?_ ?_
                rotate_left
                · intro w'
                  go_simp
                  with_reducible rfl
                rotate_left
                · simp only [Act.put, List.setIfInBounds_toArray, List.set_cons_zero, List.set_cons_succ, i64_w, i32_w]
                  rfl
                refine pure_ (i := 8) (N := some 90) (v := ?_) (a' := ?_) #[true, true, true, true, true, true, false, false, true, false, false, false, false, false, false, false] rfl rfl (by kernel_rfl) (fun _ _ _ h => h) (Or.inl ⟨by rfl, ?_⟩) ?_ ?_
                rotate_left
                · intro w'
                  go_simp
                  with_reducible rfl
                rotate_left
                · simp only [Act.put, List.setIfInBounds_toArray, List.set_cons_zero, List.set_cons_succ, i64_w, i32_w]
                  rfl
                refine pure_ (i := 10) (N := some 92) (v := ?_) (a' := ?_) #[true, true, true, true, true, true, false, false, true, false, true, false, false, false, false, false] rfl rfl (by kernel_rfl) (fun _ _ _ h => h) (Or.inl ⟨by rfl, ?_⟩) ?_ ?_
                rotate_left
                · intro w'
                  go_simp
                  with_reducible rfl
                rotate_left
                · simp only [Act.put, List.setIfInBounds_toArray, List.set_cons_zero, List.set_cons_succ, i64_w, i32_w]
                  rfl
                refine take_ (i := 6) (N := some 88) (v := ?_) (a' := ?_) #[true, true, true, true, true, true, true, false, true, false, true, false, false, false, false, false] rfl rfl (by kernel_rfl) (fun _ _ _ h => h) (Or.inl ⟨by rfl, ?_⟩) hHeld ?_ ?_
                rotate_left
                · rintro w' ⟨s0, s1, s2⟩
                  go_simp
                  with_reducible rfl
                rotate_left
                · simp only [Act.put, List.setIfInBounds_toArray, List.set_cons_zero, List.set_cons_succ, i64_w, i32_w]
                  rfl
                refine take_ (i := 9) (N := some 91) (v := ?_) (a' := ?_) #[true, true, true, true, true, true, true, false, true, true, true, false, false, false, false, false] rfl rfl (by kernel_rfl) (fun _ _ _ h => h) (Or.inl ⟨by rfl, ?_⟩) hHeld ?_ ?_
                rotate_left
                · rintro w' ⟨s0, s1, s2⟩
                  go_simp
                  with_reducible rfl
                rotate_left
                · simp only [Act.put, List.setIfInBounds_toArray, List.set_cons_zero, List.set_cons_succ, i64_w, i32_w]
                  rfl
                refine take_ (i := 11) (N := some 93) (v := ?_) (a' := ?_) #[true, true, true, true, true, true, true, false, true, true, true, true, false, false, false, false] rfl rfl (by kernel_rfl) (fun _ _ _ h => h) (Or.inl ⟨by rfl, ?_⟩) hHeld ?_ ?_
                rotate_left
                · rintro w' ⟨s0, s1, s2⟩
                  go_simp
                  with_reducible rfl
                rotate_left
                · simp only [Act.put, List.setIfInBounds_toArray, List.set_cons_zero, List.set_cons_succ, i64_w, i32_w]
                  rfl
                refine join_ (σ := Value × Value) 3 #[true, true, true, true, true, true, true, true, true, true, true, true, true, false, false, false] (fun s => [(89, s.1), (94, s.2)]) (fun s w' => ∃ A7 c7 A8, s.1 = Value.slice A7 3 c7 ∧ s.2 = Value.slice A8 3 3 ∧ 3 ≤ c7 ∧ Kd.C (Kd.int .u8) w' A7 3 [255, x, (n : Int)] ∧ Kd.C (Kd.int .u8) w' A8 3 [255, x, (n : Int)] ∧ Below w.heap.size w w' ∧ FewInv w' g gh gs A (k + 1) ∧ w'.cell? ⟨gb, 2, none⟩ = some (.int .u8 (n : Int)) ∧ w'.cell? ⟨wr.heap.size, 0, none⟩ = some (.int .u8 x) ∧ w'.cell? ⟨wr.heap.size, 1, none⟩ = some (.int .u8 (n : Int))) ?_ ?_
                rotate_left
                · intro hCont
                  refine two_ (i := 7) (j := 12) (Ni := some 89) (Nj := some 94) #[true, true, true, true, true, true, true, true, true, true, true, true, false, false, false, false] #[true, true, true, true, true, true, true, false, true, true, true, true, true, false, false, false] rfl rfl rfl rfl (by kernel_rfl) (by decide) (by decide) (fun K hK => ?_) (fun K hK => ?_)
                  · skip
                    refine goes_ Try.func16 (by kernel_rfl) rfl #[.agg #[.int .u8 x, .int .u8 (n : Int)]] (by rfl) rfl rfl (by simp only [List.map_toArray, List.map_cons, List.map_nil]; rfl) ?_
                    with_reducible refine (bytes_of x (n : Int) _).mono ?_
                    rintro e w7 ⟨A7, c7, rfl, hc7, h7, hb7⟩
                    refine ⟨_, rfl, ?_⟩
                    refine hK.out _ _ ⟨pw_cell_below hb7 hHeld.1, pw_cell_below hb7 hHeld.2.1, pw_cell_below hb7 hHeld.2.2⟩ (fun hHeld => ?_)
                    clear hK K
                    refine norm_ (a' := ?_) ?_ ?_
                    rotate_left
                    · show Act.put _ (some 89) _ = _
                      simp only [Act.put, List.setIfInBounds_toArray, List.set_cons_zero, List.set_cons_succ, i64_w, i32_w]
                      rfl
                    refine one_ (i := 12) (N := some 94) #[true, true, true, true, true, true, true, true, true, true, true, true, true, false, false, false] rfl rfl (by kernel_rfl) (by decide) (fun K hK => ?_)
                    refine value_ (w1 := ?_) (v := ?_) (by rfl) rfl ?_ ?_
                    rotate_left 2
                    · go_simp
                      constructor
                      · rfl
                      · rfl
                    refine hK.out _ _ ⟨cell_al _ hHeld.1, cell_al _ hHeld.2.1, cell_al _ hHeld.2.2⟩ (fun hHeld => ?_)
                    clear hK K
                    refine norm_ (a' := ?_) ?_ ?_
                    rotate_left
                    · show Act.put _ (some 94) _ = _
                      simp only [Act.put, List.setIfInBounds_toArray, List.set_cons_zero, List.set_cons_succ, i64_w, i32_w]
                      rfl
                    exact norm_ (by simp only [putAll, Act.put, List.setIfInBounds_toArray, List.set_cons_zero, List.set_cons_succ]) (hCont (Value.slice A7 3 c7, Value.slice (some ⟨w7.heap.size, 0, none⟩) 3 3) _ ⟨A7, c7, _, rfl, rfl, hc7, Kd.C_alloc h7 _, C_three (blk_new _ _), below_alloc (below_step (below_drew (below_alloc B6'.out _)) hb7) _, FewInv.al _ (FewInv.below (FewInv.dr1 (FewInv.al _ F6'.out)) hb7), hHeld⟩)
                  · skip
                    refine value_ (w1 := ?_) (v := ?_) (by rfl) rfl ?_ ?_
                    rotate_left 2
                    · go_simp
                      constructor
                      · rfl
                      · rfl
                    refine hK.out _ _ ⟨cell_al _ hHeld.1, cell_al _ hHeld.2.1, cell_al _ hHeld.2.2⟩ (fun hHeld => ?_)
                    clear hK K
                    refine norm_ (a' := ?_) ?_ ?_
                    rotate_left
                    · show Act.put _ (some 94) _ = _
                      simp only [Act.put, List.setIfInBounds_toArray, List.set_cons_zero, List.set_cons_succ, i64_w, i32_w]
                      rfl
                    refine one_ (i := 7) (N := some 89) #[true, true, true, true, true, true, true, true, true, true, true, true, true, false, false, false] rfl rfl (by kernel_rfl) (by decide) (fun K hK => ?_)
                    refine goes_ Try.func16 (by kernel_rfl) rfl #[.agg #[.int .u8 x, .int .u8 (n : Int)]] (by rfl) rfl rfl (by simp only [List.map_toArray, List.map_cons, List.map_nil]; rfl) ?_
                    with_reducible refine (bytes_of x (n : Int) _).mono ?_
                    rintro e w7 ⟨A7, c7, rfl, hc7, h7, hb7⟩
                    refine ⟨_, rfl, ?_⟩
                    refine hK.out _ _ ⟨pw_cell_below hb7 hHeld.1, pw_cell_below hb7 hHeld.2.1, pw_cell_below hb7 hHeld.2.2⟩ (fun hHeld => ?_)
                    clear hK K
                    refine norm_ (a' := ?_) ?_ ?_
                    rotate_left
                    · show Act.put _ (some 89) _ = _
                      simp only [Act.put, List.setIfInBounds_toArray, List.set_cons_zero, List.set_cons_succ, i64_w, i32_w]
                      rfl
                    exact norm_ (by simp only [putAll, Act.put, List.setIfInBounds_toArray, List.set_cons_zero, List.set_cons_succ]) (hCont (Value.slice A7 3 c7, Value.slice (some ⟨wr.heap.size + 1, 0, none⟩) 3 3) _ ⟨A7, c7, _, rfl, rfl, hc7, h7, C_three (blk_below (blk_new1 _ _ _) hb7), below_step (below_alloc (below_drew (below_alloc B6'.out _)) _) hb7, FewInv.below (FewInv.al _ (FewInv.dr1 (FewInv.al _ F6'.out))) hb7, hHeld⟩)
                rintro ⟨s1, s2⟩ w9 ⟨A7, c7, A8, rfl, rfl, hc7, h7, h8, hB9, hF9, hHeld⟩
                refine norm_ (a' := ?_) ?_ ?_
                rotate_left
                · simp only [putAll, Act.put, List.setIfInBounds_toArray, List.set_cons_zero, List.set_cons_succ]
                  rfl
                refine one_ (i := 13) (N := some 95) #[true, true, true, true, true, true, true, true, true, true, true, true, true, true, false, false] rfl rfl (by kernel_rfl) (by decide) (fun K hK => ?_)
                refine goes_ Try.func15 (by kernel_rfl) rfl #[.slice A7 3 c7, .slice A8 3 3] (by rfl) rfl rfl (by simp only [List.map_toArray, List.map_cons, List.map_nil]; rfl) ?_
                with_reducible refine (same_of A7 c7 A8 3 [255, x, (n : Int)] _ h7 hc7 h8 (by omega)).mono ?_
                rintro e w8 ⟨rfl, m8, rfl⟩
                refine ⟨_, rfl, ?_⟩
                refine hK.out _ _ ⟨cell_drN m8 hHeld.1, cell_drN m8 hHeld.2.1, cell_drN m8 hHeld.2.2⟩ (fun hHeld => ?_)
                clear hK K
                refine norm_ (a' := ?_) ?_ ?_
                rotate_left
                · show Act.put _ (some 95) _ = _
                  simp only [Act.put, List.setIfInBounds_toArray, List.set_cons_zero, List.set_cons_succ, i64_w, i32_w]
                  rfl
                refine pure_ (i := 14) (N := some 96) (v := ?_) (a' := ?_) #[true, true, true, true, true, true, true, true, true, true, true, true, true, true, true, false] rfl rfl (by kernel_rfl) (fun _ _ _ h => h) (Or.inl ⟨by rfl, ?_⟩) ?_ ?_
                rotate_left
                · intro w'
                  go_simp
                  with_reducible rfl
                rotate_left
                · simp only [Act.put, List.setIfInBounds_toArray, List.set_cons_zero, List.set_cons_succ, i64_w, i32_w]
                  rfl
                refine pure_ (i := 15) (N := some 97) (v := ?_) (a' := ?_) #[true, true, true, true, true, true, true, true, true, true, true, true, true, true, true, true] rfl rfl (by kernel_rfl) (fun _ _ _ h => h) (Or.inl ⟨by rfl, ?_⟩) ?_ ?_
                rotate_left
                · intro w'
                  go_simp
                  with_reducible rfl
                rotate_left
                · simp only [Act.put, List.setIfInBounds_toArray, List.set_cons_zero, List.set_cons_succ, i64_w, i32_w]
                  rfl
                refine done_ (by kernel_rfl) ?_
                go_wp2
                go_roundw
                case rel => exact ⟨1, by omega, rfl, ⟨FewInv.drN m8 hF9⟩, ⟨pw_below_drewN hB9 m8⟩, ⟨cell_drN m8 hHeld.1⟩, ⟨fun h => absurd h (by decide)⟩, ⟨fun h => absurd h (by decide)⟩⟩
                case measure => simp [intOf]
              · clear b6' s0' s1' hj
                go_wp2
                go_roundw
                case rel => exact ⟨k + 1, Nat.succ_le_of_lt hk1.out, next_i hk1.out hl2, ⟨F6'.out⟩, ⟨B6'.out⟩⟩
                case measure => exact meas hk1.out hl2
    · have cb : decide ((k : Int) < (l2.length : Int)) = false := decide_eq_false (by omega)
      go_wp2
      go_ret
      exact ⟨rfl, HB.out⟩
end Go.Proofs.Ytaabojppahcejaa.Op
