/- OrderBegins, the walk. Written by wip/bw_gen.py. -/
import Derived.Test.YtmejmlohinjpdaaBs
namespace Go.Proofs.Ytmejmlohinjpdaa.Sc
open Go.RowKit Go.Proofs.YtmejmlohinjpdaaW.PrintWords Go.Proofs.YtmejmlohinjpdaaW.PrintLast Go.Proofs.YtmejmlohinjpdaaW.PrintMore Go.Proofs.Ytmejmlohinjpdaa.POr
set_option linter.unusedVariables false
set_option linter.unusedSimpArgs false
theorem byte_of' {x : Int} (h : (Lit.int .u8 x).wf = true) : 0 ≤ x ∧ x ≤ 255 := by
  simp only [Lit.wf, IntKind.min, IntKind.max, IntKind.signed, IntKind.bits, Bool.and_eq_true, decide_eq_true_eq] at h
  simp at h
  omega
theorem u16_of {x : Int} (h : (Lit.int .u16 x).wf = true) : 0 ≤ x ∧ x ≤ 65535 := by
  simp only [Lit.wf, IntKind.min, IntKind.max, IntKind.signed, IntKind.bits, Bool.and_eq_true, decide_eq_true_eq] at h
  simp at h
  omega
theorem blk_new' (W : World) (o : Obj) {g : Nat} (h : W.heap.size = g) : (W.alloc o).heap[g]? = some o := by
  subst h; exact blk_new W o
theorem cell_dal {W : World} {p : Addr} {v : Value} (o : Obj) (h : W.drew.cell? p = some v) : (W.alloc o).drew.cell? p = some v := cell_al o h
theorem like_parts {n m : Nat} {xk xa xc xf yk ya yc yf : Int} {xg yg : Bool} {xp yp : List S50} {xt yt : List Int} (h : Like (n == m) ⟨xk, xa, xc, xg, xf, xp, xt⟩ ⟨yk, ya, yc, yg, yf, yp, yt⟩) :
    (xk = yk ∧ xa = ya ∧ xc = yc ∧ xg = yg ∧ xf = yf ∧ xp = yp) ∧ (yt = xt ∨ (n = m ∧ yk = 0 ∧ ∃ t', yt = xt ++ t')) := by
  rcases h with h | ⟨h0, t, t', h1, h2⟩
  · injection h with a1 a2 a3 a4 a5 a6 a7
    exact ⟨⟨a1, a2, a3, a4, a5, a6⟩, .inl a7.symm⟩
  · injection h1 with a1 a2 a3 a4 a5 a6 a7
    injection h2 with b1 b2 b3 b4 b5 b6 b7
    refine ⟨⟨a1.trans b1.symm, a2.trans b2.symm, a3.trans b3.symm, a4.trans b4.symm, a5.trans b5.symm, a6.trans b6.symm⟩, .inr ⟨by simpa using h0, b1, t', by rw [b7, a7]⟩⟩
section
variable {P : Program} {md : Region.Mode} {ops : Array Oper} {Q : Exit → Act → World → Prop} {S : World → Prop} {ds : List Nat}
theorem norm_w {fuel : Nat} {l : Array Bool} {a : Act} {w w' : World} (hw : w = w') (h : wpAnyLast P md ops Q S ds fuel l a w') : wpAnyLast P md ops Q S ds fuel l a w := by
  subst hw
  exact h
end
theorem cell_dr1' {W : World} {p : Addr} {v : Value} (h : W.cell? p = some v) : W.drew.cell? p = some v := h
/-- All, a beginning: what the law asks of them. -/
def Begins (all few : List OpR) : Prop := few.length ≤ all.length ∧ ∀ i x, few[i]? = some x → ∃ y, all[i]? = some y ∧ Like (i + 1 == few.length) x y ∧ x.pairs.length ≤ 100000 ∧ y.pairs.length ≤ 100000
set_option maxHeartbeats 8000000 in
set_option maxRecDepth 100000 in
theorem begins_loop (g1 : List OpR) : True := trivial
set_option maxHeartbeats 8000000 in
set_option maxRecDepth 100000 in
theorem begins_walk (A0 : Option Addr) (c0 : Nat) (l0 : List Int) (n : Int) (w : World) (h0 : Kd.C (Kd.int .u8) w A0 l0.length l0) (hc0 : l0.length ≤ c0) (ok0 : l0.length ≤ maxLen ∧ ∀ x ∈ l0, (Lit.int .u8 x).wf = true) (hn : (Lit.int .u16 n).wf = true) :
    Calls Try.prog 4 #[.slice A0 l0.length c0, .int .u16 n] w fun e w' => e = .returned (.bool true) ∧ Below w.heap.size w w' := by
  have H0 := Aside0.mk h0
  have K0 := Aside0.mk ok0
  have hnr := u16_of hn
  clear h0 ok0 hn
  go_enter Try.func4, Try.ntmps4
  go_wp2_with fail
  refine (awake_of _).mono ?_
  rintro e w1 ⟨rfl, hb⟩
  have B1 := Aside0.mk hb
  clear hb
  go_wp2_with fail
  refine (cut_of 300 (by decide) A0 c0 l0 _ (Kd.C_below H0.out B1.out) hc0).mono ?_
  rintro e w2 ⟨ps, A1, c1, rfl, hps, hc1, h1, hb⟩
  have B2 := Aside0.mk (B1.out.trans (hb.mono (below_size B1.out)))
  have H1 := Aside0.mk h1
  have HBy : Aside0 (Bytes ps) := ⟨by rw [hps.out]; exact fun x hx => byte_of' (K0.out.2 x (List.mem_of_mem_take hx))⟩
  have hl1 : ps.length ≤ 300 := by rw [hps.out, List.length_take]; omega
  clear hb h1 hps K0 H0 B1
  obtain ⟨q, hqq, hqm⟩ : ∃ q, q = ps.take (n % ((ps.length : Int) + 1)).toNat ∧ n % ((ps.length : Int) + 1) = (q.length : Int) := by
    refine ⟨_, rfl, ?_⟩
    rw [List.length_take]
    have h1 := Int.emod_nonneg n (show ((ps.length : Int) + 1) ≠ 0 by omega)
    have h2 := Int.emod_lt_of_pos n (show (0 : Int) < (ps.length : Int) + 1 by omega)
    omega
  have hql : q.length ≤ ps.length := by rw [hqq, List.length_take]; omega
  have HQB : Aside0 (Bytes q) := ⟨by rw [hqq]; exact fun x hx => HBy.out x (List.mem_of_mem_take hx)⟩
  have HEX : Aside0 (ps = q ++ ps.drop q.length) := ⟨by
    have e : (n % ((ps.length : Int) + 1)).toNat = q.length := by rw [hqm, Int.toNat_natCast]
    have : q = ps.take q.length := by rw [← e]; exact hqq
    rw [← List.take_append_drop q.length ps, ← this]
    simp⟩
  have hCq : Kd.C (Kd.int .u8) w2 A1 q.length q := by
    have e : (n % ((ps.length : Int) + 1)).toNat = q.length := by rw [hqm, Int.toNat_natCast]
    have h5 : q = ps.take q.length := by rw [← e]; exact hqq
    have := Kd.C_take H1.out hql
    rw [← h5] at this
    exact this
  have HCq := Aside0.mk hCq
  have HQM := Aside0.mk hqm
  clear hqq hCq hqm
  go_wp2_with fail
  refine (all_of A1 c1 ps HBy.out (by omega) w2 H1.out hc1).mono ?_
  rintro e w3 ⟨v1, rfl, hv1, hb⟩
  have B3 := Aside0.mk (B2.out.trans (hb.mono (below_size B2.out)))
  have HCq3 := Aside0.mk (Kd.C_below HCq.out hb)
  have HV1 := Aside0.mk hv1
  clear hb hv1 B2 HCq
  have hqm := HQM.out
  have hqc : q.length ≤ c1 := by omega
  have BG := begins q (ps.drop q.length) (by rw [← HEX.out]; exact HBy.out) (by rw [← HEX.out]; omega)
  rw [← HEX.out] at BG
  have A2 := all_of A1 c1 q HQB.out (by omega) w3 HCq3.out hqc
  generalize allF ps.length ps = al at *
  generalize allF q.length q = fw at *
  obtain ⟨all, left1, code1⟩ := al
  obtain ⟨few, left2, code2⟩ := fw
  dsimp only at HV1 BG
  obtain ⟨g1, g2, g3, g4⟩ := BG
  have HA2 := Aside0.mk A2
  have HG2 := Aside0.mk g2
  have HG4 := Aside0.mk g4
  clear A2 g2 g4
  go_wp2_with fail
  refine HA2.out.mono ?_
  rintro e w4 ⟨v2, rfl, hv2, hb⟩
  have B4 := Aside0.mk (B3.out.trans (hb.mono (below_size B3.out)))
  have HV1' := Aside0.mk (Kd.R_below HV1.out hb)
  have HV2 := Aside0.mk hv2
  clear hv2 hb B3 HV1 HA2 HCq3 HQB HEX HBy HQM H1
  obtain ⟨X1, d1, rfl, hd1, hX1⟩ := Kd.R_reads HV1'.out
  obtain ⟨X2, d2, rfl, hd2, hX2⟩ := Kd.R_reads HV2.out
  have HX1 := Aside0.mk hX1
  have HX2 := Aside0.mk hX2
  clear hX1 hX2 HV1' HV2
  dsimp only at hd1 hd2 HX1 HX2 g1 g3 HG2 HG4 ⊢
  have t1 : decide (all.length < few.length) = false := decide_eq_false (by omega)
  have t2 : decide ((few.length : Int) > (all.length : Int)) = false := decide_eq_false (by omega)
  have t3 : decide ((q.length : Int) - (left2 : Int) > (q.length : Int)) = false := decide_eq_false (by omega)
  have t4 : decide ((q.length : Int) < (q.length : Int) - (left2 : Int)) = false := decide_eq_false (by omega)
  have t5 : code2 = 0 → ((q.length : Int) - (left2 : Int) != (q.length : Int)) = false := fun h => by
    have := HG4.out h
    have h9 : left2 = 0 := this
    subst h9
    simp
  have hlen : few.length ≤ 9223372036854775807 := HX2.out.2.1
  have hlen1 : all.length ≤ 9223372036854775807 := HX1.out.2.1
  by_cases c0 : code2 = 0
  case' pos =>
    have t6 := t5 c0
    have t7 : (code2 == 0) = true := beq_iff_eq.2 c0
    clear t5 c0
    go_wp2
  case' neg =>
    have t7 : (code2 == 0) = false := beq_eq_false_iff_ne.2 c0
    clear t5 c0
    go_wp2
  all_goals
    go_loopw [69] (fun v wr => ∃ i : Nat, i ≤ few.length ∧ v = .int .i64 (i : Int) ∧ Aside0 (Below w4.heap.size w4 wr)) (fun v _ => few.length - (intOf v).toNat)
    case atStart => exact ⟨0, by omega, rfl, ⟨Below.refl _ _⟩⟩
    case round =>
      obtain ⟨i, hi, rfl, HB⟩ := hrel
      by_cases ci : i < few.length
      · have cb : decide ((i : Int) < (few.length : Int)) = true := decide_eq_true (by omega)
        have cb' : decide (i < few.length) = true := decide_eq_true ci
        obtain ⟨y, hy, hlk, hxl, hyl⟩ := HG2.out i few[i] (List.getElem?_eq_getElem ci)
        have hx : few[i]? = some few[i] := List.getElem?_eq_getElem ci
        generalize few[i] = x at *
        obtain ⟨adx, xP, xn, xT, xm, hax, hxn, hxC, hxm, hxTC, e0, e1, e2, e3, e4, e5, e6⟩ := at_35 HX2.out i x hx
        obtain ⟨ad, yP, yn, yT, ym, hay, hyn, hyC, hym, hyTC, s0, s1, s2, s3, s4, s5, s6⟩ := at_35 HX1.out i y hy
        cases hax
        cases hay
        obtain ⟨xk, xa, xc, xg, xf, xp, xt⟩ := x
        obtain ⟨yk, ya, yc, yg, yf, yp, yt⟩ := y
        dsimp only at hxl hyl hxn hxC hxm hxTC e0 e1 e2 e3 e4 e5 e6 hyn hyC hym hyTC s0 s1 s2 s3 s4 s5 s6
        have i0 : (0 ≤ (i : Int)) = True := eq_true (by omega)
        have i1 : ((i : Int) < (few.length : Int)) = True := eq_true (by omega)
        have i2 : ((i : Int) < (all.length : Int)) = True := eq_true (by omega)
        replace hxl : xp.length ≤ 100000 := Nat.le_trans hxl (by decide)
        replace hyl : yp.length ≤ 100000 := Nat.le_trans hyl (by decide)
        have HLK := Aside0.mk hlk
        have HXP0 := Aside0.mk (Kd.C_below hxC HB.out)
        have HYP0 := Aside0.mk (Kd.C_below hyC HB.out)
        replace e0 := pw_cell_below HB.out e0
        replace e1 := pw_cell_below HB.out e1
        replace e2 := pw_cell_below HB.out e2
        replace e3 := pw_cell_below HB.out e3
        replace e4 := pw_cell_below HB.out e4
        replace e5 := pw_cell_below HB.out e5
        replace e6 := pw_cell_below HB.out e6
        replace s0 := pw_cell_below HB.out s0
        replace s1 := pw_cell_below HB.out s1
        replace s2 := pw_cell_below HB.out s2
        replace s3 := pw_cell_below HB.out s3
        replace s4 := pw_cell_below HB.out s4
        replace s5 := pw_cell_below HB.out s5
        replace s6 := pw_cell_below HB.out s6
        have HXT0 := Aside0.mk hxTC
        have HYT0 := Aside0.mk hyTC
        have HCI := Aside0.mk ci
        clear hx hy hlk hxC hyC hxTC hyTC ci
        go_wp2
        obtain ⟨gx, hgx⟩ : ∃ g, g = wr.heap.size := ⟨_, rfl⟩
        obtain ⟨wb, hwb⟩ : ∃ W, W = wr.alloc (.cells #[.int .i64 xk, .int .i64 xa, .int .u8 xc, .bool xg, .int .u8 xf, .slice xP xp.length xn, .slice xT xt.length xm] 35) := ⟨_, rfl⟩
        have HBa := Aside0.mk (below_alloc HB.out (.cells #[.int .i64 xk, .int .i64 xa, .int .u8 xc, .bool xg, .int .u8 xf, .slice xP xp.length xn, .slice xT xt.length xm] 35))
        have HXP := Aside0.mk (Kd.C_alloc HXP0.out (.cells #[.int .i64 xk, .int .i64 xa, .int .u8 xc, .bool xg, .int .u8 xf, .slice xP xp.length xn, .slice xT xt.length xm] 35))
        have HYP := Aside0.mk (Kd.C_alloc HYP0.out (.cells #[.int .i64 xk, .int .i64 xa, .int .u8 xc, .bool xg, .int .u8 xf, .slice xP xp.length xn, .slice xT xt.length xm] 35))
        have sx0 : (wr.alloc (.cells #[.int .i64 xk, .int .i64 xa, .int .u8 xc, .bool xg, .int .u8 xf, .slice xP xp.length xn, .slice xT xt.length xm] 35)).cell? ⟨wr.heap.size, 0, none⟩ = some (.int .i64 xk) := blk_cell (blk_new wr (.cells #[.int .i64 xk, .int .i64 xa, .int .u8 xc, .bool xg, .int .u8 xf, .slice xP xp.length xn, .slice xT xt.length xm] 35)) 0
        have sx1 : (wr.alloc (.cells #[.int .i64 xk, .int .i64 xa, .int .u8 xc, .bool xg, .int .u8 xf, .slice xP xp.length xn, .slice xT xt.length xm] 35)).cell? ⟨wr.heap.size, 1, none⟩ = some (.int .i64 xa) := blk_cell (blk_new wr (.cells #[.int .i64 xk, .int .i64 xa, .int .u8 xc, .bool xg, .int .u8 xf, .slice xP xp.length xn, .slice xT xt.length xm] 35)) 1
        have sx2 : (wr.alloc (.cells #[.int .i64 xk, .int .i64 xa, .int .u8 xc, .bool xg, .int .u8 xf, .slice xP xp.length xn, .slice xT xt.length xm] 35)).cell? ⟨wr.heap.size, 2, none⟩ = some (.int .u8 xc) := blk_cell (blk_new wr (.cells #[.int .i64 xk, .int .i64 xa, .int .u8 xc, .bool xg, .int .u8 xf, .slice xP xp.length xn, .slice xT xt.length xm] 35)) 2
        have sx3 : (wr.alloc (.cells #[.int .i64 xk, .int .i64 xa, .int .u8 xc, .bool xg, .int .u8 xf, .slice xP xp.length xn, .slice xT xt.length xm] 35)).cell? ⟨wr.heap.size, 3, none⟩ = some (.bool xg) := blk_cell (blk_new wr (.cells #[.int .i64 xk, .int .i64 xa, .int .u8 xc, .bool xg, .int .u8 xf, .slice xP xp.length xn, .slice xT xt.length xm] 35)) 3
        have sx4 : (wr.alloc (.cells #[.int .i64 xk, .int .i64 xa, .int .u8 xc, .bool xg, .int .u8 xf, .slice xP xp.length xn, .slice xT xt.length xm] 35)).cell? ⟨wr.heap.size, 4, none⟩ = some (.int .u8 xf) := blk_cell (blk_new wr (.cells #[.int .i64 xk, .int .i64 xa, .int .u8 xc, .bool xg, .int .u8 xf, .slice xP xp.length xn, .slice xT xt.length xm] 35)) 4
        have sx5 : (wr.alloc (.cells #[.int .i64 xk, .int .i64 xa, .int .u8 xc, .bool xg, .int .u8 xf, .slice xP xp.length xn, .slice xT xt.length xm] 35)).cell? ⟨wr.heap.size, 5, none⟩ = some (.slice xP xp.length xn) := blk_cell (blk_new wr (.cells #[.int .i64 xk, .int .i64 xa, .int .u8 xc, .bool xg, .int .u8 xf, .slice xP xp.length xn, .slice xT xt.length xm] 35)) 5
        have sx6 : (wr.alloc (.cells #[.int .i64 xk, .int .i64 xa, .int .u8 xc, .bool xg, .int .u8 xf, .slice xP xp.length xn, .slice xT xt.length xm] 35)).cell? ⟨wr.heap.size, 6, none⟩ = some (.slice xT xt.length xm) := blk_cell (blk_new wr (.cells #[.int .i64 xk, .int .i64 xa, .int .u8 xc, .bool xg, .int .u8 xf, .slice xP xp.length xn, .slice xT xt.length xm] 35)) 6
        have sy0 := cell_al (.cells #[.int .i64 xk, .int .i64 xa, .int .u8 xc, .bool xg, .int .u8 xf, .slice xP xp.length xn, .slice xT xt.length xm] 35) s0
        have sy1 := cell_al (.cells #[.int .i64 xk, .int .i64 xa, .int .u8 xc, .bool xg, .int .u8 xf, .slice xP xp.length xn, .slice xT xt.length xm] 35) s1
        have sy2 := cell_al (.cells #[.int .i64 xk, .int .i64 xa, .int .u8 xc, .bool xg, .int .u8 xf, .slice xP xp.length xn, .slice xT xt.length xm] 35) s2
        have sy3 := cell_al (.cells #[.int .i64 xk, .int .i64 xa, .int .u8 xc, .bool xg, .int .u8 xf, .slice xP xp.length xn, .slice xT xt.length xm] 35) s3
        have sy4 := cell_al (.cells #[.int .i64 xk, .int .i64 xa, .int .u8 xc, .bool xg, .int .u8 xf, .slice xP xp.length xn, .slice xT xt.length xm] 35) s4
        have sy5 := cell_al (.cells #[.int .i64 xk, .int .i64 xa, .int .u8 xc, .bool xg, .int .u8 xf, .slice xP xp.length xn, .slice xT xt.length xm] 35) s5
        have sy6 := cell_al (.cells #[.int .i64 xk, .int .i64 xa, .int .u8 xc, .bool xg, .int .u8 xf, .slice xP xp.length xn, .slice xT xt.length xm] 35) s6
        have hsz0 : w4.heap.size ≤ (wr.alloc (.cells #[.int .i64 xk, .int .i64 xa, .int .u8 xc, .bool xg, .int .u8 xf, .slice xP xp.length xn, .slice xT xt.length xm] 35)).heap.size := below_size HBa.out
        rw [← hgx] at sx0 sx1 sx2 sx3 sx4 sx5 sx6 ⊢
        rw [← hwb] at HBa HXP HYP sx0 sx1 sx2 sx3 sx4 sx5 sx6 sy0 sy1 sy2 sy3 sy4 sy5 sy6 hsz0 ⊢
        clear hgx hwb HXP0 HYP0 s0 s1 s2 s3 s4 s5 s6 e0 e1 e2 e3 e4 e5 e6 HB
        refine start_ (n := 11) (S := fun w' => w'.cell? ⟨gx, 0, none⟩ = some (.int .i64 xk) ∧ w'.cell? ⟨gx, 1, none⟩ = some (.int .i64 xa) ∧ w'.cell? ⟨gx, 2, none⟩ = some (.int .u8 xc) ∧ w'.cell? ⟨gx, 3, none⟩ = some (.bool xg) ∧ w'.cell? ⟨gx, 4, none⟩ = some (.int .u8 xf) ∧ w'.cell? ⟨gx, 5, none⟩ = some (.slice xP xp.length xn) ∧ w'.cell? ⟨gx, 6, none⟩ = some (.slice xT xt.length xm) ∧ w'.cell? (ad.add (i * 7)) = some (.int .i64 yk) ∧ w'.cell? ⟨(ad.add (i * 7)).block, (ad.add (i * 7)).off + 1, none⟩ = some (.int .i64 ya) ∧ w'.cell? ⟨(ad.add (i * 7)).block, (ad.add (i * 7)).off + 2, none⟩ = some (.int .u8 yc) ∧ w'.cell? ⟨(ad.add (i * 7)).block, (ad.add (i * 7)).off + 3, none⟩ = some (.bool yg) ∧ w'.cell? ⟨(ad.add (i * 7)).block, (ad.add (i * 7)).off + 4, none⟩ = some (.int .u8 yf) ∧ w'.cell? ⟨(ad.add (i * 7)).block, (ad.add (i * 7)).off + 5, none⟩ = some (.slice yP yp.length yn) ∧ w'.cell? ⟨(ad.add (i * 7)).block, (ad.add (i * 7)).off + 6, none⟩ = some (.slice yT yt.length ym)) (ds := [9, 10]) #[false, false, false, false, false, false, false, false, false, false, false] (by kernel_rfl) rfl rfl ⟨cell_dr1 sx0, cell_dr1 sx1, cell_dr1 sx2, cell_dr1 sx3, cell_dr1 sx4, cell_dr1 sx5, cell_dr1 sx6, cell_dr1 sy0, cell_dr1 sy1, cell_dr1 sy2, cell_dr1 sy3, cell_dr1 sy4, cell_dr1 sy5, cell_dr1 sy6⟩ (fun hHeld => ?_)
        refine pure_ (i := 2) (N := some 76) (v := ?_) (a' := ?_) #[false, false, true, false, false, false, false, false, false, false, false] rfl rfl (by kernel_rfl) (fun _ _ _ h => h) (Or.inl ⟨by rfl, ?_⟩) ?_ ?_
        rotate_left
        · intro w'
          go_simp
          with_reducible rfl
        rotate_left
        · simp only [Act.put, List.setIfInBounds_toArray, List.set_cons_zero, List.set_cons_succ, i64_w, i32_w]
          rfl
        refine pure_ (i := 3) (N := some 77) (v := ?_) (a' := ?_) #[false, false, true, true, false, false, false, false, false, false, false] rfl rfl (by kernel_rfl) (fun _ _ _ h => h) (Or.inl ⟨by rfl, ?_⟩) ?_ ?_
        rotate_left
        · intro w'
          go_simp
          with_reducible rfl
        rotate_left
        · simp only [Act.put, List.setIfInBounds_toArray, List.set_cons_zero, List.set_cons_succ, i64_w, i32_w]
          rfl
        refine pure_ (i := 4) (N := some 78) (v := ?_) (a' := ?_) #[false, false, true, true, true, false, false, false, false, false, false] rfl rfl (by kernel_rfl) (fun _ _ _ h => h) (Or.inl ⟨by rfl, ?_⟩) ?_ ?_
        rotate_left
        · intro w'
          go_simp
          with_reducible rfl
        rotate_left
        · simp only [Act.put, List.setIfInBounds_toArray, List.set_cons_zero, List.set_cons_succ, i64_w, i32_w]
          rfl
        refine take_ (i := 0) (N := some 74) (v := ?_) (a' := ?_) #[true, false, true, true, true, false, false, false, false, false, false] rfl rfl (by kernel_rfl) (fun _ _ _ h => h) (Or.inl ⟨by rfl, ?_⟩) hHeld ?_ ?_
        rotate_left
        · rintro w' ⟨s0, s1, s2, s3, s4, s5, s6, s7, s8, s9, s10, s11, s12, s13⟩
          go_simp
          with_reducible rfl
        rotate_left
        · simp only [Act.put, List.setIfInBounds_toArray, List.set_cons_zero, List.set_cons_succ, i64_w, i32_w]
          rfl
        refine take_ (i := 5) (N := some 79) (v := ?_) (a' := ?_) #[true, false, true, true, true, true, false, false, false, false, false] rfl rfl (by kernel_rfl) (fun _ _ _ h => h) (Or.inl ⟨by rfl, ?_⟩) hHeld ?_ ?_
        rotate_left
        · rintro w' ⟨s0, s1, s2, s3, s4, s5, s6, s7, s8, s9, s10, s11, s12, s13⟩
          go_simp
          with_reducible rfl
        rotate_left
        · simp only [Act.put, List.setIfInBounds_toArray, List.set_cons_zero, List.set_cons_succ, i64_w, i32_w]
          rfl
        refine join_ (σ := Value × Value × Value × Value) 2 #[true, true, true, true, true, true, true, true, true, false, false] (fun s => [(75, s.1), (80, s.2.1), (13, s.2.2.1), (14, s.2.2.2)]) (fun s w' => ∃ P1 q1 P6 q6 g13 g14, s.1 = Value.agg #[.int .i64 xk, .int .i64 xa, .int .u8 xc, .bool xg, .int .u8 xf, .slice P1 xp.length q1, .slice xT xt.length xm] ∧ s.2.1 = Value.agg #[.int .i64 yk, .int .i64 ya, .int .u8 yc, .bool yg, .int .u8 yf, .slice P6 yp.length q6, .slice yT yt.length ym] ∧ s.2.2.1 = Value.pointer (some ⟨g13, 0, none⟩) ∧ s.2.2.2 = Value.pointer (some ⟨g14, 0, none⟩) ∧ Kd.R k51 51 w' w4.heap.size (fun _ => True) (.slice P1 xp.length q1) (xp.map S51.of) ∧ Kd.R k51 51 w' w4.heap.size (fun _ => True) (.slice P6 yp.length q6) (yp.map S51.of) ∧ w'.heap[g13]? = some (.cells #[.int .i64 0, .int .i64 0, .int .u8 0, .bool false, .int .u8 0, .slice none 0 0, .slice none 0 0] 38 (0, 0)) ∧ w'.heap[g14]? = some (.cells #[.int .i64 0, .int .i64 0, .int .u8 0, .bool false, .int .u8 0, .slice none 0 0, .slice none 0 0] 38 (0, 0)) ∧ w4.heap.size ≤ g13 ∧ w4.heap.size ≤ g14 ∧ g13 ≠ g14 ∧ Below w4.heap.size w4 w' ∧ w'.cell? ⟨gx, 0, none⟩ = some (.int .i64 xk) ∧ w'.cell? ⟨gx, 1, none⟩ = some (.int .i64 xa) ∧ w'.cell? ⟨gx, 2, none⟩ = some (.int .u8 xc) ∧ w'.cell? ⟨gx, 3, none⟩ = some (.bool xg) ∧ w'.cell? ⟨gx, 4, none⟩ = some (.int .u8 xf) ∧ w'.cell? ⟨gx, 5, none⟩ = some (.slice xP xp.length xn) ∧ w'.cell? ⟨gx, 6, none⟩ = some (.slice xT xt.length xm) ∧ w'.cell? (ad.add (i * 7)) = some (.int .i64 yk) ∧ w'.cell? ⟨(ad.add (i * 7)).block, (ad.add (i * 7)).off + 1, none⟩ = some (.int .i64 ya) ∧ w'.cell? ⟨(ad.add (i * 7)).block, (ad.add (i * 7)).off + 2, none⟩ = some (.int .u8 yc) ∧ w'.cell? ⟨(ad.add (i * 7)).block, (ad.add (i * 7)).off + 3, none⟩ = some (.bool yg) ∧ w'.cell? ⟨(ad.add (i * 7)).block, (ad.add (i * 7)).off + 4, none⟩ = some (.int .u8 yf) ∧ w'.cell? ⟨(ad.add (i * 7)).block, (ad.add (i * 7)).off + 5, none⟩ = some (.slice yP yp.length yn) ∧ w'.cell? ⟨(ad.add (i * 7)).block, (ad.add (i * 7)).off + 6, none⟩ = some (.slice yT yt.length ym)) ?_ ?_
        rotate_left
        · intro hCont
          refine three_ (i := 1) (j := 7) (k := 8) (Ni := some 75) (Nj := some 13) (Nk := some 14) #[true, true, true, true, true, true, false, false, false, false, false] #[true, false, true, true, true, true, false, true, false, false, false] #[true, false, true, true, true, true, false, false, true, false, false] rfl rfl rfl rfl rfl rfl (by kernel_rfl) (by decide) (by decide) (by decide) (fun K hK => ?_) (fun K hK => ?_) (fun K hK => ?_)
          · skip
            refine goes_ Try.func12 (by kernel_rfl) rfl #[.agg #[.int .i64 xk, .int .i64 xa, .int .u8 xc, .bool xg, .int .u8 xf, .slice xP xp.length xn, .slice xT xt.length xm]] (by rfl) rfl rfl (by simp only [List.map_toArray, List.map_cons, List.map_nil]; rfl) ?_
            with_reducible refine (back_of' xk xa xc xg xf xP xn xp xT xt.length xm _ (Kd.C_drew HXP.out) hxn hxl).mono ?_
            rintro e u1 ⟨P1, q1, rfl, hr1, hb1⟩
            refine ⟨_, rfl, ?_⟩
            have hz1 : wb.heap.size ≤ u1.heap.size := by have h9 := hb1.size; simpa using h9
            refine hK.out _ _ ⟨pw_cell_below hb1 (hHeld.1), pw_cell_below hb1 (hHeld.2.1), pw_cell_below hb1 (hHeld.2.2.1), pw_cell_below hb1 (hHeld.2.2.2.1), pw_cell_below hb1 (hHeld.2.2.2.2.1), pw_cell_below hb1 (hHeld.2.2.2.2.2.1), pw_cell_below hb1 (hHeld.2.2.2.2.2.2.1), pw_cell_below hb1 (hHeld.2.2.2.2.2.2.2.1), pw_cell_below hb1 (hHeld.2.2.2.2.2.2.2.2.1), pw_cell_below hb1 (hHeld.2.2.2.2.2.2.2.2.2.1), pw_cell_below hb1 (hHeld.2.2.2.2.2.2.2.2.2.2.1), pw_cell_below hb1 (hHeld.2.2.2.2.2.2.2.2.2.2.2.1), pw_cell_below hb1 (hHeld.2.2.2.2.2.2.2.2.2.2.2.2.1), pw_cell_below hb1 (hHeld.2.2.2.2.2.2.2.2.2.2.2.2.2)⟩ (fun hHeld => ?_)
            clear hK K
            refine norm_ (a' := ?_) ?_ ?_
            rotate_left
            · show Act.put _ (some 75) _ = _
              simp only [Act.put, List.setIfInBounds_toArray, List.set_cons_zero, List.set_cons_succ, i64_w, i32_w]
              rfl
            refine three_ (i := 6) (j := 7) (k := 8) (Ni := some 80) (Nj := some 13) (Nk := some 14) #[true, true, true, true, true, true, true, false, false, false, false] #[true, true, true, true, true, true, false, true, false, false, false] #[true, true, true, true, true, true, false, false, true, false, false] rfl rfl rfl rfl rfl rfl (by kernel_rfl) (by decide) (by decide) (by decide) (fun K hK => ?_) (fun K hK => ?_) (fun K hK => ?_)
            · skip
              refine goes_ Try.func12 (by kernel_rfl) rfl #[.agg #[.int .i64 yk, .int .i64 ya, .int .u8 yc, .bool yg, .int .u8 yf, .slice yP yp.length yn, .slice yT yt.length ym]] (by rfl) rfl rfl (by simp only [List.map_toArray, List.map_cons, List.map_nil]; rfl) ?_
              with_reducible refine (back_of' yk ya yc yg yf yP yn yp yT yt.length ym _ (Kd.C_below (Kd.C_drew HYP.out) hb1) hyn hyl).mono ?_
              rintro e u2 ⟨P2, q2, rfl, hr2, hb2⟩
              refine ⟨_, rfl, ?_⟩
              have hz2 : u1.heap.size ≤ u2.heap.size := by have h9 := hb2.size; simpa using h9
              refine hK.out _ _ ⟨pw_cell_below hb2 (hHeld.1), pw_cell_below hb2 (hHeld.2.1), pw_cell_below hb2 (hHeld.2.2.1), pw_cell_below hb2 (hHeld.2.2.2.1), pw_cell_below hb2 (hHeld.2.2.2.2.1), pw_cell_below hb2 (hHeld.2.2.2.2.2.1), pw_cell_below hb2 (hHeld.2.2.2.2.2.2.1), pw_cell_below hb2 (hHeld.2.2.2.2.2.2.2.1), pw_cell_below hb2 (hHeld.2.2.2.2.2.2.2.2.1), pw_cell_below hb2 (hHeld.2.2.2.2.2.2.2.2.2.1), pw_cell_below hb2 (hHeld.2.2.2.2.2.2.2.2.2.2.1), pw_cell_below hb2 (hHeld.2.2.2.2.2.2.2.2.2.2.2.1), pw_cell_below hb2 (hHeld.2.2.2.2.2.2.2.2.2.2.2.2.1), pw_cell_below hb2 (hHeld.2.2.2.2.2.2.2.2.2.2.2.2.2)⟩ (fun hHeld => ?_)
              clear hK K
              refine norm_ (a' := ?_) ?_ ?_
              rotate_left
              · show Act.put _ (some 80) _ = _
                simp only [Act.put, List.setIfInBounds_toArray, List.set_cons_zero, List.set_cons_succ, i64_w, i32_w]
                rfl
              refine two_ (i := 7) (j := 8) (Ni := some 13) (Nj := some 14) #[true, true, true, true, true, true, true, true, false, false, false] #[true, true, true, true, true, true, true, false, true, false, false] rfl rfl rfl rfl (by kernel_rfl) (by decide) (by decide) (fun K hK => ?_) (fun K hK => ?_)
              · skip
                refine value_ (w1 := ?_) (v := ?_) (by rfl) rfl ?_ ?_
                rotate_left 2
                · go_simp
                  constructor
                  · rfl
                  · rfl
                refine hK.out _ _ ⟨cell_al _ (hHeld.1), cell_al _ (hHeld.2.1), cell_al _ (hHeld.2.2.1), cell_al _ (hHeld.2.2.2.1), cell_al _ (hHeld.2.2.2.2.1), cell_al _ (hHeld.2.2.2.2.2.1), cell_al _ (hHeld.2.2.2.2.2.2.1), cell_al _ (hHeld.2.2.2.2.2.2.2.1), cell_al _ (hHeld.2.2.2.2.2.2.2.2.1), cell_al _ (hHeld.2.2.2.2.2.2.2.2.2.1), cell_al _ (hHeld.2.2.2.2.2.2.2.2.2.2.1), cell_al _ (hHeld.2.2.2.2.2.2.2.2.2.2.2.1), cell_al _ (hHeld.2.2.2.2.2.2.2.2.2.2.2.2.1), cell_al _ (hHeld.2.2.2.2.2.2.2.2.2.2.2.2.2)⟩ (fun hHeld => ?_)
                clear hK K
                refine norm_ (a' := ?_) ?_ ?_
                rotate_left
                · show Act.put _ (some 13) _ = _
                  simp only [Act.put, List.setIfInBounds_toArray, List.set_cons_zero, List.set_cons_succ, i64_w, i32_w]
                  rfl
                refine one_ (i := 8) (N := some 14) #[true, true, true, true, true, true, true, true, true, false, false] rfl rfl (by kernel_rfl) (by decide) (fun K hK => ?_)
                refine value_ (w1 := ?_) (v := ?_) (by rfl) rfl ?_ ?_
                rotate_left 2
                · go_simp
                  constructor
                  · rfl
                  · rfl
                refine hK.out _ _ ⟨cell_al _ (hHeld.1), cell_al _ (hHeld.2.1), cell_al _ (hHeld.2.2.1), cell_al _ (hHeld.2.2.2.1), cell_al _ (hHeld.2.2.2.2.1), cell_al _ (hHeld.2.2.2.2.2.1), cell_al _ (hHeld.2.2.2.2.2.2.1), cell_al _ (hHeld.2.2.2.2.2.2.2.1), cell_al _ (hHeld.2.2.2.2.2.2.2.2.1), cell_al _ (hHeld.2.2.2.2.2.2.2.2.2.1), cell_al _ (hHeld.2.2.2.2.2.2.2.2.2.2.1), cell_al _ (hHeld.2.2.2.2.2.2.2.2.2.2.2.1), cell_al _ (hHeld.2.2.2.2.2.2.2.2.2.2.2.2.1), cell_al _ (hHeld.2.2.2.2.2.2.2.2.2.2.2.2.2)⟩ (fun hHeld => ?_)
                clear hK K
                refine norm_ (a' := ?_) ?_ ?_
                rotate_left
                · show Act.put _ (some 14) _ = _
                  simp only [Act.put, List.setIfInBounds_toArray, List.set_cons_zero, List.set_cons_succ, i64_w, i32_w]
                  rfl
                exact norm_ (by simp only [putAll, Act.put, List.setIfInBounds_toArray, List.set_cons_zero, List.set_cons_succ]) (hCont (Value.agg #[.int .i64 xk, .int .i64 xa, .int .u8 xc, .bool xg, .int .u8 xf, .slice P1 xp.length q1, .slice xT xt.length xm], Value.agg #[.int .i64 yk, .int .i64 ya, .int .u8 yc, .bool yg, .int .u8 yf, .slice P2 yp.length q2, .slice yT yt.length ym], Value.pointer (some ⟨u2.heap.size, 0, none⟩), Value.pointer (some ⟨u2.heap.size + 1, 0, none⟩)) _ ⟨_, _, _, _, _, _, rfl, rfl, rfl, rfl, (Kd.R_alloc (Kd.R_alloc (Kd.R_below (Kd.R_lower hr1 (below_size (below_drew HBa.out))) hb2) _) _), (Kd.R_alloc (Kd.R_alloc (Kd.R_lower hr2 (below_size (below_step (below_drew HBa.out) hb1))) _) _), (blk_alloc (blk_new' _ (.cells #[.int .i64 0, .int .i64 0, .int .u8 0, .bool false, .int .u8 0, .slice none 0 0, .slice none 0 0] 38) (by simp)) _), (blk_new' _ (.cells #[.int .i64 0, .int .i64 0, .int .u8 0, .bool false, .int .u8 0, .slice none 0 0, .slice none 0 0] 38) (by simp)), by omega, by omega, by omega, (below_alloc (below_alloc (below_step (below_step (below_drew HBa.out) hb1) hb2) _) _), hHeld⟩)
              · skip
                refine value_ (w1 := ?_) (v := ?_) (by rfl) rfl ?_ ?_
                rotate_left 2
                · go_simp
                  constructor
                  · rfl
                  · rfl
                refine hK.out _ _ ⟨cell_al _ (hHeld.1), cell_al _ (hHeld.2.1), cell_al _ (hHeld.2.2.1), cell_al _ (hHeld.2.2.2.1), cell_al _ (hHeld.2.2.2.2.1), cell_al _ (hHeld.2.2.2.2.2.1), cell_al _ (hHeld.2.2.2.2.2.2.1), cell_al _ (hHeld.2.2.2.2.2.2.2.1), cell_al _ (hHeld.2.2.2.2.2.2.2.2.1), cell_al _ (hHeld.2.2.2.2.2.2.2.2.2.1), cell_al _ (hHeld.2.2.2.2.2.2.2.2.2.2.1), cell_al _ (hHeld.2.2.2.2.2.2.2.2.2.2.2.1), cell_al _ (hHeld.2.2.2.2.2.2.2.2.2.2.2.2.1), cell_al _ (hHeld.2.2.2.2.2.2.2.2.2.2.2.2.2)⟩ (fun hHeld => ?_)
                clear hK K
                refine norm_ (a' := ?_) ?_ ?_
                rotate_left
                · show Act.put _ (some 14) _ = _
                  simp only [Act.put, List.setIfInBounds_toArray, List.set_cons_zero, List.set_cons_succ, i64_w, i32_w]
                  rfl
                refine one_ (i := 7) (N := some 13) #[true, true, true, true, true, true, true, true, true, false, false] rfl rfl (by kernel_rfl) (by decide) (fun K hK => ?_)
                refine value_ (w1 := ?_) (v := ?_) (by rfl) rfl ?_ ?_
                rotate_left 2
                · go_simp
                  constructor
                  · rfl
                  · rfl
                refine hK.out _ _ ⟨cell_al _ (hHeld.1), cell_al _ (hHeld.2.1), cell_al _ (hHeld.2.2.1), cell_al _ (hHeld.2.2.2.1), cell_al _ (hHeld.2.2.2.2.1), cell_al _ (hHeld.2.2.2.2.2.1), cell_al _ (hHeld.2.2.2.2.2.2.1), cell_al _ (hHeld.2.2.2.2.2.2.2.1), cell_al _ (hHeld.2.2.2.2.2.2.2.2.1), cell_al _ (hHeld.2.2.2.2.2.2.2.2.2.1), cell_al _ (hHeld.2.2.2.2.2.2.2.2.2.2.1), cell_al _ (hHeld.2.2.2.2.2.2.2.2.2.2.2.1), cell_al _ (hHeld.2.2.2.2.2.2.2.2.2.2.2.2.1), cell_al _ (hHeld.2.2.2.2.2.2.2.2.2.2.2.2.2)⟩ (fun hHeld => ?_)
                clear hK K
                refine norm_ (a' := ?_) ?_ ?_
                rotate_left
                · show Act.put _ (some 13) _ = _
                  simp only [Act.put, List.setIfInBounds_toArray, List.set_cons_zero, List.set_cons_succ, i64_w, i32_w]
                  rfl
                exact norm_ (by simp only [putAll, Act.put, List.setIfInBounds_toArray, List.set_cons_zero, List.set_cons_succ]) (hCont (Value.agg #[.int .i64 xk, .int .i64 xa, .int .u8 xc, .bool xg, .int .u8 xf, .slice P1 xp.length q1, .slice xT xt.length xm], Value.agg #[.int .i64 yk, .int .i64 ya, .int .u8 yc, .bool yg, .int .u8 yf, .slice P2 yp.length q2, .slice yT yt.length ym], Value.pointer (some ⟨u2.heap.size + 1, 0, none⟩), Value.pointer (some ⟨u2.heap.size, 0, none⟩)) _ ⟨_, _, _, _, _, _, rfl, rfl, rfl, rfl, (Kd.R_alloc (Kd.R_alloc (Kd.R_below (Kd.R_lower hr1 (below_size (below_drew HBa.out))) hb2) _) _), (Kd.R_alloc (Kd.R_alloc (Kd.R_lower hr2 (below_size (below_step (below_drew HBa.out) hb1))) _) _), (blk_new' _ (.cells #[.int .i64 0, .int .i64 0, .int .u8 0, .bool false, .int .u8 0, .slice none 0 0, .slice none 0 0] 38) (by simp)), (blk_alloc (blk_new' _ (.cells #[.int .i64 0, .int .i64 0, .int .u8 0, .bool false, .int .u8 0, .slice none 0 0, .slice none 0 0] 38) (by simp)) _), by omega, by omega, by omega, (below_alloc (below_alloc (below_step (below_step (below_drew HBa.out) hb1) hb2) _) _), hHeld⟩)
            · skip
              refine value_ (w1 := ?_) (v := ?_) (by rfl) rfl ?_ ?_
              rotate_left 2
              · go_simp
                constructor
                · rfl
                · rfl
              refine hK.out _ _ ⟨cell_al _ (hHeld.1), cell_al _ (hHeld.2.1), cell_al _ (hHeld.2.2.1), cell_al _ (hHeld.2.2.2.1), cell_al _ (hHeld.2.2.2.2.1), cell_al _ (hHeld.2.2.2.2.2.1), cell_al _ (hHeld.2.2.2.2.2.2.1), cell_al _ (hHeld.2.2.2.2.2.2.2.1), cell_al _ (hHeld.2.2.2.2.2.2.2.2.1), cell_al _ (hHeld.2.2.2.2.2.2.2.2.2.1), cell_al _ (hHeld.2.2.2.2.2.2.2.2.2.2.1), cell_al _ (hHeld.2.2.2.2.2.2.2.2.2.2.2.1), cell_al _ (hHeld.2.2.2.2.2.2.2.2.2.2.2.2.1), cell_al _ (hHeld.2.2.2.2.2.2.2.2.2.2.2.2.2)⟩ (fun hHeld => ?_)
              clear hK K
              refine norm_ (a' := ?_) ?_ ?_
              rotate_left
              · show Act.put _ (some 13) _ = _
                simp only [Act.put, List.setIfInBounds_toArray, List.set_cons_zero, List.set_cons_succ, i64_w, i32_w]
                rfl
              refine two_ (i := 6) (j := 8) (Ni := some 80) (Nj := some 14) #[true, true, true, true, true, true, true, true, false, false, false] #[true, true, true, true, true, true, false, true, true, false, false] rfl rfl rfl rfl (by kernel_rfl) (by decide) (by decide) (fun K hK => ?_) (fun K hK => ?_)
              · skip
                refine goes_ Try.func12 (by kernel_rfl) rfl #[.agg #[.int .i64 yk, .int .i64 ya, .int .u8 yc, .bool yg, .int .u8 yf, .slice yP yp.length yn, .slice yT yt.length ym]] (by rfl) rfl rfl (by simp only [List.map_toArray, List.map_cons, List.map_nil]; rfl) ?_
                with_reducible refine (back_of' yk ya yc yg yf yP yn yp yT yt.length ym _ (Kd.C_alloc (Kd.C_below (Kd.C_drew HYP.out) hb1) _) hyn hyl).mono ?_
                rintro e u3 ⟨P3, q3, rfl, hr3, hb3⟩
                refine ⟨_, rfl, ?_⟩
                have hz3 : u1.heap.size + 1 ≤ u3.heap.size := by have h9 := hb3.size; simpa using h9
                refine hK.out _ _ ⟨pw_cell_below hb3 (hHeld.1), pw_cell_below hb3 (hHeld.2.1), pw_cell_below hb3 (hHeld.2.2.1), pw_cell_below hb3 (hHeld.2.2.2.1), pw_cell_below hb3 (hHeld.2.2.2.2.1), pw_cell_below hb3 (hHeld.2.2.2.2.2.1), pw_cell_below hb3 (hHeld.2.2.2.2.2.2.1), pw_cell_below hb3 (hHeld.2.2.2.2.2.2.2.1), pw_cell_below hb3 (hHeld.2.2.2.2.2.2.2.2.1), pw_cell_below hb3 (hHeld.2.2.2.2.2.2.2.2.2.1), pw_cell_below hb3 (hHeld.2.2.2.2.2.2.2.2.2.2.1), pw_cell_below hb3 (hHeld.2.2.2.2.2.2.2.2.2.2.2.1), pw_cell_below hb3 (hHeld.2.2.2.2.2.2.2.2.2.2.2.2.1), pw_cell_below hb3 (hHeld.2.2.2.2.2.2.2.2.2.2.2.2.2)⟩ (fun hHeld => ?_)
                clear hK K
                refine norm_ (a' := ?_) ?_ ?_
                rotate_left
                · show Act.put _ (some 80) _ = _
                  simp only [Act.put, List.setIfInBounds_toArray, List.set_cons_zero, List.set_cons_succ, i64_w, i32_w]
                  rfl
                refine one_ (i := 8) (N := some 14) #[true, true, true, true, true, true, true, true, true, false, false] rfl rfl (by kernel_rfl) (by decide) (fun K hK => ?_)
                refine value_ (w1 := ?_) (v := ?_) (by rfl) rfl ?_ ?_
                rotate_left 2
                · go_simp
                  constructor
                  · rfl
                  · rfl
                refine hK.out _ _ ⟨cell_al _ (hHeld.1), cell_al _ (hHeld.2.1), cell_al _ (hHeld.2.2.1), cell_al _ (hHeld.2.2.2.1), cell_al _ (hHeld.2.2.2.2.1), cell_al _ (hHeld.2.2.2.2.2.1), cell_al _ (hHeld.2.2.2.2.2.2.1), cell_al _ (hHeld.2.2.2.2.2.2.2.1), cell_al _ (hHeld.2.2.2.2.2.2.2.2.1), cell_al _ (hHeld.2.2.2.2.2.2.2.2.2.1), cell_al _ (hHeld.2.2.2.2.2.2.2.2.2.2.1), cell_al _ (hHeld.2.2.2.2.2.2.2.2.2.2.2.1), cell_al _ (hHeld.2.2.2.2.2.2.2.2.2.2.2.2.1), cell_al _ (hHeld.2.2.2.2.2.2.2.2.2.2.2.2.2)⟩ (fun hHeld => ?_)
                clear hK K
                refine norm_ (a' := ?_) ?_ ?_
                rotate_left
                · show Act.put _ (some 14) _ = _
                  simp only [Act.put, List.setIfInBounds_toArray, List.set_cons_zero, List.set_cons_succ, i64_w, i32_w]
                  rfl
                exact norm_ (by simp only [putAll, Act.put, List.setIfInBounds_toArray, List.set_cons_zero, List.set_cons_succ]) (hCont (Value.agg #[.int .i64 xk, .int .i64 xa, .int .u8 xc, .bool xg, .int .u8 xf, .slice P1 xp.length q1, .slice xT xt.length xm], Value.agg #[.int .i64 yk, .int .i64 ya, .int .u8 yc, .bool yg, .int .u8 yf, .slice P3 yp.length q3, .slice yT yt.length ym], Value.pointer (some ⟨u1.heap.size, 0, none⟩), Value.pointer (some ⟨u3.heap.size, 0, none⟩)) _ ⟨_, _, _, _, _, _, rfl, rfl, rfl, rfl, (Kd.R_alloc (Kd.R_below (Kd.R_alloc (Kd.R_lower hr1 (below_size (below_drew HBa.out))) _) hb3) _), (Kd.R_alloc (Kd.R_lower hr3 (below_size (below_alloc (below_step (below_drew HBa.out) hb1) _))) _), (blk_alloc (blk_below (blk_new' _ (.cells #[.int .i64 0, .int .i64 0, .int .u8 0, .bool false, .int .u8 0, .slice none 0 0, .slice none 0 0] 38) (by simp)) hb3) _), (blk_new' _ (.cells #[.int .i64 0, .int .i64 0, .int .u8 0, .bool false, .int .u8 0, .slice none 0 0, .slice none 0 0] 38) (by simp)), by omega, by omega, by omega, (below_alloc (below_step (below_alloc (below_step (below_drew HBa.out) hb1) _) hb3) _), hHeld⟩)
              · skip
                refine value_ (w1 := ?_) (v := ?_) (by rfl) rfl ?_ ?_
                rotate_left 2
                · go_simp
                  constructor
                  · rfl
                  · rfl
                refine hK.out _ _ ⟨cell_al _ (hHeld.1), cell_al _ (hHeld.2.1), cell_al _ (hHeld.2.2.1), cell_al _ (hHeld.2.2.2.1), cell_al _ (hHeld.2.2.2.2.1), cell_al _ (hHeld.2.2.2.2.2.1), cell_al _ (hHeld.2.2.2.2.2.2.1), cell_al _ (hHeld.2.2.2.2.2.2.2.1), cell_al _ (hHeld.2.2.2.2.2.2.2.2.1), cell_al _ (hHeld.2.2.2.2.2.2.2.2.2.1), cell_al _ (hHeld.2.2.2.2.2.2.2.2.2.2.1), cell_al _ (hHeld.2.2.2.2.2.2.2.2.2.2.2.1), cell_al _ (hHeld.2.2.2.2.2.2.2.2.2.2.2.2.1), cell_al _ (hHeld.2.2.2.2.2.2.2.2.2.2.2.2.2)⟩ (fun hHeld => ?_)
                clear hK K
                refine norm_ (a' := ?_) ?_ ?_
                rotate_left
                · show Act.put _ (some 14) _ = _
                  simp only [Act.put, List.setIfInBounds_toArray, List.set_cons_zero, List.set_cons_succ, i64_w, i32_w]
                  rfl
                refine one_ (i := 6) (N := some 80) #[true, true, true, true, true, true, true, true, true, false, false] rfl rfl (by kernel_rfl) (by decide) (fun K hK => ?_)
                refine goes_ Try.func12 (by kernel_rfl) rfl #[.agg #[.int .i64 yk, .int .i64 ya, .int .u8 yc, .bool yg, .int .u8 yf, .slice yP yp.length yn, .slice yT yt.length ym]] (by rfl) rfl rfl (by simp only [List.map_toArray, List.map_cons, List.map_nil]; rfl) ?_
                with_reducible refine (back_of' yk ya yc yg yf yP yn yp yT yt.length ym _ (Kd.C_alloc (Kd.C_alloc (Kd.C_below (Kd.C_drew HYP.out) hb1) _) _) hyn hyl).mono ?_
                rintro e u4 ⟨P4, q4, rfl, hr4, hb4⟩
                refine ⟨_, rfl, ?_⟩
                have hz4 : u1.heap.size + 1 + 1 ≤ u4.heap.size := by have h9 := hb4.size; simpa using h9
                refine hK.out _ _ ⟨pw_cell_below hb4 (hHeld.1), pw_cell_below hb4 (hHeld.2.1), pw_cell_below hb4 (hHeld.2.2.1), pw_cell_below hb4 (hHeld.2.2.2.1), pw_cell_below hb4 (hHeld.2.2.2.2.1), pw_cell_below hb4 (hHeld.2.2.2.2.2.1), pw_cell_below hb4 (hHeld.2.2.2.2.2.2.1), pw_cell_below hb4 (hHeld.2.2.2.2.2.2.2.1), pw_cell_below hb4 (hHeld.2.2.2.2.2.2.2.2.1), pw_cell_below hb4 (hHeld.2.2.2.2.2.2.2.2.2.1), pw_cell_below hb4 (hHeld.2.2.2.2.2.2.2.2.2.2.1), pw_cell_below hb4 (hHeld.2.2.2.2.2.2.2.2.2.2.2.1), pw_cell_below hb4 (hHeld.2.2.2.2.2.2.2.2.2.2.2.2.1), pw_cell_below hb4 (hHeld.2.2.2.2.2.2.2.2.2.2.2.2.2)⟩ (fun hHeld => ?_)
                clear hK K
                refine norm_ (a' := ?_) ?_ ?_
                rotate_left
                · show Act.put _ (some 80) _ = _
                  simp only [Act.put, List.setIfInBounds_toArray, List.set_cons_zero, List.set_cons_succ, i64_w, i32_w]
                  rfl
                exact norm_ (by simp only [putAll, Act.put, List.setIfInBounds_toArray, List.set_cons_zero, List.set_cons_succ]) (hCont (Value.agg #[.int .i64 xk, .int .i64 xa, .int .u8 xc, .bool xg, .int .u8 xf, .slice P1 xp.length q1, .slice xT xt.length xm], Value.agg #[.int .i64 yk, .int .i64 ya, .int .u8 yc, .bool yg, .int .u8 yf, .slice P4 yp.length q4, .slice yT yt.length ym], Value.pointer (some ⟨u1.heap.size, 0, none⟩), Value.pointer (some ⟨u1.heap.size + 1, 0, none⟩)) _ ⟨_, _, _, _, _, _, rfl, rfl, rfl, rfl, (Kd.R_below (Kd.R_alloc (Kd.R_alloc (Kd.R_lower hr1 (below_size (below_drew HBa.out))) _) _) hb4), (Kd.R_lower hr4 (below_size (below_alloc (below_alloc (below_step (below_drew HBa.out) hb1) _) _))), (blk_below (blk_alloc (blk_new' _ (.cells #[.int .i64 0, .int .i64 0, .int .u8 0, .bool false, .int .u8 0, .slice none 0 0, .slice none 0 0] 38) (by simp)) _) hb4), (blk_below (blk_new' _ (.cells #[.int .i64 0, .int .i64 0, .int .u8 0, .bool false, .int .u8 0, .slice none 0 0, .slice none 0 0] 38) (by simp)) hb4), by omega, by omega, by omega, (below_step (below_alloc (below_alloc (below_step (below_drew HBa.out) hb1) _) _) hb4), hHeld⟩)
            · skip
              refine value_ (w1 := ?_) (v := ?_) (by rfl) rfl ?_ ?_
              rotate_left 2
              · go_simp
                constructor
                · rfl
                · rfl
              refine hK.out _ _ ⟨cell_al _ (hHeld.1), cell_al _ (hHeld.2.1), cell_al _ (hHeld.2.2.1), cell_al _ (hHeld.2.2.2.1), cell_al _ (hHeld.2.2.2.2.1), cell_al _ (hHeld.2.2.2.2.2.1), cell_al _ (hHeld.2.2.2.2.2.2.1), cell_al _ (hHeld.2.2.2.2.2.2.2.1), cell_al _ (hHeld.2.2.2.2.2.2.2.2.1), cell_al _ (hHeld.2.2.2.2.2.2.2.2.2.1), cell_al _ (hHeld.2.2.2.2.2.2.2.2.2.2.1), cell_al _ (hHeld.2.2.2.2.2.2.2.2.2.2.2.1), cell_al _ (hHeld.2.2.2.2.2.2.2.2.2.2.2.2.1), cell_al _ (hHeld.2.2.2.2.2.2.2.2.2.2.2.2.2)⟩ (fun hHeld => ?_)
              clear hK K
              refine norm_ (a' := ?_) ?_ ?_
              rotate_left
              · show Act.put _ (some 14) _ = _
                simp only [Act.put, List.setIfInBounds_toArray, List.set_cons_zero, List.set_cons_succ, i64_w, i32_w]
                rfl
              refine two_ (i := 6) (j := 7) (Ni := some 80) (Nj := some 13) #[true, true, true, true, true, true, true, false, true, false, false] #[true, true, true, true, true, true, false, true, true, false, false] rfl rfl rfl rfl (by kernel_rfl) (by decide) (by decide) (fun K hK => ?_) (fun K hK => ?_)
              · skip
                refine goes_ Try.func12 (by kernel_rfl) rfl #[.agg #[.int .i64 yk, .int .i64 ya, .int .u8 yc, .bool yg, .int .u8 yf, .slice yP yp.length yn, .slice yT yt.length ym]] (by rfl) rfl rfl (by simp only [List.map_toArray, List.map_cons, List.map_nil]; rfl) ?_
                with_reducible refine (back_of' yk ya yc yg yf yP yn yp yT yt.length ym _ (Kd.C_alloc (Kd.C_below (Kd.C_drew HYP.out) hb1) _) hyn hyl).mono ?_
                rintro e u3 ⟨P3, q3, rfl, hr3, hb3⟩
                refine ⟨_, rfl, ?_⟩
                have hz3 : u1.heap.size + 1 ≤ u3.heap.size := by have h9 := hb3.size; simpa using h9
                refine hK.out _ _ ⟨pw_cell_below hb3 (hHeld.1), pw_cell_below hb3 (hHeld.2.1), pw_cell_below hb3 (hHeld.2.2.1), pw_cell_below hb3 (hHeld.2.2.2.1), pw_cell_below hb3 (hHeld.2.2.2.2.1), pw_cell_below hb3 (hHeld.2.2.2.2.2.1), pw_cell_below hb3 (hHeld.2.2.2.2.2.2.1), pw_cell_below hb3 (hHeld.2.2.2.2.2.2.2.1), pw_cell_below hb3 (hHeld.2.2.2.2.2.2.2.2.1), pw_cell_below hb3 (hHeld.2.2.2.2.2.2.2.2.2.1), pw_cell_below hb3 (hHeld.2.2.2.2.2.2.2.2.2.2.1), pw_cell_below hb3 (hHeld.2.2.2.2.2.2.2.2.2.2.2.1), pw_cell_below hb3 (hHeld.2.2.2.2.2.2.2.2.2.2.2.2.1), pw_cell_below hb3 (hHeld.2.2.2.2.2.2.2.2.2.2.2.2.2)⟩ (fun hHeld => ?_)
                clear hK K
                refine norm_ (a' := ?_) ?_ ?_
                rotate_left
                · show Act.put _ (some 80) _ = _
                  simp only [Act.put, List.setIfInBounds_toArray, List.set_cons_zero, List.set_cons_succ, i64_w, i32_w]
                  rfl
                refine one_ (i := 7) (N := some 13) #[true, true, true, true, true, true, true, true, true, false, false] rfl rfl (by kernel_rfl) (by decide) (fun K hK => ?_)
                refine value_ (w1 := ?_) (v := ?_) (by rfl) rfl ?_ ?_
                rotate_left 2
                · go_simp
                  constructor
                  · rfl
                  · rfl
                refine hK.out _ _ ⟨cell_al _ (hHeld.1), cell_al _ (hHeld.2.1), cell_al _ (hHeld.2.2.1), cell_al _ (hHeld.2.2.2.1), cell_al _ (hHeld.2.2.2.2.1), cell_al _ (hHeld.2.2.2.2.2.1), cell_al _ (hHeld.2.2.2.2.2.2.1), cell_al _ (hHeld.2.2.2.2.2.2.2.1), cell_al _ (hHeld.2.2.2.2.2.2.2.2.1), cell_al _ (hHeld.2.2.2.2.2.2.2.2.2.1), cell_al _ (hHeld.2.2.2.2.2.2.2.2.2.2.1), cell_al _ (hHeld.2.2.2.2.2.2.2.2.2.2.2.1), cell_al _ (hHeld.2.2.2.2.2.2.2.2.2.2.2.2.1), cell_al _ (hHeld.2.2.2.2.2.2.2.2.2.2.2.2.2)⟩ (fun hHeld => ?_)
                clear hK K
                refine norm_ (a' := ?_) ?_ ?_
                rotate_left
                · show Act.put _ (some 13) _ = _
                  simp only [Act.put, List.setIfInBounds_toArray, List.set_cons_zero, List.set_cons_succ, i64_w, i32_w]
                  rfl
                exact norm_ (by simp only [putAll, Act.put, List.setIfInBounds_toArray, List.set_cons_zero, List.set_cons_succ]) (hCont (Value.agg #[.int .i64 xk, .int .i64 xa, .int .u8 xc, .bool xg, .int .u8 xf, .slice P1 xp.length q1, .slice xT xt.length xm], Value.agg #[.int .i64 yk, .int .i64 ya, .int .u8 yc, .bool yg, .int .u8 yf, .slice P3 yp.length q3, .slice yT yt.length ym], Value.pointer (some ⟨u3.heap.size, 0, none⟩), Value.pointer (some ⟨u1.heap.size, 0, none⟩)) _ ⟨_, _, _, _, _, _, rfl, rfl, rfl, rfl, (Kd.R_alloc (Kd.R_below (Kd.R_alloc (Kd.R_lower hr1 (below_size (below_drew HBa.out))) _) hb3) _), (Kd.R_alloc (Kd.R_lower hr3 (below_size (below_alloc (below_step (below_drew HBa.out) hb1) _))) _), (blk_new' _ (.cells #[.int .i64 0, .int .i64 0, .int .u8 0, .bool false, .int .u8 0, .slice none 0 0, .slice none 0 0] 38) (by simp)), (blk_alloc (blk_below (blk_new' _ (.cells #[.int .i64 0, .int .i64 0, .int .u8 0, .bool false, .int .u8 0, .slice none 0 0, .slice none 0 0] 38) (by simp)) hb3) _), by omega, by omega, by omega, (below_alloc (below_step (below_alloc (below_step (below_drew HBa.out) hb1) _) hb3) _), hHeld⟩)
              · skip
                refine value_ (w1 := ?_) (v := ?_) (by rfl) rfl ?_ ?_
                rotate_left 2
                · go_simp
                  constructor
                  · rfl
                  · rfl
                refine hK.out _ _ ⟨cell_al _ (hHeld.1), cell_al _ (hHeld.2.1), cell_al _ (hHeld.2.2.1), cell_al _ (hHeld.2.2.2.1), cell_al _ (hHeld.2.2.2.2.1), cell_al _ (hHeld.2.2.2.2.2.1), cell_al _ (hHeld.2.2.2.2.2.2.1), cell_al _ (hHeld.2.2.2.2.2.2.2.1), cell_al _ (hHeld.2.2.2.2.2.2.2.2.1), cell_al _ (hHeld.2.2.2.2.2.2.2.2.2.1), cell_al _ (hHeld.2.2.2.2.2.2.2.2.2.2.1), cell_al _ (hHeld.2.2.2.2.2.2.2.2.2.2.2.1), cell_al _ (hHeld.2.2.2.2.2.2.2.2.2.2.2.2.1), cell_al _ (hHeld.2.2.2.2.2.2.2.2.2.2.2.2.2)⟩ (fun hHeld => ?_)
                clear hK K
                refine norm_ (a' := ?_) ?_ ?_
                rotate_left
                · show Act.put _ (some 13) _ = _
                  simp only [Act.put, List.setIfInBounds_toArray, List.set_cons_zero, List.set_cons_succ, i64_w, i32_w]
                  rfl
                refine one_ (i := 6) (N := some 80) #[true, true, true, true, true, true, true, true, true, false, false] rfl rfl (by kernel_rfl) (by decide) (fun K hK => ?_)
                refine goes_ Try.func12 (by kernel_rfl) rfl #[.agg #[.int .i64 yk, .int .i64 ya, .int .u8 yc, .bool yg, .int .u8 yf, .slice yP yp.length yn, .slice yT yt.length ym]] (by rfl) rfl rfl (by simp only [List.map_toArray, List.map_cons, List.map_nil]; rfl) ?_
                with_reducible refine (back_of' yk ya yc yg yf yP yn yp yT yt.length ym _ (Kd.C_alloc (Kd.C_alloc (Kd.C_below (Kd.C_drew HYP.out) hb1) _) _) hyn hyl).mono ?_
                rintro e u4 ⟨P4, q4, rfl, hr4, hb4⟩
                refine ⟨_, rfl, ?_⟩
                have hz4 : u1.heap.size + 1 + 1 ≤ u4.heap.size := by have h9 := hb4.size; simpa using h9
                refine hK.out _ _ ⟨pw_cell_below hb4 (hHeld.1), pw_cell_below hb4 (hHeld.2.1), pw_cell_below hb4 (hHeld.2.2.1), pw_cell_below hb4 (hHeld.2.2.2.1), pw_cell_below hb4 (hHeld.2.2.2.2.1), pw_cell_below hb4 (hHeld.2.2.2.2.2.1), pw_cell_below hb4 (hHeld.2.2.2.2.2.2.1), pw_cell_below hb4 (hHeld.2.2.2.2.2.2.2.1), pw_cell_below hb4 (hHeld.2.2.2.2.2.2.2.2.1), pw_cell_below hb4 (hHeld.2.2.2.2.2.2.2.2.2.1), pw_cell_below hb4 (hHeld.2.2.2.2.2.2.2.2.2.2.1), pw_cell_below hb4 (hHeld.2.2.2.2.2.2.2.2.2.2.2.1), pw_cell_below hb4 (hHeld.2.2.2.2.2.2.2.2.2.2.2.2.1), pw_cell_below hb4 (hHeld.2.2.2.2.2.2.2.2.2.2.2.2.2)⟩ (fun hHeld => ?_)
                clear hK K
                refine norm_ (a' := ?_) ?_ ?_
                rotate_left
                · show Act.put _ (some 80) _ = _
                  simp only [Act.put, List.setIfInBounds_toArray, List.set_cons_zero, List.set_cons_succ, i64_w, i32_w]
                  rfl
                exact norm_ (by simp only [putAll, Act.put, List.setIfInBounds_toArray, List.set_cons_zero, List.set_cons_succ]) (hCont (Value.agg #[.int .i64 xk, .int .i64 xa, .int .u8 xc, .bool xg, .int .u8 xf, .slice P1 xp.length q1, .slice xT xt.length xm], Value.agg #[.int .i64 yk, .int .i64 ya, .int .u8 yc, .bool yg, .int .u8 yf, .slice P4 yp.length q4, .slice yT yt.length ym], Value.pointer (some ⟨u1.heap.size + 1, 0, none⟩), Value.pointer (some ⟨u1.heap.size, 0, none⟩)) _ ⟨_, _, _, _, _, _, rfl, rfl, rfl, rfl, (Kd.R_below (Kd.R_alloc (Kd.R_alloc (Kd.R_lower hr1 (below_size (below_drew HBa.out))) _) _) hb4), (Kd.R_lower hr4 (below_size (below_alloc (below_alloc (below_step (below_drew HBa.out) hb1) _) _))), (blk_below (blk_new' _ (.cells #[.int .i64 0, .int .i64 0, .int .u8 0, .bool false, .int .u8 0, .slice none 0 0, .slice none 0 0] 38) (by simp)) hb4), (blk_below (blk_alloc (blk_new' _ (.cells #[.int .i64 0, .int .i64 0, .int .u8 0, .bool false, .int .u8 0, .slice none 0 0, .slice none 0 0] 38) (by simp)) _) hb4), by omega, by omega, by omega, (below_step (below_alloc (below_alloc (below_step (below_drew HBa.out) hb1) _) _) hb4), hHeld⟩)
          · skip
            refine value_ (w1 := ?_) (v := ?_) (by rfl) rfl ?_ ?_
            rotate_left 2
            · go_simp
              constructor
              · rfl
              · rfl
            refine hK.out _ _ ⟨cell_dal _ (hHeld.1), cell_dal _ (hHeld.2.1), cell_dal _ (hHeld.2.2.1), cell_dal _ (hHeld.2.2.2.1), cell_dal _ (hHeld.2.2.2.2.1), cell_dal _ (hHeld.2.2.2.2.2.1), cell_dal _ (hHeld.2.2.2.2.2.2.1), cell_dal _ (hHeld.2.2.2.2.2.2.2.1), cell_dal _ (hHeld.2.2.2.2.2.2.2.2.1), cell_dal _ (hHeld.2.2.2.2.2.2.2.2.2.1), cell_dal _ (hHeld.2.2.2.2.2.2.2.2.2.2.1), cell_dal _ (hHeld.2.2.2.2.2.2.2.2.2.2.2.1), cell_dal _ (hHeld.2.2.2.2.2.2.2.2.2.2.2.2.1), cell_dal _ (hHeld.2.2.2.2.2.2.2.2.2.2.2.2.2)⟩ (fun hHeld => ?_)
            clear hK K
            refine norm_ (a' := ?_) ?_ ?_
            rotate_left
            · show Act.put _ (some 13) _ = _
              simp only [Act.put, List.setIfInBounds_toArray, List.set_cons_zero, List.set_cons_succ, i64_w, i32_w]
              rfl
            refine two_ (i := 1) (j := 8) (Ni := some 75) (Nj := some 14) #[true, true, true, true, true, true, false, true, false, false, false] #[true, false, true, true, true, true, false, true, true, false, false] rfl rfl rfl rfl (by kernel_rfl) (by decide) (by decide) (fun K hK => ?_) (fun K hK => ?_)
            · skip
              refine goes_ Try.func12 (by kernel_rfl) rfl #[.agg #[.int .i64 xk, .int .i64 xa, .int .u8 xc, .bool xg, .int .u8 xf, .slice xP xp.length xn, .slice xT xt.length xm]] (by rfl) rfl rfl (by simp only [List.map_toArray, List.map_cons, List.map_nil]; rfl) ?_
              with_reducible refine (back_of' xk xa xc xg xf xP xn xp xT xt.length xm _ (Kd.C_drew (Kd.C_alloc HXP.out _)) hxn hxl).mono ?_
              rintro e u2 ⟨P2, q2, rfl, hr2, hb2⟩
              refine ⟨_, rfl, ?_⟩
              have hz2 : wb.heap.size + 1 ≤ u2.heap.size := by have h9 := hb2.size; simpa using h9
              refine hK.out _ _ ⟨pw_cell_below hb2 (hHeld.1), pw_cell_below hb2 (hHeld.2.1), pw_cell_below hb2 (hHeld.2.2.1), pw_cell_below hb2 (hHeld.2.2.2.1), pw_cell_below hb2 (hHeld.2.2.2.2.1), pw_cell_below hb2 (hHeld.2.2.2.2.2.1), pw_cell_below hb2 (hHeld.2.2.2.2.2.2.1), pw_cell_below hb2 (hHeld.2.2.2.2.2.2.2.1), pw_cell_below hb2 (hHeld.2.2.2.2.2.2.2.2.1), pw_cell_below hb2 (hHeld.2.2.2.2.2.2.2.2.2.1), pw_cell_below hb2 (hHeld.2.2.2.2.2.2.2.2.2.2.1), pw_cell_below hb2 (hHeld.2.2.2.2.2.2.2.2.2.2.2.1), pw_cell_below hb2 (hHeld.2.2.2.2.2.2.2.2.2.2.2.2.1), pw_cell_below hb2 (hHeld.2.2.2.2.2.2.2.2.2.2.2.2.2)⟩ (fun hHeld => ?_)
              clear hK K
              refine norm_ (a' := ?_) ?_ ?_
              rotate_left
              · show Act.put _ (some 75) _ = _
                simp only [Act.put, List.setIfInBounds_toArray, List.set_cons_zero, List.set_cons_succ, i64_w, i32_w]
                rfl
              refine two_ (i := 6) (j := 8) (Ni := some 80) (Nj := some 14) #[true, true, true, true, true, true, true, true, false, false, false] #[true, true, true, true, true, true, false, true, true, false, false] rfl rfl rfl rfl (by kernel_rfl) (by decide) (by decide) (fun K hK => ?_) (fun K hK => ?_)
              · skip
                refine goes_ Try.func12 (by kernel_rfl) rfl #[.agg #[.int .i64 yk, .int .i64 ya, .int .u8 yc, .bool yg, .int .u8 yf, .slice yP yp.length yn, .slice yT yt.length ym]] (by rfl) rfl rfl (by simp only [List.map_toArray, List.map_cons, List.map_nil]; rfl) ?_
                with_reducible refine (back_of' yk ya yc yg yf yP yn yp yT yt.length ym _ (Kd.C_below (Kd.C_drew (Kd.C_alloc HYP.out _)) hb2) hyn hyl).mono ?_
                rintro e u3 ⟨P3, q3, rfl, hr3, hb3⟩
                refine ⟨_, rfl, ?_⟩
                have hz3 : u2.heap.size ≤ u3.heap.size := by have h9 := hb3.size; simpa using h9
                refine hK.out _ _ ⟨pw_cell_below hb3 (hHeld.1), pw_cell_below hb3 (hHeld.2.1), pw_cell_below hb3 (hHeld.2.2.1), pw_cell_below hb3 (hHeld.2.2.2.1), pw_cell_below hb3 (hHeld.2.2.2.2.1), pw_cell_below hb3 (hHeld.2.2.2.2.2.1), pw_cell_below hb3 (hHeld.2.2.2.2.2.2.1), pw_cell_below hb3 (hHeld.2.2.2.2.2.2.2.1), pw_cell_below hb3 (hHeld.2.2.2.2.2.2.2.2.1), pw_cell_below hb3 (hHeld.2.2.2.2.2.2.2.2.2.1), pw_cell_below hb3 (hHeld.2.2.2.2.2.2.2.2.2.2.1), pw_cell_below hb3 (hHeld.2.2.2.2.2.2.2.2.2.2.2.1), pw_cell_below hb3 (hHeld.2.2.2.2.2.2.2.2.2.2.2.2.1), pw_cell_below hb3 (hHeld.2.2.2.2.2.2.2.2.2.2.2.2.2)⟩ (fun hHeld => ?_)
                clear hK K
                refine norm_ (a' := ?_) ?_ ?_
                rotate_left
                · show Act.put _ (some 80) _ = _
                  simp only [Act.put, List.setIfInBounds_toArray, List.set_cons_zero, List.set_cons_succ, i64_w, i32_w]
                  rfl
                refine one_ (i := 8) (N := some 14) #[true, true, true, true, true, true, true, true, true, false, false] rfl rfl (by kernel_rfl) (by decide) (fun K hK => ?_)
                refine value_ (w1 := ?_) (v := ?_) (by rfl) rfl ?_ ?_
                rotate_left 2
                · go_simp
                  constructor
                  · rfl
                  · rfl
                refine hK.out _ _ ⟨cell_al _ (hHeld.1), cell_al _ (hHeld.2.1), cell_al _ (hHeld.2.2.1), cell_al _ (hHeld.2.2.2.1), cell_al _ (hHeld.2.2.2.2.1), cell_al _ (hHeld.2.2.2.2.2.1), cell_al _ (hHeld.2.2.2.2.2.2.1), cell_al _ (hHeld.2.2.2.2.2.2.2.1), cell_al _ (hHeld.2.2.2.2.2.2.2.2.1), cell_al _ (hHeld.2.2.2.2.2.2.2.2.2.1), cell_al _ (hHeld.2.2.2.2.2.2.2.2.2.2.1), cell_al _ (hHeld.2.2.2.2.2.2.2.2.2.2.2.1), cell_al _ (hHeld.2.2.2.2.2.2.2.2.2.2.2.2.1), cell_al _ (hHeld.2.2.2.2.2.2.2.2.2.2.2.2.2)⟩ (fun hHeld => ?_)
                clear hK K
                refine norm_ (a' := ?_) ?_ ?_
                rotate_left
                · show Act.put _ (some 14) _ = _
                  simp only [Act.put, List.setIfInBounds_toArray, List.set_cons_zero, List.set_cons_succ, i64_w, i32_w]
                  rfl
                exact norm_ (by simp only [putAll, Act.put, List.setIfInBounds_toArray, List.set_cons_zero, List.set_cons_succ]) (hCont (Value.agg #[.int .i64 xk, .int .i64 xa, .int .u8 xc, .bool xg, .int .u8 xf, .slice P2 xp.length q2, .slice xT xt.length xm], Value.agg #[.int .i64 yk, .int .i64 ya, .int .u8 yc, .bool yg, .int .u8 yf, .slice P3 yp.length q3, .slice yT yt.length ym], Value.pointer (some ⟨wb.heap.size, 0, none⟩), Value.pointer (some ⟨u3.heap.size, 0, none⟩)) _ ⟨_, _, _, _, _, _, rfl, rfl, rfl, rfl, (Kd.R_alloc (Kd.R_below (Kd.R_lower hr2 (below_size (below_drew (below_alloc HBa.out _)))) hb3) _), (Kd.R_alloc (Kd.R_lower hr3 (below_size (below_step (below_drew (below_alloc HBa.out _)) hb2))) _), (blk_alloc (blk_below (blk_below (blk_drew (blk_new' _ (.cells #[.int .i64 0, .int .i64 0, .int .u8 0, .bool false, .int .u8 0, .slice none 0 0, .slice none 0 0] 38) (by simp))) hb2) hb3) _), (blk_new' _ (.cells #[.int .i64 0, .int .i64 0, .int .u8 0, .bool false, .int .u8 0, .slice none 0 0, .slice none 0 0] 38) (by simp)), by omega, by omega, by omega, (below_alloc (below_step (below_step (below_drew (below_alloc HBa.out _)) hb2) hb3) _), hHeld⟩)
              · skip
                refine value_ (w1 := ?_) (v := ?_) (by rfl) rfl ?_ ?_
                rotate_left 2
                · go_simp
                  constructor
                  · rfl
                  · rfl
                refine hK.out _ _ ⟨cell_al _ (hHeld.1), cell_al _ (hHeld.2.1), cell_al _ (hHeld.2.2.1), cell_al _ (hHeld.2.2.2.1), cell_al _ (hHeld.2.2.2.2.1), cell_al _ (hHeld.2.2.2.2.2.1), cell_al _ (hHeld.2.2.2.2.2.2.1), cell_al _ (hHeld.2.2.2.2.2.2.2.1), cell_al _ (hHeld.2.2.2.2.2.2.2.2.1), cell_al _ (hHeld.2.2.2.2.2.2.2.2.2.1), cell_al _ (hHeld.2.2.2.2.2.2.2.2.2.2.1), cell_al _ (hHeld.2.2.2.2.2.2.2.2.2.2.2.1), cell_al _ (hHeld.2.2.2.2.2.2.2.2.2.2.2.2.1), cell_al _ (hHeld.2.2.2.2.2.2.2.2.2.2.2.2.2)⟩ (fun hHeld => ?_)
                clear hK K
                refine norm_ (a' := ?_) ?_ ?_
                rotate_left
                · show Act.put _ (some 14) _ = _
                  simp only [Act.put, List.setIfInBounds_toArray, List.set_cons_zero, List.set_cons_succ, i64_w, i32_w]
                  rfl
                refine one_ (i := 6) (N := some 80) #[true, true, true, true, true, true, true, true, true, false, false] rfl rfl (by kernel_rfl) (by decide) (fun K hK => ?_)
                refine goes_ Try.func12 (by kernel_rfl) rfl #[.agg #[.int .i64 yk, .int .i64 ya, .int .u8 yc, .bool yg, .int .u8 yf, .slice yP yp.length yn, .slice yT yt.length ym]] (by rfl) rfl rfl (by simp only [List.map_toArray, List.map_cons, List.map_nil]; rfl) ?_
                with_reducible refine (back_of' yk ya yc yg yf yP yn yp yT yt.length ym _ (Kd.C_alloc (Kd.C_below (Kd.C_drew (Kd.C_alloc HYP.out _)) hb2) _) hyn hyl).mono ?_
                rintro e u4 ⟨P4, q4, rfl, hr4, hb4⟩
                refine ⟨_, rfl, ?_⟩
                have hz4 : u2.heap.size + 1 ≤ u4.heap.size := by have h9 := hb4.size; simpa using h9
                refine hK.out _ _ ⟨pw_cell_below hb4 (hHeld.1), pw_cell_below hb4 (hHeld.2.1), pw_cell_below hb4 (hHeld.2.2.1), pw_cell_below hb4 (hHeld.2.2.2.1), pw_cell_below hb4 (hHeld.2.2.2.2.1), pw_cell_below hb4 (hHeld.2.2.2.2.2.1), pw_cell_below hb4 (hHeld.2.2.2.2.2.2.1), pw_cell_below hb4 (hHeld.2.2.2.2.2.2.2.1), pw_cell_below hb4 (hHeld.2.2.2.2.2.2.2.2.1), pw_cell_below hb4 (hHeld.2.2.2.2.2.2.2.2.2.1), pw_cell_below hb4 (hHeld.2.2.2.2.2.2.2.2.2.2.1), pw_cell_below hb4 (hHeld.2.2.2.2.2.2.2.2.2.2.2.1), pw_cell_below hb4 (hHeld.2.2.2.2.2.2.2.2.2.2.2.2.1), pw_cell_below hb4 (hHeld.2.2.2.2.2.2.2.2.2.2.2.2.2)⟩ (fun hHeld => ?_)
                clear hK K
                refine norm_ (a' := ?_) ?_ ?_
                rotate_left
                · show Act.put _ (some 80) _ = _
                  simp only [Act.put, List.setIfInBounds_toArray, List.set_cons_zero, List.set_cons_succ, i64_w, i32_w]
                  rfl
                exact norm_ (by simp only [putAll, Act.put, List.setIfInBounds_toArray, List.set_cons_zero, List.set_cons_succ]) (hCont (Value.agg #[.int .i64 xk, .int .i64 xa, .int .u8 xc, .bool xg, .int .u8 xf, .slice P2 xp.length q2, .slice xT xt.length xm], Value.agg #[.int .i64 yk, .int .i64 ya, .int .u8 yc, .bool yg, .int .u8 yf, .slice P4 yp.length q4, .slice yT yt.length ym], Value.pointer (some ⟨wb.heap.size, 0, none⟩), Value.pointer (some ⟨u2.heap.size, 0, none⟩)) _ ⟨_, _, _, _, _, _, rfl, rfl, rfl, rfl, (Kd.R_below (Kd.R_alloc (Kd.R_lower hr2 (below_size (below_drew (below_alloc HBa.out _)))) _) hb4), (Kd.R_lower hr4 (below_size (below_alloc (below_step (below_drew (below_alloc HBa.out _)) hb2) _))), (blk_below (blk_alloc (blk_below (blk_drew (blk_new' _ (.cells #[.int .i64 0, .int .i64 0, .int .u8 0, .bool false, .int .u8 0, .slice none 0 0, .slice none 0 0] 38) (by simp))) hb2) _) hb4), (blk_below (blk_new' _ (.cells #[.int .i64 0, .int .i64 0, .int .u8 0, .bool false, .int .u8 0, .slice none 0 0, .slice none 0 0] 38) (by simp)) hb4), by omega, by omega, by omega, (below_step (below_alloc (below_step (below_drew (below_alloc HBa.out _)) hb2) _) hb4), hHeld⟩)
            · skip
              refine value_ (w1 := ?_) (v := ?_) (by rfl) rfl ?_ ?_
              rotate_left 2
              · go_simp
                constructor
                · rfl
                · rfl
              refine hK.out _ _ ⟨cell_dal _ (hHeld.1), cell_dal _ (hHeld.2.1), cell_dal _ (hHeld.2.2.1), cell_dal _ (hHeld.2.2.2.1), cell_dal _ (hHeld.2.2.2.2.1), cell_dal _ (hHeld.2.2.2.2.2.1), cell_dal _ (hHeld.2.2.2.2.2.2.1), cell_dal _ (hHeld.2.2.2.2.2.2.2.1), cell_dal _ (hHeld.2.2.2.2.2.2.2.2.1), cell_dal _ (hHeld.2.2.2.2.2.2.2.2.2.1), cell_dal _ (hHeld.2.2.2.2.2.2.2.2.2.2.1), cell_dal _ (hHeld.2.2.2.2.2.2.2.2.2.2.2.1), cell_dal _ (hHeld.2.2.2.2.2.2.2.2.2.2.2.2.1), cell_dal _ (hHeld.2.2.2.2.2.2.2.2.2.2.2.2.2)⟩ (fun hHeld => ?_)
              clear hK K
              refine norm_ (a' := ?_) ?_ ?_
              rotate_left
              · show Act.put _ (some 14) _ = _
                simp only [Act.put, List.setIfInBounds_toArray, List.set_cons_zero, List.set_cons_succ, i64_w, i32_w]
                rfl
              refine one_ (i := 1) (N := some 75) #[true, true, true, true, true, true, false, true, true, false, false] rfl rfl (by kernel_rfl) (by decide) (fun K hK => ?_)
              refine goes_ Try.func12 (by kernel_rfl) rfl #[.agg #[.int .i64 xk, .int .i64 xa, .int .u8 xc, .bool xg, .int .u8 xf, .slice xP xp.length xn, .slice xT xt.length xm]] (by rfl) rfl rfl (by simp only [List.map_toArray, List.map_cons, List.map_nil]; rfl) ?_
              with_reducible refine (back_of' xk xa xc xg xf xP xn xp xT xt.length xm _ (Kd.C_drew (Kd.C_alloc (Kd.C_alloc HXP.out _) _)) hxn hxl).mono ?_
              rintro e u3 ⟨P3, q3, rfl, hr3, hb3⟩
              refine ⟨_, rfl, ?_⟩
              have hz3 : wb.heap.size + 1 + 1 ≤ u3.heap.size := by have h9 := hb3.size; simpa using h9
              refine hK.out _ _ ⟨pw_cell_below hb3 (hHeld.1), pw_cell_below hb3 (hHeld.2.1), pw_cell_below hb3 (hHeld.2.2.1), pw_cell_below hb3 (hHeld.2.2.2.1), pw_cell_below hb3 (hHeld.2.2.2.2.1), pw_cell_below hb3 (hHeld.2.2.2.2.2.1), pw_cell_below hb3 (hHeld.2.2.2.2.2.2.1), pw_cell_below hb3 (hHeld.2.2.2.2.2.2.2.1), pw_cell_below hb3 (hHeld.2.2.2.2.2.2.2.2.1), pw_cell_below hb3 (hHeld.2.2.2.2.2.2.2.2.2.1), pw_cell_below hb3 (hHeld.2.2.2.2.2.2.2.2.2.2.1), pw_cell_below hb3 (hHeld.2.2.2.2.2.2.2.2.2.2.2.1), pw_cell_below hb3 (hHeld.2.2.2.2.2.2.2.2.2.2.2.2.1), pw_cell_below hb3 (hHeld.2.2.2.2.2.2.2.2.2.2.2.2.2)⟩ (fun hHeld => ?_)
              clear hK K
              refine norm_ (a' := ?_) ?_ ?_
              rotate_left
              · show Act.put _ (some 75) _ = _
                simp only [Act.put, List.setIfInBounds_toArray, List.set_cons_zero, List.set_cons_succ, i64_w, i32_w]
                rfl
              refine one_ (i := 6) (N := some 80) #[true, true, true, true, true, true, true, true, true, false, false] rfl rfl (by kernel_rfl) (by decide) (fun K hK => ?_)
              refine goes_ Try.func12 (by kernel_rfl) rfl #[.agg #[.int .i64 yk, .int .i64 ya, .int .u8 yc, .bool yg, .int .u8 yf, .slice yP yp.length yn, .slice yT yt.length ym]] (by rfl) rfl rfl (by simp only [List.map_toArray, List.map_cons, List.map_nil]; rfl) ?_
              with_reducible refine (back_of' yk ya yc yg yf yP yn yp yT yt.length ym _ (Kd.C_below (Kd.C_drew (Kd.C_alloc (Kd.C_alloc HYP.out _) _)) hb3) hyn hyl).mono ?_
              rintro e u4 ⟨P4, q4, rfl, hr4, hb4⟩
              refine ⟨_, rfl, ?_⟩
              have hz4 : u3.heap.size ≤ u4.heap.size := by have h9 := hb4.size; simpa using h9
              refine hK.out _ _ ⟨pw_cell_below hb4 (hHeld.1), pw_cell_below hb4 (hHeld.2.1), pw_cell_below hb4 (hHeld.2.2.1), pw_cell_below hb4 (hHeld.2.2.2.1), pw_cell_below hb4 (hHeld.2.2.2.2.1), pw_cell_below hb4 (hHeld.2.2.2.2.2.1), pw_cell_below hb4 (hHeld.2.2.2.2.2.2.1), pw_cell_below hb4 (hHeld.2.2.2.2.2.2.2.1), pw_cell_below hb4 (hHeld.2.2.2.2.2.2.2.2.1), pw_cell_below hb4 (hHeld.2.2.2.2.2.2.2.2.2.1), pw_cell_below hb4 (hHeld.2.2.2.2.2.2.2.2.2.2.1), pw_cell_below hb4 (hHeld.2.2.2.2.2.2.2.2.2.2.2.1), pw_cell_below hb4 (hHeld.2.2.2.2.2.2.2.2.2.2.2.2.1), pw_cell_below hb4 (hHeld.2.2.2.2.2.2.2.2.2.2.2.2.2)⟩ (fun hHeld => ?_)
              clear hK K
              refine norm_ (a' := ?_) ?_ ?_
              rotate_left
              · show Act.put _ (some 80) _ = _
                simp only [Act.put, List.setIfInBounds_toArray, List.set_cons_zero, List.set_cons_succ, i64_w, i32_w]
                rfl
              exact norm_ (by simp only [putAll, Act.put, List.setIfInBounds_toArray, List.set_cons_zero, List.set_cons_succ]) (hCont (Value.agg #[.int .i64 xk, .int .i64 xa, .int .u8 xc, .bool xg, .int .u8 xf, .slice P3 xp.length q3, .slice xT xt.length xm], Value.agg #[.int .i64 yk, .int .i64 ya, .int .u8 yc, .bool yg, .int .u8 yf, .slice P4 yp.length q4, .slice yT yt.length ym], Value.pointer (some ⟨wb.heap.size, 0, none⟩), Value.pointer (some ⟨wb.heap.size + 1, 0, none⟩)) _ ⟨_, _, _, _, _, _, rfl, rfl, rfl, rfl, (Kd.R_below (Kd.R_lower hr3 (below_size (below_drew (below_alloc (below_alloc HBa.out _) _)))) hb4), (Kd.R_lower hr4 (below_size (below_step (below_drew (below_alloc (below_alloc HBa.out _) _)) hb3))), (blk_below (blk_below (blk_drew (blk_alloc (blk_new' _ (.cells #[.int .i64 0, .int .i64 0, .int .u8 0, .bool false, .int .u8 0, .slice none 0 0, .slice none 0 0] 38) (by simp)) _)) hb3) hb4), (blk_below (blk_below (blk_drew (blk_new' _ (.cells #[.int .i64 0, .int .i64 0, .int .u8 0, .bool false, .int .u8 0, .slice none 0 0, .slice none 0 0] 38) (by simp))) hb3) hb4), by omega, by omega, by omega, (below_step (below_step (below_drew (below_alloc (below_alloc HBa.out _) _)) hb3) hb4), hHeld⟩)
          · skip
            refine value_ (w1 := ?_) (v := ?_) (by rfl) rfl ?_ ?_
            rotate_left 2
            · go_simp
              constructor
              · rfl
              · rfl
            refine hK.out _ _ ⟨cell_dal _ (hHeld.1), cell_dal _ (hHeld.2.1), cell_dal _ (hHeld.2.2.1), cell_dal _ (hHeld.2.2.2.1), cell_dal _ (hHeld.2.2.2.2.1), cell_dal _ (hHeld.2.2.2.2.2.1), cell_dal _ (hHeld.2.2.2.2.2.2.1), cell_dal _ (hHeld.2.2.2.2.2.2.2.1), cell_dal _ (hHeld.2.2.2.2.2.2.2.2.1), cell_dal _ (hHeld.2.2.2.2.2.2.2.2.2.1), cell_dal _ (hHeld.2.2.2.2.2.2.2.2.2.2.1), cell_dal _ (hHeld.2.2.2.2.2.2.2.2.2.2.2.1), cell_dal _ (hHeld.2.2.2.2.2.2.2.2.2.2.2.2.1), cell_dal _ (hHeld.2.2.2.2.2.2.2.2.2.2.2.2.2)⟩ (fun hHeld => ?_)
            clear hK K
            refine norm_ (a' := ?_) ?_ ?_
            rotate_left
            · show Act.put _ (some 14) _ = _
              simp only [Act.put, List.setIfInBounds_toArray, List.set_cons_zero, List.set_cons_succ, i64_w, i32_w]
              rfl
            refine two_ (i := 1) (j := 7) (Ni := some 75) (Nj := some 13) #[true, true, true, true, true, true, false, false, true, false, false] #[true, false, true, true, true, true, false, true, true, false, false] rfl rfl rfl rfl (by kernel_rfl) (by decide) (by decide) (fun K hK => ?_) (fun K hK => ?_)
            · skip
              refine goes_ Try.func12 (by kernel_rfl) rfl #[.agg #[.int .i64 xk, .int .i64 xa, .int .u8 xc, .bool xg, .int .u8 xf, .slice xP xp.length xn, .slice xT xt.length xm]] (by rfl) rfl rfl (by simp only [List.map_toArray, List.map_cons, List.map_nil]; rfl) ?_
              with_reducible refine (back_of' xk xa xc xg xf xP xn xp xT xt.length xm _ (Kd.C_drew (Kd.C_alloc HXP.out _)) hxn hxl).mono ?_
              rintro e u2 ⟨P2, q2, rfl, hr2, hb2⟩
              refine ⟨_, rfl, ?_⟩
              have hz2 : wb.heap.size + 1 ≤ u2.heap.size := by have h9 := hb2.size; simpa using h9
              refine hK.out _ _ ⟨pw_cell_below hb2 (hHeld.1), pw_cell_below hb2 (hHeld.2.1), pw_cell_below hb2 (hHeld.2.2.1), pw_cell_below hb2 (hHeld.2.2.2.1), pw_cell_below hb2 (hHeld.2.2.2.2.1), pw_cell_below hb2 (hHeld.2.2.2.2.2.1), pw_cell_below hb2 (hHeld.2.2.2.2.2.2.1), pw_cell_below hb2 (hHeld.2.2.2.2.2.2.2.1), pw_cell_below hb2 (hHeld.2.2.2.2.2.2.2.2.1), pw_cell_below hb2 (hHeld.2.2.2.2.2.2.2.2.2.1), pw_cell_below hb2 (hHeld.2.2.2.2.2.2.2.2.2.2.1), pw_cell_below hb2 (hHeld.2.2.2.2.2.2.2.2.2.2.2.1), pw_cell_below hb2 (hHeld.2.2.2.2.2.2.2.2.2.2.2.2.1), pw_cell_below hb2 (hHeld.2.2.2.2.2.2.2.2.2.2.2.2.2)⟩ (fun hHeld => ?_)
              clear hK K
              refine norm_ (a' := ?_) ?_ ?_
              rotate_left
              · show Act.put _ (some 75) _ = _
                simp only [Act.put, List.setIfInBounds_toArray, List.set_cons_zero, List.set_cons_succ, i64_w, i32_w]
                rfl
              refine two_ (i := 6) (j := 7) (Ni := some 80) (Nj := some 13) #[true, true, true, true, true, true, true, false, true, false, false] #[true, true, true, true, true, true, false, true, true, false, false] rfl rfl rfl rfl (by kernel_rfl) (by decide) (by decide) (fun K hK => ?_) (fun K hK => ?_)
              · skip
                refine goes_ Try.func12 (by kernel_rfl) rfl #[.agg #[.int .i64 yk, .int .i64 ya, .int .u8 yc, .bool yg, .int .u8 yf, .slice yP yp.length yn, .slice yT yt.length ym]] (by rfl) rfl rfl (by simp only [List.map_toArray, List.map_cons, List.map_nil]; rfl) ?_
                with_reducible refine (back_of' yk ya yc yg yf yP yn yp yT yt.length ym _ (Kd.C_below (Kd.C_drew (Kd.C_alloc HYP.out _)) hb2) hyn hyl).mono ?_
                rintro e u3 ⟨P3, q3, rfl, hr3, hb3⟩
                refine ⟨_, rfl, ?_⟩
                have hz3 : u2.heap.size ≤ u3.heap.size := by have h9 := hb3.size; simpa using h9
                refine hK.out _ _ ⟨pw_cell_below hb3 (hHeld.1), pw_cell_below hb3 (hHeld.2.1), pw_cell_below hb3 (hHeld.2.2.1), pw_cell_below hb3 (hHeld.2.2.2.1), pw_cell_below hb3 (hHeld.2.2.2.2.1), pw_cell_below hb3 (hHeld.2.2.2.2.2.1), pw_cell_below hb3 (hHeld.2.2.2.2.2.2.1), pw_cell_below hb3 (hHeld.2.2.2.2.2.2.2.1), pw_cell_below hb3 (hHeld.2.2.2.2.2.2.2.2.1), pw_cell_below hb3 (hHeld.2.2.2.2.2.2.2.2.2.1), pw_cell_below hb3 (hHeld.2.2.2.2.2.2.2.2.2.2.1), pw_cell_below hb3 (hHeld.2.2.2.2.2.2.2.2.2.2.2.1), pw_cell_below hb3 (hHeld.2.2.2.2.2.2.2.2.2.2.2.2.1), pw_cell_below hb3 (hHeld.2.2.2.2.2.2.2.2.2.2.2.2.2)⟩ (fun hHeld => ?_)
                clear hK K
                refine norm_ (a' := ?_) ?_ ?_
                rotate_left
                · show Act.put _ (some 80) _ = _
                  simp only [Act.put, List.setIfInBounds_toArray, List.set_cons_zero, List.set_cons_succ, i64_w, i32_w]
                  rfl
                refine one_ (i := 7) (N := some 13) #[true, true, true, true, true, true, true, true, true, false, false] rfl rfl (by kernel_rfl) (by decide) (fun K hK => ?_)
                refine value_ (w1 := ?_) (v := ?_) (by rfl) rfl ?_ ?_
                rotate_left 2
                · go_simp
                  constructor
                  · rfl
                  · rfl
                refine hK.out _ _ ⟨cell_al _ (hHeld.1), cell_al _ (hHeld.2.1), cell_al _ (hHeld.2.2.1), cell_al _ (hHeld.2.2.2.1), cell_al _ (hHeld.2.2.2.2.1), cell_al _ (hHeld.2.2.2.2.2.1), cell_al _ (hHeld.2.2.2.2.2.2.1), cell_al _ (hHeld.2.2.2.2.2.2.2.1), cell_al _ (hHeld.2.2.2.2.2.2.2.2.1), cell_al _ (hHeld.2.2.2.2.2.2.2.2.2.1), cell_al _ (hHeld.2.2.2.2.2.2.2.2.2.2.1), cell_al _ (hHeld.2.2.2.2.2.2.2.2.2.2.2.1), cell_al _ (hHeld.2.2.2.2.2.2.2.2.2.2.2.2.1), cell_al _ (hHeld.2.2.2.2.2.2.2.2.2.2.2.2.2)⟩ (fun hHeld => ?_)
                clear hK K
                refine norm_ (a' := ?_) ?_ ?_
                rotate_left
                · show Act.put _ (some 13) _ = _
                  simp only [Act.put, List.setIfInBounds_toArray, List.set_cons_zero, List.set_cons_succ, i64_w, i32_w]
                  rfl
                exact norm_ (by simp only [putAll, Act.put, List.setIfInBounds_toArray, List.set_cons_zero, List.set_cons_succ]) (hCont (Value.agg #[.int .i64 xk, .int .i64 xa, .int .u8 xc, .bool xg, .int .u8 xf, .slice P2 xp.length q2, .slice xT xt.length xm], Value.agg #[.int .i64 yk, .int .i64 ya, .int .u8 yc, .bool yg, .int .u8 yf, .slice P3 yp.length q3, .slice yT yt.length ym], Value.pointer (some ⟨u3.heap.size, 0, none⟩), Value.pointer (some ⟨wb.heap.size, 0, none⟩)) _ ⟨_, _, _, _, _, _, rfl, rfl, rfl, rfl, (Kd.R_alloc (Kd.R_below (Kd.R_lower hr2 (below_size (below_drew (below_alloc HBa.out _)))) hb3) _), (Kd.R_alloc (Kd.R_lower hr3 (below_size (below_step (below_drew (below_alloc HBa.out _)) hb2))) _), (blk_new' _ (.cells #[.int .i64 0, .int .i64 0, .int .u8 0, .bool false, .int .u8 0, .slice none 0 0, .slice none 0 0] 38) (by simp)), (blk_alloc (blk_below (blk_below (blk_drew (blk_new' _ (.cells #[.int .i64 0, .int .i64 0, .int .u8 0, .bool false, .int .u8 0, .slice none 0 0, .slice none 0 0] 38) (by simp))) hb2) hb3) _), by omega, by omega, by omega, (below_alloc (below_step (below_step (below_drew (below_alloc HBa.out _)) hb2) hb3) _), hHeld⟩)
              · skip
                refine value_ (w1 := ?_) (v := ?_) (by rfl) rfl ?_ ?_
                rotate_left 2
                · go_simp
                  constructor
                  · rfl
                  · rfl
                refine hK.out _ _ ⟨cell_al _ (hHeld.1), cell_al _ (hHeld.2.1), cell_al _ (hHeld.2.2.1), cell_al _ (hHeld.2.2.2.1), cell_al _ (hHeld.2.2.2.2.1), cell_al _ (hHeld.2.2.2.2.2.1), cell_al _ (hHeld.2.2.2.2.2.2.1), cell_al _ (hHeld.2.2.2.2.2.2.2.1), cell_al _ (hHeld.2.2.2.2.2.2.2.2.1), cell_al _ (hHeld.2.2.2.2.2.2.2.2.2.1), cell_al _ (hHeld.2.2.2.2.2.2.2.2.2.2.1), cell_al _ (hHeld.2.2.2.2.2.2.2.2.2.2.2.1), cell_al _ (hHeld.2.2.2.2.2.2.2.2.2.2.2.2.1), cell_al _ (hHeld.2.2.2.2.2.2.2.2.2.2.2.2.2)⟩ (fun hHeld => ?_)
                clear hK K
                refine norm_ (a' := ?_) ?_ ?_
                rotate_left
                · show Act.put _ (some 13) _ = _
                  simp only [Act.put, List.setIfInBounds_toArray, List.set_cons_zero, List.set_cons_succ, i64_w, i32_w]
                  rfl
                refine one_ (i := 6) (N := some 80) #[true, true, true, true, true, true, true, true, true, false, false] rfl rfl (by kernel_rfl) (by decide) (fun K hK => ?_)
                refine goes_ Try.func12 (by kernel_rfl) rfl #[.agg #[.int .i64 yk, .int .i64 ya, .int .u8 yc, .bool yg, .int .u8 yf, .slice yP yp.length yn, .slice yT yt.length ym]] (by rfl) rfl rfl (by simp only [List.map_toArray, List.map_cons, List.map_nil]; rfl) ?_
                with_reducible refine (back_of' yk ya yc yg yf yP yn yp yT yt.length ym _ (Kd.C_alloc (Kd.C_below (Kd.C_drew (Kd.C_alloc HYP.out _)) hb2) _) hyn hyl).mono ?_
                rintro e u4 ⟨P4, q4, rfl, hr4, hb4⟩
                refine ⟨_, rfl, ?_⟩
                have hz4 : u2.heap.size + 1 ≤ u4.heap.size := by have h9 := hb4.size; simpa using h9
                refine hK.out _ _ ⟨pw_cell_below hb4 (hHeld.1), pw_cell_below hb4 (hHeld.2.1), pw_cell_below hb4 (hHeld.2.2.1), pw_cell_below hb4 (hHeld.2.2.2.1), pw_cell_below hb4 (hHeld.2.2.2.2.1), pw_cell_below hb4 (hHeld.2.2.2.2.2.1), pw_cell_below hb4 (hHeld.2.2.2.2.2.2.1), pw_cell_below hb4 (hHeld.2.2.2.2.2.2.2.1), pw_cell_below hb4 (hHeld.2.2.2.2.2.2.2.2.1), pw_cell_below hb4 (hHeld.2.2.2.2.2.2.2.2.2.1), pw_cell_below hb4 (hHeld.2.2.2.2.2.2.2.2.2.2.1), pw_cell_below hb4 (hHeld.2.2.2.2.2.2.2.2.2.2.2.1), pw_cell_below hb4 (hHeld.2.2.2.2.2.2.2.2.2.2.2.2.1), pw_cell_below hb4 (hHeld.2.2.2.2.2.2.2.2.2.2.2.2.2)⟩ (fun hHeld => ?_)
                clear hK K
                refine norm_ (a' := ?_) ?_ ?_
                rotate_left
                · show Act.put _ (some 80) _ = _
                  simp only [Act.put, List.setIfInBounds_toArray, List.set_cons_zero, List.set_cons_succ, i64_w, i32_w]
                  rfl
                exact norm_ (by simp only [putAll, Act.put, List.setIfInBounds_toArray, List.set_cons_zero, List.set_cons_succ]) (hCont (Value.agg #[.int .i64 xk, .int .i64 xa, .int .u8 xc, .bool xg, .int .u8 xf, .slice P2 xp.length q2, .slice xT xt.length xm], Value.agg #[.int .i64 yk, .int .i64 ya, .int .u8 yc, .bool yg, .int .u8 yf, .slice P4 yp.length q4, .slice yT yt.length ym], Value.pointer (some ⟨u2.heap.size, 0, none⟩), Value.pointer (some ⟨wb.heap.size, 0, none⟩)) _ ⟨_, _, _, _, _, _, rfl, rfl, rfl, rfl, (Kd.R_below (Kd.R_alloc (Kd.R_lower hr2 (below_size (below_drew (below_alloc HBa.out _)))) _) hb4), (Kd.R_lower hr4 (below_size (below_alloc (below_step (below_drew (below_alloc HBa.out _)) hb2) _))), (blk_below (blk_new' _ (.cells #[.int .i64 0, .int .i64 0, .int .u8 0, .bool false, .int .u8 0, .slice none 0 0, .slice none 0 0] 38) (by simp)) hb4), (blk_below (blk_alloc (blk_below (blk_drew (blk_new' _ (.cells #[.int .i64 0, .int .i64 0, .int .u8 0, .bool false, .int .u8 0, .slice none 0 0, .slice none 0 0] 38) (by simp))) hb2) _) hb4), by omega, by omega, by omega, (below_step (below_alloc (below_step (below_drew (below_alloc HBa.out _)) hb2) _) hb4), hHeld⟩)
            · skip
              refine value_ (w1 := ?_) (v := ?_) (by rfl) rfl ?_ ?_
              rotate_left 2
              · go_simp
                constructor
                · rfl
                · rfl
              refine hK.out _ _ ⟨cell_dal _ (hHeld.1), cell_dal _ (hHeld.2.1), cell_dal _ (hHeld.2.2.1), cell_dal _ (hHeld.2.2.2.1), cell_dal _ (hHeld.2.2.2.2.1), cell_dal _ (hHeld.2.2.2.2.2.1), cell_dal _ (hHeld.2.2.2.2.2.2.1), cell_dal _ (hHeld.2.2.2.2.2.2.2.1), cell_dal _ (hHeld.2.2.2.2.2.2.2.2.1), cell_dal _ (hHeld.2.2.2.2.2.2.2.2.2.1), cell_dal _ (hHeld.2.2.2.2.2.2.2.2.2.2.1), cell_dal _ (hHeld.2.2.2.2.2.2.2.2.2.2.2.1), cell_dal _ (hHeld.2.2.2.2.2.2.2.2.2.2.2.2.1), cell_dal _ (hHeld.2.2.2.2.2.2.2.2.2.2.2.2.2)⟩ (fun hHeld => ?_)
              clear hK K
              refine norm_ (a' := ?_) ?_ ?_
              rotate_left
              · show Act.put _ (some 13) _ = _
                simp only [Act.put, List.setIfInBounds_toArray, List.set_cons_zero, List.set_cons_succ, i64_w, i32_w]
                rfl
              refine one_ (i := 1) (N := some 75) #[true, true, true, true, true, true, false, true, true, false, false] rfl rfl (by kernel_rfl) (by decide) (fun K hK => ?_)
              refine goes_ Try.func12 (by kernel_rfl) rfl #[.agg #[.int .i64 xk, .int .i64 xa, .int .u8 xc, .bool xg, .int .u8 xf, .slice xP xp.length xn, .slice xT xt.length xm]] (by rfl) rfl rfl (by simp only [List.map_toArray, List.map_cons, List.map_nil]; rfl) ?_
              with_reducible refine (back_of' xk xa xc xg xf xP xn xp xT xt.length xm _ (Kd.C_drew (Kd.C_alloc (Kd.C_alloc HXP.out _) _)) hxn hxl).mono ?_
              rintro e u3 ⟨P3, q3, rfl, hr3, hb3⟩
              refine ⟨_, rfl, ?_⟩
              have hz3 : wb.heap.size + 1 + 1 ≤ u3.heap.size := by have h9 := hb3.size; simpa using h9
              refine hK.out _ _ ⟨pw_cell_below hb3 (hHeld.1), pw_cell_below hb3 (hHeld.2.1), pw_cell_below hb3 (hHeld.2.2.1), pw_cell_below hb3 (hHeld.2.2.2.1), pw_cell_below hb3 (hHeld.2.2.2.2.1), pw_cell_below hb3 (hHeld.2.2.2.2.2.1), pw_cell_below hb3 (hHeld.2.2.2.2.2.2.1), pw_cell_below hb3 (hHeld.2.2.2.2.2.2.2.1), pw_cell_below hb3 (hHeld.2.2.2.2.2.2.2.2.1), pw_cell_below hb3 (hHeld.2.2.2.2.2.2.2.2.2.1), pw_cell_below hb3 (hHeld.2.2.2.2.2.2.2.2.2.2.1), pw_cell_below hb3 (hHeld.2.2.2.2.2.2.2.2.2.2.2.1), pw_cell_below hb3 (hHeld.2.2.2.2.2.2.2.2.2.2.2.2.1), pw_cell_below hb3 (hHeld.2.2.2.2.2.2.2.2.2.2.2.2.2)⟩ (fun hHeld => ?_)
              clear hK K
              refine norm_ (a' := ?_) ?_ ?_
              rotate_left
              · show Act.put _ (some 75) _ = _
                simp only [Act.put, List.setIfInBounds_toArray, List.set_cons_zero, List.set_cons_succ, i64_w, i32_w]
                rfl
              refine one_ (i := 6) (N := some 80) #[true, true, true, true, true, true, true, true, true, false, false] rfl rfl (by kernel_rfl) (by decide) (fun K hK => ?_)
              refine goes_ Try.func12 (by kernel_rfl) rfl #[.agg #[.int .i64 yk, .int .i64 ya, .int .u8 yc, .bool yg, .int .u8 yf, .slice yP yp.length yn, .slice yT yt.length ym]] (by rfl) rfl rfl (by simp only [List.map_toArray, List.map_cons, List.map_nil]; rfl) ?_
              with_reducible refine (back_of' yk ya yc yg yf yP yn yp yT yt.length ym _ (Kd.C_below (Kd.C_drew (Kd.C_alloc (Kd.C_alloc HYP.out _) _)) hb3) hyn hyl).mono ?_
              rintro e u4 ⟨P4, q4, rfl, hr4, hb4⟩
              refine ⟨_, rfl, ?_⟩
              have hz4 : u3.heap.size ≤ u4.heap.size := by have h9 := hb4.size; simpa using h9
              refine hK.out _ _ ⟨pw_cell_below hb4 (hHeld.1), pw_cell_below hb4 (hHeld.2.1), pw_cell_below hb4 (hHeld.2.2.1), pw_cell_below hb4 (hHeld.2.2.2.1), pw_cell_below hb4 (hHeld.2.2.2.2.1), pw_cell_below hb4 (hHeld.2.2.2.2.2.1), pw_cell_below hb4 (hHeld.2.2.2.2.2.2.1), pw_cell_below hb4 (hHeld.2.2.2.2.2.2.2.1), pw_cell_below hb4 (hHeld.2.2.2.2.2.2.2.2.1), pw_cell_below hb4 (hHeld.2.2.2.2.2.2.2.2.2.1), pw_cell_below hb4 (hHeld.2.2.2.2.2.2.2.2.2.2.1), pw_cell_below hb4 (hHeld.2.2.2.2.2.2.2.2.2.2.2.1), pw_cell_below hb4 (hHeld.2.2.2.2.2.2.2.2.2.2.2.2.1), pw_cell_below hb4 (hHeld.2.2.2.2.2.2.2.2.2.2.2.2.2)⟩ (fun hHeld => ?_)
              clear hK K
              refine norm_ (a' := ?_) ?_ ?_
              rotate_left
              · show Act.put _ (some 80) _ = _
                simp only [Act.put, List.setIfInBounds_toArray, List.set_cons_zero, List.set_cons_succ, i64_w, i32_w]
                rfl
              exact norm_ (by simp only [putAll, Act.put, List.setIfInBounds_toArray, List.set_cons_zero, List.set_cons_succ]) (hCont (Value.agg #[.int .i64 xk, .int .i64 xa, .int .u8 xc, .bool xg, .int .u8 xf, .slice P3 xp.length q3, .slice xT xt.length xm], Value.agg #[.int .i64 yk, .int .i64 ya, .int .u8 yc, .bool yg, .int .u8 yf, .slice P4 yp.length q4, .slice yT yt.length ym], Value.pointer (some ⟨wb.heap.size + 1, 0, none⟩), Value.pointer (some ⟨wb.heap.size, 0, none⟩)) _ ⟨_, _, _, _, _, _, rfl, rfl, rfl, rfl, (Kd.R_below (Kd.R_lower hr3 (below_size (below_drew (below_alloc (below_alloc HBa.out _) _)))) hb4), (Kd.R_lower hr4 (below_size (below_step (below_drew (below_alloc (below_alloc HBa.out _) _)) hb3))), (blk_below (blk_below (blk_drew (blk_new' _ (.cells #[.int .i64 0, .int .i64 0, .int .u8 0, .bool false, .int .u8 0, .slice none 0 0, .slice none 0 0] 38) (by simp))) hb3) hb4), (blk_below (blk_below (blk_drew (blk_alloc (blk_new' _ (.cells #[.int .i64 0, .int .i64 0, .int .u8 0, .bool false, .int .u8 0, .slice none 0 0, .slice none 0 0] 38) (by simp)) _)) hb3) hb4), by omega, by omega, by omega, (below_step (below_step (below_drew (below_alloc (below_alloc HBa.out _) _)) hb3) hb4), hHeld⟩)
        rintro ⟨s1, s2, s3, s4⟩ w9 ⟨P1, q1, P6, q6, g13, g14, rfl, rfl, rfl, rfl, hR1, hR6, hG13, hG14, hg13, hg14, hg134, hB9, hHeld⟩
        have za0 : w9.cell? ⟨g13, 0, none⟩ = some (.int .i64 0) := blk_cell hG13 0
        have za1 : w9.cell? ⟨g13, 1, none⟩ = some (.int .i64 0) := blk_cell hG13 1
        have za2 : w9.cell? ⟨g13, 2, none⟩ = some (.int .u8 0) := blk_cell hG13 2
        have za3 : w9.cell? ⟨g13, 3, none⟩ = some (.bool false) := blk_cell hG13 3
        have za4 : w9.cell? ⟨g13, 4, none⟩ = some (.int .u8 0) := blk_cell hG13 4
        have za5 : w9.cell? ⟨g13, 5, none⟩ = some (.slice none 0 0) := blk_cell hG13 5
        have za6 : w9.cell? ⟨g13, 6, none⟩ = some (.slice none 0 0) := blk_cell hG13 6
        have zaf0 := blk_frozen hG13 0
        have zaf1 := blk_frozen hG13 1
        have zaf2 := blk_frozen hG13 2
        have zaf3 := blk_frozen hG13 3
        have zaf4 := blk_frozen hG13 4
        have zaf5 := blk_frozen hG13 5
        have zaf6 := blk_frozen hG13 6
        have zb0 : w9.cell? ⟨g14, 0, none⟩ = some (.int .i64 0) := blk_cell hG14 0
        have zb1 : w9.cell? ⟨g14, 1, none⟩ = some (.int .i64 0) := blk_cell hG14 1
        have zb2 : w9.cell? ⟨g14, 2, none⟩ = some (.int .u8 0) := blk_cell hG14 2
        have zb3 : w9.cell? ⟨g14, 3, none⟩ = some (.bool false) := blk_cell hG14 3
        have zb4 : w9.cell? ⟨g14, 4, none⟩ = some (.int .u8 0) := blk_cell hG14 4
        have zb5 : w9.cell? ⟨g14, 5, none⟩ = some (.slice none 0 0) := blk_cell hG14 5
        have zb6 : w9.cell? ⟨g14, 6, none⟩ = some (.slice none 0 0) := blk_cell hG14 6
        have zbf0 := blk_frozen hG14 0
        have zbf1 := blk_frozen hG14 1
        have zbf2 := blk_frozen hG14 2
        have zbf3 := blk_frozen hG14 3
        have zbf4 := blk_frozen hG14 4
        have zbf5 := blk_frozen hG14 5
        have zbf6 := blk_frozen hG14 6
        have HR1 := Aside0.mk hR1
        have HR6 := Aside0.mk hR6
        have HG13 := Aside0.mk hG13
        have HG14 := Aside0.mk hG14
        have HB9 := Aside0.mk hB9
        have HHE := Aside0.mk hHeld
        clear hR1 hR6 hG13 hG14 hB9 hHeld
        refine norm_ (a' := ?_) ?_ ?_
        rotate_left
        · simp only [putAll, Act.put, List.setIfInBounds_toArray, List.set_cons_zero, List.set_cons_succ]
          rfl
        refine last_ (i := 9) (N := none) #[true, true, true, true, true, true, true, true, true, true, false] rfl rfl (by kernel_rfl) (by decide) (fun K hK => ?_)
        refine skip_ (w1 := ?_) (by rfl) rfl ?_ ?_
        rotate_left
        · go_simp
          rfl
        refine hK.out _ _ ?_
        clear hK K
        obtain ⟨w8, e8, G13b, G14b, HB8, RR8⟩ := one_st7 HG13.out HG14.out (Ne.symm hg134) HB9.out hg13 (.int .i64 xk) (.int .i64 xa) (.int .u8 xc) (.bool xg) (.int .u8 xf) (.slice P1 xp.length q1) (.slice xT xt.length xm)
        simp only [st7] at e8
        refine norm_w e8 ?_
        have HR1 := Aside0.mk (RR8 _ _ HR1.out)
        have HR6 := Aside0.mk (RR8 _ _ HR6.out)
        have HG13 := Aside0.mk G13b
        have HG14 := Aside0.mk G14b
        have HB9 := Aside0.mk HB8
        clear za0 za1 za2 za3 za4 za5 za6 zaf0 zaf1 zaf2 zaf3 zaf4 zaf5 zaf6 zb0 zb1 zb2 zb3 zb4 zb5 zb6 zbf0 zbf1 zbf2 zbf3 zbf4 zbf5 zbf6 e8 G13b G14b HB8 RR8
        have zb0 : w8.cell? ⟨g14, 0, none⟩ = some (.int .i64 0) := blk_cell HG14.out 0
        have zbf0 := blk_frozen HG14.out 0
        have zb1 : w8.cell? ⟨g14, 1, none⟩ = some (.int .i64 0) := blk_cell HG14.out 1
        have zbf1 := blk_frozen HG14.out 1
        have zb2 : w8.cell? ⟨g14, 2, none⟩ = some (.int .u8 0) := blk_cell HG14.out 2
        have zbf2 := blk_frozen HG14.out 2
        have zb3 : w8.cell? ⟨g14, 3, none⟩ = some (.bool false) := blk_cell HG14.out 3
        have zbf3 := blk_frozen HG14.out 3
        have zb4 : w8.cell? ⟨g14, 4, none⟩ = some (.int .u8 0) := blk_cell HG14.out 4
        have zbf4 := blk_frozen HG14.out 4
        have zb5 : w8.cell? ⟨g14, 5, none⟩ = some (.slice none 0 0) := blk_cell HG14.out 5
        have zbf5 := blk_frozen HG14.out 5
        have zb6 : w8.cell? ⟨g14, 6, none⟩ = some (.slice none 0 0) := blk_cell HG14.out 6
        have zbf6 := blk_frozen HG14.out 6
        refine last_ (i := 10) (N := none) #[true, true, true, true, true, true, true, true, true, true, true] rfl rfl (by kernel_rfl) (by decide) (fun K hK => ?_)
        refine skip_ (w1 := ?_) (by rfl) rfl ?_ ?_
        rotate_left
        · go_simp
          rfl
        refine hK.out _ _ ?_
        clear hK K
        refine done_ (by kernel_rfl) ?_
        obtain ⟨w5, e5, G14c, G13c, HB5, RR5⟩ := one_st7 HG14.out HG13.out hg134 HB9.out hg14 (.int .i64 yk) (.int .i64 ya) (.int .u8 yc) (.bool yg) (.int .u8 yf) (.slice P6 yp.length q6) (.slice yT yt.length ym)
        simp only [st7] at e5
        rw [e5]
        have HR1 := Aside0.mk (RR5 _ _ HR1.out)
        have HR6 := Aside0.mk (RR5 _ _ HR6.out)
        have HG13 := Aside0.mk G13c
        have HG14 := Aside0.mk G14c
        have HB9 := Aside0.mk HB5
        clear zb0 zb1 zb2 zb3 zb4 zb5 zb6 zbf0 zbf1 zbf2 zbf3 zbf4 zbf5 zbf6 e5 G13c G14c HB5 RR5
        clear sx0 sx1 sx2 sx3 sx4 sx5 sx6 sy0 sy1 sy2 sy3 sy4 sy5 sy6 HHE HBa HXP HYP
        have za0 : w5.cell? ⟨g13, 0, none⟩ = some (.int .i64 xk) := blk_cell HG13.out 0
        have za1 : w5.cell? ⟨g13, 1, none⟩ = some (.int .i64 xa) := blk_cell HG13.out 1
        have za2 : w5.cell? ⟨g13, 2, none⟩ = some (.int .u8 xc) := blk_cell HG13.out 2
        have za3 : w5.cell? ⟨g13, 3, none⟩ = some (.bool xg) := blk_cell HG13.out 3
        have za4 : w5.cell? ⟨g13, 4, none⟩ = some (.int .u8 xf) := blk_cell HG13.out 4
        have za5 : w5.cell? ⟨g13, 5, none⟩ = some (.slice P1 xp.length q1) := blk_cell HG13.out 5
        have za6 : w5.cell? ⟨g13, 6, none⟩ = some (.slice xT xt.length xm) := blk_cell HG13.out 6
        have zb0 : w5.cell? ⟨g14, 0, none⟩ = some (.int .i64 yk) := blk_cell HG14.out 0
        have zb1 : w5.cell? ⟨g14, 1, none⟩ = some (.int .i64 ya) := blk_cell HG14.out 1
        have zb2 : w5.cell? ⟨g14, 2, none⟩ = some (.int .u8 yc) := blk_cell HG14.out 2
        have zb3 : w5.cell? ⟨g14, 3, none⟩ = some (.bool yg) := blk_cell HG14.out 3
        have zb4 : w5.cell? ⟨g14, 4, none⟩ = some (.int .u8 yf) := blk_cell HG14.out 4
        have zb5 : w5.cell? ⟨g14, 5, none⟩ = some (.slice P6 yp.length q6) := blk_cell HG14.out 5
        have zb6 : w5.cell? ⟨g14, 6, none⟩ = some (.slice yT yt.length ym) := blk_cell HG14.out 6
        obtain ⟨⟨rfl, rfl, rfl, rfl, rfl, rfl⟩, ht⟩ := like_parts HLK.out
        have zf6 := blk_frozen HG14.out 6
        have hwl : wrap64 ((few.length : Int) - 1) = (few.length : Int) - 1 := wrap_in _ (by have := HCI.out; omega) (by have := HCI.out; omega)
        have HL := Aside0.mk hlen
        by_cases hl : i + 1 = few.length
        · by_cases hk : xk = 0
          · subst hk
            have hle : xt.length ≤ yt.length := by
              rcases ht with rfl | ⟨_, _, t', rfl⟩
              · exact Nat.le_refl _
              · simp
            have htk : yt.take xt.length = xt := by
              rcases ht with rfl | ⟨_, _, t', rfl⟩
              · simp
              · simp
            have HTC := Aside0.mk (by have := Kd.C_take HYT0.out hle; rw [htk] at this; exact this : Kd.C (Kd.int .u8) w4 yT xt.length xt)
            have hl1 : ((i : Int) == (few.length : Int) - 1) = true := beq_iff_eq.2 (by omega)
            have u1 : decide ((xt.length : Int) ≤ (yt.length : Int)) = true := decide_eq_true (by omega)
            have u2 : decide (xt.length ≤ yt.length) = true := decide_eq_true hle
            have hym2 : xt.length ≤ ym := Nat.le_trans hle hym
            clear ht htk hl HLK
            go_wp2_with fail
            refine (same_of2 0 xa xc xg xf (xp.map S51.of) xp.length (List.length_map _) xt P1 q1 xT xm P6 q6 yT ym w4.heap.size w4.heap.size _ (by rw [List.length_map]; exact hyl) (Kd.R_mono (Kd.R_far (p := ⟨g14, 6, none⟩) (Kd.R_types HR1.out HG14.out (by decide)) (fun _ hk => hk.2) _) (fun _ _ => trivial)) (Kd.C_below HXT0.out (below_set HB9.out hg14)) hxm (Kd.R_mono (Kd.R_far (p := ⟨g14, 6, none⟩) (Kd.R_types HR6.out HG14.out (by decide)) (fun _ hk => hk.2) _) (fun _ _ => trivial)) (Kd.C_below HTC.out (below_set HB9.out hg14)) hym2).mono ?_
            rintro e w7 ⟨rfl, hb7⟩
            clear hle u1 u2 HTC hl1 hwl zf6 za0 za1 za2 za3 za4 za5 za6 zb0 zb1 zb2 zb3 zb4 zb5 zb6 HR1 HR6 HXT0 HYT0 hxm hym hym2 hyl hyn hxl hxn hlen hlen1 hsz0 t7 hqm
            go_wp2
            go_roundw
            case rel => exact ⟨i + 1, HCI.out, next_i HCI.out HL.out, ⟨below_step (below_set HB9.out hg14) hb7⟩⟩
            case measure => exact meas HCI.out HL.out
          · obtain rfl : yt = xt := by
              rcases ht with h | ⟨_, h, _⟩
              · exact h
              · exact absurd h hk
            have hk2 : (xk == 0) = false := beq_eq_false_iff_ne.2 hk
            have hl1 : ((i : Int) == (few.length : Int) - 1) = true := beq_iff_eq.2 (by omega)
            have hym2 := hym
            clear ht hl HLK
            go_wp2_with fail
            refine (same_of2 xk xa xc xg xf (xp.map S51.of) xp.length (List.length_map _) yt P1 q1 xT xm P6 q6 yT ym w4.heap.size w4.heap.size _ (by rw [List.length_map]; exact hyl) HR1.out (Kd.C_below HXT0.out HB9.out) hxm HR6.out (Kd.C_below HYT0.out HB9.out) hym2).mono ?_
            rintro e w7 ⟨rfl, hb7⟩
            clear hk hk2 hl1 hwl zf6 za0 za1 za2 za3 za4 za5 za6 zb0 zb1 zb2 zb3 zb4 zb5 zb6 HR1 HR6 HXT0 HYT0 hxm hym hym2 hyl hyn hxl hxn hlen hlen1 hsz0 t7 hqm
            go_wp2
            go_roundw
            case rel => exact ⟨i + 1, HCI.out, next_i HCI.out HL.out, ⟨below_step HB9.out hb7⟩⟩
            case measure => exact meas HCI.out HL.out
        · obtain rfl : yt = xt := by
            rcases ht with h | ⟨h, _⟩
            · exact h
            · exact absurd h hl
          have hl1 : ((i : Int) == (few.length : Int) - 1) = false := beq_eq_false_iff_ne.2 (by omega)
          have hym2 := hym
          clear ht HLK
          go_wp2_with fail
          refine (same_of2 xk xa xc xg xf (xp.map S51.of) xp.length (List.length_map _) yt P1 q1 xT xm P6 q6 yT ym w4.heap.size w4.heap.size _ (by rw [List.length_map]; exact hyl) HR1.out (Kd.C_below HXT0.out HB9.out) hxm HR6.out (Kd.C_below HYT0.out HB9.out) hym2).mono ?_
          rintro e w7 ⟨rfl, hb7⟩
          clear hl hl1 hwl zf6 za0 za1 za2 za3 za4 za5 za6 zb0 zb1 zb2 zb3 zb4 zb5 zb6 HR1 HR6 HXT0 HYT0 hxm hym hym2 hyl hyn hxl hxn hlen hlen1 hsz0 t7 hqm
          go_wp2
          go_roundw
          case rel => exact ⟨i + 1, HCI.out, next_i HCI.out HL.out, ⟨below_step HB9.out hb7⟩⟩
          case measure => exact meas HCI.out HL.out
      · have cb : decide ((i : Int) < (few.length : Int)) = false := decide_eq_false (by omega)
        have cb' : decide (i < few.length) = false := decide_eq_false ci
        go_wp2
        go_ret
        exact ⟨rfl, B4.out.trans (HB.out.mono (below_size B4.out))⟩
end Go.Proofs.Ytmejmlohinjpdaa.Sc
