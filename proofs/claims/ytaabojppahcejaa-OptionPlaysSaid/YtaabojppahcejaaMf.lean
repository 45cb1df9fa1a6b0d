/- option: the document's example (awake). -/
import Derived.Test.YtaabojppahcejaaMe
namespace Go.Proofs.Ytaabojppahcejaa.Op
open Go.RowKit Go.Proofs.YtaabojppahcejaaW.PrintWords Go.Proofs.YtaabojppahcejaaW.PrintLast Go.Proofs.YtaabojppahcejaaW.PrintMore
set_option linter.unusedVariables false
set_option linter.unusedSimpArgs false
/-- A row of one message. -/
theorem row_one {W : World} {base : Nat} {ok : Nat → Prop} {v : Value} {x y : Int} (h : Kd.R kM 37 W base ok v [(x, y)]) : ∃ g c, v = .slice (some ⟨g, 0, none⟩) 1 c ∧ W.cell? ⟨g, 0, none⟩ = some (.int .u8 x) ∧ W.cell? ⟨g, 1, none⟩ = some (.int .u8 y) ∧ base ≤ g ∧ g < W.heap.size := by
  obtain ⟨g, c, rfl, hb, hg, _⟩ := Kd.R_form h (by simp)
  obtain ⟨_, _, hC⟩ := Kd.R_reads' h
  obtain ⟨ad, cs, he, hl, hK, hc⟩ := Kd.C_get hC (0, 0) 0 (by omega) (by simp)
  injection he with he
  subst he
  obtain ⟨c0, c1, hcs, h0, h1⟩ := hK
  have e0 : c0 = [.int .u8 x] := h0
  have e1 : c1 = [.int .u8 y] := h1
  subst e0 e1 hcs
  have a0 := hc 0 _ rfl
  have a1 := hc 1 _ rfl
  exact ⟨g, c, rfl, a0, a1, hb, hg⟩
theorem row_zero {W : World} {base : Nat} {ok : Nat → Prop} {v : Value} (h : Kd.R kM 37 W base ok v []) : ∃ A c, v = .slice A 0 c := by
  obtain ⟨A, c, rfl⟩ := Kd.R_slice h
  exact ⟨A, c, rfl⟩
/-- One byte in a block of its own reads as a list of it. -/
theorem C_byte (W : World) (g : Nat) (x : Int) (h : W.cell? ⟨g, 0, none⟩ = some (.int .u8 x)) : Kd.C (Kd.int .u8) W (some ⟨g, 0, none⟩) 1 [x] :=
  ⟨rfl, by omega, fun _ => ⟨_, rfl, fun j p hj => by
    match j, hj with
    | 0, hj =>
      simp only [List.getElem?_cons_zero, Option.some.injEq] at hj
      subst hj
      exact ⟨[.int .u8 x], rfl, rfl, fun i u hu => by
        match i, hu with
        | 0, hu =>
          simp only [List.getElem?_cons_zero, Option.some.injEq] at hu
          subst hu
          exact h⟩⟩⟩
theorem keep_cell {W W' : World} {g : Nat} (h : KeepBut W W' g none) {p : Addr} {v : Value} (hc : W.cell? p = some v) (hne : p.block ≠ g) : W'.cell? p = some v := by
  have := h.2 p.block (World.block_lt_of_cell? W p hc) hne (by simp)
  rw [← hc]
  unfold World.cell?
  rw [this]
theorem hOn_rng (s : Int) (a : Bool) : 0 ≤ (hOn s a).1 ∧ (hOn s a).1 ≤ 5 := by
  unfold hOn
  repeat' split
  all_goals decide
theorem hOff_rng (s : Int) : 0 ≤ (hOff s).1 ∧ (hOff s).1 ≤ 5 := by
  unfold hOff
  repeat' split
  all_goals decide
theorem aOn_rng (s : Int) (h : 0 ≤ s ∧ s ≤ 5) : 0 ≤ (aOn s).1 ∧ (aOn s).1 ≤ 5 := by
  unfold aOn
  repeat' split
  all_goals (first | exact h | (dsimp only; decide) | exact ⟨by decide, by decide⟩)
theorem aOff_rng (s : Int) (h : 0 ≤ s ∧ s ≤ 5) : 0 ≤ (aOff s).1 ∧ (aOff s).1 ≤ 5 := by
  unfold aOff
  repeat' split
  all_goals (first | exact h | (dsimp only; decide) | exact ⟨by decide, by decide⟩)
def Rng (S : Nat → Nat → Int) : Prop := ∀ i n, 0 ≤ S i n ∧ S i n ≤ 5
theorem put_rng {S : Nat → Nat → Int} (h : Rng S) (i n : Nat) {x : Int} (hx : 0 ≤ x ∧ x ≤ 5) : Rng (put S i n x) := by
  intro j m
  unfold put
  split
  · exact hx
  · exact h j m
theorem rng0 : Rng (fun _ _ => 0) := fun _ _ => ⟨Int.le_refl 0, (by decide : (0 : Int) ≤ 5)⟩
def aw0 : Nat → Nat → Int := fun _ _ => 0
def awA : Nat → Nat → Bool := agL [25] []
set_option maxHeartbeats 4000000 in
theorem awake_of (w : World) : Calls Try.prog 8 #[] w fun e w' => e = .returned (.bool true) ∧ Below w.heap.size w w' := by
  have N : ∀ W : World, W.cell? ⟨w.heap.size, 0, none⟩ = some (.int .u8 25) → Calls Try.prog 10 #[.slice (some ⟨w.heap.size, 0, none⟩) 1 1, .slice none 0 0] W fun e w' => ∃ g, e = .returned (.pointer (some ⟨g, 0, none⟩)) ∧ W.heap.size ≤ g ∧ MIs w' g aw0 awA ∧ Below W.heap.size W w' :=
    fun W h => new_of (some ⟨w.heap.size, 0, none⟩) 1 [25] none 0 [] W (C_byte W _ 25 h) (by simp) (Kd.C_nil _ _) (by simp) (by simp) (by simp) (by simp) (by simp)
  have H : ∀ (g : Nat) (S : Nat → Nat → Int) (W : World), MIs W g S awA → Calls Try.prog 11 #[.pointer (some ⟨g, 0, none⟩), .int .u8 253, .int .u8 25] W fun e w' => ∃ u, e = .returned (.tuple #[u, .int .i64 0]) ∧ Kd.R kM 37 w' W.heap.size (fun k => W.heap.size ≤ k) u (say 0 (hOn (S 0 25) true).2 25) ∧ MIs w' g (put S 0 25 (hOn (S 0 25) true).1) awA ∧ KeepBut W w' g none ∧ Below g W w' :=
    fun g S W h => (hear_do g 25 (by decide) S awA W h).mono fun e w' ⟨u, he, hr, hm, hk⟩ => ⟨u, he, R_newer hr, hm, hk⟩
  have H1 : ∀ (g : Nat) (S : Nat → Nat → Int) (W : World), MIs W g S awA → Calls Try.prog 11 #[.pointer (some ⟨g, 0, none⟩), .int .u8 253, .int .u8 1] W fun e w' => ∃ u, e = .returned (.tuple #[u, .int .i64 0]) ∧ Kd.R kM 37 w' W.heap.size (fun k => W.heap.size ≤ k) u (say 0 (hOn (S 0 1) false).2 1) ∧ MIs w' g (put S 0 1 (hOn (S 0 1) false).1) awA ∧ KeepBut W w' g none ∧ Below g W w' :=
    fun g S W h => (hear_do g 1 (by decide) S awA W h).mono fun e w' ⟨u, he, hr, hm, hk⟩ => ⟨u, he, R_newer hr, hm, hk⟩
  have HN := Aside0.mk N
  have HH := Aside0.mk H
  have HH1 := Aside0.mk H1
  clear N H H1
  go_enter Try.func8, Try.ntmps8
  go_wp2_with fail
  refine (HN.out _ (blk_cell (blk_new w (.cells #[.int .u8 25] 5)) 0)).mono ?_
  rintro e w1 ⟨g, rfl, hg, hm, hb⟩
  have B1 := Aside0.mk (below_step (below_alloc (Below.refl w.heap.size w) _) hb)
  have M1 := Aside0.mk hm
  have hgw : w.heap.size ≤ g := by simp at hg; omega
  clear hb hm
  go_wp2_with fail
  refine (HH.out g aw0 _ M1.out).mono ?_
  rintro e w2 ⟨a, rfl, ra, hm, hk, hb⟩
  have B2 := Aside0.mk (B1.out.trans (hb.mono hgw))
  have M2 := Aside0.mk hm
  obtain ⟨ga, ca, rfl, a0, a1, hga, hla⟩ := row_one (x := 251) (y := 25) ra
  have A0 := Aside0.mk a0
  have A1 := Aside0.mk a1
  have hgl := M1.out.lt
  have hne : ga ≠ g := by omega
  clear ra hm hk hb M1 B1 a0 a1
  go_wp2_with fail
  refine (HH.out g _ _ M2.out).mono ?_
  rintro e w3 ⟨b, rfl, rb, hm, hk, hb⟩
  have B3 := Aside0.mk (B2.out.trans (hb.mono hgw))
  have M3 := Aside0.mk hm
  obtain ⟨gb, cb, rfl⟩ := row_zero rb
  have A2 := Aside0.mk (keep_cell hk A0.out hne)
  have A3 := Aside0.mk (keep_cell hk A1.out hne)
  clear rb hm hk hb M2 B2 A0 A1
  go_wp2_with fail
  refine (HH1.out g _ _ M3.out).mono ?_
  rintro e w4 ⟨c, rfl, rc, hm, hk, hb⟩
  have B4 := Aside0.mk (B3.out.trans (hb.mono hgw))
  have M4 := Aside0.mk hm
  obtain ⟨gc, cc, rfl, c0, c1, _, _⟩ := row_one (x := 252) (y := 1) rc
  have a0 := keep_cell hk A2.out hne
  have a1 := keep_cell hk A3.out hne
  clear rc hm hk hb M3 B3 A2 A3
  go_wp2_with fail
  refine (on_of g 0 25 (by decide) (by decide) _ _ _ M4.out (put_rng (put_rng (put_rng rng0 0 25 (hOn_rng _ _)) 0 25 (hOn_rng _ _)) 0 1 (hOn_rng _ _))).mono ?_
  rintro e w5 ⟨rfl, m, rfl⟩
  go_wp2
  go_ret
  exact ⟨rfl, pw_below_drewN B4.out _⟩
end Go.Proofs.Ytaabojppahcejaa.Op
