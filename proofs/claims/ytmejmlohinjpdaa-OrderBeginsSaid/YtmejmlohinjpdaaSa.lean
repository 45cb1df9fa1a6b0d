/- order.scanner: its state; fail, take. -/
import Derived.Test.YtmejmlohinjpdaaPOrx2
import Derived.Test.YtmejmlohinjpdaaPOrx3
import Derived.Test.YtmejmlohinjpdaaPOrx4
import Derived.WalkSpells
namespace Go.Proofs.Ytmejmlohinjpdaa.Sc
open Go.RowKit Go.Proofs.YtmejmlohinjpdaaW.PrintWords Go.Proofs.YtmejmlohinjpdaaW.PrintLast Go.Proofs.YtmejmlohinjpdaaW.PrintMore Go.Proofs.Ytmejmlohinjpdaa.POr
set_option linter.unusedVariables false
set_option linter.unusedSimpArgs false
theorem keep_cell {W W' : World} {g : Nat} (h : KeepBut W W' g none) {p : Addr} {v : Value} (hc : W.cell? p = some v) (hne : p.block ≠ g) : W'.cell? p = some v := by
  have := h.2 p.block (World.block_lt_of_cell? W p hc) hne (by simp)
  rw [← hc]
  unfold World.cell?
  rw [this]
theorem cell_dr1 {W : World} {p : Addr} {v : Value} (h : W.cell? p = some v) : W.drew.cell? p = some v := h
theorem cell_drN {W : World} {p : Addr} {v : Value} (m : Nat) (h : W.cell? p = some v) : (W.drewN m).cell? p = some v := h
theorem cell_al {W : World} {p : Addr} {v : Value} (o : Obj) (h : W.cell? p = some v) : (W.alloc o).cell? p = some v := pw_cell_below (below_alloc (Below.refl _ _) o) h
theorem wrap_in (x : Int) (h0 : -9223372036854775808 ≤ x) (h1 : x ≤ 9223372036854775807) : wrap64 x = x := by unfold wrap64; omega
/-- The scanner at block g: what is left to read (in what lay there before w0), and the error. -/
def SS (w0 W : World) (g : Nat) (p : List Int) (code : Int) : Prop :=
  ∃ A c, W.heap[g]? = some (.cells #[.slice A p.length c, .int .i64 code] 47 (0, 0)) ∧ w0.heap.size ≤ g ∧ p.length ≤ c ∧ Kd.C (Kd.int .u8) w0 A p.length p
theorem SS.lt {w0 W : World} {g : Nat} {p : List Int} {code : Int} (h : SS w0 W g p code) : g < W.heap.size := by
  obtain ⟨A, c, hb, _⟩ := h; exact blk_lt hb
theorem SS.below {w0 W W' : World} {g : Nat} {p : List Int} {code : Int} (h : SS w0 W g p code) (hb' : Below W.heap.size W W') : SS w0 W' g p code := by
  obtain ⟨A, c, hb, h1⟩ := h
  exact ⟨A, c, blk_below hb hb', h1⟩
theorem SS.heap {w0 W W' : World} {g : Nat} {p : List Int} {code : Int} (h : SS w0 W g p code) (e : W'.heap = W.heap) : SS w0 W' g p code := by
  obtain ⟨A, c, hb, h1⟩ := h
  exact ⟨A, c, by rw [e]; exact hb, h1⟩
theorem SS.max {w0 W : World} {g : Nat} {p : List Int} {code : Int} (h : SS w0 W g p code) : p.length ≤ 9223372036854775807 := by
  obtain ⟨A, c, hb, h1, h2, h3⟩ := h; exact h3.2.1
def failF (code e : Int) : Int := if code = 0 then e else code
set_option maxHeartbeats 2000000 in
theorem fail_of (g : Nat) (p : List Int) (code e : Int) (w0 w : World) (hI : SS w0 w g p code) (hB : Below w0.heap.size w0 w) :
    Calls Try.prog 24 #[.pointer (some ⟨g, 0, none⟩), .int .i64 e] w fun r w' => r = .returned (.tuple #[]) ∧ SS w0 w' g p (failF code e) ∧ Below w0.heap.size w0 w' ∧ KeepBut w w' g none := by
  obtain ⟨A, c, hb, h1, h2, h3⟩ := hI
  have z0 := blk_cell hb 0
  have z1 := blk_cell hb 1
  have f1 := blk_frozen hb 1
  have HB := Aside0.mk hb
  have HC := Aside0.mk h3
  clear hb h3
  by_cases c0 : code = 0
  · have e1 : failF code e = e := by unfold failF; rw [if_pos c0]
    have E1 := Aside0.mk e1
    subst c0
    clear e1
    go_enter Try.func24, Try.ntmps24
    go_wp2
    first | go_end0 | ((try simp only [Exit.inBlock, Exit.then]); refine bodyPost_ret (results_none rfl _ _ _) rfl ?_)
    refine ⟨rfl, ?_, below_set hB h1, (KeepBut.refl w g none).set_ _ _⟩
    rw [E1.out]
    exact ⟨A, c, by have := blk_set HB.out 1 (.int .i64 e); exact this, h1, h2, HC.out⟩
  · have e1 : failF code e = code := by unfold failF; rw [if_neg c0]
    have E1 := Aside0.mk e1
    have c1 : (code == 0) = false := by simpa using c0
    clear e1 c0
    go_enter Try.func24, Try.ntmps24
    go_wp2
    first | go_end0 | ((try simp only [Exit.inBlock, Exit.then]); refine bodyPost_ret (results_none rfl _ _ _) rfl ?_)
    refine ⟨rfl, ?_, hB, KeepBut.refl w g none⟩
    rw [E1.out]
    exact ⟨A, c, HB.out, h1, h2, HC.out⟩
set_option maxHeartbeats 2000000 in
theorem take_ok (g n : Nat) (p : List Int) (code : Int) (hn : n ≤ p.length) (w0 w : World) (hI : SS w0 w g p code) (hB : Below w0.heap.size w0 w) :
    Calls Try.prog 18 #[.pointer (some ⟨g, 0, none⟩), .int .i64 (n : Int)] w fun r w' => ∃ A, r = .returned (.slice A n n) ∧ Kd.C (Kd.int .u8) w0 A n (p.take n) ∧ SS w0 w' g (p.drop n) code ∧ Below w0.heap.size w0 w' ∧ KeepBut w w' g none := by
  obtain ⟨A, c, hb, h1, h2, h3⟩ := hI
  have hm := h3.2.1
  have hC : Kd.C (Kd.int .u8) w0 A n (p.take n) := by
    have := Kd.C_take h3 hn
    rwa [show (p.take n).length = n by rw [List.length_take]; omega] at this
  have hD := Kd.C_drop h3 hn h2
  have hdl : (p.drop n).length = p.length - n := List.length_drop
  have HS := Aside0.mk (blk_set hb 0 (.slice (A.map (·.add n)) (p.length - n) (c - n)))
  have HS0 := Aside0.mk (blk_set hb 0 (.slice A 0 0))
  have H3 := Aside0.mk h3
  have z0 := blk_cell hb 0
  have z1 := blk_cell hb 1
  have f0 := blk_frozen hb 0
  have HC := Aside0.mk hC
  have HD := Aside0.mk hD
  have HL := Aside0.mk hdl
  clear hb h3 hC hD hdl
  have hlt : decide (p.length < n) = false := decide_eq_false (by omega)
  have hlt' : decide ((p.length : Int) < (n : Int)) = false := decide_eq_false (by omega)
  by_cases hcn : c = n
  · obtain rfl : n = p.length := by omega
    subst hcn
    go_enter Try.func18, Try.ntmps18
    go_wp2
    go_ret
    exact ⟨A, rfl, H3.out, ⟨A, 0, HS0.out, h1, Nat.le_refl _, rfl, Nat.zero_le _, fun h => absurd h (Nat.lt_irrefl 0)⟩, below_set hB h1, (KeepBut.refl w g none).set_ _ _⟩
  · go_enter Try.func18, Try.ntmps18
    go_wp2
    go_ret
    refine ⟨A, rfl, HC.out, ⟨A.map (·.add n), c - n, ?_, h1, by rw [HL.out]; omega, ?_⟩, below_set hB h1, (KeepBut.refl w g none).set_ _ _⟩
    · rw [HL.out]
      exact HS.out
    · have := HD.out
      rw [if_neg hcn] at this
      simpa only [show (Kd.int .u8).sz = 1 from rfl, Nat.mul_one] using this
/-- Not enough: an error, and n zeros. -/
theorem C_zeros1 (W : World) (g : Nat) (h : W.heap[g]? = some (.cells #[.int .u8 0] 5 (0, 0))) : Kd.C (Kd.int .u8) W (some ⟨g, 0, none⟩) 1 [0] :=
  ⟨rfl, by omega, fun _ => ⟨_, rfl, fun j p hj => by
    match j, hj with
    | 0, hj =>
      simp only [List.getElem?_cons_zero, Option.some.injEq] at hj
      subst hj
      exact ⟨[.int .u8 0], rfl, rfl, fun i u hu => by
        match i, hu with
        | 0, hu => exact (blk_cell h 0).trans (by simpa using hu)⟩⟩⟩
theorem C_zeros2 (W : World) (g : Nat) (h : W.heap[g]? = some (.cells #[.int .u8 0, .int .u8 0] 5 (0, 0))) : Kd.C (Kd.int .u8) W (some ⟨g, 0, none⟩) 2 [0, 0] :=
  ⟨rfl, by omega, fun _ => ⟨_, rfl, fun j p hj => by
    match j, hj with
    | 0, hj =>
      simp only [List.getElem?_cons_zero, Option.some.injEq] at hj
      subst hj
      exact ⟨[.int .u8 0], rfl, rfl, fun i u hu => by
        match i, hu with
        | 0, hu => exact (blk_cell h 0).trans (by simpa using hu)⟩
    | 1, hj =>
      simp only [List.getElem?_cons_succ, List.getElem?_cons_zero, Option.some.injEq] at hj
      subst hj
      exact ⟨[.int .u8 0], rfl, rfl, fun i u hu => by
        match i, hu with
        | 0, hu => exact (blk_cell h 1).trans (by simpa using hu)⟩⟩⟩
theorem SS.emptied {w0 W : World} {g : Nat} {p : List Int} {code : Int} (h : SS w0 W g p code) : SS w0 (W.setCell ⟨g, 0, none⟩ (.slice none 0 0)) g [] code := by
  obtain ⟨A, c, hb, h1, h2, h3⟩ := h
  exact ⟨none, 0, by have := blk_set hb 0 (.slice none 0 0); exact this, h1, Nat.le_refl _, Kd.C_nil _ _⟩
set_option maxHeartbeats 4000000 in
theorem take_short1 (g : Nat) (code : Int) (w0 w : World) (hI : SS w0 w g [] code) (hB : Below w0.heap.size w0 w) :
    Calls Try.prog 18 #[.pointer (some ⟨g, 0, none⟩), .int .i64 1] w fun r w' => ∃ A, r = .returned (.slice A 1 1) ∧ Kd.C (Kd.int .u8) w' A 1 [0] ∧ SS w0 w' g [] (failF code 2) ∧ Below w0.heap.size w0 w' ∧ KeepBut w w' g none := by
  have hmk : ∀ W : World, (Instr.makeSlice 26 (.int .i64 1) (.int .i64 1)).run Try.prog W = .ok (.slice (some ⟨W.heap.size, 0, none⟩) 1 1) (W.alloc (.cells #[.int .u8 0] 5)) := fun W => by kernel_rfl
  obtain ⟨A, c, hb, h1, h2, h3⟩ := id hI
  have z0 := blk_cell hb 0
  have HI := Aside0.mk hI
  clear hb h3 hI
  go_enter Try.func18, Try.ntmps18
  go_wp2_with fail
  refine (fail_of g [] code 2 w0 w HI.out hB).mono ?_
  rintro e w1 ⟨rfl, hs, hb1, hk⟩
  have HS1 := Aside0.mk hs
  have f0 : w1.frozen? ⟨g, 0, none⟩ = false := by obtain ⟨A, c, hb, _⟩ := hs; exact blk_frozen hb 0
  obtain ⟨v0, y0⟩ : ∃ v, w1.cell? ⟨g, 0, none⟩ = some v := by obtain ⟨A, c, hb, _⟩ := hs; exact ⟨_, blk_cell hb 0⟩
  clear hs z0
  go_wp2
  go_ret
  refine ⟨_, rfl, C_zeros1 _ _ (by have h9 := blk_new (w1.setCell ⟨g, 0, none⟩ (.slice none 0 0)) (.cells #[.int .u8 0] 5); simpa using h9), (HS1.out.emptied).below (below_alloc (Below.refl _ _) _), below_alloc (below_set hb1 h1) _, ?_⟩
  exact (hk.set_ 0 _).trans (KeepBut.of_below (below_alloc (Below.refl _ _) _) g none) (.inl rfl)
set_option maxHeartbeats 4000000 in
theorem take_short2 (g : Nat) (p : List Int) (code : Int) (hp : p.length < 2) (w0 w : World) (hI : SS w0 w g p code) (hB : Below w0.heap.size w0 w) :
    Calls Try.prog 18 #[.pointer (some ⟨g, 0, none⟩), .int .i64 2] w fun r w' => ∃ A, r = .returned (.slice A 2 2) ∧ Kd.C (Kd.int .u8) w' A 2 [0, 0] ∧ SS w0 w' g [] (failF code 2) ∧ Below w0.heap.size w0 w' ∧ KeepBut w w' g none := by
  have hmk : ∀ W : World, (Instr.makeSlice 26 (.int .i64 2) (.int .i64 2)).run Try.prog W = .ok (.slice (some ⟨W.heap.size, 0, none⟩) 2 2) (W.alloc (.cells #[.int .u8 0, .int .u8 0] 5)) := fun W => by kernel_rfl
  obtain ⟨A, c, hb, h1, h2, h3⟩ := id hI
  have z0 := blk_cell hb 0
  have HI := Aside0.mk hI
  have hlt : decide (p.length < 2) = true := decide_eq_true hp
  have hlt' : decide ((p.length : Int) < 2) = true := decide_eq_true (by omega)
  clear hb h3 hI
  go_enter Try.func18, Try.ntmps18
  go_wp2_with fail
  refine (fail_of g p code 2 w0 w HI.out hB).mono ?_
  rintro e w1 ⟨rfl, hs, hb1, hk⟩
  have HS1 := Aside0.mk hs
  have f0 : w1.frozen? ⟨g, 0, none⟩ = false := by obtain ⟨A, c, hb, _⟩ := hs; exact blk_frozen hb 0
  obtain ⟨v0, y0⟩ : ∃ v, w1.cell? ⟨g, 0, none⟩ = some v := by obtain ⟨A, c, hb, _⟩ := hs; exact ⟨_, blk_cell hb 0⟩
  clear hs z0
  go_wp2
  go_ret
  refine ⟨_, rfl, C_zeros2 _ _ (by have h9 := blk_new (w1.setCell ⟨g, 0, none⟩ (.slice none 0 0)) (.cells #[.int .u8 0, .int .u8 0] 5); simpa using h9), (HS1.out.emptied).below (below_alloc (Below.refl _ _) _), below_alloc (below_set hb1 h1) _, ?_⟩
  exact (hk.set_ 0 _).trans (KeepBut.of_below (below_alloc (Below.refl _ _) _) g none) (.inl rfl)
end Go.Proofs.Ytmejmlohinjpdaa.Sc
