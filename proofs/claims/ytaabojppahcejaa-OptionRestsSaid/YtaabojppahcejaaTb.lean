/- option: the law's own hear: one word of a queue is heard. -/
import Derived.Test.YtaabojppahcejaaTa
import Derived.Deep.CutBlock
import Derived.Deep.RegionHeld3
namespace Go.Proofs.Ytaabojppahcejaa.Op
open Go Go.RowKit Go.Proofs.YtaabojppahcejaaW.PrintWords Go.Proofs.YtaabojppahcejaaW.PrintLast Go.Proofs.YtaabojppahcejaaW.PrintMore Go.Proofs.Ytaabojppahcejaa.POp
set_option linter.unusedVariables false
set_option linter.unusedSimpArgs false
theorem MIs.far {W : World} {g : Nat} {S : Nat → Nat → Int} {A : Nat → Nat → Bool} (h : MIs W g S A) {p : Addr} (hp : g ≠ p.block) (u : Value) : MIs (W.setCell p u) g S A := by
  obtain ⟨cs, h0, h1, h2⟩ := h; exact ⟨cs, blk_far h0 hp u, h1, h2⟩
theorem MIs.kept {W W' : World} {g : Nat} {S : Nat → Nat → Int} {A : Nat → Nat → Bool} {g' : Nat} {row : Option Nat} (h : MIs W g S A) (hk : KeepBut W W' g' row) (h1 : g ≠ g') (h2 : some g ≠ row) : MIs W' g S A := by
  obtain ⟨cs, h0, h3, h4⟩ := h; exact ⟨cs, hk.blk h0 h1 h2, h3, h4⟩
theorem MIs.typed {W : World} {g : Nat} {S : Nat → Nat → Int} {A : Nat → Nat → Bool} (h : MIs W g S A) : ∃ cs, W.heap[g]? = some (.cells cs 81 (0, 0)) := by
  obtain ⟨cs, h0, _⟩ := h; exact ⟨cs, h0⟩
/-- A talk: its block, its machines, its queues. -/
def TalkIs (w : World) (B gt g0 g1 : Nat) (A0 A1 : Nat → Nat → Bool) (S0 S1 : Nat → Nat → Int) (W0 W1 : List (Int × Int)) (n : Nat) : Prop :=
  ∃ v0 v1, w.heap[gt]? = some (.cells #[.pointer (some ⟨g0, 0, none⟩), .pointer (some ⟨g1, 0, none⟩), v0, v1, .int .i64 (n : Int)] 48 (0, 0)) ∧ MIs w g0 S0 A0 ∧ MIs w g1 S1 A1 ∧ g0 ≠ g1 ∧ Ways w B v0 v1 W0 W1 ∧ B ≤ gt ∧ B ≤ g0 ∧ B ≤ g1
theorem TalkIs.below {w w' : World} {B gt g0 g1 : Nat} {A0 A1 : Nat → Nat → Bool} {S0 S1 : Nat → Nat → Int} {W0 W1 : List (Int × Int)} {n : Nat} (h : TalkIs w B gt g0 g1 A0 A1 S0 S1 W0 W1 n) (hb : Below w.heap.size w w') : TalkIs w' B gt g0 g1 A0 A1 S0 S1 W0 W1 n := by
  obtain ⟨v0, v1, h1, h2, h3, h4, h5, h6⟩ := h
  exact ⟨v0, v1, blk_below h1 hb, h2.below hb, h3.below hb, h4, h5.below hb, h6⟩
theorem Q_shape {w : World} {base : Nat} {ok : Nat → Prop} {v : Value} {xs : List (Int × Int)} (h : Kd.Q kM 37 w base ok v xs) : ∃ A c, v = .slice A xs.length c := by
  obtain ⟨A, c, e, _⟩ := Kd.Q_slice h; exact ⟨A, c, e⟩
theorem Q_shape2 {w : World} {base : Nat} {ok : Nat → Prop} {v : Value} {xs : List (Int × Int)} (h : Kd.Q kM 37 w base ok v xs) : ∃ A n c, v = .slice A n c ∧ n = xs.length := by
  obtain ⟨A, c, e, _⟩ := Kd.Q_slice h; exact ⟨A, _, c, e, rfl⟩
theorem below_undrew {B : Nat} {w W : World} (h : Below B w.drew W) : Below B w W := ⟨h.os, h.tape, h.output, h.size, h.block⟩
theorem Q_away {w : World} {base : Nat} {ok : Nat → Prop} {v : Value} {xs : List (Int × Int)} (h : Kd.Q kM 37 w base ok v xs) {g t : Nat} {cells : Array Value} (hb : w.heap[g]? = some (.cells cells t (0, 0))) (ht : 37 ≠ t) : some g ≠ v.ownBlock := by
  intro he
  obtain ⟨_, inner, hq, _⟩ := h
  obtain ⟨_, cur, hc⟩ := q_typed hq g he.symm
  rw [hb] at hc
  injection hc with hc
  injection hc with _ hc
  exact ht hc.symm
theorem blk_new2 (W : World) (o : Obj) (i : Nat) {cs : Array Value} {t : TypeId} (ho : o = .cells cs t (0, 0)) {v : Value} (hv : cs[i]? = some v) : (W.alloc o).cell? ⟨W.heap.size, i, none⟩ = some v := by
  subst ho; exact (blk_cell (blk_new W _) i).trans hv
theorem exec_append {P : Program} {oi : Oper} {a : Act} {v u v' : Value} {w w' : World} (s x : Operand) (t : TypeId) (hr : (Builtin.append_ #[t, t] t #[v, u]).run P w = .ok v' w') (ho : oi.op = .call { callee := .builtin .append, args := #[s, x], argTypes := #[t, t] }) (ht : oi.type = t) (hs : a.eval s = v) (hx : a.eval x = u) : (execOp a.eval oi).run P w = .ok (.value v') w' := by
  unfold execOp
  simp only [ho, ht, resolve, invoke, builtin, Sem.run_bind, Sem.run_pure, Result.andThen_ok, List.map_toArray, List.map_cons, List.map_nil, hs, hx, hr]
theorem Ways.kept {w w' : World} {base : Nat} {v0 v1 : Value} {W0 W1 : List (Int × Int)} {g : Nat} (h : Ways w base v0 v1 W0 W1) (hg : ∃ cs, w.heap[g]? = some (.cells cs 81 (0, 0))) (hk : KeepBut w w' g none) : Ways w' base v0 v1 W0 W1 := by
  obtain ⟨cs, hc⟩ := hg
  have key : ∀ {v : Value} {xs : List (Int × Int)}, Kd.Q kM 37 w base (fun _ => True) v xs → Kd.Q kM 37 w' base (fun _ => True) v xs := by
    intro v xs hq
    refine Kd.Q_mono (Kd.Q_move (Kd.Q_tight kM_E hq) (fun k hk' => hk.2 k (Kd.Q_lt hq k hk'.symm) (fun e => ?_) (by simp))) (fun _ _ => trivial)
    subst e
    exact Q_away hq hc (by decide) hk'
  exact ⟨key h.q0, key h.q1, h.ne⟩
theorem MIs.grown {W W' : World} {g : Nat} {S : Nat → Nat → Int} {A : Nat → Nat → Bool} {row : Option Nat} (h : MIs W g S A) (hg : W.drew.grownBy W' row) (hne : some g ≠ row) : MIs W' g S A := by
  obtain ⟨cs, h0, h1, h2⟩ := h; exact ⟨cs, blk_grown (blk_drew h0) hg hne, h1, h2⟩
theorem below_grown_ {B : Nat} {w W W' : World} {ok : Nat → Prop} {v : Value} {xs : List (Int × Int)} (h : Below B w W) (hg : W.drew.grownBy W' v.ownBlock) (hq : Kd.Q kM 37 W B ok v xs) (hB : B ≤ W.heap.size) : Below B w W' := by
  obtain ⟨_, inner, q, _⟩ := hq
  exact (below_drew h).grown hg hB (fun k hk => (q_typed q k hk).1)
/-- A queue's first word, and what is left behind it. -/
theorem Q_first {w : World} {base : Nat} {ok : Nat → Prop} {v : Value} {x y : Int} {xs : List (Int × Int)} (h : Kd.Q kM 37 w base ok v ((x, y) :: xs)) :
    ∃ b o c A' c', v = .slice (some ⟨b, o, none⟩) (xs.length + 1) c ∧ xs.length + 1 ≤ c ∧ w.cell? ⟨b, o, none⟩ = some (.int .u8 x) ∧ w.cell? ⟨b, o + 1, none⟩ = some (.int .u8 y) ∧
      (∀ W : World, (Instr.slice 30 (.slice (some ⟨b, o, none⟩) (xs.length + 1) c) (some (.int .i64 1)) none none).run Try.prog W = .ok (.slice A' xs.length c') W) ∧
      Kd.Q kM 37 w base ok (.slice A' xs.length c') xs ∧ (Value.slice A' xs.length c').ownBlock = some b ∧ v.ownBlock = some b := by
  obtain ⟨b, o, c, rfl, hbb, hbl, cells, hcells⟩ := Kd.Q_form h (by simp)
  obtain ⟨cs, hl, hM, hc, _⟩ := Kd.Q_elem h (0, 0) 0 (by omega) (by simp)
  obtain ⟨c0, c1, rfl, e0, e1⟩ := (show ∃ c0 c1, cs = c0 ++ c1 ∧ c0 = [.int .u8 x] ∧ c1 = [.int .u8 y] from by
    obtain ⟨c0, c1, hcs, h0, h1⟩ := hM
    exact ⟨c0, c1, hcs, h0, h1⟩)
  subst e0 e1
  have a0 := hc 0 (.int .u8 x) rfl
  have a1 := hc 1 (.int .u8 y) rfl
  obtain ⟨i0, hi, hzz⟩ := Option.map_eq_some_iff.1 (show (Try.prog.info? 37).map (fun i => (i.zero, i.size, i.bytes)) = some (some (.agg #[.int .u8 0, .int .u8 0]), 2, 2) from by kernel_rfl)
  simp only [Prod.mk.injEq] at hzz
  obtain ⟨hz0, hz1, hz2⟩ := hzz
  have hcut := cut_from (P := Try.prog) 30 37 .i64 Try.underlying30 hi 2 hz1 (some ⟨b, o, none⟩) (xs.length + 1) c 1 (by omega) (by omega)
  have hq := Kd.Q_drop h (k := 1) (by simp)
  have hlc := (Kd.Q_reads' h).2.1
  refine ⟨b, o, c, if c = 1 then some ⟨b, o, none⟩ else some ⟨b, o + 2, none⟩, c - 1, rfl, by simpa using hlc, by simpa using a0, by simpa using a1, fun W => ?_, ?_, ?_, rfl⟩
  · rw [show ((xs.length + 1 : Nat)) = xs.length + 1 from rfl]
    have e := hcut W
    simp [add_at] at e
    exact e
  · have e := hq
    simp [add_at] at e
    have hsz : kM.sz = 2 := rfl
    rw [hsz] at e
    exact e
  · split <;> rfl
set_option maxHeartbeats 4000000 in
theorem hear17_none0 (gt g0 g1 : Nat) (A : Option Addr) (c : Nat) (v1 : Value) (n : Int) (w : World) (hb : w.heap[gt]? = some (.cells #[.pointer (some ⟨g0, 0, none⟩), .pointer (some ⟨g1, 0, none⟩), .slice A 0 c, v1, .int .i64 n] 48 (0, 0))) :
    Calls Try.prog 17 #[.pointer (some ⟨gt, 0, none⟩), .int .i64 0] w fun e w' => e = .returned (.bool false) ∧ w' = w := by
  have c2 : w.cell? ⟨gt, 2, none⟩ = some (.slice A 0 c) := blk_cell hb 2
  go_enter Try.func17, Try.ntmps17
  go_wp2
  go_ret
  exact ⟨rfl, rfl⟩
set_option maxHeartbeats 4000000 in
theorem hear17_none1 (gt g0 g1 : Nat) (A : Option Addr) (c : Nat) (v0 : Value) (n : Int) (w : World) (hb : w.heap[gt]? = some (.cells #[.pointer (some ⟨g0, 0, none⟩), .pointer (some ⟨g1, 0, none⟩), v0, .slice A 0 c, .int .i64 n] 48 (0, 0))) :
    Calls Try.prog 17 #[.pointer (some ⟨gt, 0, none⟩), .int .i64 1] w fun e w' => e = .returned (.bool false) ∧ w' = w := by
  have c2 : w.cell? ⟨gt, 3, none⟩ = some (.slice A 0 c) := blk_cell hb 3
  go_enter Try.func17, Try.ntmps17
  go_wp2
  go_ret
  exact ⟨rfl, rfl⟩
set_option maxHeartbeats 8000000 in
theorem hear17_one0 (B gt g0 g1 : Nat) (A0 A1 : Nat → Nat → Bool) (S0 S1 : Nat → Nat → Int) (xv xo : Nat) (hv : xv = 251 ∨ xv = 252 ∨ xv = 253 ∨ xv = 254) (ho : xo < 256) (W0 W1 : List (Int × Int)) (n : Nat) (hl0 : W0.length ≤ 1000) (hl1 : W1.length ≤ 1000) (hn : n ≤ 1000) (w : World)
    (h : TalkIs w B gt g0 g1 A0 A1 S0 S1 (((xv : Int), (xo : Int)) :: W0) W1 n) :
    Calls Try.prog 17 #[.pointer (some ⟨gt, 0, none⟩), .int .i64 0] w fun e w' => e = .returned (.bool true) ∧ TalkIs w' B gt g0 g1 A0 A1 (put S0 (sideOf xv) xo (hres S0 A0 xv xo).1) S1 W0 (W1 ++ say (sideOf xv) (hres S0 A0 xv xo).2 (xo : Int)) (n + (say (sideOf xv) (hres S0 A0 xv xo).2 (xo : Int)).length) ∧ Below B w w' := by
  obtain ⟨v0, v1, hb, m0, m1, hne, hw, hBt, hB0, hB1⟩ := h
  have hw := hw
  obtain ⟨b, o, c, A', c', rfl, hkc, x0, x1, hcut, hq', ho', hob⟩ := Q_first hw.q0
  have h2t : gt ≠ g0 := by obtain ⟨cs, hc⟩ := m0.typed; exact blk_ne hb hc (by decide)
  have h2o : gt ≠ g1 := by obtain ⟨cs, hc⟩ := m1.typed; exact blk_ne hb hc (by decide)
  have hbn : b ≠ gt := by have := Q_away hw.q0 hb (by decide); rw [hob] at this; exact fun e => this (by rw [e])
  have c2 : w.cell? ⟨gt, 2, none⟩ = some (.slice (some ⟨b, o, none⟩) (W0.length + 1) c) := blk_cell hb 2
  have HW := Aside0.mk (⟨hq', hw.q1, fun k hk => hw.ne k (by rw [hob, ← ho']; exact hk)⟩ : Ways w B (.slice A' W0.length c') v1 W0 W1)
  have HB := Aside0.mk hb
  have M0 := Aside0.mk m0
  have M1 := Aside0.mk m1
  have HV := Aside0.mk hv
  have glt := blk_lt hb
  have hglt := m0.lt
  clear hb m0 m1 hw hq' ho' hob hv
  go_enter Try.func17, Try.ntmps17
  go_wp2
  obtain ⟨wr, hwr⟩ : ∃ W, W = w.alloc (.cells #[.int .u8 (xv : Int), .int .u8 (xo : Int)] 37) := ⟨_, rfl⟩
  rw [← hwr]
  have c2r : wr.cell? ⟨gt, 2, none⟩ = some (.slice (some ⟨b, o, none⟩) (W0.length + 1) c) := by rw [hwr]; exact cell_al _ c2
  have z0 : wr.cell? ⟨w.heap.size, 0, none⟩ = some (.int .u8 (xv : Int)) := by rw [hwr]; exact blk_new2 w _ 0 rfl rfl
  have z1 : wr.cell? ⟨w.heap.size, 1, none⟩ = some (.int .u8 (xo : Int)) := by rw [hwr]; exact blk_new2 w _ 1 rfl rfl
  have fz : wr.frozen? ⟨gt, 2, none⟩ = false := by rw [hwr]; exact blk_frozen (blk_alloc HB.out _) _
  have bl : Below w.heap.size w wr := by rw [hwr]; exact below_alloc (Below.refl _ _) _
  have HBr := Aside0.mk (blk_below HB.out bl)
  have HWr := Aside0.mk (HW.out.below bl)
  have M0r := Aside0.mk (M0.out.below bl)
  have M1r := Aside0.mk (M1.out.below bl)
  have hgb : gt < w.heap.size := glt
  obtain ⟨gb, hgb2⟩ : ∃ gb, gb = w.heap.size := ⟨_, rfl⟩
  rw [← hgb2] at z0 z1 hgb hglt bl ⊢
  have hsz : wr.heap.size = gb + 1 := by rw [hwr, hgb2]; simp
  have HBw := Aside0.mk (bl.mono (show B ≤ gb by omega))
  have HS := Aside0.mk hsz
  clear c2 x0 x1 HB HW M0 M1 hwr hgb2 glt bl hsz
  refine start_ (n := 13) (S := fun w' => w'.cell? ⟨gt, 2, none⟩ = some (.slice (some ⟨b, o, none⟩) (W0.length + 1) c)) (ds := [12]) #[false, false, false, false, false, false, false, false, false, false, false, false, false] (by kernel_rfl) rfl rfl (cell_dr1 c2r) (fun hHeld => ?_)
  refine pure_ (i := 0) (N := some 24) (v := ?_) (a' := ?_) #[true, false, false, false, false, false, false, false, false, false, false, false, false] rfl rfl (by kernel_rfl) (fun _ _ _ h => h) (Or.inl ⟨by rfl, ?_⟩) ?_ ?_
  rotate_left
  · intro w'
    go_simp
    with_reducible rfl
  rotate_left
  · simp only [Act.put, List.setIfInBounds_toArray, List.set_cons_zero, List.set_cons_succ, i64_w, i32_w]
    rfl
  refine pure_ (i := 1) (N := some 25) (v := ?_) (a' := ?_) #[true, true, false, false, false, false, false, false, false, false, false, false, false] rfl rfl (by kernel_rfl) (fun _ _ _ h => h) (Or.inl ⟨by rfl, ?_⟩) ?_ ?_
  rotate_left
  · intro w'
    go_simp
    with_reducible rfl
  rotate_left
  · simp only [Act.put, List.setIfInBounds_toArray, List.set_cons_zero, List.set_cons_succ, i64_w, i32_w]
    rfl
  refine pure_ (i := 2) (N := some 26) (v := ?_) (a' := ?_) #[true, true, true, false, false, false, false, false, false, false, false, false, false] rfl rfl (by kernel_rfl) (fun _ _ _ h => h) (Or.inl ⟨by rfl, ?_⟩) ?_ ?_
  rotate_left
  · intro w'
    go_simp
    with_reducible rfl
  rotate_left
  · simp only [Act.put, List.setIfInBounds_toArray, List.set_cons_zero, List.set_cons_succ, i64_w, i32_w]
    rfl
  refine pure_ (i := 3) (N := some 27) (v := ?_) (a' := ?_) #[true, true, true, true, false, false, false, false, false, false, false, false, false] rfl rfl (by kernel_rfl) (fun _ _ _ h => h) (Or.inl ⟨by rfl, ?_⟩) ?_ ?_
  rotate_left
  · intro w'
    go_simp
    with_reducible rfl
  rotate_left
  · simp only [Act.put, List.setIfInBounds_toArray, List.set_cons_zero, List.set_cons_succ, i64_w, i32_w]
    rfl
  refine pure_ (i := 4) (N := some 28) (v := ?_) (a' := ?_) #[true, true, true, true, true, false, false, false, false, false, false, false, false] rfl rfl (by kernel_rfl) (fun _ _ _ h => h) (Or.inl ⟨by rfl, ?_⟩) ?_ ?_
  rotate_left
  · intro w'
    go_simp
    with_reducible rfl
  rotate_left
  · simp only [Act.put, List.setIfInBounds_toArray, List.set_cons_zero, List.set_cons_succ, i64_w, i32_w]
    rfl
  refine pure_ (i := 5) (N := some 29) (v := ?_) (a' := ?_) #[true, true, true, true, true, true, false, false, false, false, false, false, false] rfl rfl (by kernel_rfl) (fun _ _ _ h => h) (Or.inl ⟨by rfl, ?_⟩) ?_ ?_
  rotate_left
  · intro w'
    go_simp
    with_reducible rfl
  rotate_left
  · simp only [Act.put, List.setIfInBounds_toArray, List.set_cons_zero, List.set_cons_succ, i64_w, i32_w]
    rfl
  refine pure_ (i := 6) (N := some 30) (v := ?_) (a' := ?_) #[true, true, true, true, true, true, true, false, false, false, false, false, false] rfl rfl (by kernel_rfl) (fun _ _ _ h => h) (Or.inl ⟨by rfl, ?_⟩) ?_ ?_
  rotate_left
  · intro w'
    go_simp
    with_reducible rfl
  rotate_left
  · simp only [Act.put, List.setIfInBounds_toArray, List.set_cons_zero, List.set_cons_succ, i64_w, i32_w]
    rfl
  refine pure_ (i := 9) (N := some 33) (v := ?_) (a' := ?_) #[true, true, true, true, true, true, true, false, false, true, false, false, false] rfl rfl (by kernel_rfl) (fun _ _ _ h => h) (Or.inl ⟨by rfl, ?_⟩) ?_ ?_
  rotate_left
  · intro w'
    go_simp
    with_reducible rfl
  rotate_left
  · simp only [Act.put, List.setIfInBounds_toArray, List.set_cons_zero, List.set_cons_succ, i64_w, i32_w]
    rfl
  refine pure_ (i := 10) (N := some 34) (v := ?_) (a' := ?_) #[true, true, true, true, true, true, true, false, false, true, true, false, false] rfl rfl (by kernel_rfl) (fun _ _ _ h => h) (Or.inl ⟨by rfl, ?_⟩) ?_ ?_
  rotate_left
  · intro w'
    go_simp
    with_reducible rfl
  rotate_left
  · simp only [Act.put, List.setIfInBounds_toArray, List.set_cons_zero, List.set_cons_succ, i64_w, i32_w]
    rfl
  refine take_ (i := 7) (N := some 31) (v := ?_) (a' := ?_) #[true, true, true, true, true, true, true, true, false, true, true, false, false] rfl rfl (by kernel_rfl) (fun _ _ _ h => h) (Or.inl ⟨by rfl, ?_⟩) hHeld ?_ ?_
  rotate_left
  · intro w' s0
    go_simp
    with_reducible rfl
  rotate_left
  · simp only [Act.put, List.setIfInBounds_toArray, List.set_cons_zero, List.set_cons_succ, i64_w, i32_w]
    rfl
  refine pure_ (i := 8) (N := some 32) (v := ?_) (a' := ?_) #[true, true, true, true, true, true, true, true, true, true, true, false, false] rfl rfl (by kernel_rfl) (fun _ _ _ h => h) (Or.inl ⟨by rfl, ?_⟩) ?_ ?_
  rotate_left
  · intro w'
    go_simp
    with_reducible rfl
  rotate_left
  · simp only [Act.put, List.setIfInBounds_toArray, List.set_cons_zero, List.set_cons_succ, i64_w, i32_w]
    rfl
  refine pure_ (i := 11) (N := some 35) (v := ?_) (a' := ?_) #[true, true, true, true, true, true, true, true, true, true, true, true, false] rfl rfl (by kernel_rfl) (fun _ _ _ h => h) (Or.inl ⟨by rfl, ?_⟩) ?_ ?_
  rotate_left
  · intro w'
    go_simp
    with_reducible rfl
  rotate_left
  · simp only [Act.put, List.setIfInBounds_toArray, List.set_cons_zero, List.set_cons_succ, i64_w, i32_w]
    rfl
  refine last_ (i := 12) (N := none) #[true, true, true, true, true, true, true, true, true, true, true, true, true] rfl rfl (by kernel_rfl) (by decide) (fun K hK => ?_)
  refine skip_ (w1 := ?_) (by rfl) rfl ?_ ?_
  rotate_left
  · go_simp
    rfl
  refine hK.out _ _ ?_
  clear hK K
  refine done_ (by kernel_rfl) ?_
  obtain ⟨w2, hw2⟩ : ∃ W, W = (wr.setCell ⟨gt, 2, none⟩ (.slice A' W0.length c')).drew := ⟨_, rfl⟩
  rw [← hw2]
  have hblk : w2.heap[gt]? = some (.cells #[.pointer (some ⟨g0, 0, none⟩), .pointer (some ⟨g1, 0, none⟩), .slice A' W0.length c', v1, .int .i64 (n : Int)] 48 (0, 0)) := by rw [hw2]; exact blk_drew (blk_put HBr.out 2 _ rfl)
  have ngb : gb ≠ gt := by omega
  have x0 : w2.cell? ⟨gb, 0, none⟩ = some (.int .u8 (xv : Int)) := by rw [hw2]; exact cell_dr1 ((World.cell?_setCell_other _ _ _ _ (by intro e; injection e with e; exact ngb e.symm)).trans z0)
  have x1 : w2.cell? ⟨gb, 1, none⟩ = some (.int .u8 (xo : Int)) := by rw [hw2]; exact cell_dr1 ((World.cell?_setCell_other _ _ _ _ (by intro e; injection e with e; exact ngb e.symm)).trans z1)
  have HB2 := Aside0.mk hblk
  have M02 : Aside0 (MIs w2 g0 S0 A0) := ⟨by rw [hw2]; exact (M0r.out.far (p := ⟨gt, 2, none⟩) (by exact fun e => h2t e.symm) _).dr1⟩
  have M12 : Aside0 (MIs w2 g1 S1 A1) := ⟨by rw [hw2]; exact (M1r.out.far (p := ⟨gt, 2, none⟩) (by exact fun e => h2o e.symm) _).dr1⟩
  have M2 := M02
  have HW2 : Aside0 (Ways w2 B (.slice A' W0.length c') v1 W0 W1) := ⟨by rw [hw2]; exact (HWr.out.set HBr.out (by decide) _ _).below (below_drew (Below.refl _ _))⟩
  have HBw2 : Aside0 (Below B w w2) := ⟨by rw [hw2]; exact below_drew (HBw.out.setCell hBt _)⟩
  have hs2 : w2.heap.size = gb + 1 := by rw [hw2]; exact (World.size_setCell _ _ _).trans HS.out
  have p2 : w2.cell? ⟨gt, 0, none⟩ = some (.pointer (some ⟨g0, 0, none⟩)) := blk_cell hblk 0
  have hg2 := M2.out.lt
  have hne5 : gt ≠ g0 := h2t
  have hne6 : gb ≠ g0 := by have := M0r.out.lt; have := HS.out; have := hglt; omega
  clear hblk hw2 c2r z0 z1 fz HBr HWr M0r M1r HBw HS hcut hkc
  go_wp2
  have hv := HV.out
  refine start_ (n := 16) (S := fun w' => w'.cell? ⟨gt, 0, none⟩ = some (.pointer (some ⟨g0, 0, none⟩)) ∧ w'.cell? ⟨gb, 0, none⟩ = some (.int .u8 (xv : Int)) ∧ w'.cell? ⟨gb, 1, none⟩ = some (.int .u8 (xo : Int))) (ds := []) #[false, false, false, false, false, false, false, false, false, false, false, false, false, false, false, false] (by kernel_rfl) rfl rfl ⟨cell_dr1 p2, cell_dr1 x0, cell_dr1 x1⟩ (fun hHeld => ?_)
  refine pure_ (i := 0) (N := some 37) (v := ?_) (a' := ?_) #[true, false, false, false, false, false, false, false, false, false, false, false, false, false, false, false] rfl rfl (by kernel_rfl) (fun _ _ _ h => h) (Or.inl ⟨by rfl, ?_⟩) ?_ ?_
  rotate_left
  · intro w'
    go_simp
    with_reducible rfl
  rotate_left
  · simp only [Act.put, List.setIfInBounds_toArray, List.set_cons_zero, List.set_cons_succ, i64_w, i32_w]
    rfl
  refine pure_ (i := 1) (N := some 38) (v := ?_) (a' := ?_) #[true, true, false, false, false, false, false, false, false, false, false, false, false, false, false, false] rfl rfl (by kernel_rfl) (fun _ _ _ h => h) (Or.inl ⟨by rfl, ?_⟩) ?_ ?_
  rotate_left
  · intro w'
    go_simp
    with_reducible rfl
  rotate_left
  · simp only [Act.put, List.setIfInBounds_toArray, List.set_cons_zero, List.set_cons_succ, i64_w, i32_w]
    rfl
  refine pure_ (i := 2) (N := some 39) (v := ?_) (a' := ?_) #[true, true, true, false, false, false, false, false, false, false, false, false, false, false, false, false] rfl rfl (by kernel_rfl) (fun _ _ _ h => h) (Or.inl ⟨by rfl, ?_⟩) ?_ ?_
  rotate_left
  · intro w'
    go_simp
    with_reducible rfl
  rotate_left
  · simp only [Act.put, List.setIfInBounds_toArray, List.set_cons_zero, List.set_cons_succ, i64_w, i32_w]
    rfl
  refine pure_ (i := 3) (N := some 40) (v := ?_) (a' := ?_) #[true, true, true, true, false, false, false, false, false, false, false, false, false, false, false, false] rfl rfl (by kernel_rfl) (fun _ _ _ h => h) (Or.inl ⟨by rfl, ?_⟩) ?_ ?_
  rotate_left
  · intro w'
    go_simp
    with_reducible rfl
  rotate_left
  · simp only [Act.put, List.setIfInBounds_toArray, List.set_cons_zero, List.set_cons_succ, i64_w, i32_w]
    rfl
  refine pure_ (i := 4) (N := some 41) (v := ?_) (a' := ?_) #[true, true, true, true, true, false, false, false, false, false, false, false, false, false, false, false] rfl rfl (by kernel_rfl) (fun _ _ _ h => h) (Or.inl ⟨by rfl, ?_⟩) ?_ ?_
  rotate_left
  · intro w'
    go_simp
    with_reducible rfl
  rotate_left
  · simp only [Act.put, List.setIfInBounds_toArray, List.set_cons_zero, List.set_cons_succ, i64_w, i32_w]
    rfl
  refine pure_ (i := 6) (N := some 43) (v := ?_) (a' := ?_) #[true, true, true, true, true, false, true, false, false, false, false, false, false, false, false, false] rfl rfl (by kernel_rfl) (fun _ _ _ h => h) (Or.inl ⟨by rfl, ?_⟩) ?_ ?_
  rotate_left
  · intro w'
    go_simp
    with_reducible rfl
  rotate_left
  · simp only [Act.put, List.setIfInBounds_toArray, List.set_cons_zero, List.set_cons_succ, i64_w, i32_w]
    rfl
  refine pure_ (i := 8) (N := some 45) (v := ?_) (a' := ?_) #[true, true, true, true, true, false, true, false, true, false, false, false, false, false, false, false] rfl rfl (by kernel_rfl) (fun _ _ _ h => h) (Or.inl ⟨by rfl, ?_⟩) ?_ ?_
  rotate_left
  · intro w'
    go_simp
    with_reducible rfl
  rotate_left
  · simp only [Act.put, List.setIfInBounds_toArray, List.set_cons_zero, List.set_cons_succ, i64_w, i32_w]
    rfl
  refine take_ (i := 5) (N := some 42) (v := ?_) (a' := ?_) #[true, true, true, true, true, true, true, false, true, false, false, false, false, false, false, false] rfl rfl (by kernel_rfl) (fun _ _ _ h => h) (Or.inl ⟨by rfl, ?_⟩) hHeld ?_ ?_
  rotate_left
  · rintro w' ⟨s0, s1, s2⟩
    go_simp
    with_reducible rfl
  rotate_left
  · simp only [Act.put, List.setIfInBounds_toArray, List.set_cons_zero, List.set_cons_succ, i64_w, i32_w]
    rfl
  refine take_ (i := 7) (N := some 44) (v := ?_) (a' := ?_) #[true, true, true, true, true, true, true, true, true, false, false, false, false, false, false, false] rfl rfl (by kernel_rfl) (fun _ _ _ h => h) (Or.inl ⟨by rfl, ?_⟩) hHeld ?_ ?_
  rotate_left
  · rintro w' ⟨s0, s1, s2⟩
    go_simp
    with_reducible rfl
  rotate_left
  · simp only [Act.put, List.setIfInBounds_toArray, List.set_cons_zero, List.set_cons_succ, i64_w, i32_w]
    rfl
  refine take_ (i := 9) (N := some 46) (v := ?_) (a' := ?_) #[true, true, true, true, true, true, true, true, true, true, false, false, false, false, false, false] rfl rfl (by kernel_rfl) (fun _ _ _ h => h) (Or.inl ⟨by rfl, ?_⟩) hHeld ?_ ?_
  rotate_left
  · rintro w' ⟨s0, s1, s2⟩
    go_simp
    with_reducible rfl
  rotate_left
  · simp only [Act.put, List.setIfInBounds_toArray, List.set_cons_zero, List.set_cons_succ, i64_w, i32_w]
    rfl
  refine one_ (i := 10) (N := some 47) #[true, true, true, true, true, true, true, true, true, true, true, false, false, false, false, false] rfl rfl (by kernel_rfl) (by decide) (fun K hK => ?_)
  refine goes_ Try.func11 (by kernel_rfl) rfl #[.pointer (some ⟨g0, 0, none⟩), .int .u8 (xv : Int), .int .u8 (xo : Int)] (by rfl) rfl rfl (by simp only [List.map_toArray, List.map_cons, List.map_nil]; rfl) ?_
  with_reducible refine (hear_of g0 xv xo hv ho S0 A0 _ (MIs.dr1 M2.out)).mono ?_
  rintro e w3 ⟨u, rfl, hu, hm, hk, hb3⟩
  refine ⟨_, rfl, ?_⟩
  refine hK.out _ _ ⟨keep_cell hk hHeld.1 hne5, keep_cell hk hHeld.2.1 hne6, keep_cell hk hHeld.2.2 hne6⟩ (fun hHeld => ?_)
  clear hK K
  refine norm_ (a' := ?_) ?_ ?_
  rotate_left
  · show Act.put _ (some 47) _ = _
    simp only [Act.put, List.setIfInBounds_toArray, List.set_cons_zero, List.set_cons_succ, i64_w, i32_w]
    rfl
  refine pure_ (i := 11) (N := some 36) (v := ?_) (a' := ?_) #[true, true, true, true, true, true, true, true, true, true, true, true, false, false, false, false] rfl rfl (by kernel_rfl) (fun _ _ _ h => h) (Or.inl ⟨by rfl, ?_⟩) ?_ ?_
  rotate_left
  · intro w'
    go_simp
    with_reducible rfl
  rotate_left
  · simp only [Act.put, List.setIfInBounds_toArray, List.set_cons_zero, List.set_cons_succ, i64_w, i32_w]
    rfl
  refine pure_ (i := 12) (N := some 48) (v := ?_) (a' := ?_) #[true, true, true, true, true, true, true, true, true, true, true, true, true, false, false, false] rfl rfl (by kernel_rfl) (fun _ _ _ h => h) (Or.inl ⟨by rfl, ?_⟩) ?_ ?_
  rotate_left
  · intro w'
    go_simp
    with_reducible rfl
  rotate_left
  · simp only [Act.put, List.setIfInBounds_toArray, List.set_cons_zero, List.set_cons_succ, i64_w, i32_w]
    rfl
  refine pure_ (i := 13) (N := some 49) (v := ?_) (a' := ?_) #[true, true, true, true, true, true, true, true, true, true, true, true, true, true, false, false] rfl rfl (by kernel_rfl) (fun _ _ _ h => h) (Or.inl ⟨by rfl, ?_⟩) ?_ ?_
  rotate_left
  · intro w'
    go_simp
    with_reducible rfl
  rotate_left
  · simp only [Act.put, List.setIfInBounds_toArray, List.set_cons_zero, List.set_cons_succ, i64_w, i32_w]
    rfl
  refine pure_ (i := 14) (N := some 6) (v := ?_) (a' := ?_) #[true, true, true, true, true, true, true, true, true, true, true, true, true, true, true, false] rfl rfl (by kernel_rfl) (fun _ _ _ h => h) (Or.inl ⟨by rfl, ?_⟩) ?_ ?_
  rotate_left
  · intro w'
    go_simp
    with_reducible rfl
  rotate_left
  · simp only [Act.put, List.setIfInBounds_toArray, List.set_cons_zero, List.set_cons_succ, i64_w, i32_w]
    rfl
  refine pure_ (i := 15) (N := some 7) (v := ?_) (a' := ?_) #[true, true, true, true, true, true, true, true, true, true, true, true, true, true, true, true] rfl rfl (by kernel_rfl) (fun _ _ _ h => h) (Or.inl ⟨by rfl, ?_⟩) ?_ ?_
  rotate_left
  · intro w'
    go_simp
    with_reducible rfl
  rotate_left
  · simp only [Act.put, List.setIfInBounds_toArray, List.set_cons_zero, List.set_cons_succ, i64_w, i32_w]
    rfl
  refine done_ (by kernel_rfl) ?_
  clear hv HV
  obtain ⟨L, hL⟩ : ∃ L, L = say (sideOf xv) (hres S0 A0 xv xo).2 (xo : Int) := ⟨_, rfl⟩
  rw [← hL] at hu
  have hL1 : L = [] ∨ ∃ p, L = [p] := by rw [hL]; unfold say; split; exact .inl rfl; exact .inr ⟨_, rfl⟩
  have hLl : L.length ≤ 1 := by rcases hL1 with e | ⟨p, e⟩ <;> rw [e] <;> simp
  have HL := Aside0.mk hL
  clear hL
  have hlt2 := hg2
  have X3 := hk.blk HB2.out hne5 (by simp)
  have p3 : w3.cell? ⟨gt, 3, none⟩ = some v1 := (blk_cell X3 3).trans rfl
  have HX3 := Aside0.mk X3
  have HM3 := Aside0.mk hm
  have HO3 := Aside0.mk (M12.out.kept hk (fun e => hne e.symm) (by simp))
  have b23 : Below B w2 w3 := below_undrew (hb3.mono hB0)
  have W3 : Ways w3 B (.slice A' W0.length c') v1 W0 W1 := HW2.out.kept M2.out.typed hk
  have hs3 : B ≤ w3.heap.size := by have h1 := hk.1; have e1 : w2.drew.heap.size = w2.heap.size := rfl; omega
  have HB3 := Aside0.mk (HBw2.out.trans b23)
  obtain ⟨v4, w4, hrun, hw4, hg4⟩ := (W3.below (below_drew (Below.refl _ _))).app (Kd.R_drew hu) hL1 (by omega) hs3
  have HW4 := Aside0.mk hw4
  have hnv : some gt ≠ (v1).ownBlock := Q_away W3.q1 X3 (by decide)
  have HX4 := Aside0.mk (blk_grown (blk_drew X3) hg4 hnv)
  have HM4 := Aside0.mk (hm.grown hg4 (Q_away W3.q1 hm.typed.choose_spec (by decide)))
  have HO4 := Aside0.mk (HO3.out.grown hg4 (Q_away W3.q1 HO3.out.typed.choose_spec (by decide)))
  have HB4 := Aside0.mk (below_grown_ HB3.out hg4 (W3.q1) hs3)
  have fz4 : w4.frozen? ⟨gt, 3, none⟩ = false := blk_frozen HX4.out _
  obtain ⟨A4, n4, c4, rfl, hn4⟩ := Q_shape2 hw4.q1
  have HN4 := Aside0.mk hn4
  clear hn4
  have wz : wrap64 1 = 1 := wrap_in _ (by omega) (by omega)
  obtain ⟨Au, cu, rfl⟩ := Kd.R_slice hu
  clear X3 hm hk hb3 b23 W3 hu hw4 HB2 M02 M12 M2 HW2 HBw2 x0 x1 p2
  go_wp2
  refine start_ (n := 16) (S := fun w' => w'.cell? ⟨gt, 3, none⟩ = some v1) (ds := [15]) #[false, false, false, false, false, false, false, false, false, false, false, false, false, false, false, false] (by kernel_rfl) rfl rfl (cell_dr1 p3) (fun hHeld => ?_)
  refine pure_ (i := 0) (N := some 50) (v := ?_) (a' := ?_) #[true, false, false, false, false, false, false, false, false, false, false, false, false, false, false, false] rfl rfl (by kernel_rfl) (fun _ _ _ h => h) (Or.inl ⟨by rfl, ?_⟩) ?_ ?_
  rotate_left
  · intro w'
    go_simp
    with_reducible rfl
  rotate_left
  · simp only [Act.put, List.setIfInBounds_toArray, List.set_cons_zero, List.set_cons_succ, i64_w, i32_w]
    rfl
  refine pure_ (i := 1) (N := some 51) (v := ?_) (a' := ?_) #[true, true, false, false, false, false, false, false, false, false, false, false, false, false, false, false] rfl rfl (by kernel_rfl) (fun _ _ _ h => h) (Or.inl ⟨by rfl, ?_⟩) ?_ ?_
  rotate_left
  · intro w'
    go_simp
    with_reducible rfl
  rotate_left
  · simp only [Act.put, List.setIfInBounds_toArray, List.set_cons_zero, List.set_cons_succ, i64_w, i32_w]
    rfl
  refine pure_ (i := 2) (N := some 52) (v := ?_) (a' := ?_) #[true, true, true, false, false, false, false, false, false, false, false, false, false, false, false, false] rfl rfl (by kernel_rfl) (fun _ _ _ h => h) (Or.inl ⟨by rfl, ?_⟩) ?_ ?_
  rotate_left
  · intro w'
    go_simp
    with_reducible rfl
  rotate_left
  · simp only [Act.put, List.setIfInBounds_toArray, List.set_cons_zero, List.set_cons_succ, i64_w, i32_w]
    rfl
  refine pure_ (i := 3) (N := some 53) (v := ?_) (a' := ?_) #[true, true, true, true, false, false, false, false, false, false, false, false, false, false, false, false] rfl rfl (by kernel_rfl) (fun _ _ _ h => h) (Or.inl ⟨by rfl, ?_⟩) ?_ ?_
  rotate_left
  · intro w'
    go_simp
    with_reducible rfl
  rotate_left
  · simp only [Act.put, List.setIfInBounds_toArray, List.set_cons_zero, List.set_cons_succ, i64_w, i32_w]
    rfl
  refine pure_ (i := 4) (N := some 54) (v := ?_) (a' := ?_) #[true, true, true, true, true, false, false, false, false, false, false, false, false, false, false, false] rfl rfl (by kernel_rfl) (fun _ _ _ h => h) (Or.inl ⟨by rfl, ?_⟩) ?_ ?_
  rotate_left
  · intro w'
    go_simp
    with_reducible rfl
  rotate_left
  · simp only [Act.put, List.setIfInBounds_toArray, List.set_cons_zero, List.set_cons_succ, i64_w, i32_w]
    rfl
  refine pure_ (i := 5) (N := some 55) (v := ?_) (a' := ?_) #[true, true, true, true, true, true, false, false, false, false, false, false, false, false, false, false] rfl rfl (by kernel_rfl) (fun _ _ _ h => h) (Or.inl ⟨by rfl, ?_⟩) ?_ ?_
  rotate_left
  · intro w'
    go_simp
    with_reducible rfl
  rotate_left
  · simp only [Act.put, List.setIfInBounds_toArray, List.set_cons_zero, List.set_cons_succ, i64_w, i32_w]
    rfl
  refine pure_ (i := 6) (N := some 56) (v := ?_) (a' := ?_) #[true, true, true, true, true, true, true, false, false, false, false, false, false, false, false, false] rfl rfl (by kernel_rfl) (fun _ _ _ h => h) (Or.inl ⟨by rfl, ?_⟩) ?_ ?_
  rotate_left
  · intro w'
    go_simp
    with_reducible rfl
  rotate_left
  · simp only [Act.put, List.setIfInBounds_toArray, List.set_cons_zero, List.set_cons_succ, i64_w, i32_w]
    rfl
  refine pure_ (i := 7) (N := some 57) (v := ?_) (a' := ?_) #[true, true, true, true, true, true, true, true, false, false, false, false, false, false, false, false] rfl rfl (by kernel_rfl) (fun _ _ _ h => h) (Or.inl ⟨by rfl, ?_⟩) ?_ ?_
  rotate_left
  · intro w'
    go_simp
    with_reducible rfl
  rotate_left
  · simp only [Act.put, List.setIfInBounds_toArray, List.set_cons_zero, List.set_cons_succ, i64_w, i32_w]
    rfl
  refine pure_ (i := 8) (N := some 58) (v := ?_) (a' := ?_) #[true, true, true, true, true, true, true, true, true, false, false, false, false, false, false, false] rfl rfl (by kernel_rfl) (fun _ _ _ h => h) (Or.inl ⟨by rfl, ?_⟩) ?_ ?_
  rotate_left
  · intro w'
    go_simp
    with_reducible rfl
  rotate_left
  · simp only [Act.put, List.setIfInBounds_toArray, List.set_cons_zero, List.set_cons_succ, i64_w, i32_w]
    rfl
  refine pure_ (i := 10) (N := some 60) (v := ?_) (a' := ?_) #[true, true, true, true, true, true, true, true, true, false, true, false, false, false, false, false] rfl rfl (by kernel_rfl) (fun _ _ _ h => h) (Or.inl ⟨by rfl, ?_⟩) ?_ ?_
  rotate_left
  · intro w'
    go_simp
    with_reducible rfl
  rotate_left
  · simp only [Act.put, List.setIfInBounds_toArray, List.set_cons_zero, List.set_cons_succ, i64_w, i32_w]
    rfl
  refine pure_ (i := 12) (N := some 62) (v := ?_) (a' := ?_) #[true, true, true, true, true, true, true, true, true, false, true, false, true, false, false, false] rfl rfl (by kernel_rfl) (fun _ _ _ h => h) (Or.inl ⟨by rfl, ?_⟩) ?_ ?_
  rotate_left
  · intro w'
    go_simp
    with_reducible rfl
  rotate_left
  · simp only [Act.put, List.setIfInBounds_toArray, List.set_cons_zero, List.set_cons_succ, i64_w, i32_w]
    rfl
  refine pure_ (i := 13) (N := some 63) (v := ?_) (a' := ?_) #[true, true, true, true, true, true, true, true, true, false, true, false, true, true, false, false] rfl rfl (by kernel_rfl) (fun _ _ _ h => h) (Or.inl ⟨by rfl, ?_⟩) ?_ ?_
  rotate_left
  · intro w'
    go_simp
    with_reducible rfl
  rotate_left
  · simp only [Act.put, List.setIfInBounds_toArray, List.set_cons_zero, List.set_cons_succ, i64_w, i32_w]
    rfl
  refine take_ (i := 9) (N := some 59) (v := ?_) (a' := ?_) #[true, true, true, true, true, true, true, true, true, true, true, false, true, true, false, false] rfl rfl (by kernel_rfl) (fun _ _ _ h => h) (Or.inl ⟨by rfl, ?_⟩) hHeld ?_ ?_
  rotate_left
  · intro w' s0
    go_simp
    with_reducible rfl
  rotate_left
  · simp only [Act.put, List.setIfInBounds_toArray, List.set_cons_zero, List.set_cons_succ, i64_w, i32_w]
    rfl
  refine one_ (i := 11) (N := some 61) #[true, true, true, true, true, true, true, true, true, true, true, true, true, true, false, false] rfl rfl (by kernel_rfl) (by decide) (fun K hK => ?_)
  refine value_ (w1 := w4) (v := .slice A4 n4 c4) (by rfl) rfl ?_ ?_
  · exact exec_append (.tmp 59) (.tmp 60) 30 hrun (by rfl) (by rfl) (by rfl) (by rfl)
  refine hK.out _ _ (cell_grown hg4 (cell_dr1 p3) hnv) (fun hHeld => ?_)
  clear hK K
  refine norm_ (a' := ?_) ?_ ?_
  rotate_left
  · show Act.put _ (some 61) _ = _
    simp only [Act.put, List.setIfInBounds_toArray, List.set_cons_zero, List.set_cons_succ, i64_w, i32_w]
    rfl
  refine pure_ (i := 14) (N := some 64) (v := ?_) (a' := ?_) #[true, true, true, true, true, true, true, true, true, true, true, true, true, true, true, false] rfl rfl (by kernel_rfl) (fun _ _ _ h => h) (Or.inl ⟨by rfl, ?_⟩) ?_ ?_
  rotate_left
  · intro w'
    go_simp
    with_reducible rfl
  rotate_left
  · simp only [Act.put, List.setIfInBounds_toArray, List.set_cons_zero, List.set_cons_succ, i64_w, i32_w]
    rfl
  refine last_ (i := 15) (N := none) #[true, true, true, true, true, true, true, true, true, true, true, true, true, true, true, true] rfl rfl (by kernel_rfl) (by decide) (fun K hK => ?_)
  refine skip_ (w1 := ?_) (by rfl) rfl ?_ ?_
  rotate_left
  · go_simp
    rfl
  refine hK.out _ _ ?_
  clear hK K
  refine done_ (by kernel_rfl) ?_
  obtain ⟨w5, hw5⟩ : ∃ W, W = w4.setCell ⟨gt, 3, none⟩ (.slice A4 n4 c4) := ⟨_, rfl⟩
  rw [← hw5]
  have X5 : w5.heap[gt]? = some (.cells #[.pointer (some ⟨g0, 0, none⟩), .pointer (some ⟨g1, 0, none⟩), .slice A' W0.length c', .slice A4 n4 c4, .int .i64 (n : Int)] 48 (0, 0)) := by rw [hw5]; exact blk_put HX4.out 3 _ rfl
  have HX5 := Aside0.mk X5
  have HM5 : Aside0 (MIs w5 g0 (put S0 (sideOf xv) xo (hres S0 A0 xv xo).1) A0) := ⟨by rw [hw5]; exact HM4.out.far (p := ⟨gt, 3, none⟩) (fun e => h2t e.symm) _⟩
  have HO5 : Aside0 (MIs w5 g1 S1 A1) := ⟨by rw [hw5]; exact HO4.out.far (p := ⟨gt, 3, none⟩) (fun e => h2o e.symm) _⟩
  have HW5 : Aside0 (Ways w5 B (.slice A' W0.length c') (.slice A4 n4 c4) W0 (W1 ++ L)) := ⟨by rw [hw5]; exact HW4.out.set HX4.out (by decide) _ _⟩
  have HB5 : Aside0 (Below B w w5) := ⟨by rw [hw5]; exact HB4.out.setCell hBt _⟩
  have q4 : w5.cell? ⟨gt, 4, none⟩ = some (.int .i64 (n : Int)) := blk_cell X5 4
  have fz5 : w5.frozen? ⟨gt, 4, none⟩ = false := blk_frozen X5 4
  clear X5 hw5 HX4 HM4 HO4 HW4 HB4 hrun hg4 fz4 p3 hnv wz HN4 hL1 HX3 HM3 HO3 HB3 hs3
  go_wp2
  go_ret
  have e6 : ((n : Int) + (L.length : Int)) = ((n + L.length : Nat) : Int) := by omega
  have z5 := blk_put (cs' := #[.pointer (some ⟨g0, 0, none⟩), .pointer (some ⟨g1, 0, none⟩), .slice A' W0.length c', .slice A4 n4 c4, .int .i64 ((n + L.length : Nat) : Int)]) HX5.out 4 (.int .i64 ((n : Int) + (L.length : Int))) (by rw [e6]; rfl)
  have m5 := HM5.out.far (p := ⟨gt, 4, none⟩) (fun e => h2t e.symm) (.int .i64 ((n : Int) + (L.length : Int)))
  have o5 := HO5.out.far (p := ⟨gt, 4, none⟩) (fun e => h2o e.symm) (.int .i64 ((n : Int) + (L.length : Int)))
  have y5 := HW5.out.set HX5.out (by decide) 4 (.int .i64 ((n : Int) + (L.length : Int)))
  refine ⟨rfl, ?_, HB5.out.setCell hBt _⟩
  rw [← HL.out]
  exact ⟨_, _, z5, m5, o5, hne, y5, hBt, hB0, hB1⟩
set_option maxHeartbeats 8000000 in
theorem hear17_one1 (B gt g0 g1 : Nat) (A0 A1 : Nat → Nat → Bool) (S0 S1 : Nat → Nat → Int) (xv xo : Nat) (hv : xv = 251 ∨ xv = 252 ∨ xv = 253 ∨ xv = 254) (ho : xo < 256) (W0 W1 : List (Int × Int)) (n : Nat) (hl0 : W0.length ≤ 1000) (hl1 : W1.length ≤ 1000) (hn : n ≤ 1000) (w : World)
    (h : TalkIs w B gt g0 g1 A0 A1 S0 S1 W0 (((xv : Int), (xo : Int)) :: W1) n) :
    Calls Try.prog 17 #[.pointer (some ⟨gt, 0, none⟩), .int .i64 1] w fun e w' => e = .returned (.bool true) ∧ TalkIs w' B gt g0 g1 A0 A1 S0 (put S1 (sideOf xv) xo (hres S1 A1 xv xo).1) (W0 ++ say (sideOf xv) (hres S1 A1 xv xo).2 (xo : Int)) W1 (n + (say (sideOf xv) (hres S1 A1 xv xo).2 (xo : Int)).length) ∧ Below B w w' := by
  obtain ⟨v0, v1, hb, m0, m1, hne, hw, hBt, hB0, hB1⟩ := h
  have hw := hw.swap
  obtain ⟨b, o, c, A', c', rfl, hkc, x0, x1, hcut, hq', ho', hob⟩ := Q_first hw.q0
  have h2t : gt ≠ g1 := by obtain ⟨cs, hc⟩ := m1.typed; exact blk_ne hb hc (by decide)
  have h2o : gt ≠ g0 := by obtain ⟨cs, hc⟩ := m0.typed; exact blk_ne hb hc (by decide)
  have hbn : b ≠ gt := by have := Q_away hw.q0 hb (by decide); rw [hob] at this; exact fun e => this (by rw [e])
  have c2 : w.cell? ⟨gt, 3, none⟩ = some (.slice (some ⟨b, o, none⟩) (W1.length + 1) c) := blk_cell hb 3
  have HW := Aside0.mk (⟨hq', hw.q1, fun k hk => hw.ne k (by rw [hob, ← ho']; exact hk)⟩ : Ways w B (.slice A' W1.length c') v0 W1 W0)
  have HB := Aside0.mk hb
  have M0 := Aside0.mk m0
  have M1 := Aside0.mk m1
  have HV := Aside0.mk hv
  have glt := blk_lt hb
  have hglt := m1.lt
  clear hb m0 m1 hw hq' ho' hob hv
  go_enter Try.func17, Try.ntmps17
  go_wp2
  obtain ⟨wr, hwr⟩ : ∃ W, W = w.alloc (.cells #[.int .u8 (xv : Int), .int .u8 (xo : Int)] 37) := ⟨_, rfl⟩
  rw [← hwr]
  have c2r : wr.cell? ⟨gt, 3, none⟩ = some (.slice (some ⟨b, o, none⟩) (W1.length + 1) c) := by rw [hwr]; exact cell_al _ c2
  have z0 : wr.cell? ⟨w.heap.size, 0, none⟩ = some (.int .u8 (xv : Int)) := by rw [hwr]; exact blk_new2 w _ 0 rfl rfl
  have z1 : wr.cell? ⟨w.heap.size, 1, none⟩ = some (.int .u8 (xo : Int)) := by rw [hwr]; exact blk_new2 w _ 1 rfl rfl
  have fz : wr.frozen? ⟨gt, 3, none⟩ = false := by rw [hwr]; exact blk_frozen (blk_alloc HB.out _) _
  have bl : Below w.heap.size w wr := by rw [hwr]; exact below_alloc (Below.refl _ _) _
  have HBr := Aside0.mk (blk_below HB.out bl)
  have HWr := Aside0.mk (HW.out.below bl)
  have M0r := Aside0.mk (M0.out.below bl)
  have M1r := Aside0.mk (M1.out.below bl)
  have hgb : gt < w.heap.size := glt
  obtain ⟨gb, hgb2⟩ : ∃ gb, gb = w.heap.size := ⟨_, rfl⟩
  rw [← hgb2] at z0 z1 hgb hglt bl ⊢
  have hsz : wr.heap.size = gb + 1 := by rw [hwr, hgb2]; simp
  have HBw := Aside0.mk (bl.mono (show B ≤ gb by omega))
  have HS := Aside0.mk hsz
  clear c2 x0 x1 HB HW M0 M1 hwr hgb2 glt bl hsz
  refine start_ (n := 13) (S := fun w' => w'.cell? ⟨gt, 3, none⟩ = some (.slice (some ⟨b, o, none⟩) (W1.length + 1) c)) (ds := [12]) #[false, false, false, false, false, false, false, false, false, false, false, false, false] (by kernel_rfl) rfl rfl (cell_dr1 c2r) (fun hHeld => ?_)
  refine pure_ (i := 0) (N := some 24) (v := ?_) (a' := ?_) #[true, false, false, false, false, false, false, false, false, false, false, false, false] rfl rfl (by kernel_rfl) (fun _ _ _ h => h) (Or.inl ⟨by rfl, ?_⟩) ?_ ?_
  rotate_left
  · intro w'
    go_simp
    with_reducible rfl
  rotate_left
  · simp only [Act.put, List.setIfInBounds_toArray, List.set_cons_zero, List.set_cons_succ, i64_w, i32_w]
    rfl
  refine pure_ (i := 1) (N := some 25) (v := ?_) (a' := ?_) #[true, true, false, false, false, false, false, false, false, false, false, false, false] rfl rfl (by kernel_rfl) (fun _ _ _ h => h) (Or.inl ⟨by rfl, ?_⟩) ?_ ?_
  rotate_left
  · intro w'
    go_simp
    with_reducible rfl
  rotate_left
  · simp only [Act.put, List.setIfInBounds_toArray, List.set_cons_zero, List.set_cons_succ, i64_w, i32_w]
    rfl
  refine pure_ (i := 2) (N := some 26) (v := ?_) (a' := ?_) #[true, true, true, false, false, false, false, false, false, false, false, false, false] rfl rfl (by kernel_rfl) (fun _ _ _ h => h) (Or.inl ⟨by rfl, ?_⟩) ?_ ?_
  rotate_left
  · intro w'
    go_simp
    with_reducible rfl
  rotate_left
  · simp only [Act.put, List.setIfInBounds_toArray, List.set_cons_zero, List.set_cons_succ, i64_w, i32_w]
    rfl
  refine pure_ (i := 3) (N := some 27) (v := ?_) (a' := ?_) #[true, true, true, true, false, false, false, false, false, false, false, false, false] rfl rfl (by kernel_rfl) (fun _ _ _ h => h) (Or.inl ⟨by rfl, ?_⟩) ?_ ?_
  rotate_left
  · intro w'
    go_simp
    with_reducible rfl
  rotate_left
  · simp only [Act.put, List.setIfInBounds_toArray, List.set_cons_zero, List.set_cons_succ, i64_w, i32_w]
    rfl
  refine pure_ (i := 4) (N := some 28) (v := ?_) (a' := ?_) #[true, true, true, true, true, false, false, false, false, false, false, false, false] rfl rfl (by kernel_rfl) (fun _ _ _ h => h) (Or.inl ⟨by rfl, ?_⟩) ?_ ?_
  rotate_left
  · intro w'
    go_simp
    with_reducible rfl
  rotate_left
  · simp only [Act.put, List.setIfInBounds_toArray, List.set_cons_zero, List.set_cons_succ, i64_w, i32_w]
    rfl
  refine pure_ (i := 5) (N := some 29) (v := ?_) (a' := ?_) #[true, true, true, true, true, true, false, false, false, false, false, false, false] rfl rfl (by kernel_rfl) (fun _ _ _ h => h) (Or.inl ⟨by rfl, ?_⟩) ?_ ?_
  rotate_left
  · intro w'
    go_simp
    with_reducible rfl
  rotate_left
  · simp only [Act.put, List.setIfInBounds_toArray, List.set_cons_zero, List.set_cons_succ, i64_w, i32_w]
    rfl
  refine pure_ (i := 6) (N := some 30) (v := ?_) (a' := ?_) #[true, true, true, true, true, true, true, false, false, false, false, false, false] rfl rfl (by kernel_rfl) (fun _ _ _ h => h) (Or.inl ⟨by rfl, ?_⟩) ?_ ?_
  rotate_left
  · intro w'
    go_simp
    with_reducible rfl
  rotate_left
  · simp only [Act.put, List.setIfInBounds_toArray, List.set_cons_zero, List.set_cons_succ, i64_w, i32_w]
    rfl
  refine pure_ (i := 9) (N := some 33) (v := ?_) (a' := ?_) #[true, true, true, true, true, true, true, false, false, true, false, false, false] rfl rfl (by kernel_rfl) (fun _ _ _ h => h) (Or.inl ⟨by rfl, ?_⟩) ?_ ?_
  rotate_left
  · intro w'
    go_simp
    with_reducible rfl
  rotate_left
  · simp only [Act.put, List.setIfInBounds_toArray, List.set_cons_zero, List.set_cons_succ, i64_w, i32_w]
    rfl
  refine pure_ (i := 10) (N := some 34) (v := ?_) (a' := ?_) #[true, true, true, true, true, true, true, false, false, true, true, false, false] rfl rfl (by kernel_rfl) (fun _ _ _ h => h) (Or.inl ⟨by rfl, ?_⟩) ?_ ?_
  rotate_left
  · intro w'
    go_simp
    with_reducible rfl
  rotate_left
  · simp only [Act.put, List.setIfInBounds_toArray, List.set_cons_zero, List.set_cons_succ, i64_w, i32_w]
    rfl
  refine take_ (i := 7) (N := some 31) (v := ?_) (a' := ?_) #[true, true, true, true, true, true, true, true, false, true, true, false, false] rfl rfl (by kernel_rfl) (fun _ _ _ h => h) (Or.inl ⟨by rfl, ?_⟩) hHeld ?_ ?_
  rotate_left
  · intro w' s0
    go_simp
    with_reducible rfl
  rotate_left
  · simp only [Act.put, List.setIfInBounds_toArray, List.set_cons_zero, List.set_cons_succ, i64_w, i32_w]
    rfl
  refine pure_ (i := 8) (N := some 32) (v := ?_) (a' := ?_) #[true, true, true, true, true, true, true, true, true, true, true, false, false] rfl rfl (by kernel_rfl) (fun _ _ _ h => h) (Or.inl ⟨by rfl, ?_⟩) ?_ ?_
  rotate_left
  · intro w'
    go_simp
    with_reducible rfl
  rotate_left
  · simp only [Act.put, List.setIfInBounds_toArray, List.set_cons_zero, List.set_cons_succ, i64_w, i32_w]
    rfl
  refine pure_ (i := 11) (N := some 35) (v := ?_) (a' := ?_) #[true, true, true, true, true, true, true, true, true, true, true, true, false] rfl rfl (by kernel_rfl) (fun _ _ _ h => h) (Or.inl ⟨by rfl, ?_⟩) ?_ ?_
  rotate_left
  · intro w'
    go_simp
    with_reducible rfl
  rotate_left
  · simp only [Act.put, List.setIfInBounds_toArray, List.set_cons_zero, List.set_cons_succ, i64_w, i32_w]
    rfl
  refine last_ (i := 12) (N := none) #[true, true, true, true, true, true, true, true, true, true, true, true, true] rfl rfl (by kernel_rfl) (by decide) (fun K hK => ?_)
  refine skip_ (w1 := ?_) (by rfl) rfl ?_ ?_
  rotate_left
  · go_simp
    rfl
  refine hK.out _ _ ?_
  clear hK K
  refine done_ (by kernel_rfl) ?_
  obtain ⟨w2, hw2⟩ : ∃ W, W = (wr.setCell ⟨gt, 3, none⟩ (.slice A' W1.length c')).drew := ⟨_, rfl⟩
  rw [← hw2]
  have hblk : w2.heap[gt]? = some (.cells #[.pointer (some ⟨g0, 0, none⟩), .pointer (some ⟨g1, 0, none⟩), v0, .slice A' W1.length c', .int .i64 (n : Int)] 48 (0, 0)) := by rw [hw2]; exact blk_drew (blk_put HBr.out 3 _ rfl)
  have ngb : gb ≠ gt := by omega
  have x0 : w2.cell? ⟨gb, 0, none⟩ = some (.int .u8 (xv : Int)) := by rw [hw2]; exact cell_dr1 ((World.cell?_setCell_other _ _ _ _ (by intro e; injection e with e; exact ngb e.symm)).trans z0)
  have x1 : w2.cell? ⟨gb, 1, none⟩ = some (.int .u8 (xo : Int)) := by rw [hw2]; exact cell_dr1 ((World.cell?_setCell_other _ _ _ _ (by intro e; injection e with e; exact ngb e.symm)).trans z1)
  have HB2 := Aside0.mk hblk
  have M02 : Aside0 (MIs w2 g0 S0 A0) := ⟨by rw [hw2]; exact (M0r.out.far (p := ⟨gt, 3, none⟩) (by exact fun e => h2o e.symm) _).dr1⟩
  have M12 : Aside0 (MIs w2 g1 S1 A1) := ⟨by rw [hw2]; exact (M1r.out.far (p := ⟨gt, 3, none⟩) (by exact fun e => h2t e.symm) _).dr1⟩
  have M2 := M12
  have HW2 : Aside0 (Ways w2 B (.slice A' W1.length c') v0 W1 W0) := ⟨by rw [hw2]; exact (HWr.out.set HBr.out (by decide) _ _).below (below_drew (Below.refl _ _))⟩
  have HBw2 : Aside0 (Below B w w2) := ⟨by rw [hw2]; exact below_drew (HBw.out.setCell hBt _)⟩
  have hs2 : w2.heap.size = gb + 1 := by rw [hw2]; exact (World.size_setCell _ _ _).trans HS.out
  have p2 : w2.cell? ⟨gt, 1, none⟩ = some (.pointer (some ⟨g1, 0, none⟩)) := blk_cell hblk 1
  have hg2 := M2.out.lt
  have hne5 : gt ≠ g1 := h2t
  have hne6 : gb ≠ g1 := by have := M1r.out.lt; have := HS.out; have := hglt; omega
  clear hblk hw2 c2r z0 z1 fz HBr HWr M0r M1r HBw HS hcut hkc
  go_wp2
  have hv := HV.out
  refine start_ (n := 16) (S := fun w' => w'.cell? ⟨gt, 1, none⟩ = some (.pointer (some ⟨g1, 0, none⟩)) ∧ w'.cell? ⟨gb, 0, none⟩ = some (.int .u8 (xv : Int)) ∧ w'.cell? ⟨gb, 1, none⟩ = some (.int .u8 (xo : Int))) (ds := []) #[false, false, false, false, false, false, false, false, false, false, false, false, false, false, false, false] (by kernel_rfl) rfl rfl ⟨cell_dr1 p2, cell_dr1 x0, cell_dr1 x1⟩ (fun hHeld => ?_)
  refine pure_ (i := 0) (N := some 37) (v := ?_) (a' := ?_) #[true, false, false, false, false, false, false, false, false, false, false, false, false, false, false, false] rfl rfl (by kernel_rfl) (fun _ _ _ h => h) (Or.inl ⟨by rfl, ?_⟩) ?_ ?_
  rotate_left
  · intro w'
    go_simp
    with_reducible rfl
  rotate_left
  · simp only [Act.put, List.setIfInBounds_toArray, List.set_cons_zero, List.set_cons_succ, i64_w, i32_w]
    rfl
  refine pure_ (i := 1) (N := some 38) (v := ?_) (a' := ?_) #[true, true, false, false, false, false, false, false, false, false, false, false, false, false, false, false] rfl rfl (by kernel_rfl) (fun _ _ _ h => h) (Or.inl ⟨by rfl, ?_⟩) ?_ ?_
  rotate_left
  · intro w'
    go_simp
    with_reducible rfl
  rotate_left
  · simp only [Act.put, List.setIfInBounds_toArray, List.set_cons_zero, List.set_cons_succ, i64_w, i32_w]
    rfl
  refine pure_ (i := 2) (N := some 39) (v := ?_) (a' := ?_) #[true, true, true, false, false, false, false, false, false, false, false, false, false, false, false, false] rfl rfl (by kernel_rfl) (fun _ _ _ h => h) (Or.inl ⟨by rfl, ?_⟩) ?_ ?_
  rotate_left
  · intro w'
    go_simp
    with_reducible rfl
  rotate_left
  · simp only [Act.put, List.setIfInBounds_toArray, List.set_cons_zero, List.set_cons_succ, i64_w, i32_w]
    rfl
  refine pure_ (i := 3) (N := some 40) (v := ?_) (a' := ?_) #[true, true, true, true, false, false, false, false, false, false, false, false, false, false, false, false] rfl rfl (by kernel_rfl) (fun _ _ _ h => h) (Or.inl ⟨by rfl, ?_⟩) ?_ ?_
  rotate_left
  · intro w'
    go_simp
    with_reducible rfl
  rotate_left
  · simp only [Act.put, List.setIfInBounds_toArray, List.set_cons_zero, List.set_cons_succ, i64_w, i32_w]
    rfl
  refine pure_ (i := 4) (N := some 41) (v := ?_) (a' := ?_) #[true, true, true, true, true, false, false, false, false, false, false, false, false, false, false, false] rfl rfl (by kernel_rfl) (fun _ _ _ h => h) (Or.inl ⟨by rfl, ?_⟩) ?_ ?_
  rotate_left
  · intro w'
    go_simp
    with_reducible rfl
  rotate_left
  · simp only [Act.put, List.setIfInBounds_toArray, List.set_cons_zero, List.set_cons_succ, i64_w, i32_w]
    rfl
  refine pure_ (i := 6) (N := some 43) (v := ?_) (a' := ?_) #[true, true, true, true, true, false, true, false, false, false, false, false, false, false, false, false] rfl rfl (by kernel_rfl) (fun _ _ _ h => h) (Or.inl ⟨by rfl, ?_⟩) ?_ ?_
  rotate_left
  · intro w'
    go_simp
    with_reducible rfl
  rotate_left
  · simp only [Act.put, List.setIfInBounds_toArray, List.set_cons_zero, List.set_cons_succ, i64_w, i32_w]
    rfl
  refine pure_ (i := 8) (N := some 45) (v := ?_) (a' := ?_) #[true, true, true, true, true, false, true, false, true, false, false, false, false, false, false, false] rfl rfl (by kernel_rfl) (fun _ _ _ h => h) (Or.inl ⟨by rfl, ?_⟩) ?_ ?_
  rotate_left
  · intro w'
    go_simp
    with_reducible rfl
  rotate_left
  · simp only [Act.put, List.setIfInBounds_toArray, List.set_cons_zero, List.set_cons_succ, i64_w, i32_w]
    rfl
  refine take_ (i := 5) (N := some 42) (v := ?_) (a' := ?_) #[true, true, true, true, true, true, true, false, true, false, false, false, false, false, false, false] rfl rfl (by kernel_rfl) (fun _ _ _ h => h) (Or.inl ⟨by rfl, ?_⟩) hHeld ?_ ?_
  rotate_left
  · rintro w' ⟨s0, s1, s2⟩
    go_simp
    with_reducible rfl
  rotate_left
  · simp only [Act.put, List.setIfInBounds_toArray, List.set_cons_zero, List.set_cons_succ, i64_w, i32_w]
    rfl
  refine take_ (i := 7) (N := some 44) (v := ?_) (a' := ?_) #[true, true, true, true, true, true, true, true, true, false, false, false, false, false, false, false] rfl rfl (by kernel_rfl) (fun _ _ _ h => h) (Or.inl ⟨by rfl, ?_⟩) hHeld ?_ ?_
  rotate_left
  · rintro w' ⟨s0, s1, s2⟩
    go_simp
    with_reducible rfl
  rotate_left
  · simp only [Act.put, List.setIfInBounds_toArray, List.set_cons_zero, List.set_cons_succ, i64_w, i32_w]
    rfl
  refine take_ (i := 9) (N := some 46) (v := ?_) (a' := ?_) #[true, true, true, true, true, true, true, true, true, true, false, false, false, false, false, false] rfl rfl (by kernel_rfl) (fun _ _ _ h => h) (Or.inl ⟨by rfl, ?_⟩) hHeld ?_ ?_
  rotate_left
  · rintro w' ⟨s0, s1, s2⟩
    go_simp
    with_reducible rfl
  rotate_left
  · simp only [Act.put, List.setIfInBounds_toArray, List.set_cons_zero, List.set_cons_succ, i64_w, i32_w]
    rfl
  refine one_ (i := 10) (N := some 47) #[true, true, true, true, true, true, true, true, true, true, true, false, false, false, false, false] rfl rfl (by kernel_rfl) (by decide) (fun K hK => ?_)
  refine goes_ Try.func11 (by kernel_rfl) rfl #[.pointer (some ⟨g1, 0, none⟩), .int .u8 (xv : Int), .int .u8 (xo : Int)] (by rfl) rfl rfl (by simp only [List.map_toArray, List.map_cons, List.map_nil]; rfl) ?_
  with_reducible refine (hear_of g1 xv xo hv ho S1 A1 _ (MIs.dr1 M2.out)).mono ?_
  rintro e w3 ⟨u, rfl, hu, hm, hk, hb3⟩
  refine ⟨_, rfl, ?_⟩
  refine hK.out _ _ ⟨keep_cell hk hHeld.1 hne5, keep_cell hk hHeld.2.1 hne6, keep_cell hk hHeld.2.2 hne6⟩ (fun hHeld => ?_)
  clear hK K
  refine norm_ (a' := ?_) ?_ ?_
  rotate_left
  · show Act.put _ (some 47) _ = _
    simp only [Act.put, List.setIfInBounds_toArray, List.set_cons_zero, List.set_cons_succ, i64_w, i32_w]
    rfl
  refine pure_ (i := 11) (N := some 36) (v := ?_) (a' := ?_) #[true, true, true, true, true, true, true, true, true, true, true, true, false, false, false, false] rfl rfl (by kernel_rfl) (fun _ _ _ h => h) (Or.inl ⟨by rfl, ?_⟩) ?_ ?_
  rotate_left
  · intro w'
    go_simp
    with_reducible rfl
  rotate_left
  · simp only [Act.put, List.setIfInBounds_toArray, List.set_cons_zero, List.set_cons_succ, i64_w, i32_w]
    rfl
  refine pure_ (i := 12) (N := some 48) (v := ?_) (a' := ?_) #[true, true, true, true, true, true, true, true, true, true, true, true, true, false, false, false] rfl rfl (by kernel_rfl) (fun _ _ _ h => h) (Or.inl ⟨by rfl, ?_⟩) ?_ ?_
  rotate_left
  · intro w'
    go_simp
    with_reducible rfl
  rotate_left
  · simp only [Act.put, List.setIfInBounds_toArray, List.set_cons_zero, List.set_cons_succ, i64_w, i32_w]
    rfl
  refine pure_ (i := 13) (N := some 49) (v := ?_) (a' := ?_) #[true, true, true, true, true, true, true, true, true, true, true, true, true, true, false, false] rfl rfl (by kernel_rfl) (fun _ _ _ h => h) (Or.inl ⟨by rfl, ?_⟩) ?_ ?_
  rotate_left
  · intro w'
    go_simp
    with_reducible rfl
  rotate_left
  · simp only [Act.put, List.setIfInBounds_toArray, List.set_cons_zero, List.set_cons_succ, i64_w, i32_w]
    rfl
  refine pure_ (i := 14) (N := some 6) (v := ?_) (a' := ?_) #[true, true, true, true, true, true, true, true, true, true, true, true, true, true, true, false] rfl rfl (by kernel_rfl) (fun _ _ _ h => h) (Or.inl ⟨by rfl, ?_⟩) ?_ ?_
  rotate_left
  · intro w'
    go_simp
    with_reducible rfl
  rotate_left
  · simp only [Act.put, List.setIfInBounds_toArray, List.set_cons_zero, List.set_cons_succ, i64_w, i32_w]
    rfl
  refine pure_ (i := 15) (N := some 7) (v := ?_) (a' := ?_) #[true, true, true, true, true, true, true, true, true, true, true, true, true, true, true, true] rfl rfl (by kernel_rfl) (fun _ _ _ h => h) (Or.inl ⟨by rfl, ?_⟩) ?_ ?_
  rotate_left
  · intro w'
    go_simp
    with_reducible rfl
  rotate_left
  · simp only [Act.put, List.setIfInBounds_toArray, List.set_cons_zero, List.set_cons_succ, i64_w, i32_w]
    rfl
  refine done_ (by kernel_rfl) ?_
  clear hv HV
  obtain ⟨L, hL⟩ : ∃ L, L = say (sideOf xv) (hres S1 A1 xv xo).2 (xo : Int) := ⟨_, rfl⟩
  rw [← hL] at hu
  have hL1 : L = [] ∨ ∃ p, L = [p] := by rw [hL]; unfold say; split; exact .inl rfl; exact .inr ⟨_, rfl⟩
  have hLl : L.length ≤ 1 := by rcases hL1 with e | ⟨p, e⟩ <;> rw [e] <;> simp
  have HL := Aside0.mk hL
  clear hL
  have hlt2 := hg2
  have X3 := hk.blk HB2.out hne5 (by simp)
  have p3 : w3.cell? ⟨gt, 2, none⟩ = some v0 := (blk_cell X3 2).trans rfl
  have HX3 := Aside0.mk X3
  have HM3 := Aside0.mk hm
  have HO3 := Aside0.mk (M02.out.kept hk hne (by simp))
  have b23 : Below B w2 w3 := below_undrew (hb3.mono hB1)
  have W3 : Ways w3 B (.slice A' W1.length c') v0 W1 W0 := HW2.out.kept M2.out.typed hk
  have hs3 : B ≤ w3.heap.size := by have h1 := hk.1; have e1 : w2.drew.heap.size = w2.heap.size := rfl; omega
  have HB3 := Aside0.mk (HBw2.out.trans b23)
  obtain ⟨v4, w4, hrun, hw4, hg4⟩ := (W3.below (below_drew (Below.refl _ _))).app (Kd.R_drew hu) hL1 (by omega) hs3
  have HW4 := Aside0.mk hw4
  have hnv : some gt ≠ (v0).ownBlock := Q_away W3.q1 X3 (by decide)
  have HX4 := Aside0.mk (blk_grown (blk_drew X3) hg4 hnv)
  have HM4 := Aside0.mk (hm.grown hg4 (Q_away W3.q1 hm.typed.choose_spec (by decide)))
  have HO4 := Aside0.mk (HO3.out.grown hg4 (Q_away W3.q1 HO3.out.typed.choose_spec (by decide)))
  have HB4 := Aside0.mk (below_grown_ HB3.out hg4 (W3.q1) hs3)
  have fz4 : w4.frozen? ⟨gt, 2, none⟩ = false := blk_frozen HX4.out _
  obtain ⟨A4, n4, c4, rfl, hn4⟩ := Q_shape2 hw4.q1
  have HN4 := Aside0.mk hn4
  clear hn4
  have wz : wrap64 0 = 0 := wrap_in _ (by omega) (by omega)
  obtain ⟨Au, cu, rfl⟩ := Kd.R_slice hu
  clear X3 hm hk hb3 b23 W3 hu hw4 HB2 M02 M12 M2 HW2 HBw2 x0 x1 p2
  go_wp2
  refine start_ (n := 16) (S := fun w' => w'.cell? ⟨gt, 2, none⟩ = some v0) (ds := [15]) #[false, false, false, false, false, false, false, false, false, false, false, false, false, false, false, false] (by kernel_rfl) rfl rfl (cell_dr1 p3) (fun hHeld => ?_)
  refine pure_ (i := 0) (N := some 50) (v := ?_) (a' := ?_) #[true, false, false, false, false, false, false, false, false, false, false, false, false, false, false, false] rfl rfl (by kernel_rfl) (fun _ _ _ h => h) (Or.inl ⟨by rfl, ?_⟩) ?_ ?_
  rotate_left
  · intro w'
    go_simp
    with_reducible rfl
  rotate_left
  · simp only [Act.put, List.setIfInBounds_toArray, List.set_cons_zero, List.set_cons_succ, i64_w, i32_w]
    rfl
  refine pure_ (i := 1) (N := some 51) (v := ?_) (a' := ?_) #[true, true, false, false, false, false, false, false, false, false, false, false, false, false, false, false] rfl rfl (by kernel_rfl) (fun _ _ _ h => h) (Or.inl ⟨by rfl, ?_⟩) ?_ ?_
  rotate_left
  · intro w'
    go_simp
    with_reducible rfl
  rotate_left
  · simp only [Act.put, List.setIfInBounds_toArray, List.set_cons_zero, List.set_cons_succ, i64_w, i32_w]
    rfl
  refine pure_ (i := 2) (N := some 52) (v := ?_) (a' := ?_) #[true, true, true, false, false, false, false, false, false, false, false, false, false, false, false, false] rfl rfl (by kernel_rfl) (fun _ _ _ h => h) (Or.inl ⟨by rfl, ?_⟩) ?_ ?_
  rotate_left
  · intro w'
    go_simp
    with_reducible rfl
  rotate_left
  · simp only [Act.put, List.setIfInBounds_toArray, List.set_cons_zero, List.set_cons_succ, i64_w, i32_w]
    rfl
  refine pure_ (i := 3) (N := some 53) (v := ?_) (a' := ?_) #[true, true, true, true, false, false, false, false, false, false, false, false, false, false, false, false] rfl rfl (by kernel_rfl) (fun _ _ _ h => h) (Or.inl ⟨by rfl, ?_⟩) ?_ ?_
  rotate_left
  · intro w'
    go_simp
    with_reducible rfl
  rotate_left
  · simp only [Act.put, List.setIfInBounds_toArray, List.set_cons_zero, List.set_cons_succ, i64_w, i32_w]
    rfl
  refine pure_ (i := 4) (N := some 54) (v := ?_) (a' := ?_) #[true, true, true, true, true, false, false, false, false, false, false, false, false, false, false, false] rfl rfl (by kernel_rfl) (fun _ _ _ h => h) (Or.inl ⟨by rfl, ?_⟩) ?_ ?_
  rotate_left
  · intro w'
    go_simp
    with_reducible rfl
  rotate_left
  · simp only [Act.put, List.setIfInBounds_toArray, List.set_cons_zero, List.set_cons_succ, i64_w, i32_w]
    rfl
  refine pure_ (i := 5) (N := some 55) (v := ?_) (a' := ?_) #[true, true, true, true, true, true, false, false, false, false, false, false, false, false, false, false] rfl rfl (by kernel_rfl) (fun _ _ _ h => h) (Or.inl ⟨by rfl, ?_⟩) ?_ ?_
  rotate_left
  · intro w'
    go_simp
    with_reducible rfl
  rotate_left
  · simp only [Act.put, List.setIfInBounds_toArray, List.set_cons_zero, List.set_cons_succ, i64_w, i32_w]
    rfl
  refine pure_ (i := 6) (N := some 56) (v := ?_) (a' := ?_) #[true, true, true, true, true, true, true, false, false, false, false, false, false, false, false, false] rfl rfl (by kernel_rfl) (fun _ _ _ h => h) (Or.inl ⟨by rfl, ?_⟩) ?_ ?_
  rotate_left
  · intro w'
    go_simp
    with_reducible rfl
  rotate_left
  · simp only [Act.put, List.setIfInBounds_toArray, List.set_cons_zero, List.set_cons_succ, i64_w, i32_w]
    rfl
  refine pure_ (i := 7) (N := some 57) (v := ?_) (a' := ?_) #[true, true, true, true, true, true, true, true, false, false, false, false, false, false, false, false] rfl rfl (by kernel_rfl) (fun _ _ _ h => h) (Or.inl ⟨by rfl, ?_⟩) ?_ ?_
  rotate_left
  · intro w'
    go_simp
    with_reducible rfl
  rotate_left
  · simp only [Act.put, List.setIfInBounds_toArray, List.set_cons_zero, List.set_cons_succ, i64_w, i32_w]
    rfl
  refine pure_ (i := 8) (N := some 58) (v := ?_) (a' := ?_) #[true, true, true, true, true, true, true, true, true, false, false, false, false, false, false, false] rfl rfl (by kernel_rfl) (fun _ _ _ h => h) (Or.inl ⟨by rfl, ?_⟩) ?_ ?_
  rotate_left
  · intro w'
    go_simp
    with_reducible rfl
  rotate_left
  · simp only [Act.put, List.setIfInBounds_toArray, List.set_cons_zero, List.set_cons_succ, i64_w, i32_w]
    rfl
  refine pure_ (i := 10) (N := some 60) (v := ?_) (a' := ?_) #[true, true, true, true, true, true, true, true, true, false, true, false, false, false, false, false] rfl rfl (by kernel_rfl) (fun _ _ _ h => h) (Or.inl ⟨by rfl, ?_⟩) ?_ ?_
  rotate_left
  · intro w'
    go_simp
    with_reducible rfl
  rotate_left
  · simp only [Act.put, List.setIfInBounds_toArray, List.set_cons_zero, List.set_cons_succ, i64_w, i32_w]
    rfl
  refine pure_ (i := 12) (N := some 62) (v := ?_) (a' := ?_) #[true, true, true, true, true, true, true, true, true, false, true, false, true, false, false, false] rfl rfl (by kernel_rfl) (fun _ _ _ h => h) (Or.inl ⟨by rfl, ?_⟩) ?_ ?_
  rotate_left
  · intro w'
    go_simp
    with_reducible rfl
  rotate_left
  · simp only [Act.put, List.setIfInBounds_toArray, List.set_cons_zero, List.set_cons_succ, i64_w, i32_w]
    rfl
  refine pure_ (i := 13) (N := some 63) (v := ?_) (a' := ?_) #[true, true, true, true, true, true, true, true, true, false, true, false, true, true, false, false] rfl rfl (by kernel_rfl) (fun _ _ _ h => h) (Or.inl ⟨by rfl, ?_⟩) ?_ ?_
  rotate_left
  · intro w'
    go_simp
    with_reducible rfl
  rotate_left
  · simp only [Act.put, List.setIfInBounds_toArray, List.set_cons_zero, List.set_cons_succ, i64_w, i32_w]
    rfl
  refine take_ (i := 9) (N := some 59) (v := ?_) (a' := ?_) #[true, true, true, true, true, true, true, true, true, true, true, false, true, true, false, false] rfl rfl (by kernel_rfl) (fun _ _ _ h => h) (Or.inl ⟨by rfl, ?_⟩) hHeld ?_ ?_
  rotate_left
  · intro w' s0
    go_simp
    with_reducible rfl
  rotate_left
  · simp only [Act.put, List.setIfInBounds_toArray, List.set_cons_zero, List.set_cons_succ, i64_w, i32_w]
    rfl
  refine one_ (i := 11) (N := some 61) #[true, true, true, true, true, true, true, true, true, true, true, true, true, true, false, false] rfl rfl (by kernel_rfl) (by decide) (fun K hK => ?_)
  refine value_ (w1 := w4) (v := .slice A4 n4 c4) (by rfl) rfl ?_ ?_
  · exact exec_append (.tmp 59) (.tmp 60) 30 hrun (by rfl) (by rfl) (by rfl) (by rfl)
  refine hK.out _ _ (cell_grown hg4 (cell_dr1 p3) hnv) (fun hHeld => ?_)
  clear hK K
  refine norm_ (a' := ?_) ?_ ?_
  rotate_left
  · show Act.put _ (some 61) _ = _
    simp only [Act.put, List.setIfInBounds_toArray, List.set_cons_zero, List.set_cons_succ, i64_w, i32_w]
    rfl
  refine pure_ (i := 14) (N := some 64) (v := ?_) (a' := ?_) #[true, true, true, true, true, true, true, true, true, true, true, true, true, true, true, false] rfl rfl (by kernel_rfl) (fun _ _ _ h => h) (Or.inl ⟨by rfl, ?_⟩) ?_ ?_
  rotate_left
  · intro w'
    go_simp
    with_reducible rfl
  rotate_left
  · simp only [Act.put, List.setIfInBounds_toArray, List.set_cons_zero, List.set_cons_succ, i64_w, i32_w]
    rfl
  refine last_ (i := 15) (N := none) #[true, true, true, true, true, true, true, true, true, true, true, true, true, true, true, true] rfl rfl (by kernel_rfl) (by decide) (fun K hK => ?_)
  refine skip_ (w1 := ?_) (by rfl) rfl ?_ ?_
  rotate_left
  · go_simp
    rfl
  refine hK.out _ _ ?_
  clear hK K
  refine done_ (by kernel_rfl) ?_
  obtain ⟨w5, hw5⟩ : ∃ W, W = w4.setCell ⟨gt, 2, none⟩ (.slice A4 n4 c4) := ⟨_, rfl⟩
  rw [← hw5]
  have X5 : w5.heap[gt]? = some (.cells #[.pointer (some ⟨g0, 0, none⟩), .pointer (some ⟨g1, 0, none⟩), .slice A4 n4 c4, .slice A' W1.length c', .int .i64 (n : Int)] 48 (0, 0)) := by rw [hw5]; exact blk_put HX4.out 2 _ rfl
  have HX5 := Aside0.mk X5
  have HM5 : Aside0 (MIs w5 g1 (put S1 (sideOf xv) xo (hres S1 A1 xv xo).1) A1) := ⟨by rw [hw5]; exact HM4.out.far (p := ⟨gt, 2, none⟩) (fun e => h2t e.symm) _⟩
  have HO5 : Aside0 (MIs w5 g0 S0 A0) := ⟨by rw [hw5]; exact HO4.out.far (p := ⟨gt, 2, none⟩) (fun e => h2o e.symm) _⟩
  have HW5 : Aside0 (Ways w5 B (.slice A' W1.length c') (.slice A4 n4 c4) W1 (W0 ++ L)) := ⟨by rw [hw5]; exact HW4.out.set HX4.out (by decide) _ _⟩
  have HB5 : Aside0 (Below B w w5) := ⟨by rw [hw5]; exact HB4.out.setCell hBt _⟩
  have q4 : w5.cell? ⟨gt, 4, none⟩ = some (.int .i64 (n : Int)) := blk_cell X5 4
  have fz5 : w5.frozen? ⟨gt, 4, none⟩ = false := blk_frozen X5 4
  clear X5 hw5 HX4 HM4 HO4 HW4 HB4 hrun hg4 fz4 p3 hnv wz HN4 hL1 HX3 HM3 HO3 HB3 hs3
  go_wp2
  go_ret
  have e6 : ((n : Int) + (L.length : Int)) = ((n + L.length : Nat) : Int) := by omega
  have z5 := blk_put (cs' := #[.pointer (some ⟨g0, 0, none⟩), .pointer (some ⟨g1, 0, none⟩), .slice A4 n4 c4, .slice A' W1.length c', .int .i64 ((n + L.length : Nat) : Int)]) HX5.out 4 (.int .i64 ((n : Int) + (L.length : Int))) (by rw [e6]; rfl)
  have m5 := HM5.out.far (p := ⟨gt, 4, none⟩) (fun e => h2t e.symm) (.int .i64 ((n : Int) + (L.length : Int)))
  have o5 := HO5.out.far (p := ⟨gt, 4, none⟩) (fun e => h2o e.symm) (.int .i64 ((n : Int) + (L.length : Int)))
  have y5 := HW5.out.set HX5.out (by decide) 4 (.int .i64 ((n : Int) + (L.length : Int)))
  refine ⟨rfl, ?_, HB5.out.setCell hBt _⟩
  rw [← HL.out]
  exact ⟨_, _, z5, o5, m5, hne, y5.swap, hBt, hB0, hB1⟩
end Go.Proofs.Ytaabojppahcejaa.Op
