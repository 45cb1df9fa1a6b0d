/- telnet: the reader's block; flush. -/
import Derived.Test.YtddfgfgjkamccaaPTex0
import Derived.Tactics
import Derived.WalkKit
import Derived.KernelRfl
import Derived.Below
import Derived.WalkSpells
import Derived.BigQuiet
import Derived.Deep.QuietTactic
import Derived.Deep.RegionHeld3
namespace Go.Proofs.Ytddfgfgjkamccaa.Tn
open Go Go.RowKit Go.Proofs.YtddfgfgjkamccaaW.PrintWords Go.Proofs.YtddfgfgjkamccaaW.PrintLast Go.Proofs.YtddfgfgjkamccaaW.PrintMore Go.Proofs.Ytddfgfgjkamccaa.PTe
set_option linter.unusedVariables false
set_option linter.unusedSimpArgs false
theorem exec_append' {P : Program} {oi : Oper} {a : Act} {v u v' : Value} {w w' : World} (s x : Operand) (t : TypeId) (hr : (Builtin.append_ #[t, t] t #[v, u]).run P w = .ok v' w') (ho : oi.op = .call { callee := .builtin .append, args := #[s, x], argTypes := #[t, t] }) (ht : oi.type = t) (hs : a.eval s = v) (hx : a.eval x = u) : (execOp a.eval oi).run P w = .ok (.value v') w' := by
  unfold execOp
  simp only [ho, ht, resolve, invoke, builtin, Sem.run_bind, Sem.run_pure, Result.andThen_ok, List.map_toArray, List.map_cons, List.map_nil, hs, hx, hr]
theorem cell_dr1 {W : World} {p : Addr} {v : Value} (h : W.cell? p = some v) : W.drew.cell? p = some v := h
theorem cell_drN {W : World} {p : Addr} {v : Value} (m : Nat) (h : W.cell? p = some v) : (W.drewN m).cell? p = some v := h
theorem cell_al {W : World} {p : Addr} {v : Value} (o : Obj) (h : W.cell? p = some v) : (W.alloc o).cell? p = some v := pw_cell_below (below_alloc (Below.refl _ _) _) h
theorem keep_cell {W W' : World} {g : Nat} (h : KeepBut W W' g none) {p : Addr} {v : Value} (hc : W.cell? p = some v) (hne : p.block ≠ g) : W'.cell? p = some v := by
  have := h.2 p.block (World.block_lt_of_cell? W p hc) hne (by simp)
  rw [← hc]
  unfold World.cell?
  rw [this]
theorem wrap_in (x : Int) (h0 : -9223372036854775808 ≤ x) (h1 : x ≤ 9223372036854775807) : wrap64 x = x := by unfold wrap64; omega
theorem next_i {k m : Nat} (h : k < m) (hm : m ≤ 9223372036854775807) : Value.int .i64 (wrap64 ((k : Int) + 1)) = Value.int .i64 ((k + 1 : Nat) : Int) := by
  rw [wrap_in _ (by omega) (by omega)]; rfl
theorem next_j (k : Nat) : Value.int .i64 ((k : Int) + 1) = Value.int .i64 ((k + 1 : Nat) : Int) := rfl
theorem meas_j {k m : Nat} (h : k < m) : m - (intOf (Value.int .i64 ((k : Int) + 1))).toNat < m - (intOf (Value.int .i64 (k : Int))).toNat := by
  show m - ((k + 1 : Nat) : Int).toNat < m - ((k : Nat) : Int).toNat
  rw [Int.toNat_natCast, Int.toNat_natCast]
  omega
theorem meas {k m : Nat} (h : k < m) (hm : m ≤ 9223372036854775807) : m - (intOf (Value.int .i64 (wrap64 ((k : Int) + 1)))).toNat < m - (intOf (Value.int .i64 (k : Int))).toNat := by
  rw [next_i h hm]
  exact meas_j h
/-- append(v, x) of one element, run: x's cells lie in a box of their own. -/
theorem R_run {α : Type} (d : Kd α) {W : World} (base : Nat) (t e : TypeId) (z : Value) (bytes : Nat)
    (ht : Try.prog.underlying t = some (.slice e)) (hinfo : (Try.prog.info? e).map (fun i => (i.zero, i.size, i.bytes)) = some (some z, d.sz, bytes)) (hz : z.cells.size = d.sz) (hs0 : 0 < d.sz) (hb0 : 0 < bytes)
    {v : Value} {xs : List α} {p : α} {cs : List Value} {ok okp : Nat → Prop} (hp : d.M W base okp p cs) (hokp : ∀ k, okp k → ok k ∧ some k ≠ v.ownBlock) (hfresh : ∀ k, W.heap.size ≤ k → ok k)
    (HO : d.R e W base ok v xs) (hbase : base ≤ W.heap.size) (hl : (xs.length + 1) * bytes ≤ 140737488355328) :
    ∃ v1 w1, (Builtin.append_ #[t, t] t #[v, .slice (some ⟨W.heap.size, 0, none⟩) 1 1]).run Try.prog (W.alloc (.cells cs.toArray e)) = .ok v1 w1 ∧ d.R e w1 base ok v1 (xs ++ [p]) ∧ Below base W w1 ∧ W.grownBy w1 v.ownBlock ∧ (v1.ownBlock = v.ownBlock ∨ ∃ b, v1.ownBlock = some b ∧ W.heap.size ≤ b) := by
  obtain ⟨h0, inner, hown, hr⟩ := HO
  obtain ⟨i0, hi, hzz⟩ := Option.map_eq_some_iff.1 hinfo
  simp only [Prod.mk.injEq] at hzz
  obtain ⟨hz0, hz1, hz2⟩ := hzz
  have hlen : xs.length + 1 ≤ 140737488355328 := Nat.le_trans (Nat.le_mul_of_pos_right _ hb0) hl
  have hcl := d.K_len (d.K_of_M hp)
  have hown' := pw_own_below hown (below_alloc (Below.refl _ _) (.cells cs.toArray e))
  obtain ⟨v1, w1, hrun, hq1, hg1, _, hat⟩ := run_append_own_at (P := Try.prog) (W.alloc (.cells cs.toArray e)) base t t e i0 z d.sz bytes ht hi hz0 hz1 hz2 hz hs0 v xs.length inner hown' ⟨W.heap.size, 0, none⟩ 1 1 cs (by rw [hcl, Nat.one_mul])
    (by simpa using World.news_of_block (cs := cs.toArray) (t := e) (fr := (0, 0)) (heap_alloc_new W (.cells cs.toArray e))) (d.K_one (d.K_of_M hp)) (by simp only [maxLen]; omega) hl (by simp; omega)
  have hg : W.grownBy w1 v.ownBlock := World.grownBy.trans (World.grownBy_alloc W _ _) hg1
  have hat' : v1.ownBlock = v.ownBlock ∨ ∃ b, v1.ownBlock = some b ∧ W.heap.size ≤ b := by
    rcases hat with hat | hat
    · exact .inl hat
    · exact .inr ⟨_, hat, by simp⟩
  exact ⟨v1, w1, hrun, Kd.R_appended h0 hr hp hokp hfresh hq1 hg hat', (Below.refl base W).grown hg hbase (fun k hk => own_base hown k hk), hg, hat'⟩
theorem info36 : (Try.prog.info? 36).map (fun i => (i.zero, i.size, i.bytes)) = some (some (.agg #[.int .i64 0, .int .u8 0, .int .u8 0, .slice none 0 0, .bool false, .bool false]), 6, 48) := by kernel_rfl
theorem info5 : (Try.prog.info? 5).map (fun i => (i.zero, i.size, i.bytes)) = some (some (.int .u8 0), 1, 1) := by kernel_rfl
/-- How far a reader is. -/
structure Rd where
  st : Int
  vb : Int
  op : Int
  data : List Int
  sub : List Int
  long : Bool
  out : List S36
abbrev kB : Kd Int := Kd.int .u8
/-- Only what O names has turned, and what is new. -/
structure Fr (O : Nat → Prop) (w w' : World) : Prop where
  os : w'.os = w.os
  tape : w'.tape = w.tape
  output : w'.output = w.output
  size : w.heap.size ≤ w'.heap.size
  block : ∀ k, k < w.heap.size → ¬ O k → w'.heap[k]? = w.heap[k]?
def grow (O : Nat → Prop) (w w' : World) : Nat → Prop := fun k => O k ∨ (w.heap.size ≤ k ∧ k < w'.heap.size)
theorem Fr.refl (O : Nat → Prop) (w : World) : Fr O w w := ⟨rfl, rfl, rfl, Nat.le_refl _, fun _ _ _ => rfl⟩
theorem Fr.trans {O : Nat → Prop} {w w1 w2 : World} (h : Fr O w w1) (k : Fr (grow O w w1) w1 w2) : Fr O w w2 :=
  ⟨k.os.trans h.os, k.tape.trans h.tape, k.output.trans h.output, Nat.le_trans h.size k.size, fun j hj hn => (k.block j (Nat.lt_of_lt_of_le hj h.size) (fun hg => hg.elim hn (fun hg => by omega))).trans (h.block j hj hn)⟩
theorem Fr.of_below {O : Nat → Prop} {w w1 : World} (h : Below w.heap.size w w1) : Fr O w w1 := ⟨h.os, h.tape, h.output, h.size, fun k hk _ => h.block k hk⟩
theorem Fr.of_grown {O : Nat → Prop} {w w1 : World} {row : Option Nat} (h : w.grownBy w1 row) (hr : ∀ k, row = some k → O k) : Fr O w w1 := ⟨h.os, h.tape, h.output, h.size, fun k hk hn => h.block k hk (fun e => hn (hr k e.symm))⟩
theorem Fr.of_set {O : Nat → Prop} (w : World) (g j : Nat) (u : Value) (hg : O g) : Fr O w (w.setCell ⟨g, j, none⟩ u) :=
  ⟨rfl, rfl, rfl, by rw [World.size_setCell]; exact Nat.le_refl _, fun k _ hn => Below.heap_setCell w _ u k (fun e => hn (by rw [e]; exact hg))⟩
theorem Fr.mono {O O' : Nat → Prop} {w w1 : World} (h : Fr O w w1) (hO : ∀ k, O k → O' k) : Fr O' w w1 := ⟨h.os, h.tape, h.output, h.size, fun k hk hn => h.block k hk (fun e => hn (hO k e))⟩
theorem grow_lt {O : Nat → Prop} {w w' : World} (h : ∀ k, O k → k < w.heap.size) (hs : w.heap.size ≤ w'.heap.size) : ∀ k, grow O w w' k → k < w'.heap.size := by
  intro k hk
  rcases hk with hk | hk
  · have := h k hk; omega
  · exact hk.2
theorem grow_sz {O : Nat → Prop} {w w' w'' : World} (hs : w'.heap.size ≤ w''.heap.size) {k : Nat} (h : grow O w w' k) : grow O w w'' k := by
  rcases h with h | h
  · exact .inl h
  · exact .inr ⟨h.1, by omega⟩
theorem grow_grow {O : Nat → Prop} {w w1 w2 : World} (h1 : w.heap.size ≤ w1.heap.size) (h2 : w1.heap.size ≤ w2.heap.size) {k : Nat} (h : grow (grow O w w1) w1 w2 k) : grow O w w2 k := by
  rcases h with (h | h) | h
  · exact .inl h
  · exact .inr ⟨h.1, by omega⟩
  · exact .inr ⟨by omega, h.2⟩
theorem Fr.to {O : Nat → Prop} {B : Nat} {w w1 : World} (h : Fr O w w1) (hB : B ≤ w.heap.size) (hO : ∀ k, O k → B ≤ k) : Below B w w1 := ⟨h.os, h.tape, h.output, h.size, fun k hk => h.block k (by omega) (fun e => by have := hO k e; omega)⟩
/-- A reader's block: v4 is what holds its sub; ok: which blocks the events' data may lie in; O: the blocks that it may turn. -/
structure RdV (w : World) (B g : Nat) (r : Rd) (v3 v4 v6 : Value) (ok O : Nat → Prop) : Prop where
  blk : w.heap[g]? = some (.cells #[.int .i64 r.st, .int .u8 r.vb, .int .u8 r.op, v3, v4, .bool r.long, v6] 53 (0, 0))
  r3 : Kd.R kB 5 w B (fun _ => True) v3 r.data
  r4 : Kd.R kB 5 w B (fun _ => True) v4 r.sub
  r6 : Kd.R k36 36 w B ok v6 r.out
  n34 : ∀ k, v3.ownBlock = some k → some k ≠ v4.ownBlock
  gB : B ≤ g
  fresh : ∀ k, w.heap.size ≤ k → ok k
  og : O g
  o3 : ∀ k, v3.ownBlock = some k → O k
  o4 : ∀ k, v4.ownBlock = some k → O k
  o6 : ∀ k, v6.ownBlock = some k → O k
  olt : ∀ k, O k → k < w.heap.size
theorem k36_E : k36.E = [5] := rfl
theorem kB_E : kB.E = [] := rfl
theorem R36_set {w : World} {B g : Nat} {ok : Nat → Prop} {v : Value} {xs : List S36} (h : Kd.R k36 36 w B ok v xs) {cs : Array Value} (hb : w.heap[g]? = some (.cells cs 53 (0, 0))) (j : Nat) (u : Value) : Kd.R k36 36 (w.setCell ⟨g, j, none⟩ u) B ok v xs :=
  Kd.R_set h hb (by intro q hq; rw [k36_E] at hq; simp at hq; rcases hq with rfl | rfl <;> decide) j u
theorem R5_set {w : World} {B g : Nat} {ok : Nat → Prop} {v : Value} {xs : List Int} (h : Kd.R kB 5 w B ok v xs) {cs : Array Value} (hb : w.heap[g]? = some (.cells cs 53 (0, 0))) (j : Nat) (u : Value) : Kd.R kB 5 (w.setCell ⟨g, j, none⟩ u) B ok v xs :=
  Kd.R_set h hb (by intro q hq; rw [kB_E] at hq; simp at hq; subst hq; decide) j u
theorem R5_ne36 {w : World} {B B' : Nat} {ok ok' : Nat → Prop} {v u : Value} {xs : List Int} {ys : List S36} (h : Kd.R kB 5 w B ok v xs) (h' : Kd.R k36 36 w B' ok' u ys) : ∀ k, v.ownBlock = some k → some k ≠ u.ownBlock := by
  intro k hk he
  obtain ⟨c1, e1⟩ := Kd.R_typed h k hk
  obtain ⟨c2, e2⟩ := Kd.R_typed h' k he.symm
  rw [e1] at e2
  injection e2 with e2
  injection e2 with _ e2
  exact absurd e2 (by decide)
theorem R_ne53 {α : Type} {d : Kd α} {e : Nat} {w : World} {B g : Nat} {ok : Nat → Prop} {v : Value} {xs : List α} (h : Kd.R d e w B ok v xs) {cs : Array Value} (hb : w.heap[g]? = some (.cells cs 53 (0, 0))) (he : e ≠ 53) : some g ≠ v.ownBlock := Kd.R_ne h hb he
theorem RdV.loose {w : World} {B g : Nat} {r : Rd} {v3 v4 v6 : Value} {ok ok' O : Nat → Prop} (h : RdV w B g r v3 v4 v6 ok O) (hk : ∀ k, ok k → ok' k) : RdV w B g r v3 v4 v6 ok' O :=
  { h with r6 := Kd.R_mono h.r6 hk, fresh := fun k hf => hk k (h.fresh k hf) }
def RdQ (w : World) (B g : Nat) (r : Rd) (v4 : Value) (ok O : Nat → Prop) : Prop := ∃ v3 v6, RdV w B g r v3 v4 v6 (fun k => ok k ∧ some k ≠ v3.ownBlock) O ∧ ∀ k, v3.ownBlock = some k → ok k
def RdIs (w : World) (B g : Nat) (r : Rd) (O : Nat → Prop) : Prop := ∃ v4, RdQ w B g r v4 (fun k => some k ≠ v4.ownBlock) O
theorem RdV.below {w w' : World} {B g : Nat} {r : Rd} {v3 v4 v6 : Value} {ok O : Nat → Prop} (h : RdV w B g r v3 v4 v6 ok O) (hb : Below w.heap.size w w') : RdV w' B g r v3 v4 v6 ok O :=
  { h with blk := blk_below h.blk hb, r3 := Kd.R_below h.r3 hb, r4 := Kd.R_below h.r4 hb, r6 := Kd.R_below h.r6 hb, fresh := fun k hk => h.fresh k (Nat.le_trans hb.size hk), olt := fun k hk => Nat.lt_of_lt_of_le (h.olt k hk) hb.size }
theorem RdV.wide {w : World} {B g : Nat} {r : Rd} {v3 v4 v6 : Value} {ok O O' : Nat → Prop} (h : RdV w B g r v3 v4 v6 ok O) (hO : ∀ k, O k → O' k) (hl : ∀ k, O' k → k < w.heap.size) : RdV w B g r v3 v4 v6 ok O' :=
  { h with olt := hl, og := hO _ h.og, o3 := fun k hk => hO k (h.o3 k hk), o4 := fun k hk => hO k (h.o4 k hk), o6 := fun k hk => hO k (h.o6 k hk) }
theorem RdV.lt {w : World} {B g : Nat} {r : Rd} {v3 v4 v6 : Value} {ok O : Nat → Prop} (h : RdV w B g r v3 v4 v6 ok O) : g < w.heap.size := blk_lt h.blk
theorem RdQ.below {w w' : World} {B g : Nat} {r : Rd} {v4 : Value} {ok O : Nat → Prop} (h : RdQ w B g r v4 ok O) (hb : Below w.heap.size w w') : RdQ w' B g r v4 ok O := by
  obtain ⟨v3, v6, h, h3⟩ := h; exact ⟨v3, v6, h.below hb, h3⟩
theorem RdQ.wide {w : World} {B g : Nat} {r : Rd} {v4 : Value} {ok O O' : Nat → Prop} (h : RdQ w B g r v4 ok O) (hO : ∀ k, O k → O' k) (hl : ∀ k, O' k → k < w.heap.size) : RdQ w B g r v4 ok O' := by
  obtain ⟨v3, v6, h, h3⟩ := h; exact ⟨v3, v6, h.wide hO hl, h3⟩
theorem RdIs.below {w w' : World} {B g : Nat} {r : Rd} {O : Nat → Prop} (h : RdIs w B g r O) (hb : Below w.heap.size w w') : RdIs w' B g r O := by
  obtain ⟨v4, h⟩ := h; exact ⟨v4, h.below hb⟩
theorem RdIs.wide {w : World} {B g : Nat} {r : Rd} {O O' : Nat → Prop} (h : RdIs w B g r O) (hO : ∀ k, O k → O' k) (hl : ∀ k, O' k → k < w.heap.size) : RdIs w B g r O' := by
  obtain ⟨v4, h⟩ := h; exact ⟨v4, h.wide hO hl⟩
/-- A number of the reader is written. -/
theorem RdV.put {w : World} {B g : Nat} {r r' : Rd} {v3 v4 v6 : Value} {ok O : Nat → Prop} (h : RdV w B g r v3 v4 v6 ok O) (j : Nat) (u : Value)
    (he : (#[.int .i64 r.st, .int .u8 r.vb, .int .u8 r.op, v3, v4, .bool r.long, v6] : Array Value).setIfInBounds j u = #[.int .i64 r'.st, .int .u8 r'.vb, .int .u8 r'.op, v3, v4, .bool r'.long, v6]) (hd : r'.data = r.data) (hs : r'.sub = r.sub) (ho : r'.out = r.out) :
    RdV (w.setCell ⟨g, j, none⟩ u) B g r' v3 v4 v6 ok O :=
  { h with blk := blk_put h.blk j u he, r3 := by rw [hd]; exact R5_set h.r3 h.blk j u, r4 := by rw [hs]; exact R5_set h.r4 h.blk j u, r6 := by rw [ho]; exact R36_set h.r6 h.blk j u, fresh := fun k hk => h.fresh k (by rw [World.size_setCell] at hk; exact hk), olt := fun k hk => by rw [World.size_setCell]; exact h.olt k hk }
theorem R36_ne5 {w : World} {B B' : Nat} {ok ok' : Nat → Prop} {v u : Value} {xs : List Int} {ys : List S36} (h : Kd.R kB 5 w B ok v xs) (h' : Kd.R k36 36 w B' ok' u ys) : ∀ k, u.ownBlock = some k → some k ≠ v.ownBlock := by
  intro k hk he
  exact R5_ne36 h h' k he.symm hk.symm
/-- An event behind the others: the append, and what the reader is when it is stored. -/
theorem RdV.more {w : World} {B g : Nat} {r : Rd} {v3 v4 v6 : Value} {ok O okp : Nat → Prop} (h : RdV w B g r v3 v4 v6 ok O) (e : S36) (cs : List Value) (hp : Kd.M k36 w.drew B okp e cs) (hokp : ∀ k, okp k → ok k ∧ some k ≠ v6.ownBlock) (hl : r.out.length ≤ 1000000) :
    ∃ A7 n7 c7 w4, (Builtin.append_ #[31, 31] 31 #[v6, .slice (some ⟨w.heap.size, 0, none⟩) 1 1]).run Try.prog (w.drew.alloc (.cells cs.toArray 36)) = .ok (.slice A7 n7 c7) w4 ∧
      w4.heap[g]? = some (.cells #[.int .i64 r.st, .int .u8 r.vb, .int .u8 r.op, v3, v4, .bool r.long, v6] 53 (0, 0)) ∧
      RdV (w4.setCell ⟨g, 6, none⟩ (.slice A7 n7 c7)) B g { r with out := r.out ++ [e] } v3 v4 (.slice A7 n7 c7) ok (grow O w (w4.setCell ⟨g, 6, none⟩ (.slice A7 n7 c7))) ∧ w.grownBy w4 v6.ownBlock ∧ Fr O w (w4.setCell ⟨g, 6, none⟩ (.slice A7 n7 c7)) := by
  have hbw : B ≤ w.drew.heap.size := by have := h.lt; have := h.gB; have e : w.drew.heap.size = w.heap.size := rfl; omega
  have hwd : w.drew.heap.size = w.heap.size := rfl
  obtain ⟨v7, w4, hrun, hR7, hB7, hg7, hat⟩ := R_run k36 (W := w.drew) (p := e) (cs := cs) B 31 36 _ 48 Try.underlying31 info36 rfl (by decide) (by decide) (ok := ok) hp hokp
    (fun k hk => h.fresh k hk) (Kd.R_drew h.r6) hbw (by omega)
  obtain ⟨A7, n7, c7, rfl⟩ : ∃ A n c, v7 = .slice A n c := by obtain ⟨A, c, e⟩ := Kd.R_slice hR7; exact ⟨A, _, c, e⟩
  have X4 := blk_grown (blk_drew h.blk) hg7 (R_ne53 h.r6 h.blk (by decide))
  have h3 := Kd.R_grown2 (Kd.R_drew h.r3) kB_E hg7 (R36_ne5 h.r3 h.r6)
  have h4 := Kd.R_grown2 (Kd.R_drew h.r4) kB_E hg7 (R36_ne5 h.r4 h.r6)
  have hz : w.heap.size ≤ w4.heap.size := hg7.size
  have F4 : Fr O w w4 := ⟨hg7.os, hg7.tape, hg7.output, hg7.size, fun k hk hn => hg7.block k hk (fun e => hn (h.o6 k e.symm))⟩
  refine ⟨A7, n7, c7, w4, hrun, X4, ⟨blk_put X4 6 _ rfl, R5_set h3 X4 _ _, R5_set h4 X4 _ _, R36_set hR7 X4 _ _, h.n34, h.gB, fun k hk => h.fresh k (by rw [World.size_setCell] at hk; omega), .inl h.og, fun k hk => .inl (h.o3 k hk), fun k hk => .inl (h.o4 k hk), fun k hk => ?_, fun k hk => ?_⟩, ⟨hg7.os, hg7.tape, hg7.output, hg7.size, fun i hi hr => hg7.block i hi hr⟩, F4.trans (Fr.of_set _ _ _ _ (.inl h.og))⟩
  · rcases hat with hat | ⟨b, hb, hle⟩
    · exact .inl (h.o6 k (by rw [← hat]; exact hk))
    have hlt := Kd.R_lt hR7 k hk
    rw [hb] at hk; injection hk with hk; exact .inr ⟨by omega, by rw [World.size_setCell]; exact hlt⟩
  · rw [World.size_setCell]
    rcases hk with hk | hk
    · have := h.olt k hk; omega
    · have := hk.2; rw [World.size_setCell] at this; exact this
def ev (r : List Int) : S36 := ⟨0, 0, 0, r, false, false⟩
def flushF (r : Rd) : Rd := { r with out := if r.data = [] then r.out else r.out ++ [ev r.data], data := [] }
theorem flush_end {w' : World} {B g : Nat} {r : Rd} {v3 v4 v6 : Value} {ok O : Nat → Prop} (h : RdV w' B g r v3 v4 v6 ok O) : RdQ (w'.setCell ⟨g, 3, none⟩ (.slice none 0 0)) B g { r with data := [] } v4 ok O :=
  ⟨.slice none 0 0, v6, { h with blk := blk_put h.blk 3 _ rfl, r3 := Kd.R_nil _ _ _ _ _, r4 := R5_set h.r4 h.blk _ _, r6 := Kd.R_mono (R36_set h.r6 h.blk _ _) (fun k hk => ⟨hk, by simp [Value.ownBlock]⟩), n34 := fun k hk => by simp [Value.ownBlock] at hk, olt := fun k hk => by rw [World.size_setCell]; exact h.olt k hk, fresh := fun k hk => ⟨h.fresh k (by rw [World.size_setCell] at hk; exact hk), by simp [Value.ownBlock]⟩, o3 := fun k hk => by simp [Value.ownBlock] at hk }, fun k hk => by simp [Value.ownBlock] at hk⟩
set_option maxHeartbeats 8000000 in
theorem flush_of (B g : Nat) (r : Rd) (v4 : Value) (ok O : Nat → Prop) (w : World) (h : RdQ w B g r v4 ok O) (hl : r.out.length ≤ 100000) (hd : r.data.length ≤ 100000) :
    Calls Try.prog 23 #[.pointer (some ⟨g, 0, none⟩)] w fun e w' => e = .returned (.tuple #[]) ∧ RdQ w' B g (flushF r) v4 ok (grow O w w') ∧ Fr O w w' := by
  obtain ⟨v3, v6, h, hk3⟩ := h
  obtain ⟨A3, c3, rfl⟩ := Kd.R_slice h.r3
  have a3 := blk_cell h.blk 3
  have a6 := blk_cell h.blk 6
  have f3 := blk_frozen h.blk 3
  have h := h.loose (fun k hk => hk.1)
  by_cases c : r.data = []
  · have hl0 : (r.data.length : Int) = 0 := by rw [c]; rfl
    have h0 : decide ((r.data.length : Int) > 0) = false := decide_eq_false (by omega)
    have h1 : decide (0 < r.data.length) = false := decide_eq_false (by omega)
    have hfl : flushF r = { r with data := [] } := by unfold flushF; rw [if_pos c]
    have HV := Aside0.mk h
    have HF := Aside0.mk hfl
    clear h hl0 c hfl hk3
    go_enter Try.func23, Try.ntmps23
    go_wp2
    go_end0
    exact ⟨rfl, by rw [HF.out]; exact (flush_end HV.out).wide (fun k hk => .inl hk) (grow_lt HV.out.olt (by rw [World.size_setCell]; exact Nat.le_refl _)), Fr.of_set _ _ _ _ HV.out.og⟩
  · have hp := List.length_pos_iff.2 c
    have h0 : decide ((r.data.length : Int) > 0) = true := decide_eq_true (by omega)
    have h1 : decide (0 < r.data.length) = true := decide_eq_true hp
    have hfl : flushF r = { r with out := r.out ++ [ev r.data], data := [] } := by unfold flushF; rw [if_neg c]
    have HF := Aside0.mk hfl
    obtain ⟨A7, n7, c7, w4, hrun, X4, h4, _, F4⟩ := h.more (okp := fun k => (Value.slice A3 r.data.length c3).ownBlock = some k) (ev r.data) [.int .i64 0, .int .u8 0, .int .u8 0, .slice A3 r.data.length c3, .bool false, .bool false] (k36_mkM _ _ _ (ev r.data) (Kd.R_mono (Kd.R_tight kB_E (Kd.R_drew h.r3)) (fun k hk => hk.symm)))
      (fun k hk => ⟨hk3 k hk, R5_ne36 h.r3 h.r6 k hk⟩) (by omega)
    have p6 := (blk_cell X4 6).trans rfl
    have p3 := (blk_cell X4 3).trans rfl
    have f6 : w4.frozen? ⟨g, 6, none⟩ = false := blk_frozen X4 6
    have q3 : (w4.setCell ⟨g, 6, none⟩ (.slice A7 n7 c7)).frozen? ⟨g, 3, none⟩ = false := blk_frozen h4.blk 3
    have q3' : (w4.setCell ⟨g, 6, none⟩ (.slice A7 n7 c7)).cell? ⟨g, 3, none⟩ = some (.slice A3 r.data.length c3) := blk_cell h4.blk 3
    have H4 := Aside0.mk h4
    have HF4 := Aside0.mk F4
    have HOL := Aside0.mk h.olt
    clear h hk3 X4 h4 F4 hfl hp c
    go_enter Try.func23, Try.ntmps23
    go_wp2
    refine start_ (n := 15) (S := fun w' => w'.cell? ⟨g, 6, none⟩ = some v6 ∧ w'.cell? ⟨g, 3, none⟩ = some (.slice A3 r.data.length c3)) (ds := [14]) #[false, false, false, false, false, false, false, false, false, false, false, false, false, false, false] (by kernel_rfl) rfl rfl ⟨cell_dr1 a6, cell_dr1 a3⟩ (fun hHeld => ?_)
    refine pure_ (i := 0) (N := some 8) (v := ?_) (a' := ?_) #[true, false, false, false, false, false, false, false, false, false, false, false, false, false, false] rfl rfl (by kernel_rfl) (fun _ _ _ h => h) (Or.inl ⟨by rfl, ?_⟩) ?_ ?_
    rotate_left
    · intro w'
      go_simp
      with_reducible rfl
    rotate_left
    · simp only [Act.put, List.setIfInBounds_toArray, List.set_cons_zero, List.set_cons_succ, i64_w, i32_w]
      rfl
    refine pure_ (i := 1) (N := some 9) (v := ?_) (a' := ?_) #[true, true, false, false, false, false, false, false, false, false, false, false, false, false, false] rfl rfl (by kernel_rfl) (fun _ _ _ h => h) (Or.inl ⟨by rfl, ?_⟩) ?_ ?_
    rotate_left
    · intro w'
      go_simp
      with_reducible rfl
    rotate_left
    · simp only [Act.put, List.setIfInBounds_toArray, List.set_cons_zero, List.set_cons_succ, i64_w, i32_w]
      rfl
    refine pure_ (i := 2) (N := some 10) (v := ?_) (a' := ?_) #[true, true, true, false, false, false, false, false, false, false, false, false, false, false, false] rfl rfl (by kernel_rfl) (fun _ _ _ h => h) (Or.inl ⟨by rfl, ?_⟩) ?_ ?_
    rotate_left
    · intro w'
      go_simp
      with_reducible rfl
    rotate_left
    · simp only [Act.put, List.setIfInBounds_toArray, List.set_cons_zero, List.set_cons_succ, i64_w, i32_w]
      rfl
    refine pure_ (i := 3) (N := some 11) (v := ?_) (a' := ?_) #[true, true, true, true, false, false, false, false, false, false, false, false, false, false, false] rfl rfl (by kernel_rfl) (fun _ _ _ h => h) (Or.inl ⟨by rfl, ?_⟩) ?_ ?_
    rotate_left
    · intro w'
      go_simp
      with_reducible rfl
    rotate_left
    · simp only [Act.put, List.setIfInBounds_toArray, List.set_cons_zero, List.set_cons_succ, i64_w, i32_w]
      rfl
    refine pure_ (i := 5) (N := some 13) (v := ?_) (a' := ?_) #[true, true, true, true, false, true, false, false, false, false, false, false, false, false, false] rfl rfl (by kernel_rfl) (fun _ _ _ h => h) (Or.inl ⟨by rfl, ?_⟩) ?_ ?_
    rotate_left
    · intro w'
      go_simp
      with_reducible rfl
    rotate_left
    · simp only [Act.put, List.setIfInBounds_toArray, List.set_cons_zero, List.set_cons_succ, i64_w, i32_w]
      rfl
    refine pure_ (i := 6) (N := some 14) (v := ?_) (a' := ?_) #[true, true, true, true, false, true, true, false, false, false, false, false, false, false, false] rfl rfl (by kernel_rfl) (fun _ _ _ h => h) (Or.inl ⟨by rfl, ?_⟩) ?_ ?_
    rotate_left
    · intro w'
      go_simp
      with_reducible rfl
    rotate_left
    · simp only [Act.put, List.setIfInBounds_toArray, List.set_cons_zero, List.set_cons_succ, i64_w, i32_w]
      rfl
    refine pure_ (i := 7) (N := some 15) (v := ?_) (a' := ?_) #[true, true, true, true, false, true, true, true, false, false, false, false, false, false, false] rfl rfl (by kernel_rfl) (fun _ _ _ h => h) (Or.inl ⟨by rfl, ?_⟩) ?_ ?_
    rotate_left
    · intro w'
      go_simp
      with_reducible rfl
    rotate_left
    · simp only [Act.put, List.setIfInBounds_toArray, List.set_cons_zero, List.set_cons_succ, i64_w, i32_w]
      rfl
    refine take_ (i := 4) (N := some 12) (v := ?_) (a' := ?_) #[true, true, true, true, true, true, true, true, false, false, false, false, false, false, false] rfl rfl (by kernel_rfl) (fun _ _ _ h => h) (Or.inl ⟨by rfl, ?_⟩) hHeld ?_ ?_
    rotate_left
    · rintro w' ⟨s0, s1⟩
      go_simp
      with_reducible rfl
    rotate_left
    · simp only [Act.put, List.setIfInBounds_toArray, List.set_cons_zero, List.set_cons_succ, i64_w, i32_w]
      rfl
    refine take_ (i := 8) (N := some 16) (v := ?_) (a' := ?_) #[true, true, true, true, true, true, true, true, true, false, false, false, false, false, false] rfl rfl (by kernel_rfl) (fun _ _ _ h => h) (Or.inl ⟨by rfl, ?_⟩) hHeld ?_ ?_
    rotate_left
    · rintro w' ⟨s0, s1⟩
      go_simp
      with_reducible rfl
    rotate_left
    · simp only [Act.put, List.setIfInBounds_toArray, List.set_cons_zero, List.set_cons_succ, i64_w, i32_w]
      rfl
    refine pure_ (i := 9) (N := some 17) (v := ?_) (a' := ?_) #[true, true, true, true, true, true, true, true, true, true, false, false, false, false, false] rfl rfl (by kernel_rfl) (fun _ _ _ h => h) (Or.inl ⟨by rfl, ?_⟩) ?_ ?_
    rotate_left
    · intro w'
      go_simp
      with_reducible rfl
    rotate_left
    · simp only [Act.put, List.setIfInBounds_toArray, List.set_cons_zero, List.set_cons_succ, i64_w, i32_w]
      rfl
    refine one_ (i := 10) (N := some 18) #[true, true, true, true, true, true, true, true, true, true, true, false, false, false, false] rfl rfl (by kernel_rfl) (by decide) (fun K hK => ?_)
    refine value_ (w1 := ?_) (v := ?_) (by rfl) rfl ?_ ?_
    rotate_left 2
    · go_simp
      constructor
      · rfl
      · rfl
    refine hK.out _ _ ⟨cell_al _ hHeld.1, cell_al _ hHeld.2⟩ (fun hHeld => ?_)
    clear hK K
    refine norm_ (a' := ?_) ?_ ?_
    rotate_left
    · show Act.put _ (some 18) _ = _
      simp only [Act.put, List.setIfInBounds_toArray, List.set_cons_zero, List.set_cons_succ, i64_w, i32_w]
      rfl
    refine one_ (i := 11) (N := some 19) #[true, true, true, true, true, true, true, true, true, true, true, true, false, false, false] rfl rfl (by kernel_rfl) (by decide) (fun K hK => ?_)
    refine value_ (w1 := w4) (v := .slice A7 n7 c7) (by rfl) rfl ?_ ?_
    · exact exec_append' (.tmp 12) (.tmp 18) 31 hrun (by rfl) (by rfl) (by rfl) (by rfl)
    refine hK.out _ _ ⟨p6, p3⟩ (fun hHeld => ?_)
    clear hK K
    refine norm_ (a' := ?_) ?_ ?_
    rotate_left
    · show Act.put _ (some 19) _ = _
      simp only [Act.put, List.setIfInBounds_toArray, List.set_cons_zero, List.set_cons_succ, i64_w, i32_w]
      rfl
    refine pure_ (i := 12) (N := some 20) (v := ?_) (a' := ?_) #[true, true, true, true, true, true, true, true, true, true, true, true, true, false, false] rfl rfl (by kernel_rfl) (fun _ _ _ h => h) (Or.inl ⟨by rfl, ?_⟩) ?_ ?_
    rotate_left
    · intro w'
      go_simp
      with_reducible rfl
    rotate_left
    · simp only [Act.put, List.setIfInBounds_toArray, List.set_cons_zero, List.set_cons_succ, i64_w, i32_w]
      rfl
    refine pure_ (i := 13) (N := some 21) (v := ?_) (a' := ?_) #[true, true, true, true, true, true, true, true, true, true, true, true, true, true, false] rfl rfl (by kernel_rfl) (fun _ _ _ h => h) (Or.inl ⟨by rfl, ?_⟩) ?_ ?_
    rotate_left
    · intro w'
      go_simp
      with_reducible rfl
    rotate_left
    · simp only [Act.put, List.setIfInBounds_toArray, List.set_cons_zero, List.set_cons_succ, i64_w, i32_w]
      rfl
    refine last_ (i := 14) (N := none) #[true, true, true, true, true, true, true, true, true, true, true, true, true, true, true] rfl rfl (by kernel_rfl) (by decide) (fun K hK => ?_)
    refine skip_ (w1 := ?_) (by rfl) rfl ?_ ?_
    rotate_left
    · go_simp
      rfl
    refine hK.out _ _ ?_
    clear hK K
    refine done_ (by kernel_rfl) ?_
    go_wp2
    go_end0
    exact ⟨rfl, by rw [HF.out]; exact (flush_end H4.out).wide (fun k hk => grow_sz (by rw [World.size_setCell (w4.setCell _ _)]; exact Nat.le_refl _) hk) (grow_lt HOL.out (by have := HF4.out.size; rw [World.size_setCell]; exact this)), HF4.out.trans (Fr.of_set _ _ _ _ H4.out.og)⟩
end Go.Proofs.Ytddfgfgjkamccaa.Tn
