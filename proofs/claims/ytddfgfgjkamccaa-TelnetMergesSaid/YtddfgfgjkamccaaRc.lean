/- telnet: the reader: keep, end, command, take. -/
import Derived.Test.YtddfgfgjkamccaaRb
namespace Go.Proofs.Ytddfgfgjkamccaa.Tn
open Go Go.RowKit Go.Proofs.YtddfgfgjkamccaaW.PrintWords Go.Proofs.YtddfgfgjkamccaaW.PrintLast Go.Proofs.YtddfgfgjkamccaaW.PrintMore Go.Proofs.Ytddfgfgjkamccaa.PTe
set_option linter.unusedVariables false
set_option linter.unusedSimpArgs false
/-- A step of the reader: it is r' then, and only its own has turned. -/
def Tk (B g : Nat) (O : Nat → Prop) (r' : Rd) (w w' : World) : Prop := RdIs w' B g r' (grow O w w') ∧ Fr O w w'
theorem Tk.trans {B g : Nat} {O : Nat → Prop} {r1 r2 : Rd} {w w1 w2 : World} (h : Tk B g O r1 w w1) (k : Tk B g (grow O w w1) r2 w1 w2) (hl : ∀ k, O k → k < w.heap.size) : Tk B g O r2 w w2 :=
  ⟨k.1.wide (fun j hj => grow_grow h.2.size k.2.size hj) (grow_lt hl (Nat.le_trans h.2.size k.2.size)), h.2.trans k.2⟩
theorem RdIs.olt {w : World} {B g : Nat} {r : Rd} {O : Nat → Prop} (h : RdIs w B g r O) : ∀ k, O k → k < w.heap.size := by
  obtain ⟨v4, h⟩ := h; exact h.olt
theorem RdIs.og {w : World} {B g : Nat} {r : Rd} {O : Nat → Prop} (h : RdIs w B g r O) : O g := by
  obtain ⟨v4, h⟩ := h; exact h.og
theorem RdIs.gB {w : World} {B g : Nat} {r : Rd} {O : Nat → Prop} (h : RdIs w B g r O) : B ≤ g := by
  obtain ⟨v4, v3, v6, h, _⟩ := h; exact h.gB
theorem Tk.of_set {B g : Nat} {O : Nat → Prop} {r r' : Rd} {w : World} (h : RdIs w B g r O) (j : Nat) (u : Value) (he : ∀ v3 v4 v6 : Value, (#[.int .i64 r.st, .int .u8 r.vb, .int .u8 r.op, v3, v4, .bool r.long, v6] : Array Value).setIfInBounds j u = #[.int .i64 r'.st, .int .u8 r'.vb, .int .u8 r'.op, v3, v4, .bool r'.long, v6]) (hd : r'.data = r.data) (hs : r'.sub = r.sub) (ho : r'.out = r.out) :
    Tk B g O r' w (w.setCell ⟨g, j, none⟩ u) := by
  obtain ⟨v4, v3, v6, h, h3⟩ := h
  exact ⟨⟨v4, v3, v6, (h.put j u (he v3 v4 v6) hd hs ho).wide (fun k hk => .inl hk) (grow_lt h.olt (by rw [World.size_setCell]; exact Nat.le_refl _)), h3⟩, Fr.of_set _ _ _ _ h.og⟩
theorem Tk.cells {B g : Nat} {O : Nat → Prop} {r : Rd} {w : World} (h : RdIs w B g r O) : w.cell? ⟨g, 0, none⟩ = some (.int .i64 r.st) ∧ w.cell? ⟨g, 1, none⟩ = some (.int .u8 r.vb) ∧ w.cell? ⟨g, 2, none⟩ = some (.int .u8 r.op) ∧ w.cell? ⟨g, 5, none⟩ = some (.bool r.long) ∧ (∀ j, w.frozen? ⟨g, j, none⟩ = false) := by
  obtain ⟨v4, v3, v6, h, h3⟩ := h
  exact ⟨blk_cell h.blk 0, blk_cell h.blk 1, blk_cell h.blk 2, blk_cell h.blk 5, fun j => blk_frozen h.blk j⟩
theorem hat_ne {W : World} {v v1 : Value} {k : Nat} (hat : v1.ownBlock = v.ownBlock ∨ ∃ b, v1.ownBlock = some b ∧ W.heap.size ≤ b) (hk : k < W.heap.size) (hne : some k ≠ v.ownBlock) : some k ≠ v1.ownBlock := by
  rcases hat with hat | ⟨b, hb, hle⟩
  · rw [hat]; exact hne
  · rw [hb]; intro e; injection e with e; omega
/-- A byte behind the data. -/
theorem RdIs.appData {w : World} {B g : Nat} {r : Rd} {O : Nat → Prop} (h : RdIs w B g r O) (b : Int) (hl : r.data.length ≤ 1000000) :
    ∃ v3 A7 n7 c7 w4, w.cell? ⟨g, 3, none⟩ = some v3 ∧ (Builtin.append_ #[22, 22] 22 #[v3, .slice (some ⟨w.heap.size, 0, none⟩) 1 1]).run Try.prog (w.alloc (.cells #[.int .u8 b] 5)) = .ok (.slice A7 n7 c7) w4 ∧
      w4.cell? ⟨g, 3, none⟩ = some v3 ∧ w4.frozen? ⟨g, 3, none⟩ = false ∧ Tk B g O { r with data := r.data ++ [b] } w (w4.setCell ⟨g, 3, none⟩ (.slice A7 n7 c7)) := by
  obtain ⟨v4, v3, v6, h, h3⟩ := h
  have hbw : B ≤ w.heap.size := by have := h.lt; have := h.gB; omega
  obtain ⟨v7, w4, hrun, hR7, hB7, hg7, hat⟩ := R_run kB (W := w) (p := b) (cs := [.int .u8 b]) B 22 5 _ 1 Try.underlying22 info5 rfl (by decide) (by decide) (ok := fun _ => True) (okp := fun _ => False) (show Kd.M kB w B _ b [.int .u8 b] from rfl) (fun _ hk => hk.elim) (fun _ _ => trivial) h.r3 hbw (by omega)
  obtain ⟨A7, n7, c7, rfl⟩ : ∃ A n c, v7 = .slice A n c := by obtain ⟨A, c, e⟩ := Kd.R_slice hR7; exact ⟨A, _, c, e⟩
  have X4 := blk_grown h.blk hg7 (R_ne53 h.r3 h.blk (by decide))
  have h4 := Kd.R_grown2 h.r4 kB_E hg7 (fun k hk => h.n34 k hk)
  have h6 := Kd.R_after h.r6 hg7 hat
  have F4 : Fr O w w4 := Fr.of_grown hg7 (fun k hk => h.o3 k hk)
  have F5 := F4.trans (Fr.of_set w4 g 3 (.slice A7 n7 c7) (.inl h.og))
  have hnew : ∀ k, (Value.slice A7 n7 c7).ownBlock = some k → grow O w (w4.setCell ⟨g, 3, none⟩ (.slice A7 n7 c7)) k := by
    intro k hk
    have hlt := Kd.R_lt hR7 k hk
    rcases hat with hat | ⟨b, hb, hle⟩
    · exact .inl (h.o3 k (by rw [← hat]; exact hk))
    · rw [hb] at hk; injection hk with hk; exact .inr ⟨by omega, by rw [World.size_setCell]; exact hlt⟩
  have hn4 : ∀ k, (Value.slice A7 n7 c7).ownBlock = some k → some k ≠ v4.ownBlock := by
    intro k hk e4
    rcases hat with hat | ⟨b, hb, hle⟩
    · exact h.n34 k (by rw [← hat]; exact hk) e4
    · rw [hb] at hk; injection hk with hk; have := Kd.R_lt h.r4 k e4.symm; omega
  exact ⟨v3, A7, n7, c7, w4, blk_cell h.blk 3, hrun, blk_cell X4 3, blk_frozen X4 3, ⟨v4, _, v6, ⟨blk_put X4 3 _ rfl, R5_set hR7 X4 _ _, R5_set h4 X4 _ _, R36_set h6 X4 _ _, hn4, h.gB, fun k hk => ⟨fun e4 => by
      have := Kd.R_lt h.r4 k e4.symm; rw [World.size_setCell] at hk; have := hg7.size; omega, fun e4 => by
      have := Kd.R_lt hR7 k e4.symm; rw [World.size_setCell] at hk; omega⟩, .inl h.og, hnew, fun k hk => .inl (h.o4 k hk), fun k hk => .inl (h.o6 k hk), grow_lt h.olt F5.size⟩, hn4⟩, F5⟩
/-- A byte behind the sub. -/
theorem RdIs.appSub {w : World} {B g : Nat} {r : Rd} {O : Nat → Prop} (h : RdIs w B g r O) (b : Int) (hl : r.sub.length ≤ 1000000) :
    ∃ A4 c4 A7 n7 c7 w4, w.cell? ⟨g, 4, none⟩ = some (.slice A4 r.sub.length c4) ∧ (Builtin.append_ #[22, 22] 22 #[.slice A4 r.sub.length c4, .slice (some ⟨w.heap.size, 0, none⟩) 1 1]).run Try.prog (w.alloc (.cells #[.int .u8 b] 5)) = .ok (.slice A7 n7 c7) w4 ∧
      w4.cell? ⟨g, 4, none⟩ = some (.slice A4 r.sub.length c4) ∧ w4.frozen? ⟨g, 4, none⟩ = false ∧ Tk B g O { r with sub := r.sub ++ [b] } w (w4.setCell ⟨g, 4, none⟩ (.slice A7 n7 c7)) := by
  obtain ⟨v4, v3, v6, h, h3⟩ := h
  obtain ⟨A4, c4, rfl⟩ := Kd.R_slice h.r4
  have hbw : B ≤ w.heap.size := by have := h.lt; have := h.gB; omega
  obtain ⟨v7, w4, hrun, hR7, hB7, hg7, hat⟩ := R_run kB (W := w) (p := b) (cs := [.int .u8 b]) B 22 5 _ 1 Try.underlying22 info5 rfl (by decide) (by decide) (ok := fun _ => True) (okp := fun _ => False) (show Kd.M kB w B _ b [.int .u8 b] from rfl) (fun _ hk => hk.elim) (fun _ _ => trivial) h.r4 hbw (by omega)
  obtain ⟨A7, n7, c7, rfl⟩ : ∃ A n c, v7 = .slice A n c := by obtain ⟨A, c, e⟩ := Kd.R_slice hR7; exact ⟨A, _, c, e⟩
  have X4 := blk_grown h.blk hg7 (R_ne53 h.r4 h.blk (by decide))
  have h3' := Kd.R_grown2 h.r3 kB_E hg7 (fun k hk e3 => h.n34 k e3.symm hk.symm)
  have h6 := Kd.R_mono (Kd.R_after (ok := fun k => some k ≠ v3.ownBlock) (Kd.R_mono h.r6 (fun k hk => ⟨hk.2, hk.1⟩)) hg7 hat) (fun k hk => (⟨hk.2, hk.1⟩ : some k ≠ (Value.slice A7 n7 c7).ownBlock ∧ some k ≠ v3.ownBlock))
  have F4 : Fr O w w4 := Fr.of_grown hg7 (fun k hk => h.o4 k hk)
  have F5 := F4.trans (Fr.of_set w4 g 4 (.slice A7 n7 c7) (.inl h.og))
  have hnew : ∀ k, (Value.slice A7 n7 c7).ownBlock = some k → grow O w (w4.setCell ⟨g, 4, none⟩ (.slice A7 n7 c7)) k := by
    intro k hk
    have hlt := Kd.R_lt hR7 k hk
    rcases hat with hat | ⟨b, hb, hle⟩
    · exact .inl (h.o4 k (by rw [← hat]; exact hk))
    · rw [hb] at hk; injection hk with hk; exact .inr ⟨by omega, by rw [World.size_setCell]; exact hlt⟩
  have hn4 : ∀ k, v3.ownBlock = some k → some k ≠ (Value.slice A7 n7 c7).ownBlock := fun k hk => hat_ne hat (Kd.R_lt h.r3 k hk) (h.n34 k hk)
  exact ⟨A4, c4, A7, n7, c7, w4, blk_cell h.blk 4, hrun, blk_cell X4 4, blk_frozen X4 4, ⟨_, v3, v6, ⟨blk_put X4 4 _ rfl, R5_set h3' X4 _ _, R5_set hR7 X4 _ _, R36_set h6 X4 _ _, hn4, h.gB, fun k hk => ⟨fun e4 => by
      have := Kd.R_lt hR7 k e4.symm; rw [World.size_setCell] at hk; omega, fun e4 => by
      have := Kd.R_lt h.r3 k e4.symm; rw [World.size_setCell] at hk; have := hg7.size; omega⟩, .inl h.og, fun k hk => .inl (h.o3 k hk), hnew, fun k hk => .inl (h.o6 k hk), grow_lt h.olt F5.size⟩, hn4⟩, F5⟩
end Go.Proofs.Ytddfgfgjkamccaa.Tn
