/- order.scanner: op. -/
import Derived.Test.YtmejmlohinjpdaaSe
namespace Go.Proofs.Ytmejmlohinjpdaa.Sc
open Go.RowKit Go.Proofs.YtmejmlohinjpdaaW.PrintWords Go.Proofs.YtmejmlohinjpdaaW.PrintLast Go.Proofs.YtmejmlohinjpdaaW.PrintMore Go.Proofs.Ytmejmlohinjpdaa.POr
set_option linter.unusedVariables false
set_option linter.unusedSimpArgs false
/-- An order, or a text. -/
structure OpR where
  kind : Int
  addr : Int
  ch : Int
  graph : Bool
  fa : Int
  pairs : List S50
  text : List Int
def graphF : List Int → Bool × List Int
  | [] => (false, [])
  | b :: r => if b = 8 then (true, r) else (false, b :: r)
def sfF : List Int → Int × List Int × Int
  | [] => (0, [], 2)
  | x :: r => (x, r, 0)
/-- What op answers, what is left, and the error (there was none). -/
noncomputable def opF (p : List Int) : OpR × List Int × Int :=
  if isO (rd p 0) = false then (⟨0, 0, 0, false, 0, [], p.take (lead p)⟩, p.drop (lead p), 0)
  else if rd p 0 = 17 ∨ rd p 0 = 18 then (⟨rd p 0, (addrF (p.drop 1)).1, 0, false, 0, [], []⟩, (addrF (p.drop 1)).2)
  else if rd p 0 = 60 then (⟨60, (addrF (p.drop 1)).1, (charF (graphF (addrF (p.drop 1)).2.1).2 (addrF (p.drop 1)).2.2).1, (graphF (addrF (p.drop 1)).2.1).1, 0, [], []⟩, (charF (graphF (addrF (p.drop 1)).2.1).2 (addrF (p.drop 1)).2.2).2)
  else if rd p 0 = 29 then (⟨29, 0, 0, false, (sfF (p.drop 1)).1, [], []⟩, (sfF (p.drop 1)).2)
  else if rd p 0 = 40 then (⟨40, 0, 0, false, 0, [(pairF (p.drop 1)).1], []⟩, (pairF (p.drop 1)).2)
  else if rd p 0 = 41 ∨ rd p 0 = 44 then (⟨rd p 0, 0, 0, false, 0, (pairsF (p.drop 1)).1, []⟩, (pairsF (p.drop 1)).2)
  else if rd p 0 = 8 then (⟨8, 0, (charF (p.drop 1) 0).1, false, 0, [], []⟩, (charF (p.drop 1) 0).2)
  else (⟨rd p 0, 0, 0, false, 0, [], []⟩, p.drop 1, 0)
def OpPost (w0 w : World) (g : Nat) (r : OpR × List Int × Int) (e : Ending) (w' : World) : Prop :=
  ∃ vp vt, e = .returned (.agg #[.int .i64 r.1.kind, .int .i64 r.1.addr, .int .u8 r.1.ch, .bool r.1.graph, .int .u8 r.1.fa, vp, vt]) ∧ Kd.R k50 50 w' w.heap.size (fun _ => True) vp r.1.pairs ∧ Kd.R (Kd.int .u8) 5 w' w.heap.size (fun _ => True) vt r.1.text ∧
    SS w0 w' g r.2.1 r.2.2 ∧ Below w0.heap.size w0 w' ∧ KeepBut w w' g none
/-- The first byte that is left. -/
theorem SS.first {w0 W : World} {g : Nat} {p : List Int} {code : Int} (h : SS w0 W g p code) (hB : Below w0.heap.size w0 W) (hp : 0 < p.length) : ∃ ad c, W.cell? ⟨g, 0, none⟩ = some (.slice (some ad) p.length c) ∧ W.cell? ad = some (.int .u8 (rd p 0)) ∧ p.length ≤ c := by
  obtain ⟨A, c, hb, h1, h2, h3⟩ := h
  obtain ⟨ad, e, hc⟩ := Kd.at_int (Kd.C_below h3 hB) 0 (by omega) (by omega)
  subst e
  have h0 : (ad.add (0 : Int).toNat) = ad := by unfold Addr.add; simp
  rw [h0] at hc
  exact ⟨ad, c, blk_cell hb 0, hc, h2⟩
def st7 (W : World) (gb : Nat) (b0 b1 b2 b3 b4 b5 b6 : Value) : World :=
  ((((((W.setCell ⟨gb, 0, none⟩ b0).setCell ⟨gb, 1, none⟩ b1).setCell ⟨gb, 2, none⟩ b2).setCell ⟨gb, 3, none⟩ b3).setCell ⟨gb, 4, none⟩ b4).setCell ⟨gb, 5, none⟩ b5).setCell ⟨gb, 6, none⟩ b6
theorem st7_blk {W : World} {gb : Nat} {a0 a1 a2 a3 a4 a5 a6 : Value} (h : W.heap[gb]? = some (.cells #[a0, a1, a2, a3, a4, a5, a6] 35 (0, 0))) (b0 b1 b2 b3 b4 b5 b6 : Value) :
    (st7 W gb b0 b1 b2 b3 b4 b5 b6).heap[gb]? = some (.cells #[b0, b1, b2, b3, b4, b5, b6] 35 (0, 0)) := by
  have h0 := blk_put (cs' := #[b0, a1, a2, a3, a4, a5, a6]) h 0 b0 rfl
  have h1 := blk_put (cs' := #[b0, b1, a2, a3, a4, a5, a6]) h0 1 b1 rfl
  have h2 := blk_put (cs' := #[b0, b1, b2, a3, a4, a5, a6]) h1 2 b2 rfl
  have h3 := blk_put (cs' := #[b0, b1, b2, b3, a4, a5, a6]) h2 3 b3 rfl
  have h4 := blk_put (cs' := #[b0, b1, b2, b3, b4, a5, a6]) h3 4 b4 rfl
  have h5 := blk_put (cs' := #[b0, b1, b2, b3, b4, b5, a6]) h4 5 b5 rfl
  exact blk_put (cs' := #[b0, b1, b2, b3, b4, b5, b6]) h5 6 b6 rfl
theorem st7_keep (W : World) (gb : Nat) (b0 b1 b2 b3 b4 b5 b6 : Value) : KeepBut W (st7 W gb b0 b1 b2 b3 b4 b5 b6) gb none :=
  ((((((((KeepBut.refl W gb none).set_ 0 b0).set_ 1 b1).set_ 2 b2).set_ 3 b3).set_ 4 b4).set_ 5 b5).set_ 6 b6)
theorem st7_below {w W : World} (h : Below w.heap.size w W) {gb : Nat} (hg : w.heap.size ≤ gb) (b0 b1 b2 b3 b4 b5 b6 : Value) : Below w.heap.size w (st7 W gb b0 b1 b2 b3 b4 b5 b6) :=
  below_set (below_set (below_set (below_set (below_set (below_set (below_set h hg) hg) hg) hg) hg) hg) hg
theorem SS.keep {w0 W W' : World} {g gb : Nat} {p : List Int} {code : Int} (h : SS w0 W g p code) (hk : KeepBut W W' gb none) (hne : g ≠ gb) : SS w0 W' g p code := by
  obtain ⟨A, c, hb, h1⟩ := h
  exact ⟨A, c, hk.blk hb hne (by simp), h1⟩
/-- What was kept but g, and what is new since, together. -/
theorem KeepBut.new_ {w W W' : World} {g gb : Nat} (h : KeepBut w W g none) (hk : KeepBut W W' gb none) (hg : w.heap.size ≤ gb) : KeepBut w W' g none :=
  ⟨Nat.le_trans h.1 hk.1, fun i hi h1 h2 => (hk.2 i (Nat.lt_of_lt_of_le hi h.1) (by omega) (by simp)).trans (h.2 i hi h1 h2)⟩
theorem op_fin {w0 w W : World} {g gb : Nat} {r : OpR × List Int × Int} {a0 a1 a2 a3 a4 a5 a6 vp vt : Value} (hbox : W.heap[gb]? = some (.cells #[a0, a1, a2, a3, a4, a5, a6] 35 (0, 0))) (hgb : w.heap.size ≤ gb) (hg : g < w.heap.size) (h0 : w0.heap.size ≤ gb)
    (hs : SS w0 W g r.2.1 r.2.2) (hp : Kd.R k50 50 W (gb + 1) (fun _ => True) vp r.1.pairs) (ht : Kd.R (Kd.int .u8) 5 W (gb + 1) (fun _ => True) vt r.1.text) (hB : Below w0.heap.size w0 W) (hk : KeepBut w W g none)
    {k a c f : Int} {gr : Bool} (e0 : k = r.1.kind) (e1 : a = r.1.addr) (e2 : c = r.1.ch) (e3 : gr = r.1.graph) (e4 : f = r.1.fa) {tmps : Array Value} (hp2 : tmps.getD 2 undef = .pointer (some ⟨gb, 0, none⟩)) :
    bodyPost Try.prog Try.f15 (OpPost w0 w g r) .ret { tmps := tmps, defers := [] } (st7 W gb (.int .i64 k) (.int .i64 a) (.int .u8 c) (.bool gr) (.int .u8 f) vp vt) := by
  subst e0 e1 e2 e3 e4
  refine bodyPost_ret (results_cell_row rfl _ _ gb 35 _ (0, 0) _ hp2 (st7_blk hbox _ _ _ _ _ _ _) Try.underlying35 rfl (by kernel_rfl)) rfl ?_
  have kk := st7_keep W gb (.int .i64 r.1.kind) (.int .i64 r.1.addr) (.int .u8 r.1.ch) (.bool r.1.graph) (.int .u8 r.1.fa) vp vt
  exact ⟨vp, vt, rfl, Kd.R_lower (Kd.R_mono (Kd.R_keep (Kd.R_mono (Kd.R_bound hp) (fun k hk => (by have := hk.2.1; omega : k ≠ gb))) kk (fun _ h => h)) (fun _ _ => trivial)) (by omega),
    Kd.R_lower (Kd.R_mono (Kd.R_keep (Kd.R_mono (Kd.R_bound ht) (fun k hk => (by have := hk.2.1; omega : k ≠ gb))) kk (fun _ h => h)) (fun _ _ => trivial)) (by omega),
    hs.keep kk (by omega), st7_below hB h0 _ _ _ _ _ _ _, KeepBut.new_ hk kk hgb⟩
set_option maxHeartbeats 4000000 in
theorem op_text (g : Nat) (p : List Int) (hp : Bytes p) (hl : p.length ≤ 100000) (h0 : 0 < p.length) (hn : isO (rd p 0) = false) (w0 w : World) (hI : SS w0 w g p 0) (hB : Below w0.heap.size w0 w) :
    Calls Try.prog 15 #[.pointer (some ⟨g, 0, none⟩)] w (OpPost w0 w g (⟨0, 0, 0, false, 0, [], p.take (lead p)⟩, p.drop (lead p), 0)) := by
  have C := fun W => is_of (rd p 0) (rd_byte p hp 0).1 (rd_byte p hp 0).2 W
  simp only [hn] at C
  have HC := Aside0.mk C
  have q0 : decide (0 < p.length) = true := decide_eq_true h0
  have q1 : (0 < p.length) = True := eq_true h0
  obtain ⟨ad, c, z0, z1, hc⟩ := (hI.al (.cells #[.int .i64 0, .int .i64 0, .int .u8 0, .bool false, .int .u8 0, .slice none 0 0, .slice none 0 0] 35)).first (below_alloc hB _) h0
  have HI := Aside0.mk (hI.al (.cells #[.int .i64 0, .int .i64 0, .int .u8 0, .bool false, .int .u8 0, .slice none 0 0, .slice none 0 0] 35))
  have HB := Aside0.mk (below_alloc hB (.cells #[.int .i64 0, .int .i64 0, .int .u8 0, .bool false, .int .u8 0, .slice none 0 0, .slice none 0 0] 35))
  have T := fun W hi hb => text_of g p 0 hp hl w0 W hi hb
  have HT := Aside0.mk T
  have hg := hI.lt
  have hB0 := hB.size
  clear C hn T hI hB
  generalize rd p 0 = b at *
  go_enter Try.func15, Try.ntmps15
  go_wp2_with (first | (go_at_call 8; refine (HC.out _).mono ?_; rintro e w2 ⟨rfl, m2, rfl⟩))
  refine (HT.out _ (HI.out.drN _) (pw_below_drewN HB.out _)).mono ?_
  rintro e w3 ⟨vt, rfl, hv, hs, hb, hk⟩
  obtain ⟨tx, htx⟩ : ∃ tx, tx = p.take (lead p) := ⟨_, rfl⟩
  rw [← htx] at hv
  obtain ⟨At, ct, rfl⟩ := Kd.R_slice hv
  have HX := Aside0.mk htx
  have HS := Aside0.mk hs
  have HV := Aside0.mk hv
  have HBb := Aside0.mk hb
  have HK2 := Aside0.mk (((KeepBut.of_below (below_alloc (Below.refl w.heap.size w) (.cells #[.int .i64 0, .int .i64 0, .int .u8 0, .bool false, .int .u8 0, .slice none 0 0, .slice none 0 0] 35)) g none).trans (KeepBut.of_drewN _ g m2) (.inl rfl)).trans hk (.inl rfl))
  have hbox := (hk.blk (blk_drewN (blk_new w (.cells #[.int .i64 0, .int .i64 0, .int .u8 0, .bool false, .int .u8 0, .slice none 0 0, .slice none 0 0] 35)) m2) (by omega) (by simp))
  have BX := Aside0.mk hbox
  have y0 := blk_cell hbox 0
  have y1 := blk_cell hbox 1
  have y2 := blk_cell hbox 2
  have y3 := blk_cell hbox 3
  have y4 := blk_cell hbox 4
  have y5 := blk_cell hbox 5
  have y6 := blk_cell hbox 6
  have yf0 := blk_frozen hbox 0
  have yf1 := blk_frozen hbox 1
  have yf2 := blk_frozen hbox 2
  have yf3 := blk_frozen hbox 3
  have yf4 := blk_frozen hbox 4
  have yf5 := blk_frozen hbox 5
  have yf6 := blk_frozen hbox 6
  clear hs hv hk hbox htx hb
  go_wp2
  refine op_fin (gb := w.heap.size) BX.out (Nat.le_refl _) hg hB0 HS.out (Kd.R_nil _ _ _ _ _) (by rw [← HX.out]; simpa using HV.out) HBb.out HK2.out rfl rfl rfl rfl rfl rfl
end Go.Proofs.Ytmejmlohinjpdaa.Sc
