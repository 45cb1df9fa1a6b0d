/- telnet: the reader: tell, keep, end. -/
import Derived.Test.YtddfgfgjkamccaaRa
namespace Go.Proofs.Ytddfgfgjkamccaa.Tn
open Go Go.RowKit Go.Proofs.YtddfgfgjkamccaaW.PrintWords Go.Proofs.YtddfgfgjkamccaaW.PrintLast Go.Proofs.YtddfgfgjkamccaaW.PrintMore Go.Proofs.Ytddfgfgjkamccaa.PTe
set_option linter.unusedVariables false
set_option linter.unusedSimpArgs false
def tellF (r : Rd) (e : S36) : Rd := { flushF r with out := (flushF r).out ++ [e], st := 0 }
theorem flush_len (r : Rd) : (flushF r).out.length ≤ r.out.length + 1 := by
  unfold flushF; dsimp only; split
  · omega
  · simp
theorem RdQ.og {w : World} {B g : Nat} {r : Rd} {v4 : Value} {ok O : Nat → Prop} (h : RdQ w B g r v4 ok O) : O g := by
  obtain ⟨v3, v6, h, _⟩ := h; exact h.og
theorem RdQ.olt {w : World} {B g : Nat} {r : Rd} {v4 : Value} {ok O : Nat → Prop} (h : RdQ w B g r v4 ok O) : ∀ k, O k → k < w.heap.size := by
  obtain ⟨v3, v6, h, _⟩ := h; exact h.olt
theorem Fr.cell {O : Nat → Prop} {w w' : World} (h : Fr O w w') {p : Addr} {v : Value} (hc : w.cell? p = some v) (hn : ¬ O p.block) : w'.cell? p = some v := by
  have := h.block p.block (World.block_lt_of_cell? w p hc) hn
  rw [← hc]
  unfold World.cell?
  rw [this]
set_option maxHeartbeats 8000000 in
theorem tell_of (B g : Nat) (r : Rd) (v4 : Value) (ok O : Nat → Prop) (e : S36) (vd : Value) (w : World) (h : RdQ w B g r v4 ok O) (hl : r.out.length ≤ 90000) (hdl : r.data.length ≤ 90000)
    (hd : (vd = .slice none 0 0 ∧ e.f3 = []) ∨ (vd = v4 ∧ e.f3 = r.sub ∧ ∀ k, v4.ownBlock = some k → ok k)) :
    Calls Try.prog 30 #[.pointer (some ⟨g, 0, none⟩), .agg #[.int .i64 e.f0, .int .u8 e.f1, .int .u8 e.f2, vd, .bool e.f4, .bool e.f5]] w fun en w' => en = .returned (.tuple #[]) ∧ RdQ w' B g (tellF r e) v4 ok (grow O w w') ∧ Fr O w w' := by
  obtain ⟨Ad, nd, cd, rfl⟩ : ∃ A n c, vd = .slice A n c := by
    rcases hd with ⟨rfl, _⟩ | ⟨rfl, _⟩
    · exact ⟨none, 0, 0, rfl⟩
    · obtain ⟨v3, v6, h, _⟩ := h
      obtain ⟨A, c, e⟩ := Kd.R_slice h.r4
      exact ⟨A, _, c, e⟩
  have hO : ¬ O w.heap.size := by obtain ⟨v3, v6, h, _⟩ := h; exact fun ho => by have := h.olt _ ho; omega
  have hgl : g < w.heap.size := by obtain ⟨v3, v6, h, _⟩ := h; exact h.lt
  have HQ := Aside0.mk h
  have HD := Aside0.mk hd
  have HO := Aside0.mk hO
  have BA := Aside0.mk (below_alloc (Below.refl w.heap.size w) (.cells #[.int .i64 e.f0, .int .u8 e.f1, .int .u8 e.f2, .slice Ad nd cd, .bool e.f4, .bool e.f5] 36))
  have BX := Aside0.mk (blk_new w (.cells #[.int .i64 e.f0, .int .u8 e.f1, .int .u8 e.f2, .slice Ad nd cd, .bool e.f4, .bool e.f5] 36))
  clear h hd hO
  go_enter Try.func30, Try.ntmps30
  go_wp2_with fail
  refine (flush_of B g r v4 ok O _ (HQ.out.below BA.out) (by omega) (by omega)).mono ?_
  rintro en w2 ⟨rfl, hq2, hF2⟩
  obtain ⟨v3, v6, h2, hk3⟩ := hq2
  obtain ⟨gb, hgb⟩ : ∃ x, x = w.heap.size := ⟨_, rfl⟩
  rw [← hgb] at BX HO hgl ⊢
  have b0 := hF2.cell ((blk_cell BX.out 0).trans rfl) HO.out
  have b1 := hF2.cell ((blk_cell BX.out 1).trans rfl) HO.out
  have b2 := hF2.cell ((blk_cell BX.out 2).trans rfl) HO.out
  have b3 := hF2.cell ((blk_cell BX.out 3).trans rfl) HO.out
  have b4 := hF2.cell ((blk_cell BX.out 4).trans rfl) HO.out
  have b5 := hF2.cell ((blk_cell BX.out 5).trans rfl) HO.out
  have hsz1 : (w.alloc (.cells #[.int .i64 e.f0, .int .u8 e.f1, .int .u8 e.f2, .slice Ad nd cd, .bool e.f4, .bool e.f5] 36)).heap.size = gb + 1 := by rw [hgb]; simp
  have hgv6 : some gb ≠ v6.ownBlock := fun e6 => by
    rcases h2.o6 gb e6.symm with h | h
    · exact HO.out h
    · rw [hsz1] at h; omega
  have hRd : ∃ okd : Nat → Prop, Kd.R kB 5 w2.drew B okd (.slice Ad nd cd) e.f3 ∧ ∀ k, okd k → (ok k ∧ some k ≠ v3.ownBlock) ∧ some k ≠ v6.ownBlock := by
    rcases HD.out with ⟨e1, e2⟩ | ⟨e1, e2, e3⟩
    · rw [e1, e2]; exact ⟨fun _ => False, Kd.R_nil _ _ _ _ _, fun k hk => hk.elim⟩
    · rw [e1, e2]
      refine ⟨fun k => some k = v4.ownBlock, Kd.R_tight kB_E (Kd.R_drew h2.r4), fun k hk => ⟨⟨e3 k hk.symm, fun e4 => h2.n34 k e4.symm hk⟩, R5_ne36 h2.r4 h2.r6 k hk.symm⟩⟩
  obtain ⟨okd, hRd, hokd⟩ := hRd
  have hfl := flush_len r
  obtain ⟨A7, n7, c7, w4, hrun, X4, h4, hgr, F4⟩ := h2.more (okp := okd) e [.int .i64 e.f0, .int .u8 e.f1, .int .u8 e.f2, .slice Ad nd cd, .bool e.f4, .bool e.f5] (k36_mkM _ _ _ e hRd) hokd (by omega)
  have a6 := blk_cell h2.blk 6
  have p6 := (blk_cell X4 6).trans rfl
  have f6 : w4.frozen? ⟨g, 6, none⟩ = false := blk_frozen X4 6
  have q0 := cell_grown hgr b0 hgv6
  have q1 := cell_grown hgr b1 hgv6
  have q2 := cell_grown hgr b2 hgv6
  have q3 := cell_grown hgr b3 hgv6
  have q4 := cell_grown hgr b4 hgv6
  have q5 := cell_grown hgr b5 hgv6
  have HB4 := Aside0.mk h4
  have HF4 := Aside0.mk F4
  have HF2 := Aside0.mk hF2
  have y0 : (w4.setCell ⟨g, 6, none⟩ (.slice A7 n7 c7)).cell? ⟨g, 0, none⟩ = some (.int .i64 r.st) := blk_cell h4.blk 0
  have yf : (w4.setCell ⟨g, 6, none⟩ (.slice A7 n7 c7)).frozen? ⟨g, 0, none⟩ = false := blk_frozen h4.blk 0
  have HG := Aside0.mk hgb
  have HK := Aside0.mk hk3
  have HOG := Aside0.mk (HQ.out.og)
  have HOL := Aside0.mk (HQ.out.olt)
  have HS1 := Aside0.mk hsz1
  clear h4 F4 hF2 hgr h2 hk3 X4 HD HQ BX hRd hokd hfl hgb hsz1
  go_wp2
  refine start_ (n := 11) (S := fun w' => w'.cell? ⟨g, 6, none⟩ = some v6 ∧ w'.cell? ⟨gb, 0, none⟩ = some (.int .i64 e.f0) ∧ w'.cell? ⟨gb, 1, none⟩ = some (.int .u8 e.f1) ∧ w'.cell? ⟨gb, 2, none⟩ = some (.int .u8 e.f2) ∧ w'.cell? ⟨gb, 3, none⟩ = some (.slice Ad nd cd) ∧ w'.cell? ⟨gb, 4, none⟩ = some (.bool e.f4) ∧ w'.cell? ⟨gb, 5, none⟩ = some (.bool e.f5)) (ds := [10]) #[false, false, false, false, false, false, false, false, false, false, false] (by kernel_rfl) rfl rfl ⟨cell_dr1 a6, cell_dr1 b0, cell_dr1 b1, cell_dr1 b2, cell_dr1 b3, cell_dr1 b4, cell_dr1 b5⟩ (fun hHeld => ?_)
  refine pure_ (i := 0) (N := some 6) (v := ?_) (a' := ?_) #[true, false, false, false, false, false, false, false, false, false, false] rfl rfl (by kernel_rfl) (fun _ _ _ h => h) (Or.inl ⟨by rfl, ?_⟩) ?_ ?_
  rotate_left
  · intro w'
    go_simp
    with_reducible rfl
  rotate_left
  · simp only [Act.put, List.setIfInBounds_toArray, List.set_cons_zero, List.set_cons_succ, i64_w, i32_w]
    rfl
  refine pure_ (i := 1) (N := some 7) (v := ?_) (a' := ?_) #[true, true, false, false, false, false, false, false, false, false, false] rfl rfl (by kernel_rfl) (fun _ _ _ h => h) (Or.inl ⟨by rfl, ?_⟩) ?_ ?_
  rotate_left
  · intro w'
    go_simp
    with_reducible rfl
  rotate_left
  · simp only [Act.put, List.setIfInBounds_toArray, List.set_cons_zero, List.set_cons_succ, i64_w, i32_w]
    rfl
  refine pure_ (i := 2) (N := some 8) (v := ?_) (a' := ?_) #[true, true, true, false, false, false, false, false, false, false, false] rfl rfl (by kernel_rfl) (fun _ _ _ h => h) (Or.inl ⟨by rfl, ?_⟩) ?_ ?_
  rotate_left
  · intro w'
    go_simp
    with_reducible rfl
  rotate_left
  · simp only [Act.put, List.setIfInBounds_toArray, List.set_cons_zero, List.set_cons_succ, i64_w, i32_w]
    rfl
  refine pure_ (i := 3) (N := some 9) (v := ?_) (a' := ?_) #[true, true, true, true, false, false, false, false, false, false, false] rfl rfl (by kernel_rfl) (fun _ _ _ h => h) (Or.inl ⟨by rfl, ?_⟩) ?_ ?_
  rotate_left
  · intro w'
    go_simp
    with_reducible rfl
  rotate_left
  · simp only [Act.put, List.setIfInBounds_toArray, List.set_cons_zero, List.set_cons_succ, i64_w, i32_w]
    rfl
  refine take_ (i := 4) (N := some 10) (v := ?_) (a' := ?_) #[true, true, true, true, true, false, false, false, false, false, false] rfl rfl (by kernel_rfl) (fun _ _ _ h => h) (Or.inl ⟨by rfl, ?_⟩) hHeld ?_ ?_
  rotate_left
  · rintro w' ⟨s0, s1, s2, s3, s4, s5, s6⟩
    go_simp
    with_reducible rfl
  rotate_left
  · simp only [Act.put, List.setIfInBounds_toArray, List.set_cons_zero, List.set_cons_succ, i64_w, i32_w]
    rfl
  refine take_ (i := 5) (N := some 11) (v := ?_) (a' := ?_) #[true, true, true, true, true, true, false, false, false, false, false] rfl rfl (by kernel_rfl) (fun _ _ _ h => h) (Or.inl ⟨by rfl, ?_⟩) hHeld ?_ ?_
  rotate_left
  · rintro w' ⟨s0, s1, s2, s3, s4, s5, s6⟩
    go_simp
    with_reducible rfl
  rotate_left
  · simp only [Act.put, List.setIfInBounds_toArray, List.set_cons_zero, List.set_cons_succ, i64_w, i32_w]
    rfl
  refine one_ (i := 6) (N := some 12) #[true, true, true, true, true, true, true, false, false, false, false] rfl rfl (by kernel_rfl) (by decide) (fun K hK => ?_)
  refine value_ (w1 := ?_) (v := ?_) (by rfl) rfl ?_ ?_
  rotate_left 2
  · go_simp
    constructor
    · rfl
    · rfl
  refine hK.out _ _ ⟨cell_al _ hHeld.1, cell_al _ hHeld.2.1, cell_al _ hHeld.2.2.1, cell_al _ hHeld.2.2.2.1, cell_al _ hHeld.2.2.2.2.1, cell_al _ hHeld.2.2.2.2.2.1, cell_al _ hHeld.2.2.2.2.2.2⟩ (fun hHeld => ?_)
  clear hK K
  refine norm_ (a' := ?_) ?_ ?_
  rotate_left
  · show Act.put _ (some 12) _ = _
    simp only [Act.put, List.setIfInBounds_toArray, List.set_cons_zero, List.set_cons_succ, i64_w, i32_w]
    rfl
  refine one_ (i := 7) (N := some 13) #[true, true, true, true, true, true, true, true, false, false, false] rfl rfl (by kernel_rfl) (by decide) (fun K hK => ?_)
  refine value_ (w1 := w4) (v := .slice A7 n7 c7) (by rfl) rfl ?_ ?_
  · exact exec_append' (.tmp 10) (.tmp 12) 31 hrun (by rfl) (by rfl) (by rfl) (by rfl)
  refine hK.out _ _ ⟨p6, q0, q1, q2, q3, q4, q5⟩ (fun hHeld => ?_)
  clear hK K
  refine norm_ (a' := ?_) ?_ ?_
  rotate_left
  · show Act.put _ (some 13) _ = _
    simp only [Act.put, List.setIfInBounds_toArray, List.set_cons_zero, List.set_cons_succ, i64_w, i32_w]
    rfl
  refine pure_ (i := 8) (N := some 14) (v := ?_) (a' := ?_) #[true, true, true, true, true, true, true, true, true, false, false] rfl rfl (by kernel_rfl) (fun _ _ _ h => h) (Or.inl ⟨by rfl, ?_⟩) ?_ ?_
  rotate_left
  · intro w'
    go_simp
    with_reducible rfl
  rotate_left
  · simp only [Act.put, List.setIfInBounds_toArray, List.set_cons_zero, List.set_cons_succ, i64_w, i32_w]
    rfl
  refine pure_ (i := 9) (N := some 15) (v := ?_) (a' := ?_) #[true, true, true, true, true, true, true, true, true, true, false] rfl rfl (by kernel_rfl) (fun _ _ _ h => h) (Or.inl ⟨by rfl, ?_⟩) ?_ ?_
  rotate_left
  · intro w'
    go_simp
    with_reducible rfl
  rotate_left
  · simp only [Act.put, List.setIfInBounds_toArray, List.set_cons_zero, List.set_cons_succ, i64_w, i32_w]
    rfl
  refine last_ (i := 10) (N := none) #[true, true, true, true, true, true, true, true, true, true, true] rfl rfl (by kernel_rfl) (by decide) (fun K hK => ?_)
  refine skip_ (w1 := ?_) (by rfl) rfl ?_ ?_
  rotate_left
  · go_simp
    rfl
  refine hK.out _ _ ?_
  clear hK K
  refine done_ (by kernel_rfl) ?_
  go_wp2
  go_end0
  have hs01 : w.heap.size ≤ (w.alloc (.cells #[.int .i64 e.f0, .int .u8 e.f1, .int .u8 e.f2, .slice Ad nd cd, .bool e.f4, .bool e.f5] 36)).heap.size := BA.out.size
  have F1 : Fr O w w2 := (Fr.of_below BA.out).trans (HF2.out.mono (fun k h => .inl h))
  have F5 := F1.trans (HF4.out.mono (fun k h => by
    rcases h with h | h
    · exact .inl h
    · exact .inr ⟨by omega, h.2⟩))
  have F6 := F5.trans (Fr.of_set _ g 0 (.int .i64 0) (.inl HOG.out))
  refine ⟨rfl, ⟨v3, _, (HB4.out.put (r' := tellF r e) 0 (.int .i64 0) rfl rfl rfl rfl).wide (fun k h => ?_) (grow_lt HOL.out F6.size), HK.out⟩, F6⟩
  rcases h with (h | h) | h
  · exact .inl h
  · exact .inr ⟨by omega, by have := HF4.out.size; have := h.2; have e := World.size_setCell (w4.setCell ⟨g, 6, none⟩ (.slice A7 n7 c7)) ⟨g, 0, none⟩ (.int .i64 0); omega⟩
  · exact .inr ⟨by have := F1.size; omega, by have := h.2; have e := World.size_setCell (w4.setCell ⟨g, 6, none⟩ (.slice A7 n7 c7)) ⟨g, 0, none⟩ (.int .i64 0); omega⟩
end Go.Proofs.Ytddfgfgjkamccaa.Tn
