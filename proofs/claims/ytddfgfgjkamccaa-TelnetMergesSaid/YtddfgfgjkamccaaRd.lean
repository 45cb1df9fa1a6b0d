/- telnet: the reader: keep, end, command, take, walked. -/
import Derived.Test.YtddfgfgjkamccaaRc
namespace Go.Proofs.Ytddfgfgjkamccaa.Tn
open Go Go.RowKit Go.Proofs.YtddfgfgjkamccaaW.PrintWords Go.Proofs.YtddfgfgjkamccaaW.PrintLast Go.Proofs.YtddfgfgjkamccaaW.PrintMore Go.Proofs.Ytddfgfgjkamccaa.PTe
set_option linter.unusedVariables false
set_option linter.unusedSimpArgs false
def keepF (r : Rd) (b : Int) : Rd := if 256 ≤ r.sub.length then { r with st := 4, long := true } else { r with st := 4, sub := r.sub ++ [b] }
def endF (r : Rd) (br : Bool) : Rd := { tellF r ⟨3, 0, r.op, r.sub, r.long, br⟩ with sub := [], long := false }
def cmdF (r : Rd) (b : Int) : Rd := if b = 255 then { r with data := r.data ++ [b], st := 0 } else if b = 250 then { r with st := 3 } else if 251 ≤ b ∧ b ≤ 254 then { r with vb := b, st := 2 } else tellF r ⟨1, b, 0, [], false, false⟩
def takeF (r : Rd) (b : Int) : Rd :=
  if r.st = 1 then cmdF r b else if r.st = 2 then tellF r ⟨2, r.vb, b, [], false, false⟩ else if r.st = 3 then { r with op := b, st := 4 } else if r.st = 4 then (if b = 255 then { r with st := 5 } else keepF r b)
  else if r.st = 5 then (if b = 255 then keepF r b else if b = 240 then endF r false else cmdF (endF r true) b) else if b = 255 then { r with st := 1 } else { r with data := r.data ++ [b] }
def TkP (B g : Nat) (O : Nat → Prop) (r' : Rd) (w : World) (e : Ending) (w' : World) : Prop := e = .returned (.tuple #[]) ∧ Tk B g O r' w w'
theorem tell_is (B g : Nat) (r : Rd) (O : Nat → Prop) (e : S36) (w : World) (h : RdIs w B g r O) (hl : r.out.length ≤ 90000) (hdl : r.data.length ≤ 90000) (he : e.f3 = []) :
    Calls Try.prog 30 #[.pointer (some ⟨g, 0, none⟩), .agg #[.int .i64 e.f0, .int .u8 e.f1, .int .u8 e.f2, .slice none 0 0, .bool e.f4, .bool e.f5]] w (TkP B g O (tellF r e) w) := by
  obtain ⟨v4, h⟩ := h
  exact (tell_of B g r v4 _ O e _ w h hl hdl (.inl ⟨rfl, he⟩)).mono fun en w' ⟨h1, h2, h3⟩ => ⟨h1, ⟨v4, h2⟩, h3⟩
set_option maxHeartbeats 4000000 in
theorem keep_of (B g : Nat) (r : Rd) (O : Nat → Prop) (b : Int) (w : World) (h : RdIs w B g r O) (hl : r.sub.length ≤ 1000) :
    Calls Try.prog 31 #[.pointer (some ⟨g, 0, none⟩), .int .u8 b] w (TkP B g O (keepF r b) w) := by
  have T1 := Tk.of_set (r' := { r with st := 4 }) h 0 (.int .i64 4) (fun _ _ _ => rfl) rfl rfl rfl
  obtain ⟨z0, _, _, _, zf⟩ := Tk.cells h
  have zf0 := zf 0
  obtain ⟨_, _, _, z5, zf'⟩ := Tk.cells T1.1
  have zf5 := zf' 5
  obtain ⟨A4, c4, A7, n7, c7, w4, q4, hrun, p4, f4, T2⟩ := T1.1.appSub b (by show r.sub.length ≤ 1000000; omega)
  have q4 : (w.setCell ⟨g, 0, none⟩ (.int .i64 4)).cell? ⟨g, 4, none⟩ = some (.slice A4 r.sub.length c4) := q4
  have hrun : (Builtin.append_ #[22, 22] 22 #[.slice A4 r.sub.length c4, .slice (some ⟨(w.setCell ⟨g, 0, none⟩ (.int .i64 4)).heap.size, 0, none⟩) 1 1]).run Try.prog ((w.setCell ⟨g, 0, none⟩ (.int .i64 4)).alloc (.cells #[.int .u8 b] 5)) = .ok (.slice A7 n7 c7) w4 := hrun
  rw [World.size_setCell] at hrun
  have T3 := Tk.of_set (r' := { r with st := 4, long := true }) T1.1 5 (.bool true) (fun _ _ _ => rfl) rfl rfl rfl
  have HT1 := Aside0.mk T1
  have HT2 := Aside0.mk T2
  have HT3 := Aside0.mk T3
  have HL := Aside0.mk h.olt
  by_cases c : 256 ≤ r.sub.length
  · have h1 : decide ((r.sub.length : Int) ≥ 256) = true := decide_eq_true (by omega)
    have h2 : decide (256 ≤ r.sub.length) = true := decide_eq_true c
    have hk : keepF r b = { r with st := 4, long := true } := by unfold keepF; rw [if_pos c]
    have HK := Aside0.mk hk
    clear h T1 T2 T3 zf zf' hk c hrun
    go_enter Try.func31, Try.ntmps31
    go_wp2
    go_end0
    exact ⟨rfl, by rw [HK.out]; exact HT1.out.trans HT3.out HL.out⟩
  · have h1 : decide ((r.sub.length : Int) ≥ 256) = false := decide_eq_false (by omega)
    have h2 : decide (256 ≤ r.sub.length) = false := decide_eq_false c
    have hk : keepF r b = { r with st := 4, sub := r.sub ++ [b] } := by unfold keepF; rw [if_neg c]
    have HK := Aside0.mk hk
    clear h T1 T2 T3 zf zf' hk c
    go_enter Try.func31, Try.ntmps31
    go_wp2_with ((with_reducible refine gate_dst (N := 23) rfl ?_); refine Kd.event_run (by rfl) (exec_append' (.tmp 20) (.tmp 22) 22 hrun (by rfl) (by rfl) (by rfl) (by rfl)) ?_; clear hrun)
    go_end0
    exact ⟨rfl, by rw [HK.out]; exact HT1.out.trans HT2.out HL.out⟩
set_option maxHeartbeats 4000000 in
theorem end_of (B g : Nat) (r : Rd) (O : Nat → Prop) (br : Bool) (w : World) (h : RdIs w B g r O) (hl : r.out.length ≤ 90000) (hdl : r.data.length ≤ 90000) :
    Calls Try.prog 32 #[.pointer (some ⟨g, 0, none⟩), .bool br] w (TkP B g O (endF r br) w) := by
  obtain ⟨z0, _, z2, z5, zf⟩ := Tk.cells h
  obtain ⟨v4, v3, v6, hv, h3⟩ := h
  obtain ⟨A4, c4, rfl⟩ := Kd.R_slice hv.r4
  have z4 := blk_cell hv.blk 4
  have hQ : RdQ w.drew B g r (.slice A4 r.sub.length c4) (fun _ => True) O := RdQ.below ⟨v3, v6, hv.loose (fun k hk => ⟨trivial, hk.2⟩), fun _ _ => trivial⟩ (below_drew (Below.refl _ _))
  have HC := Aside0.mk (tell_of B g r _ _ O ⟨3, 0, r.op, r.sub, r.long, br⟩ _ w.drew hQ hl hdl (.inr ⟨rfl, rfl, fun _ _ => trivial⟩))
  have HL := Aside0.mk hv.olt
  clear hv h3 hQ zf z0
  go_enter Try.func32, Try.ntmps32
  go_wp2
  refine start_ (n := 16) (S := fun w' => w'.cell? ⟨g, 2, none⟩ = some (.int .u8 r.op) ∧ w'.cell? ⟨g, 4, none⟩ = some (.slice A4 r.sub.length c4) ∧ w'.cell? ⟨g, 5, none⟩ = some (.bool r.long)) (ds := [15]) #[false, false, false, false, false, false, false, false, false, false, false, false, false, false, false, false] (by kernel_rfl) rfl rfl ⟨cell_dr1 z2, cell_dr1 z4, cell_dr1 z5⟩ (fun hHeld => ?_)
  refine pure_ (i := 0) (N := some 4) (v := ?_) (a' := ?_) #[true, false, false, false, false, false, false, false, false, false, false, false, false, false, false, false] rfl rfl (by kernel_rfl) (fun _ _ _ h => h) (Or.inl ⟨by rfl, ?_⟩) ?_ ?_
  rotate_left
  · intro w'
    go_simp
    with_reducible rfl
  rotate_left
  · simp only [Act.put, List.setIfInBounds_toArray, List.set_cons_zero, List.set_cons_succ, i64_w, i32_w]
    rfl
  refine pure_ (i := 1) (N := some 5) (v := ?_) (a' := ?_) #[true, true, false, false, false, false, false, false, false, false, false, false, false, false, false, false] rfl rfl (by kernel_rfl) (fun _ _ _ h => h) (Or.inl ⟨by rfl, ?_⟩) ?_ ?_
  rotate_left
  · intro w'
    go_simp
    with_reducible rfl
  rotate_left
  · simp only [Act.put, List.setIfInBounds_toArray, List.set_cons_zero, List.set_cons_succ, i64_w, i32_w]
    rfl
  refine pure_ (i := 2) (N := some 6) (v := ?_) (a' := ?_) #[true, true, true, false, false, false, false, false, false, false, false, false, false, false, false, false] rfl rfl (by kernel_rfl) (fun _ _ _ h => h) (Or.inl ⟨by rfl, ?_⟩) ?_ ?_
  rotate_left
  · intro w'
    go_simp
    with_reducible rfl
  rotate_left
  · simp only [Act.put, List.setIfInBounds_toArray, List.set_cons_zero, List.set_cons_succ, i64_w, i32_w]
    rfl
  refine pure_ (i := 3) (N := some 7) (v := ?_) (a' := ?_) #[true, true, true, true, false, false, false, false, false, false, false, false, false, false, false, false] rfl rfl (by kernel_rfl) (fun _ _ _ h => h) (Or.inl ⟨by rfl, ?_⟩) ?_ ?_
  rotate_left
  · intro w'
    go_simp
    with_reducible rfl
  rotate_left
  · simp only [Act.put, List.setIfInBounds_toArray, List.set_cons_zero, List.set_cons_succ, i64_w, i32_w]
    rfl
  refine pure_ (i := 5) (N := some 9) (v := ?_) (a' := ?_) #[true, true, true, true, false, true, false, false, false, false, false, false, false, false, false, false] rfl rfl (by kernel_rfl) (fun _ _ _ h => h) (Or.inl ⟨by rfl, ?_⟩) ?_ ?_
  rotate_left
  · intro w'
    go_simp
    with_reducible rfl
  rotate_left
  · simp only [Act.put, List.setIfInBounds_toArray, List.set_cons_zero, List.set_cons_succ, i64_w, i32_w]
    rfl
  refine pure_ (i := 6) (N := some 10) (v := ?_) (a' := ?_) #[true, true, true, true, false, true, true, false, false, false, false, false, false, false, false, false] rfl rfl (by kernel_rfl) (fun _ _ _ h => h) (Or.inl ⟨by rfl, ?_⟩) ?_ ?_
  rotate_left
  · intro w'
    go_simp
    with_reducible rfl
  rotate_left
  · simp only [Act.put, List.setIfInBounds_toArray, List.set_cons_zero, List.set_cons_succ, i64_w, i32_w]
    rfl
  refine pure_ (i := 7) (N := some 11) (v := ?_) (a' := ?_) #[true, true, true, true, false, true, true, true, false, false, false, false, false, false, false, false] rfl rfl (by kernel_rfl) (fun _ _ _ h => h) (Or.inl ⟨by rfl, ?_⟩) ?_ ?_
  rotate_left
  · intro w'
    go_simp
    with_reducible rfl
  rotate_left
  · simp only [Act.put, List.setIfInBounds_toArray, List.set_cons_zero, List.set_cons_succ, i64_w, i32_w]
    rfl
  refine pure_ (i := 9) (N := some 13) (v := ?_) (a' := ?_) #[true, true, true, true, false, true, true, true, false, true, false, false, false, false, false, false] rfl rfl (by kernel_rfl) (fun _ _ _ h => h) (Or.inl ⟨by rfl, ?_⟩) ?_ ?_
  rotate_left
  · intro w'
    go_simp
    with_reducible rfl
  rotate_left
  · simp only [Act.put, List.setIfInBounds_toArray, List.set_cons_zero, List.set_cons_succ, i64_w, i32_w]
    rfl
  refine pure_ (i := 10) (N := some 14) (v := ?_) (a' := ?_) #[true, true, true, true, false, true, true, true, false, true, true, false, false, false, false, false] rfl rfl (by kernel_rfl) (fun _ _ _ h => h) (Or.inl ⟨by rfl, ?_⟩) ?_ ?_
  rotate_left
  · intro w'
    go_simp
    with_reducible rfl
  rotate_left
  · simp only [Act.put, List.setIfInBounds_toArray, List.set_cons_zero, List.set_cons_succ, i64_w, i32_w]
    rfl
  refine pure_ (i := 11) (N := some 15) (v := ?_) (a' := ?_) #[true, true, true, true, false, true, true, true, false, true, true, true, false, false, false, false] rfl rfl (by kernel_rfl) (fun _ _ _ h => h) (Or.inl ⟨by rfl, ?_⟩) ?_ ?_
  rotate_left
  · intro w'
    go_simp
    with_reducible rfl
  rotate_left
  · simp only [Act.put, List.setIfInBounds_toArray, List.set_cons_zero, List.set_cons_succ, i64_w, i32_w]
    rfl
  refine pure_ (i := 13) (N := some 17) (v := ?_) (a' := ?_) #[true, true, true, true, false, true, true, true, false, true, true, true, false, true, false, false] rfl rfl (by kernel_rfl) (fun _ _ _ h => h) (Or.inl ⟨by rfl, ?_⟩) ?_ ?_
  rotate_left
  · intro w'
    go_simp
    with_reducible rfl
  rotate_left
  · simp only [Act.put, List.setIfInBounds_toArray, List.set_cons_zero, List.set_cons_succ, i64_w, i32_w]
    rfl
  refine take_ (i := 4) (N := some 8) (v := ?_) (a' := ?_) #[true, true, true, true, true, true, true, true, false, true, true, true, false, true, false, false] rfl rfl (by kernel_rfl) (fun _ _ _ h => h) (Or.inl ⟨by rfl, ?_⟩) hHeld ?_ ?_
  rotate_left
  · rintro w' ⟨s0, s1, s2⟩
    go_simp
    with_reducible rfl
  rotate_left
  · simp only [Act.put, List.setIfInBounds_toArray, List.set_cons_zero, List.set_cons_succ, i64_w, i32_w]
    rfl
  refine take_ (i := 8) (N := some 12) (v := ?_) (a' := ?_) #[true, true, true, true, true, true, true, true, true, true, true, true, false, true, false, false] rfl rfl (by kernel_rfl) (fun _ _ _ h => h) (Or.inl ⟨by rfl, ?_⟩) hHeld ?_ ?_
  rotate_left
  · rintro w' ⟨s0, s1, s2⟩
    go_simp
    with_reducible rfl
  rotate_left
  · simp only [Act.put, List.setIfInBounds_toArray, List.set_cons_zero, List.set_cons_succ, i64_w, i32_w]
    rfl
  refine take_ (i := 12) (N := some 16) (v := ?_) (a' := ?_) #[true, true, true, true, true, true, true, true, true, true, true, true, true, true, false, false] rfl rfl (by kernel_rfl) (fun _ _ _ h => h) (Or.inl ⟨by rfl, ?_⟩) hHeld ?_ ?_
  rotate_left
  · rintro w' ⟨s0, s1, s2⟩
    go_simp
    with_reducible rfl
  rotate_left
  · simp only [Act.put, List.setIfInBounds_toArray, List.set_cons_zero, List.set_cons_succ, i64_w, i32_w]
    rfl
  refine pure_ (i := 14) (N := some 18) (v := ?_) (a' := ?_) #[true, true, true, true, true, true, true, true, true, true, true, true, true, true, true, false] rfl rfl (by kernel_rfl) (fun _ _ _ h => h) (Or.inl ⟨by rfl, ?_⟩) ?_ ?_
  rotate_left
  · intro w'
    go_simp
    with_reducible rfl
  rotate_left
  · simp only [Act.put, List.setIfInBounds_toArray, List.set_cons_zero, List.set_cons_succ, i64_w, i32_w]
    rfl
  refine last_ (i := 15) (N := some 19) #[true, true, true, true, true, true, true, true, true, true, true, true, true, true, true, true] rfl rfl (by kernel_rfl) (by decide) (fun K hK => ?_)
  refine goes_ Try.func30 (by kernel_rfl) rfl #[.pointer (some ⟨g, 0, none⟩), .agg #[.int .i64 3, .int .u8 0, .int .u8 r.op, .slice A4 r.sub.length c4, .bool r.long, .bool br]] (by rfl) rfl rfl (by simp only [List.map_toArray, List.map_cons, List.map_nil]; rfl) ?_
  with_reducible refine (HC.out).mono ?_
  rintro e w3 ⟨rfl, hq, hF⟩
  refine ⟨_, rfl, ?_⟩
  refine hK.out _ _ ?_
  clear hK K
  refine norm_ (a' := ?_) ?_ ?_
  rotate_left
  · show Act.put _ (some 19) _ = _
    simp only [Act.put, List.setIfInBounds_toArray, List.set_cons_zero, List.set_cons_succ, i64_w, i32_w]
    rfl
  refine done_ (by kernel_rfl) ?_
  obtain ⟨u3, u6, hu, hu3⟩ := hq
  have y4 := (blk_cell hu.blk 4).trans rfl
  have y5 := (blk_cell hu.blk 5).trans rfl
  have y4f := blk_frozen hu.blk 4
  have X4 := blk_put hu.blk 4 (.slice none 0 0) rfl
  have X5 := blk_put X4 5 (.bool false) rfl
  have y5b := (blk_cell X4 5).trans rfl
  have y5f := blk_frozen X4 5
  have HU := Aside0.mk hu
  have HX4 := Aside0.mk X4
  have HX5 := Aside0.mk X5
  have HF := Aside0.mk hF
  clear hu hu3 X4 X5 HC z2 z4 z5 hF
  go_wp2
  go_end0
  have hu := HU.out
  have F1 : Fr O w w3 := ⟨HF.out.os, HF.out.tape, HF.out.output, HF.out.size, HF.out.block⟩
  have F2 := (F1.trans (Fr.of_set w3 g 4 (.slice none 0 0) hu.og)).trans (Fr.of_set (w3.setCell ⟨g, 4, none⟩ (.slice none 0 0)) g 5 (.bool false) (by
    rcases hu.og with h | h
    · exact .inl h
    · exact .inr ⟨h.1, by rw [World.size_setCell]; exact h.2⟩))
  have hs : ((w3.setCell ⟨g, 4, none⟩ (.slice none 0 0)).setCell ⟨g, 5, none⟩ (.bool false)).heap.size = w3.heap.size := by rw [World.size_setCell, World.size_setCell]
  have hO : ∀ k, grow O w.drew w3 k → grow O w ((w3.setCell ⟨g, 4, none⟩ (.slice none 0 0)).setCell ⟨g, 5, none⟩ (.bool false)) k := by
    intro k hk
    rcases hk with h | h
    · exact .inl h
    · exact .inr ⟨h.1, by rw [hs]; exact h.2⟩
  refine ⟨rfl, ⟨.slice none 0 0, u3, u6, ⟨HX5.out, R5_set (R5_set hu.r3 hu.blk _ _) HX4.out _ _, Kd.R_nil _ _ _ _ _, Kd.R_mono (R36_set (R36_set hu.r6 hu.blk _ _) HX4.out _ _) (fun k hk => ⟨by simp [Value.ownBlock], hk.2⟩), fun k hk => by simp [Value.ownBlock], hu.gB, fun k hk => ⟨by simp [Value.ownBlock], fun e3 => by
    have := Kd.R_lt hu.r3 k e3.symm; rw [hs] at hk; omega⟩, hO _ hu.og, fun k hk => hO _ (hu.o3 k hk), fun k hk => by simp [Value.ownBlock] at hk, fun k hk => hO _ (hu.o6 k hk), grow_lt HL.out F2.size⟩, fun k hk => by simp [Value.ownBlock]⟩, F2⟩
end Go.Proofs.Ytddfgfgjkamccaa.Tn
