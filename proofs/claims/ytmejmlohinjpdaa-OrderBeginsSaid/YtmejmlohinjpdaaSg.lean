/- order.scanner: op, by its first byte. Written by wip/op_gen.py. -/
import Derived.Test.YtmejmlohinjpdaaSf
namespace Go.Proofs.Ytmejmlohinjpdaa.Sc
open Go.RowKit Go.Proofs.YtmejmlohinjpdaaW.PrintWords Go.Proofs.YtmejmlohinjpdaaW.PrintLast Go.Proofs.YtmejmlohinjpdaaW.PrintMore Go.Proofs.Ytmejmlohinjpdaa.POr
set_option linter.unusedVariables false
set_option linter.unusedSimpArgs false
theorem KeepBut.far_ {w W : World} {g gb : Nat} (h : KeepBut w W g none) (hg : w.heap.size ≤ gb) (i : Nat) (u : Value) : KeepBut w (W.setCell ⟨gb, i, none⟩ u) g none := keep_far h (p := ⟨gb, i, none⟩) hg u
theorem SS.far {w0 W : World} {g gb : Nat} {p : List Int} {code : Int} (h : SS w0 W g p code) (hne : g ≠ gb) (i : Nat) (u : Value) : SS w0 (W.setCell ⟨gb, i, none⟩ u) g p code :=
  h.keep ((KeepBut.refl W gb none).set_ i u) hne
set_option maxHeartbeats 4000000 in
theorem op_17 (g : Nat) (q : List Int) (hp : Bytes q) (hl : q.length ≤ 100000) (w0 w : World) (hI : SS w0 w g (17 :: q) 0) (hB : Below w0.heap.size w0 w) :
    Calls Try.prog 15 #[.pointer (some ⟨g, 0, none⟩)] w (OpPost w0 w g (⟨17, (addrF q).1, 0, false, 0, [], []⟩, (addrF q).2)) := by
  have C := fun W => is_of 17 (by omega) (by omega) W
  simp only [show isO 17 = true from rfl] at C
  have HC := Aside0.mk C
  obtain ⟨ad, c, z0, z1, hc⟩ := (hI.al (.cells #[.int .i64 0, .int .i64 0, .int .u8 0, .bool false, .int .u8 0, .slice none 0 0, .slice none 0 0] 35)).first (below_alloc hB _) (by simp)
  replace z1 : (w.alloc (.cells #[.int .i64 0, .int .i64 0, .int .u8 0, .bool false, .int .u8 0, .slice none 0 0, .slice none 0 0] 35)).cell? ad = some (.int .u8 17) := z1
  have HI := Aside0.mk (hI.al (.cells #[.int .i64 0, .int .i64 0, .int .u8 0, .bool false, .int .u8 0, .slice none 0 0, .slice none 0 0] 35))
  have HB := Aside0.mk (below_alloc hB (.cells #[.int .i64 0, .int .i64 0, .int .u8 0, .bool false, .int .u8 0, .slice none 0 0, .slice none 0 0] 35))
  have hg := hI.lt
  have hB0 := hB.size
  have hq1 : (0 < (17 :: q : List Int).length) = True := eq_true (by simp)
  have HQ := Aside0.mk hp
  clear C hI hB hp
  obtain ⟨p, hpq⟩ : ∃ p, p = (17 :: q : List Int) := ⟨_, rfl⟩
  rw [← hpq] at z0 HI hc hq1
  have hq2 : decide (0 < p.length) = true := decide_eq_true (by rw [hpq]; simp)
  have HPQ := Aside0.mk hpq
  clear hpq
  go_enter Try.func15, Try.ntmps15
  go_wp2_with (first | (go_at_call 8; refine (HC.out _).mono ?_; rintro e w2 ⟨rfl, m2, rfl⟩))
  have T := take_ok g 1 p 0 (by rw [HPQ.out]; simp) w0 _ (HI.out.drN m2) (pw_below_drewN HB.out m2)
  rw [HPQ.out] at T
  refine T.mono ?_
  clear T
  rintro e w3 ⟨A, rfl, hC, hs, hb, hk⟩
  obtain ⟨ad2, rfl, hx⟩ := C_head (Kd.C_below hC hb)
  have hs : SS w0 w3 g q 0 := hs
  have HS := Aside0.mk (hs.al (.cells #[.int .i64 17, .int .i64 0, .int .u8 0, .bool false, .int .u8 0, .slice none 0 0, .slice none 0 0] 35))
  have HBb := Aside0.mk (below_alloc hb (.cells #[.int .i64 17, .int .i64 0, .int .u8 0, .bool false, .int .u8 0, .slice none 0 0, .slice none 0 0] 35))
  have hbox2 := (hk.blk (blk_drewN (blk_new w (.cells #[.int .i64 0, .int .i64 0, .int .u8 0, .bool false, .int .u8 0, .slice none 0 0, .slice none 0 0] 35)) m2) (by omega) (by simp))
  have hk0 := (((KeepBut.of_below (below_alloc (Below.refl w.heap.size w) (.cells #[.int .i64 0, .int .i64 0, .int .u8 0, .bool false, .int .u8 0, .slice none 0 0, .slice none 0 0] 35)) g none).trans (KeepBut.of_drewN _ g m2) (.inl rfl)).trans hk (.inl rfl))
  have h3 : w.heap.size + 1 ≤ w3.heap.size := by have := hk.1; simpa using this
  have HK := Aside0.mk (hk0.trans (KeepBut.of_below (below_alloc (Below.refl w3.heap.size w3) (.cells #[.int .i64 17, .int .i64 0, .int .u8 0, .bool false, .int .u8 0, .slice none 0 0, .slice none 0 0] 35)) g none) (.inl rfl))
  have Y := Aside0.mk (blk_alloc hbox2 (.cells #[.int .i64 17, .int .i64 0, .int .u8 0, .bool false, .int .u8 0, .slice none 0 0, .slice none 0 0] 35))
  have X := Aside0.mk (blk_new w3 (.cells #[.int .i64 17, .int .i64 0, .int .u8 0, .bool false, .int .u8 0, .slice none 0 0, .slice none 0 0] 35))
  clear hs hk hb hk0 hbox2 hC z0 z1 hc hq1 hq2 HI HB
  go_wp2_with fail
  refine (addr_of g q w0 _ HS.out HBb.out).mono ?_
  rintro e w4 ⟨rfl, hs, hb, hk⟩
  have Y4 := Aside0.mk (hk.blk Y.out (by omega) (by simp))
  have y4_0 := blk_cell Y4.out 0
  have y4f_0 := blk_frozen Y4.out 0
  have y4_1 := blk_cell Y4.out 1
  have y4f_1 := blk_frozen Y4.out 1
  have y4_2 := blk_cell Y4.out 2
  have y4f_2 := blk_frozen Y4.out 2
  have y4_3 := blk_cell Y4.out 3
  have y4f_3 := blk_frozen Y4.out 3
  have y4_4 := blk_cell Y4.out 4
  have y4f_4 := blk_frozen Y4.out 4
  have y4_5 := blk_cell Y4.out 5
  have y4f_5 := blk_frozen Y4.out 5
  have y4_6 := blk_cell Y4.out 6
  have y4f_6 := blk_frozen Y4.out 6
  have X4 := Aside0.mk (hk.blk X.out (by omega) (by simp))
  have x4_0 := blk_cell X4.out 0
  have x4f_0 := blk_frozen X4.out 0
  have x4_1 := blk_cell X4.out 1
  have x4f_1 := blk_frozen X4.out 1
  have x4_2 := blk_cell X4.out 2
  have x4f_2 := blk_frozen X4.out 2
  have x4_3 := blk_cell X4.out 3
  have x4f_3 := blk_frozen X4.out 3
  have x4_4 := blk_cell X4.out 4
  have x4f_4 := blk_frozen X4.out 4
  have x4_5 := blk_cell X4.out 5
  have x4f_5 := blk_frozen X4.out 5
  have x4_6 := blk_cell X4.out 6
  have x4f_6 := blk_frozen X4.out 6
  have HS4 := Aside0.mk hs
  have HB4 := Aside0.mk hb
  have HK4 := Aside0.mk (HK.out.trans hk (.inl rfl))
  clear hs hb hk HS HBb HK X Y
  go_wp2
  refine op_fin (gb := w.heap.size) (blk_far Y4.out (by show w.heap.size ≠ w3.heap.size; omega) _) (Nat.le_refl _) hg hB0 (HS4.out.far (by omega) _ _) (Kd.R_nil _ _ _ _ _) (Kd.R_nil _ _ _ _ _) (below_set HB4.out (by omega)) (KeepBut.far_ HK4.out (by omega) _ _) rfl rfl rfl rfl rfl rfl
set_option maxHeartbeats 4000000 in
theorem op_18 (g : Nat) (q : List Int) (hp : Bytes q) (hl : q.length ≤ 100000) (w0 w : World) (hI : SS w0 w g (18 :: q) 0) (hB : Below w0.heap.size w0 w) :
    Calls Try.prog 15 #[.pointer (some ⟨g, 0, none⟩)] w (OpPost w0 w g (⟨18, (addrF q).1, 0, false, 0, [], []⟩, (addrF q).2)) := by
  have C := fun W => is_of 18 (by omega) (by omega) W
  simp only [show isO 18 = true from rfl] at C
  have HC := Aside0.mk C
  obtain ⟨ad, c, z0, z1, hc⟩ := (hI.al (.cells #[.int .i64 0, .int .i64 0, .int .u8 0, .bool false, .int .u8 0, .slice none 0 0, .slice none 0 0] 35)).first (below_alloc hB _) (by simp)
  replace z1 : (w.alloc (.cells #[.int .i64 0, .int .i64 0, .int .u8 0, .bool false, .int .u8 0, .slice none 0 0, .slice none 0 0] 35)).cell? ad = some (.int .u8 18) := z1
  have HI := Aside0.mk (hI.al (.cells #[.int .i64 0, .int .i64 0, .int .u8 0, .bool false, .int .u8 0, .slice none 0 0, .slice none 0 0] 35))
  have HB := Aside0.mk (below_alloc hB (.cells #[.int .i64 0, .int .i64 0, .int .u8 0, .bool false, .int .u8 0, .slice none 0 0, .slice none 0 0] 35))
  have hg := hI.lt
  have hB0 := hB.size
  have hq1 : (0 < (18 :: q : List Int).length) = True := eq_true (by simp)
  have HQ := Aside0.mk hp
  clear C hI hB hp
  obtain ⟨p, hpq⟩ : ∃ p, p = (18 :: q : List Int) := ⟨_, rfl⟩
  rw [← hpq] at z0 HI hc hq1
  have hq2 : decide (0 < p.length) = true := decide_eq_true (by rw [hpq]; simp)
  have HPQ := Aside0.mk hpq
  clear hpq
  go_enter Try.func15, Try.ntmps15
  go_wp2_with (first | (go_at_call 8; refine (HC.out _).mono ?_; rintro e w2 ⟨rfl, m2, rfl⟩))
  have T := take_ok g 1 p 0 (by rw [HPQ.out]; simp) w0 _ (HI.out.drN m2) (pw_below_drewN HB.out m2)
  rw [HPQ.out] at T
  refine T.mono ?_
  clear T
  rintro e w3 ⟨A, rfl, hC, hs, hb, hk⟩
  obtain ⟨ad2, rfl, hx⟩ := C_head (Kd.C_below hC hb)
  have hs : SS w0 w3 g q 0 := hs
  have HS := Aside0.mk (hs.al (.cells #[.int .i64 18, .int .i64 0, .int .u8 0, .bool false, .int .u8 0, .slice none 0 0, .slice none 0 0] 35))
  have HBb := Aside0.mk (below_alloc hb (.cells #[.int .i64 18, .int .i64 0, .int .u8 0, .bool false, .int .u8 0, .slice none 0 0, .slice none 0 0] 35))
  have hbox2 := (hk.blk (blk_drewN (blk_new w (.cells #[.int .i64 0, .int .i64 0, .int .u8 0, .bool false, .int .u8 0, .slice none 0 0, .slice none 0 0] 35)) m2) (by omega) (by simp))
  have hk0 := (((KeepBut.of_below (below_alloc (Below.refl w.heap.size w) (.cells #[.int .i64 0, .int .i64 0, .int .u8 0, .bool false, .int .u8 0, .slice none 0 0, .slice none 0 0] 35)) g none).trans (KeepBut.of_drewN _ g m2) (.inl rfl)).trans hk (.inl rfl))
  have h3 : w.heap.size + 1 ≤ w3.heap.size := by have := hk.1; simpa using this
  have HK := Aside0.mk (hk0.trans (KeepBut.of_below (below_alloc (Below.refl w3.heap.size w3) (.cells #[.int .i64 18, .int .i64 0, .int .u8 0, .bool false, .int .u8 0, .slice none 0 0, .slice none 0 0] 35)) g none) (.inl rfl))
  have Y := Aside0.mk (blk_alloc hbox2 (.cells #[.int .i64 18, .int .i64 0, .int .u8 0, .bool false, .int .u8 0, .slice none 0 0, .slice none 0 0] 35))
  have X := Aside0.mk (blk_new w3 (.cells #[.int .i64 18, .int .i64 0, .int .u8 0, .bool false, .int .u8 0, .slice none 0 0, .slice none 0 0] 35))
  clear hs hk hb hk0 hbox2 hC z0 z1 hc hq1 hq2 HI HB
  go_wp2_with fail
  refine (addr_of g q w0 _ HS.out HBb.out).mono ?_
  rintro e w4 ⟨rfl, hs, hb, hk⟩
  have Y4 := Aside0.mk (hk.blk Y.out (by omega) (by simp))
  have y4_0 := blk_cell Y4.out 0
  have y4f_0 := blk_frozen Y4.out 0
  have y4_1 := blk_cell Y4.out 1
  have y4f_1 := blk_frozen Y4.out 1
  have y4_2 := blk_cell Y4.out 2
  have y4f_2 := blk_frozen Y4.out 2
  have y4_3 := blk_cell Y4.out 3
  have y4f_3 := blk_frozen Y4.out 3
  have y4_4 := blk_cell Y4.out 4
  have y4f_4 := blk_frozen Y4.out 4
  have y4_5 := blk_cell Y4.out 5
  have y4f_5 := blk_frozen Y4.out 5
  have y4_6 := blk_cell Y4.out 6
  have y4f_6 := blk_frozen Y4.out 6
  have X4 := Aside0.mk (hk.blk X.out (by omega) (by simp))
  have x4_0 := blk_cell X4.out 0
  have x4f_0 := blk_frozen X4.out 0
  have x4_1 := blk_cell X4.out 1
  have x4f_1 := blk_frozen X4.out 1
  have x4_2 := blk_cell X4.out 2
  have x4f_2 := blk_frozen X4.out 2
  have x4_3 := blk_cell X4.out 3
  have x4f_3 := blk_frozen X4.out 3
  have x4_4 := blk_cell X4.out 4
  have x4f_4 := blk_frozen X4.out 4
  have x4_5 := blk_cell X4.out 5
  have x4f_5 := blk_frozen X4.out 5
  have x4_6 := blk_cell X4.out 6
  have x4f_6 := blk_frozen X4.out 6
  have HS4 := Aside0.mk hs
  have HB4 := Aside0.mk hb
  have HK4 := Aside0.mk (HK.out.trans hk (.inl rfl))
  clear hs hb hk HS HBb HK X Y
  go_wp2
  refine op_fin (gb := w.heap.size) (blk_far Y4.out (by show w.heap.size ≠ w3.heap.size; omega) _) (Nat.le_refl _) hg hB0 (HS4.out.far (by omega) _ _) (Kd.R_nil _ _ _ _ _) (Kd.R_nil _ _ _ _ _) (below_set HB4.out (by omega)) (KeepBut.far_ HK4.out (by omega) _ _) rfl rfl rfl rfl rfl rfl
set_option maxHeartbeats 4000000 in
theorem op_8 (g : Nat) (q : List Int) (hp : Bytes q) (hl : q.length ≤ 100000) (w0 w : World) (hI : SS w0 w g (8 :: q) 0) (hB : Below w0.heap.size w0 w) :
    Calls Try.prog 15 #[.pointer (some ⟨g, 0, none⟩)] w (OpPost w0 w g (⟨8, 0, (charF q 0).1, false, 0, [], []⟩, (charF q 0).2)) := by
  have C := fun W => is_of 8 (by omega) (by omega) W
  simp only [show isO 8 = true from rfl] at C
  have HC := Aside0.mk C
  obtain ⟨ad, c, z0, z1, hc⟩ := (hI.al (.cells #[.int .i64 0, .int .i64 0, .int .u8 0, .bool false, .int .u8 0, .slice none 0 0, .slice none 0 0] 35)).first (below_alloc hB _) (by simp)
  replace z1 : (w.alloc (.cells #[.int .i64 0, .int .i64 0, .int .u8 0, .bool false, .int .u8 0, .slice none 0 0, .slice none 0 0] 35)).cell? ad = some (.int .u8 8) := z1
  have HI := Aside0.mk (hI.al (.cells #[.int .i64 0, .int .i64 0, .int .u8 0, .bool false, .int .u8 0, .slice none 0 0, .slice none 0 0] 35))
  have HB := Aside0.mk (below_alloc hB (.cells #[.int .i64 0, .int .i64 0, .int .u8 0, .bool false, .int .u8 0, .slice none 0 0, .slice none 0 0] 35))
  have hg := hI.lt
  have hB0 := hB.size
  have hq1 : (0 < (8 :: q : List Int).length) = True := eq_true (by simp)
  have HQ := Aside0.mk hp
  clear C hI hB hp
  obtain ⟨p, hpq⟩ : ∃ p, p = (8 :: q : List Int) := ⟨_, rfl⟩
  rw [← hpq] at z0 HI hc hq1
  have hq2 : decide (0 < p.length) = true := decide_eq_true (by rw [hpq]; simp)
  have HPQ := Aside0.mk hpq
  clear hpq
  go_enter Try.func15, Try.ntmps15
  go_wp2_with (first | (go_at_call 8; refine (HC.out _).mono ?_; rintro e w2 ⟨rfl, m2, rfl⟩))
  have T := take_ok g 1 p 0 (by rw [HPQ.out]; simp) w0 _ (HI.out.drN m2) (pw_below_drewN HB.out m2)
  rw [HPQ.out] at T
  refine T.mono ?_
  clear T
  rintro e w3 ⟨A, rfl, hC, hs, hb, hk⟩
  obtain ⟨ad2, rfl, hx⟩ := C_head (Kd.C_below hC hb)
  have hs : SS w0 w3 g q 0 := hs
  have HS := Aside0.mk (hs.al (.cells #[.int .i64 8, .int .i64 0, .int .u8 0, .bool false, .int .u8 0, .slice none 0 0, .slice none 0 0] 35))
  have HBb := Aside0.mk (below_alloc hb (.cells #[.int .i64 8, .int .i64 0, .int .u8 0, .bool false, .int .u8 0, .slice none 0 0, .slice none 0 0] 35))
  have hbox2 := (hk.blk (blk_drewN (blk_new w (.cells #[.int .i64 0, .int .i64 0, .int .u8 0, .bool false, .int .u8 0, .slice none 0 0, .slice none 0 0] 35)) m2) (by omega) (by simp))
  have hk0 := (((KeepBut.of_below (below_alloc (Below.refl w.heap.size w) (.cells #[.int .i64 0, .int .i64 0, .int .u8 0, .bool false, .int .u8 0, .slice none 0 0, .slice none 0 0] 35)) g none).trans (KeepBut.of_drewN _ g m2) (.inl rfl)).trans hk (.inl rfl))
  have h3 : w.heap.size + 1 ≤ w3.heap.size := by have := hk.1; simpa using this
  have HK := Aside0.mk (hk0.trans (KeepBut.of_below (below_alloc (Below.refl w3.heap.size w3) (.cells #[.int .i64 8, .int .i64 0, .int .u8 0, .bool false, .int .u8 0, .slice none 0 0, .slice none 0 0] 35)) g none) (.inl rfl))
  have Y := Aside0.mk (blk_alloc hbox2 (.cells #[.int .i64 8, .int .i64 0, .int .u8 0, .bool false, .int .u8 0, .slice none 0 0, .slice none 0 0] 35))
  have X := Aside0.mk (blk_new w3 (.cells #[.int .i64 8, .int .i64 0, .int .u8 0, .bool false, .int .u8 0, .slice none 0 0, .slice none 0 0] 35))
  clear hs hk hb hk0 hbox2 hC z0 z1 hc hq1 hq2 HI HB
  go_wp2_with fail
  refine (char_of g q 0 HQ.out w0 _ HS.out HBb.out).mono ?_
  rintro e w4 ⟨rfl, hs, hb, hk⟩
  have Y4 := Aside0.mk (hk.blk Y.out (by omega) (by simp))
  have y4_0 := blk_cell Y4.out 0
  have y4f_0 := blk_frozen Y4.out 0
  have y4_1 := blk_cell Y4.out 1
  have y4f_1 := blk_frozen Y4.out 1
  have y4_2 := blk_cell Y4.out 2
  have y4f_2 := blk_frozen Y4.out 2
  have y4_3 := blk_cell Y4.out 3
  have y4f_3 := blk_frozen Y4.out 3
  have y4_4 := blk_cell Y4.out 4
  have y4f_4 := blk_frozen Y4.out 4
  have y4_5 := blk_cell Y4.out 5
  have y4f_5 := blk_frozen Y4.out 5
  have y4_6 := blk_cell Y4.out 6
  have y4f_6 := blk_frozen Y4.out 6
  have X4 := Aside0.mk (hk.blk X.out (by omega) (by simp))
  have x4_0 := blk_cell X4.out 0
  have x4f_0 := blk_frozen X4.out 0
  have x4_1 := blk_cell X4.out 1
  have x4f_1 := blk_frozen X4.out 1
  have x4_2 := blk_cell X4.out 2
  have x4f_2 := blk_frozen X4.out 2
  have x4_3 := blk_cell X4.out 3
  have x4f_3 := blk_frozen X4.out 3
  have x4_4 := blk_cell X4.out 4
  have x4f_4 := blk_frozen X4.out 4
  have x4_5 := blk_cell X4.out 5
  have x4f_5 := blk_frozen X4.out 5
  have x4_6 := blk_cell X4.out 6
  have x4f_6 := blk_frozen X4.out 6
  have HS4 := Aside0.mk hs
  have HB4 := Aside0.mk hb
  have HK4 := Aside0.mk (HK.out.trans hk (.inl rfl))
  clear hs hb hk HS HBb HK X Y
  go_wp2
  refine op_fin (gb := w.heap.size) (blk_far Y4.out (by show w.heap.size ≠ w3.heap.size; omega) _) (Nat.le_refl _) hg hB0 (HS4.out.far (by omega) _ _) (Kd.R_nil _ _ _ _ _) (Kd.R_nil _ _ _ _ _) (below_set HB4.out (by omega)) (KeepBut.far_ HK4.out (by omega) _ _) rfl rfl rfl rfl rfl rfl
set_option maxHeartbeats 4000000 in
theorem op_5 (g : Nat) (q : List Int) (hp : Bytes q) (hl : q.length ≤ 100000) (w0 w : World) (hI : SS w0 w g (5 :: q) 0) (hB : Below w0.heap.size w0 w) :
    Calls Try.prog 15 #[.pointer (some ⟨g, 0, none⟩)] w (OpPost w0 w g (⟨5, 0, 0, false, 0, [], []⟩, q, 0)) := by
  have C := fun W => is_of 5 (by omega) (by omega) W
  simp only [show isO 5 = true from rfl] at C
  have HC := Aside0.mk C
  obtain ⟨ad, c, z0, z1, hc⟩ := (hI.al (.cells #[.int .i64 0, .int .i64 0, .int .u8 0, .bool false, .int .u8 0, .slice none 0 0, .slice none 0 0] 35)).first (below_alloc hB _) (by simp)
  replace z1 : (w.alloc (.cells #[.int .i64 0, .int .i64 0, .int .u8 0, .bool false, .int .u8 0, .slice none 0 0, .slice none 0 0] 35)).cell? ad = some (.int .u8 5) := z1
  have HI := Aside0.mk (hI.al (.cells #[.int .i64 0, .int .i64 0, .int .u8 0, .bool false, .int .u8 0, .slice none 0 0, .slice none 0 0] 35))
  have HB := Aside0.mk (below_alloc hB (.cells #[.int .i64 0, .int .i64 0, .int .u8 0, .bool false, .int .u8 0, .slice none 0 0, .slice none 0 0] 35))
  have hg := hI.lt
  have hB0 := hB.size
  have hq1 : (0 < (5 :: q : List Int).length) = True := eq_true (by simp)
  have HQ := Aside0.mk hp
  clear C hI hB hp
  obtain ⟨p, hpq⟩ : ∃ p, p = (5 :: q : List Int) := ⟨_, rfl⟩
  rw [← hpq] at z0 HI hc hq1
  have hq2 : decide (0 < p.length) = true := decide_eq_true (by rw [hpq]; simp)
  have HPQ := Aside0.mk hpq
  clear hpq
  go_enter Try.func15, Try.ntmps15
  go_wp2_with (first | (go_at_call 8; refine (HC.out _).mono ?_; rintro e w2 ⟨rfl, m2, rfl⟩))
  have T := take_ok g 1 p 0 (by rw [HPQ.out]; simp) w0 _ (HI.out.drN m2) (pw_below_drewN HB.out m2)
  rw [HPQ.out] at T
  refine T.mono ?_
  clear T
  rintro e w3 ⟨A, rfl, hC, hs, hb, hk⟩
  obtain ⟨ad2, rfl, hx⟩ := C_head (Kd.C_below hC hb)
  have hs : SS w0 w3 g q 0 := hs
  have HS := Aside0.mk (hs.al (.cells #[.int .i64 5, .int .i64 0, .int .u8 0, .bool false, .int .u8 0, .slice none 0 0, .slice none 0 0] 35))
  have HBb := Aside0.mk (below_alloc hb (.cells #[.int .i64 5, .int .i64 0, .int .u8 0, .bool false, .int .u8 0, .slice none 0 0, .slice none 0 0] 35))
  have hbox2 := (hk.blk (blk_drewN (blk_new w (.cells #[.int .i64 0, .int .i64 0, .int .u8 0, .bool false, .int .u8 0, .slice none 0 0, .slice none 0 0] 35)) m2) (by omega) (by simp))
  have hk0 := (((KeepBut.of_below (below_alloc (Below.refl w.heap.size w) (.cells #[.int .i64 0, .int .i64 0, .int .u8 0, .bool false, .int .u8 0, .slice none 0 0, .slice none 0 0] 35)) g none).trans (KeepBut.of_drewN _ g m2) (.inl rfl)).trans hk (.inl rfl))
  have h3 : w.heap.size + 1 ≤ w3.heap.size := by have := hk.1; simpa using this
  have HK := Aside0.mk (hk0.trans (KeepBut.of_below (below_alloc (Below.refl w3.heap.size w3) (.cells #[.int .i64 5, .int .i64 0, .int .u8 0, .bool false, .int .u8 0, .slice none 0 0, .slice none 0 0] 35)) g none) (.inl rfl))
  have Y := Aside0.mk (blk_alloc hbox2 (.cells #[.int .i64 5, .int .i64 0, .int .u8 0, .bool false, .int .u8 0, .slice none 0 0, .slice none 0 0] 35))
  have X := Aside0.mk (blk_new w3 (.cells #[.int .i64 5, .int .i64 0, .int .u8 0, .bool false, .int .u8 0, .slice none 0 0, .slice none 0 0] 35))
  clear hs hk hb hk0 hbox2 hC z0 z1 hc hq1 hq2 HI HB
  have Y4 := Aside0.mk Y.out
  have y4_0 := blk_cell Y4.out 0
  have y4f_0 := blk_frozen Y4.out 0
  have y4_1 := blk_cell Y4.out 1
  have y4f_1 := blk_frozen Y4.out 1
  have y4_2 := blk_cell Y4.out 2
  have y4f_2 := blk_frozen Y4.out 2
  have y4_3 := blk_cell Y4.out 3
  have y4f_3 := blk_frozen Y4.out 3
  have y4_4 := blk_cell Y4.out 4
  have y4f_4 := blk_frozen Y4.out 4
  have y4_5 := blk_cell Y4.out 5
  have y4f_5 := blk_frozen Y4.out 5
  have y4_6 := blk_cell Y4.out 6
  have y4f_6 := blk_frozen Y4.out 6
  have X4 := Aside0.mk X.out
  have x4_0 := blk_cell X4.out 0
  have x4f_0 := blk_frozen X4.out 0
  have x4_1 := blk_cell X4.out 1
  have x4f_1 := blk_frozen X4.out 1
  have x4_2 := blk_cell X4.out 2
  have x4f_2 := blk_frozen X4.out 2
  have x4_3 := blk_cell X4.out 3
  have x4f_3 := blk_frozen X4.out 3
  have x4_4 := blk_cell X4.out 4
  have x4f_4 := blk_frozen X4.out 4
  have x4_5 := blk_cell X4.out 5
  have x4f_5 := blk_frozen X4.out 5
  have x4_6 := blk_cell X4.out 6
  have x4f_6 := blk_frozen X4.out 6
  clear X Y
  go_wp2
  refine op_fin (gb := w.heap.size) Y4.out (Nat.le_refl _) hg hB0 HS.out (Kd.R_nil _ _ _ _ _) (Kd.R_nil _ _ _ _ _) HBb.out HK.out rfl rfl rfl rfl rfl rfl
set_option maxHeartbeats 4000000 in
theorem op_19 (g : Nat) (q : List Int) (hp : Bytes q) (hl : q.length ≤ 100000) (w0 w : World) (hI : SS w0 w g (19 :: q) 0) (hB : Below w0.heap.size w0 w) :
    Calls Try.prog 15 #[.pointer (some ⟨g, 0, none⟩)] w (OpPost w0 w g (⟨19, 0, 0, false, 0, [], []⟩, q, 0)) := by
  have C := fun W => is_of 19 (by omega) (by omega) W
  simp only [show isO 19 = true from rfl] at C
  have HC := Aside0.mk C
  obtain ⟨ad, c, z0, z1, hc⟩ := (hI.al (.cells #[.int .i64 0, .int .i64 0, .int .u8 0, .bool false, .int .u8 0, .slice none 0 0, .slice none 0 0] 35)).first (below_alloc hB _) (by simp)
  replace z1 : (w.alloc (.cells #[.int .i64 0, .int .i64 0, .int .u8 0, .bool false, .int .u8 0, .slice none 0 0, .slice none 0 0] 35)).cell? ad = some (.int .u8 19) := z1
  have HI := Aside0.mk (hI.al (.cells #[.int .i64 0, .int .i64 0, .int .u8 0, .bool false, .int .u8 0, .slice none 0 0, .slice none 0 0] 35))
  have HB := Aside0.mk (below_alloc hB (.cells #[.int .i64 0, .int .i64 0, .int .u8 0, .bool false, .int .u8 0, .slice none 0 0, .slice none 0 0] 35))
  have hg := hI.lt
  have hB0 := hB.size
  have hq1 : (0 < (19 :: q : List Int).length) = True := eq_true (by simp)
  have HQ := Aside0.mk hp
  clear C hI hB hp
  obtain ⟨p, hpq⟩ : ∃ p, p = (19 :: q : List Int) := ⟨_, rfl⟩
  rw [← hpq] at z0 HI hc hq1
  have hq2 : decide (0 < p.length) = true := decide_eq_true (by rw [hpq]; simp)
  have HPQ := Aside0.mk hpq
  clear hpq
  go_enter Try.func15, Try.ntmps15
  go_wp2_with (first | (go_at_call 8; refine (HC.out _).mono ?_; rintro e w2 ⟨rfl, m2, rfl⟩))
  have T := take_ok g 1 p 0 (by rw [HPQ.out]; simp) w0 _ (HI.out.drN m2) (pw_below_drewN HB.out m2)
  rw [HPQ.out] at T
  refine T.mono ?_
  clear T
  rintro e w3 ⟨A, rfl, hC, hs, hb, hk⟩
  obtain ⟨ad2, rfl, hx⟩ := C_head (Kd.C_below hC hb)
  have hs : SS w0 w3 g q 0 := hs
  have HS := Aside0.mk (hs.al (.cells #[.int .i64 19, .int .i64 0, .int .u8 0, .bool false, .int .u8 0, .slice none 0 0, .slice none 0 0] 35))
  have HBb := Aside0.mk (below_alloc hb (.cells #[.int .i64 19, .int .i64 0, .int .u8 0, .bool false, .int .u8 0, .slice none 0 0, .slice none 0 0] 35))
  have hbox2 := (hk.blk (blk_drewN (blk_new w (.cells #[.int .i64 0, .int .i64 0, .int .u8 0, .bool false, .int .u8 0, .slice none 0 0, .slice none 0 0] 35)) m2) (by omega) (by simp))
  have hk0 := (((KeepBut.of_below (below_alloc (Below.refl w.heap.size w) (.cells #[.int .i64 0, .int .i64 0, .int .u8 0, .bool false, .int .u8 0, .slice none 0 0, .slice none 0 0] 35)) g none).trans (KeepBut.of_drewN _ g m2) (.inl rfl)).trans hk (.inl rfl))
  have h3 : w.heap.size + 1 ≤ w3.heap.size := by have := hk.1; simpa using this
  have HK := Aside0.mk (hk0.trans (KeepBut.of_below (below_alloc (Below.refl w3.heap.size w3) (.cells #[.int .i64 19, .int .i64 0, .int .u8 0, .bool false, .int .u8 0, .slice none 0 0, .slice none 0 0] 35)) g none) (.inl rfl))
  have Y := Aside0.mk (blk_alloc hbox2 (.cells #[.int .i64 19, .int .i64 0, .int .u8 0, .bool false, .int .u8 0, .slice none 0 0, .slice none 0 0] 35))
  have X := Aside0.mk (blk_new w3 (.cells #[.int .i64 19, .int .i64 0, .int .u8 0, .bool false, .int .u8 0, .slice none 0 0, .slice none 0 0] 35))
  clear hs hk hb hk0 hbox2 hC z0 z1 hc hq1 hq2 HI HB
  have Y4 := Aside0.mk Y.out
  have y4_0 := blk_cell Y4.out 0
  have y4f_0 := blk_frozen Y4.out 0
  have y4_1 := blk_cell Y4.out 1
  have y4f_1 := blk_frozen Y4.out 1
  have y4_2 := blk_cell Y4.out 2
  have y4f_2 := blk_frozen Y4.out 2
  have y4_3 := blk_cell Y4.out 3
  have y4f_3 := blk_frozen Y4.out 3
  have y4_4 := blk_cell Y4.out 4
  have y4f_4 := blk_frozen Y4.out 4
  have y4_5 := blk_cell Y4.out 5
  have y4f_5 := blk_frozen Y4.out 5
  have y4_6 := blk_cell Y4.out 6
  have y4f_6 := blk_frozen Y4.out 6
  have X4 := Aside0.mk X.out
  have x4_0 := blk_cell X4.out 0
  have x4f_0 := blk_frozen X4.out 0
  have x4_1 := blk_cell X4.out 1
  have x4f_1 := blk_frozen X4.out 1
  have x4_2 := blk_cell X4.out 2
  have x4f_2 := blk_frozen X4.out 2
  have x4_3 := blk_cell X4.out 3
  have x4f_3 := blk_frozen X4.out 3
  have x4_4 := blk_cell X4.out 4
  have x4f_4 := blk_frozen X4.out 4
  have x4_5 := blk_cell X4.out 5
  have x4f_5 := blk_frozen X4.out 5
  have x4_6 := blk_cell X4.out 6
  have x4f_6 := blk_frozen X4.out 6
  clear X Y
  go_wp2
  refine op_fin (gb := w.heap.size) Y4.out (Nat.le_refl _) hg hB0 HS.out (Kd.R_nil _ _ _ _ _) (Kd.R_nil _ _ _ _ _) HBb.out HK.out rfl rfl rfl rfl rfl rfl
set_option maxHeartbeats 4000000 in
theorem op_40 (g : Nat) (q : List Int) (hp : Bytes q) (hl : q.length ≤ 100000) (w0 w : World) (hI : SS w0 w g (40 :: q) 0) (hB : Below w0.heap.size w0 w) :
    Calls Try.prog 15 #[.pointer (some ⟨g, 0, none⟩)] w (OpPost w0 w g (⟨40, 0, 0, false, 0, [(pairF q).1], []⟩, (pairF q).2)) := by
  have C := fun W => is_of 40 (by omega) (by omega) W
  simp only [show isO 40 = true from rfl] at C
  have HC := Aside0.mk C
  obtain ⟨ad, c, z0, z1, hc⟩ := (hI.al (.cells #[.int .i64 0, .int .i64 0, .int .u8 0, .bool false, .int .u8 0, .slice none 0 0, .slice none 0 0] 35)).first (below_alloc hB _) (by simp)
  replace z1 : (w.alloc (.cells #[.int .i64 0, .int .i64 0, .int .u8 0, .bool false, .int .u8 0, .slice none 0 0, .slice none 0 0] 35)).cell? ad = some (.int .u8 40) := z1
  have HI := Aside0.mk (hI.al (.cells #[.int .i64 0, .int .i64 0, .int .u8 0, .bool false, .int .u8 0, .slice none 0 0, .slice none 0 0] 35))
  have HB := Aside0.mk (below_alloc hB (.cells #[.int .i64 0, .int .i64 0, .int .u8 0, .bool false, .int .u8 0, .slice none 0 0, .slice none 0 0] 35))
  have hg := hI.lt
  have hB0 := hB.size
  have hq1 : (0 < (40 :: q : List Int).length) = True := eq_true (by simp)
  have HQ := Aside0.mk hp
  clear C hI hB hp
  obtain ⟨p, hpq⟩ : ∃ p, p = (40 :: q : List Int) := ⟨_, rfl⟩
  rw [← hpq] at z0 HI hc hq1
  have hq2 : decide (0 < p.length) = true := decide_eq_true (by rw [hpq]; simp)
  have HPQ := Aside0.mk hpq
  clear hpq
  go_enter Try.func15, Try.ntmps15
  go_wp2_with (first | (go_at_call 8; refine (HC.out _).mono ?_; rintro e w2 ⟨rfl, m2, rfl⟩))
  have T := take_ok g 1 p 0 (by rw [HPQ.out]; simp) w0 _ (HI.out.drN m2) (pw_below_drewN HB.out m2)
  rw [HPQ.out] at T
  refine T.mono ?_
  clear T
  rintro e w3 ⟨A, rfl, hC, hs, hb, hk⟩
  obtain ⟨ad2, rfl, hx⟩ := C_head (Kd.C_below hC hb)
  have hs : SS w0 w3 g q 0 := hs
  have HS := Aside0.mk (hs.al (.cells #[.int .i64 40, .int .i64 0, .int .u8 0, .bool false, .int .u8 0, .slice none 0 0, .slice none 0 0] 35))
  have HBb := Aside0.mk (below_alloc hb (.cells #[.int .i64 40, .int .i64 0, .int .u8 0, .bool false, .int .u8 0, .slice none 0 0, .slice none 0 0] 35))
  have hbox2 := (hk.blk (blk_drewN (blk_new w (.cells #[.int .i64 0, .int .i64 0, .int .u8 0, .bool false, .int .u8 0, .slice none 0 0, .slice none 0 0] 35)) m2) (by omega) (by simp))
  have hk0 := (((KeepBut.of_below (below_alloc (Below.refl w.heap.size w) (.cells #[.int .i64 0, .int .i64 0, .int .u8 0, .bool false, .int .u8 0, .slice none 0 0, .slice none 0 0] 35)) g none).trans (KeepBut.of_drewN _ g m2) (.inl rfl)).trans hk (.inl rfl))
  have h3 : w.heap.size + 1 ≤ w3.heap.size := by have := hk.1; simpa using this
  have HK := Aside0.mk (hk0.trans (KeepBut.of_below (below_alloc (Below.refl w3.heap.size w3) (.cells #[.int .i64 40, .int .i64 0, .int .u8 0, .bool false, .int .u8 0, .slice none 0 0, .slice none 0 0] 35)) g none) (.inl rfl))
  have Y := Aside0.mk (blk_alloc hbox2 (.cells #[.int .i64 40, .int .i64 0, .int .u8 0, .bool false, .int .u8 0, .slice none 0 0, .slice none 0 0] 35))
  have X := Aside0.mk (blk_new w3 (.cells #[.int .i64 40, .int .i64 0, .int .u8 0, .bool false, .int .u8 0, .slice none 0 0, .slice none 0 0] 35))
  clear hs hk hb hk0 hbox2 hC z0 z1 hc hq1 hq2 HI HB
  go_wp2_with fail
  refine (pair_of g q w0 _ HS.out HBb.out).mono ?_
  rintro e w4 ⟨v, rfl, hv, hs, hb, hk⟩
  obtain ⟨Av, cv, rfl⟩ := Kd.R_slice hv
  have HV := Aside0.mk hv
  have Y4 := Aside0.mk (hk.blk Y.out (by omega) (by simp))
  have y4_0 := blk_cell Y4.out 0
  have y4f_0 := blk_frozen Y4.out 0
  have y4_1 := blk_cell Y4.out 1
  have y4f_1 := blk_frozen Y4.out 1
  have y4_2 := blk_cell Y4.out 2
  have y4f_2 := blk_frozen Y4.out 2
  have y4_3 := blk_cell Y4.out 3
  have y4f_3 := blk_frozen Y4.out 3
  have y4_4 := blk_cell Y4.out 4
  have y4f_4 := blk_frozen Y4.out 4
  have y4_5 := blk_cell Y4.out 5
  have y4f_5 := blk_frozen Y4.out 5
  have y4_6 := blk_cell Y4.out 6
  have y4f_6 := blk_frozen Y4.out 6
  have X4 := Aside0.mk (hk.blk X.out (by omega) (by simp))
  have x4_0 := blk_cell X4.out 0
  have x4f_0 := blk_frozen X4.out 0
  have x4_1 := blk_cell X4.out 1
  have x4f_1 := blk_frozen X4.out 1
  have x4_2 := blk_cell X4.out 2
  have x4f_2 := blk_frozen X4.out 2
  have x4_3 := blk_cell X4.out 3
  have x4f_3 := blk_frozen X4.out 3
  have x4_4 := blk_cell X4.out 4
  have x4f_4 := blk_frozen X4.out 4
  have x4_5 := blk_cell X4.out 5
  have x4f_5 := blk_frozen X4.out 5
  have x4_6 := blk_cell X4.out 6
  have x4f_6 := blk_frozen X4.out 6
  have HS4 := Aside0.mk hs
  have HB4 := Aside0.mk hb
  have HK4 := Aside0.mk (HK.out.trans hk (.inl rfl))
  clear hs hb hk HS HBb HK X Y hv
  go_wp2
  refine op_fin (gb := w.heap.size) (blk_far Y4.out (by show w.heap.size ≠ w3.heap.size; omega) _) (Nat.le_refl _) hg hB0 (HS4.out.far (by omega) _ _) (Kd.R_lower (Kd.R_mono (Kd.R_far (p := ⟨w3.heap.size, 5, none⟩) (Kd.R_mono (Kd.R_bound HV.out) (fun k hk => (by have := hk.2.1; simp at this; omega : k ≠ w3.heap.size))) (fun _ h => h) _) (fun _ _ => trivial)) (by simp; omega)) (Kd.R_nil _ _ _ _ _) (below_set HB4.out (by omega)) (KeepBut.far_ HK4.out (by omega) _ _) rfl rfl rfl rfl rfl rfl
set_option maxHeartbeats 4000000 in
theorem op_41 (g : Nat) (q : List Int) (hp : Bytes q) (hl : q.length ≤ 100000) (w0 w : World) (hI : SS w0 w g (41 :: q) 0) (hB : Below w0.heap.size w0 w) :
    Calls Try.prog 15 #[.pointer (some ⟨g, 0, none⟩)] w (OpPost w0 w g (⟨41, 0, 0, false, 0, (pairsF q).1, []⟩, (pairsF q).2)) := by
  have C := fun W => is_of 41 (by omega) (by omega) W
  simp only [show isO 41 = true from rfl] at C
  have HC := Aside0.mk C
  obtain ⟨ad, c, z0, z1, hc⟩ := (hI.al (.cells #[.int .i64 0, .int .i64 0, .int .u8 0, .bool false, .int .u8 0, .slice none 0 0, .slice none 0 0] 35)).first (below_alloc hB _) (by simp)
  replace z1 : (w.alloc (.cells #[.int .i64 0, .int .i64 0, .int .u8 0, .bool false, .int .u8 0, .slice none 0 0, .slice none 0 0] 35)).cell? ad = some (.int .u8 41) := z1
  have HI := Aside0.mk (hI.al (.cells #[.int .i64 0, .int .i64 0, .int .u8 0, .bool false, .int .u8 0, .slice none 0 0, .slice none 0 0] 35))
  have HB := Aside0.mk (below_alloc hB (.cells #[.int .i64 0, .int .i64 0, .int .u8 0, .bool false, .int .u8 0, .slice none 0 0, .slice none 0 0] 35))
  have hg := hI.lt
  have hB0 := hB.size
  have hq1 : (0 < (41 :: q : List Int).length) = True := eq_true (by simp)
  have HQ := Aside0.mk hp
  clear C hI hB hp
  obtain ⟨p, hpq⟩ : ∃ p, p = (41 :: q : List Int) := ⟨_, rfl⟩
  rw [← hpq] at z0 HI hc hq1
  have hq2 : decide (0 < p.length) = true := decide_eq_true (by rw [hpq]; simp)
  have HPQ := Aside0.mk hpq
  clear hpq
  go_enter Try.func15, Try.ntmps15
  go_wp2_with (first | (go_at_call 8; refine (HC.out _).mono ?_; rintro e w2 ⟨rfl, m2, rfl⟩))
  have T := take_ok g 1 p 0 (by rw [HPQ.out]; simp) w0 _ (HI.out.drN m2) (pw_below_drewN HB.out m2)
  rw [HPQ.out] at T
  refine T.mono ?_
  clear T
  rintro e w3 ⟨A, rfl, hC, hs, hb, hk⟩
  obtain ⟨ad2, rfl, hx⟩ := C_head (Kd.C_below hC hb)
  have hs : SS w0 w3 g q 0 := hs
  have HS := Aside0.mk (hs.al (.cells #[.int .i64 41, .int .i64 0, .int .u8 0, .bool false, .int .u8 0, .slice none 0 0, .slice none 0 0] 35))
  have HBb := Aside0.mk (below_alloc hb (.cells #[.int .i64 41, .int .i64 0, .int .u8 0, .bool false, .int .u8 0, .slice none 0 0, .slice none 0 0] 35))
  have hbox2 := (hk.blk (blk_drewN (blk_new w (.cells #[.int .i64 0, .int .i64 0, .int .u8 0, .bool false, .int .u8 0, .slice none 0 0, .slice none 0 0] 35)) m2) (by omega) (by simp))
  have hk0 := (((KeepBut.of_below (below_alloc (Below.refl w.heap.size w) (.cells #[.int .i64 0, .int .i64 0, .int .u8 0, .bool false, .int .u8 0, .slice none 0 0, .slice none 0 0] 35)) g none).trans (KeepBut.of_drewN _ g m2) (.inl rfl)).trans hk (.inl rfl))
  have h3 : w.heap.size + 1 ≤ w3.heap.size := by have := hk.1; simpa using this
  have HK := Aside0.mk (hk0.trans (KeepBut.of_below (below_alloc (Below.refl w3.heap.size w3) (.cells #[.int .i64 41, .int .i64 0, .int .u8 0, .bool false, .int .u8 0, .slice none 0 0, .slice none 0 0] 35)) g none) (.inl rfl))
  have Y := Aside0.mk (blk_alloc hbox2 (.cells #[.int .i64 41, .int .i64 0, .int .u8 0, .bool false, .int .u8 0, .slice none 0 0, .slice none 0 0] 35))
  have X := Aside0.mk (blk_new w3 (.cells #[.int .i64 41, .int .i64 0, .int .u8 0, .bool false, .int .u8 0, .slice none 0 0, .slice none 0 0] 35))
  clear hs hk hb hk0 hbox2 hC z0 z1 hc hq1 hq2 HI HB
  go_wp2_with fail
  refine (pairs_of g q HQ.out hl w0 _ HS.out HBb.out).mono ?_
  rintro e w4 ⟨v, rfl, hv, hs, hb, hk⟩
  obtain ⟨Av, cv, rfl⟩ := Kd.R_slice hv
  have HV := Aside0.mk hv
  have Y4 := Aside0.mk (hk.blk Y.out (by omega) (by simp))
  have y4_0 := blk_cell Y4.out 0
  have y4f_0 := blk_frozen Y4.out 0
  have y4_1 := blk_cell Y4.out 1
  have y4f_1 := blk_frozen Y4.out 1
  have y4_2 := blk_cell Y4.out 2
  have y4f_2 := blk_frozen Y4.out 2
  have y4_3 := blk_cell Y4.out 3
  have y4f_3 := blk_frozen Y4.out 3
  have y4_4 := blk_cell Y4.out 4
  have y4f_4 := blk_frozen Y4.out 4
  have y4_5 := blk_cell Y4.out 5
  have y4f_5 := blk_frozen Y4.out 5
  have y4_6 := blk_cell Y4.out 6
  have y4f_6 := blk_frozen Y4.out 6
  have X4 := Aside0.mk (hk.blk X.out (by omega) (by simp))
  have x4_0 := blk_cell X4.out 0
  have x4f_0 := blk_frozen X4.out 0
  have x4_1 := blk_cell X4.out 1
  have x4f_1 := blk_frozen X4.out 1
  have x4_2 := blk_cell X4.out 2
  have x4f_2 := blk_frozen X4.out 2
  have x4_3 := blk_cell X4.out 3
  have x4f_3 := blk_frozen X4.out 3
  have x4_4 := blk_cell X4.out 4
  have x4f_4 := blk_frozen X4.out 4
  have x4_5 := blk_cell X4.out 5
  have x4f_5 := blk_frozen X4.out 5
  have x4_6 := blk_cell X4.out 6
  have x4f_6 := blk_frozen X4.out 6
  have HS4 := Aside0.mk hs
  have HB4 := Aside0.mk hb
  have HK4 := Aside0.mk (HK.out.trans hk (.inl rfl))
  clear hs hb hk HS HBb HK X Y hv
  go_wp2
  refine op_fin (gb := w.heap.size) (blk_far Y4.out (by show w.heap.size ≠ w3.heap.size; omega) _) (Nat.le_refl _) hg hB0 (HS4.out.far (by omega) _ _) (Kd.R_lower (Kd.R_mono (Kd.R_far (p := ⟨w3.heap.size, 5, none⟩) (Kd.R_mono (Kd.R_bound HV.out) (fun k hk => (by have := hk.2.1; simp at this; omega : k ≠ w3.heap.size))) (fun _ h => h) _) (fun _ _ => trivial)) (by simp; omega)) (Kd.R_nil _ _ _ _ _) (below_set HB4.out (by omega)) (KeepBut.far_ HK4.out (by omega) _ _) rfl rfl rfl rfl rfl rfl
set_option maxHeartbeats 4000000 in
theorem op_44 (g : Nat) (q : List Int) (hp : Bytes q) (hl : q.length ≤ 100000) (w0 w : World) (hI : SS w0 w g (44 :: q) 0) (hB : Below w0.heap.size w0 w) :
    Calls Try.prog 15 #[.pointer (some ⟨g, 0, none⟩)] w (OpPost w0 w g (⟨44, 0, 0, false, 0, (pairsF q).1, []⟩, (pairsF q).2)) := by
  have C := fun W => is_of 44 (by omega) (by omega) W
  simp only [show isO 44 = true from rfl] at C
  have HC := Aside0.mk C
  obtain ⟨ad, c, z0, z1, hc⟩ := (hI.al (.cells #[.int .i64 0, .int .i64 0, .int .u8 0, .bool false, .int .u8 0, .slice none 0 0, .slice none 0 0] 35)).first (below_alloc hB _) (by simp)
  replace z1 : (w.alloc (.cells #[.int .i64 0, .int .i64 0, .int .u8 0, .bool false, .int .u8 0, .slice none 0 0, .slice none 0 0] 35)).cell? ad = some (.int .u8 44) := z1
  have HI := Aside0.mk (hI.al (.cells #[.int .i64 0, .int .i64 0, .int .u8 0, .bool false, .int .u8 0, .slice none 0 0, .slice none 0 0] 35))
  have HB := Aside0.mk (below_alloc hB (.cells #[.int .i64 0, .int .i64 0, .int .u8 0, .bool false, .int .u8 0, .slice none 0 0, .slice none 0 0] 35))
  have hg := hI.lt
  have hB0 := hB.size
  have hq1 : (0 < (44 :: q : List Int).length) = True := eq_true (by simp)
  have HQ := Aside0.mk hp
  clear C hI hB hp
  obtain ⟨p, hpq⟩ : ∃ p, p = (44 :: q : List Int) := ⟨_, rfl⟩
  rw [← hpq] at z0 HI hc hq1
  have hq2 : decide (0 < p.length) = true := decide_eq_true (by rw [hpq]; simp)
  have HPQ := Aside0.mk hpq
  clear hpq
  go_enter Try.func15, Try.ntmps15
  go_wp2_with (first | (go_at_call 8; refine (HC.out _).mono ?_; rintro e w2 ⟨rfl, m2, rfl⟩))
  have T := take_ok g 1 p 0 (by rw [HPQ.out]; simp) w0 _ (HI.out.drN m2) (pw_below_drewN HB.out m2)
  rw [HPQ.out] at T
  refine T.mono ?_
  clear T
  rintro e w3 ⟨A, rfl, hC, hs, hb, hk⟩
  obtain ⟨ad2, rfl, hx⟩ := C_head (Kd.C_below hC hb)
  have hs : SS w0 w3 g q 0 := hs
  have HS := Aside0.mk (hs.al (.cells #[.int .i64 44, .int .i64 0, .int .u8 0, .bool false, .int .u8 0, .slice none 0 0, .slice none 0 0] 35))
  have HBb := Aside0.mk (below_alloc hb (.cells #[.int .i64 44, .int .i64 0, .int .u8 0, .bool false, .int .u8 0, .slice none 0 0, .slice none 0 0] 35))
  have hbox2 := (hk.blk (blk_drewN (blk_new w (.cells #[.int .i64 0, .int .i64 0, .int .u8 0, .bool false, .int .u8 0, .slice none 0 0, .slice none 0 0] 35)) m2) (by omega) (by simp))
  have hk0 := (((KeepBut.of_below (below_alloc (Below.refl w.heap.size w) (.cells #[.int .i64 0, .int .i64 0, .int .u8 0, .bool false, .int .u8 0, .slice none 0 0, .slice none 0 0] 35)) g none).trans (KeepBut.of_drewN _ g m2) (.inl rfl)).trans hk (.inl rfl))
  have h3 : w.heap.size + 1 ≤ w3.heap.size := by have := hk.1; simpa using this
  have HK := Aside0.mk (hk0.trans (KeepBut.of_below (below_alloc (Below.refl w3.heap.size w3) (.cells #[.int .i64 44, .int .i64 0, .int .u8 0, .bool false, .int .u8 0, .slice none 0 0, .slice none 0 0] 35)) g none) (.inl rfl))
  have Y := Aside0.mk (blk_alloc hbox2 (.cells #[.int .i64 44, .int .i64 0, .int .u8 0, .bool false, .int .u8 0, .slice none 0 0, .slice none 0 0] 35))
  have X := Aside0.mk (blk_new w3 (.cells #[.int .i64 44, .int .i64 0, .int .u8 0, .bool false, .int .u8 0, .slice none 0 0, .slice none 0 0] 35))
  clear hs hk hb hk0 hbox2 hC z0 z1 hc hq1 hq2 HI HB
  go_wp2_with fail
  refine (pairs_of g q HQ.out hl w0 _ HS.out HBb.out).mono ?_
  rintro e w4 ⟨v, rfl, hv, hs, hb, hk⟩
  obtain ⟨Av, cv, rfl⟩ := Kd.R_slice hv
  have HV := Aside0.mk hv
  have Y4 := Aside0.mk (hk.blk Y.out (by omega) (by simp))
  have y4_0 := blk_cell Y4.out 0
  have y4f_0 := blk_frozen Y4.out 0
  have y4_1 := blk_cell Y4.out 1
  have y4f_1 := blk_frozen Y4.out 1
  have y4_2 := blk_cell Y4.out 2
  have y4f_2 := blk_frozen Y4.out 2
  have y4_3 := blk_cell Y4.out 3
  have y4f_3 := blk_frozen Y4.out 3
  have y4_4 := blk_cell Y4.out 4
  have y4f_4 := blk_frozen Y4.out 4
  have y4_5 := blk_cell Y4.out 5
  have y4f_5 := blk_frozen Y4.out 5
  have y4_6 := blk_cell Y4.out 6
  have y4f_6 := blk_frozen Y4.out 6
  have X4 := Aside0.mk (hk.blk X.out (by omega) (by simp))
  have x4_0 := blk_cell X4.out 0
  have x4f_0 := blk_frozen X4.out 0
  have x4_1 := blk_cell X4.out 1
  have x4f_1 := blk_frozen X4.out 1
  have x4_2 := blk_cell X4.out 2
  have x4f_2 := blk_frozen X4.out 2
  have x4_3 := blk_cell X4.out 3
  have x4f_3 := blk_frozen X4.out 3
  have x4_4 := blk_cell X4.out 4
  have x4f_4 := blk_frozen X4.out 4
  have x4_5 := blk_cell X4.out 5
  have x4f_5 := blk_frozen X4.out 5
  have x4_6 := blk_cell X4.out 6
  have x4f_6 := blk_frozen X4.out 6
  have HS4 := Aside0.mk hs
  have HB4 := Aside0.mk hb
  have HK4 := Aside0.mk (HK.out.trans hk (.inl rfl))
  clear hs hb hk HS HBb HK X Y hv
  go_wp2
  refine op_fin (gb := w.heap.size) (blk_far Y4.out (by show w.heap.size ≠ w3.heap.size; omega) _) (Nat.le_refl _) hg hB0 (HS4.out.far (by omega) _ _) (Kd.R_lower (Kd.R_mono (Kd.R_far (p := ⟨w3.heap.size, 5, none⟩) (Kd.R_mono (Kd.R_bound HV.out) (fun k hk => (by have := hk.2.1; simp at this; omega : k ≠ w3.heap.size))) (fun _ h => h) _) (fun _ _ => trivial)) (by simp; omega)) (Kd.R_nil _ _ _ _ _) (below_set HB4.out (by omega)) (KeepBut.far_ HK4.out (by omega) _ _) rfl rfl rfl rfl rfl rfl
set_option maxHeartbeats 4000000 in
theorem op_29 (g : Nat) (q : List Int) (hp : Bytes q) (hl : q.length ≤ 100000) (w0 w : World) (hI : SS w0 w g (29 :: q) 0) (hB : Below w0.heap.size w0 w) :
    Calls Try.prog 15 #[.pointer (some ⟨g, 0, none⟩)] w (OpPost w0 w g (⟨29, 0, 0, false, (sfF q).1, [], []⟩, (sfF q).2)) := by
  have C := fun W => is_of 29 (by omega) (by omega) W
  simp only [show isO 29 = true from rfl] at C
  have HC := Aside0.mk C
  obtain ⟨ad, c, z0, z1, hc⟩ := (hI.al (.cells #[.int .i64 0, .int .i64 0, .int .u8 0, .bool false, .int .u8 0, .slice none 0 0, .slice none 0 0] 35)).first (below_alloc hB _) (by simp)
  replace z1 : (w.alloc (.cells #[.int .i64 0, .int .i64 0, .int .u8 0, .bool false, .int .u8 0, .slice none 0 0, .slice none 0 0] 35)).cell? ad = some (.int .u8 29) := z1
  have HI := Aside0.mk (hI.al (.cells #[.int .i64 0, .int .i64 0, .int .u8 0, .bool false, .int .u8 0, .slice none 0 0, .slice none 0 0] 35))
  have HB := Aside0.mk (below_alloc hB (.cells #[.int .i64 0, .int .i64 0, .int .u8 0, .bool false, .int .u8 0, .slice none 0 0, .slice none 0 0] 35))
  have hg := hI.lt
  have hB0 := hB.size
  have hq1 : (0 < (29 :: q : List Int).length) = True := eq_true (by simp)
  have HQ := Aside0.mk hp
  clear C hI hB hp
  obtain ⟨p, hpq⟩ : ∃ p, p = (29 :: q : List Int) := ⟨_, rfl⟩
  rw [← hpq] at z0 HI hc hq1
  have hq2 : decide (0 < p.length) = true := decide_eq_true (by rw [hpq]; simp)
  have HPQ := Aside0.mk hpq
  clear hpq
  go_enter Try.func15, Try.ntmps15
  go_wp2_with (first | (go_at_call 8; refine (HC.out _).mono ?_; rintro e w2 ⟨rfl, m2, rfl⟩))
  have T := take_ok g 1 p 0 (by rw [HPQ.out]; simp) w0 _ (HI.out.drN m2) (pw_below_drewN HB.out m2)
  rw [HPQ.out] at T
  refine T.mono ?_
  clear T
  rintro e w3 ⟨A, rfl, hC, hs, hb, hk⟩
  obtain ⟨ad2, rfl, hx⟩ := C_head (Kd.C_below hC hb)
  have hs : SS w0 w3 g q 0 := hs
  have HS := Aside0.mk (hs.al (.cells #[.int .i64 29, .int .i64 0, .int .u8 0, .bool false, .int .u8 0, .slice none 0 0, .slice none 0 0] 35))
  have HBb := Aside0.mk (below_alloc hb (.cells #[.int .i64 29, .int .i64 0, .int .u8 0, .bool false, .int .u8 0, .slice none 0 0, .slice none 0 0] 35))
  have hbox2 := (hk.blk (blk_drewN (blk_new w (.cells #[.int .i64 0, .int .i64 0, .int .u8 0, .bool false, .int .u8 0, .slice none 0 0, .slice none 0 0] 35)) m2) (by omega) (by simp))
  have hk0 := (((KeepBut.of_below (below_alloc (Below.refl w.heap.size w) (.cells #[.int .i64 0, .int .i64 0, .int .u8 0, .bool false, .int .u8 0, .slice none 0 0, .slice none 0 0] 35)) g none).trans (KeepBut.of_drewN _ g m2) (.inl rfl)).trans hk (.inl rfl))
  have h3 : w.heap.size + 1 ≤ w3.heap.size := by have := hk.1; simpa using this
  have HK := Aside0.mk (hk0.trans (KeepBut.of_below (below_alloc (Below.refl w3.heap.size w3) (.cells #[.int .i64 29, .int .i64 0, .int .u8 0, .bool false, .int .u8 0, .slice none 0 0, .slice none 0 0] 35)) g none) (.inl rfl))
  have Y := Aside0.mk (blk_alloc hbox2 (.cells #[.int .i64 29, .int .i64 0, .int .u8 0, .bool false, .int .u8 0, .slice none 0 0, .slice none 0 0] 35))
  have X := Aside0.mk (blk_new w3 (.cells #[.int .i64 29, .int .i64 0, .int .u8 0, .bool false, .int .u8 0, .slice none 0 0, .slice none 0 0] 35))
  clear hs hk hb hk0 hbox2 hC z0 z1 hc hq1 hq2 HI HB
  cases q with
  | nil =>
    go_wp2_with fail
    refine (take_short1 g 0 w0 _ HS.out HBb.out).mono ?_
    rintro e w4 ⟨A4, rfl, hC4, hs, hb, hk⟩
    obtain ⟨ad4, rfl, hx4⟩ := C_head hC4
    have Y4 := Aside0.mk (hk.blk Y.out (by omega) (by simp))
    have y4_0 := blk_cell Y4.out 0
    have y4f_0 := blk_frozen Y4.out 0
    have y4_1 := blk_cell Y4.out 1
    have y4f_1 := blk_frozen Y4.out 1
    have y4_2 := blk_cell Y4.out 2
    have y4f_2 := blk_frozen Y4.out 2
    have y4_3 := blk_cell Y4.out 3
    have y4f_3 := blk_frozen Y4.out 3
    have y4_4 := blk_cell Y4.out 4
    have y4f_4 := blk_frozen Y4.out 4
    have y4_5 := blk_cell Y4.out 5
    have y4f_5 := blk_frozen Y4.out 5
    have y4_6 := blk_cell Y4.out 6
    have y4f_6 := blk_frozen Y4.out 6
    have X4 := Aside0.mk (hk.blk X.out (by omega) (by simp))
    have x4_0 := blk_cell X4.out 0
    have x4f_0 := blk_frozen X4.out 0
    have x4_1 := blk_cell X4.out 1
    have x4f_1 := blk_frozen X4.out 1
    have x4_2 := blk_cell X4.out 2
    have x4f_2 := blk_frozen X4.out 2
    have x4_3 := blk_cell X4.out 3
    have x4f_3 := blk_frozen X4.out 3
    have x4_4 := blk_cell X4.out 4
    have x4f_4 := blk_frozen X4.out 4
    have x4_5 := blk_cell X4.out 5
    have x4f_5 := blk_frozen X4.out 5
    have x4_6 := blk_cell X4.out 6
    have x4f_6 := blk_frozen X4.out 6
    have HS4 := Aside0.mk hs
    have HB4 := Aside0.mk hb
    have HK4 := Aside0.mk (HK.out.trans hk (.inl rfl))
    clear hs hb hk HS HBb HK X Y hC4
    go_wp2
    refine op_fin (gb := w.heap.size) (blk_far Y4.out (by show w.heap.size ≠ w3.heap.size; omega) _) (Nat.le_refl _) hg hB0 (HS4.out.far (by omega) _ _) (Kd.R_nil _ _ _ _ _) (Kd.R_nil _ _ _ _ _) (below_set HB4.out (by omega)) (KeepBut.far_ HK4.out (by omega) _ _) rfl rfl rfl rfl rfl rfl
  | cons x r =>
    go_wp2_with fail
    refine (take_ok g 1 (x :: r) 0 (by simp) w0 _ HS.out HBb.out).mono ?_
    rintro e w4 ⟨A4, rfl, hC4, hs, hb, hk⟩
    obtain ⟨ad4, rfl, hx4⟩ := C_head (Kd.C_below hC4 hb)
    have Y4 := Aside0.mk (hk.blk Y.out (by omega) (by simp))
    have y4_0 := blk_cell Y4.out 0
    have y4f_0 := blk_frozen Y4.out 0
    have y4_1 := blk_cell Y4.out 1
    have y4f_1 := blk_frozen Y4.out 1
    have y4_2 := blk_cell Y4.out 2
    have y4f_2 := blk_frozen Y4.out 2
    have y4_3 := blk_cell Y4.out 3
    have y4f_3 := blk_frozen Y4.out 3
    have y4_4 := blk_cell Y4.out 4
    have y4f_4 := blk_frozen Y4.out 4
    have y4_5 := blk_cell Y4.out 5
    have y4f_5 := blk_frozen Y4.out 5
    have y4_6 := blk_cell Y4.out 6
    have y4f_6 := blk_frozen Y4.out 6
    have X4 := Aside0.mk (hk.blk X.out (by omega) (by simp))
    have x4_0 := blk_cell X4.out 0
    have x4f_0 := blk_frozen X4.out 0
    have x4_1 := blk_cell X4.out 1
    have x4f_1 := blk_frozen X4.out 1
    have x4_2 := blk_cell X4.out 2
    have x4f_2 := blk_frozen X4.out 2
    have x4_3 := blk_cell X4.out 3
    have x4f_3 := blk_frozen X4.out 3
    have x4_4 := blk_cell X4.out 4
    have x4f_4 := blk_frozen X4.out 4
    have x4_5 := blk_cell X4.out 5
    have x4f_5 := blk_frozen X4.out 5
    have x4_6 := blk_cell X4.out 6
    have x4f_6 := blk_frozen X4.out 6
    have HS4 := Aside0.mk hs
    have HB4 := Aside0.mk hb
    have HK4 := Aside0.mk (HK.out.trans hk (.inl rfl))
    clear hs hb hk HS HBb HK X Y hC4
    go_wp2
    refine op_fin (gb := w.heap.size) (blk_far Y4.out (by show w.heap.size ≠ w3.heap.size; omega) _) (Nat.le_refl _) hg hB0 (HS4.out.far (by omega) _ _) (Kd.R_nil _ _ _ _ _) (Kd.R_nil _ _ _ _ _) (below_set HB4.out (by omega)) (KeepBut.far_ HK4.out (by omega) _ _) rfl rfl rfl rfl rfl rfl
theorem addrF_bytes (q : List Int) (hq : Bytes q) : Bytes (addrF q).2.1 := by
  unfold addrF
  split
  · exact fun _ h => by cases h
  · exact fun x hx => hq x (List.mem_of_mem_drop hx)
set_option maxHeartbeats 4000000 in
theorem op_60 (g : Nat) (q : List Int) (hp : Bytes q) (hl : q.length ≤ 100000) (w0 w : World) (hI : SS w0 w g (60 :: q) 0) (hB : Below w0.heap.size w0 w) :
    Calls Try.prog 15 #[.pointer (some ⟨g, 0, none⟩)] w (OpPost w0 w g (⟨60, (addrF q).1, (charF (graphF (addrF q).2.1).2 (addrF q).2.2).1, (graphF (addrF q).2.1).1, 0, [], []⟩, (charF (graphF (addrF q).2.1).2 (addrF q).2.2).2)) := by
  have C := fun W => is_of 60 (by omega) (by omega) W
  simp only [show isO 60 = true from rfl] at C
  have HC := Aside0.mk C
  obtain ⟨ad, c, z0, z1, hc⟩ := (hI.al (.cells #[.int .i64 0, .int .i64 0, .int .u8 0, .bool false, .int .u8 0, .slice none 0 0, .slice none 0 0] 35)).first (below_alloc hB _) (by simp)
  replace z1 : (w.alloc (.cells #[.int .i64 0, .int .i64 0, .int .u8 0, .bool false, .int .u8 0, .slice none 0 0, .slice none 0 0] 35)).cell? ad = some (.int .u8 60) := z1
  have HI := Aside0.mk (hI.al (.cells #[.int .i64 0, .int .i64 0, .int .u8 0, .bool false, .int .u8 0, .slice none 0 0, .slice none 0 0] 35))
  have HB := Aside0.mk (below_alloc hB (.cells #[.int .i64 0, .int .i64 0, .int .u8 0, .bool false, .int .u8 0, .slice none 0 0, .slice none 0 0] 35))
  have hg := hI.lt
  have hB0 := hB.size
  have hq1 : (0 < (60 :: q : List Int).length) = True := eq_true (by simp)
  have HQ := Aside0.mk hp
  clear C hI hB hp
  obtain ⟨p, hpq⟩ : ∃ p, p = (60 :: q : List Int) := ⟨_, rfl⟩
  rw [← hpq] at z0 HI hc hq1
  have hq2 : decide (0 < p.length) = true := decide_eq_true (by rw [hpq]; simp)
  have HPQ := Aside0.mk hpq
  clear hpq
  go_enter Try.func15, Try.ntmps15
  go_wp2_with (first | (go_at_call 8; refine (HC.out _).mono ?_; rintro e w2 ⟨rfl, m2, rfl⟩))
  have T := take_ok g 1 p 0 (by rw [HPQ.out]; simp) w0 _ (HI.out.drN m2) (pw_below_drewN HB.out m2)
  rw [HPQ.out] at T
  refine T.mono ?_
  clear T
  rintro e w3 ⟨A, rfl, hC, hs, hb, hk⟩
  obtain ⟨ad2, rfl, hx⟩ := C_head (Kd.C_below hC hb)
  have hs : SS w0 w3 g q 0 := hs
  have HS := Aside0.mk (hs.al (.cells #[.int .i64 60, .int .i64 0, .int .u8 0, .bool false, .int .u8 0, .slice none 0 0, .slice none 0 0] 35))
  have HBb := Aside0.mk (below_alloc hb (.cells #[.int .i64 60, .int .i64 0, .int .u8 0, .bool false, .int .u8 0, .slice none 0 0, .slice none 0 0] 35))
  have hbox2 := (hk.blk (blk_drewN (blk_new w (.cells #[.int .i64 0, .int .i64 0, .int .u8 0, .bool false, .int .u8 0, .slice none 0 0, .slice none 0 0] 35)) m2) (by omega) (by simp))
  have hk0 := (((KeepBut.of_below (below_alloc (Below.refl w.heap.size w) (.cells #[.int .i64 0, .int .i64 0, .int .u8 0, .bool false, .int .u8 0, .slice none 0 0, .slice none 0 0] 35)) g none).trans (KeepBut.of_drewN _ g m2) (.inl rfl)).trans hk (.inl rfl))
  have h3 : w.heap.size + 1 ≤ w3.heap.size := by have := hk.1; simpa using this
  have HK := Aside0.mk (hk0.trans (KeepBut.of_below (below_alloc (Below.refl w3.heap.size w3) (.cells #[.int .i64 60, .int .i64 0, .int .u8 0, .bool false, .int .u8 0, .slice none 0 0, .slice none 0 0] 35)) g none) (.inl rfl))
  have Y := Aside0.mk (blk_alloc hbox2 (.cells #[.int .i64 60, .int .i64 0, .int .u8 0, .bool false, .int .u8 0, .slice none 0 0, .slice none 0 0] 35))
  have X := Aside0.mk (blk_new w3 (.cells #[.int .i64 60, .int .i64 0, .int .u8 0, .bool false, .int .u8 0, .slice none 0 0, .slice none 0 0] 35))
  clear hs hk hb hk0 hbox2 hC z0 z1 hc hq1 hq2 HI HB
  have hrest := addrF_bytes q HQ.out
  go_wp2_with fail
  refine (addr_of g q w0 _ HS.out HBb.out).mono ?_
  rintro e w4 ⟨rfl, hs, hb, hk⟩
  generalize addrF q = a at *
  obtain ⟨a1, s1, k1⟩ := a
  dsimp only at hs hrest ⊢
  have HR := Aside0.mk hrest
  have Y5 := Aside0.mk (blk_far (p := ⟨w3.heap.size, 1, none⟩) (hk.blk Y.out (by omega) (by simp)) (by show w.heap.size ≠ w3.heap.size; omega) (.int .i64 a1))
  have X4 := Aside0.mk (hk.blk X.out (by omega) (by simp))
  have X5 := Aside0.mk (blk_put (cs' := #[.int .i64 60, .int .i64 a1, .int .u8 0, .bool false, .int .u8 0, .slice none 0 0, .slice none 0 0]) X4.out 1 (.int .i64 a1) rfl)
  have x4_1 := blk_cell X4.out 1
  have x4f_1 := blk_frozen X4.out 1
  have HS5 := Aside0.mk (SS.far hs (show g ≠ w3.heap.size by omega) 1 (.int .i64 a1))
  have HB5 := Aside0.mk (below_set (g := w3.heap.size) (j := 1) (v := .int .i64 a1) hb (by omega))
  have HK5 := Aside0.mk (KeepBut.far_ (HK.out.trans hk (.inl rfl)) (show w.heap.size ≤ w3.heap.size by omega) 1 (.int .i64 a1))
  clear hs hb hk HS HBb HK X Y hrest
  cases s1 with
  | nil =>
    obtain ⟨A5, c5, y0, _⟩ := HS5.out
    have y0 := blk_cell y0 0
    go_wp2_with fail
    refine (char_of g [] k1 (fun _ h => by cases h) w0 _ HS5.out HB5.out).mono ?_
    rintro e w6 ⟨rfl, hs, hb, hk⟩
    have Y6 := Aside0.mk (hk.blk Y5.out (by omega) (by simp))
    have y6_0 := blk_cell Y6.out 0
    have y6f_0 := blk_frozen Y6.out 0
    have y6_1 := blk_cell Y6.out 1
    have y6f_1 := blk_frozen Y6.out 1
    have y6_2 := blk_cell Y6.out 2
    have y6f_2 := blk_frozen Y6.out 2
    have y6_3 := blk_cell Y6.out 3
    have y6f_3 := blk_frozen Y6.out 3
    have y6_4 := blk_cell Y6.out 4
    have y6f_4 := blk_frozen Y6.out 4
    have y6_5 := blk_cell Y6.out 5
    have y6f_5 := blk_frozen Y6.out 5
    have y6_6 := blk_cell Y6.out 6
    have y6f_6 := blk_frozen Y6.out 6
    have X6 := Aside0.mk (hk.blk X5.out (by omega) (by simp))
    have x6_0 := blk_cell X6.out 0
    have x6f_0 := blk_frozen X6.out 0
    have x6_1 := blk_cell X6.out 1
    have x6f_1 := blk_frozen X6.out 1
    have x6_2 := blk_cell X6.out 2
    have x6f_2 := blk_frozen X6.out 2
    have x6_3 := blk_cell X6.out 3
    have x6f_3 := blk_frozen X6.out 3
    have x6_4 := blk_cell X6.out 4
    have x6f_4 := blk_frozen X6.out 4
    have x6_5 := blk_cell X6.out 5
    have x6f_5 := blk_frozen X6.out 5
    have x6_6 := blk_cell X6.out 6
    have x6f_6 := blk_frozen X6.out 6
    have HS6 := Aside0.mk hs
    have HB6 := Aside0.mk hb
    have HK6 := Aside0.mk ((HK5.out).trans hk (.inl rfl))
    clear hs hb hk
    go_wp2
    refine op_fin (gb := w.heap.size) (blk_far Y6.out (by show w.heap.size ≠ w3.heap.size; omega) _) (Nat.le_refl _) hg hB0 (HS6.out.far (by omega) _ _) (Kd.R_nil _ _ _ _ _) (Kd.R_nil _ _ _ _ _) (below_set HB6.out (by omega)) (KeepBut.far_ HK6.out (by omega) _ _) rfl rfl rfl rfl rfl rfl
  | cons x r =>
    obtain ⟨ad5, c5, y0, y1, hc5⟩ := HS5.out.first HB5.out (by simp)
    replace y1 : (w4.setCell ⟨w3.heap.size, 1, none⟩ (.int .i64 a1)).cell? ad5 = some (.int .u8 x) := y1
    have q8 : (0 < (x :: r).length) = True := eq_true (by simp)
    by_cases c8 : x = 8
    · subst c8
      have hgr : graphF (8 :: r) = (true, r) := by simp [graphF]
      have HG := Aside0.mk hgr
      clear hgr
      go_wp2_with fail
      refine (take_ok g 1 (8 :: r) k1 (by simp) w0 _ HS5.out HB5.out).mono ?_
      rintro e w7 ⟨A7, rfl, _, hs, hb, hk⟩
      have hs : SS w0 w7 g r k1 := hs
      have Y7 := Aside0.mk (blk_far (p := ⟨w3.heap.size, 3, none⟩) (hk.blk Y5.out (by omega) (by simp)) (by show w.heap.size ≠ w3.heap.size; omega) (.bool true))
      have X6 := Aside0.mk (hk.blk X5.out (by omega) (by simp))
      have X7 := Aside0.mk (blk_put (cs' := #[.int .i64 60, .int .i64 a1, .int .u8 0, .bool true, .int .u8 0, .slice none 0 0, .slice none 0 0]) X6.out 3 (.bool true) rfl)
      have x6_3 := blk_cell X6.out 3
      have x6f_3 := blk_frozen X6.out 3
      have HS7 := Aside0.mk (SS.far hs (show g ≠ w3.heap.size by omega) 3 (.bool true))
      have HB7 := Aside0.mk (below_set (g := w3.heap.size) (j := 3) (v := .bool true) hb (by omega))
      have HK7 := Aside0.mk (KeepBut.far_ (HK5.out.trans hk (.inl rfl)) (show w.heap.size ≤ w3.heap.size by omega) 3 (.bool true))
      clear hs hb hk y0 y1 x4_1 x4f_1
      go_wp2_with fail
      refine (char_of g r k1 (fun y hy => HR.out y (by simp [hy])) w0 _ HS7.out HB7.out).mono ?_
      rintro e w9 ⟨rfl, hs, hb, hk⟩
      have Y6 := Aside0.mk (hk.blk Y7.out (by omega) (by simp))
      have y6_0 := blk_cell Y6.out 0
      have y6f_0 := blk_frozen Y6.out 0
      have y6_1 := blk_cell Y6.out 1
      have y6f_1 := blk_frozen Y6.out 1
      have y6_2 := blk_cell Y6.out 2
      have y6f_2 := blk_frozen Y6.out 2
      have y6_3 := blk_cell Y6.out 3
      have y6f_3 := blk_frozen Y6.out 3
      have y6_4 := blk_cell Y6.out 4
      have y6f_4 := blk_frozen Y6.out 4
      have y6_5 := blk_cell Y6.out 5
      have y6f_5 := blk_frozen Y6.out 5
      have y6_6 := blk_cell Y6.out 6
      have y6f_6 := blk_frozen Y6.out 6
      have X6 := Aside0.mk (hk.blk X7.out (by omega) (by simp))
      have x6_0 := blk_cell X6.out 0
      have x6f_0 := blk_frozen X6.out 0
      have x6_1 := blk_cell X6.out 1
      have x6f_1 := blk_frozen X6.out 1
      have x6_2 := blk_cell X6.out 2
      have x6f_2 := blk_frozen X6.out 2
      have x6_3 := blk_cell X6.out 3
      have x6f_3 := blk_frozen X6.out 3
      have x6_4 := blk_cell X6.out 4
      have x6f_4 := blk_frozen X6.out 4
      have x6_5 := blk_cell X6.out 5
      have x6f_5 := blk_frozen X6.out 5
      have x6_6 := blk_cell X6.out 6
      have x6f_6 := blk_frozen X6.out 6
      have HS6 := Aside0.mk hs
      have HB6 := Aside0.mk hb
      have HK6 := Aside0.mk ((HK7.out).trans hk (.inl rfl))
      clear hs hb hk
      go_wp2
      rw [HG.out]
      dsimp only
      refine op_fin (gb := w.heap.size) (blk_far Y6.out (by show w.heap.size ≠ w3.heap.size; omega) _) (Nat.le_refl _) hg hB0 (HS6.out.far (by omega) _ _) (Kd.R_nil _ _ _ _ _) (Kd.R_nil _ _ _ _ _) (below_set HB6.out (by omega)) (KeepBut.far_ HK6.out (by omega) _ _) rfl rfl rfl rfl rfl rfl
    · have hgr : graphF (x :: r) = (false, x :: r) := by simp [graphF, c8]
      have HG := Aside0.mk hgr
      have cb8 : (x == 8) = false := beq_eq_false_iff_ne.2 c8
      have cb9 : decide (x = 8) = false := decide_eq_false c8
      clear hgr
      go_wp2_with fail
      refine (char_of g (x :: r) k1 HR.out w0 _ HS5.out HB5.out).mono ?_
      rintro e w6 ⟨rfl, hs, hb, hk⟩
      have Y6 := Aside0.mk (hk.blk Y5.out (by omega) (by simp))
      have y6_0 := blk_cell Y6.out 0
      have y6f_0 := blk_frozen Y6.out 0
      have y6_1 := blk_cell Y6.out 1
      have y6f_1 := blk_frozen Y6.out 1
      have y6_2 := blk_cell Y6.out 2
      have y6f_2 := blk_frozen Y6.out 2
      have y6_3 := blk_cell Y6.out 3
      have y6f_3 := blk_frozen Y6.out 3
      have y6_4 := blk_cell Y6.out 4
      have y6f_4 := blk_frozen Y6.out 4
      have y6_5 := blk_cell Y6.out 5
      have y6f_5 := blk_frozen Y6.out 5
      have y6_6 := blk_cell Y6.out 6
      have y6f_6 := blk_frozen Y6.out 6
      have X6 := Aside0.mk (hk.blk X5.out (by omega) (by simp))
      have x6_0 := blk_cell X6.out 0
      have x6f_0 := blk_frozen X6.out 0
      have x6_1 := blk_cell X6.out 1
      have x6f_1 := blk_frozen X6.out 1
      have x6_2 := blk_cell X6.out 2
      have x6f_2 := blk_frozen X6.out 2
      have x6_3 := blk_cell X6.out 3
      have x6f_3 := blk_frozen X6.out 3
      have x6_4 := blk_cell X6.out 4
      have x6f_4 := blk_frozen X6.out 4
      have x6_5 := blk_cell X6.out 5
      have x6f_5 := blk_frozen X6.out 5
      have x6_6 := blk_cell X6.out 6
      have x6f_6 := blk_frozen X6.out 6
      have HS6 := Aside0.mk hs
      have HB6 := Aside0.mk hb
      have HK6 := Aside0.mk ((HK5.out).trans hk (.inl rfl))
      clear hs hb hk
      go_wp2
      rw [HG.out]
      dsimp only
      refine op_fin (gb := w.heap.size) (blk_far Y6.out (by show w.heap.size ≠ w3.heap.size; omega) _) (Nat.le_refl _) hg hB0 (HS6.out.far (by omega) _ _) (Kd.R_nil _ _ _ _ _) (Kd.R_nil _ _ _ _ _) (below_set HB6.out (by omega)) (KeepBut.far_ HK6.out (by omega) _ _) rfl rfl rfl rfl rfl rfl
end Go.Proofs.Ytmejmlohinjpdaa.Sc
