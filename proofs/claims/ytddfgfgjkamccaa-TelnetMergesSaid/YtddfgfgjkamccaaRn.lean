/- TelnetMerges walked. -/
import Derived.Test.YtddfgfgjkamccaaRm
namespace Go.Proofs.Ytddfgfgjkamccaa.Tn
open Go Go.RowKit Go.Proofs.YtddfgfgjkamccaaW.PrintWords Go.Proofs.YtddfgfgjkamccaaW.PrintLast Go.Proofs.YtddfgfgjkamccaaW.PrintMore Go.Proofs.Ytddfgfgjkamccaa.PTe
set_option linter.unusedVariables false
set_option linter.unusedSimpArgs false
def cut20 (e : S35) : S35 := { e with f3 := e.f3.take 20 }
def mineK (l : List S35) (k : Nat) : List S36 := (l.take k).map (fun e => vc (cut20 e))
def wantK (l : List S35) (k : Nat) : List S35 := ((l.take k).map cut20).foldl wntF []
theorem cut20_ok (l : List Int) : vitrineref01_Cut.f l 20 = some (l.take 20) := by
  unfold vitrineref01_Cut.f
  by_cases c : (l.length : Int) > 20
  · rw [if_pos c, if_pos (by decide), if_pos (by omega), copy_ok _ (by rw [List.length_take]; omega)]; rfl
  · rw [if_neg c, copy_ok _ (by omega), List.take_of_length_le (by omega)]; rfl
theorem take_snoc {α : Type} {l : List α} {k : Nat} (d : α) (hk : k < l.length) : l.take (k + 1) = l.take k ++ [l.getD k d] := by
  rw [List.take_add_one, List.getD_eq_getElem?_getD, List.getElem?_eq_getElem hk]; rfl
theorem mineK_succ {l : List S35} {k : Nat} (hk : k < l.length) : mineK l (k + 1) = mineK l k ++ [vc (cut20 (rd_T35 l (k : Int)))] := by
  unfold mineK rd_T35
  rw [take_snoc z35 hk, List.map_append, Int.toNat_natCast]; rfl
theorem wantK_succ {l : List S35} {k : Nat} (hk : k < l.length) : wantK l (k + 1) = wntF (wantK l k) (cut20 (rd_T35 l (k : Int))) := by
  unfold wantK rd_T35
  rw [take_snoc z35 hk, List.map_append, List.foldl_append, Int.toNat_natCast]; rfl
theorem mineK_len (l : List S35) (k : Nat) : (mineK l k).length ≤ k := by unfold mineK; rw [List.length_map, List.length_take]; omega
theorem wntF_len (out : List S35) (e : S35) : (wntF out e).length ≤ out.length + 1 := by
  unfold wntF
  split
  · simp
  · split
    · omega
    · split
      · simp
      · simp
theorem wntF_f3 {out : List S35} {e : S35} {m n : Nat} (h : ∀ x ∈ out, x.f3.length ≤ m) (he : e.f3.length ≤ n) : ∀ x ∈ wntF out e, x.f3.length ≤ m + n := by
  intro x hx
  unfold wntF at hx
  split at hx
  · rcases List.mem_append.1 hx with hx | hx
    · have := h x hx; omega
    · simp at hx; subst hx; omega
  · split at hx
    · have := h x hx; omega
    · split at hx
      · rename_i hc
        rcases List.mem_or_eq_of_mem_set hx with hx | hx
        · have := h x hx; omega
        · subst hx
          have := h (lastD out) (rd_mem out hc.1)
          simp; omega
      · rcases List.mem_append.1 hx with hx | hx
        · have := h x hx; omega
        · simp at hx; subst hx; simp; omega
theorem mineK_f3 (l : List S35) (k : Nat) : ∀ x ∈ mineK l k, x.f3.length ≤ 20 := by
  intro x hx
  unfold mineK at hx
  obtain ⟨e, _, rfl⟩ := List.mem_map.1 hx
  show (e.f3.take 20).length ≤ 20
  rw [List.length_take]; omega
theorem fold_B36 (n : Nat) : ∀ (l out : List S36) (m : Nat), (∀ x ∈ l, x.f3.length ≤ n) → (∀ x ∈ out, x.f3.length ≤ m) → (l.foldl mrgF out).length ≤ out.length + l.length ∧ ∀ x ∈ l.foldl mrgF out, x.f3.length ≤ m + l.length * n
  | [], out, m, h, ho => ⟨by simp, fun x hx => by have := ho x hx; simp; omega⟩
  | e :: l, out, m, h, ho => by
    obtain ⟨h1, h2⟩ := fold_B36 n l (mrgF out e) (m + n) (fun x hx => h x (List.mem_cons_of_mem _ hx)) (mrgF_f3 ho (h e List.mem_cons_self))
    rw [List.foldl_cons, List.length_cons]
    refine ⟨by have := mrgF_len out e; omega, fun x hx => ?_⟩
    have := h2 x hx
    rw [Nat.add_mul]
    omega
theorem mergeL_B (l : List S36) (n : Nat) (h : ∀ x ∈ l, x.f3.length ≤ n) : (mergeL l).length ≤ l.length ∧ ∀ x ∈ mergeL l, x.f3.length ≤ l.length * n := by
  have := fold_B36 n l [] 0 h (by simp)
  unfold mergeL
  simpa using this
theorem want_mine (l : List S35) (k : Nat) : wantK l k = (mergeL (mineK l k)).map cv := by
  unfold wantK mergeL mineK
  rw [merge_cv, List.map_map]
  rfl
theorem same_ok (A0 : Option Addr) (c0 n0 : Nat) (A1 : Option Addr) (c1 n1 : Nat) (l X : List S35) (w : World) (hC0 : Kd.C k35 w A0 l.length l) (hc0 : l.length ≤ c0) (hC1 : Kd.C k35 w A1 X.length X) (hc1 : X.length ≤ c1) (hX : X = l) (hl : l.length ≤ 1000000) (h0 : n0 = l.length) (h1 : n1 = X.length) :
    Calls Try.prog 10 #[.slice A0 n0 c0, .slice A1 n1 c1] w fun e w' => e = .returned (.bool true) ∧ Below w.heap.size w w' := by
  subst h0 h1 hX
  exact vitrineref06_Same.calls (X.length + 1) A0 c0 X A1 c1 X true w hC0 hc0 hC1 hc1 (same_eq X hl)
structure LI (l : List S35) (w : World) (k : Nat) (M : List S36) (X : List S35) (v3 v4 : Value) (wr : World) : Prop where
  hk : k ≤ l.length
  k30 : k ≤ 30
  mEq : M = mineK l k
  xEq : X = wantK l k
  len : X.length ≤ k
  f3 : ∀ x ∈ X, x.f3.length ≤ k * 20
  rowM : Kd.R k36 36 wr w.heap.size (fun _ => True) v3 M
  rowW : Kd.R k35 35 wr w.heap.size (fun _ => True) v4 X
  bel : Below w.heap.size w wr
theorem LI.below {l : List S35} {w : World} {k : Nat} {M : List S36} {X : List S35} {v3 v4 : Value} {wr w2 : World} (h : LI l w k M X v3 v4 wr) (hb : Below wr.heap.size wr w2) : LI l w k M X v3 v4 w2 :=
  { h with rowM := Kd.R_below h.rowM hb, rowW := Kd.R_below h.rowW hb, bel := h.bel.trans (hb.mono h.bel.size) }
/-- Another of the law's own rows has been written: by types it is none of these. -/
theorem R_typ {α : Type} {d : Kd α} {e : Nat} {W w1 : World} {B : Nat} {u : Value} {xs : List α} (h : Kd.R d e W B (fun _ => True) u xs) {row : Option Nat} (hg : W.grownBy w1 row) {t : Nat} (hty : ∀ k, row = some k → ∃ cells, W.heap[k]? = some (.cells cells t (0, 0))) (ht : ∀ q, q ∈ e :: d.E → q ≠ t) : Kd.R d e w1 B (fun _ => True) u xs := by
  refine Kd.R_mono (Kd.R_grown (Kd.R_bound h) hg (fun k hk he => ?_)) (fun _ _ => trivial)
  obtain ⟨_, _, _, q, hq, cells, hc⟩ := hk
  obtain ⟨c2, hc2⟩ := hty k he.symm
  rw [hc] at hc2
  injection hc2 with hc2
  injection hc2 with _ hc2
  exact ht q hq hc2
theorem push36 {W : World} {B : Nat} {v : Value} {xs : List S36} (e : S36) {A3 : Option Addr} {c3 : Nat} (h : Kd.R k36 36 W B (fun _ => True) v xs) (h3 : Kd.R kB 5 W B (fun _ => True) (.slice A3 e.f3.length c3) e.f3) (hB : B ≤ W.heap.size) (hl : xs.length ≤ 100000) :
    ∃ A7 c7 w4, (Builtin.append_ #[31, 31] 31 #[v, .slice (some ⟨W.heap.size, 0, none⟩) 1 1]).run Try.prog (W.alloc (.cells #[.int .i64 e.f0, .int .u8 e.f1, .int .u8 e.f2, .slice A3 e.f3.length c3, .bool e.f4, .bool e.f5] 36)) = .ok (.slice A7 (xs ++ [e]).length c7) w4 ∧
      Kd.R k36 36 w4 B (fun _ => True) (.slice A7 (xs ++ [e]).length c7) (xs ++ [e]) ∧ Below B W w4 ∧ W.grownBy w4 v.ownBlock := by
  obtain ⟨v7, w4, hrun, hR7, hB7, hg7, hat⟩ := R_run k36 (W := W) (p := e) (cs := [.int .i64 e.f0, .int .u8 e.f1, .int .u8 e.f2, .slice A3 e.f3.length c3, .bool e.f4, .bool e.f5]) B 31 36 _ 48 Try.underlying31 info36 rfl (by decide) (by decide) (ok := fun _ => True) (okp := fun k => (Value.slice A3 e.f3.length c3).ownBlock = some k)
    (k36_mkM _ _ _ e (Kd.R_mono (Kd.R_tight kB_E h3) (fun k hk => hk.symm))) (fun k hk => ⟨trivial, R5_ne36 h3 h k hk⟩) (fun _ _ => trivial) h hB (by omega)
  obtain ⟨A7, c7, rfl⟩ := Kd.R_slice hR7
  exact ⟨A7, c7, w4, hrun, hR7, hB7, hg7⟩
theorem push35 {W : World} {B : Nat} {v : Value} {xs : List S35} (e : S35) {A3 : Option Addr} {c3 : Nat} (h : Kd.R k35 35 W B (fun _ => True) v xs) (h3 : Kd.R kB 5 W B (fun _ => True) (.slice A3 e.f3.length c3) e.f3) (hB : B ≤ W.heap.size) (hl : xs.length ≤ 100000) :
    ∃ A7 c7 w4, (Builtin.append_ #[25, 25] 25 #[v, .slice (some ⟨W.heap.size, 0, none⟩) 1 1]).run Try.prog (W.alloc (.cells #[.int .i64 e.f0, .int .u8 e.f1, .int .u8 e.f2, .slice A3 e.f3.length c3, .bool e.f4, .bool e.f5] 35)) = .ok (.slice A7 (xs ++ [e]).length c7) w4 ∧
      Kd.R k35 35 w4 B (fun _ => True) (.slice A7 (xs ++ [e]).length c7) (xs ++ [e]) ∧ Below B W w4 ∧ W.grownBy w4 v.ownBlock := by
  obtain ⟨v7, w4, hrun, hR7, hB7, hg7, hat⟩ := R_run k35 (W := W) (p := e) (cs := [.int .i64 e.f0, .int .u8 e.f1, .int .u8 e.f2, .slice A3 e.f3.length c3, .bool e.f4, .bool e.f5]) B 25 35 _ 48 Try.underlying25 info35 rfl (by decide) (by decide) (ok := fun _ => True) (okp := fun k => (Value.slice A3 e.f3.length c3).ownBlock = some k)
    (k35_mkM _ _ _ e (Kd.R_mono (Kd.R_tight kB_E h3) (fun k hk => hk.symm))) (fun k hk => ⟨trivial, R5_ne35 h3 h k hk⟩) (fun _ _ => trivial) h hB (by omega)
  obtain ⟨A7, c7, rfl⟩ := Kd.R_slice hR7
  exact ⟨A7, c7, w4, hrun, hR7, hB7, hg7⟩
theorem LI.step {l : List S35} {w : World} {k : Nat} {M : List S36} {X : List S35} {v3 v4 : Value} {wr : World} (h : LI l w k M X v3 v4 wr) (hlt : k < l.length) (h30 : k < 30) {e : S35} {d3 : List Int} (he : rd_T35 l (k : Int) = e) (hd : d3 = e.f3.take 20) {M2 : List S36} {X2 : List S35} {u3 u4 : Value} {w2 : World}
    (hM : M2 = M ++ [⟨e.f0, e.f1, e.f2, d3, e.f4, e.f5⟩]) (hX : X2 = wntF X ⟨e.f0, e.f1, e.f2, d3, e.f4, e.f5⟩) (h1 : Kd.R k36 36 w2 w.heap.size (fun _ => True) u3 M2) (h2 : Kd.R k35 35 w2 w.heap.size (fun _ => True) u4 X2) (hb : Below w.heap.size w w2) : LI l w (k + 1) M2 X2 u3 u4 w2 := by
  subst hd
  refine ⟨by omega, by omega, ?_, ?_, ?_, ?_, h1, h2, hb⟩
  · rw [hM, mineK_succ hlt, he, h.mEq]; rfl
  · rw [hX, wantK_succ hlt, he, h.xEq]; rfl
  · rw [hX]; have := wntF_len X ⟨e.f0, e.f1, e.f2, e.f3.take 20, e.f4, e.f5⟩; have := h.len; omega
  · rw [hX]
    intro x hx
    have := wntF_f3 h.f3 (n := 20) (show (e.f3.take 20).length ≤ 20 by rw [List.length_take]; omega) x hx
    omega
set_option maxHeartbeats 16000000 in
set_option maxRecDepth 4000 in
theorem merges_walk (A0 : Option Addr) (c0 : Nat) (l0 : List S35) (w : World) (h0 : Kd.C k35 w A0 l0.length l0) (hc0 : l0.length ≤ c0) {Pr : Prop} (ok0 : l0.length ≤ maxLen ∧ Pr) :
    Calls Try.prog 4 #[.slice A0 l0.length c0] w fun e w' => e = .returned (.bool true) ∧ Below w.heap.size w w' := by
  have H0 := Aside0.mk h0
  have hl0 : l0.length ≤ 9223372036854775807 := ok0.1
  clear h0 ok0
  go_enter Try.func4, Try.ntmps4
  go_wp2_with fail
  refine (awake_of w).mono ?_
  rintro e w1 ⟨rfl, hb1⟩
  have HB1 := Aside0.mk hb1
  clear hb1
  go_upto_block 0 with (fail)
  go_cut [3, 4] (fun v3 v4 wx => ∃ (k : Nat) (M : List S36) (X : List S35) (A3 A4 : Option Addr) (c3 c4 : Nat), v3 = .slice A3 M.length c3 ∧ v4 = .slice A4 X.length c4 ∧ Aside0 (LI l0 w k M X (.slice A3 M.length c3) (.slice A4 X.length c4) wx))
  case first =>
    have HI0 : Aside0 (LI l0 w 0 [] [] (.slice none 0 0) (.slice none 0 0) w1) := ⟨⟨by omega, by omega, rfl, rfl, by simp, by simp, Kd.R_nil _ _ _ _ _, Kd.R_nil _ _ _ _ _, HB1.out⟩⟩
    go_wp2
    go_loopw [3, 4, 14] (fun v3 v4 v14 wr => ∃ (k : Nat) (M : List S36) (X : List S35) (A3 A4 : Option Addr) (c3 c4 : Nat), v3 = .slice A3 M.length c3 ∧ v4 = .slice A4 X.length c4 ∧ v14 = .int .i64 (k : Int) ∧ Aside0 (LI l0 w k M X (.slice A3 M.length c3) (.slice A4 X.length c4) wr)) (fun _ _ v _ => l0.length - (intOf v).toNat)
    case atStart => exact ⟨0, [], [], none, none, 0, 0, rfl, rfl, rfl, HI0⟩
    case round =>
      clear HI0
      obtain ⟨k, M, X, A3, A4, c3, c4, rfl, rfl, rfl, HI⟩ := hrel
      have hk := HI.out.hk
      have hk30 := HI.out.k30
      by_cases d : k < l0.length
      · have cb : decide ((k : Int) < (l0.length : Int)) = true := decide_eq_true (by omega)
        have cn : decide (k < l0.length) = true := decide_eq_true d
        obtain ⟨ad, Ae, ce, rfl, x0, x1, x2, x3, x4, x5, hle, hCe⟩ := at_T35 (Kd.C_below H0.out (show Below w.heap.size w wr from HI.out.bel)) (k : Int) (by omega) (by omega)
        simp only [Int.toNat_natCast] at x0 x1 x2 x3 x4 x5
        have p0 : (0 ≤ (k : Int)) = True := eq_true (by omega)
        have q0 : ((k : Int) < (l0.length : Int)) = True := eq_true (by omega)
        obtain ⟨e, he⟩ : ∃ e, rd_T35 l0 (k : Int) = e := ⟨_, rfl⟩
        rw [he] at x0 x1 x2 x3 x4 x5 hle hCe
        have HE := Aside0.mk he
        have HD := Aside0.mk d
        have HL := Aside0.mk hl0
        clear d he
        by_cases d30 : k < 30
        · have u0 : decide ((k : Int) ≥ 30) = false := decide_eq_false (by omega)
          have u1 : decide ((30 : Int) ≤ (k : Int)) = false := decide_eq_false (by omega)
          have u2 : decide (30 ≤ k) = false := decide_eq_false (by omega)
          have HK := Aside0.mk d30
          have HA1 := below_alloc (Below.refl wr.heap.size wr) (.cells #[.int .i64 e.f0, .int .u8 e.f1, .int .u8 e.f2, .slice Ae e.f3.length ce, .bool e.f4, .bool e.f5] 35)
          obtain ⟨d3, hd3⟩ : ∃ d3, d3 = e.f3.take 20 := ⟨_, rfl⟩
          have hcut := cut20_ok e.f3
          rw [← hd3] at hcut
          have HCL := Aside0.mk (vitrineref01_Cut.calls Ae ce e.f3 20 d3 _ (Kd.C_below hCe HA1) hle hcut)
          have HA := Aside0.mk HA1
          have HDD := Aside0.mk hd3
          have hdl : d3.length ≤ 20 := by rw [hd3, List.length_take]; omega
          have HDL := Aside0.mk hdl
          clear HA1 hd3 hcut d30 hCe hdl hk hk30 hl0
          go_wp2_with fail
          refine HCL.out.mono ?_
          rintro r w2 ⟨v5, rfl, hR, hB⟩
          obtain ⟨A5, c5, rfl⟩ := Kd.R_slice hR
          have X1 := blk_below (blk_new wr (.cells #[.int .i64 e.f0, .int .u8 e.f1, .int .u8 e.f2, .slice Ae e.f3.length ce, .bool e.f4, .bool e.f5] 35)) hB
          have X2 := blk_put X1 3 (.slice A5 d3.length c5) rfl
          have hB3 : Below wr.heap.size wr (w2.setCell ⟨wr.heap.size, 3, none⟩ (.slice A5 d3.length c5)) := below_set (below_step HA.out hB) (Nat.le_refl _)
          have hI3 := HI.out.below hB3
          have hR3 : Kd.R kB 5 (w2.setCell ⟨wr.heap.size, 3, none⟩ (.slice A5 d3.length c5)) w.heap.size (fun _ => True) (.slice A5 d3.length c5) d3 := Kd.R_lower (Kd.R_set hR X1 (by intro q hq; rw [kB_E] at hq; simp at hq; subst hq; decide) 3 _) (Nat.le_trans HI.out.bel.size HA.out.size)
          obtain ⟨A7, c7, w4, hrun, hM7, hB7, hg7⟩ := push36 (⟨e.f0, e.f1, e.f2, d3, e.f4, e.f5⟩ : S36) hI3.rowM hR3 hI3.bel.size (by have := mineK_len l0 k; rw [HI.out.mEq]; have := HK.out; omega)
          have hW4 := Kd.R_over hI3.rowW hI3.rowM (by intro q hq; rw [k35_E] at hq; simp at hq; rcases hq with rfl | rfl <;> decide) hg7
          have hR4 := Kd.R_over hR3 hI3.rowM (by intro q hq; rw [kB_E] at hq; simp at hq; subst hq; decide) hg7
          have X4 := blk_grown X2 hg7 (ne_typed X2 hI3.rowM (by decide))
          have hB4 := hI3.bel.trans hB7
          rw [World.size_setCell] at hrun
          have k3 : w2.cell? ⟨wr.heap.size, 3, none⟩ = some (.slice Ae e.f3.length ce) := (blk_cell X1 3).trans rfl
          have f3_ := blk_frozen X1 3
          have y0 := (blk_cell X2 0).trans rfl
          have y1 := (blk_cell X2 1).trans rfl
          have y2 := (blk_cell X2 2).trans rfl
          have y3 := (blk_cell X2 3).trans rfl
          have y4 := (blk_cell X2 4).trans rfl
          have y5 := (blk_cell X2 5).trans rfl
          have z0 := (blk_cell X4 0).trans rfl
          have z1 := (blk_cell X4 1).trans rfl
          have z2 := (blk_cell X4 2).trans rfl
          have z3 := (blk_cell X4 3).trans rfl
          have z4 := (blk_cell X4 4).trans rfl
          have z5 := (blk_cell X4 5).trans rfl
          have hBz := hB4.size
          have hXl : X.length ≤ 100000 := by have := HI.out.len; have := HK.out; omega
          have hMl : M.length ≤ 100000 := by have := mineK_len l0 k; rw [HI.out.mEq]; have := HK.out; omega
          have HB4 := Aside0.mk hB4
          have HM7 := Aside0.mk hM7
          clear hR hB HA HCL X1 X2 hB3 hI3 hR3 hB7 hg7 hB4
          by_cases c0 : e.f0 = 0
          · have t0 : (e.f0 != 0) = false := bne_eq_false_iff_eq.mpr c0
            have t0' : (e.f0 == 0) = true := beq_iff_eq.mpr c0
            by_cases c1 : d3 = []
            · have t1 : (((d3.length : Nat) : Int) == 0) = true := by rw [c1]; rfl
              have t1' : (d3.length == 0) = true := by rw [c1]; rfl
              have t1'' : (d3.length = 0) = True := eq_true (by rw [c1]; rfl)
              have HS := Aside0.mk (show wntF X ⟨e.f0, e.f1, e.f2, d3, e.f4, e.f5⟩ = X by unfold wntF; rw [if_neg (by simp [c0]), if_pos c1])
              have HW4 := Aside0.mk hW4
              clear c0 c1 hW4 hR4 X4 hM7 hBz
              go_wp2_with ((with_reducible refine gate_dst (N := 28) rfl ?_); refine Kd.event_run (by rfl) (exec_append' (.tmp 25) (.tmp 27) 31 hrun (by rfl) (by rfl) (by rfl) (by rfl)) ?_; clear hrun)
              go_roundw
              case rel => exact ⟨k + 1, M ++ [⟨e.f0, e.f1, e.f2, d3, e.f4, e.f5⟩], X, A7, A4, c7, c4, by rw [List.length_append]; rfl, rfl, (by first | exact next_j k | exact next_i HD.out HL.out), ⟨HI.out.step HD.out HK.out HE.out HDD.out rfl HS.out.symm HM7.out HW4.out HB4.out⟩⟩
              case measure => first | exact meas_j HD.out | exact meas HD.out HL.out
            · have t1 : (((d3.length : Nat) : Int) == 0) = false := by
                rw [beq_eq_false_iff_ne]; intro h; exact c1 (List.eq_nil_of_length_eq_zero (by omega))
              have t1' : (d3.length == 0) = false := by
                rw [beq_eq_false_iff_ne]; intro h; exact c1 (List.eq_nil_of_length_eq_zero h)
              have t1'' : (d3.length = 0) = False := eq_false (fun h => c1 (List.eq_nil_of_length_eq_zero h))
              by_cases c2 : 0 < X.length
              · have v0 : decide ((X.length : Int) > 0) = true := decide_eq_true (by omega)
                have v1 : decide (0 < X.length) = true := decide_eq_true (by omega)
                have n0 : wrap64 ((X.length : Int) - 1) = (X.length : Int) - 1 := wrap_in _ (by omega) (by omega)
                have n1 : IntKind.i64.wrap ((X.length : Int) - 1) = (X.length : Int) - 1 := (i64_w _).trans n0
                have i0 : ((0 : Int) ≤ (X.length : Int) - 1) = True := eq_true (by omega)
                have i1 : ((X.length : Int) - 1 < (X.length : Int)) = True := eq_true (by omega)
                have i2 : ((X.length : Int) < 1) = False := eq_false (by omega)
                obtain ⟨g, c4', hv, hg0, hg1, _⟩ := Kd.R_form hW4 c2
                injection hv with hv1 _ hv3
                subst hv1 hv3
                have hnz : ((X.length - 1 : Nat) : Int).toNat = X.length - 1 := Int.toNat_natCast _
                obtain ⟨cc, hcl, hM', hcc, hfr⟩ := Kd.R_elem hW4 z35 ((X.length - 1 : Nat) : Int) (by omega) (by omega)
                have hl35 : X.getD ((X.length - 1 : Nat) : Int).toNat z35 = lastD X := rfl
                rw [hl35] at hM'
                obtain ⟨v9, rfl, hR9⟩ := k35_openM hM'
                obtain ⟨A9, c9, rfl⟩ := Kd.R_slice hR9
                rw [hnz] at hcc hfr
                have hq0 : w4.cell? ⟨g, (X.length - 1) * 6, none⟩ = some (.int .i64 (lastD X).f0) := hcc 0 _ rfl
                have hq3 : w4.cell? ⟨g, (X.length - 1) * 6 + 3, none⟩ = some (.slice A9 (lastD X).f3.length c9) := hcc 3 _ rfl
                have hf3 : w4.frozen? ⟨g, (X.length - 1) * 6 + 3, none⟩ = false := hfr 3
                by_cases c5_ : (lastD X).f0 = 0
                · have t5 : ((lastD X).f0 == 0) = true := by simpa using c5_
                  have HS := Aside0.mk (show wntF X ⟨e.f0, e.f1, e.f2, d3, e.f4, e.f5⟩ = X.set (X.length - 1) { lastD X with f3 := (lastD X).f3 ++ d3 } by unfold wntF; rw [if_neg (by simp [c0]), if_neg c1, if_pos ⟨c2, c5_⟩])
                  have HW4 := Aside0.mk hW4
                  have HCC := Aside0.mk hcc
                  have HCL_ := Aside0.mk hcl
                  have HXP := Aside0.mk c2
                  have HG0 := Aside0.mk hg0
                  have HC5 := Aside0.mk (Kd.R_reads' hR4).2.2
                  have HC9 := Aside0.mk (Kd.R_reads' hR9).2.2
                  have HL9 := Aside0.mk (Kd.R_reads' hR9).2.1
                  have HL5 := Aside0.mk (show (lastD X).f3.length ≤ 100000 by have := HI.out.f3 _ (rd_mem X c2); have h2 := HK.out; show (rd_T35 X ((X.length - 1 : Nat) : Int)).f3.length ≤ 100000; omega)
                  have HCP := Aside0.mk (copy_ok (lastD X).f3 (by have := HL5.out; omega))
                  have HWZ := Aside0.mk hBz
                  clear hcc hM' hcl hfr c5_ c0 c1 c2 hW4 hR4 X4 hM7 hR9 hg0 hg1 hBz
                  go_wp2_with ((with_reducible refine gate_dst (N := 28) rfl ?_); refine Kd.event_run (by rfl) (exec_append' (.tmp 25) (.tmp 27) 31 hrun (by rfl) (by rfl) (by rfl) (by rfl)) ?_; clear hrun)
                  try (case isFalse => exact absurd HXP.out (by omega))
                  generalize wr.heap.size = gb at *
                  refine start_ (n := 16) (S := fun w' => w'.cell? ⟨g, (X.length - 1) * 6 + 3, none⟩ = some (.slice A9 (lastD X).f3.length c9) ∧ w'.cell? ⟨gb, 3, none⟩ = some (.slice A5 d3.length c5)) (ds := [15]) #[false, false, false, false, false, false, false, false, false, false, false, false, false, false, false, false] (by kernel_rfl) rfl rfl ⟨cell_dr1 hq3, cell_dr1 z3⟩ (fun hHeld => ?_)
                  refine pure_ (i := 0) (N := some 62) (v := ?_) (a' := ?_) #[true, false, false, false, false, false, false, false, false, false, false, false, false, false, false, false] rfl rfl (by kernel_rfl) (fun _ _ _ h => h) (Or.inl ⟨by rfl, ?_⟩) ?_ ?_
                  rotate_left
                  · intro w'
                    go_simp
                    with_reducible rfl
                  rotate_left
                  · simp only [Act.put, List.setIfInBounds_toArray, List.set_cons_zero, List.set_cons_succ, i64_w, i32_w]
                    rfl
                  refine pure_ (i := 1) (N := some 63) (v := ?_) (a' := ?_) #[true, true, false, false, false, false, false, false, false, false, false, false, false, false, false, false] rfl rfl (by kernel_rfl) (fun _ _ _ h => h) (Or.inl ⟨by rfl, ?_⟩) ?_ ?_
                  rotate_left
                  · intro w'
                    go_simp
                    with_reducible rfl
                  rotate_left
                  · simp only [Act.put, List.setIfInBounds_toArray, List.set_cons_zero, List.set_cons_succ, i64_w, i32_w]
                    rfl
                  refine pure_ (i := 2) (N := some 64) (v := ?_) (a' := ?_) #[true, true, true, false, false, false, false, false, false, false, false, false, false, false, false, false] rfl rfl (by kernel_rfl) (fun _ _ _ h => h) (Or.inl ⟨by rfl, ?_⟩) ?_ ?_
                  rotate_left
                  · intro w'
                    go_simp
                    with_reducible rfl
                  rotate_left
                  · simp only [Act.put, List.setIfInBounds_toArray, List.set_cons_zero, List.set_cons_succ, i64_w, i32_w]
                    rfl
                  refine pure_ (i := 3) (N := some 65) (v := ?_) (a' := ?_) #[true, true, true, true, false, false, false, false, false, false, false, false, false, false, false, false] rfl rfl (by kernel_rfl) (fun _ _ _ h => h) (Or.inl ⟨by rfl, ?_⟩) ?_ ?_
                  rotate_left
                  · intro w'
                    go_simp
                    with_reducible rfl
                  rotate_left
                  · simp only [Act.put, List.setIfInBounds_toArray, List.set_cons_zero, List.set_cons_succ, i64_w, i32_w]
                    rfl
                  refine pure_ (i := 4) (N := some 66) (v := ?_) (a' := ?_) #[true, true, true, true, true, false, false, false, false, false, false, false, false, false, false, false] rfl rfl (by kernel_rfl) (fun _ _ _ h => h) (Or.inl ⟨by rfl, ?_⟩) ?_ ?_
                  rotate_left
                  · intro w'
                    go_simp
                    with_reducible rfl
                  rotate_left
                  · simp only [Act.put, List.setIfInBounds_toArray, List.set_cons_zero, List.set_cons_succ, i64_w, i32_w]
                    rfl
                  refine pure_ (i := 5) (N := some 67) (v := ?_) (a' := ?_) #[true, true, true, true, true, true, false, false, false, false, false, false, false, false, false, false] rfl rfl (by kernel_rfl) (fun _ _ _ h => h) (Or.inl ⟨by rfl, ?_⟩) ?_ ?_
                  rotate_left
                  · intro w'
                    go_simp
                    with_reducible rfl
                  rotate_left
                  · simp only [Act.put, List.setIfInBounds_toArray, List.set_cons_zero, List.set_cons_succ, i64_w, i32_w]
                    rfl
                  refine pure_ (i := 6) (N := some 68) (v := ?_) (a' := ?_) #[true, true, true, true, true, true, true, false, false, false, false, false, false, false, false, false] rfl rfl (by kernel_rfl) (fun _ _ _ h => h) (Or.inl ⟨by rfl, ?_⟩) ?_ ?_
                  rotate_left
                  · intro w'
                    go_simp
                    with_reducible rfl
                  rotate_left
                  · simp only [Act.put, List.setIfInBounds_toArray, List.set_cons_zero, List.set_cons_succ, i64_w, i32_w]
                    rfl
                  refine pure_ (i := 7) (N := some 69) (v := ?_) (a' := ?_) #[true, true, true, true, true, true, true, true, false, false, false, false, false, false, false, false] rfl rfl (by kernel_rfl) (fun _ _ _ h => h) (Or.inl ⟨by rfl, ?_⟩) ?_ ?_
                  rotate_left
                  · intro w'
                    go_simp
                    with_reducible rfl
                  rotate_left
                  · simp only [Act.put, List.setIfInBounds_toArray, List.set_cons_zero, List.set_cons_succ, i64_w, i32_w]
                    rfl
                  refine pure_ (i := 10) (N := some 72) (v := ?_) (a' := ?_) #[true, true, true, true, true, true, true, true, false, false, true, false, false, false, false, false] rfl rfl (by kernel_rfl) (fun _ _ _ h => h) (Or.inl ⟨by rfl, ?_⟩) ?_ ?_
                  rotate_left
                  · intro w'
                    go_simp
                    with_reducible rfl
                  rotate_left
                  · simp only [Act.put, List.setIfInBounds_toArray, List.set_cons_zero, List.set_cons_succ, i64_w, i32_w]
                    rfl
                  refine take_ (i := 8) (N := some 70) (v := ?_) (a' := ?_) #[true, true, true, true, true, true, true, true, true, false, true, false, false, false, false, false] rfl rfl (by kernel_rfl) (fun _ _ _ h => h) (Or.inl ⟨by rfl, ?_⟩) hHeld ?_ ?_
                  rotate_left
                  · rintro w' ⟨s0, s1⟩
                    go_simp
                    with_reducible rfl
                  rotate_left
                  · simp only [Act.put, List.setIfInBounds_toArray, List.set_cons_zero, List.set_cons_succ, i64_w, i32_w]
                    rfl
                  refine take_ (i := 11) (N := some 73) (v := ?_) (a' := ?_) #[true, true, true, true, true, true, true, true, true, false, true, true, false, false, false, false] rfl rfl (by kernel_rfl) (fun _ _ _ h => h) (Or.inl ⟨by rfl, ?_⟩) hHeld ?_ ?_
                  rotate_left
                  · rintro w' ⟨s0, s1⟩
                    go_simp
                    with_reducible rfl
                  rotate_left
                  · simp only [Act.put, List.setIfInBounds_toArray, List.set_cons_zero, List.set_cons_succ, i64_w, i32_w]
                    rfl
                  refine one_ (i := 9) (N := some 71) #[true, true, true, true, true, true, true, true, true, true, true, true, false, false, false, false] rfl rfl (by kernel_rfl) (by decide) (fun K hK => ?_)
                  refine goes_ Try.func14 (by kernel_rfl) rfl #[.slice A9 (lastD X).f3.length c9] (by rfl) rfl rfl (by simp only [List.map_toArray, List.map_cons, List.map_nil]; rfl) ?_
                  with_reducible refine ((vitrineref01_Copy.calls A9 c9 (lastD X).f3 (lastD X).f3 _ (Kd.C_below HC9.out (below_drew (Below.refl _ _))) HL9.out HCP.out)).mono ?_
                  rintro e71 w71 ⟨v71, rfl, hR71, hb71⟩
                  refine ⟨_, rfl, ?_⟩
                  have hB71 : Below w4.heap.size w4 w71 := below_step (below_drew (Below.refl _ _)) hb71
                  refine hK.out _ _ ⟨pw_cell_below hb71 hHeld.1, pw_cell_below hb71 hHeld.2⟩ (fun hHeld => ?_)
                  clear hK K
                  refine norm_ (a' := ?_) ?_ ?_
                  rotate_left
                  · show Act.put _ (some 71) _ = _
                    simp only [Act.put, List.setIfInBounds_toArray, List.set_cons_zero, List.set_cons_succ, i64_w, i32_w]
                    rfl
                  refine one_ (i := 12) (N := some 74) #[true, true, true, true, true, true, true, true, true, true, true, true, true, false, false, false] rfl rfl (by kernel_rfl) (by decide) (fun K hK => ?_)
                  obtain ⟨v72, w72, hr72, hR72, hg72, hat72⟩ := Rows_run kB w4.heap.size 22 5 _ 1 Try.underlying22 info5 rfl (by decide) (by decide) v71 (lastD X).f3 d3 A5 d3.length c5 (ok := fun _ => True) (okp := fun _ => False) (Kd.R_lower hR71 (Nat.le_refl _)) (Kd.C_below HC5.out hB71) (fun _ _ hh => hh) (fun _ hk => hk.elim) (fun _ _ => trivial) hB71.size (by have := HL5.out; have := HDL.out; omega)
                  obtain ⟨A6, c6, rfl⟩ := Kd.R_slice hR72
                  have hn72 : ((lastD X).f3 ++ d3).length = (lastD X).f3.length + d3.length := List.length_append
                  rw [hn72] at hr72 hR72
                  have hB72 : Below w4.heap.size w4 w72 := hB71.grown hg72 hB71.size (fun k hk => Kd.R_base hR71 k hk)
                  have hk72 : w72.cell? ⟨g, (X.length - 1) * 6 + 3, none⟩ = _ := pw_cell_below hB72 hq3
                  have hx72 : w72.cell? ⟨gb, 3, none⟩ = _ := pw_cell_below hB72 z3
                  have hf72 : w72.frozen? ⟨g, (X.length - 1) * 6 + 3, none⟩ = false := (hB72.frozen (World.block_lt_of_cell? w4 _ hq3)).trans hf3
                  refine value_ (w1 := w72) (v := .slice A6 ((lastD X).f3.length + d3.length) c6) (by rfl) rfl ?_ ?_
                  · exact exec_append' (.tmp 71) (.tmp 73) 22 hr72 (by rfl) (by rfl) (by rfl) (by rfl)
                  refine hK.out _ _ ⟨hk72, hx72⟩ (fun hHeld => ?_)
                  clear hK K
                  refine norm_ (a' := ?_) ?_ ?_
                  rotate_left
                  · show Act.put _ (some 74) _ = _
                    simp only [Act.put, List.setIfInBounds_toArray, List.set_cons_zero, List.set_cons_succ, i64_w, i32_w]
                    rfl
                  refine pure_ (i := 13) (N := some 75) (v := ?_) (a' := ?_) #[true, true, true, true, true, true, true, true, true, true, true, true, true, true, false, false] rfl rfl (by kernel_rfl) (fun _ _ _ h => h) (Or.inl ⟨by rfl, ?_⟩) ?_ ?_
                  rotate_left
                  · intro w'
                    go_simp
                    with_reducible rfl
                  rotate_left
                  · simp only [Act.put, List.setIfInBounds_toArray, List.set_cons_zero, List.set_cons_succ, i64_w, i32_w]
                    rfl
                  refine pure_ (i := 14) (N := some 76) (v := ?_) (a' := ?_) #[true, true, true, true, true, true, true, true, true, true, true, true, true, true, true, false] rfl rfl (by kernel_rfl) (fun _ _ _ h => h) (Or.inl ⟨by rfl, ?_⟩) ?_ ?_
                  rotate_left
                  · intro w'
                    go_simp
                    with_reducible rfl
                  rotate_left
                  · simp only [Act.put, List.setIfInBounds_toArray, List.set_cons_zero, List.set_cons_succ, i64_w, i32_w]
                    rfl
                  refine last_ (i := 15) (N := none) #[true, true, true, true, true, true, true, true, true, true, true, true, true, true, true, true] rfl rfl (by kernel_rfl) (by decide) (fun K hK => ?_)
                  refine skip_ (w1 := ?_) (by rfl) rfl ?_ ?_
                  rotate_left
                  · go_simp
                    rfl
                  refine hK.out _ _ ?_
                  clear hK K
                  refine done_ (by kernel_rfl) ?_
                  have hWn := Kd.R_below HW4.out hB72
                  obtain ⟨hS, hgs⟩ := Kd.R_seg (okp := fun k => (Value.slice A6 ((lastD X).f3.length + d3.length) c6).ownBlock = some k) (j := 3) (seg := [.slice A6 ((lastD X).f3.length + d3.length) c6]) (x' := { lastD X with f3 := (lastD X).f3 ++ d3 }) hWn ((X.length - 1 : Nat) : Int) (by omega) (by have := HXP.out; omega) HCL_.out (fun j u hu => by rw [hnz]; exact pw_cell_below hB72 (HCC.out j u hu)) (show 3 + 1 ≤ 6 by decide)
                    (k35_mkM _ _ _ { lastD X with f3 := (lastD X).f3 ++ d3 } (Kd.R_lower (Kd.R_mono (Kd.R_tight kB_E hR72) (fun k hk => hk.symm)) HWZ.out)) (fun k hk => ⟨trivial, fun e0 => R5_ne35 hR72 hWn k hk (by rw [e0]; rfl)⟩)
                  rw [hnz] at hS hgs
                  have hMn := R_typ (t := 35) (Kd.R_below HM7.out hB72) hgs (fun k hk => Kd.R_typed hWn k (by rw [← hk]; rfl)) (by intro q hq; rw [k36_E] at hq; simp at hq; rcases hq with rfl | rfl <;> decide)
                  have hBn : Below w.heap.size w (w72.setCell ⟨g, (X.length - 1) * 6 + 3, none⟩ (.slice A6 ((lastD X).f3.length + d3.length) c6)) := Below.setCell (HB4.out.trans (hB72.mono HWZ.out)) HG0.out _
                  have HS2 := Aside0.mk (HI.out.step (u3 := .slice A7 (M ++ [(⟨e.f0, e.f1, e.f2, d3, e.f4, e.f5⟩ : S36)]).length c7) (u4 := .slice (some ⟨g, 0, none⟩) X.length c4) HD.out HK.out HE.out HDD.out rfl HS.out.symm hMn hS hBn)
                  clear hS hgs hMn hBn hR72 hg72 hat72 hR71 hb71 hB71 hB72 hWn
                  go_wp2
                  go_roundw
                  case rel => exact ⟨k + 1, M ++ [⟨e.f0, e.f1, e.f2, d3, e.f4, e.f5⟩], X.set (X.length - 1) { lastD X with f3 := (lastD X).f3 ++ d3 }, A7, some ⟨g, 0, none⟩, c7, c4, by rw [List.length_append]; rfl, by rw [List.length_set], (by first | exact next_j k | exact next_i HD.out HL.out), ⟨by have := HS2.out; rw [List.length_set]; exact this⟩⟩
                  case measure => first | exact meas_j HD.out | exact meas HD.out HL.out
                · have t5 : ((lastD X).f0 == 0) = false := by simpa using c5_
                  have HS := Aside0.mk (show wntF X ⟨e.f0, e.f1, e.f2, d3, e.f4, e.f5⟩ = X ++ [⟨0, 0, 0, d3, false, false⟩] by unfold wntF; rw [if_neg (by simp [c0]), if_neg c1, if_neg (fun h => c5_ h.2)])
                  clear hcc hM' hcl hfr c5_
                  obtain ⟨A8, c8, w5, hrun2, hW8, hB8, hg8⟩ := push35 (⟨0, 0, 0, d3, false, false⟩ : S35) hW4 hR4 hBz hXl
                  have HM8 := Aside0.mk (Kd.R_over hM7 hW4 (by intro q hq; rw [k36_E] at hq; simp at hq; rcases hq with rfl | rfl <;> decide) hg8)
                  have HW8 := Aside0.mk hW8
                  have HB8 := Aside0.mk (HB4.out.trans hB8)
                  have HXP := Aside0.mk c2
                  clear c0 c1 c2 hW4 hR4 X4 hM7 hBz hW8 hB8 hg8
                  go_wp2_with (first | ((with_reducible refine gate_dst (N := 28) rfl ?_); refine Kd.event_run (by rfl) (exec_append' (.tmp 25) (.tmp 27) 31 hrun (by rfl) (by rfl) (by rfl) (by rfl)) ?_; clear hrun) | ((with_reducible refine gate_dst (N := 36) rfl ?_); refine Kd.event_run (by rfl) (exec_append' (.tmp 31) (.tmp 35) 25 hrun2 (by rfl) (by rfl) (by rfl) (by rfl)) ?_; clear hrun2))
                  try (case isFalse => exact absurd HXP.out (by omega))
                  go_roundw
                  case rel => exact ⟨k + 1, M ++ [⟨e.f0, e.f1, e.f2, d3, e.f4, e.f5⟩], X ++ [⟨0, 0, 0, d3, false, false⟩], A7, A8, c7, c8, by rw [List.length_append]; rfl, by rw [List.length_append]; rfl, (by first | exact next_j k | exact next_i HD.out HL.out), ⟨HI.out.step HD.out HK.out HE.out HDD.out rfl HS.out.symm HM8.out HW8.out HB8.out⟩⟩
                  case measure => first | exact meas_j HD.out | exact meas HD.out HL.out
              · have v0 : decide ((X.length : Int) > 0) = false := decide_eq_false (by omega)
                have v1 : decide (0 < X.length) = false := decide_eq_false (by omega)
                have HS := Aside0.mk (show wntF X ⟨e.f0, e.f1, e.f2, d3, e.f4, e.f5⟩ = X ++ [⟨0, 0, 0, d3, false, false⟩] by unfold wntF; rw [if_neg (by simp [c0]), if_neg c1, if_neg (fun h => c2 h.1)])
                obtain ⟨A8, c8, w5, hrun2, hW8, hB8, hg8⟩ := push35 (⟨0, 0, 0, d3, false, false⟩ : S35) hW4 hR4 hBz hXl
                have HM8 := Aside0.mk (Kd.R_over hM7 hW4 (by intro q hq; rw [k36_E] at hq; simp at hq; rcases hq with rfl | rfl <;> decide) hg8)
                have HW8 := Aside0.mk hW8
                have HB8 := Aside0.mk (HB4.out.trans hB8)
                have HXP := Aside0.mk c2
                clear c0 c1 c2 hW4 hR4 X4 hM7 hBz hW8 hB8 hg8
                go_wp2_with (first | ((with_reducible refine gate_dst (N := 28) rfl ?_); refine Kd.event_run (by rfl) (exec_append' (.tmp 25) (.tmp 27) 31 hrun (by rfl) (by rfl) (by rfl) (by rfl)) ?_; clear hrun) | ((with_reducible refine gate_dst (N := 36) rfl ?_); refine Kd.event_run (by rfl) (exec_append' (.tmp 31) (.tmp 35) 25 hrun2 (by rfl) (by rfl) (by rfl) (by rfl)) ?_; clear hrun2))
                try (case isFalse => exact absurd HXP.out (by omega))
                go_roundw
                case rel => exact ⟨k + 1, M ++ [⟨e.f0, e.f1, e.f2, d3, e.f4, e.f5⟩], X ++ [⟨0, 0, 0, d3, false, false⟩], A7, A8, c7, c8, by rw [List.length_append]; rfl, by rw [List.length_append]; rfl, (by first | exact next_j k | exact next_i HD.out HL.out), ⟨HI.out.step HD.out HK.out HE.out HDD.out rfl HS.out.symm HM8.out HW8.out HB8.out⟩⟩
                case measure => first | exact meas_j HD.out | exact meas HD.out HL.out
          · have t0 : (e.f0 != 0) = true := bne_iff_ne.mpr c0
            have HS := Aside0.mk (show wntF X ⟨e.f0, e.f1, e.f2, d3, e.f4, e.f5⟩ = X ++ [⟨e.f0, e.f1, e.f2, d3, e.f4, e.f5⟩] by unfold wntF; rw [if_pos c0])
            obtain ⟨A8, c8, w5, hrun2, hW8, hB8, hg8⟩ := push35 (⟨e.f0, e.f1, e.f2, d3, e.f4, e.f5⟩ : S35) hW4 hR4 hBz hXl
            have HM8 := Aside0.mk (Kd.R_over hM7 hW4 (by intro q hq; rw [k36_E] at hq; simp at hq; rcases hq with rfl | rfl <;> decide) hg8)
            have HW8 := Aside0.mk hW8
            have HB8 := Aside0.mk (HB4.out.trans hB8)
            clear c0 hW4 hR4 X4 hM7 hBz hW8 hB8 hg8
            go_wp2_with (first | ((with_reducible refine gate_dst (N := 28) rfl ?_); refine Kd.event_run (by rfl) (exec_append' (.tmp 25) (.tmp 27) 31 hrun (by rfl) (by rfl) (by rfl) (by rfl)) ?_; clear hrun) | ((with_reducible refine gate_dst (N := 44) rfl ?_); refine Kd.event_run (by rfl) (exec_append' (.tmp 41) (.tmp 43) 25 hrun2 (by rfl) (by rfl) (by rfl) (by rfl)) ?_; clear hrun2))
            go_roundw
            case rel => exact ⟨k + 1, M ++ [⟨e.f0, e.f1, e.f2, d3, e.f4, e.f5⟩], X ++ [⟨e.f0, e.f1, e.f2, d3, e.f4, e.f5⟩], A7, A8, c7, c8, by rw [List.length_append]; rfl, by rw [List.length_append]; rfl, (by first | exact next_j k | exact next_i HD.out HL.out), ⟨HI.out.step HD.out HK.out HE.out HDD.out rfl HS.out.symm HM8.out HW8.out HB8.out⟩⟩
            case measure => first | exact meas_j HD.out | exact meas HD.out HL.out
        · have u0 : decide ((k : Int) ≥ 30) = true := decide_eq_true (by omega)
          have u1 : decide ((30 : Int) ≤ (k : Int)) = true := decide_eq_true (by omega)
          have u2 : decide (30 ≤ k) = true := decide_eq_true (by omega)
          clear d30 hk hk30
          go_wp2
          go_meet
          exact ⟨k, M, X, A3, A4, c3, c4, rfl, rfl, ⟨HI.out.below (below_alloc (Below.refl _ _) _)⟩⟩
      · have cb : decide ((k : Int) < (l0.length : Int)) = false := decide_eq_false (by omega)
        have cn : decide (k < l0.length) = false := decide_eq_false d
        clear hk hk30 d
        go_wp2
        go_meet
        exact ⟨k, M, X, A3, A4, c3, c4, rfl, rfl, HI⟩
  case rest =>
    obtain ⟨k, M, X, A3, A4, c3, c4, rfl, rfl, HI⟩ := hcut
    have hm : M.length ≤ 30 := by rw [HI.out.mEq]; exact Nat.le_trans (mineK_len _ _) HI.out.k30
    have hm3 : ∀ x ∈ M, x.f3.length ≤ 20 := by rw [HI.out.mEq]; exact mineK_f3 _ _
    have hx : X = (mergeL M).map cv := by rw [HI.out.xEq, HI.out.mEq, want_mine]
    obtain ⟨hg, hg3⟩ := mergeL_B M 20 hm3
    have HM := Aside0.mk HI.out.rowM
    have HW := Aside0.mk HI.out.rowW
    have HBx := Aside0.mk HI.out.bel
    have HX := Aside0.mk hx
    have HM3 := Aside0.mk hm3
    have HG := Aside0.mk (show (mergeL M).length ≤ 1000 by omega)
    have HG3 := Aside0.mk (show ∀ x ∈ mergeL M, x.f3.length ≤ 10000 from fun x h => by have := hg3 x h; omega)
    have HMl := Aside0.mk hm
    clear HI hm hm3 hx hg hg3
    go_wp2_with fail
    refine (vitrinelaw06_back.calls (M.length + 1) (fun _ => True) A3 c3 M (M.map cv) _ (Kd.R_V HM.out) (back_eq M (by have := HMl.out; omega))).mono ?_
    rintro e w2 ⟨v8, rfl, hN8, hb2⟩
    obtain ⟨A8, c8, rfl⟩ := Kd.N_slice hN8
    have HM2 := Aside0.mk (Kd.R_below HM.out hb2)
    have HW2 := Aside0.mk (Kd.R_below HW.out hb2)
    have HN8 := Aside0.mk (Kd.N_reads' hN8)
    have HB2 := Aside0.mk (HBx.out.trans (hb2.mono HBx.out.size))
    clear hN8 hb2 HM HW HBx
    go_wp2_with fail
    refine (merge_of A3 c3 M _ (Kd.R_reads' HM2.out).2.2 (Kd.R_reads' HM2.out).2.1 (by have := HMl.out; omega) (fun x h => by have := HM3.out x h; omega)).mono ?_
    rintro e w3 ⟨A9, c9, rfl, hS9, hb3⟩
    have HM4 := Aside0.mk (Kd.R_below HM2.out hb3)
    have HW4 := Aside0.mk (Kd.R_below HW2.out hb3)
    have HC8 := Aside0.mk (Kd.C_below HN8.out.2.2 hb3)
    have HL8 := Aside0.mk HN8.out.2.1
    have HS9 := Aside0.mk (Kd.S_R hS9)
    have HB3 := Aside0.mk (HB2.out.trans (hb3.mono HB2.out.size))
    clear hS9 hb3 HM2 HW2 HN8 HB2
    go_wp2_with fail
    refine (vitrinelaw06_back.calls ((mergeL M).length + 1) (fun _ => True) A9 c9 (mergeL M) ((mergeL M).map cv) _ (Kd.R_V HS9.out) (back_eq _ (by have := HG.out; omega))).mono ?_
    rintro e w4 ⟨v10, rfl, hN10, hb4⟩
    obtain ⟨A10, c10, rfl⟩ := Kd.N_slice hN10
    have HM5 := Aside0.mk (Kd.R_below HM4.out hb4)
    have HW5 := Aside0.mk (Kd.R_below HW4.out hb4)
    have HC9 := Aside0.mk (Kd.C_below HC8.out hb4)
    have HS10 := Aside0.mk (Kd.R_below HS9.out hb4)
    have HN10 := Aside0.mk (Kd.N_reads' hN10)
    have HL10 := Aside0.mk (show ((mergeL M).map cv).length ≤ c10 by have := (Kd.N_reads' hN10).2.1; exact this)
    have HB4 := Aside0.mk (HB3.out.trans (hb4.mono HB3.out.size))
    clear hN10 hb4 HM4 HW4 HC8 HS9 HB3
    go_wp2_with fail
    refine (same_ok A10 c10 _ A4 c4 _ ((mergeL M).map cv) X _ HN10.out.2.2 HL10.out (Kd.R_reads' HW5.out).2.2 (Kd.R_reads' HW5.out).2.1 HX.out (by rw [List.length_map]; have := HG.out; omega) (by with_reducible first | rfl | rw [List.length_map]) (by with_reducible rfl)).mono ?_
    rintro e w5 ⟨rfl, hb5⟩
    have HM6 := Aside0.mk (Kd.R_below HM5.out hb5)
    have HW6 := Aside0.mk (Kd.R_below HW5.out hb5)
    have HC10 := Aside0.mk (Kd.C_below HC9.out hb5)
    have HS11 := Aside0.mk (Kd.R_below HS10.out hb5)
    have HB5 := Aside0.mk (HB4.out.trans (hb5.mono HB4.out.size))
    clear hb5 HM5 HW5 HC9 HS10 HB4 HN10
    go_wp2_with fail
    refine (merge_of A9 c9 (mergeL M) _ (Kd.R_reads' HS11.out).2.2 (Kd.R_reads' HS11.out).2.1 (by have := HG.out; omega) HG3.out).mono ?_
    rintro e w6 ⟨A11, c11, rfl, hS, hb6⟩
    rw [merge_merge] at hS ⊢
    have HM7 := Aside0.mk (Kd.R_below HM6.out hb6)
    have HW7 := Aside0.mk (Kd.R_below HW6.out hb6)
    have HC11 := Aside0.mk (Kd.C_below HC10.out hb6)
    have HS12 := Aside0.mk (Kd.S_R hS)
    have HB6 := Aside0.mk (HB5.out.trans (hb6.mono HB5.out.size))
    clear hS hb6 HM6 HW6 HC10 HS11 HB5
    go_wp2_with fail
    refine (vitrinelaw06_back.calls ((mergeL M).length + 1) (fun _ => True) A11 c11 (mergeL M) ((mergeL M).map cv) _ (Kd.R_V HS12.out) (back_eq _ (by have := HG.out; omega))).mono ?_
    rintro e w7 ⟨v12, rfl, hN12, hb7⟩
    obtain ⟨A12, c12, rfl⟩ := Kd.N_slice hN12
    have HM8 := Aside0.mk (Kd.R_below HM7.out hb7)
    have HW8 := Aside0.mk (Kd.R_below HW7.out hb7)
    have HC12 := Aside0.mk (Kd.C_below HC11.out hb7)
    have HN12 := Aside0.mk (Kd.N_reads' hN12)
    have HL12 := Aside0.mk (show ((mergeL M).map cv).length ≤ c12 by have := (Kd.N_reads' hN12).2.1; exact this)
    have HB7 := Aside0.mk (HB6.out.trans (hb7.mono HB6.out.size))
    clear hN12 hb7 HM7 HW7 HC11 HS12 HB6
    go_wp2_with fail
    refine (same_ok A12 c12 _ A4 c4 _ ((mergeL M).map cv) X _ HN12.out.2.2 HL12.out (Kd.R_reads' HW8.out).2.2 (Kd.R_reads' HW8.out).2.1 HX.out (by rw [List.length_map]; have := HG.out; omega) (by with_reducible first | rfl | rw [List.length_map]) (by with_reducible rfl)).mono ?_
    rintro e w8 ⟨rfl, hb8⟩
    have HM9 := Aside0.mk (Kd.R_below HM8.out hb8)
    have HC13 := Aside0.mk (Kd.C_below HC12.out hb8)
    have HB8 := Aside0.mk (HB7.out.trans (hb8.mono HB7.out.size))
    clear hb8 HM8 HW8 HC12 HB7 HN12
    go_wp2_with fail
    refine (vitrinelaw06_back.calls (M.length + 1) (fun _ => True) A3 c3 M (M.map cv) _ (Kd.R_V HM9.out) (back_eq M (by have := HMl.out; omega))).mono ?_
    rintro e w9 ⟨v13, rfl, hN13, hb9⟩
    obtain ⟨A13, c13, rfl⟩ := Kd.N_slice hN13
    have HC14 := Aside0.mk (Kd.C_below HC13.out hb9)
    have HN13 := Aside0.mk (Kd.N_reads' hN13)
    have HL13 := Aside0.mk (show (M.map cv).length ≤ c13 by have := (Kd.N_reads' hN13).2.1; exact this)
    have HB9 := Aside0.mk (HB8.out.trans (hb9.mono HB8.out.size))
    clear hN13 hb9 HM9 HC13 HB8
    go_wp2_with fail
    refine (same_ok A13 c13 _ A8 c8 _ (M.map cv) (M.map cv) _ HN13.out.2.2 HL13.out HC14.out HL8.out rfl (by rw [List.length_map]; have := HMl.out; omega) (by with_reducible first | rfl | rw [List.length_map]) (by with_reducible first | rfl | rw [List.length_map])).mono ?_
    rintro e w10 ⟨rfl, hb10⟩
    have HB10 := Aside0.mk (HB9.out.trans (hb10.mono HB9.out.size))
    clear hb10 HC14 HN13 HB9
    go_wp2
    go_ret
    exact ⟨rfl, HB10.out⟩
end Go.Proofs.Ytddfgfgjkamccaa.Tn
