/- telnet.Merge walked. -/
import Derived.Test.YtddfgfgjkamccaaRh
import Derived.Test.YtddfgfgjkamccaaClA
namespace Go.Proofs.Ytddfgfgjkamccaa.Tn
open Go Go.RowKit Go.Proofs.YtddfgfgjkamccaaW.PrintWords Go.Proofs.YtddfgfgjkamccaaW.PrintLast Go.Proofs.YtddfgfgjkamccaaW.PrintMore Go.Proofs.Ytddfgfgjkamccaa.PTe
set_option linter.unusedVariables false
set_option linter.unusedSimpArgs false
def last36 (xs : List S36) : S36 := rd_T36 xs ((xs.length - 1 : Nat) : Int)
def mrgF (out : List S36) (e : S36) : List S36 := if e.f0 ≠ 0 then out ++ [e] else if e.f3 = [] then out else if 0 < out.length ∧ (last36 out).f0 = 0 then out.set (out.length - 1) { last36 out with f3 := (last36 out).f3 ++ e.f3 } else out ++ [⟨0, 0, 0, e.f3, false, false⟩]
def mergeL (l : List S36) : List S36 := l.foldl mrgF []
theorem rd36_mem (xs : List S36) (h : 0 < xs.length) : rd_T36 xs ((xs.length - 1 : Nat) : Int) ∈ xs := by
  unfold rd_T36
  rw [Int.toNat_natCast, List.getD_eq_getElem?_getD, List.getElem?_eq_getElem (by omega)]
  exact List.getElem_mem _
theorem mrgF_len (out : List S36) (e : S36) : (mrgF out e).length ≤ out.length + 1 := by
  unfold mrgF
  split
  · simp
  · split
    · omega
    · split
      · simp
      · simp
theorem mrgF_f3 {out : List S36} {e : S36} {m n : Nat} (h : ∀ x ∈ out, x.f3.length ≤ m) (he : e.f3.length ≤ n) : ∀ x ∈ mrgF out e, x.f3.length ≤ m + n := by
  intro x hx
  unfold mrgF at hx
  split at hx
  · rcases List.mem_append.1 hx with hx | hx
    · have := h x hx; omega
    · simp at hx; subst hx; omega
  · split at hx
    · have := h x hx; omega
    · split at hx
      · rename_i hc
        rcases List.mem_or_eq_of_mem_set hx with hx | hx
        · have := h x hx; omega
        · subst hx
          have := h (last36 out) (rd36_mem out hc.1)
          simp; omega
      · rcases List.mem_append.1 hx with hx | hx
        · have := h x hx; omega
        · simp at hx; subst hx; simp; omega
theorem clone_ok (l : List Int) (hl : l.length ≤ 1000000) : bytes_Clone.f l = some l := by
  have h0 : ([] : List Int).length + l.length < 140737488355328 := by simp; omega
  unfold bytes_Clone.f
  rw [Option.bind_some, if_pos h0]
  simp
structure MgI (l : List S36) (w : World) (j : Nat) (out : List S36) (v : Value) (wr : World) : Prop where
  hj : j ≤ l.length
  rest : (l.drop j).foldl mrgF out = mergeL l
  len : out.length ≤ j
  f3 : ∀ x ∈ out, x.f3.length ≤ j * 10000
  row : Kd.S k36 36 wr w.heap.size (fun _ => True) v out
  bel : Below w.heap.size w wr
theorem MgI.below {l : List S36} {w : World} {j : Nat} {out : List S36} {v : Value} {wr w2 : World} (h : MgI l w j out v wr) (hb : Below wr.heap.size wr w2) : MgI l w j out v w2 := { h with row := Kd.S_below h.row hb, bel := h.bel.trans (hb.mono h.bel.size) }
theorem MgI.step {l : List S36} {w : World} {j : Nat} {out : List S36} {v v2 : Value} {wr w2 : World} (h : MgI l w j out v wr) {e : S36} (hlt : j < l.length) (he : rd_T36 l (j : Int) = e) (h3 : e.f3.length ≤ 10000) (hs : Kd.S k36 36 w2 w.heap.size (fun _ => True) v2 (mrgF out e)) (hb : Below w.heap.size w w2) : MgI l w (j + 1) (mrgF out e) v2 w2 := by
  refine ⟨by omega, ?_, by have := mrgF_len out e; have := h.len; omega, ?_, hs, hb⟩
  · have hr := h.rest
    rw [List.drop_eq_getElem_cons hlt, List.foldl_cons] at hr
    have : l[j] = e := by
      rw [← he]; unfold rd_T36
      rw [Int.toNat_natCast, List.getD_eq_getElem?_getD, List.getElem?_eq_getElem hlt]; rfl
    rw [this] at hr
    exact hr
  · intro x hx
    have := mrgF_f3 h.f3 h3 x hx
    omega
/-- An event behind the others: its data is a clone. -/
theorem MgI.more {l : List S36} {w : World} {j : Nat} {out : List S36} {v : Value} {wr w2 : World} (h : MgI l w j out v wr) (hl : l.length ≤ 100000) (e : S36) {A3 : Option Addr} {c3 : Nat} (hb : Below wr.heap.size wr w2) (hR : Kd.R kB 5 w2 wr.heap.size (fun _ => True) (.slice A3 e.f3.length c3) e.f3) :
    ∃ A7 c7 w4, (Builtin.append_ #[31, 31] 31 #[v, .slice (some ⟨w2.heap.size, 0, none⟩) 1 1]).run Try.prog (w2.alloc (.cells #[.int .i64 e.f0, .int .u8 e.f1, .int .u8 e.f2, .slice A3 e.f3.length c3, .bool e.f4, .bool e.f5] 36)) = .ok (.slice A7 (out ++ [e]).length c7) w4 ∧
      Kd.S k36 36 w4 w.heap.size (fun _ => True) (.slice A7 (out ++ [e]).length c7) (out ++ [e]) ∧ Below w.heap.size w w4 := by
  have hbw : w.heap.size ≤ w2.heap.size := Nat.le_trans h.bel.size hb.size
  have hS := Kd.S_elder' h.row (v := .slice A3 e.f3.length c3) (fun k hk => Kd.R_base hR k hk) hb
  obtain ⟨f, hf, hRt⟩ := Kd.S_tag (Kd.S_mono (ok' := fun k => True ∧ ¬ ((Value.slice A3 e.f3.length c3).ownBlock = some k)) hS (fun k hk => ⟨trivial, fun e0 => hk.2 e0.symm⟩)) out.length (fun k => (Value.slice A3 e.f3.length c3).ownBlock = some k) (fun k hk h2 => h2.2 hk)
  have hM : k36.M w2 w.heap.size (fun k => (Value.slice A3 e.f3.length c3).ownBlock = some k) e [.int .i64 e.f0, .int .u8 e.f1, .int .u8 e.f2, .slice A3 e.f3.length c3, .bool e.f4, .bool e.f5] := k36_mkM _ _ _ e (Kd.R_lower (Kd.R_mono (Kd.R_tight kB_E hR) (fun k hk => hk.symm)) h.bel.size)
  obtain ⟨v7, w4, hrun, hR7, hB7, hg7, hat⟩ := R_run (Kd.tag f k36) (W := w2) (p := (e, out.length)) (cs := [.int .i64 e.f0, .int .u8 e.f1, .int .u8 e.f2, .slice A3 e.f3.length c3, .bool e.f4, .bool e.f5]) w.heap.size 31 36 _ 48 Try.underlying31 info36 rfl (show 0 < 6 by decide) (by decide) (ok := fun _ => True) (okp := fun k => (Value.slice A3 e.f3.length c3).ownBlock = some k)
    (k36.M_mono (fun k hk => ⟨hk, hf k hk⟩) hM) (fun k hk => ⟨trivial, R5_ne36 hR (Kd.S_R hS) k hk⟩) (fun _ _ => trivial) (Kd.R_mono hRt (fun _ _ => trivial)) hbw (by rw [List.length_zipIdx]; have := h.len; have := h.hj; omega)
  rw [← Kd.zip_snoc] at hR7
  have hS7 : Kd.S k36 36 w4 w.heap.size (fun _ => True) v7 (out ++ [e]) := ⟨f, hR7⟩
  obtain ⟨A7, c7, rfl⟩ := Kd.S_slice hS7
  exact ⟨A7, c7, w4, hrun, hS7, (h.bel.trans (hb.mono h.bel.size)).trans hB7⟩
theorem cell_grown {W w1 : World} {row : Option Nat} (hg : W.grownBy w1 row) {p : Addr} {v : Value} (hc : W.cell? p = some v) (hne : some p.block ≠ row) : w1.cell? p = some v := by
  have := hg.block p.block (World.block_lt_of_cell? W p hc) hne
  rw [← hc]
  unfold World.cell?
  rw [this]
theorem frozen_grown {W w1 : World} {row : Option Nat} (hg : W.grownBy w1 row) {p : Addr} {v : Value} (hc : W.cell? p = some v) (hf : W.frozen? p = false) (hne : some p.block ≠ row) : w1.frozen? p = false := by
  have := hg.block p.block (World.block_lt_of_cell? W p hc) hne
  rw [← hf]
  exact World.frozen?_of_block this
def Merged (l : List S36) (w : World) (e : Ending) (w' : World) : Prop := ∃ A' c', e = .returned (.slice A' (mergeL l).length c') ∧ Kd.S k36 36 w' w.heap.size (fun _ => True) (.slice A' (mergeL l).length c') (mergeL l) ∧ Below w.heap.size w w'
set_option maxHeartbeats 8000000 in
set_option maxRecDepth 4000 in
theorem merge_of (A : Option Addr) (c : Nat) (l : List S36) (w : World) (hC : Kd.C k36 w A l.length l) (hc : l.length ≤ c) (hl : l.length ≤ 100000) (h3 : ∀ x ∈ l, x.f3.length ≤ 10000) :
    Calls Try.prog 16 #[.slice A l.length c] w (Merged l w) := by
  have HC := Aside0.mk hC
  have HI0 : Aside0 (MgI l w 0 [] (.slice none 0 0) w) := ⟨⟨by omega, rfl, by simp, by simp, Kd.S_nil _ _ _ _ _, Below.refl _ _⟩⟩
  have H3 := Aside0.mk h3
  clear hC h3
  go_enter Try.func16, Try.ntmps16
  go_wp2
  go_loopw [3, 9] (fun v3 v9 wr => ∃ (j : Nat) (out : List S36) (A' : Option Addr) (c' : Nat), v3 = .slice A' out.length c' ∧ v9 = .int .i64 (j : Int) ∧ Aside0 (MgI l w j out (.slice A' out.length c') wr)) (fun _ v _ => l.length - (intOf v).toNat)
  case atStart => exact ⟨0, [], none, 0, rfl, rfl, HI0⟩
  case round =>
    clear HI0
    obtain ⟨j, out, A', c', rfl, rfl, HI⟩ := hrel
    have hj := HI.out.hj
    by_cases d : j < l.length
    · have cb : decide ((j : Int) < (l.length : Int)) = true := decide_eq_true (by omega)
      have cn : decide (j < l.length) = true := decide_eq_true d
      obtain ⟨ad, A3, c3, rfl, x0, x1, x2, x3, x4, x5, hl3, hC3⟩ := at_T36 (Kd.C_below HC.out (show Below w.heap.size w wr from HI.out.bel)) (j : Int) (by omega) (by omega)
      simp only [Int.toNat_natCast] at x0 x1 x2 x3 x4 x5
      have p0 : (0 ≤ (j : Int)) = True := eq_true (by omega)
      have q0 : ((j : Int) < (l.length : Int)) = True := eq_true (by omega)
      obtain ⟨e, he⟩ : ∃ e, rd_T36 l (j : Int) = e := ⟨_, rfl⟩
      rw [he] at x0 x1 x2 x3 x4 x5 hl3 hC3
      have h3e : e.f3.length ≤ 10000 := H3.out e (by
        rw [← he]; unfold rd_T36
        rw [Int.toNat_natCast, List.getD_eq_getElem?_getD, List.getElem?_eq_getElem d]
        exact List.getElem_mem _)
      have HE := Aside0.mk he
      have HC3 := Aside0.mk hC3
      have HD := Aside0.mk d
      have HZ := Aside0.mk HI.out.bel.size
      clear d he hC3
      by_cases c0 : e.f0 = 0
      · have t0 : (e.f0 != 0) = false := bne_eq_false_iff_eq.mpr c0
        by_cases c1 : e.f3 = []
        · have t1 : (((e.f3.length : Nat) : Int) == 0) = true := by rw [c1]; rfl
          have t1' : (e.f3.length == 0) = true := by rw [c1]; rfl
          have t1'' : (e.f3.length = 0) = True := eq_true (by rw [c1]; rfl)
          have hm : mrgF out e = out := by unfold mrgF; rw [if_neg (by simp [c0]), if_pos c1]
          have HS := Aside0.mk hm
          clear c0 c1 hm
          go_wp2
          go_roundw
          case rel => exact ⟨j + 1, out, A', c', rfl, next_j j, ⟨by
            have hb := HI.out.below (below_alloc (Below.refl wr.heap.size wr) (.cells #[.int .i64 e.f0, .int .u8 e.f1, .int .u8 e.f2, .slice A3 e.f3.length c3, .bool e.f4, .bool e.f5] 36))
            have := hb.step (v2 := .slice A' out.length c') HD.out HE.out h3e (by rw [HS.out]; exact hb.row) hb.bel
            rw [HS.out] at this; exact this⟩⟩
          case measure => exact meas_j HD.out
        · have t1 : (((e.f3.length : Nat) : Int) == 0) = false := by
            rw [beq_eq_false_iff_ne]; intro h; exact c1 (List.eq_nil_of_length_eq_zero (by omega))
          have t1' : (e.f3.length == 0) = false := by
            rw [beq_eq_false_iff_ne]; intro h; exact c1 (List.eq_nil_of_length_eq_zero h)
          have t1'' : (e.f3.length = 0) = False := eq_false (fun h => c1 (List.eq_nil_of_length_eq_zero h))
          by_cases c2 : 0 < out.length
          · have u0 : decide ((out.length : Int) > 0) = true := decide_eq_true (by omega)
            have u1 : decide (0 < out.length) = true := decide_eq_true (by omega)
            have n0 : wrap64 ((out.length : Int) - 1) = (out.length : Int) - 1 := wrap_in _ (by have := HI.out.len; omega) (by have := HI.out.len; omega)
            have n1 : IntKind.i64.wrap ((out.length : Int) - 1) = (out.length : Int) - 1 := (i64_w _).trans n0
            have i0 : ((0 : Int) ≤ (out.length : Int) - 1) = True := eq_true (by omega)
            have i1 : ((out.length : Int) - 1 < (out.length : Int)) = True := eq_true (by omega)
            have i2 : ((out.length : Int) < 1) = False := eq_false (by omega)
            have HL := Aside0.mk c2
            obtain ⟨g, c', hv, hg0, hg1, _⟩ : ∃ g cap, Value.slice A' out.length c' = .slice (some ⟨g, 0, none⟩) out.length cap ∧ w.heap.size ≤ g ∧ g < wr.heap.size ∧ True := by
              obtain ⟨g, cap, h1, h2, h3, _⟩ := Kd.S_form HI.out.row c2
              exact ⟨g, cap, h1, h2, h3, trivial⟩
            injection hv with hv1 _ hv3
            subst hv1 hv3
            have hnz : ((out.length - 1 : Nat) : Int).toNat = out.length - 1 := Int.toNat_natCast _
            have HA0 := below_alloc (Below.refl wr.heap.size wr) (.cells #[.int .i64 e.f0, .int .u8 e.f1, .int .u8 e.f2, .slice A3 e.f3.length c3, .bool e.f4, .bool e.f5] 36)
            obtain ⟨oki, cc, hcl, hM, hcc, hfr, hoki, hH⟩ := Kd.S_elem (HI.out.below HA0).row z36 ((out.length - 1 : Nat) : Int) (by omega) (by omega)
            obtain ⟨v5, rfl, hR5⟩ := k36_openM hM
            rw [hnz] at hcc hfr
            have hc0 := hcc 0 _ rfl
            have hc3 := hcc 3 _ rfl
            have hf3 := hfr 3
            have hl36 : out.getD ((out.length - 1 : Nat) : Int).toNat z36 = last36 out := rfl
            rw [hl36] at *
            rw [Nat.add_zero] at hc0
            have hc0' : (wr.alloc (.cells #[.int .i64 e.f0, .int .u8 e.f1, .int .u8 e.f2, .slice A3 e.f3.length c3, .bool e.f4, .bool e.f5] 36)).cell? ⟨g, (out.length - 1) * 6, none⟩ = some (.int .i64 (last36 out).f0) := hc0
            by_cases c4 : (last36 out).f0 = 0
            · have t5 : ((last36 out).f0 == 0) = true := by simpa using c4
              have hm : mrgF out e = out.set (out.length - 1) { last36 out with f3 := (last36 out).f3 ++ e.f3 } := by unfold mrgF; rw [if_neg (by simp [c0]), if_neg c1, if_pos ⟨c2, c4⟩]
              have HS := Aside0.mk hm
              have HM5 := Aside0.mk hR5
              have HH5 := Aside0.mk hH
              have HOK := Aside0.mk hoki
              have HL5 := Aside0.mk (show (last36 out).f3.length ≤ j * 10000 from HI.out.f3 _ (rd36_mem out c2))
              have HAA := Aside0.mk HA0
              have hlj := HI.out.len
              have HLJ := Aside0.mk (show j ≤ 100000 by omega)
              have HB5 := Aside0.mk (show w.heap.size ≤ (wr.alloc (.cells #[.int .i64 e.f0, .int .u8 e.f1, .int .u8 e.f2, .slice A3 e.f3.length c3, .bool e.f4, .bool e.f5] 36)).drew.heap.size from Nat.le_trans HZ.out HA0.size)
              have HN5 := Aside0.mk (show some g ≠ v5.ownBlock from fun h => (hoki g (hR5.1 g h.symm)).2 rfl)
              have XB := blk_new wr (.cells #[.int .i64 e.f0, .int .u8 e.f1, .int .u8 e.f2, .slice A3 e.f3.length c3, .bool e.f4, .bool e.f5] 36)
              have HNB := Aside0.mk (ne_typed XB hR5 (by decide))
              have xb3 := (blk_cell XB 3).trans rfl
              have HC5 := Aside0.mk (Kd.C_below HC3.out HA0)
              have HG := Aside0.mk (show g < wr.heap.size ∧ w.heap.size ≤ g from ⟨hg1, hg0⟩)
              clear c0 c1 c2 c4 hm hM hcc hfr hH hcl hR5 hoki HA0 t1'' hlj XB
              go_wp2
              try (case isFalse => exact absurd HL.out (by omega))
              generalize wr.alloc (.cells #[.int .i64 e.f0, .int .u8 e.f1, .int .u8 e.f2, .slice A3 e.f3.length c3, .bool e.f4, .bool e.f5] 36) = wr5 at *
              generalize hgb : wr.heap.size = gb at *
              replace hgb := Aside0.mk hgb
              clear hc0 hc0' hg0 hg1
              refine start_ (n := 15) (S := fun w' => w'.cell? ⟨g, (out.length - 1) * 6 + 3, none⟩ = some v5 ∧ w'.cell? ⟨gb, 3, none⟩ = some (.slice A3 e.f3.length c3)) (ds := [14]) #[false, false, false, false, false, false, false, false, false, false, false, false, false, false, false] (by kernel_rfl) rfl rfl ⟨cell_dr1 hc3, cell_dr1 xb3⟩ (fun hHeld => ?_)
              refine pure_ (i := 0) (N := some 51) (v := ?_) (a' := ?_) #[true, false, false, false, false, false, false, false, false, false, false, false, false, false, false] rfl rfl (by kernel_rfl) (fun _ _ _ h => h) (Or.inl ⟨by rfl, ?_⟩) ?_ ?_
              rotate_left
              · intro w'
                go_simp
                with_reducible rfl
              rotate_left
              · simp only [Act.put, List.setIfInBounds_toArray, List.set_cons_zero, List.set_cons_succ, i64_w, i32_w]
                rfl
              refine pure_ (i := 1) (N := some 52) (v := ?_) (a' := ?_) #[true, true, false, false, false, false, false, false, false, false, false, false, false, false, false] rfl rfl (by kernel_rfl) (fun _ _ _ h => h) (Or.inl ⟨by rfl, ?_⟩) ?_ ?_
              rotate_left
              · intro w'
                go_simp
                with_reducible rfl
              rotate_left
              · simp only [Act.put, List.setIfInBounds_toArray, List.set_cons_zero, List.set_cons_succ, i64_w, i32_w]
                rfl
              refine pure_ (i := 2) (N := some 53) (v := ?_) (a' := ?_) #[true, true, true, false, false, false, false, false, false, false, false, false, false, false, false] rfl rfl (by kernel_rfl) (fun _ _ _ h => h) (Or.inl ⟨by rfl, ?_⟩) ?_ ?_
              rotate_left
              · intro w'
                go_simp
                with_reducible rfl
              rotate_left
              · simp only [Act.put, List.setIfInBounds_toArray, List.set_cons_zero, List.set_cons_succ, i64_w, i32_w]
                rfl
              refine pure_ (i := 3) (N := some 54) (v := ?_) (a' := ?_) #[true, true, true, true, false, false, false, false, false, false, false, false, false, false, false] rfl rfl (by kernel_rfl) (fun _ _ _ h => h) (Or.inl ⟨by rfl, ?_⟩) ?_ ?_
              rotate_left
              · intro w'
                go_simp
                with_reducible rfl
              rotate_left
              · simp only [Act.put, List.setIfInBounds_toArray, List.set_cons_zero, List.set_cons_succ, i64_w, i32_w]
                rfl
              refine pure_ (i := 4) (N := some 55) (v := ?_) (a' := ?_) #[true, true, true, true, true, false, false, false, false, false, false, false, false, false, false] rfl rfl (by kernel_rfl) (fun _ _ _ h => h) (Or.inl ⟨by rfl, ?_⟩) ?_ ?_
              rotate_left
              · intro w'
                go_simp
                with_reducible rfl
              rotate_left
              · simp only [Act.put, List.setIfInBounds_toArray, List.set_cons_zero, List.set_cons_succ, i64_w, i32_w]
                rfl
              refine pure_ (i := 5) (N := some 56) (v := ?_) (a' := ?_) #[true, true, true, true, true, true, false, false, false, false, false, false, false, false, false] rfl rfl (by kernel_rfl) (fun _ _ _ h => h) (Or.inl ⟨by rfl, ?_⟩) ?_ ?_
              rotate_left
              · intro w'
                go_simp
                with_reducible rfl
              rotate_left
              · simp only [Act.put, List.setIfInBounds_toArray, List.set_cons_zero, List.set_cons_succ, i64_w, i32_w]
                rfl
              refine pure_ (i := 6) (N := some 57) (v := ?_) (a' := ?_) #[true, true, true, true, true, true, true, false, false, false, false, false, false, false, false] rfl rfl (by kernel_rfl) (fun _ _ _ h => h) (Or.inl ⟨by rfl, ?_⟩) ?_ ?_
              rotate_left
              · intro w'
                go_simp
                with_reducible rfl
              rotate_left
              · simp only [Act.put, List.setIfInBounds_toArray, List.set_cons_zero, List.set_cons_succ, i64_w, i32_w]
                rfl
              refine pure_ (i := 7) (N := some 58) (v := ?_) (a' := ?_) #[true, true, true, true, true, true, true, true, false, false, false, false, false, false, false] rfl rfl (by kernel_rfl) (fun _ _ _ h => h) (Or.inl ⟨by rfl, ?_⟩) ?_ ?_
              rotate_left
              · intro w'
                go_simp
                with_reducible rfl
              rotate_left
              · simp only [Act.put, List.setIfInBounds_toArray, List.set_cons_zero, List.set_cons_succ, i64_w, i32_w]
                rfl
              refine pure_ (i := 9) (N := some 60) (v := ?_) (a' := ?_) #[true, true, true, true, true, true, true, true, false, true, false, false, false, false, false] rfl rfl (by kernel_rfl) (fun _ _ _ h => h) (Or.inl ⟨by rfl, ?_⟩) ?_ ?_
              rotate_left
              · intro w'
                go_simp
                with_reducible rfl
              rotate_left
              · simp only [Act.put, List.setIfInBounds_toArray, List.set_cons_zero, List.set_cons_succ, i64_w, i32_w]
                rfl
              refine take_ (i := 8) (N := some 59) (v := ?_) (a' := ?_) #[true, true, true, true, true, true, true, true, true, true, false, false, false, false, false] rfl rfl (by kernel_rfl) (fun _ _ _ h => h) (Or.inl ⟨by rfl, ?_⟩) hHeld ?_ ?_
              rotate_left
              · rintro w' ⟨s0, s1⟩
                go_simp
                with_reducible rfl
              rotate_left
              · simp only [Act.put, List.setIfInBounds_toArray, List.set_cons_zero, List.set_cons_succ, i64_w, i32_w]
                rfl
              refine take_ (i := 10) (N := some 61) (v := ?_) (a' := ?_) #[true, true, true, true, true, true, true, true, true, true, true, false, false, false, false] rfl rfl (by kernel_rfl) (fun _ _ _ h => h) (Or.inl ⟨by rfl, ?_⟩) hHeld ?_ ?_
              rotate_left
              · rintro w' ⟨s0, s1⟩
                go_simp
                with_reducible rfl
              rotate_left
              · simp only [Act.put, List.setIfInBounds_toArray, List.set_cons_zero, List.set_cons_succ, i64_w, i32_w]
                rfl
              refine one_ (i := 11) (N := some 62) #[true, true, true, true, true, true, true, true, true, true, true, true, false, false, false] rfl rfl (by kernel_rfl) (by decide) (fun K hK => ?_)
              obtain ⟨v62, w62, hr62, hR62, hg62, hat62⟩ := Rows_run kB w.heap.size 22 5 _ 1 Try.underlying22 info5 rfl (by decide) (by decide) v5 (last36 out).f3 e.f3 A3 e.f3.length c3 (ok := fun k => oki k ∨ True ∧ wr5.drew.heap.size ≤ k) (okp := fun _ => False) (Kd.R_mono (Kd.R_drew HM5.out) (fun _ hk => .inl hk)) (Kd.C_below HC5.out (below_drew (Below.refl _ _))) (fun _ _ hh => hh) (fun _ hk => hk.elim) (fun _ hk => .inr ⟨trivial, hk⟩) HB5.out (by have := HL5.out; have := HLJ.out; omega)
              obtain ⟨A6, c6, rfl⟩ := Kd.R_slice hR62
              have hn62 : ((last36 out).f3 ++ e.f3).length = (last36 out).f3.length + e.f3.length := List.length_append
              rw [hn62] at hr62 hR62
              have hk62 : w62.cell? ⟨g, (out.length - 1) * 6 + 3, none⟩ = some v5 := cell_grown hg62 (cell_dr1 hc3) HN5.out
              have hx62 : w62.cell? ⟨gb, 3, none⟩ = some (.slice A3 e.f3.length c3) := cell_grown hg62 (cell_dr1 xb3) HNB.out
              have hf62 : w62.frozen? ⟨g, (out.length - 1) * 6 + 3, none⟩ = false := frozen_grown hg62 (show wr5.drew.cell? ⟨g, (out.length - 1) * 6 + 3, none⟩ = some v5 from hc3) hf3 HN5.out
              refine value_ (w1 := w62) (v := .slice A6 ((last36 out).f3.length + e.f3.length) c6) (by rfl) rfl ?_ ?_
              · exact exec_append' (.tmp 59) (.tmp 61) 22 hr62 (by rfl) (by rfl) (by rfl) (by rfl)
              refine hK.out _ _ ⟨hk62, hx62⟩ (fun hHeld => ?_)
              clear hK K
              refine norm_ (a' := ?_) ?_ ?_
              rotate_left
              · show Act.put _ (some 62) _ = _
                simp only [Act.put, List.setIfInBounds_toArray, List.set_cons_zero, List.set_cons_succ, i64_w, i32_w]
                rfl
              refine pure_ (i := 12) (N := some 63) (v := ?_) (a' := ?_) #[true, true, true, true, true, true, true, true, true, true, true, true, true, false, false] rfl rfl (by kernel_rfl) (fun _ _ _ h => h) (Or.inl ⟨by rfl, ?_⟩) ?_ ?_
              rotate_left
              · intro w'
                go_simp
                with_reducible rfl
              rotate_left
              · simp only [Act.put, List.setIfInBounds_toArray, List.set_cons_zero, List.set_cons_succ, i64_w, i32_w]
                rfl
              refine pure_ (i := 13) (N := some 64) (v := ?_) (a' := ?_) #[true, true, true, true, true, true, true, true, true, true, true, true, true, true, false] rfl rfl (by kernel_rfl) (fun _ _ _ h => h) (Or.inl ⟨by rfl, ?_⟩) ?_ ?_
              rotate_left
              · intro w'
                go_simp
                with_reducible rfl
              rotate_left
              · simp only [Act.put, List.setIfInBounds_toArray, List.set_cons_zero, List.set_cons_succ, i64_w, i32_w]
                rfl
              refine last_ (i := 14) (N := none) #[true, true, true, true, true, true, true, true, true, true, true, true, true, true, true] rfl rfl (by kernel_rfl) (by decide) (fun K hK => ?_)
              refine skip_ (w1 := ?_) (by rfl) rfl ?_ ?_
              rotate_left
              · go_simp
                rfl
              refine hK.out _ _ ?_
              clear hK K
              refine done_ (by kernel_rfl) ?_
              have H2 := Kd.H_mono (ok' := fun k => True ∧ ¬ False) (Kd.H_grown (Kd.H_widen (Kd.H_drew HH5.out)) hg62 (fun k hk => .inl (HM5.out.1 k hk))) (fun _ _ => ⟨trivial, id⟩)
              obtain ⟨hS, hgs⟩ := Kd.S_seg (okg := fun _ => False) (okp := fun k => oki k ∨ True ∧ wr5.drew.heap.size ≤ k) (j := 3) (seg := [.slice A6 ((last36 out).f3.length + e.f3.length) c6]) (x' := { last36 out with f3 := (last36 out).f3 ++ e.f3 }) H2 (by omega) (by have := HL.out; omega) (show 3 + 1 ≤ 6 by decide)
                (k36_mkM _ _ _ { last36 out with f3 := (last36 out).f3 ++ e.f3 } hR62) (fun k hk => .inl hk) (fun _ hk => hk.elim)
              rw [hnz] at hS
              have hBn : Below w.heap.size w (w62.setCell ⟨g, (out.length - 1) * 6 + 3, none⟩ (.slice A6 ((last36 out).f3.length + e.f3.length) c6)) := by
                refine Below.setCell ?_ HG.out.2 _
                refine Below.grown (Below.drew (HI.out.bel.trans (HAA.out.mono ?_))) hg62 HB5.out (fun k hk => Kd.R_base HM5.out k hk)
                rw [← hgb.out]; exact HI.out.bel.size
              have HS2 := Aside0.mk (HI.out.step (v2 := .slice (some ⟨g, 0, none⟩) out.length c') HD.out HE.out h3e (by rw [HS.out]; exact hS) hBn)
              clear hS hgs H2 hBn hR62 hg62 hat62
              go_wp2
              go_roundw
              case rel => exact ⟨j + 1, mrgF out e, some ⟨g, 0, none⟩, c', by rw [HS.out, List.length_set], next_j j, ⟨by
                have := HS2.out
                rw [HS.out, List.length_set]
                rw [HS.out] at this; exact this⟩⟩
              case measure => exact meas_j HD.out
            · have t5 : ((last36 out).f0 == 0) = false := by simpa using c4
              have hm : mrgF out e = out ++ [⟨0, 0, 0, e.f3, false, false⟩] := by unfold mrgF; rw [if_neg (by simp [c0]), if_neg c1, if_neg (fun h => c4 h.2)]
              have HS := Aside0.mk hm
              clear c0 c1 c2 c4 hm hM hcc hfr hH hcl hR5 hoki HA0 t1''
              have HA1 := below_alloc (Below.refl wr.heap.size wr) (.cells #[.int .i64 e.f0, .int .u8 e.f1, .int .u8 e.f2, .slice A3 e.f3.length c3, .bool e.f4, .bool e.f5] 36)
              have HCL := Aside0.mk (bytes_Clone.calls A3 c3 e.f3 e.f3 _ (Kd.C_below HC3.out HA1) hl3 (clone_ok _ (by omega)))
              have HA := Aside0.mk HA1
              clear HA1
              go_wp2_with fail
              try (case isFalse => exact absurd HL.out (by omega))
              refine HCL.out.mono ?_
              rintro r w2 ⟨v5, rfl, hR, hB⟩
              obtain ⟨A5, c5, rfl⟩ := Kd.R_slice hR
              obtain ⟨A7, c7, w4, hrun, hS7, hB7⟩ := HI.out.more hl ⟨0, 0, 0, e.f3, false, false⟩ (below_step HA.out hB) (Kd.R_lower hR HA.out.size)
              have HS7 := Aside0.mk hS7
              have HB7 := Aside0.mk hB7
              clear hR hB hS7 hB7 HA HCL
              go_wp2_with ((with_reducible refine gate_dst (N := 21) rfl ?_); refine Kd.event_run (by rfl) (exec_append' (.tmp 15) (.tmp 20) 31 hrun (by rfl) (by rfl) (by rfl) (by rfl)) ?_; clear hrun)
              go_roundw
              case rel => exact ⟨j + 1, out ++ [(⟨0, 0, 0, e.f3, false, false⟩ : S36)], A7, c7, by rw [List.length_append]; rfl, next_j j, ⟨by
                have := HI.out.step (v2 := .slice A7 (out ++ [(⟨0, 0, 0, e.f3, false, false⟩ : S36)]).length c7) HD.out HE.out h3e (by rw [HS.out]; exact HS7.out) HB7.out
                rw [HS.out] at this; exact this⟩⟩
              case measure => exact meas_j HD.out
          · have u0 : decide ((out.length : Int) > 0) = false := decide_eq_false (by omega)
            have u1 : decide (0 < out.length) = false := decide_eq_false (by omega)
            have u2 : decide ((0 : Int) < (out.length : Int)) = false := decide_eq_false (by omega)
            have hm : mrgF out e = out ++ [⟨0, 0, 0, e.f3, false, false⟩] := by unfold mrgF; rw [if_neg (by simp [c0]), if_neg c1, if_neg (fun h => c2 h.1)]
            have HS := Aside0.mk hm
            clear c0 c1 c2 hm
            have HA1 := below_alloc (Below.refl wr.heap.size wr) (.cells #[.int .i64 e.f0, .int .u8 e.f1, .int .u8 e.f2, .slice A3 e.f3.length c3, .bool e.f4, .bool e.f5] 36)
            have HCL := Aside0.mk (bytes_Clone.calls A3 c3 e.f3 e.f3 _ (Kd.C_below HC3.out HA1) hl3 (clone_ok _ (by omega)))
            have HA := Aside0.mk HA1
            clear HA1
            go_wp2_with fail
            refine HCL.out.mono ?_
            rintro r w2 ⟨v5, rfl, hR, hB⟩
            obtain ⟨A5, c5, rfl⟩ := Kd.R_slice hR
            obtain ⟨A7, c7, w4, hrun, hS7, hB7⟩ := HI.out.more hl ⟨0, 0, 0, e.f3, false, false⟩ (below_step HA.out hB) (Kd.R_lower hR HA.out.size)
            have HS7 := Aside0.mk hS7
            have HB7 := Aside0.mk hB7
            clear hR hB hS7 hB7 HA HCL
            go_wp2_with ((with_reducible refine gate_dst (N := 21) rfl ?_); refine Kd.event_run (by rfl) (exec_append' (.tmp 15) (.tmp 20) 31 hrun (by rfl) (by rfl) (by rfl) (by rfl)) ?_; clear hrun)
            go_roundw
            case rel => exact ⟨j + 1, out ++ [(⟨0, 0, 0, e.f3, false, false⟩ : S36)], A7, c7, by rw [List.length_append]; rfl, next_j j, ⟨by
              have := HI.out.step (v2 := .slice A7 (out ++ [(⟨0, 0, 0, e.f3, false, false⟩ : S36)]).length c7) HD.out HE.out h3e (by rw [HS.out]; exact HS7.out) HB7.out
              rw [HS.out] at this; exact this⟩⟩
            case measure => exact meas_j HD.out
      · have t0 : (e.f0 != 0) = true := bne_iff_ne.mpr c0
        have hm : mrgF out e = out ++ [e] := by unfold mrgF; rw [if_pos c0]
        have HS := Aside0.mk hm
        clear c0 hm
        have HA1 := below_alloc (Below.refl wr.heap.size wr) (.cells #[.int .i64 e.f0, .int .u8 e.f1, .int .u8 e.f2, .slice A3 e.f3.length c3, .bool e.f4, .bool e.f5] 36)
        have HCL := Aside0.mk (bytes_Clone.calls A3 c3 e.f3 e.f3 _ (Kd.C_below HC3.out HA1) hl3 (clone_ok _ (by omega)))
        have HA := Aside0.mk HA1
        clear HA1
        go_wp2_with fail
        refine HCL.out.mono ?_
        rintro r w2 ⟨v5, rfl, hR, hB⟩
        obtain ⟨A5, c5, rfl⟩ := Kd.R_slice hR
        have X1 := blk_below (blk_new wr (.cells #[.int .i64 e.f0, .int .u8 e.f1, .int .u8 e.f2, .slice A3 e.f3.length c3, .bool e.f4, .bool e.f5] 36)) hB
        have X2 := blk_put X1 3 (.slice A5 e.f3.length c5) rfl
        have hR2 : Kd.R kB 5 (w2.setCell ⟨wr.heap.size, 3, none⟩ (.slice A5 e.f3.length c5)) wr.heap.size (fun _ => True) (.slice A5 e.f3.length c5) e.f3 := Kd.R_lower (Kd.R_set hR X1 (by intro q hq; rw [kB_E] at hq; simp at hq; subst hq; decide) 3 _) HA.out.size
        obtain ⟨A7, c7, w4, hrun, hS7, hB7⟩ := HI.out.more hl e (below_set (below_step HA.out hB) (Nat.le_refl _)) hR2
        rw [World.size_setCell] at hrun
        have k3 : w2.cell? ⟨wr.heap.size, 3, none⟩ = some (.slice A3 e.f3.length c3) := (blk_cell X1 3).trans rfl
        have f3_ := blk_frozen X1 3
        have y0 := (blk_cell X2 0).trans rfl
        have y1 := (blk_cell X2 1).trans rfl
        have y2 := (blk_cell X2 2).trans rfl
        have y3 := (blk_cell X2 3).trans rfl
        have y4 := (blk_cell X2 4).trans rfl
        have y5 := (blk_cell X2 5).trans rfl
        have HS7 := Aside0.mk hS7
        have HB7 := Aside0.mk hB7
        clear hR hB hS7 hB7 HA HCL X1 X2 hR2
        go_wp2_with ((with_reducible refine gate_dst (N := 33) rfl ?_); refine Kd.event_run (by rfl) (exec_append' (.tmp 30) (.tmp 32) 31 hrun (by rfl) (by rfl) (by rfl) (by rfl)) ?_; clear hrun)
        go_roundw
        case rel => exact ⟨j + 1, out ++ [e], A7, c7, by rw [List.length_append]; rfl, next_j j, ⟨by
          have := HI.out.step (v2 := .slice A7 (out ++ [e]).length c7) HD.out HE.out h3e (by rw [HS.out]; exact HS7.out) HB7.out
          rw [HS.out] at this; exact this⟩⟩
        case measure => exact meas_j HD.out
    · have cb : decide ((j : Int) < (l.length : Int)) = false := decide_eq_false (by omega)
      have cn : decide (j < l.length) = false := decide_eq_false d
      have hm : out = mergeL l := by have := HI.out.rest; rw [List.drop_eq_nil_of_le (by omega)] at this; exact this
      have HM := Aside0.mk hm
      clear d hm
      go_wp2
      go_ret
      refine ⟨A', c', ?_, ?_, HI.out.bel⟩
      · rw [← HM.out]; rfl
      · rw [← HM.out]; exact HI.out.row
end Go.Proofs.Ytddfgfgjkamccaa.Tn
