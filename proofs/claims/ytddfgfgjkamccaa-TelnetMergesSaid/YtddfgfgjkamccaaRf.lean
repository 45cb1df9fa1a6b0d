/- telnet: Feed, Waiting, NewReader. -/
import Derived.Test.YtddfgfgjkamccaaRe
import Derived.Deep.LoopGhost
namespace Go.Proofs.Ytddfgfgjkamccaa.Tn
open Go Go.RowKit Go.Proofs.YtddfgfgjkamccaaW.PrintWords Go.Proofs.YtddfgfgjkamccaaW.PrintLast Go.Proofs.YtddfgfgjkamccaaW.PrintMore Go.Proofs.Ytddfgfgjkamccaa.PTe
set_option linter.unusedVariables false
set_option linter.unusedSimpArgs false
/-- How much there may be. -/
def RdB (r : Rd) (n : Nat) : Prop := r.out.length ≤ 4 * n ∧ r.data.length ≤ n ∧ r.sub.length ≤ 256
theorem keepF_B {r : Rd} {n : Nat} (h : RdB r n) (b : Int) : RdB (keepF r b) (n + 1) := by
  obtain ⟨h1, h2, h3⟩ := h
  unfold keepF
  split
  · exact ⟨by show r.out.length ≤ _; omega, by show r.data.length ≤ _; omega, h3⟩
  · exact ⟨by show r.out.length ≤ _; omega, by show r.data.length ≤ _; omega, by show (r.sub ++ [b]).length ≤ _; rw [List.length_append, List.length_singleton]; omega⟩
theorem tellF_out (r : Rd) (e : S36) : (tellF r e).out.length ≤ r.out.length + 2 ∧ (tellF r e).data.length = 0 ∧ (tellF r e).sub = r.sub := by
  have h := flush_len r
  refine ⟨?_, rfl, rfl⟩
  show ((flushF r).out ++ [e]).length ≤ _
  rw [List.length_append, List.length_singleton]; omega
theorem cmdF_B {r : Rd} {n : Nat} (h : r.out.length ≤ 4 * n + 2 ∧ r.data.length ≤ n ∧ r.sub.length ≤ 256) (b : Int) : RdB (cmdF r b) (n + 1) := by
  obtain ⟨h1, h2, h3⟩ := h
  unfold cmdF
  split
  · exact ⟨by show r.out.length ≤ _; omega, by show (r.data ++ [b]).length ≤ _; rw [List.length_append, List.length_singleton]; omega, h3⟩
  split
  · exact ⟨by show r.out.length ≤ _; omega, by show r.data.length ≤ _; omega, h3⟩
  split
  · exact ⟨by show r.out.length ≤ _; omega, by show r.data.length ≤ _; omega, h3⟩
  · obtain ⟨t1, t2, t3⟩ := tellF_out r ⟨1, b, 0, [], false, false⟩
    exact ⟨by omega, by omega, by rw [t3]; exact h3⟩
theorem takeF_B {r : Rd} {n : Nat} (h : RdB r n) (b : Int) : RdB (takeF r b) (n + 1) := by
  have h0 := h
  obtain ⟨h1, h2, h3⟩ := h
  unfold takeF
  split
  · exact cmdF_B ⟨by omega, h2, h3⟩ b
  split
  · obtain ⟨t1, t2, t3⟩ := tellF_out r ⟨2, r.vb, b, [], false, false⟩
    exact ⟨by omega, by omega, by rw [t3]; exact h3⟩
  split
  · exact ⟨by show r.out.length ≤ _; omega, by show r.data.length ≤ _; omega, h3⟩
  split
  · split
    · exact ⟨by show r.out.length ≤ _; omega, by show r.data.length ≤ _; omega, h3⟩
    · exact keepF_B h0 b
  split
  · split
    · exact keepF_B h0 b
    split
    · have := endF_len r false
      exact ⟨by omega, by omega, by show ([] : List Int).length ≤ 256; decide⟩
    · have := endF_len r true
      exact cmdF_B ⟨by omega, by omega, by show ([] : List Int).length ≤ 256; decide⟩ b
  split
  · exact ⟨by show r.out.length ≤ _; omega, by show r.data.length ≤ _; omega, h3⟩
  · exact ⟨by show r.out.length ≤ _; omega, by show (r.data ++ [b]).length ≤ _; rw [List.length_append, List.length_singleton]; omega, h3⟩
theorem fold_B {r : Rd} {n : Nat} (h : RdB r n) (p : List Int) : RdB (p.foldl takeF r) (n + p.length) := by
  induction p generalizing r n with
  | nil => exact h
  | cons b p ih =>
    have := ih (takeF_B h b)
    rw [show n + 1 + p.length = n + (b :: p).length by simp; omega] at this
    exact this
/-- What is read of so many bytes. -/
def readF (r : Rd) (p : List Int) : Rd := flushF (p.foldl takeF r)
theorem take_fold (r : Rd) (p : List Int) (k : Nat) (hk : k < p.length) : (p.take (k + 1)).foldl takeF r = takeF ((p.take k).foldl takeF r) (rd p (k : Int)) := by
  rw [List.take_succ_eq_append_getElem hk, List.foldl_append]
  have e : rd p (k : Int) = p[k] := by unfold rd; simp [List.getD_eq_getElem?_getD, hk]
  rw [e]; rfl
theorem Fr.C {O : Nat → Prop} {w w' : World} (h : Fr O w w') {A : Option Addr} {p : List Int} (hc : Kd.C kB w A p.length p) (hn : ∀ ad, A = some ad → 0 < p.length → ¬ O ad.block) : Kd.C kB w' A p.length p := by
  obtain ⟨h1, h2, h3⟩ := hc
  refine ⟨h1, h2, fun hp => ?_⟩
  obtain ⟨ad, e, hc⟩ := h3 hp
  refine ⟨ad, e, fun j q hj => ?_⟩
  obtain ⟨cs, hl, hK, hcell⟩ := hc j q hj
  have hK' : cs = [Value.int .u8 q] := hK
  subst hK'
  refine ⟨_, hl, rfl, fun i u hu => ?_⟩
  have hb : (ad.add (j * kB.sz + i)).block = ad.block := by unfold Addr.add; split <;> rfl
  exact h.cell (hcell i u hu) (by rw [hb]; exact hn ad e hp)
/-- What Feed leaves: the events; the reader without them, and what it may turn: not what the events lie in. -/
def Fed (B g : Nat) (O : Nat → Prop) (r' : Rd) (w : World) (e : Ending) (w' : World) : Prop :=
  ∃ v O2, e = .returned v ∧ RdIs w' B g { r' with out := [] } O2 ∧ (∀ k, O2 k → grow O w w' k) ∧ Kd.R k36 36 w' B (fun k => ¬ O2 k) v r'.out ∧ Fr O w w'
theorem RdIs.told {w : World} {B g : Nat} {r : Rd} {O : Nat → Prop} (h : RdIs w B g r O) (hd : r.data = []) :
    ∃ v6, w.cell? ⟨g, 6, none⟩ = some v6 ∧ ∃ O2, RdIs (w.setCell ⟨g, 6, none⟩ (.slice none 0 0)) B g { r with out := [] } O2 ∧ (∀ k, O2 k → O k) ∧ Kd.R k36 36 (w.setCell ⟨g, 6, none⟩ (.slice none 0 0)) B (fun k => ¬ O2 k) v6 r.out := by
  obtain ⟨v4, v3, v6, h, h3⟩ := h
  refine ⟨v6, blk_cell h.blk 6, fun k => k = g ∨ some k = v3.ownBlock ∨ some k = v4.ownBlock, ⟨v4, v3, _, ⟨blk_put h.blk 6 _ rfl, R5_set h.r3 h.blk _ _, R5_set h.r4 h.blk _ _, Kd.R_nil _ _ _ _ _, h.n34, h.gB, fun k hk => h.fresh k (by rw [World.size_setCell] at hk; exact hk), .inl rfl, fun k hk => .inr (.inl hk.symm), fun k hk => .inr (.inr hk.symm), fun k hk => by simp [Value.ownBlock] at hk, fun k hk => ?_⟩, h3⟩, fun k hk => ?_, ?_⟩
  · rw [World.size_setCell]
    rcases hk with rfl | hk | hk
    · exact h.lt
    · exact Kd.R_lt h.r3 k hk.symm
    · exact Kd.R_lt h.r4 k hk.symm
  · rcases hk with rfl | hk | hk
    · exact h.og
    · exact h.o3 k hk.symm
    · exact h.o4 k hk.symm
  · have hb := h.blk
    refine Kd.R_mono (Kd.R_types (R36_set h.r6 h.blk _ _) (blk_set h.blk 6 (.slice none 0 0)) (by intro q hq; rw [k36_E] at hq; simp at hq; rcases hq with rfl | rfl <;> decide)) (fun k hk hn => ?_)
    rcases hn with rfl | hn | hn
    · exact hk.2 rfl
    · exact hk.1.2 hn
    · exact hk.1.1 hn
set_option maxHeartbeats 4000000 in
theorem feed_of (B g : Nat) (r : Rd) (O : Nat → Prop) (A : Option Addr) (c : Nat) (p : List Int) (w : World) (h : RdIs w B g r O) (hC : Kd.C kB w A p.length p) (hc : p.length ≤ c) (hA : ∀ ad, A = some ad → 0 < p.length → ¬ O ad.block) (n : Nat) (hB : RdB r n) (hn : n + p.length ≤ 10000) :
    Calls Try.prog 12 #[.pointer (some ⟨g, 0, none⟩), .slice A p.length c] w (Fed B g O (readF r p) w) := by
  have HC := Aside0.mk hC
  have HA := Aside0.mk hA
  have HL := Aside0.mk h.olt
  have HB := Aside0.mk hB
  have HT : Aside0 (Tk B g O r w w) := ⟨⟨h.wide (fun k hk => .inl hk) (grow_lt h.olt (Nat.le_refl _)), Fr.refl _ _⟩⟩
  clear hC hA h hB
  go_enter Try.func12, Try.ntmps12
  go_wp2
  go_loopw [12] (fun v wr => ∃ k : Nat, k ≤ p.length ∧ v = .int .i64 (k : Int) ∧ Aside0 (Tk B g O ((p.take k).foldl takeF r) w wr)) (fun v _ => p.length - (intOf v).toNat)
  case atStart => exact ⟨0, by omega, rfl, HT⟩
  case round =>
    clear HT
    obtain ⟨k, hk, rfl, HT⟩ := hrel
    by_cases d : k < p.length
    · have cb : decide ((k : Int) < (p.length : Int)) = true := decide_eq_true (by omega)
      have cn : decide (k < p.length) = true := decide_eq_true d
      obtain ⟨ad, e1, hx0⟩ := Kd.at_int (HT.out.2.C HC.out HA.out) (k : Int) (by omega) (by omega)
      cases e1
      simp only [Int.toNat_natCast] at hx0
      have p0 : (0 ≤ (k : Int)) = True := eq_true (by omega)
      have q0 : ((k : Int) < (p.length : Int)) = True := eq_true (by omega)
      have HF := Aside0.mk (take_fold r p k d)
      have hb := fold_B HB.out (p.take k)
      have hlt : (p.take k).length ≤ p.length := List.length_take_le' _ _
      have HBk := Aside0.mk hb
      have hk1 := Aside0.mk d
      clear d hb
      generalize rd p (k : Int) = b at *
      go_wp2_with fail
      refine (take_of B g _ _ b wr HT.out.1 (by have := HBk.out.1; omega) (by have := HBk.out.2.1; omega) (by have := HBk.out.2.2; omega)).mono ?_
      rintro e w2 ⟨rfl, ht⟩
      have HT2 := Aside0.mk (HT.out.trans ht HL.out)
      clear ht HT
      go_wp2
      go_roundw
      case rel => exact ⟨k + 1, hk1.out, by first | exact next_j k | exact next_i hk1.out (by omega), ⟨by rw [HF.out]; exact HT2.out⟩⟩
      case measure => first | exact meas_j hk1.out | exact meas hk1.out (by omega)
    · have cb : decide ((k : Int) < (p.length : Int)) = false := decide_eq_false (by omega)
      have cn : decide (k < p.length) = false := decide_eq_false d
      have hkl : k = p.length := by omega
      have HT1 : Aside0 (Tk B g O (p.foldl takeF r) w wr) := ⟨by have := HT.out; rw [hkl, List.take_length] at this; exact this⟩
      have HBp := Aside0.mk (fold_B HB.out p)
      clear HT hkl d
      go_wp2_with fail
      obtain ⟨v4, hq⟩ := HT1.out.1
      refine (flush_of B g _ v4 _ _ wr hq (by have := HBp.out.1; omega) (by have := HBp.out.2.1; omega)).mono ?_
      rintro e w2 ⟨rfl, hq2, hF2⟩
      have hI2 : RdIs w2 B g (readF r p) (grow O w w2) := RdIs.wide ⟨v4, hq2⟩ (fun k hk => grow_grow HT1.out.2.size hF2.size hk) (grow_lt HL.out (Nat.le_trans HT1.out.2.size hF2.size))
      have F2 := HT1.out.2.trans hF2
      obtain ⟨v6, z6, O2, hI3, hO2, hR⟩ := hI2.told rfl
      have zf := (Tk.cells hI2).2.2.2.2 6
      have HI2 := Aside0.mk hI2
      have HI3 := Aside0.mk hI3
      have HR := Aside0.mk hR
      have HF := Aside0.mk F2
      clear hq hq2 hF2 hI2 hI3 hR F2 HT1
      obtain ⟨A6, c6, rfl⟩ := Kd.R_slice HR.out
      go_wp2
      go_ret
      refine ⟨_, O2, rfl, HI3.out, fun k hk => ?_, HR.out, HF.out.trans (Fr.of_set w2 g 6 _ HI2.out.og)⟩
      rcases hO2 k hk with h | h
      · exact .inl h
      · exact .inr ⟨h.1, by rw [World.size_setCell]; exact h.2⟩
theorem feed_nil (A : Option Addr) (n c : Nat) (w : World) : Calls Try.prog 12 #[.pointer none, .slice A n c] w fun e w' => e = .returned (.slice none 0 0) ∧ w' = w := by
  go_enter Try.func12, Try.ntmps12
  go_wp2
  go_ret
  exact ⟨rfl, rfl⟩
theorem waiting_nil (w : World) : Calls Try.prog 13 #[.pointer none] w fun e w' => e = .returned (.bool false) ∧ w' = w := by
  go_enter Try.func13, Try.ntmps13
  go_wp2
  go_ret
  exact ⟨rfl, rfl⟩
theorem waiting_of (B g : Nat) (r : Rd) (O : Nat → Prop) (w : World) (h : RdIs w B g r O) : Calls Try.prog 13 #[.pointer (some ⟨g, 0, none⟩)] w fun e w' => e = .returned (.bool (r.st != 0)) ∧ w' = w := by
  have z0 := (Tk.cells h).1
  clear h
  go_enter Try.func13, Try.ntmps13
  go_wp2
  go_ret
  exact ⟨rfl, rfl⟩
def rd0 : Rd := ⟨0, 0, 0, [], [], false, []⟩
theorem new_of (w : World) : Calls Try.prog 18 #[] w fun e w' => ∃ g, e = .returned (.pointer (some ⟨g, 0, none⟩)) ∧ g = w.heap.size ∧ RdIs w' w.heap.size g rd0 (fun k => k = g) ∧ Below w.heap.size w w' ∧ w'.heap.size = w.heap.size + 1 := by
  go_enter Try.func18, Try.ntmps18
  go_wp2
  go_ret
  refine ⟨_, rfl, rfl, ?_, below_alloc (Below.refl _ _) _, by simp⟩
  exact ⟨.slice none 0 0, .slice none 0 0, .slice none 0 0, ⟨blk_new _ _, Kd.R_nil _ _ _ _ _, Kd.R_nil _ _ _ _ _, Kd.R_nil _ _ _ _ _, fun k hk => by simp [Value.ownBlock] at hk, Nat.le_refl _, fun k hk => ⟨by simp [Value.ownBlock], by simp [Value.ownBlock]⟩, rfl, fun k hk => by simp [Value.ownBlock] at hk, fun k hk => by simp [Value.ownBlock] at hk, fun k hk => by simp [Value.ownBlock] at hk, fun k hk => by rw [hk]; simp⟩, fun k hk => by simp [Value.ownBlock] at hk⟩
theorem rd0_B : RdB rd0 0 := ⟨by decide, by decide, by decide⟩
end Go.Proofs.Ytddfgfgjkamccaa.Tn
