/- telnet: the document's examples (awake). -/
import Derived.Test.YtddfgfgjkamccaaRf
import Derived.Lib.SlBytesConst
namespace Go.Proofs.Ytddfgfgjkamccaa.Tn
open Go Go.RowKit Go.Proofs.YtddfgfgjkamccaaW.PrintWords Go.Proofs.YtddfgfgjkamccaaW.PrintLast Go.Proofs.YtddfgfgjkamccaaW.PrintMore Go.Proofs.Ytddfgfgjkamccaa.PTe
set_option linter.unusedVariables false
set_option linter.unusedSimpArgs false
theorem C_cells {W : World} {g : Nat} (l : List Int) (hl : l.length ≤ 1000) (h : ∀ j x, l[j]? = some x → W.cell? ⟨g, j, none⟩ = some (.int .u8 x)) : Kd.C kB W (some ⟨g, 0, none⟩) l.length l := by
  refine ⟨rfl, by omega, fun _ => ⟨_, rfl, fun j p hj => ⟨[.int .u8 p], rfl, rfl, fun i u hu => ?_⟩⟩⟩
  match i, hu with
  | 0, hu =>
    simp only [List.getElem?_cons_zero, Option.some.injEq] at hu
    subst hu
    have e : (⟨g, 0, none⟩ : Addr).add (j * kB.sz + 0) = ⟨g, j, none⟩ := by rw [add_plain]; have : kB.sz = 1 := rfl; rw [this]; simp
    rw [e]
    exact h j p hj
theorem C_lit (W : World) (l : List Int) (fr : Nat × Nat) (hl : l.length ≤ 1000) : Kd.C kB (W.alloc (.cells (nums .u8 l).toArray 5 fr)) (some ⟨W.heap.size, 0, none⟩) l.length l :=
  C_cells l hl (fun j x hj => by
    rw [cell_of_row _ _ _ _ _ _ (blk_new W (.cells (nums .u8 l).toArray 5 fr))]
    simp [nums, hj])
/-- A row of one event. -/
theorem R36_one {w : World} {B : Nat} {ok : Nat → Prop} {v : Value} {e : S36} (h : Kd.R k36 36 w B ok v [e]) : ∃ g c A3 c3, v = .slice (some ⟨g, 0, none⟩) 1 c ∧ w.cell? ⟨g, 0, none⟩ = some (.int .i64 e.f0) ∧ w.cell? ⟨g, 2, none⟩ = some (.int .u8 e.f2) ∧
    w.cell? ⟨g, 3, none⟩ = some (.slice A3 e.f3.length c3) ∧ e.f3.length ≤ c3 ∧ Kd.C kB w A3 e.f3.length e.f3 := by
  obtain ⟨g, c, rfl, _, _, _⟩ := Kd.R_form h (by simp)
  obtain ⟨_, _, hC⟩ := Kd.R_reads' h
  obtain ⟨ad, cs, he, hl, hK, hc⟩ := Kd.C_get hC z36 0 (by omega) (by simp)
  injection he with he
  subst he
  obtain ⟨A3, c3, rfl, hl3, hC3⟩ := k36_open hK
  have a0 := hc 0 _ rfl
  have a2 := hc 2 _ rfl
  have a3 := hc 3 _ rfl
  exact ⟨g, c, A3, c3, rfl, a0, a2, a3, hl3, hC3⟩
theorem read_a : (readF rd0 [97, 255, 255, 98]).out = [ev [97, 255, 98]] := by rfl
theorem read_b : (readF rd0 [255, 250, 24, 1, 255, 240]).out = [⟨3, 0, 24, [1], false, false⟩] := by rfl
theorem str_a : strOfNums [97, 255, 98] = { data := #[97, 255, 98] } := by rfl
theorem str_b : strOfNums [1] = { data := #[1] } := by rfl
set_option maxHeartbeats 4000000 in
theorem awake_of (w : World) : Calls Try.prog 7 #[] w fun e w' => e = .returned (.bool true) ∧ Below w.heap.size w w' := by
  go_enter Try.func7, Try.ntmps7
  go_wp2_with fail
  refine (new_of w).mono ?_
  rintro e w1 ⟨g, rfl, hg, hI, hb, hs⟩
  have HI := Aside0.mk hI
  have HB := Aside0.mk hb
  have HG := Aside0.mk hg
  have hs1 := Aside0.mk hs
  clear hI hb hg hs
  have kc := fun (w : World) (C : Array Value) (n c : Nat) => Lib.run_convert_bytes_const (P := Try.prog) w 22 5 C n c Try.underlying22 Try.underlying5
  go_wp2_with fail
  clear kc
  have c1 := C_lit w1 [97, 255, 255, 98] (4, 5) (by decide)
  have b1 := below_alloc (Below.refl w1.heap.size w1) (.cells (nums .u8 [97, 255, 255, 98]).toArray 5 (4, 5))
  refine (feed_of w.heap.size g rd0 _ _ 4 [97, 255, 255, 98] _ (HI.out.below b1) c1 (by decide) (by rintro ad e - h; cases e; have h : w1.heap.size = g := h; have := hs1.out; have := HG.out; omega) 0 rd0_B (by decide)).mono ?_
  rintro e w2 ⟨v1, O2, rfl, hI2, hO2, hR, hF⟩
  rw [read_a] at hR
  have hR2 := Aside0.mk hR
  have F2 := Aside0.mk ((Fr.of_below b1).trans (hF.mono (fun k h => .inl h)))
  have B2 := Aside0.mk (HB.out.trans (F2.out.to (by have := hs1.out; omega) (fun k h => by have := HG.out; have h : k = g := h; omega)))
  clear hR hF hI2 hO2 c1 b1 HI
  go_wp2_with fail
  refine (new_of w2).mono ?_
  rintro e w3 ⟨g3, rfl, hg, hI, hb, hs⟩
  have HI3 := Aside0.mk hI
  have R3 := Aside0.mk (Kd.R_below (Kd.R_mono (Kd.R_bound hR2.out) (fun k hk => hk.2.2.1)) hb)
  have B3 := Aside0.mk (below_then B2.out B2.out.size hb)
  have HG3 := Aside0.mk hg
  have hs3 := Aside0.mk hs
  clear hI hb hg hs hR2
  go_wp2_with fail
  have c1 := C_lit w3 [255, 250, 24, 1, 255, 240] (0, 0) (by decide)
  have b1 := below_alloc (Below.refl w3.heap.size w3) (.cells (nums .u8 [255, 250, 24, 1, 255, 240]).toArray 5)
  refine (feed_of w2.heap.size g3 rd0 _ _ 6 [255, 250, 24, 1, 255, 240] _ (HI3.out.below b1) c1 (by decide) (by rintro ad e - h; cases e; have h : w3.heap.size = g3 := h; have := hs3.out; have := HG3.out; omega) 0 rd0_B (by decide)).mono ?_
  rintro e w4 ⟨v2, O4, rfl, hI4, hO4, hR4, hF4⟩
  rw [read_b] at hR4
  have F4 := (Fr.of_below b1).trans (hF4.mono (fun k h => .inl h))
  have R1 := Kd.R_step R3.out (fun k hk hlt => F4.block k hlt (fun h => by
    have h : k = g3 := h
    have := HG3.out
    omega))
  obtain ⟨ga, ca, Aa, da, rfl, a0, a2, a3, hla, hCa⟩ := R36_one R1
  obtain ⟨gb, cb, Ab, db, rfl, b0, b2, b3, hlb, hCb⟩ := R36_one hR4
  have B4 := Aside0.mk (B3.out.trans (F4.to (B := w.heap.size) (by have := B3.out.size; exact this) (fun k h => by have := HG3.out; have := B2.out.size; have h : k = g3 := h; omega)))
  have s1 := Kd.C_string (P := Try.prog) (A := Aa) (c := da) Try.underlying22 Try.underlying5 Try.underlying9 hCa
  have s2 := Kd.C_string (P := Try.prog) (A := Ab) (c := db) Try.underlying22 Try.underlying5 Try.underlying9 hCb
  replace s1 : (convert 22 9 (.slice Aa 3 da)).run Try.prog w4 = .ok (.string { data := #[97, 255, 98] }) w4 := s1
  replace s2 : (convert 22 9 (.slice Ab 1 db)).run Try.prog w4 = .ok (.string { data := #[1] }) w4 := s2
  replace a3 : w4.cell? ⟨ga, 3, none⟩ = some (.slice Aa 3 da) := a3
  replace b3 : w4.cell? ⟨gb, 3, none⟩ = some (.slice Ab 1 db) := b3
  replace b0 : w4.cell? ⟨gb, 0, none⟩ = some (.int .i64 3) := b0
  replace b2 : w4.cell? ⟨gb, 2, none⟩ = some (.int .u8 24) := b2
  clear R1 hR4 hCa hCb hla hlb F4 hI4 hO4 hF4 c1 b1 R3 F2 B2 B3 a0 a2 HI3 HB
  go_wp2
  go_ret
  exact ⟨rfl, B4.out⟩
end Go.Proofs.Ytddfgfgjkamccaa.Tn
