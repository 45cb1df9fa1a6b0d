/- order: the document's example (awake). -/
import Derived.Test.YtmejmlohinjpdaaSi
namespace Go.Proofs.Ytmejmlohinjpdaa.Sc
open Go.RowKit Go.Proofs.YtmejmlohinjpdaaW.PrintWords Go.Proofs.YtmejmlohinjpdaaW.PrintLast Go.Proofs.YtmejmlohinjpdaaW.PrintMore Go.Proofs.Ytmejmlohinjpdaa.POr
set_option linter.unusedVariables false
set_option linter.unusedSimpArgs false
theorem dec_64 : dec [64, 64] = (0, 0) := by
  have h : addr_Decode.f 5 12 [64, 64] = some (0, 0) := by decide +kernel
  exact val_is (fun k => addr_Decode.mono 12 [64, 64] k) (0, 0) h
theorem C_lit (W : World) (xs : List Int) (hm : xs.length ≤ 1000) : Kd.C (Kd.int .u8) (W.alloc (.cells (nums .u8 xs).toArray 5)) (some ⟨W.heap.size, 0, none⟩) xs.length xs :=
  (Kd.R_reads' (Kd.R_of_own (enc := Value.int .u8) (h1 := fun _ => rfl) (ok := fun _ => True) (own_lit W W.heap.size 5 .u8 xs (Nat.le_refl _) (by omega)) (fun _ _ => trivial))).2.2
def aw : List Int := [17, 64, 64, 29, 96, 193]
theorem aw_all : allF 6 aw = ([⟨17, 0, 0, false, 0, [], []⟩, ⟨29, 0, 0, false, 96, [], []⟩, ⟨0, 0, 0, false, 0, [], [193]⟩], 0, 0) := by
  have h1 : opF [17, 64, 64, 29, 96, 193] = (⟨17, 0, 0, false, 0, [], []⟩, [29, 96, 193], 0) := by
    unfold opF
    have r : rd [17, 64, 64, 29, 96, 193] 0 = 17 := rfl
    rw [r, if_neg (by decide), if_pos (by decide)]
    have a : addrF ([17, 64, 64, 29, 96, 193].drop 1) = (0, [29, 96, 193], 0) := by
      unfold addrF
      rw [if_neg (by decide)]
      show ((dec [64, 64]).1, _, (dec [64, 64]).2) = _
      rw [dec_64]; rfl
    rw [a]
  have h2 : opF [29, 96, 193] = (⟨29, 0, 0, false, 96, [], []⟩, [193], 0) := by
    unfold opF
    have r : rd [29, 96, 193] 0 = 29 := rfl
    rw [r, if_neg (by decide), if_neg (by decide), if_neg (by decide), if_pos rfl]
    rfl
  have h3 : opF [193] = (⟨0, 0, 0, false, 0, [], [193]⟩, [], 0) := by
    unfold opF
    have r : rd [193] 0 = 193 := rfl
    rw [r, if_pos (by decide)]
    rfl
  unfold aw
  simp only [allF, h1, h2, h3, List.length_cons, List.length_nil, if_true]
  rfl
/-- An element's cells in a row of orders. -/
theorem row_at {W : World} {base : Nat} {ok : Nat → Prop} {v : Value} {xs : List OpR} (h : Kd.R k35 35 W base ok v xs) (hp : 0 < xs.length) : ∃ gg cap, v = .slice (some ⟨gg, 0, none⟩) xs.length cap ∧ base ≤ gg ∧ gg < W.heap.size ∧
    ∀ (i : Nat) (x : OpR), xs[i]? = some x → ∃ A c B d, x.pairs.length ≤ c ∧ Kd.C k50 W A x.pairs.length x.pairs ∧ x.text.length ≤ d ∧ Kd.C (Kd.int .u8) W B x.text.length x.text ∧
      (∀ (j : Nat) (u : Value), [.int .i64 x.kind, .int .i64 x.addr, .int .u8 x.ch, .bool x.graph, .int .u8 x.fa, .slice A x.pairs.length c, .slice B x.text.length d][j]? = some u → W.cell? ⟨gg, i * 7 + j, none⟩ = some u) := by
  obtain ⟨gg, cap, rfl, hb, hg, _⟩ := Kd.R_form h hp
  refine ⟨gg, cap, rfl, hb, hg, fun i x hx => ?_⟩
  obtain ⟨_, _, hC⟩ := Kd.R_reads' h
  have hi := (List.getElem?_eq_some_iff.1 hx).1
  obtain ⟨ad, cs, he, hl, hK, hc⟩ := Kd.C_get hC x (i : Int) (by omega) (by omega)
  injection he with he
  subst he
  have hgd : xs.getD (i : Int).toNat x = x := by rw [Int.toNat_natCast, List.getD_eq_getElem?_getD, hx]; rfl
  rw [hgd] at hK
  obtain ⟨A, c, B, d, rfl, h1, h2, h3, h4⟩ := k35_open hK
  refine ⟨A, c, B, d, h1, h2, h3, h4, fun j u hu => ?_⟩
  have := hc j u hu
  rw [add_plain, Int.toNat_natCast] at this
  exact this
set_option maxHeartbeats 4000000 in
theorem awake_of (w : World) : Calls Try.prog 5 #[] w fun e w' => e = .returned (.bool true) ∧ Below w.heap.size w w' := by
  have A := all_of (some ⟨w.heap.size, 0, none⟩) 6 aw (fun x hx => by simp [aw] at hx; omega) (by decide) _ (C_lit w aw (by decide)) (by decide)
  rw [show aw.length = 6 from rfl, aw_all] at A
  have HA := Aside0.mk A
  clear A
  go_enter Try.func5, Try.ntmps5
  go_wp2_with fail
  refine HA.out.mono ?_
  rintro e w1 ⟨v, rfl, hv, hb⟩
  obtain ⟨gg, cap, rfl, _, _, hx⟩ := row_at hv (by decide)
  obtain ⟨_, _, _, _, _, _, _, _, e0⟩ := hx 0 _ rfl
  obtain ⟨_, _, _, _, _, _, _, _, e1⟩ := hx 1 _ rfl
  obtain ⟨_, _, _, _, _, _, _, _, e2⟩ := hx 2 _ rfl
  have z0 := e0 0 _ rfl
  have z1 := e0 1 _ rfl
  have z2 := e1 4 _ rfl
  have z3 := e2 6 _ rfl
  have HB := Aside0.mk (below_step (below_alloc (Below.refl w.heap.size w) _) hb)
  clear hv hb hx e0 e1 e2
  go_wp2
  go_ret
  exact ⟨rfl, HB.out⟩
end Go.Proofs.Ytmejmlohinjpdaa.Sc
