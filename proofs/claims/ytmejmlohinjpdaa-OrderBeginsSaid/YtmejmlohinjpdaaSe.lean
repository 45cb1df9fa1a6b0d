/- order.scanner: pairs. -/
import Derived.Test.YtmejmlohinjpdaaSd
namespace Go.Proofs.Ytmejmlohinjpdaa.Sc
open Go.RowKit Go.Proofs.YtmejmlohinjpdaaW.PrintWords Go.Proofs.YtmejmlohinjpdaaW.PrintLast Go.Proofs.YtmejmlohinjpdaaW.PrintMore Go.Proofs.Ytmejmlohinjpdaa.POr
set_option linter.unusedVariables false
set_option linter.unusedSimpArgs false
noncomputable def par (p : List Int) : List S50 × Int × Int := val (fun k => attr_Parse.f k p) ([], 0, 0)
theorem rd_byte (p : List Int) (hp : Bytes p) (i : Int) : 0 ≤ rd p i ∧ rd p i ≤ 255 := by
  unfold rd
  rcases Nat.lt_or_ge i.toNat p.length with h | h
  · rw [List.getD_eq_getElem?_getD, List.getElem?_eq_getElem h]
    exact hp _ (List.getElem_mem h)
  · rw [List.getD_eq_getElem?_getD, List.getElem?_eq_none h]
    decide
theorem parse_l0 (p : List Int) (c : Nat) (hc : c ≤ 255) (hl : 1 + 2 * c ≤ p.length) : ∀ (d k j : Nat) (x5 : List S50), c - j ≤ d → j ≤ c → x5.length ≤ j → d < k →
    ∃ r, attr_Parse.l0 k p x5 ((1 + 2 * c : Nat) : Int) ((1 + 2 * j : Nat) : Int) = some r ∧ (r.2.2 = 0 → r.2.1 = ((1 + 2 * c : Nat) : Int)) := by
  intro d
  induction d with
  | zero =>
    intro k j x5 h1 h2 h3 h4
    obtain ⟨k, rfl⟩ : ∃ m, k = m + 1 := ⟨k - 1, by omega⟩
    simp only [attr_Parse.l0]
    rw [if_neg (by omega)]
    exact ⟨_, rfl, fun _ => rfl⟩
  | succ d ih =>
    intro k j x5 h1 h2 h3 h4
    obtain ⟨k, rfl⟩ : ∃ m, k = m + 1 := ⟨k - 1, by omega⟩
    simp only [attr_Parse.l0]
    have w1 : wrap64 (((1 + 2 * j : Nat) : Int) + 1) = ((2 + 2 * j : Nat) : Int) := by rw [wrap_in _ (by omega) (by omega)]; omega
    have w2 : wrap64 (((1 + 2 * j : Nat) : Int) + 2) = ((1 + 2 * (j + 1) : Nat) : Int) := by rw [wrap_in _ (by omega) (by omega)]; omega
    by_cases cj : j < c
    · rw [if_pos (by omega), if_pos (by omega), if_pos (by omega), w1, w2, if_pos (by omega), if_pos (by omega), chk_ok, Option.bind_some]
      by_cases e : chk (rd p ((1 + 2 * j : Nat) : Int)) (rd p ((2 + 2 * j : Nat) : Int)) = 0
      · rw [if_pos e, if_pos (by omega)]
        exact ih k (j + 1) _ (by omega) (by omega) (by rw [List.length_append, List.length_singleton]; omega) (by omega)
      · rw [if_neg e]
        exact ⟨_, rfl, fun h => absurd h e⟩
    · rw [if_neg (by omega)]
      exact ⟨_, rfl, fun _ => rfl⟩
theorem wrap_byte (x : Int) (h : 0 ≤ x ∧ x ≤ 255) : wrap64 x = x := wrap_in x (by omega) (by omega)
theorem par_some (p : List Int) (hp : Bytes p) (hl : p.length ≤ 100000) : ∃ k r, attr_Parse.f k p = some r ∧ (r.2.2 = 0 → 0 ≤ r.2.1 ∧ r.2.1 ≤ p.length) := by
  refine ⟨300, ?_⟩
  generalize hk : 298 = k
  rw [show (300 : Nat) = k + 1 + 1 by omega]
  unfold attr_Parse.f
  by_cases h0 : p.length < 1
  · rw [if_pos (by omega)]
    simp only [attr_Parse.j0]
    rw [if_pos trivial]
    exact ⟨_, rfl, fun h => absurd h (by decide)⟩
  · rw [if_neg (by omega), if_pos (by omega)]
    have hb := rd_byte p hp 0
    obtain ⟨c, hc⟩ : ∃ c : Nat, rd p 0 = (c : Int) := ⟨(rd p 0).toNat, by omega⟩
    have hw : wrap64 (1 + wrap64 (2 * wrap64 (rd p 0))) = ((1 + 2 * c : Nat) : Int) := by
      rw [wrap_byte _ hb, hc, wrap_in (2 * (c : Int)) (by omega) (by omega), wrap_in _ (by omega) (by omega)]
      omega
    rw [hw]
    by_cases h1 : (p.length : Int) < ((1 + 2 * c : Nat) : Int)
    · rw [decide_eq_true h1]
      simp only [attr_Parse.j0]
      rw [if_pos trivial]
      exact ⟨_, rfl, fun h => absurd h (by decide)⟩
    · rw [decide_eq_false h1]
      simp only [attr_Parse.j0]
      rw [if_neg (by decide), if_pos (by omega), hw]
      obtain ⟨r, hr, hn⟩ := parse_l0 p c (by omega) (by omega) c (k + 1) 0 [] (by omega) (by omega) (by simp) (by omega)
      exact ⟨r, hr, fun h => by rw [hn h]; omega⟩
theorem par_ok (p : List Int) (hp : Bytes p) (hl : p.length ≤ 100000) : (∃ k, attr_Parse.f k p = some (par p)) ∧ ((par p).2.2 = 0 → 0 ≤ (par p).2.1 ∧ (par p).2.1 ≤ p.length) := by
  obtain ⟨k, r, h, h2⟩ := par_some p hp hl
  have e : par p = r := val_is (fun k => attr_Parse.mono p k) _ h
  rw [e]
  exact ⟨⟨k, h⟩, h2⟩
/-- What pairs answers, what is left, and the error (there was none). -/
noncomputable def pairsF (p : List Int) : List S50 × List Int × Int := if (par p).2.2 = 0 then ((par p).1, p.drop (par p).2.1.toNat, 0) else ([], p, (par p).2.2)
set_option maxHeartbeats 4000000 in
theorem pairs_of (g : Nat) (p : List Int) (hp : Bytes p) (hl : p.length ≤ 100000) (w0 w : World) (hI : SS w0 w g p 0) (hB : Below w0.heap.size w0 w) :
    Calls Try.prog 22 #[.pointer (some ⟨g, 0, none⟩)] w fun e w' => ∃ v, e = .returned v ∧ Kd.R k50 50 w' w.heap.size (fun _ => True) v (pairsF p).1 ∧ SS w0 w' g (pairsF p).2.1 (pairsF p).2.2 ∧ Below w0.heap.size w0 w' ∧ KeepBut w w' g none := by
  obtain ⟨A, c, hb, h1, h2, h3⟩ := id hI
  obtain ⟨⟨k, hk⟩, hn⟩ := par_ok p hp hl
  have z0 := blk_cell hb 0
  have HI := Aside0.mk hI
  have PC := fun W hC => attr_Parse.calls k A c p (par p).1 (par p).2.1 (par p).2.2 W hC h2 hk
  have HPC := Aside0.mk PC
  have H3 := Aside0.mk h3
  have HBw := Aside0.mk hB
  clear PC hk hI hb h3 hB
  by_cases ce : (par p).2.2 = 0
  · obtain ⟨n, hnn⟩ : ∃ n : Nat, (par p).2.1 = (n : Int) := ⟨(par p).2.1.toNat, by have := hn ce; omega⟩
    have hn' : n ≤ p.length := by have := hn ce; omega
    have hf : pairsF p = ((par p).1, p.drop n, 0) := by unfold pairsF; rw [if_pos ce, hnn, Int.toNat_natCast]
    rw [hf]
    dsimp only
    rw [ce, hnn] at HPC
    generalize (par p).1 = l at *
    clear hf hn hnn ce
    go_enter Try.func22, Try.ntmps22
    go_wp2_with fail
    refine (HPC.out _ (Kd.C_below H3.out HBw.out)).mono ?_
    rintro e w1 ⟨v, rfl, hv, hb1⟩
    have HS := Aside0.mk (HI.out.below hb1)
    have HB1 := Aside0.mk (below_step HBw.out hb1)
    have hsz := hb1.size
    have hg : g < w.heap.size := HI.out.lt
    have HV := Aside0.mk hv
    have HK := Aside0.mk (KeepBut.of_below hb1 g none)
    clear hv hb1 z0
    go_wp2_with fail
    refine (take_ok g n p 0 hn' w0 _ HS.out HB1.out).mono ?_
    rintro e w2 ⟨A2, rfl, hC2, hs2, hb2, hk2⟩
    have HV2 := Aside0.mk (Kd.R_keep (Kd.R_mono (Kd.R_bound HV.out) (fun k hk => (by have := hk.2.1; omega : k ≠ g))) hk2 (fun _ h => h))
    go_wp2
    go_ret
    exact ⟨v, rfl, Kd.R_mono HV2.out (fun _ _ => trivial), hs2, hb2, HK.out.trans hk2 (.inl rfl)⟩
  · have hf : pairsF p = ([], p, (par p).2.2) := by unfold pairsF; rw [if_neg ce]
    rw [hf]
    dsimp only
    have HF := Aside0.mk (show failF 0 (par p).2.2 = (par p).2.2 from rfl)
    generalize (par p).2.2 = e2 at *
    have cb : (e2 != 0) = true := by simpa using ce
    clear hf hn ce
    go_enter Try.func22, Try.ntmps22
    go_wp2_with fail
    refine (HPC.out _ (Kd.C_below H3.out HBw.out)).mono ?_
    rintro e w1 ⟨v, rfl, hv, hb1⟩
    have HS := Aside0.mk (HI.out.below hb1)
    have HB1 := Aside0.mk (below_step HBw.out hb1)
    have HK := Aside0.mk (KeepBut.of_below hb1 g none)
    clear hv hb1 z0
    go_wp2_with fail
    refine (fail_of g p 0 e2 w0 _ HS.out HB1.out).mono ?_
    rintro e w2 ⟨rfl, hs2, hb2, hk2⟩
    rw [HF.out] at hs2
    go_wp2
    go_ret
    exact ⟨_, rfl, Kd.R_nil _ _ _ _ _, hs2, hb2, HK.out.trans hk2 (.inl rfl)⟩
end Go.Proofs.Ytmejmlohinjpdaa.Sc
