/- option: a talk that has had so many asks: what a hearing and what is said make of it. -/
import Derived.Test.YtaabojppahcejaaTb
import Derived.Test.YtaabojppahcejaaQu
namespace Go.Proofs.Ytaabojppahcejaa.Op
open Go Go.RowKit Go.Proofs.YtaabojppahcejaaW.PrintWords Go.Proofs.YtaabojppahcejaaW.PrintLast Go.Proofs.YtaabojppahcejaaW.PrintMore Go.Proofs.Ytaabojppahcejaa.POp
set_option linter.unusedVariables false
set_option linter.unusedSimpArgs false
/-- A talk that has had so many asks, and of which at most m words are still to come. -/
def TalkE (w : World) (B gt g0 g1 : Nat) (A0 A1 : Nat → Nat → Bool) (a m : Nat) (P : List (Int × Int) → List (Int × Int) → Prop) : Prop :=
  ∃ S0 S1 W0 W1 U n, TalkIs w B gt g0 g1 A0 A1 S0 S1 W0 W1 n ∧ Ends S0 S1 W0 W1 U ∧ n + pot U ≤ 2 * a ∧ W0.length + W1.length ≤ n ∧ W0.length + W1.length + pot U ≤ m ∧ Rng S0 ∧ Rng S1 ∧ P W0 W1
theorem TalkE.below {w w' : World} {B gt g0 g1 a m : Nat} {A0 A1 : Nat → Nat → Bool} {P : List (Int × Int) → List (Int × Int) → Prop} (h : TalkE w B gt g0 g1 A0 A1 a m P) (hb : Below w.heap.size w w') : TalkE w' B gt g0 g1 A0 A1 a m P := by
  obtain ⟨S0, S1, W0, W1, U, n, h1, h2⟩ := h
  exact ⟨S0, S1, W0, W1, U, n, h1.below hb, h2⟩
theorem TalkE.more {w : World} {B gt g0 g1 a m m' : Nat} {A0 A1 : Nat → Nat → Bool} {P P' : List (Int × Int) → List (Int × Int) → Prop} (h : TalkE w B gt g0 g1 A0 A1 a m P) (hm : m ≤ m') (hP : ∀ x y, P x y → P' x y) : TalkE w B gt g0 g1 A0 A1 a m' P' := by
  obtain ⟨S0, S1, W0, W1, U, n, h1, h2, h3, h4, h5, h6, h7, h8⟩ := h
  exact ⟨S0, S1, W0, W1, U, n, h1, h2, h3, h4, by omega, h6, h7, hP _ _ h8⟩
theorem TalkE.most {w : World} {B gt g0 g1 a m : Nat} {A0 A1 : Nat → Nat → Bool} {P : List (Int × Int) → List (Int × Int) → Prop} (h : TalkE w B gt g0 g1 A0 A1 a m P) : TalkE w B gt g0 g1 A0 A1 a (2 * a) P := by
  obtain ⟨S0, S1, W0, W1, U, n, h1, h2, h3, h4, h5, h6⟩ := h
  exact ⟨S0, S1, W0, W1, U, n, h1, h2, h3, h4, by omega, h6⟩
theorem TalkIs.lt {w : World} {B gt g0 g1 : Nat} {A0 A1 : Nat → Nat → Bool} {S0 S1 : Nat → Nat → Int} {W0 W1 : List (Int × Int)} {n : Nat} (h : TalkIs w B gt g0 g1 A0 A1 S0 S1 W0 W1 n) : gt < w.heap.size ∧ g0 < w.heap.size ∧ g1 < w.heap.size ∧ B ≤ gt ∧ B ≤ g0 ∧ B ≤ g1 ∧ gt ≠ g0 ∧ gt ≠ g1 ∧ g0 ≠ g1 := by
  obtain ⟨v0, v1, h1, h2, h3, h4, h5, h6, h7, h8⟩ := h
  refine ⟨blk_lt h1, h2.lt, h3.lt, h6, h7, h8, ?_, ?_, h4⟩
  · obtain ⟨cs, hc⟩ := h2.typed; exact blk_ne h1 hc (by decide)
  · obtain ⟨cs, hc⟩ := h3.typed; exact blk_ne h1 hc (by decide)
theorem hres_rng (S : Nat → Nat → Int) (A : Nat → Nat → Bool) (v n : Nat) : 0 ≤ (hres S A v n).1 ∧ (hres S A v n).1 ≤ 5 := by
  unfold hres
  split
  · exact hOn_rng _ _
  split
  · exact hOff_rng _
  split
  · exact hOn_rng _ _
  · exact hOff_rng _
theorem ares_rng (S : Nat → Nat → Int) (t : Bool) (i n : Nat) (h : Rng S) : 0 ≤ (ares S t i n).1 ∧ (ares S t i n).1 ≤ 5 := by
  unfold ares
  split
  · exact aOn_rng _ (h _ _)
  · exact aOff_rng _ (h _ _)
theorem Heard_any {w' : World} {B gt g0 g1 a m : Nat} {A0 A1 : Nat → Nat → Bool} {P Z : List (Int × Int) → List (Int × Int) → Prop} {b : Bool} (h1 : b = true → 1 ≤ m ∧ TalkE w' B gt g0 g1 A0 A1 a (m - 1) (fun _ _ => True)) (h2 : b = false → TalkE w' B gt g0 g1 A0 A1 a m (fun x y => P x y ∧ Z x y)) : TalkE w' B gt g0 g1 A0 A1 a m (fun _ _ => True) := by
  cases b with
  | true => exact (h1 rfl).2.more (by omega) (fun _ _ h => h)
  | false => exact (h2 rfl).more (Nat.le_refl _) (fun _ _ _ => trivial)
/-- What a hearing leaves: it was heard, and there is one word less to come; or there was none. -/
def Heard (w : World) (B gt g0 g1 : Nat) (A0 A1 : Nat → Nat → Bool) (a m : Nat) (P Z : List (Int × Int) → List (Int × Int) → Prop) (e : Ending) (w' : World) : Prop :=
  ∃ b, e = .returned (.bool b) ∧ (b = true → 1 ≤ m ∧ TalkE w' B gt g0 g1 A0 A1 a (m - 1) (fun _ _ => True)) ∧ (b = false → TalkE w' B gt g0 g1 A0 A1 a m (fun x y => P x y ∧ Z x y)) ∧ Below B w w'
def rsideN (v : Nat) : Nat := if v = 251 ∨ v = 252 then 1 else 0
theorem rside_nat (v : Nat) : rside (v : Int) = rsideN v := by
  unfold rside rsideN
  by_cases c : v = 251 ∨ v = 252
  · rw [if_pos c, if_pos (by omega)]
  · rw [if_neg c, if_neg (by omega)]
theorem hres_eq' (S : Nat → Nat → Int) (A : Nat → Nat → Bool) (v n : Nat) (hv : v = 251 ∨ v = 252 ∨ v = 253 ∨ v = 254) : hres S A v n = heardW (S (rsideN v) n) (A (rsideN v) n) (wordOf (v : Int)) ∧ sideOf v = rsideN v := by
  have := hres_eq S A v n hv
  rw [rside_nat] at this
  exact this
set_option maxHeartbeats 1000000 in
theorem hear17_any0 (B gt g0 g1 : Nat) (A0 A1 : Nat → Nat → Bool) (a m : Nat) (P : List (Int × Int) → List (Int × Int) → Prop) (ha : a ≤ 40) (w : World) (h : TalkE w B gt g0 g1 A0 A1 a m P) :
    Calls Try.prog 17 #[.pointer (some ⟨gt, 0, none⟩), .int .i64 0] w (Heard w B gt g0 g1 A0 A1 a m P (fun x y => x = [])) := by
  obtain ⟨S0, S1, W0, W1, U, n, h1, h2, h3, hlen, hm, hr0, hr1, hP⟩ := h
  cases hW : W0 with
  | nil =>
    subst hW
    obtain ⟨v0, v1, hb, m0, m1, hne, hw, hB⟩ := h1
    obtain ⟨A, c, e, _⟩ := Kd.Q_slice hw.q0
    have e' : v0 = .slice A 0 c := e
    subst e'
    refine (hear17_none0 gt g0 g1 A c _ n w hb).mono fun e w' ⟨he, hw'⟩ => ?_
    subst hw'
    exact ⟨false, he, fun h => absurd h (by decide), fun _ => ⟨S0, S1, _, _, U, n, ⟨_, _, hb, m0, m1, hne, hw, hB⟩, h2, h3, hlen, hm, hr0, hr1, hP, rfl⟩, Below.refl _ _⟩
  | cons x r =>
    subst hW
    obtain ⟨xv, xo⟩ := x
    obtain ⟨hv, o, ho4, eo⟩ := h2.ok0 _ (List.mem_cons_self ..)
    have eo' : xo = (o : Int) := eo
    subst eo'
    obtain ⟨v, hv4, ev⟩ : ∃ v : Nat, (v = 251 ∨ v = 252 ∨ v = 253 ∨ v = 254) ∧ xv = (v : Int) := by
      have hv' : xv = 251 ∨ xv = 252 ∨ xv = 253 ∨ xv = 254 := hv
      rcases hv' with rfl | rfl | rfl | rfl
      · exact ⟨251, by simp, rfl⟩
      · exact ⟨252, by simp, rfl⟩
      · exact ⟨253, by simp, rfl⟩
      · exact ⟨254, by simp, rfl⟩
    subst ev
    have hbl : n ≤ 80 := by omega
    refine (hear17_one0 B gt g0 g1 A0 A1 S0 S1 v o hv4 (by omega) _ _ n (by simp only [List.length_cons] at hlen; omega) (by simp only [List.length_cons] at hlen; omega) (by omega) w h1).mono fun e w' ⟨he, ht, hb⟩ => ?_
    have hE := h2
    obtain ⟨U', hE', hpot⟩ := (hE).hear (A0 (rsideN v) o)
    obtain ⟨q1, q2⟩ := hres_eq' S0 A0 v o hv4
    rw [q1, q2] at ht
    have hrng := hres_rng S0 A0 v o
    rw [q1] at hrng
    rw [rside_nat] at hE' hpot
    generalize hLL : say (rsideN v) (heardW (S0 (rsideN v) o) (A0 (rsideN v) o) (wordOf (v : Int))).2 (o : Int) = L at *
    have hpot' := hpot
    refine ⟨true, he, fun _ => ⟨by simp only [List.length_cons] at hm; omega, ⟨put S0 (rsideN v) o (heardW (S0 (rsideN v) o) (A0 (rsideN v) o) (wordOf (v : Int))).1, S1, r, W1 ++ L, U', n + L.length, ?_, hE', ?_, ?_, ?_, put_rng hr0 _ _ hrng, hr1, trivial⟩⟩, fun h => absurd h (by decide), hb⟩
    · exact ht
    · simp only [List.length_append, List.length_cons] at hlen hm ⊢; omega
    · simp only [List.length_append, List.length_cons] at hlen hm ⊢; omega
    · simp only [List.length_append, List.length_cons] at hlen hm ⊢; omega
set_option maxHeartbeats 1000000 in
theorem hear17_any1 (B gt g0 g1 : Nat) (A0 A1 : Nat → Nat → Bool) (a m : Nat) (P : List (Int × Int) → List (Int × Int) → Prop) (ha : a ≤ 40) (w : World) (h : TalkE w B gt g0 g1 A0 A1 a m P) :
    Calls Try.prog 17 #[.pointer (some ⟨gt, 0, none⟩), .int .i64 1] w (Heard w B gt g0 g1 A0 A1 a m P (fun x y => y = [])) := by
  obtain ⟨S0, S1, W0, W1, U, n, h1, h2, h3, hlen, hm, hr0, hr1, hP⟩ := h
  cases hW : W1 with
  | nil =>
    subst hW
    obtain ⟨v0, v1, hb, m0, m1, hne, hw, hB⟩ := h1
    obtain ⟨A, c, e, _⟩ := Kd.Q_slice hw.q1
    have e' : v1 = .slice A 0 c := e
    subst e'
    refine (hear17_none1 gt g0 g1 A c _ n w hb).mono fun e w' ⟨he, hw'⟩ => ?_
    subst hw'
    exact ⟨false, he, fun h => absurd h (by decide), fun _ => ⟨S0, S1, _, _, U, n, ⟨_, _, hb, m0, m1, hne, hw, hB⟩, h2, h3, hlen, hm, hr0, hr1, hP, rfl⟩, Below.refl _ _⟩
  | cons x r =>
    subst hW
    obtain ⟨xv, xo⟩ := x
    obtain ⟨hv, o, ho4, eo⟩ := h2.ok1 _ (List.mem_cons_self ..)
    have eo' : xo = (o : Int) := eo
    subst eo'
    obtain ⟨v, hv4, ev⟩ : ∃ v : Nat, (v = 251 ∨ v = 252 ∨ v = 253 ∨ v = 254) ∧ xv = (v : Int) := by
      have hv' : xv = 251 ∨ xv = 252 ∨ xv = 253 ∨ xv = 254 := hv
      rcases hv' with rfl | rfl | rfl | rfl
      · exact ⟨251, by simp, rfl⟩
      · exact ⟨252, by simp, rfl⟩
      · exact ⟨253, by simp, rfl⟩
      · exact ⟨254, by simp, rfl⟩
    subst ev
    have hbl : n ≤ 80 := by omega
    refine (hear17_one1 B gt g0 g1 A0 A1 S0 S1 v o hv4 (by omega) _ _ n (by simp only [List.length_cons] at hlen; omega) (by simp only [List.length_cons] at hlen; omega) (by omega) w h1).mono fun e w' ⟨he, ht, hb⟩ => ?_
    have hE := h2
    obtain ⟨U', hE', hpot⟩ := (hE.swap).hear (A1 (rsideN v) o)
    obtain ⟨q1, q2⟩ := hres_eq' S1 A1 v o hv4
    rw [q1, q2] at ht
    have hrng := hres_rng S1 A1 v o
    rw [q1] at hrng
    rw [rside_nat] at hE' hpot
    generalize hLL : say (rsideN v) (heardW (S1 (rsideN v) o) (A1 (rsideN v) o) (wordOf (v : Int))).2 (o : Int) = L at *
    rw [pot_swap] at hpot; have hpot' := hpot
    refine ⟨true, he, fun _ => ⟨by simp only [List.length_cons] at hm; omega, ⟨S0, put S1 (rsideN v) o (heardW (S1 (rsideN v) o) (A1 (rsideN v) o) (wordOf (v : Int))).1, W0 ++ L, r, fun c o => U' (1 - c) o, n + L.length, ?_, hE'.swap, ?_, ?_, ?_, hr0, put_rng hr1 _ _ hrng, trivial⟩⟩, fun h => absurd h (by decide), hb⟩
    · exact ht
    · simp only [List.length_append, List.length_cons] at hlen hm ⊢; rw [pot_swap]; omega
    · simp only [List.length_append, List.length_cons] at hlen hm ⊢; omega
    · simp only [List.length_append, List.length_cons] at hlen hm ⊢; rw [pot_swap]; omega
/-- What one end says: behind the other's queue, and counted. -/
theorem said0 {w2 w3 : World} {B gt g0 g1 base' : Nat} {A0 A1 : Nat → Nat → Bool} {S0 S1 S0' : Nat → Nat → Int} {W0 W1 L : List (Int × Int)} {n : Nat} {u : Value} {ok' : Nat → Prop} (h : TalkIs w2 B gt g0 g1 A0 A1 S0 S1 W0 W1 n) (hm : MIs w3 g0 S0' A0) (hk : KeepBut w2 w3 g0 none) (hb3 : Below g0 w2 w3)
    (hu : Kd.R kM 37 w3 base' ok' u L) (hL1 : L = [] ∨ ∃ p, L = [p]) (hl1 : W1.length ≤ 1000) :
    ∃ v1 A4 n4 c4 w4, (Builtin.append_ #[30, 30] 30 #[v1, u]).run Try.prog w3.drew = .ok (.slice A4 n4 c4) w4 ∧ w3.cell? ⟨gt, 3, none⟩ = some v1 ∧ w4.cell? ⟨gt, 3, none⟩ = some v1 ∧ w4.frozen? ⟨gt, 3, none⟩ = false ∧
      (∀ v, (w4.setCell ⟨gt, 3, none⟩ v).cell? ⟨gt, 4, none⟩ = some (.int .i64 (n : Int))) ∧ (∀ v, (w4.setCell ⟨gt, 3, none⟩ v).frozen? ⟨gt, 4, none⟩ = false) ∧
      TalkIs ((w4.setCell ⟨gt, 3, none⟩ (.slice A4 n4 c4)).setCell ⟨gt, 4, none⟩ (.int .i64 ((n : Int) + (L.length : Int)))) B gt g0 g1 A0 A1 S0' S1 W0 (W1 ++ L) (n + L.length) ∧
      Below B w2 ((w4.setCell ⟨gt, 3, none⟩ (.slice A4 n4 c4)).setCell ⟨gt, 4, none⟩ (.int .i64 ((n : Int) + (L.length : Int)))) := by
  obtain ⟨_, _, _, _, _, _, h2t, h2o, _⟩ := h.lt
  obtain ⟨v0, v1, hb, m0, m1, hne, hw, hBt, hB0, hB1⟩ := h
  have hw := hw
  have hg2 := m0.lt
  have X3 := hk.blk hb h2t (by simp)
  have b23 : Below B w2 w3 := hb3.mono hB0
  have W3 : Ways w3 B v0 v1 W0 W1 := hw.kept m0.typed hk
  have hs3 : B ≤ w3.heap.size := by have h1 := hk.1; omega
  have O3 := m1.kept hk (fun e => hne e.symm) (by simp)
  obtain ⟨v4, w4, hrun, hw4, hg4⟩ := (W3.below (below_drew (Below.refl _ _))).app (Kd.R_drew hu) hL1 (by omega) hs3
  have hnv : some gt ≠ (v1).ownBlock := Q_away W3.q1 X3 (by decide)
  have X4 := blk_grown (blk_drew X3) hg4 hnv
  have M4 := hm.grown hg4 (Q_away W3.q1 hm.typed.choose_spec (by decide))
  have O4 := O3.grown hg4 (Q_away W3.q1 O3.typed.choose_spec (by decide))
  have B4 := below_grown_ b23 hg4 (W3.q1) hs3
  obtain ⟨A4, n4, c4, rfl, hn4⟩ := Q_shape2 hw4.q1
  have X5 : (w4.setCell ⟨gt, 3, none⟩ (.slice A4 n4 c4)).heap[gt]? = some (.cells #[.pointer (some ⟨g0, 0, none⟩), .pointer (some ⟨g1, 0, none⟩), v0, .slice A4 n4 c4, .int .i64 (n : Int)] 48 (0, 0)) := blk_put X4 3 _ rfl
  have e6 : ((n : Int) + (L.length : Int)) = ((n + L.length : Nat) : Int) := by omega
  have z5 := blk_put (cs' := #[.pointer (some ⟨g0, 0, none⟩), .pointer (some ⟨g1, 0, none⟩), v0, .slice A4 n4 c4, .int .i64 ((n + L.length : Nat) : Int)]) X5 4 (.int .i64 ((n : Int) + (L.length : Int))) (by rw [e6]; rfl)
  have m5 := (M4.far (p := ⟨gt, 3, none⟩) (fun e => h2t e.symm) (.slice A4 n4 c4)).far (p := ⟨gt, 4, none⟩) (fun e => h2t e.symm) (.int .i64 ((n : Int) + (L.length : Int)))
  have o5 := (O4.far (p := ⟨gt, 3, none⟩) (fun e => h2o e.symm) (.slice A4 n4 c4)).far (p := ⟨gt, 4, none⟩) (fun e => h2o e.symm) (.int .i64 ((n : Int) + (L.length : Int)))
  have y5 := (hw4.set X4 (by decide) 3 (.slice A4 n4 c4)).set X5 (by decide) 4 (.int .i64 ((n : Int) + (L.length : Int)))
  exact ⟨_, A4, n4, c4, w4, hrun, blk_cell X3 3, blk_cell X4 3, blk_frozen X4 _, fun v => (blk_cell (blk_set X4 3 v) 4).trans rfl, fun v => blk_frozen (blk_set X4 3 v) _,
    ⟨_, _, z5, m5, o5, hne, y5, hBt, hB0, hB1⟩, (B4.setCell hBt _).setCell hBt _⟩
/-- What one end says: behind the other's queue, and counted. -/
theorem said1 {w2 w3 : World} {B gt g0 g1 base' : Nat} {A0 A1 : Nat → Nat → Bool} {S0 S1 S1' : Nat → Nat → Int} {W0 W1 L : List (Int × Int)} {n : Nat} {u : Value} {ok' : Nat → Prop} (h : TalkIs w2 B gt g0 g1 A0 A1 S0 S1 W0 W1 n) (hm : MIs w3 g1 S1' A1) (hk : KeepBut w2 w3 g1 none) (hb3 : Below g1 w2 w3)
    (hu : Kd.R kM 37 w3 base' ok' u L) (hL1 : L = [] ∨ ∃ p, L = [p]) (hl1 : W0.length ≤ 1000) :
    ∃ v0 A4 n4 c4 w4, (Builtin.append_ #[30, 30] 30 #[v0, u]).run Try.prog w3.drew = .ok (.slice A4 n4 c4) w4 ∧ w3.cell? ⟨gt, 2, none⟩ = some v0 ∧ w4.cell? ⟨gt, 2, none⟩ = some v0 ∧ w4.frozen? ⟨gt, 2, none⟩ = false ∧
      (∀ v, (w4.setCell ⟨gt, 2, none⟩ v).cell? ⟨gt, 4, none⟩ = some (.int .i64 (n : Int))) ∧ (∀ v, (w4.setCell ⟨gt, 2, none⟩ v).frozen? ⟨gt, 4, none⟩ = false) ∧
      TalkIs ((w4.setCell ⟨gt, 2, none⟩ (.slice A4 n4 c4)).setCell ⟨gt, 4, none⟩ (.int .i64 ((n : Int) + (L.length : Int)))) B gt g0 g1 A0 A1 S0 S1' (W0 ++ L) W1 (n + L.length) ∧
      Below B w2 ((w4.setCell ⟨gt, 2, none⟩ (.slice A4 n4 c4)).setCell ⟨gt, 4, none⟩ (.int .i64 ((n : Int) + (L.length : Int)))) := by
  obtain ⟨_, _, _, _, _, _, h2t, h2o, _⟩ := h.lt
  obtain ⟨v0, v1, hb, m0, m1, hne, hw, hBt, hB0, hB1⟩ := h
  have hw := hw.swap
  have hg2 := m1.lt
  have X3 := hk.blk hb h2o (by simp)
  have b23 : Below B w2 w3 := hb3.mono hB1
  have W3 : Ways w3 B v1 v0 W1 W0 := hw.kept m1.typed hk
  have hs3 : B ≤ w3.heap.size := by have h1 := hk.1; omega
  have O3 := m0.kept hk hne (by simp)
  obtain ⟨v4, w4, hrun, hw4, hg4⟩ := (W3.below (below_drew (Below.refl _ _))).app (Kd.R_drew hu) hL1 (by omega) hs3
  have hnv : some gt ≠ (v0).ownBlock := Q_away W3.q1 X3 (by decide)
  have X4 := blk_grown (blk_drew X3) hg4 hnv
  have M4 := hm.grown hg4 (Q_away W3.q1 hm.typed.choose_spec (by decide))
  have O4 := O3.grown hg4 (Q_away W3.q1 O3.typed.choose_spec (by decide))
  have B4 := below_grown_ b23 hg4 (W3.q1) hs3
  obtain ⟨A4, n4, c4, rfl, hn4⟩ := Q_shape2 hw4.q1
  have X5 : (w4.setCell ⟨gt, 2, none⟩ (.slice A4 n4 c4)).heap[gt]? = some (.cells #[.pointer (some ⟨g0, 0, none⟩), .pointer (some ⟨g1, 0, none⟩), .slice A4 n4 c4, v1, .int .i64 (n : Int)] 48 (0, 0)) := blk_put X4 2 _ rfl
  have e6 : ((n : Int) + (L.length : Int)) = ((n + L.length : Nat) : Int) := by omega
  have z5 := blk_put (cs' := #[.pointer (some ⟨g0, 0, none⟩), .pointer (some ⟨g1, 0, none⟩), .slice A4 n4 c4, v1, .int .i64 ((n + L.length : Nat) : Int)]) X5 4 (.int .i64 ((n : Int) + (L.length : Int))) (by rw [e6]; rfl)
  have m5 := (M4.far (p := ⟨gt, 2, none⟩) (fun e => h2o e.symm) (.slice A4 n4 c4)).far (p := ⟨gt, 4, none⟩) (fun e => h2o e.symm) (.int .i64 ((n : Int) + (L.length : Int)))
  have o5 := (O4.far (p := ⟨gt, 2, none⟩) (fun e => h2t e.symm) (.slice A4 n4 c4)).far (p := ⟨gt, 4, none⟩) (fun e => h2t e.symm) (.int .i64 ((n : Int) + (L.length : Int)))
  have y5 := (hw4.set X4 (by decide) 2 (.slice A4 n4 c4)).set X5 (by decide) 4 (.int .i64 ((n : Int) + (L.length : Int)))
  exact ⟨_, A4, n4, c4, w4, hrun, blk_cell X3 2, blk_cell X4 2, blk_frozen X4 _, fun v => (blk_cell (blk_set X4 2 v) 4).trans rfl, fun v => blk_frozen (blk_set X4 2 v) _,
    ⟨_, _, z5, o5, m5, hne, y5.swap, hBt, hB0, hB1⟩, (B4.setCell hBt _).setCell hBt _⟩
theorem asked0 {w : World} {B gt g0 g1 a i o n : Nat} {t : Bool} {A0 A1 : Nat → Nat → Bool} {S0 S1 : Nat → Nat → Int} {W0 W1 : List (Int × Int)} {U : Nat → Nat → Nat} (a' : Nat) (hi : i < 2) (ho : o < 4) (hE : Ends S0 S1 W0 W1 U) (hp : n + pot U ≤ 2 * a) (hl : W0.length + W1.length ≤ n) (hr0 : Rng S0) (hr1 : Rng S1)
    (ht : TalkIs w B gt g0 g1 A0 A1 (put S0 i o (ares S0 t i o).1) S1 W0 (W1 ++ say i (ares S0 t i o).2.1 (o : Int)) (n + (say i (ares S0 t i o).2.1 (o : Int)).length)) (ha : a' = if (ares S0 t i o).2.2 = true then a + 1 else a) : TalkE w B gt g0 g1 A0 A1 a' (2 * a') (fun _ _ => True) := by
  obtain ⟨U', hE', hpot⟩ := (hE).ask t hi ho
  rw [← ares_eq] at hE' hpot
  have hk : (if (ares S0 t i o).2.2 = true then 2 else 0) + 2 * a = 2 * a' := by rw [ha]; split <;> omega
  have hsy : (say i (ares S0 t i o).2.1 (o : Int)).length ≤ 1 := by rw [say_len]; unfold one; split <;> omega
  refine ⟨_, _, _, _, U', _, ht, hE', ?_, ?_, ?_, put_rng hr0 _ _ (ares_rng S0 t i o hr0), hr1, trivial⟩
  · omega
  · simp only [List.length_append]; omega
  · simp only [List.length_append]; omega
theorem asked1 {w : World} {B gt g0 g1 a i o n : Nat} {t : Bool} {A0 A1 : Nat → Nat → Bool} {S0 S1 : Nat → Nat → Int} {W0 W1 : List (Int × Int)} {U : Nat → Nat → Nat} (a' : Nat) (hi : i < 2) (ho : o < 4) (hE : Ends S0 S1 W0 W1 U) (hp : n + pot U ≤ 2 * a) (hl : W0.length + W1.length ≤ n) (hr0 : Rng S0) (hr1 : Rng S1)
    (ht : TalkIs w B gt g0 g1 A0 A1 S0 (put S1 i o (ares S1 t i o).1) (W0 ++ say i (ares S1 t i o).2.1 (o : Int)) W1 (n + (say i (ares S1 t i o).2.1 (o : Int)).length)) (ha : a' = if (ares S1 t i o).2.2 = true then a + 1 else a) : TalkE w B gt g0 g1 A0 A1 a' (2 * a') (fun _ _ => True) := by
  obtain ⟨U', hE', hpot⟩ := (hE.swap).ask t hi ho
  rw [← ares_eq] at hE' hpot
  rw [pot_swap] at hpot; have hk : (if (ares S1 t i o).2.2 = true then 2 else 0) + 2 * a = 2 * a' := by rw [ha]; split <;> omega
  have hsy : (say i (ares S1 t i o).2.1 (o : Int)).length ≤ 1 := by rw [say_len]; unfold one; split <;> omega
  refine ⟨_, _, _, _, fun c o => U' (1 - c) o, _, ht, hE'.swap, ?_, ?_, ?_, hr0, put_rng hr1 _ _ (ares_rng S1 t i o hr1), trivial⟩
  · rw [pot_swap]; omega
  · simp only [List.length_append]; omega
  · simp only [List.length_append]; rw [pot_swap]; omega
end Go.Proofs.Ytaabojppahcejaa.Op
