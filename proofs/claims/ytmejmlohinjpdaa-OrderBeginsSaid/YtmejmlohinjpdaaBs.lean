/- order: what OrderBegins' walk needs: elements of a row of orders, Same. -/
import Derived.Test.YtmejmlohinjpdaaBk
import Derived.Test.YtmejmlohinjpdaaBg
import Derived.Test.YtmejmlohinjpdaaPOrx6
import Derived.Test.YtmejmlohinjpdaaPOrx8
namespace Go.Proofs.Ytmejmlohinjpdaa.Sc
open Go.RowKit Go.Proofs.YtmejmlohinjpdaaW.PrintWords Go.Proofs.YtmejmlohinjpdaaW.PrintLast Go.Proofs.YtmejmlohinjpdaaW.PrintMore Go.Proofs.Ytmejmlohinjpdaa.POr
set_option linter.unusedVariables false
set_option linter.unusedSimpArgs false
/-- An element of a row of orders: its cells. -/
theorem at_35 {W : World} {A : Option Addr} {n : Nat} {xs : List OpR} (h : Kd.C k35 W A n xs) (i : Nat) (x : OpR) (hx : xs[i]? = some x) :
    ∃ ad P pn T tm, A = some ad ∧ x.pairs.length ≤ pn ∧ Kd.C k50 W P x.pairs.length x.pairs ∧ x.text.length ≤ tm ∧ Kd.C (Kd.int .u8) W T x.text.length x.text ∧
      W.cell? (ad.add (i * 7)) = some (.int .i64 x.kind) ∧ W.cell? ⟨(ad.add (i * 7)).block, (ad.add (i * 7)).off + 1, none⟩ = some (.int .i64 x.addr) ∧ W.cell? ⟨(ad.add (i * 7)).block, (ad.add (i * 7)).off + 2, none⟩ = some (.int .u8 x.ch) ∧ W.cell? ⟨(ad.add (i * 7)).block, (ad.add (i * 7)).off + 3, none⟩ = some (.bool x.graph) ∧ W.cell? ⟨(ad.add (i * 7)).block, (ad.add (i * 7)).off + 4, none⟩ = some (.int .u8 x.fa) ∧ W.cell? ⟨(ad.add (i * 7)).block, (ad.add (i * 7)).off + 5, none⟩ = some (.slice P x.pairs.length pn) ∧ W.cell? ⟨(ad.add (i * 7)).block, (ad.add (i * 7)).off + 6, none⟩ = some (.slice T x.text.length tm) := by
  have hi := (List.getElem?_eq_some_iff.1 hx).1
  have hn := h.1
  obtain ⟨ad, cs, he, hl, hK, hc0⟩ := Kd.C_get h x (i : Int) (by omega) (by omega)
  have hgd : xs.getD (i : Int).toNat x = x := by rw [Int.toNat_natCast, List.getD_eq_getElem?_getD, hx]; rfl
  rw [hgd] at hK
  obtain ⟨P, pn, T, tm, rfl, h1, h2, h3, h4⟩ := k35_open hK
  have hc : ∀ j u, [Value.int .i64 x.kind, .int .i64 x.addr, .int .u8 x.ch, .bool x.graph, .int .u8 x.fa, .slice P x.pairs.length pn, .slice T x.text.length tm][j]? = some u → W.cell? (ad.add (i * 7 + j)) = some u := by
    intro j u hu
    have := hc0 j u hu
    rwa [Int.toNat_natCast] at this
  exact ⟨ad, P, pn, T, tm, he, h1, h2, h3, h4, hc 0 _ rfl, by rw [← add_field _ _ 1 (by omega)]; exact hc 1 _ rfl, by rw [← add_field _ _ 2 (by omega)]; exact hc 2 _ rfl, by rw [← add_field _ _ 3 (by omega)]; exact hc 3 _ rfl, by rw [← add_field _ _ 4 (by omega)]; exact hc 4 _ rfl, by rw [← add_field _ _ 5 (by omega)]; exact hc 5 _ rfl, by rw [← add_field _ _ 6 (by omega)]; exact hc 6 _ rfl⟩
theorem same_l0 (k a c : Int) (g : Bool) (f : Int) (l : List S51) (t : List Int) (hl : l.length ≤ 100000) : ∀ (d m i : Nat), l.length - i ≤ d → i ≤ l.length → d < m → vitrineref16_Same.l0 m (l.length : Int) (i : Int) k a c g f l t k a c g f l t = some true := by
  intro d
  induction d with
  | zero =>
    intro m i h1 h2 h3
    obtain ⟨m, rfl⟩ : ∃ q, m = q + 1 := ⟨m - 1, by omega⟩
    simp only [vitrineref16_Same.l0]
    rw [if_neg (by omega)]
  | succ d ih =>
    intro m i h1 h2 h3
    obtain ⟨m, rfl⟩ : ∃ q, m = q + 1 := ⟨m - 1, by omega⟩
    simp only [vitrineref16_Same.l0]
    by_cases ci : i < l.length
    · rw [if_pos (by omega), if_pos (by omega), if_pos (by omega), if_pos (by omega), if_neg (by simp), wrap_in _ (by omega) (by omega)]
      exact ih m (i + 1) (by omega) (by omega) (by omega)
    · rw [if_neg (by omega)]
theorem same_is (k a c : Int) (g : Bool) (f : Int) (l : List S51) (t : List Int) (hl : l.length ≤ 100000) : vitrineref16_Same.f (l.length + 3) k a c g f l t k a c g f l t = some true := by
  unfold vitrineref16_Same.f
  rw [if_pos rfl, if_pos rfl, if_pos rfl, if_neg (by simp), if_pos rfl]
  have : vitrineref01_Same.f t t = some true := by simp [vitrineref01_Same.f]
  rw [this, Option.bind_some, if_pos rfl]
  simp only [vitrineref16_Same.j0]
  rw [if_neg (by simp)]
  exact same_l0 k a c g f l t hl l.length _ 0 (by omega) (by omega) (by omega)
/-- Two alike: Same says so. -/
theorem same_of (k a c : Int) (g : Bool) (f : Int) (l : List S51) (t : List Int) (P1 : Option Addr) (n1 : Nat) (T1 : Option Addr) (m1 : Nat) (P2 : Option Addr) (n2 : Nat) (T2 : Option Addr) (m2 : Nat) (w : World) (hl : l.length ≤ 100000)
    (h1 : Kd.C k51 w P1 l.length l) (hn1 : l.length ≤ n1) (h2 : Kd.C (Kd.int .u8) w T1 t.length t) (hm1 : t.length ≤ m1) (h3 : Kd.C k51 w P2 l.length l) (hn2 : l.length ≤ n2) (h4 : Kd.C (Kd.int .u8) w T2 t.length t) (hm2 : t.length ≤ m2) :
    Calls Try.prog 13 #[.agg #[.int .i64 k, .int .i64 a, .int .u8 c, .bool g, .int .u8 f, .slice P1 l.length n1, .slice T1 t.length m1], .agg #[.int .i64 k, .int .i64 a, .int .u8 c, .bool g, .int .u8 f, .slice P2 l.length n2, .slice T2 t.length m2]] w fun e w' => e = .returned (.bool true) ∧ Below w.heap.size w w' :=
  vitrineref16_Same.calls _ k a c g f P1 n1 l T1 m1 t k a c g f P2 n2 l T2 m2 t true w h1 hn1 h2 hm1 h3 hn2 h4 hm2 (same_is k a c g f l t hl)
theorem back_of' (k a ch : Int) (gr : Bool) (fa : Int) (A : Option Addr) (c : Nat) (prs : List S50) (B : Option Addr) (tl d : Nat) (w : World) (hC : Kd.C k50 w A prs.length prs) (hc : prs.length ≤ c) (hl : prs.length ≤ 100000) :
    Calls Try.prog 12 #[.agg #[.int .i64 k, .int .i64 a, .int .u8 ch, .bool gr, .int .u8 fa, .slice A prs.length c, .slice B tl d]] w fun e w' => ∃ P q, e = .returned (.agg #[.int .i64 k, .int .i64 a, .int .u8 ch, .bool gr, .int .u8 fa, .slice P prs.length q, .slice B tl d]) ∧ Kd.R k51 51 w' w.heap.size (fun _ => True) (.slice P prs.length q) (prs.map S51.of) ∧ Below w.heap.size w w' :=
  (back_of k a ch gr fa A c prs B tl d w hC hc hl).mono fun e w' ⟨v, he, hR, hb⟩ => by
    obtain ⟨P, q, rfl⟩ := Kd.R_slice hR
    rw [List.length_map] at he hR
    exact ⟨P, q, he, hR, hb⟩
theorem same_of2 (k a c : Int) (g : Bool) (f : Int) (l : List S51) (nl : Nat) (hnl : l.length = nl) (t : List Int) (P1 : Option Addr) (n1 : Nat) (T1 : Option Addr) (m1 : Nat) (P2 : Option Addr) (n2 : Nat) (T2 : Option Addr) (m2 : Nat) (base1 base2 : Nat) (w : World) (hl : l.length ≤ 100000)
    (h1 : Kd.R k51 51 w base1 (fun _ => True) (.slice P1 nl n1) l) (h2 : Kd.C (Kd.int .u8) w T1 t.length t) (hm1 : t.length ≤ m1) (h3 : Kd.R k51 51 w base2 (fun _ => True) (.slice P2 nl n2) l) (h4 : Kd.C (Kd.int .u8) w T2 t.length t) (hm2 : t.length ≤ m2) :
    Calls Try.prog 13 #[.agg #[.int .i64 k, .int .i64 a, .int .u8 c, .bool g, .int .u8 f, .slice P1 nl n1, .slice T1 t.length m1], .agg #[.int .i64 k, .int .i64 a, .int .u8 c, .bool g, .int .u8 f, .slice P2 nl n2, .slice T2 t.length m2]] w fun e w' => e = .returned (.bool true) ∧ Below w.heap.size w w' := by
  subst hnl
  obtain ⟨_, a1, a2⟩ := Kd.R_reads' h1
  obtain ⟨_, b1, b2⟩ := Kd.R_reads' h3
  exact same_of k a c g f l t P1 n1 T1 m1 P2 n2 T2 m2 w hl a2 a1 h2 hm1 b2 b1 h4 hm2
theorem one_st7 {w4 W : World} {g g' : Nat} {a0 a1 a2 a3 a4 a5 a6 : Value} {o : Obj} (h : W.heap[g]? = some (.cells #[a0, a1, a2, a3, a4, a5, a6] 38 (0, 0))) (h' : W.heap[g']? = some o) (hne : g' ≠ g)
    (hB : Below w4.heap.size w4 W) (l : w4.heap.size ≤ g) (b0 b1 b2 b3 b4 b5 b6 : Value) :
    ∃ W', st7 W g b0 b1 b2 b3 b4 b5 b6 = W' ∧ W'.heap[g]? = some (.cells #[b0, b1, b2, b3, b4, b5, b6] 38 (0, 0)) ∧ W'.heap[g']? = some o ∧ Below w4.heap.size w4 W' ∧
      (∀ (v : Value) (xs : List S51), Kd.R k51 51 W w4.heap.size (fun _ => True) v xs → Kd.R k51 51 W' w4.heap.size (fun _ => True) v xs) := by
  have k1 := st7_keep W g b0 b1 b2 b3 b4 b5 b6
  refine ⟨_, rfl, st7_blk' h _ _ _ _ _ _ _, k1.blk h' hne (by simp), st7_below hB l _ _ _ _ _ _ _, fun v xs hr => ?_⟩
  exact Kd.R_mono (Kd.R_keep (Kd.R_types hr h (by decide)) k1 (fun _ hk => hk.2)) (fun _ _ => trivial)
theorem two_st7 {w4 W : World} {g13 g14 : Nat} {a0 a1 a2 a3 a4 a5 a6 d0 d1 d2 d3 d4 d5 d6 : Value} (h13 : W.heap[g13]? = some (.cells #[a0, a1, a2, a3, a4, a5, a6] 38 (0, 0))) (h14 : W.heap[g14]? = some (.cells #[d0, d1, d2, d3, d4, d5, d6] 38 (0, 0))) (hne : g13 ≠ g14)
    (hB : Below w4.heap.size w4 W) (l13 : w4.heap.size ≤ g13) (l14 : w4.heap.size ≤ g14) (b0 b1 b2 b3 b4 b5 b6 c0 c1 c2 c3 c4 c5 c6 : Value) :
    ∃ W', st7 (st7 W g13 b0 b1 b2 b3 b4 b5 b6) g14 c0 c1 c2 c3 c4 c5 c6 = W' ∧ W'.heap[g13]? = some (.cells #[b0, b1, b2, b3, b4, b5, b6] 38 (0, 0)) ∧ W'.heap[g14]? = some (.cells #[c0, c1, c2, c3, c4, c5, c6] 38 (0, 0)) ∧ Below w4.heap.size w4 W' ∧
      (∀ (v : Value) (xs : List S51), Kd.R k51 51 W w4.heap.size (fun _ => True) v xs → Kd.R k51 51 W' w4.heap.size (fun _ => True) v xs) := by
  have k1 := st7_keep W g13 b0 b1 b2 b3 b4 b5 b6
  have k2 := st7_keep (st7 W g13 b0 b1 b2 b3 b4 b5 b6) g14 c0 c1 c2 c3 c4 c5 c6
  have x13 := st7_blk' h13 b0 b1 b2 b3 b4 b5 b6
  have x14 := k1.blk h14 (Ne.symm hne) (by simp)
  refine ⟨_, rfl, k2.blk x13 hne (by simp), st7_blk' x14 _ _ _ _ _ _ _, st7_below (st7_below hB l13 _ _ _ _ _ _ _) l14 _ _ _ _ _ _ _, fun v xs h => ?_⟩
  have r1 := Kd.R_keep (Kd.R_types h h13 (by decide)) k1 (fun _ hk => hk.2)
  have r2 := Kd.R_keep (Kd.R_types r1 x14 (by decide)) k2 (fun _ hk => hk.2)
  exact Kd.R_mono r2 (fun _ _ => trivial)
theorem parse_len (p : List Int) (hl : p.length ≤ 100000) : ∀ (k : Nat) (x5 : List S50) (x6 x7 : Int) (r : List S50 × Int × Int), attr_Parse.l0 k p x5 x6 x7 = some r → r.1.length ≤ x5.length + (x6 - x7).toNat := by
  intro k
  induction k with
  | zero => intro x5 x6 x7 r h; simp [attr_Parse.l0] at h
  | succ k ih =>
    intro x5 x6 x7 r h
    simp only [attr_Parse.l0] at h
    by_cases c1 : x7 < x6
    · rw [if_pos c1] at h
      by_cases c2 : 0 ≤ x7
      · rw [if_pos c2] at h
        by_cases c3 : x7 < (p.length : Int)
        · rw [if_pos c3] at h
          by_cases c4 : 0 ≤ wrap64 (x7 + 1)
          · rw [if_pos c4] at h
            by_cases c5 : wrap64 (x7 + 1) < (p.length : Int)
            · rw [if_pos c5, chk_ok, Option.bind_some] at h
              by_cases c6 : chk (rd p x7) (rd p (wrap64 (x7 + 1))) = 0
              · rw [if_pos c6] at h
                by_cases c7 : x5.length < 70368744177664
                · rw [if_pos c7, wrap_in (x7 + 2) (by omega) (by omega)] at h
                  have := ih _ _ _ _ h
                  rw [List.length_append, List.length_singleton] at this
                  have h1 : wrap64 (x7 + 1) = x7 + 1 := wrap_in _ (by omega) (by omega)
                  rw [h1] at c5
                  rcases Int.lt_or_le (x7 + 1) x6 with h2 | h2
                  · omega
                  · have : (x6 - (x7 + 2)).toNat = 0 := by omega
                    omega
                · rw [if_neg c7] at h; cases h
              · rw [if_neg c6] at h
                obtain rfl := Option.some.inj h
                simp
            · rw [if_neg c5] at h; cases h
          · rw [if_neg c4] at h; cases h
        · rw [if_neg c3] at h; cases h
      · rw [if_neg c2] at h; cases h
    · rw [if_neg c1] at h
      obtain rfl := Option.some.inj h
      simp
theorem par_len (p : List Int) (hp : Bytes p) (hl : p.length ≤ 100000) : (par p).1.length ≤ 1000 := by
  obtain ⟨⟨k, hk⟩, _⟩ := par_ok p hp hl
  have hb := rd_byte p hp 0
  unfold attr_Parse.f at hk
  have j0 : ∀ k x r, attr_Parse.j0 k p x = some r → r.1.length ≤ 1000 := by
    intro k x r h
    cases k with
    | zero => simp [attr_Parse.j0] at h
    | succ k =>
      simp only [attr_Parse.j0] at h
      split at h
      · obtain rfl := Option.some.inj h
        simp
      · split at h
        · have := parse_len p hl _ _ _ _ _ h
          have hw : wrap64 (1 + wrap64 (2 * wrap64 (rd p 0))) = 1 + 2 * rd p 0 := by
            rw [wrap_byte _ hb, wrap_in (2 * rd p 0) (by omega) (by omega), wrap_in _ (by omega) (by omega)]
          rw [hw] at this
          simp at this
          omega
        · cases h
  split at hk
  · exact j0 _ _ _ hk
  · split at hk
    · exact j0 _ _ _ hk
    · cases hk
theorem opF_pairs (b : Int) (q : List Int) (hq : Bytes q) (hl : q.length ≤ 100000) : (opF (b :: q)).1.pairs.length ≤ 1000 := by
  have d1 : (b :: q).drop 1 = q := rfl
  unfold opF
  rw [d1]
  split
  · simp
  split
  · simp
  split
  · simp
  split
  · simp
  split
  · simp
  split
  · show (pairsF q).1.length ≤ 1000
    unfold pairsF
    split
    · exact par_len q hq hl
    · simp
  split
  · simp
  · simp
theorem allF_pairs : ∀ (n : Nat) (p : List Int), Bytes p → p.length ≤ 100000 → ∀ x ∈ (allF n p).1, x.pairs.length ≤ 1000
  | 0, p, _, _, x, hx => by simp [allF] at hx
  | n + 1, [], _, _, x, hx => by simp [allF] at hx
  | n + 1, b :: q, hp, hl, x, hx => by
    have hq : Bytes q := fun y hy => hp y (by simp [hy])
    have hql : q.length ≤ 100000 := by simp at hl; omega
    simp only [allF] at hx
    rw [if_neg (by simp)] at hx
    split at hx
    · obtain ⟨hp1, hp2⟩ := opF_part b q
      rcases List.mem_cons.1 hx with rfl | hx
      · exact opF_pairs b q hq hql
      · exact allF_pairs n _ (fun y hy => hp y (hp2 y hy)) (by omega) x hx
    · simp at hx
/-- All of a beginning, and of the whole. -/
theorem begins (q s : List Int) (hp : Bytes (q ++ s)) (hl : (q ++ s).length ≤ 100000) : (allF q.length q).1.length ≤ (allF (q ++ s).length (q ++ s)).1.length ∧
    (∀ i x, (allF q.length q).1[i]? = some x → ∃ y, (allF (q ++ s).length (q ++ s)).1[i]? = some y ∧ Like (i + 1 == (allF q.length q).1.length) x y ∧ x.pairs.length ≤ 1000 ∧ y.pairs.length ≤ 1000) ∧ (allF q.length q).2.1 ≤ q.length ∧ ((allF q.length q).2.2 = 0 → (allF q.length q).2.1 = 0) := by
  have hq : Bytes q := fun x hx => hp x (by simp [hx])
  have hql : q.length ≤ 100000 := by rw [List.length_append] at hl; omega
  obtain ⟨h1, h2⟩ := allF_ext q.length q s (q ++ s).length hq hql (Nat.le_refl _) (Nat.le_refl _)
  obtain ⟨h3, h4⟩ := allF_left q.length q (Nat.le_refl _)
  refine ⟨h1, fun i x hx => ?_, h3, h4⟩
  obtain ⟨y, hy, hlk⟩ := h2 i x hx
  exact ⟨y, hy, hlk, allF_pairs _ q hq hql x (List.mem_of_getElem? hx), allF_pairs _ (q ++ s) hp hl y (List.mem_of_getElem? hy)⟩
theorem copy_is (l : List Int) (hl : l.length ≤ 100000) : vitrineref01_Copy.f l = some l := by
  unfold vitrineref01_Copy.f
  rw [Option.bind_some, if_pos (by simp; omega)]; rfl
theorem cut_is (l : List Int) (m : Nat) (hm : m ≤ 1000) : vitrineref01_Cut.f l (m : Int) = some (l.take m) := by
  unfold vitrineref01_Cut.f
  by_cases h : (l.length : Int) > m
  · rw [if_pos h, if_pos (by omega), if_pos (by omega), Int.toNat_natCast, copy_is _ (by simp; omega)]; rfl
  · rw [if_neg h, copy_is _ (by omega), List.take_of_length_le (by omega)]; rfl
theorem cut_of (m : Nat) (hm : m ≤ 1000) (A0 : Option Addr) (c0 : Nat) (l0 : List Int) (w : World) (hr0 : Kd.C (Kd.int .u8) w A0 l0.length l0) (hc0 : l0.length ≤ c0) :
    Calls Try.prog 10 #[.slice A0 l0.length c0, .int .i64 (m : Int)] w fun e w' => ∃ us A c, e = .returned (.slice A us.length c) ∧ Aside0 (us = l0.take m) ∧ us.length ≤ c ∧ Kd.C (Kd.int .u8) w' A us.length us ∧ Below w.heap.size w w' :=
  (vitrineref01_Cut.calls A0 c0 l0 (m : Int) (l0.take m) w hr0 hc0 (cut_is l0 m hm)).mono fun e w' ⟨v, he, hR, hb⟩ => by
    obtain ⟨A, c, rfl, hl, hC⟩ := Kd.R_reads hR
    exact ⟨l0.take m, A, c, he, ⟨rfl⟩, hl, hC, hb⟩
end Go.Proofs.Ytmejmlohinjpdaa.Sc
