/- order: what a beginning says, the whole says. Plain. -/
import Derived.Test.YtmejmlohinjpdaaSh
namespace Go.Proofs.Ytmejmlohinjpdaa.Sc
open Go.RowKit Go.Proofs.YtmejmlohinjpdaaW.PrintWords Go.Proofs.YtmejmlohinjpdaaW.PrintLast Go.Proofs.YtmejmlohinjpdaaW.PrintMore Go.Proofs.Ytmejmlohinjpdaa.POr
set_option linter.unusedVariables false
set_option linter.unusedSimpArgs false
theorem failF_ne (c e : Int) (he : e ≠ 0) : failF c e ≠ 0 := by
  unfold failF
  split
  · exact he
  · assumption
theorem addrF_ext (q s : List Int) (h : (addrF q).2.2 = 0) : addrF (q ++ s) = ((addrF q).1, (addrF q).2.1 ++ s, 0) := by
  unfold addrF at h ⊢
  by_cases c : q.length < 2
  · rw [if_pos c] at h; exact absurd h (by decide)
  · rw [if_neg c] at h ⊢
    have hl : ¬ (q ++ s).length < 2 := by rw [List.length_append]; omega
    rw [if_neg hl, List.take_append_of_le_length (by omega), List.drop_append_of_le_length (by omega), h]
theorem charF_ext (q s : List Int) (c : Int) (h : (charF q c).2.2 = 0) : charF (q ++ s) c = ((charF q c).1, (charF q c).2.1 ++ s, 0) ∧ c = 0 := by
  cases q with
  | nil => exact absurd h (failF_ne c 2 (by decide))
  | cons b r =>
    have h' : (if isO b = true then failF c 10 else c) = 0 := h
    by_cases hb : isO b = true
    · rw [if_pos hb] at h'
      exact absurd h' (failF_ne c 10 (by decide))
    · rw [if_neg hb] at h'
      refine ⟨?_, h'⟩
      show (b, r ++ s, if isO b = true then failF c 10 else c) = _
      rw [if_neg hb, h']
      rfl
theorem graphF_ext (q s : List Int) (h : q ≠ []) : graphF (q ++ s) = ((graphF q).1, (graphF q).2 ++ s) := by
  cases q with
  | nil => exact absurd rfl h
  | cons b r =>
    simp only [graphF, List.cons_append]
    split <;> rfl
theorem sfF_ext (q s : List Int) (h : (sfF q).2.2 = 0) : sfF (q ++ s) = ((sfF q).1, (sfF q).2.1 ++ s, 0) := by
  cases q with
  | nil => exact absurd h (by decide)
  | cons b r => rfl
theorem pairF_ext (q s : List Int) (h : (pairF q).2.2 = 0) : pairF (q ++ s) = ((pairF q).1, (pairF q).2.1 ++ s, 0) := by
  match q, h with
  | [], h => exact absurd h (show (2 : Int) ≠ 0 by decide)
  | [a], h => exact absurd h (show (2 : Int) ≠ 0 by decide)
  | a :: b :: r, h =>
    have h' : chk a b = 0 := h
    show ((⟨a, b⟩ : S50), r ++ s, chk a b) = _
    rw [h']; rfl
theorem rd_ext (q s : List Int) (i : Int) (h0 : 0 ≤ i) (h : i < q.length) : rd (q ++ s) i = rd q i := by
  unfold rd
  rw [List.getD_eq_getElem?_getD, List.getD_eq_getElem?_getD, List.getElem?_append_left (by omega)]
theorem parse_l0_ext (q s : List Int) : ∀ (k : Nat) (x5 : List S50) (x6 x7 : Int) (r : List S50 × Int × Int), attr_Parse.l0 k q x5 x6 x7 = some r → r.2.2 = 0 → attr_Parse.l0 k (q ++ s) x5 x6 x7 = some r := by
  intro k
  induction k with
  | zero => intro x5 x6 x7 r h; simp [attr_Parse.l0] at h
  | succ k ih =>
    intro x5 x6 x7 r h h0
    simp only [attr_Parse.l0] at h ⊢
    by_cases c1 : x7 < x6
    · rw [if_pos c1] at h ⊢
      by_cases c2 : 0 ≤ x7
      · rw [if_pos c2] at h ⊢
        by_cases c3 : x7 < (q.length : Int)
        · rw [if_pos c3] at h
          rw [if_pos (by rw [List.length_append]; omega)]
          by_cases c4 : 0 ≤ wrap64 (x7 + 1)
          · rw [if_pos c4] at h ⊢
            by_cases c5 : wrap64 (x7 + 1) < (q.length : Int)
            · rw [if_pos c5] at h
              rw [if_pos (by rw [List.length_append]; omega), rd_ext q s x7 c2 c3, rd_ext q s _ c4 c5]
              rw [chk_ok, Option.bind_some] at h ⊢
              by_cases c6 : chk (rd q x7) (rd q (wrap64 (x7 + 1))) = 0
              · rw [if_pos c6] at h ⊢
                by_cases c7 : x5.length < 70368744177664
                · rw [if_pos c7] at h ⊢
                  exact ih _ _ _ _ h h0
                · rw [if_neg c7] at h; cases h
              · rw [if_neg c6] at h
                obtain rfl := Option.some.inj h
                exact absurd h0 c6
            · rw [if_neg c5] at h; cases h
          · rw [if_neg c4] at h; cases h
        · rw [if_neg c3] at h; cases h
      · rw [if_neg c2] at h; cases h
    · rw [if_neg c1] at h ⊢
      exact h
theorem parse_ext (q s : List Int) (k : Nat) (r : List S50 × Int × Int) (h : attr_Parse.f k q = some r) (h0 : r.2.2 = 0) (hn : ∀ x, rd q 0 = x → 0 ≤ x ∧ x ≤ 255) : attr_Parse.f k (q ++ s) = some r := by
  unfold attr_Parse.f at h ⊢
  by_cases c : q.length < 1
  · rw [if_pos (by omega)] at h
    cases k with
    | zero => simp [attr_Parse.j0] at h
    | succ k =>
      simp only [attr_Parse.j0] at h
      rw [if_pos trivial] at h
      obtain rfl := Option.some.inj h
      exact absurd h0 (by decide)
  · rw [if_neg (by omega), if_pos (by omega)] at h
    rw [if_neg (by rw [List.length_append]; omega), if_pos (by rw [List.length_append]; omega), rd_ext q s 0 (by omega) (by omega)]
    cases k with
    | zero => simp [attr_Parse.j0] at h
    | succ k =>
      by_cases d : (q.length : Int) < wrap64 (1 + wrap64 (2 * wrap64 (rd q 0)))
      · rw [decide_eq_true d] at h
        simp only [attr_Parse.j0] at h
        rw [if_pos trivial] at h
        obtain rfl := Option.some.inj h
        exact absurd h0 (by decide)
      · rw [decide_eq_false d] at h
        have d' : ¬ (((q ++ s).length : Nat) : Int) < wrap64 (1 + wrap64 (2 * wrap64 (rd q 0))) := by rw [List.length_append]; omega
        rw [decide_eq_false d']
        simp only [attr_Parse.j0] at h ⊢
        rw [if_neg (by decide), if_pos (by omega)] at h
        rw [if_neg (by decide), if_pos (by rw [List.length_append]; omega), rd_ext q s 0 (by omega) (by omega)]
        exact parse_l0_ext q s k _ _ _ r h h0
theorem par_ext (q s : List Int) (hq : Bytes q) (hl : q.length ≤ 100000) (h : (par q).2.2 = 0) : par (q ++ s) = par q := by
  obtain ⟨⟨k, hk⟩, _⟩ := par_ok q hq hl
  exact val_is (fun k => attr_Parse.mono (q ++ s) k) _ (parse_ext q s k _ hk h (fun x hx => hx ▸ rd_byte q hq 0))
theorem pairsF_ext (q s : List Int) (hq : Bytes q) (hl : q.length ≤ 100000) (h : (pairsF q).2.2 = 0) : pairsF (q ++ s) = ((pairsF q).1, (pairsF q).2.1 ++ s, 0) := by
  unfold pairsF at h ⊢
  by_cases c : (par q).2.2 = 0
  · obtain ⟨_, hn⟩ := par_ok q hq hl
    have := hn c
    rw [par_ext q s hq hl c, if_pos c, if_pos c, List.drop_append_of_le_length (by omega)]
  · rw [if_neg c] at h
    exact absurd h c
theorem lead_ext : ∀ (p s : List Int), lead (p ++ s) = if lead p < p.length then lead p else p.length + lead s
  | [], s => by simp [lead]
  | b :: r, s => by
    have ih := lead_ext r s
    rw [List.cons_append, show lead (b :: (r ++ s)) = if isO b = true then 0 else lead (r ++ s) + 1 from rfl, show lead (b :: r) = if isO b = true then 0 else lead r + 1 from rfl]
    by_cases hb : isO b = true
    · rw [if_pos hb, if_pos hb, if_pos (by simp)]
    · rw [if_neg hb, if_neg hb, ih, List.length_cons]
      by_cases c : lead r < r.length
      · rw [if_pos c, if_pos (by omega)]
      · rw [if_neg c, if_neg (by omega)]
        omega
theorem opF_ext (b : Int) (q s : List Int) (hb : isO b = true) (hq : Bytes q) (hl : q.length ≤ 100000) (hc : (opF (b :: q)).2.2 = 0) : opF (b :: (q ++ s)) = ((opF (b :: q)).1, (opF (b :: q)).2.1 ++ s, 0) := by
  have r1 : rd (b :: q) 0 = b := rfl
  have r2 : rd (b :: (q ++ s)) 0 = b := rfl
  have d1 : (b :: q).drop 1 = q := rfl
  have d2 : (b :: (q ++ s)).drop 1 = q ++ s := rfl
  unfold opF at hc ⊢
  rw [r1, d1] at hc
  rw [r1, d1, r2, d2]
  have nb : ¬ isO b = false := by simp [hb]
  rw [if_neg nb] at hc ⊢
  rw [if_neg nb]
  by_cases c1 : b = 17 ∨ b = 18
  · rw [if_pos c1] at hc ⊢
    rw [if_pos c1]
    rw [addrF_ext q s hc]
  rw [if_neg c1] at hc ⊢
  rw [if_neg c1]
  by_cases c2 : b = 60
  · rw [if_pos c2] at hc ⊢
    rw [if_pos c2]
    have hc' : (charF (graphF (addrF q).2.1).2 (addrF q).2.2).2.2 = 0 := hc
    obtain ⟨e1, e2⟩ := charF_ext _ s _ hc'
    have ne : (addrF q).2.1 ≠ [] := by
      intro h
      rw [h] at hc'
      exact absurd hc' (failF_ne _ 2 (by decide))
    rw [addrF_ext q s e2]
    dsimp only
    rw [graphF_ext _ s ne]
    dsimp only
    rw [e2] at e1
    rw [e1, e2]
  rw [if_neg c2] at hc ⊢
  rw [if_neg c2]
  by_cases c3 : b = 29
  · rw [if_pos c3] at hc ⊢
    rw [if_pos c3, sfF_ext q s hc]
  rw [if_neg c3] at hc ⊢
  rw [if_neg c3]
  by_cases c4 : b = 40
  · rw [if_pos c4] at hc ⊢
    rw [if_pos c4, pairF_ext q s hc]
  rw [if_neg c4] at hc ⊢
  rw [if_neg c4]
  by_cases c5 : b = 41 ∨ b = 44
  · rw [if_pos c5] at hc ⊢
    rw [if_pos c5, pairsF_ext q s hq hl hc]
  rw [if_neg c5] at hc ⊢
  rw [if_neg c5]
  by_cases c6 : b = 8
  · rw [if_pos c6] at hc ⊢
    rw [if_pos c6, (charF_ext q s 0 hc).1]
  rw [if_neg c6, if_neg c6]
def textR (t : List Int) : OpR := ⟨0, 0, 0, false, 0, [], t⟩
theorem opF_text (p : List Int) (h : isO (rd p 0) = false) : opF p = (textR (p.take (lead p)), p.drop (lead p), 0) := by
  unfold opF
  rw [if_pos h]; rfl
theorem opF_kind (b : Int) (q : List Int) (hb : isO b = true) : (opF (b :: q)).1.kind ≠ 0 := by
  have r1 : rd (b :: q) 0 = b := rfl
  have hn : b ≠ 0 := by rcases isO_cases b hb with h | h | h | h | h | h | h | h | h | h <;> omega
  unfold opF
  rw [r1, if_neg (by simp [hb])]
  split
  · exact hn
  split
  · exact (show (60 : Int) ≠ 0 by decide)
  split
  · exact (show (29 : Int) ≠ 0 by decide)
  split
  · exact (show (40 : Int) ≠ 0 by decide)
  split
  · exact hn
  split
  · exact (show (8 : Int) ≠ 0 by decide)
  · exact hn
/-- How an order of a beginning is one of the whole. -/
def Like (last : Bool) (x y : OpR) : Prop := x = y ∨ (last = true ∧ ∃ t t', x = textR t ∧ y = textR (t ++ t'))
theorem allF_ext : ∀ (n : Nat) (q s : List Int) (m : Nat), Bytes q → q.length ≤ 100000 → q.length ≤ n → (q ++ s).length ≤ m →
    (allF n q).1.length ≤ (allF m (q ++ s)).1.length ∧ ∀ i x, (allF n q).1[i]? = some x → ∃ y, (allF m (q ++ s)).1[i]? = some y ∧ Like (i + 1 == (allF n q).1.length) x y
  | 0, q, s, m, _, _, h1, _ => by
    simp [allF]
  | n + 1, [], s, m, _, _, _, _ => by
    simp [allF]
  | n + 1, b :: q, s, m, hp, hl, h1, h2 => by
    obtain ⟨m, rfl⟩ : ∃ k, m = k + 1 := ⟨m - 1, by simp at h2; omega⟩
    have hq : Bytes q := fun x hx => hp x (by simp [hx])
    by_cases hc : (opF (b :: q)).2.2 = 0
    · obtain ⟨hp1, hp2⟩ := opF_part b q
      have e1 : allF (n + 1) (b :: q) = ((opF (b :: q)).1 :: (allF n (opF (b :: q)).2.1).1, (allF n (opF (b :: q)).2.1).2) := by
        simp only [allF]
        rw [if_neg (by simp), if_pos hc]
      have key : ∀ o r', opF (b :: (q ++ s)) = (o, r', 0) → allF (m + 1) (b :: q ++ s) = (o :: (allF m r').1, (allF m r').2) := by
        intro o r' h
        simp only [allF, List.cons_append]
        rw [if_neg (by simp), h, if_pos rfl]
      by_cases hb : isO b = true
      · have e2 := key _ _ (opF_ext b q s hb hq (by simp at hl; omega) hc)
        obtain ⟨i1, i2⟩ := allF_ext n (opF (b :: q)).2.1 s m (fun x hx => hp x (hp2 x hx)) (by simp at hl; omega) (by simp at h1; omega) (by rw [List.length_append] at h2 ⊢; simp at h2; omega)
        rw [e1, e2]
        refine ⟨by simp; exact i1, fun i x hx => ?_⟩
        cases i with
        | zero =>
          simp at hx
          exact ⟨_, rfl, .inl hx.symm⟩
        | succ i =>
          simp at hx
          obtain ⟨y, hy, hlk⟩ := i2 i x hx
          refine ⟨y, by simpa using hy, ?_⟩
          have : (i + 1 + 1 == ((opF (b :: q)).1 :: (allF n (opF (b :: q)).2.1).1).length) = (i + 1 == (allF n (opF (b :: q)).2.1).1.length) := by
            rw [List.length_cons, Bool.eq_iff_iff]; simp
          rw [this]; exact hlk
      · have hb' : isO b = false := by simpa using hb
        have t1 := opF_text (b :: q) hb'
        have t2 := opF_text (b :: (q ++ s)) hb'
        have hle := lead_ext (b :: q) s
        rw [List.cons_append] at hle
        by_cases c : lead (b :: q) < (b :: q).length
        · rw [if_pos c] at hle
          rw [hle] at t2
          have a1 : (b :: (q ++ s)).take (lead (b :: q)) = (b :: q).take (lead (b :: q)) := by
            rw [← List.cons_append, List.take_append_of_le_length (by omega)]
          have a2 : (b :: (q ++ s)).drop (lead (b :: q)) = (b :: q).drop (lead (b :: q)) ++ s := by
            rw [← List.cons_append, List.drop_append_of_le_length (by omega)]
          rw [a1, a2] at t2
          have e2 := key _ _ t2
          rw [t1] at e1 hp1 hp2
          obtain ⟨i1, i2⟩ := allF_ext n ((b :: q).drop (lead (b :: q))) s m (fun x hx => hp x (hp2 x hx)) (by simp at hl hp1; simp; omega) (by simp at h1 hp1; simp; omega) (by rw [List.length_append] at h2 ⊢; simp at h2 hp1 ⊢; omega)
          rw [e1, e2]
          refine ⟨by simp only [List.length_cons]; omega, fun i x hx => ?_⟩
          cases i with
          | zero =>
            simp at hx
            exact ⟨_, rfl, .inl hx.symm⟩
          | succ i =>
            simp only [List.getElem?_cons_succ] at hx
            obtain ⟨y, hy, hlk⟩ := i2 i x hx
            refine ⟨y, by simpa using hy, ?_⟩
            have : ∀ z : OpR, (i + 1 + 1 == (z :: (allF n ((b :: q).drop (lead (b :: q)))).1).length) = (i + 1 == (allF n ((b :: q).drop (lead (b :: q)))).1.length) := by
              intro z
              rw [List.length_cons, Bool.eq_iff_iff]; simp
            rw [this]; exact hlk
        · rw [if_neg c] at hle
          have hle' : lead (b :: q) = (b :: q).length := by have := lead_le (b :: q); omega
          rw [hle', List.take_length, List.drop_length] at t1
          rw [t1] at e1
          have e3 : allF n [] = ([], 0, 0) := by cases n <;> rfl
          rw [e3] at e1
          have a1 : (b :: (q ++ s)).take (lead (b :: (q ++ s))) = (b :: q) ++ s.take (lead s) := by
            rw [hle, ← List.cons_append, List.take_append, List.take_of_length_le (by omega)]
            congr 2; omega
          rw [a1] at t2
          have e2 := key _ _ t2
          rw [e1, e2]
          refine ⟨by simp, fun i x hx => ?_⟩
          cases i with
          | zero =>
            simp at hx
            exact ⟨_, rfl, .inr ⟨rfl, b :: q, s.take (lead s), hx.symm, rfl⟩⟩
          | succ i => simp at hx
    · have e1 : allF (n + 1) (b :: q) = ([], (b :: q).length, (opF (b :: q)).2.2) := by
        simp only [allF]
        rw [if_neg (by simp), if_neg hc]
      rw [e1]
      simp
theorem allF_left : ∀ (n : Nat) (q : List Int), q.length ≤ n → (allF n q).2.1 ≤ q.length ∧ ((allF n q).2.2 = 0 → (allF n q).2.1 = 0)
  | 0, q, h => ⟨Nat.le_refl _, fun _ => by simp only [allF]; omega⟩
  | n + 1, [], h => by simp [allF]
  | n + 1, b :: q, h => by
    by_cases hc : (opF (b :: q)).2.2 = 0
    · have e1 : allF (n + 1) (b :: q) = ((opF (b :: q)).1 :: (allF n (opF (b :: q)).2.1).1, (allF n (opF (b :: q)).2.1).2) := by
        simp only [allF]
        rw [if_neg (by simp), if_pos hc]
      obtain ⟨hp1, _⟩ := opF_part b q
      have := allF_left n (opF (b :: q)).2.1 (by simp at h; omega)
      rw [e1]
      exact ⟨by simp; omega, this.2⟩
    · have e1 : allF (n + 1) (b :: q) = ([], (b :: q).length, (opF (b :: q)).2.2) := by
        simp only [allF]
        rw [if_neg (by simp), if_neg hc]
      rw [e1]
      exact ⟨Nat.le_refl _, fun h => absurd h hc⟩
end Go.Proofs.Ytmejmlohinjpdaa.Sc
