/- Plain facts: Parse. -/
import Derived.Test.YtfdhchgemplnoaaPlainB
import Derived.Test.YtfdhchgemplnoaaPAllx10
namespace Go.Proofs.Ytfdhchgemplnoaa.Plain
open Go.RowKit Go.Proofs.Ytfdhchgemplnoaa.PAll Go.Proofs.YtfdhchgemplnoaaW.PrintWords Go.Proofs.YtfdhchgemplnoaaW.PrintLast
set_option linter.unusedSimpArgs false
set_option linter.unusedVariables false

/-! ### Parse -/
def mk40 (x : Int × Int) : S40 := ⟨x.1, x.2⟩
def mk36 (x : Int × Int) : S36 := ⟨x.1, x.2⟩
/-- The first n pairs of a list of bytes, if all are right. -/
def pairs : Nat → List Int → Option (List (Int × Int))
  | 0, _ => some []
  | n + 1, a :: b :: l => if good a b = true then (pairs n l).map ((a, b) :: ·) else none
  | _ + 1, _ => none

theorem drop_two (x : List Int) (i : Nat) (h : i + 1 < x.length) : x.drop i = x[i] :: x[i + 1] :: x.drop (i + 2) := by
  rw [List.drop_eq_getElem_cons (by omega), List.drop_eq_getElem_cons (by omega)]

theorem parse_l0 (x : List Int) (cnt : Nat) (hc : cnt ≤ 255) (hx : 2 * cnt + 1 ≤ x.length) (d : Nat) : ∀ (k j : Nat) (acc : List S40), j + d = cnt → d < k → acc.length ≤ j →
    attr_Parse.l0 k x acc (1 + 2 * (cnt : Int)) (1 + 2 * (j : Int)) = some (match pairs d (x.drop (1 + 2 * j)) with | some l => (acc ++ l.map mk40, 1 + 2 * (cnt : Int), 0) | none => ([], 0, 10)) := by
  induction d with
  | zero =>
    intro k j acc hj hk ha
    obtain ⟨k, rfl⟩ : ∃ m, k = m + 1 := ⟨k - 1, by omega⟩
    simp only [attr_Parse.l0]
    rw [if_neg (by omega)]
    simp [pairs]
  | succ d ih =>
    intro k j acc hj hk ha
    obtain ⟨k, rfl⟩ : ∃ m, k = m + 1 := ⟨k - 1, by omega⟩
    simp only [attr_Parse.l0]
    have hd := drop_two x (1 + 2 * j) (by omega)
    have e1 : rd x (1 + 2 * (j : Int)) = x[1 + 2 * j] := by
      rw [show (1 + 2 * (j : Int)) = ((1 + 2 * j : Nat) : Int) from by omega]; exact rd_get x _ (by omega)
    have e2 : rd x (1 + 2 * (j : Int) + 1) = x[1 + 2 * j + 1] := by
      rw [show (1 + 2 * (j : Int) + 1) = ((1 + 2 * j + 1 : Nat) : Int) from by omega]; exact rd_get x _ (by omega)
    rw [wrap_in (1 + 2 * (j : Int) + 1) (by omega) (by omega), wrap_in (1 + 2 * (j : Int) + 2) (by omega) (by omega), if_pos (by omega), if_pos (by omega), if_pos (by omega), if_pos (by omega), if_pos (by omega), e1, e2, check_is, hd]
    simp only [Option.bind_some, pairs]
    by_cases hg : good x[1 + 2 * j] x[1 + 2 * j + 1] = true
    · rw [if_pos hg, if_pos rfl, if_pos (by omega), if_pos hg]
      have := ih k (j + 1) (acc ++ [⟨x[1 + 2 * j], x[1 + 2 * j + 1]⟩]) (by omega) (by omega) (by simp; omega)
      rw [show (1 + 2 * (j : Int) + 2) = 1 + 2 * ((j + 1 : Nat) : Int) from by omega, this, show 1 + 2 * (j + 1) = 1 + 2 * j + 2 from by omega]
      cases pairs d (x.drop (1 + 2 * j + 2)) with
      | none => rfl
      | some l => simp [mk40]
    · rw [if_neg hg, if_neg (by omega), if_neg hg]

theorem refparse_l0 (x : List Int) (cnt : Nat) (h0 : 0 < x.length) (hr : rd x 0 = (cnt : Int)) (hc : cnt ≤ 255) (hx : 2 * cnt + 1 ≤ x.length) (d : Nat) : ∀ (k j : Nat) (acc : List S36), j + d = cnt → d + 12 < k → acc.length = j →
    vitrineref05_Parse.l0 k x acc (j : Int) = some (match pairs d (x.drop (1 + 2 * j)) with | some l => (acc ++ l.map mk36, 1 + 2 * (cnt : Int), 0) | none => ([], 0, 10)) := by
  induction d with
  | zero =>
    intro k j acc hj hk ha
    obtain ⟨k, rfl⟩ : ∃ m, k = m + 1 := ⟨k - 1, by omega⟩
    simp only [vitrineref05_Parse.l0]
    rw [if_pos (by omega), hr, wrap_in (cnt : Int) (by omega) (by omega), if_neg (by omega), wrap_in (2 * (acc.length : Int)) (by omega) (by omega), wrap_in (1 + 2 * (acc.length : Int)) (by omega) (by omega), ha]
    simp [pairs]; omega
  | succ d ih =>
    intro k j acc hj hk ha
    obtain ⟨k, rfl⟩ : ∃ m, k = m + 1 := ⟨k - 1, by omega⟩
    simp only [vitrineref05_Parse.l0]
    have hd := drop_two x (1 + 2 * j) (by omega)
    have e1 : rd x (1 + 2 * (j : Int)) = x[1 + 2 * j] := by
      rw [show (1 + 2 * (j : Int)) = ((1 + 2 * j : Nat) : Int) from by omega]; exact rd_get x _ (by omega)
    have e2 : rd x (2 + 2 * (j : Int)) = x[1 + 2 * j + 1] := by
      rw [show (2 + 2 * (j : Int)) = ((1 + 2 * j + 1 : Nat) : Int) from by omega]; exact rd_get x _ (by omega)
    rw [if_pos (by omega), hr, wrap_in (cnt : Int) (by omega) (by omega), wrap_in (2 * (j : Int)) (by omega) (by omega), wrap_in (1 + 2 * (j : Int)) (by omega) (by omega), wrap_in (2 + 2 * (j : Int)) (by omega) (by omega),
      wrap_in ((j : Int) + 1) (by omega) (by omega), if_pos (by omega), if_pos (by omega), if_pos (by omega), if_pos (by omega), if_pos (by omega), e1, e2, right_is _ _ k (by omega), hd]
    simp only [Option.bind_some, pairs]
    by_cases hg : good x[1 + 2 * j] x[1 + 2 * j + 1] = true
    · rw [if_pos hg, if_pos (by omega), if_pos hg]
      have := ih k (j + 1) (acc ++ [⟨x[1 + 2 * j], x[1 + 2 * j + 1]⟩]) (by omega) (by omega) (by simp; omega)
      rw [show (j : Int) + 1 = ((j + 1 : Nat) : Int) from by omega, this, show 1 + 2 * (j + 1) = 1 + 2 * j + 2 from by omega]
      cases pairs d (x.drop (1 + 2 * j + 2)) with
      | none => rfl
      | some l => simp [mk36]
    · rw [if_neg hg, if_neg hg]

/-- What a list of bytes begins with: the pairs, how many bytes, the error. -/
def parsed (x : List Int) : List (Int × Int) × Int × Int :=
  match x with
  | [] => ([], 0, 2)
  | c :: l => if l.length < 2 * c.toNat then ([], 0, 2) else match pairs c.toNat l with | some ps => (ps, 1 + 2 * (c.toNat : Int), 0) | none => ([], 0, 10)

theorem parse_is (x : List Int) (hl : x.length ≤ 100000) (hb : ∀ y ∈ x, 0 ≤ y ∧ y ≤ 255) (k : Nat) (hk : 300 ≤ k) : attr_Parse.f k x = some ((parsed x).1.map mk40, (parsed x).2.1, (parsed x).2.2) := by
  obtain ⟨k, rfl⟩ : ∃ m, k = m + 1 := ⟨k - 1, by omega⟩
  unfold attr_Parse.f parsed
  cases x with
  | nil => simp [attr_Parse.j0]
  | cons c l =>
    have hc := hb c (by simp)
    have h0 : rd (c :: l) 0 = c := by simp [rd]
    obtain ⟨n, rfl⟩ := Int.eq_ofNat_of_zero_le hc.1
    simp only [List.length_cons] at hl ⊢
    rw [if_neg (by omega), if_pos (by omega), h0, wrap_in (n : Int) (by omega) (by omega), wrap_in (2 * (n : Int)) (by omega) (by omega), wrap_in (1 + 2 * (n : Int)) (by omega) (by omega)]
    simp only [attr_Parse.j0, Int.toNat_natCast]
    by_cases hs : l.length < 2 * n
    · rw [if_pos (by simp; omega), if_pos hs]; rfl
    · rw [if_neg (by simp; omega), if_neg hs, if_pos (by simp), h0, wrap_in (n : Int) (by omega) (by omega), wrap_in (2 * (n : Int)) (by omega) (by omega), wrap_in (1 + 2 * (n : Int)) (by omega) (by omega)]
      have := parse_l0 ((n : Int) :: l) n (by omega) (by simp; omega) n k 0 [] (by omega) (by omega) (by simp)
      simp only [Nat.mul_zero, Nat.add_zero, Int.natCast_zero, Int.mul_zero, Int.add_zero, List.drop_succ_cons, List.drop_zero, List.nil_append] at this
      rw [this]
      cases pairs n l <;> rfl

theorem refparse_is (x : List Int) (hl : x.length ≤ 100000) (hb : ∀ y ∈ x, 0 ≤ y ∧ y ≤ 255) (k : Nat) (hk : 300 ≤ k) : vitrineref05_Parse.f k x = some ((parsed x).1.map mk36, (parsed x).2.1, (parsed x).2.2) := by
  obtain ⟨k, rfl⟩ : ∃ m, k = m + 1 := ⟨k - 1, by omega⟩
  unfold vitrineref05_Parse.f parsed
  cases x with
  | nil => simp [vitrineref05_Parse.j0]
  | cons c l =>
    have hc := hb c (by simp)
    have h0 : rd (c :: l) 0 = c := by simp [rd]
    obtain ⟨n, rfl⟩ := Int.eq_ofNat_of_zero_le hc.1
    simp only [List.length_cons] at hl ⊢
    rw [if_neg (by omega), if_pos (by omega), h0, wrap_in (n : Int) (by omega) (by omega), wrap_in (2 * (n : Int)) (by omega) (by omega)]
    have hw : wrap64 (((l.length + 1 : Nat) : Int) - 1) = (l.length : Int) := by rw [wrap_in _ (by omega) (by omega)]; omega
    simp only [hw, vitrineref05_Parse.j0, Int.toNat_natCast]
    by_cases hs : l.length < 2 * n
    · rw [if_pos (by simp; omega), if_pos hs]; rfl
    · rw [if_neg (by simp; omega), if_neg hs]
      have := refparse_l0 ((n : Int) :: l) n (by simp) h0 (by omega) (by simp; omega) n k 0 [] (by omega) (by omega) (by simp)
      simp only [Nat.mul_zero, Nat.add_zero, Int.natCast_zero, List.drop_succ_cons, List.drop_zero, List.nil_append] at this
      rw [this]
      cases pairs n l <;> rfl

/-! ### AttrParses -/
theorem pairs_len : ∀ (n : Nat) (l : List Int) (r : List (Int × Int)), pairs n l = some r → r.length = n
  | 0, _, r, h => by simp [pairs] at h; subst h; rfl
  | n + 1, a :: b :: l, r, h => by
    simp only [pairs] at h
    split at h
    · obtain ⟨q, hq, rfl⟩ := Option.map_eq_some_iff.1 h
      simp [pairs_len n l q hq]
    · cases h
  | n + 1, [], r, h => by simp [pairs] at h
  | n + 1, [_], r, h => by simp [pairs] at h
theorem parsed_len (x : List Int) (hb : ∀ y ∈ x, 0 ≤ y ∧ y ≤ 255) : (parsed x).1.length ≤ 255 := by
  unfold parsed
  cases x with
  | nil => simp
  | cons c l =>
    have := hb c (by simp)
    simp only
    split
    · simp
    · split
      · rename_i h; rw [pairs_len _ _ _ h]; omega
      · simp
theorem conv_mk (l : List (Int × Int)) : (l.map mk40).map conv = l.map mk36 := by simp [conv, mk40, mk36]


end Go.Proofs.Ytfdhchgemplnoaa.Plain
