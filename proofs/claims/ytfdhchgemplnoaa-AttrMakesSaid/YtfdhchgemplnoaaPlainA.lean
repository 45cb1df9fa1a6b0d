/- Plain facts of the printed functions of chapter 05: Right, Check, awake. -/
import Derived.Test.YtfdhchgemplnoaaPAllx3
import Derived.Test.YtfdhchgemplnoaaPAllx5
namespace Go.Proofs.Ytfdhchgemplnoaa.Plain
open Go.RowKit Go.Proofs.Ytfdhchgemplnoaa.PAll Go.Proofs.YtfdhchgemplnoaaW.PrintWords Go.Proofs.YtfdhchgemplnoaaW.PrintLast
set_option linter.unusedSimpArgs false
set_option linter.unusedVariables false

theorem wrap_in (x : Int) (h0 : -9223372036854775808 ≤ x) (h1 : x ≤ 9223372036854775807) : wrap64 x = x := by unfold wrap64; omega

/-! ### Right and Check -/
def okList (t : Int) : List Int := if t = 0 then [0] else if t = 65 then [0, 240, 241, 242, 244, 248] else if t = 66 then [0, 241, 242, 243, 244, 245, 246, 247] else if t = 67 then [0, 241] else []
/-- Is it an extended attribute? -/
def good (t v : Int) : Bool := decide (t = 192) || (okList t).contains v

theorem rd_get (xs : List Int) (j : Nat) (h : j < xs.length) : rd xs (j : Int) = xs[j] := by
  unfold rd; simp [List.getD_eq_getElem?_getD, h]

theorem right_l0 (xs : List Int) (t v : Int) (hl : xs.length ≤ 1000) (d : Nat) : ∀ (k j : Nat), j + d = xs.length → d < k →
    vitrineref05_Right.l0 k xs (xs.length : Int) (j : Int) t v = some ((xs.drop j).contains v) := by
  induction d with
  | zero =>
    intro k j hj hk
    obtain ⟨k, rfl⟩ : ∃ m, k = m + 1 := ⟨k - 1, by omega⟩
    simp only [vitrineref05_Right.l0]
    rw [if_neg (by omega), List.drop_eq_nil_of_le (by omega)]
    rfl
  | succ d ih =>
    intro k j hj hk
    obtain ⟨k, rfl⟩ : ∃ m, k = m + 1 := ⟨k - 1, by omega⟩
    simp only [vitrineref05_Right.l0]
    have hd : xs.drop j = xs[j] :: xs.drop (j + 1) := List.drop_eq_getElem_cons (by omega)
    rw [if_pos (by omega), if_pos (by omega), if_pos (by omega), rd_get xs j (by omega), hd, List.contains_cons]
    by_cases h : xs[j] = v
    · rw [if_pos h]; simp [h]
    · rw [if_neg h, wrap_in _ (by omega) (by omega)]
      have := ih k (j + 1) (by omega) (by omega)
      rw [show ((j : Int) + 1) = ((j + 1 : Nat) : Int) from by omega, this]
      have h' : (v == xs[j]) = false := by simpa using fun e => h e.symm
      rw [h', Bool.false_or]

theorem right_j0 (xs : List Int) (t v : Int) (hl : xs.length ≤ 10) (k : Nat) (hk : 12 ≤ k) : vitrineref05_Right.j0 k xs t v = some (xs.contains v) := by
  obtain ⟨k, rfl⟩ : ∃ m, k = m + 1 := ⟨k - 1, by omega⟩
  simp only [vitrineref05_Right.j0]
  have := right_l0 xs t v (by omega) xs.length k 0 (by omega) (by omega)
  simpa using this

theorem right_is (t v : Int) (k : Nat) (hk : 12 ≤ k) : vitrineref05_Right.f k t v = some (good t v) := by
  unfold vitrineref05_Right.f good okList
  by_cases h0 : t = 0
  · rw [if_pos h0, if_pos h0, right_j0 _ _ _ (by simp) k hk]; subst h0; simp
  · rw [if_neg h0, if_neg h0]
    by_cases h1 : t = 192
    · rw [if_pos h1]; simp [h1]
    · rw [if_neg h1]
      by_cases h2 : t = 65
      · rw [if_pos h2, if_pos h2, right_j0 _ _ _ (by simp) k hk]; simp [h1]
      · rw [if_neg h2, if_neg h2]
        by_cases h3 : t = 66
        · rw [if_pos h3, if_pos h3, right_j0 _ _ _ (by simp) k hk]; simp [h1]
        · rw [if_neg h3, if_neg h3]
          by_cases h4 : t = 67
          · rw [if_pos h4, if_pos h4, right_j0 _ _ _ (by simp) k hk]; simp [h1]
          · rw [if_neg h4, if_neg h4, right_j0 _ _ _ (by simp) k hk]; simp [h1]

theorem check_is (t v : Int) : attr_Pair_Check.f t v = some (if good t v = true then 0 else 10) := by
  unfold attr_Pair_Check.f good okList
  by_cases h0 : t = 0
  · subst h0; simp; split <;> simp_all
  · rw [if_neg h0, if_neg h0]
    by_cases h1 : t = 192
    · simp [h1]
    · rw [if_neg h1]
      by_cases h2 : t = 65
      · simp only [if_pos h2]; simp [h1]; repeat' (split <;> simp_all)
      · rw [if_neg h2, if_neg h2]
        by_cases h3 : t = 66
        · simp only [if_pos h3]; simp [h1]
          by_cases a : v = 0
          · simp [a]
          · rw [if_neg a]
            by_cases b : v ≥ 241
            · by_cases c : v ≤ 247
              · rw [if_pos b, if_pos c, if_pos (by omega)]
              · rw [if_pos b, if_neg c, if_neg (by omega)]
            · rw [if_neg b, if_neg (by omega)]
        · rw [if_neg h3, if_neg h3]
          by_cases h4 : t = 67
          · simp only [if_pos h4]; simp [h1]; repeat' (split <;> simp_all)
          · simp [h1, h4]

/-! ### awake -/
theorem awake_is (k : Nat) (hk : 3 ≤ k) : vitrinelaw05_awake.f k = some true := by
  have h : vitrinelaw05_awake.f 3 = some true := by decide +kernel
  exact at_rounds vitrinelaw05_awake.mono hk h


end Go.Proofs.Ytfdhchgemplnoaa.Plain
