/- Plain facts: back, slices.Equal, Copy, Cut, Same. -/
import Derived.Test.YtfdhchgemplnoaaPlainA
import Derived.Test.YtfdhchgemplnoaaPAllx9
namespace Go.Proofs.Ytfdhchgemplnoaa.Plain
open Go.RowKit Go.Proofs.Ytfdhchgemplnoaa.PAll Go.Proofs.YtfdhchgemplnoaaW.PrintWords Go.Proofs.YtfdhchgemplnoaaW.PrintLast
set_option linter.unusedSimpArgs false
set_option linter.unusedVariables false

def conv (x : S40) : S36 := ⟨x.f0, x.f1⟩
/-! ### back, Pair (slices.Equal), Copy, Cut, Same -/
theorem rd40_get (xs : List S40) (j : Nat) (h : j < xs.length) : rd_T40 xs (j : Int) = xs[j] := by unfold rd_T40; simp [List.getD_eq_getElem?_getD, h]
theorem rd36_get (xs : List S36) (j : Nat) (h : j < xs.length) : rd_T36 xs (j : Int) = xs[j] := by unfold rd_T36; simp [List.getD_eq_getElem?_getD, h]

theorem back_l0 (l : List S40) (hl : l.length ≤ 100000) (d : Nat) : ∀ (k j : Nat) (acc : List S36), j + d = l.length → d < k → acc.length = j →
    vitrinelaw05_back.l0 k acc l (l.length : Int) (j : Int) = some (acc ++ (l.drop j).map conv) := by
  induction d with
  | zero =>
    intro k j acc hj hk ha
    obtain ⟨k, rfl⟩ : ∃ m, k = m + 1 := ⟨k - 1, by omega⟩
    simp only [vitrinelaw05_back.l0]
    rw [if_neg (by omega), List.drop_eq_nil_of_le (by omega)]; simp
  | succ d ih =>
    intro k j acc hj hk ha
    obtain ⟨k, rfl⟩ : ∃ m, k = m + 1 := ⟨k - 1, by omega⟩
    simp only [vitrinelaw05_back.l0]
    rw [if_pos (by omega), if_pos (by omega), if_pos (by omega), if_pos (by omega), rd40_get l j (by omega), wrap_in _ (by omega) (by omega)]
    have := ih k (j + 1) (acc ++ [conv l[j]]) (by omega) (by omega) (by simp; omega)
    rw [show (j : Int) + 1 = ((j + 1 : Nat) : Int) from by omega]
    have hd : l.drop j = l[j] :: l.drop (j + 1) := List.drop_eq_getElem_cons (by omega)
    rw [hd, List.map_cons]
    simp only [List.append_assoc, List.singleton_append] at this
    exact this
theorem back_is (l : List S40) (hl : l.length ≤ 100000) (k : Nat) (hk : l.length < k) : vitrinelaw05_back.f k l = some (l.map conv) := by
  have := back_l0 l hl l.length k 0 [] (by omega) (by omega) rfl
  simpa [vitrinelaw05_back.f] using this

theorem pair_l0 (l : List S36) (hl : l.length ≤ 100000) (d : Nat) : ∀ (k j : Nat), j + d = l.length → d < k → vitrineref05_Pair.l0 k l l (l.length : Int) (j : Int) = some true := by
  induction d with
  | zero =>
    intro k j hj hk
    obtain ⟨k, rfl⟩ : ∃ m, k = m + 1 := ⟨k - 1, by omega⟩
    simp only [vitrineref05_Pair.l0]
    rw [if_neg (by omega)]
  | succ d ih =>
    intro k j hj hk
    obtain ⟨k, rfl⟩ : ∃ m, k = m + 1 := ⟨k - 1, by omega⟩
    simp only [vitrineref05_Pair.l0]
    rw [if_pos (by omega), if_pos (by omega), if_pos (by omega), if_pos (by omega), if_neg (by simp), wrap_in _ (by omega) (by omega)]
    exact ih k (j + 1) (by omega) (by omega)
theorem pair_same (l : List S36) (hl : l.length ≤ 100000) (k : Nat) (hk : l.length < k) : vitrineref05_Pair.f k l l = some true := by
  unfold vitrineref05_Pair.f
  rw [if_pos rfl]
  exact pair_l0 l hl l.length k 0 (by omega) hk

theorem copy_is (l : List Int) (hl : l.length ≤ 140737488351232) : vitrineref01_Copy.f l = some l := by
  unfold vitrineref01_Copy.f
  simp only [Option.bind_some, List.length_nil, List.nil_append]
  rw [if_pos (by omega)]
theorem cut_is (l : List Int) (m : Nat) (hm : m ≤ 100000) : vitrineref01_Cut.f l (m : Int) = some (l.take m) := by
  unfold vitrineref01_Cut.f
  by_cases h : (l.length : Int) > m
  · rw [if_pos h, if_pos (by omega), if_pos (by omega), Int.toNat_natCast, copy_is _ (by simp; omega)]; rfl
  · rw [if_neg h, copy_is _ (by omega), List.take_of_length_le (by omega)]; rfl
theorem same_is (l : List Int) : vitrineref01_Same.f l l = some true := by simp [vitrineref01_Same.f]


end Go.Proofs.Ytfdhchgemplnoaa.Plain
