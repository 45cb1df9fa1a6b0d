/- AttrFields: plain facts, and the walk's end. -/
import Derived.Test.YtfdhchgemplnoaaPFldx4
namespace Go.Proofs.Ytfdhchgemplnoaa.PlainF
open Go.RowKit Go.Proofs.Ytfdhchgemplnoaa.PFld Go.Proofs.YtfdhchgemplnoaaW.PrintWords Go.Proofs.YtfdhchgemplnoaaW.PrintLast
set_option linter.unusedSimpArgs false
set_option linter.unusedVariables false

theorem awake_is (k : Nat) (hk : 3 ≤ k) : vitrinelaw05_awake.f k = some true := by
  have h : vitrinelaw05_awake.f 3 = some true := by decide +kernel
  exact at_rounds vitrinelaw05_awake.mono hk h

/-- Of a right display: bits, byte, and back. -/
def rightB (p n m : Bool) (d : Int) : Bool :=
  match attr_Field_Bits.f 6 p n d m, vitrineref05_Bits.f 6 p n d m, attr_Field_Byte.f 6 p n d m with
  | some (x, e), some (y, g), some (c, h) => x == y && e == 0 && g == 0 && h == 0 && vitrineref04_Six.f 6 (wrap64 y) == some c && attr_Of.f c == some (p, n, d, m)
  | _, _, _ => false
unseal wrap64 in
theorem right_all : ∀ (p n m : Bool) (d : Fin 4), rightB p n m (d.val : Int) = true := by decide +kernel
unseal wrap64 in
theorem of_all : ∀ b : Fin 256, attr_Of.f (b.val : Int) = vitrineref05_Of.f (b.val : Int) := by decide +kernel
theorem of_is (b : Int) (h0 : 0 ≤ b) (h1 : b ≤ 255) : vitrineref05_Of.f b = attr_Of.f b := by
  obtain ⟨n, rfl⟩ := Int.eq_ofNat_of_zero_le h0
  exact (of_all ⟨n, by omega⟩).symm

theorem right_is (p n m : Bool) (d : Int) (h0 : 0 ≤ d) (h1 : d ≤ 3) : ∃ x c : Int, attr_Field_Bits.f 6 p n d m = some (x, 0) ∧ vitrineref05_Bits.f 6 p n d m = some (x, 0) ∧ attr_Field_Byte.f 6 p n d m = some (c, 0) ∧ vitrineref04_Six.f 6 (wrap64 x) = some c ∧ attr_Of.f c = some (p, n, d, m) := by
  obtain ⟨k, rfl⟩ := Int.eq_ofNat_of_zero_le h0
  have h := right_all p n m ⟨k, by omega⟩
  unfold rightB at h
  split at h
  · rename_i x e y g c q hx hy hc
    simp only [Bool.and_eq_true, beq_iff_eq] at h
    obtain ⟨⟨⟨⟨⟨rfl, rfl⟩, rfl⟩, rfl⟩, hs⟩, ho⟩ := h
    exact ⟨x, c, hx, hy, hc, hs, ho⟩
  · cases h

theorem of_some (b : Int) : ∃ o1 o2 o3 o4, attr_Of.f b = some (o1, o2, o3, o4) := ⟨_, _, _, _, by unfold attr_Of.f; rfl⟩
theorem skipped_is (p n : Bool) (d : Int) (m : Bool) : attr_Field_Skipped.f p n d m = some (p && n) := by unfold attr_Field_Skipped.f; cases p <;> rfl
theorem hidden_is (p n : Bool) (d : Int) (m : Bool) : attr_Field_Hidden.f p n d m = some (d == 3) := by unfold attr_Field_Hidden.f; rfl
theorem detect_is (p n : Bool) (d : Int) (m : Bool) (h : ¬ d = 1) : attr_Field_Detectable.f p n d m = some (d == 2) := by unfold attr_Field_Detectable.f; rw [if_neg h]
theorem detect_one (p n : Bool) (m : Bool) : attr_Field_Detectable.f p n 1 m = some true := by unfold attr_Field_Detectable.f; rw [if_pos rfl]
theorem j0_is (b : Int) (hb0 : 0 ≤ b) (hb1 : b ≤ 255) (p n m : Bool) (d : Int) (k : Nat) (hk : 1 ≤ k) : vitrinelaw05_AttrFields.j0 k b false p n d m p n d m = some true := by
  obtain ⟨k, rfl⟩ : ∃ j, k = j + 1 := ⟨k - 1, by omega⟩
  obtain ⟨o1, o2, o3, o4, ho⟩ := of_some b
  simp only [vitrinelaw05_AttrFields.j0]
  rw [if_neg (by simp), of_is b hb0 hb1, ho]
  simp only [Option.bind_some, beq_self_eq_true, Bool.and_self, if_true, skipped_is, hidden_is]
  cases p
  · simp only [Bool.false_and, beq_self_eq_true, if_true, Bool.false_eq_true, if_false]
    by_cases h : d = 1
    · subst h; rw [detect_one]; simp
    · rw [detect_is _ _ _ _ h]; simp [h]
  · simp only [Bool.true_and, beq_self_eq_true, if_true]
    by_cases h : d = 1
    · subst h; rw [detect_one]; simp
    · rw [detect_is _ _ _ _ h]; simp [h]

theorem bits_bad (p n m : Bool) (d : Int) (h : d < 0 ∨ 3 < d) (k : Nat) (hk : 1 ≤ k) : attr_Field_Bits.f k p n d m = some (0, 1) := by
  obtain ⟨k, rfl⟩ : ∃ j, k = j + 1 := ⟨k - 1, by omega⟩
  unfold attr_Field_Bits.f
  by_cases h1 : d < 0
  · rw [if_pos h1]; simp only [attr_Field_Bits.j0, if_true]
  · rw [if_neg h1]; simp only [attr_Field_Bits.j0, show d > 3 by omega, decide_true, if_true]
theorem refbits_bad (p n m : Bool) (d : Int) (h : d < 0 ∨ 3 < d) (k : Nat) (hk : 1 ≤ k) : vitrineref05_Bits.f k p n d m = some (0, 1) := by
  obtain ⟨k, rfl⟩ : ∃ j, k = j + 1 := ⟨k - 1, by omega⟩
  unfold vitrineref05_Bits.f
  by_cases h1 : d < 0
  · rw [if_pos h1]; simp only [vitrineref05_Bits.j0, if_true]
  · rw [if_neg h1]; simp only [vitrineref05_Bits.j0, show d > 3 by omega, decide_true, if_true]

theorem fields (p n : Bool) (d : Int) (m : Bool) (b : Int) (hb0 : 0 ≤ b) (hb1 : b ≤ 255) (k : Nat) (hk : 6 ≤ k) : vitrinelaw05_AttrFields.f k p n d m b = some true := by
  unfold vitrinelaw05_AttrFields.f
  rw [awake_is k (by omega)]
  simp only [Option.bind_some, if_true]
  by_cases hd : 0 ≤ d ∧ d ≤ 3
  · obtain ⟨x, c, h1, h2, h3, h4, h5⟩ := right_is p n m d hd.1 hd.2
    rw [at_rounds (attr_Field_Bits.mono _ _ _ _) hk h1, at_rounds (vitrineref05_Bits.mono _ _ _ _) hk h2, at_rounds (attr_Field_Byte.mono _ _ _ _) hk h3]
    simp only [Option.bind_some, if_true]
    rw [at_rounds (vitrineref04_Six.mono _) hk h4]
    simp only [Option.bind_some, if_true]
    rw [h5]
    simp only [Option.bind_some, beq_self_eq_true, Bool.not_true, Bool.or_self, Bool.false_eq_true, if_false]
    exact j0_is b hb0 hb1 p n m d k (by omega)
  · have hd' : d < 0 ∨ 3 < d := by omega
    have h3 : attr_Field_Byte.f k p n d m = some (0, 1) := by
      unfold attr_Field_Byte.f
      rw [bits_bad p n m d hd' k (by omega)]
      simp only [Option.bind_some]
      rw [if_neg (by decide)]
    rw [bits_bad p n m d hd' k (by omega), refbits_bad p n m d hd' k (by omega), h3]
    simp only [Option.bind_some, if_true]
    rw [if_neg (by decide)]
    exact j0_is b hb0 hb1 p n m d k (by omega)

theorem walk (p n : Bool) (d : Int) (m : Bool) (b : Int) (W : World) (hd : (Lit.int .i64 d).wf = true) (hb : (Lit.int .u8 b).wf = true) :
    Calls Try.prog 3 #[.agg #[.bool p, .bool n, .int .i64 d, .bool m], .int .u8 b] W fun e W' => e = .returned (.bool true) ∧ Below W.heap.size W W' := by
  have hb' : 0 ≤ b ∧ b ≤ 255 := by
    simp only [Lit.wf, IntKind.min, IntKind.max, IntKind.signed, IntKind.bits, Bool.and_eq_true, decide_eq_true_eq] at hb
    simp at hb
    omega
  exact vitrinelaw05_AttrFields.calls 6 p n d m b true W (fields p n d m b hb'.1 hb'.2 6 (Nat.le_refl 6))
end Go.Proofs.Ytfdhchgemplnoaa.PlainF
