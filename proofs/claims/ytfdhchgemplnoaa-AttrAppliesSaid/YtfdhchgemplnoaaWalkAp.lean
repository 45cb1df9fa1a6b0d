/- AttrApplies: of every pair and every cell the program's Apply gives what the document's gives; plain, out of the printed contract. -/
import Derived.Test.YtfdhchgemplnoaaPAllx8
import Derived.Test.YtfdhchgemplnoaaPlainA
import Derived.Test.YtfdhchgemplnoaaByte
namespace Go.Proofs.Ytfdhchgemplnoaa.WalkAp
open Go.RowKit Go.Proofs.Ytfdhchgemplnoaa.PAll Go.Proofs.YtfdhchgemplnoaaW.PrintWords Go.Proofs.YtfdhchgemplnoaaW.PrintLast Go.Proofs.Ytfdhchgemplnoaa.Plain
set_option linter.unusedVariables false
set_option linter.unusedSimpArgs false

theorem six_all : ∀ n : Fin 256, vitrineref05_Six.f 6 (n.val : Int) = some (Go.bits .and .u8 (n.val : Int) 61) := by decide +kernel
theorem six_is (v : Int) (h0 : 0 ≤ v) (h1 : v ≤ 255) (k : Nat) (hk : 6 ≤ k) : vitrineref05_Six.f k v = some (Go.bits .and .u8 v 61) := by
  obtain ⟨n, rfl⟩ := Int.eq_ofNat_of_zero_le h0
  exact at_rounds (vitrineref05_Six.mono _) hk (six_all ⟨n, by omega⟩)

/-- What a pair makes of a cell, with the error. -/
def app (t v c0 : Int) (c1 : Bool) (c2 c3 c4 c5 : Int) : Int × Bool × Int × Int × Int × Int × Int :=
  if good t v = true then
    if t = 0 then (c0, c1, c2, 0, 0, 0, 0) else if t = 192 then (c0, c1, if c1 = true then Go.bits .and .u8 v 61 else c2, c3, c4, c5, 0)
    else if t = 65 then (c0, c1, c2, v, c4, c5, 0) else if t = 66 then (c0, c1, c2, c3, v, c5, 0) else (c0, c1, c2, c3, c4, v, 0)
  else (0, false, 0, 0, 0, 0, 10)

theorem good_types {t v : Int} (h : good t v = true) : t = 0 ∨ t = 192 ∨ t = 65 ∨ t = 66 ∨ t = 67 := by
  unfold good okList at h
  by_cases a : t = 0
  · simp [a]
  · by_cases b : t = 192
    · simp [b]
    · by_cases c : t = 65
      · simp [c]
      · by_cases d : t = 66
        · simp [d]
        · by_cases e : t = 67
          · simp [e]
          · simp [a, b, c, d, e] at h
theorem good_zero {v : Int} (h : good 0 v = true) : v = 0 := by simpa [good, okList] using h

theorem apply_is (t v c0 : Int) (c1 : Bool) (c2 c3 c4 c5 : Int) : attr_Pair_Apply.f t v c0 c1 c2 c3 c4 c5 = some (app t v c0 c1 c2 c3 c4 c5) := by
  unfold attr_Pair_Apply.f app
  rw [check_is]
  simp only [Option.bind_some]
  by_cases hg : good t v = true
  · rw [if_pos hg, if_pos rfl, if_pos hg]
    rcases good_types hg with rfl | rfl | rfl | rfl | rfl
    · simp
    · cases c1 <;> simp
    · simp
    · simp
    · simp
  · rw [if_neg hg, if_neg (by omega), if_neg hg]

theorem refapply_is (t v c0 : Int) (c1 : Bool) (c2 c3 c4 c5 : Int) (hv : 0 ≤ v ∧ v ≤ 255) (k : Nat) (hk : 20 ≤ k) : vitrineref05_Apply.f k t v c0 c1 c2 c3 c4 c5 = some (app t v c0 c1 c2 c3 c4 c5) := by
  obtain ⟨k, rfl⟩ : ∃ m, k = m + 8 := ⟨k - 8, by omega⟩
  unfold vitrineref05_Apply.f app
  rw [right_is t v _ (by omega)]
  simp only [Option.bind_some]
  by_cases hg : good t v = true
  · rw [if_pos hg, if_pos hg]
    rcases good_types hg with rfl | rfl | rfl | rfl | rfl
    · obtain rfl := good_zero hg
      simp [vitrineref05_Apply.j0, vitrineref05_Apply.j1, vitrineref05_Apply.j2, vitrineref05_Apply.j3, vitrineref05_Apply.j4]
    · cases c1
      · simp [vitrineref05_Apply.j0, vitrineref05_Apply.j1, vitrineref05_Apply.j2, vitrineref05_Apply.j3, vitrineref05_Apply.j4]
      · simp [vitrineref05_Apply.j0, vitrineref05_Apply.j1, vitrineref05_Apply.j2, vitrineref05_Apply.j3, vitrineref05_Apply.j4, six_is v hv.1 hv.2 (k + 7) (by omega)]
    · simp [vitrineref05_Apply.j0, vitrineref05_Apply.j1, vitrineref05_Apply.j2, vitrineref05_Apply.j3, vitrineref05_Apply.j4]
    · simp [vitrineref05_Apply.j0, vitrineref05_Apply.j1, vitrineref05_Apply.j2, vitrineref05_Apply.j3, vitrineref05_Apply.j4]
    · simp [vitrineref05_Apply.j0, vitrineref05_Apply.j1, vitrineref05_Apply.j2, vitrineref05_Apply.j3, vitrineref05_Apply.j4]
  · rw [if_neg hg, if_neg hg]

theorem applies (t v c0 : Int) (c1 : Bool) (c2 c3 c4 c5 : Int) (hv : 0 ≤ v ∧ v ≤ 255) : vitrinelaw05_AttrApplies.f 1000 t v c0 c1 c2 c3 c4 c5 = some true := by
  unfold vitrinelaw05_AttrApplies.f
  rw [awake_is 1000 (by omega), apply_is, refapply_is _ _ _ _ _ _ _ _ hv 1000 (by omega), check_is, right_is _ _ 1000 (by omega)]
  simp only [Option.bind_some, if_true, beq_self_eq_true, Bool.and_self]
  cases good t v <;> simp

theorem walk (t v : Int) (c0 : Int) (c1 : Bool) (c2 c3 c4 c5 : Int) (W : World) (ht : (Lit.int .u8 t).wf = true) (hv : (Lit.int .u8 v).wf = true) (h0 : (Lit.int .u8 c0).wf = true) (h2 : (Lit.int .u8 c2).wf = true) (h3 : (Lit.int .u8 c3).wf = true) (h4 : (Lit.int .u8 c4).wf = true) (h5 : (Lit.int .u8 c5).wf = true) :
    Calls Try.prog 4 #[.agg #[.int .u8 t, .int .u8 v], .agg #[.int .u8 c0, .bool c1, .int .u8 c2, .int .u8 c3, .int .u8 c4, .int .u8 c5]] W fun e W' => e = .returned (.bool true) ∧ Below W.heap.size W W' :=
  vitrinelaw05_AttrApplies.calls 1000 t v c0 c1 c2 c3 c4 c5 true W (applies t v c0 c1 c2 c3 c4 c5 (Pure.byte_of v hv))
end Go.Proofs.Ytfdhchgemplnoaa.WalkAp
