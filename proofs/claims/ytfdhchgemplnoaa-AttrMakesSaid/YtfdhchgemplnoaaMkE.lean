/- '==' of two looks (arrays of three pairs). -/
import Derived.Test.YtfdhchgemplnoaaMkA
import Derived.ChangeKeysEq
namespace Go.Proofs.Ytfdhchgemplnoaa.PMk
open Go.RowKit Go.Proofs.YtfdhchgemplnoaaW.PrintWords Go.Proofs.YtfdhchgemplnoaaW.PrintLast Go.Proofs.YtfdhchgemplnoaaW.PrintMore
set_option linter.unusedVariables false
set_option linter.unusedSimpArgs false
theorem eqA40' (d : Nat) (w : World) (x0 y0 x1 y1 : Int) :
    (Op.equalIn (d + 2) 40 (.agg #[.int .u8 x0, .int .u8 x1]) (.agg #[.int .u8 y0, .int .u8 y1])).run Try.prog w = .ok (x0 == y0 && (x1 == y1)) w := by
  refine eqA_of Try.underlying40 (by kernel_rfl) ?_
  refine eqf_cons (by rfl) (by go_simp; rfl) (by go_simp; rfl) (by go_simp) ?_
  exact eqf_last (by rfl) (by go_simp; rfl) (by go_simp; rfl) (by go_simp)
theorem eq74 (d : Nat) (w : World) (a b c x y z : Int) :
    (Op.equalIn (d + 3) 74 (.agg #[.int .u8 65, .int .u8 a, .int .u8 66, .int .u8 b, .int .u8 67, .int .u8 c]) (.agg #[.int .u8 65, .int .u8 x, .int .u8 66, .int .u8 y, .int .u8 67, .int .u8 z])).run Try.prog w = .ok (a == x && (b == y && (c == z))) w := by
  obtain ⟨i, hi, _⟩ := info_parts info40
  rw [run_equalIn_array w (d + 2) _ _ Try.underlying74 hi, show List.range 3 = [0, 1, 2] from rfl]
  have hc : Try.prog.cellsOf 40 = 2 := by kernel_rfl
  rw [hc]
  have p0 : ∀ (w : World) (a b c : Int), (part 40 #[.int .u8 65, .int .u8 a, .int .u8 66, .int .u8 b, .int .u8 67, .int .u8 c] 0).run Try.prog w = .ok (.agg #[.int .u8 65, .int .u8 a]) w := fun w a b c => by go_simp
  have p1 : ∀ (w : World) (a b c : Int), (part 40 #[.int .u8 65, .int .u8 a, .int .u8 66, .int .u8 b, .int .u8 67, .int .u8 c] 2).run Try.prog w = .ok (.agg #[.int .u8 66, .int .u8 b]) w := fun w a b c => by go_simp
  have p2 : ∀ (w : World) (a b c : Int), (part 40 #[.int .u8 65, .int .u8 a, .int .u8 66, .int .u8 b, .int .u8 67, .int .u8 c] 4).run Try.prog w = .ok (.agg #[.int .u8 67, .int .u8 c]) w := fun w a b c => by go_simp
  simp only [Op.eqItems, Sem.run_bind, Nat.zero_mul, Nat.one_mul, Nat.reduceMul, p0, p1, p2, Result.andThen_ok, eqA40']
  by_cases h1 : a = x <;> by_cases h2 : b = y <;> by_cases h3 : c = z <;> simp [h1, h2, h3, p1, p2, eqA40']
end Go.Proofs.Ytfdhchgemplnoaa.PMk
