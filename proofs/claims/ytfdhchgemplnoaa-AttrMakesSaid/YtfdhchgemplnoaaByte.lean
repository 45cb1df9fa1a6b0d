/- A byte is a number from 0 to 255. -/
import Derived.Test.YtfdhchgemplnoaaPlainA
namespace Go.Proofs.Ytfdhchgemplnoaa.Pure
open Go.RowKit Go.Proofs.Ytfdhchgemplnoaa.PAll Go.Proofs.YtfdhchgemplnoaaW.PrintWords Go.Proofs.YtfdhchgemplnoaaW.PrintLast
set_option linter.unusedSimpArgs false
set_option linter.unusedVariables false

theorem byte_of (x : Int) (h : (Lit.int .u8 x).wf = true) : 0 ≤ x ∧ x ≤ 255 := by
  simp only [Lit.wf, IntKind.min, IntKind.max, IntKind.signed, IntKind.bits, Bool.and_eq_true, decide_eq_true_eq] at h
  simp at h
  omega

end Go.Proofs.Ytfdhchgemplnoaa.Pure
