/- Plain facts: AttrParses. -/
import Derived.Test.YtfdhchgemplnoaaPlainC
import Derived.Test.YtfdhchgemplnoaaPAllx11
namespace Go.Proofs.Ytfdhchgemplnoaa.Plain
open Go.RowKit Go.Proofs.Ytfdhchgemplnoaa.PAll Go.Proofs.YtfdhchgemplnoaaW.PrintWords Go.Proofs.YtfdhchgemplnoaaW.PrintLast
set_option linter.unusedSimpArgs false
set_option linter.unusedVariables false

theorem parses (l0 : List Int) (hb : ∀ x ∈ l0, 0 ≤ x ∧ x ≤ 255) : vitrinelaw05_AttrParses.f 1000 l0 = some true := by
  have ht : (l0.take 600).length ≤ 600 := by simp; omega
  have hbt : ∀ x ∈ l0.take 600, 0 ≤ x ∧ x ≤ 255 := fun x hx => hb x (List.mem_of_mem_take hx)
  have hp := parsed_len _ hbt
  unfold vitrinelaw05_AttrParses.f
  have hc : vitrineref01_Cut.f l0 600 = some (l0.take 600) := cut_is l0 600 (by omega)
  rw [awake_is 1000 (by omega)]
  simp only [Option.bind_some, if_true]
  rw [hc]
  simp only [Option.bind_some]
  rw [copy_is _ (by omega)]
  simp only [Option.bind_some]
  rw [parse_is _ (by omega) hbt 1000 (by omega), refparse_is _ (by omega) hbt 1000 (by omega)]
  simp only [Option.bind_some]
  rw [back_is _ (by simp; omega) 1000 (by simp; omega), conv_mk]
  simp only [Option.bind_some]
  rw [pair_same _ (by simp; omega) 1000 (by simp; omega)]
  simp only [Option.bind_some, if_true, same_is]


end Go.Proofs.Ytfdhchgemplnoaa.Plain
