/- AttrParses: of any bytes (600 of them at the most are looked at) attr.Parse and the document's Parse give the same pairs, the same count and the same error. -/
import Derived.Test.YtfdhchgemplnoaaPAllx11
import Derived.Test.YtfdhchgemplnoaaByte
import Derived.Test.YtfdhchgemplnoaaPlainD
namespace Go.Proofs.Ytfdhchgemplnoaa.WalkPa
open Go.RowKit Go.Proofs.Ytfdhchgemplnoaa.PAll Go.Proofs.YtfdhchgemplnoaaW.PrintWords Go.Proofs.YtfdhchgemplnoaaW.PrintLast
theorem walk (A : Option Addr) (c : Nat) (l : List Int) (W : World) (hC : Kd.C (Kd.int .u8) W A l.length l) (hc : l.length ≤ c) (ok : l.length ≤ maxLen ∧ ∀ x ∈ l, (Lit.int .u8 x).wf = true) :
    Calls Try.prog 5 #[.slice A l.length c] W fun e W' => e = .returned (.bool true) ∧ Below W.heap.size W W' :=
  vitrinelaw05_AttrParses.calls 1000 A c l true W hC hc (Plain.parses l (fun x hx => Pure.byte_of x (ok.2 x hx)))
end Go.Proofs.Ytfdhchgemplnoaa.WalkPa
