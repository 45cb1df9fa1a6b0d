/- AttrBytes: the law's row, for every input, out of its walk. No further condition. -/
import Derived.Test.YtfdhchgemplnoaaRows
import Derived.Test.YtfdhchgemplnoaaPlainE
import Derived.Test.YtfdhchgemplnoaaOpen
import Derived.WalkKit
import Derived.ProofKit
import Derived.OpenShut
import Derived.ShutString
import Derived.ChangeOld
import Derived.Below
import Derived.SizedLaws
namespace Go.Proofs.Ytfdhchgemplnoaa.attrBytes
open Go.ChangeShapes Go.WideShapes Go.ChangeAt Go.RowKit Go.Proofs.Ytfdhchgemplnoaa.Opening Go.Proofs.YtfdhchgemplnoaaW.PrintWords
open Go.ChangeMaps (open_string shut_string)
set_option linter.unusedVariables false
theorem own : ownKnob Try.prog.godebug = none := by kernel_rfl
theorem laidOut : laidOutB Try.prog = true := by kernel_rfl
theorem opens5 : Opens Try.prog 5 (Kd.int .u8) (fun n => (Lit.int .u8 n).wf = true) := opens_int Try.underlying5
theorem opens36 : Opens Try.prog 36 PAll.k36 (fun x => (fun x : (Int) × (Int) => (fun n => (Lit.int .u8 n).wf = true) x.1 ∧ (fun n => (Lit.int .u8 n).wf = true) x.2) (x.f0, x.f1)) := opens_iso (d := (Kd.pair (Kd.int .u8) (Kd.int .u8))) (ok := (fun x : (Int) × (Int) => (fun n => (Lit.int .u8 n).wf = true) x.1 ∧ (fun n => (Lit.int .u8 n).wf = true) x.2)) (fun x : PAll.S36 => (x.f0, x.f1)) (fun a => (⟨a.1, a.2⟩ : PAll.S36)) (fun _ => rfl) (by refine opens_struct Try.underlying36 (by kernel_rfl) ?_; refine opensAt_cons (oka := (fun n => (Lit.int .u8 n).wf = true)) (okb := (fun n => (Lit.int .u8 n).wf = true)) opens5 (by kernel_rfl) _ rfl ?_; exact opensAt_one opens5 (by kernel_rfl) _ rfl)
theorem opens53 : Opens Try.prog 53 (Kd.slice 36 PAll.k36) (fun xs => xs.length ≤ maxLen ∧ ∀ x ∈ xs, (fun x => (fun x : (Int) × (Int) => (fun n => (Lit.int .u8 n).wf = true) x.1 ∧ (fun n => (Lit.int .u8 n).wf = true) x.2) (x.f0, x.f1)) x) := opens_slice Try.underlying53 (by kernel_rfl) opens36
theorem opens47 : Opens Try.prog 47 (Kd.slice 5 (Kd.int .u8)) (fun xs => xs.length ≤ maxLen ∧ ∀ x ∈ xs, (fun n => (Lit.int .u8 n).wf = true) x) := opens_slice Try.underlying47 (by kernel_rfl) opens5
set_option maxRecDepth 100000 in
theorem lifted (os : Os) (started : os.Started) (H : Type) (enc : TypeId × Value → H) :
    ReturnsInHanded {} Try.checked os 6 .any (Rows.attrBytesSpec.pre6 enc Try.prog Try.f6 Rows.attrBytesRow.domain false) (Rows.attrBytesSpec.post enc Try.prog Try.f6 false true false false) := by
  refine returnsInHanded_of_change_sized (C := Try.checked) own started (by kernel_rfl) Try.func6
    (ChangeSpec.witness6 (enc := enc) (C := Try.checked) false ⟨#[], #[.slice none 0 0, .slice none 0 0], []⟩ 8 (by kernel_rfl) (by kernel_rfl) (by kernel_rfl) (by kernel_rfl)) ?_
  intro W base args ds gs before hval0 hW hcnd hsz0 _
  have hval : ∀ (j : Nat) t v, Try.f6.params[j]? = some t → args[j]? = some v → Value.okWide Try.prog W .any base t v := hval0
  have hW' := hW
  obtain ⟨p, q, hA0, hV, rfl, hfz, hnd⟩ := hW
  have hA : DataW.TrodAll enc Try.prog W 0 (fun _ => true) true Try.f6.params.toList args.toList ds p := hA0
  rw [Try.params6] at hA hval
  obtain ⟨v0, vs0, d0, ds0, p0, q0, hargs, rfl, rfl, h0, r0⟩ := trodAll_cons hA
  obtain ⟨v1, vs1, d1, ds1, p1, q1, rfl, rfl, rfl, h1, r1⟩ := trodAll_cons r0
  obtain ⟨rfl, rfl, rfl⟩ := trodAll_nil r1
  obtain rfl : args = #[v0, v1] := by cases args; simp_all
  obtain ⟨rfl, rfl⟩ := trodVars_none hV
  have lt0 : ∀ x ∈ p0, x.block < W.heap.size := by obtain ⟨m, hm⟩ := h0; exact DataW.trod_lt m _ _ _ hm
  obtain ⟨l0, A0, c0, rfl, hc0, hC0, ok0⟩ := arg_slice Try.underlying53 opens53 (hval 0 53 v0 rfl rfl) h0
  have lt1 : ∀ x ∈ p1, x.block < W.heap.size := by obtain ⟨m, hm⟩ := h1; exact DataW.trod_lt m _ _ _ hm
  obtain ⟨l1, A1, c1, rfl, hc1, hC1, ok1⟩ := arg_slice Try.underlying47 opens47 (hval 1 47 v1 rfl rfl) h1
  refine (Plain.bytes_walk A0 c0 l0 A1 c1 l1 W hC0 hc0 ok0 hC1 hc1 ok1).mono fun e W' ⟨he, bel⟩ => ?_
  subst he
  exact ⟨_, rfl, _, _, _, [], _, [], hW', trodAll_mk1 (shut_bool Try.underlying4 _), (trodAll_cons_mk (Below.trod laidOut (by kernel_rfl) (of_decide_eq_true (by kernel_rfl)) h0 bel lt0) (trodAll_cons_mk (Below.trod laidOut (by kernel_rfl) (of_decide_eq_true (by kernel_rfl)) h1 bel lt1) trodAll_mk0)), rfl, bel.frame _, fun h => by cases h⟩
theorem over : Rows.attrBytesRow.holds Try.pinned (OpenSpec.ofChange Rows.attrBytesSpec) :=
  OpenClaim.holds_of_wide 6 Try.f6 rfl rfl rfl rfl rfl rfl rfl ⟨rfl, rfl, rfl, rfl, rfl⟩ rfl rfl rfl rfl rfl (by kernel_rfl) Try.func6 (by kernel_rfl)
    (of_decide_eq_true (by kernel_rfl)) (by unfold Func.isWrapper; first | (rw [if_pos (by decide +kernel)]; kernel_rfl) | (rw [if_neg (by decide +kernel)]; exact ⟨rfl, rfl⟩))
    (fun os started H enc _ => lifted os started H enc)
theorem proved : Rows.AttrBytesSaid := over
#print axioms proved
end Go.Proofs.Ytfdhchgemplnoaa.attrBytes
namespace Go.Proofs.Ytfdhchgemplnoaa
/-- The row, under a short name, for the claim. -/
theorem attrBytes_holds : Rows.AttrBytesSaid := attrBytes.proved
end Go.Proofs.Ytfdhchgemplnoaa
