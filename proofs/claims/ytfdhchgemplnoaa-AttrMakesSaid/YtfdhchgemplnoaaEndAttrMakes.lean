/- AttrMakes: the law's row, for every input, out of its walk. No further condition. -/
import Derived.Test.YtfdhchgemplnoaaRows
import Derived.Test.YtfdhchgemplnoaaMkQ
import Derived.Test.YtfdhchgemplnoaaOpen
import Derived.WalkKit
import Derived.ProofKit
import Derived.OpenShut
import Derived.ShutString
import Derived.ChangeOld
import Derived.Below
import Derived.SizedLaws
namespace Go.Proofs.Ytfdhchgemplnoaa.attrMakes
open Go.ChangeShapes Go.WideShapes Go.ChangeAt Go.RowKit Go.Proofs.Ytfdhchgemplnoaa.Opening Go.Proofs.YtfdhchgemplnoaaW.PrintWords
open Go.ChangeMaps (open_string shut_string)
set_option linter.unusedVariables false
theorem own : ownKnob Try.prog.godebug = none := by kernel_rfl
theorem laidOut : laidOutB Try.prog = true := by kernel_rfl
theorem opens5 : Opens Try.prog 5 (Kd.int .u8) (fun n => (Lit.int .u8 n).wf = true) := opens_int Try.underlying5
theorem opens4 : Opens Try.prog 4 Kd.bool (fun _ => True) := opens_bool Try.underlying4
theorem opens38 : Opens Try.prog 38 (Kd.pair (Kd.int .u8) (Kd.pair Kd.bool (Kd.pair (Kd.int .u8) (Kd.pair (Kd.int .u8) (Kd.pair (Kd.int .u8) (Kd.int .u8)))))) (fun x : (Int) × (Bool) × (Int) × (Int) × (Int) × (Int) => (fun n => (Lit.int .u8 n).wf = true) x.1 ∧ (fun x : (Bool) × (Int) × (Int) × (Int) × (Int) => (fun _ => True) x.1 ∧ (fun x : (Int) × (Int) × (Int) × (Int) => (fun n => (Lit.int .u8 n).wf = true) x.1 ∧ (fun x : (Int) × (Int) × (Int) => (fun n => (Lit.int .u8 n).wf = true) x.1 ∧ (fun x : (Int) × (Int) => (fun n => (Lit.int .u8 n).wf = true) x.1 ∧ (fun n => (Lit.int .u8 n).wf = true) x.2) x.2) x.2) x.2) x.2) := by refine opens_struct Try.underlying38 (by kernel_rfl) ?_; refine opensAt_cons (oka := (fun n => (Lit.int .u8 n).wf = true)) (okb := (fun x : (Bool) × (Int) × (Int) × (Int) × (Int) => (fun _ => True) x.1 ∧ (fun x : (Int) × (Int) × (Int) × (Int) => (fun n => (Lit.int .u8 n).wf = true) x.1 ∧ (fun x : (Int) × (Int) × (Int) => (fun n => (Lit.int .u8 n).wf = true) x.1 ∧ (fun x : (Int) × (Int) => (fun n => (Lit.int .u8 n).wf = true) x.1 ∧ (fun n => (Lit.int .u8 n).wf = true) x.2) x.2) x.2) x.2)) opens5 (by kernel_rfl) _ rfl ?_; refine opensAt_cons (oka := (fun _ => True)) (okb := (fun x : (Int) × (Int) × (Int) × (Int) => (fun n => (Lit.int .u8 n).wf = true) x.1 ∧ (fun x : (Int) × (Int) × (Int) => (fun n => (Lit.int .u8 n).wf = true) x.1 ∧ (fun x : (Int) × (Int) => (fun n => (Lit.int .u8 n).wf = true) x.1 ∧ (fun n => (Lit.int .u8 n).wf = true) x.2) x.2) x.2)) opens4 (by kernel_rfl) _ rfl ?_; refine opensAt_cons (oka := (fun n => (Lit.int .u8 n).wf = true)) (okb := (fun x : (Int) × (Int) × (Int) => (fun n => (Lit.int .u8 n).wf = true) x.1 ∧ (fun x : (Int) × (Int) => (fun n => (Lit.int .u8 n).wf = true) x.1 ∧ (fun n => (Lit.int .u8 n).wf = true) x.2) x.2)) opens5 (by kernel_rfl) _ rfl ?_; refine opensAt_cons (oka := (fun n => (Lit.int .u8 n).wf = true)) (okb := (fun x : (Int) × (Int) => (fun n => (Lit.int .u8 n).wf = true) x.1 ∧ (fun n => (Lit.int .u8 n).wf = true) x.2)) opens5 (by kernel_rfl) _ rfl ?_; refine opensAt_cons (oka := (fun n => (Lit.int .u8 n).wf = true)) (okb := (fun n => (Lit.int .u8 n).wf = true)) opens5 (by kernel_rfl) _ rfl ?_; exact opensAt_one opens5 (by kernel_rfl) _ rfl
set_option maxRecDepth 100000 in
theorem lifted (os : Os) (started : os.Started) (H : Type) (enc : TypeId × Value → H) :
    ReturnsInHanded {} Try.checked os 7 .any (Rows.attrMakesSpec.pre6 enc Try.prog Try.f7 Rows.attrMakesRow.domain false) (Rows.attrMakesSpec.post enc Try.prog Try.f7 false true false false) := by
  refine returnsInHanded_of_change_sized (C := Try.checked) own started (by kernel_rfl) Try.func7
    (ChangeSpec.witness6 (enc := enc) (C := Try.checked) false ⟨#[], #[.agg #[.int .u8 0, .bool false, .int .u8 0, .int .u8 0, .int .u8 0, .int .u8 0], .agg #[.int .u8 0, .bool false, .int .u8 0, .int .u8 0, .int .u8 0, .int .u8 0]], []⟩ 8 (by kernel_rfl) (by kernel_rfl) (by kernel_rfl) (by kernel_rfl)) ?_
  intro W base args ds gs before hval0 hW hcnd hsz0 _
  have hval : ∀ (j : Nat) t v, Try.f7.params[j]? = some t → args[j]? = some v → Value.okWide Try.prog W .any base t v := hval0
  have hW' := hW
  obtain ⟨p, q, hA0, hV, rfl, hfz, hnd⟩ := hW
  have hA : DataW.TrodAll enc Try.prog W 0 (fun _ => true) true Try.f7.params.toList args.toList ds p := hA0
  rw [Try.params7] at hA hval
  obtain ⟨v0, vs0, d0, ds0, p0, q0, hargs, rfl, rfl, h0, r0⟩ := trodAll_cons hA
  obtain ⟨v1, vs1, d1, ds1, p1, q1, rfl, rfl, rfl, h1, r1⟩ := trodAll_cons r0
  obtain ⟨rfl, rfl, rfl⟩ := trodAll_nil r1
  obtain rfl : args = #[v0, v1] := by cases args; simp_all
  obtain ⟨rfl, rfl⟩ := trodVars_none hV
  have lt0 : ∀ x ∈ p0, x.block < W.heap.size := by obtain ⟨m, hm⟩ := h0; exact DataW.trod_lt m _ _ _ hm
  obtain ⟨⟨a0_0, a0_1, a0_2, a0_3, a0_4, a0_5⟩, cs0, rfl, hK0, ok0⟩ := arg_struct Try.underlying38 opens38 (hval 0 38 v0 rfl rfl) h0
  obtain ⟨_, _, rfl, rfl, _, _, rfl, rfl, _, _, rfl, rfl, _, _, rfl, rfl, _, _, rfl, rfl, rfl⟩ := hK0
  obtain ⟨ok0_0, ok0_1, ok0_2, ok0_3, ok0_4, ok0_5⟩ := ok0
  have lt1 : ∀ x ∈ p1, x.block < W.heap.size := by obtain ⟨m, hm⟩ := h1; exact DataW.trod_lt m _ _ _ hm
  obtain ⟨⟨a1_0, a1_1, a1_2, a1_3, a1_4, a1_5⟩, cs1, rfl, hK1, ok1⟩ := arg_struct Try.underlying38 opens38 (hval 1 38 v1 rfl rfl) h1
  obtain ⟨_, _, rfl, rfl, _, _, rfl, rfl, _, _, rfl, rfl, _, _, rfl, rfl, _, _, rfl, rfl, rfl⟩ := hK1
  obtain ⟨ok1_0, ok1_1, ok1_2, ok1_3, ok1_4, ok1_5⟩ := ok1
  refine (Go.Proofs.Ytfdhchgemplnoaa.MkPlain.walk a0_0 a0_1 a0_2 a0_3 a0_4 a0_5 a1_0 a1_1 a1_2 a1_3 a1_4 a1_5 W ok0_0 ok0_2 ok0_3 ok0_4 ok0_5 ok1_0 ok1_2 ok1_3 ok1_4 ok1_5).mono fun e W' ⟨he, bel⟩ => ?_
  subst he
  exact ⟨_, rfl, _, _, _, [], _, [], hW', trodAll_mk1 (shut_bool Try.underlying4 _), (trodAll_cons_mk (Below.trod laidOut (by kernel_rfl) (of_decide_eq_true (by kernel_rfl)) h0 bel lt0) (trodAll_cons_mk (Below.trod laidOut (by kernel_rfl) (of_decide_eq_true (by kernel_rfl)) h1 bel lt1) trodAll_mk0)), rfl, bel.frame _, fun h => by cases h⟩
theorem over : Rows.attrMakesRow.holds Try.pinned (OpenSpec.ofChange Rows.attrMakesSpec) :=
  OpenClaim.holds_of_wide 7 Try.f7 rfl rfl rfl rfl rfl rfl rfl ⟨rfl, rfl, rfl, rfl, rfl⟩ rfl rfl rfl rfl rfl (by kernel_rfl) Try.func7 (by kernel_rfl)
    (of_decide_eq_true (by kernel_rfl)) (by unfold Func.isWrapper; first | (rw [if_pos (by decide +kernel)]; kernel_rfl) | (rw [if_neg (by decide +kernel)]; exact ⟨rfl, rfl⟩))
    (fun os started H enc _ => lifted os started H enc)
theorem proved : Rows.AttrMakesSaid := over
#print axioms proved
end Go.Proofs.Ytfdhchgemplnoaa.attrMakes
namespace Go.Proofs.Ytfdhchgemplnoaa
/-- The row, under a short name, for the claim. -/
theorem attrMakes_holds : Rows.AttrMakesSaid := attrMakes.proved
end Go.Proofs.Ytfdhchgemplnoaa
