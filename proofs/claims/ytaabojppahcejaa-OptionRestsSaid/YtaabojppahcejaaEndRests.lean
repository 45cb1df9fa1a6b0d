/- OptionRests: the law's row, for every input, out of its walk. No further condition. -/
import Derived.Test.YtaabojppahcejaaRows
import Derived.Test.YtaabojppahcejaaRw
import Derived.Test.YtaabojppahcejaaOpen
import Derived.WalkKit
import Derived.ProofKit
import Derived.OpenShut
import Derived.ShutString
import Derived.ChangeOld
import Derived.Below
import Derived.SizedLaws
namespace Go.Proofs.Ytaabojppahcejaa.optionRests
open Go.ChangeShapes Go.WideShapes Go.ChangeAt Go.RowKit Go.Proofs.Ytaabojppahcejaa.Opening Go.Proofs.YtaabojppahcejaaW.PrintWords
open Go.ChangeMaps (open_string shut_string)
set_option linter.unusedVariables false
theorem own : ownKnob Try.prog.godebug = none := by kernel_rfl
theorem laidOut : laidOutB Try.prog = true := by kernel_rfl
theorem opens5 : Opens Try.prog 5 (Kd.int .u8) (fun n => (Lit.int .u8 n).wf = true) := opens_int Try.underlying5
theorem opens22 : Opens Try.prog 22 (Kd.slice 5 (Kd.int .u8)) (fun xs => xs.length ≤ maxLen ∧ ∀ x ∈ xs, (fun n => (Lit.int .u8 n).wf = true) x) := opens_slice Try.underlying22 (by kernel_rfl) opens5
theorem opens4 : Opens Try.prog 4 Kd.bool (fun _ => True) := opens_bool Try.underlying4
theorem opens50 : Opens Try.prog 50 Op.k50 (fun x => (fun x : (Int) × (Bool) × (Int) × (Int) × (Bool) => (fun n => (Lit.int .u8 n).wf = true) x.1 ∧ (fun x : (Bool) × (Int) × (Int) × (Bool) => (fun _ => True) x.1 ∧ (fun x : (Int) × (Int) × (Bool) => (fun n => (Lit.int .u8 n).wf = true) x.1 ∧ (fun x : (Int) × (Bool) => (fun n => (Lit.int .u8 n).wf = true) x.1 ∧ (fun _ => True) x.2) x.2) x.2) x.2) (x.who, x.ask, x.side, x.opt, x.on)) := opens_iso (d := (Kd.pair (Kd.int .u8) (Kd.pair Kd.bool (Kd.pair (Kd.int .u8) (Kd.pair (Kd.int .u8) Kd.bool))))) (ok := (fun x : (Int) × (Bool) × (Int) × (Int) × (Bool) => (fun n => (Lit.int .u8 n).wf = true) x.1 ∧ (fun x : (Bool) × (Int) × (Int) × (Bool) => (fun _ => True) x.1 ∧ (fun x : (Int) × (Int) × (Bool) => (fun n => (Lit.int .u8 n).wf = true) x.1 ∧ (fun x : (Int) × (Bool) => (fun n => (Lit.int .u8 n).wf = true) x.1 ∧ (fun _ => True) x.2) x.2) x.2) x.2)) (fun x : Op.S50 => (x.who, x.ask, x.side, x.opt, x.on)) (fun a => (⟨a.1, a.2.1, a.2.2.1, a.2.2.2.1, a.2.2.2.2⟩ : Op.S50)) (fun _ => rfl) (by refine opens_struct Try.underlying50 (by kernel_rfl) ?_; refine opensAt_cons (oka := (fun n => (Lit.int .u8 n).wf = true)) (okb := (fun x : (Bool) × (Int) × (Int) × (Bool) => (fun _ => True) x.1 ∧ (fun x : (Int) × (Int) × (Bool) => (fun n => (Lit.int .u8 n).wf = true) x.1 ∧ (fun x : (Int) × (Bool) => (fun n => (Lit.int .u8 n).wf = true) x.1 ∧ (fun _ => True) x.2) x.2) x.2)) opens5 (by kernel_rfl) _ rfl ?_; refine opensAt_cons (oka := (fun _ => True)) (okb := (fun x : (Int) × (Int) × (Bool) => (fun n => (Lit.int .u8 n).wf = true) x.1 ∧ (fun x : (Int) × (Bool) => (fun n => (Lit.int .u8 n).wf = true) x.1 ∧ (fun _ => True) x.2) x.2)) opens4 (by kernel_rfl) _ rfl ?_; refine opensAt_cons (oka := (fun n => (Lit.int .u8 n).wf = true)) (okb := (fun x : (Int) × (Bool) => (fun n => (Lit.int .u8 n).wf = true) x.1 ∧ (fun _ => True) x.2)) opens5 (by kernel_rfl) _ rfl ?_; refine opensAt_cons (oka := (fun n => (Lit.int .u8 n).wf = true)) (okb := (fun _ => True)) opens5 (by kernel_rfl) _ rfl ?_; exact opensAt_one opens4 (by kernel_rfl) _ rfl)
theorem opens43 : Opens Try.prog 43 (Kd.slice 50 Op.k50) (fun xs => xs.length ≤ maxLen ∧ ∀ x ∈ xs, (fun x => (fun x : (Int) × (Bool) × (Int) × (Int) × (Bool) => (fun n => (Lit.int .u8 n).wf = true) x.1 ∧ (fun x : (Bool) × (Int) × (Int) × (Bool) => (fun _ => True) x.1 ∧ (fun x : (Int) × (Int) × (Bool) => (fun n => (Lit.int .u8 n).wf = true) x.1 ∧ (fun x : (Int) × (Bool) => (fun n => (Lit.int .u8 n).wf = true) x.1 ∧ (fun _ => True) x.2) x.2) x.2) x.2) (x.who, x.ask, x.side, x.opt, x.on)) x) := opens_slice Try.underlying43 (by kernel_rfl) opens50
set_option maxRecDepth 100000 in
theorem lifted (os : Os) (started : os.Started) (H : Type) (enc : TypeId × Value → H) :
    ReturnsInHanded {} Try.checked os 5 .any (Rows.optionRestsSpec.pre6 enc Try.prog Try.f5 Rows.optionRestsRow.domain false) (Rows.optionRestsSpec.post enc Try.prog Try.f5 false true false false) := by
  refine returnsInHanded_of_change_sized (C := Try.checked) own started (by kernel_rfl) Try.func5
    (ChangeSpec.witness6 (enc := enc) (C := Try.checked) false ⟨#[], #[.slice none 0 0, .slice none 0 0, .slice none 0 0, .slice none 0 0, .slice none 0 0], []⟩ 8 (by kernel_rfl) (by kernel_rfl) (by kernel_rfl) (by kernel_rfl)) ?_
  intro W base args ds gs before hval0 hW hcnd hsz0 _
  have hval : ∀ (j : Nat) t v, Try.f5.params[j]? = some t → args[j]? = some v → Value.okWide Try.prog W .any base t v := hval0
  have hW' := hW
  obtain ⟨p, q, hA0, hV, rfl, hfz, hnd⟩ := hW
  have hA : DataW.TrodAll enc Try.prog W 0 (fun _ => true) true Try.f5.params.toList args.toList ds p := hA0
  rw [Try.params5] at hA hval
  obtain ⟨v0, vs0, d0, ds0, p0, q0, hargs, rfl, rfl, h0, r0⟩ := trodAll_cons hA
  obtain ⟨v1, vs1, d1, ds1, p1, q1, rfl, rfl, rfl, h1, r1⟩ := trodAll_cons r0
  obtain ⟨v2, vs2, d2, ds2, p2, q2, rfl, rfl, rfl, h2, r2⟩ := trodAll_cons r1
  obtain ⟨v3, vs3, d3, ds3, p3, q3, rfl, rfl, rfl, h3, r3⟩ := trodAll_cons r2
  obtain ⟨v4, vs4, d4, ds4, p4, q4, rfl, rfl, rfl, h4, r4⟩ := trodAll_cons r3
  obtain ⟨rfl, rfl, rfl⟩ := trodAll_nil r4
  obtain rfl : args = #[v0, v1, v2, v3, v4] := by cases args; simp_all
  obtain ⟨rfl, rfl⟩ := trodVars_none hV
  have lt0 : ∀ x ∈ p0, x.block < W.heap.size := by obtain ⟨m, hm⟩ := h0; exact DataW.trod_lt m _ _ _ hm
  obtain ⟨l0, A0, c0, rfl, hc0, hC0, ok0⟩ := arg_slice Try.underlying22 opens22 (hval 0 22 v0 rfl rfl) h0
  have lt1 : ∀ x ∈ p1, x.block < W.heap.size := by obtain ⟨m, hm⟩ := h1; exact DataW.trod_lt m _ _ _ hm
  obtain ⟨l1, A1, c1, rfl, hc1, hC1, ok1⟩ := arg_slice Try.underlying22 opens22 (hval 1 22 v1 rfl rfl) h1
  have lt2 : ∀ x ∈ p2, x.block < W.heap.size := by obtain ⟨m, hm⟩ := h2; exact DataW.trod_lt m _ _ _ hm
  obtain ⟨l2, A2, c2, rfl, hc2, hC2, ok2⟩ := arg_slice Try.underlying22 opens22 (hval 2 22 v2 rfl rfl) h2
  have lt3 : ∀ x ∈ p3, x.block < W.heap.size := by obtain ⟨m, hm⟩ := h3; exact DataW.trod_lt m _ _ _ hm
  obtain ⟨l3, A3, c3, rfl, hc3, hC3, ok3⟩ := arg_slice Try.underlying22 opens22 (hval 3 22 v3 rfl rfl) h3
  have lt4 : ∀ x ∈ p4, x.block < W.heap.size := by obtain ⟨m, hm⟩ := h4; exact DataW.trod_lt m _ _ _ hm
  obtain ⟨l4, A4, c4, rfl, hc4, hC4, ok4⟩ := arg_slice Try.underlying43 opens43 (hval 4 43 v4 rfl rfl) h4
  refine (Op.rests_walk A0 c0 l0 A1 c1 l1 A2 c2 l2 A3 c3 l3 A4 c4 l4 W hC0 hc0 ok0 hC1 hc1 ok1 hC2 hc2 ok2 hC3 hc3 ok3 hC4 hc4 ok4).mono fun e W' ⟨he, bel⟩ => ?_
  subst he
  exact ⟨_, rfl, _, _, _, [], _, [], hW', trodAll_mk1 (shut_bool Try.underlying4 _), (trodAll_cons_mk (Below.trod laidOut (by kernel_rfl) (of_decide_eq_true (by kernel_rfl)) h0 bel lt0) (trodAll_cons_mk (Below.trod laidOut (by kernel_rfl) (of_decide_eq_true (by kernel_rfl)) h1 bel lt1) (trodAll_cons_mk (Below.trod laidOut (by kernel_rfl) (of_decide_eq_true (by kernel_rfl)) h2 bel lt2) (trodAll_cons_mk (Below.trod laidOut (by kernel_rfl) (of_decide_eq_true (by kernel_rfl)) h3 bel lt3) (trodAll_cons_mk (Below.trod laidOut (by kernel_rfl) (of_decide_eq_true (by kernel_rfl)) h4 bel lt4) trodAll_mk0))))), rfl, bel.frame _, fun h => by cases h⟩
theorem over : Rows.optionRestsRow.holds Try.pinned (OpenSpec.ofChange Rows.optionRestsSpec) :=
  OpenClaim.holds_of_wide 5 Try.f5 rfl rfl rfl rfl rfl rfl rfl ⟨rfl, rfl, rfl, rfl, rfl⟩ rfl rfl rfl rfl rfl (by kernel_rfl) Try.func5 (by kernel_rfl)
    (of_decide_eq_true (by kernel_rfl)) (by unfold Func.isWrapper; first | (rw [if_pos (by decide +kernel)]; kernel_rfl) | (rw [if_neg (by decide +kernel)]; exact ⟨rfl, rfl⟩))
    (fun os started H enc _ => lifted os started H enc)
theorem proved : Rows.OptionRestsSaid := over
#print axioms proved
end Go.Proofs.Ytaabojppahcejaa.optionRests
namespace Go.Proofs.Ytaabojppahcejaa
/-- The row, under a short name, for the claim. -/
theorem optionRests_holds : Rows.OptionRestsSaid := optionRests.proved
end Go.Proofs.Ytaabojppahcejaa
