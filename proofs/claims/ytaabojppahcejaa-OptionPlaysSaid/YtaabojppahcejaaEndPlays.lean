/- OptionPlays: the law's row, for every input, out of its walk. No further condition. -/
import Derived.Test.YtaabojppahcejaaRows
import Derived.Test.YtaabojppahcejaaPf
import Derived.Test.YtaabojppahcejaaOpen
import Derived.WalkKit
import Derived.ProofKit
import Derived.OpenShut
import Derived.ShutString
import Derived.ChangeOld
import Derived.Below
import Derived.SizedLaws
namespace Go.Proofs.Ytaabojppahcejaa.optionPlays
open Go.ChangeShapes Go.WideShapes Go.ChangeAt Go.RowKit Go.Proofs.Ytaabojppahcejaa.Opening Go.Proofs.YtaabojppahcejaaW.PrintWords
open Go.ChangeMaps (open_string shut_string)
set_option linter.unusedVariables false
theorem own : ownKnob Try.prog.godebug = none := by kernel_rfl
theorem laidOut : laidOutB Try.prog = true := by kernel_rfl
theorem opens5 : Opens Try.prog 5 (Kd.int .u8) (fun n => (Lit.int .u8 n).wf = true) := opens_int Try.underlying5
theorem opens22 : Opens Try.prog 22 (Kd.slice 5 (Kd.int .u8)) (fun xs => xs.length ≤ maxLen ∧ ∀ x ∈ xs, (fun n => (Lit.int .u8 n).wf = true) x) := opens_slice Try.underlying22 (by kernel_rfl) opens5
theorem opens4 : Opens Try.prog 4 Kd.bool (fun _ => True) := opens_bool Try.underlying4
theorem opens3 : Opens Try.prog 3 (Kd.int .i64) (fun n => (Lit.int .i64 n).wf = true) := opens_int Try.underlying3
theorem opens29 : Opens Try.prog 29 Op.k29 (fun x => (fun x : (Bool) × (Int) × (Int) × (Int) × (Bool) => (fun _ => True) x.1 ∧ (fun x : (Int) × (Int) × (Int) × (Bool) => (fun n => (Lit.int .u8 n).wf = true) x.1 ∧ (fun x : (Int) × (Int) × (Bool) => (fun n => (Lit.int .u8 n).wf = true) x.1 ∧ (fun x : (Int) × (Bool) => (fun n => (Lit.int .i64 n).wf = true) x.1 ∧ (fun _ => True) x.2) x.2) x.2) x.2) (x.h, x.v, x.o, x.s, x.t)) := opens_iso (d := (Kd.pair Kd.bool (Kd.pair (Kd.int .u8) (Kd.pair (Kd.int .u8) (Kd.pair (Kd.int .i64) Kd.bool))))) (ok := (fun x : (Bool) × (Int) × (Int) × (Int) × (Bool) => (fun _ => True) x.1 ∧ (fun x : (Int) × (Int) × (Int) × (Bool) => (fun n => (Lit.int .u8 n).wf = true) x.1 ∧ (fun x : (Int) × (Int) × (Bool) => (fun n => (Lit.int .u8 n).wf = true) x.1 ∧ (fun x : (Int) × (Bool) => (fun n => (Lit.int .i64 n).wf = true) x.1 ∧ (fun _ => True) x.2) x.2) x.2) x.2)) (fun x : Op.S29 => (x.h, x.v, x.o, x.s, x.t)) (fun a => (⟨a.1, a.2.1, a.2.2.1, a.2.2.2.1, a.2.2.2.2⟩ : Op.S29)) (fun _ => rfl) (by refine opens_struct Try.underlying29 (by kernel_rfl) ?_; refine opensAt_cons (oka := (fun _ => True)) (okb := (fun x : (Int) × (Int) × (Int) × (Bool) => (fun n => (Lit.int .u8 n).wf = true) x.1 ∧ (fun x : (Int) × (Int) × (Bool) => (fun n => (Lit.int .u8 n).wf = true) x.1 ∧ (fun x : (Int) × (Bool) => (fun n => (Lit.int .i64 n).wf = true) x.1 ∧ (fun _ => True) x.2) x.2) x.2)) opens4 (by kernel_rfl) _ rfl ?_; refine opensAt_cons (oka := (fun n => (Lit.int .u8 n).wf = true)) (okb := (fun x : (Int) × (Int) × (Bool) => (fun n => (Lit.int .u8 n).wf = true) x.1 ∧ (fun x : (Int) × (Bool) => (fun n => (Lit.int .i64 n).wf = true) x.1 ∧ (fun _ => True) x.2) x.2)) opens5 (by kernel_rfl) _ rfl ?_; refine opensAt_cons (oka := (fun n => (Lit.int .u8 n).wf = true)) (okb := (fun x : (Int) × (Bool) => (fun n => (Lit.int .i64 n).wf = true) x.1 ∧ (fun _ => True) x.2)) opens5 (by kernel_rfl) _ rfl ?_; refine opensAt_cons (oka := (fun n => (Lit.int .i64 n).wf = true)) (okb := (fun _ => True)) opens3 (by kernel_rfl) _ rfl ?_; exact opensAt_one opens4 (by kernel_rfl) _ rfl)
theorem opens23 : Opens Try.prog 23 (Kd.slice 29 Op.k29) (fun xs => xs.length ≤ maxLen ∧ ∀ x ∈ xs, (fun x => (fun x : (Bool) × (Int) × (Int) × (Int) × (Bool) => (fun _ => True) x.1 ∧ (fun x : (Int) × (Int) × (Int) × (Bool) => (fun n => (Lit.int .u8 n).wf = true) x.1 ∧ (fun x : (Int) × (Int) × (Bool) => (fun n => (Lit.int .u8 n).wf = true) x.1 ∧ (fun x : (Int) × (Bool) => (fun n => (Lit.int .i64 n).wf = true) x.1 ∧ (fun _ => True) x.2) x.2) x.2) x.2) (x.h, x.v, x.o, x.s, x.t)) x) := opens_slice Try.underlying23 (by kernel_rfl) opens29
set_option maxRecDepth 100000 in
theorem lifted (os : Os) (started : os.Started) (H : Type) (enc : TypeId × Value → H) :
    ReturnsInHanded {} Try.checked os 7 .any (Rows.optionPlaysSpec.pre6 enc Try.prog Try.f7 Rows.optionPlaysRow.domain false) (Rows.optionPlaysSpec.post enc Try.prog Try.f7 false true false false) := by
  refine returnsInHanded_of_change_sized (C := Try.checked) own started (by kernel_rfl) Try.func7
    (ChangeSpec.witness6 (enc := enc) (C := Try.checked) false ⟨#[], #[.slice none 0 0, .slice none 0 0, .slice none 0 0], []⟩ 8 (by kernel_rfl) (by kernel_rfl) (by kernel_rfl) (by kernel_rfl)) ?_
  intro W base args ds gs before hval0 hW hcnd hsz0 _
  have hval : ∀ (j : Nat) t v, Try.f7.params[j]? = some t → args[j]? = some v → Value.okWide Try.prog W .any base t v := hval0
  have hW' := hW
  obtain ⟨p, q, hA0, hV, rfl, hfz, hnd⟩ := hW
  have hA : DataW.TrodAll enc Try.prog W 0 (fun _ => true) true Try.f7.params.toList args.toList ds p := hA0
  rw [Try.params7] at hA hval
  obtain ⟨v0, vs0, d0, ds0, p0, q0, hargs, rfl, rfl, h0, r0⟩ := trodAll_cons hA
  obtain ⟨v1, vs1, d1, ds1, p1, q1, rfl, rfl, rfl, h1, r1⟩ := trodAll_cons r0
  obtain ⟨v2, vs2, d2, ds2, p2, q2, rfl, rfl, rfl, h2, r2⟩ := trodAll_cons r1
  obtain ⟨rfl, rfl, rfl⟩ := trodAll_nil r2
  obtain rfl : args = #[v0, v1, v2] := by cases args; simp_all
  obtain ⟨rfl, rfl⟩ := trodVars_none hV
  have lt0 : ∀ x ∈ p0, x.block < W.heap.size := by obtain ⟨m, hm⟩ := h0; exact DataW.trod_lt m _ _ _ hm
  obtain ⟨l0, A0, c0, rfl, hc0, hC0, ok0⟩ := arg_slice Try.underlying22 opens22 (hval 0 22 v0 rfl rfl) h0
  have lt1 : ∀ x ∈ p1, x.block < W.heap.size := by obtain ⟨m, hm⟩ := h1; exact DataW.trod_lt m _ _ _ hm
  obtain ⟨l1, A1, c1, rfl, hc1, hC1, ok1⟩ := arg_slice Try.underlying22 opens22 (hval 1 22 v1 rfl rfl) h1
  have lt2 : ∀ x ∈ p2, x.block < W.heap.size := by obtain ⟨m, hm⟩ := h2; exact DataW.trod_lt m _ _ _ hm
  obtain ⟨l2, A2, c2, rfl, hc2, hC2, ok2⟩ := arg_slice Try.underlying23 opens23 (hval 2 23 v2 rfl rfl) h2
  refine (Op.plays_walk A0 c0 l0 A1 c1 l1 A2 c2 l2 W hC0 hc0 ok0 hC1 hc1 ok1 hC2 hc2 ok2).mono fun e W' ⟨he, bel⟩ => ?_
  subst he
  exact ⟨_, rfl, _, _, _, [], _, [], hW', trodAll_mk1 (shut_bool Try.underlying4 _), (trodAll_cons_mk (Below.trod laidOut (by kernel_rfl) (of_decide_eq_true (by kernel_rfl)) h0 bel lt0) (trodAll_cons_mk (Below.trod laidOut (by kernel_rfl) (of_decide_eq_true (by kernel_rfl)) h1 bel lt1) (trodAll_cons_mk (Below.trod laidOut (by kernel_rfl) (of_decide_eq_true (by kernel_rfl)) h2 bel lt2) trodAll_mk0))), rfl, bel.frame _, fun h => by cases h⟩
theorem over : Rows.optionPlaysRow.holds Try.pinned (OpenSpec.ofChange Rows.optionPlaysSpec) :=
  OpenClaim.holds_of_wide 7 Try.f7 rfl rfl rfl rfl rfl rfl rfl ⟨rfl, rfl, rfl, rfl, rfl⟩ rfl rfl rfl rfl rfl (by kernel_rfl) Try.func7 (by kernel_rfl)
    (of_decide_eq_true (by kernel_rfl)) (by unfold Func.isWrapper; first | (rw [if_pos (by decide +kernel)]; kernel_rfl) | (rw [if_neg (by decide +kernel)]; exact ⟨rfl, rfl⟩))
    (fun os started H enc _ => lifted os started H enc)
theorem proved : Rows.OptionPlaysSaid := over
#print axioms proved
end Go.Proofs.Ytaabojppahcejaa.optionPlays
namespace Go.Proofs.Ytaabojppahcejaa
/-- The row, under a short name, for the claim. -/
theorem optionPlays_holds : Rows.OptionPlaysSaid := optionPlays.proved
end Go.Proofs.Ytaabojppahcejaa
