/- TelnetMerges: the law's row, for every input, out of its walk. No further condition. -/
import Derived.Test.YtddfgfgjkamccaaRows
import Derived.Test.YtddfgfgjkamccaaRn
import Derived.Test.YtddfgfgjkamccaaOpen
import Derived.WalkKit
import Derived.ProofKit
import Derived.OpenShut
import Derived.ShutString
import Derived.ChangeOld
import Derived.Below
import Derived.SizedLaws
namespace Go.Proofs.Ytddfgfgjkamccaa.telnetMerges
open Go.ChangeShapes Go.WideShapes Go.ChangeAt Go.RowKit Go.Proofs.Ytddfgfgjkamccaa.Opening Go.Proofs.YtddfgfgjkamccaaW.PrintWords
open Go.ChangeMaps (open_string shut_string)
set_option linter.unusedVariables false
theorem own : ownKnob Try.prog.godebug = none := by kernel_rfl
theorem laidOut : laidOutB Try.prog = true := by kernel_rfl
theorem opens3 : Opens Try.prog 3 (Kd.int .i64) (fun n => (Lit.int .i64 n).wf = true) := opens_int Try.underlying3
theorem opens5 : Opens Try.prog 5 (Kd.int .u8) (fun n => (Lit.int .u8 n).wf = true) := opens_int Try.underlying5
theorem opens22 : Opens Try.prog 22 (Kd.slice 5 (Kd.int .u8)) (fun xs : List (Int) => xs.length ≤ maxLen ∧ ∀ x ∈ xs, (fun n => (Lit.int .u8 n).wf = true) x) := opens_slice Try.underlying22 (by kernel_rfl) opens5
theorem opens4 : Opens Try.prog 4 Kd.bool (fun _ => True) := opens_bool Try.underlying4
theorem opens35 : Opens Try.prog 35 PTe.k35 (fun x => (fun x : (Int) × (Int) × (Int) × (List (Int)) × (Bool) × (Bool) => (fun n => (Lit.int .i64 n).wf = true) x.1 ∧ (fun x : (Int) × (Int) × (List (Int)) × (Bool) × (Bool) => (fun n => (Lit.int .u8 n).wf = true) x.1 ∧ (fun x : (Int) × (List (Int)) × (Bool) × (Bool) => (fun n => (Lit.int .u8 n).wf = true) x.1 ∧ (fun x : (List (Int)) × (Bool) × (Bool) => (fun xs : List (Int) => xs.length ≤ maxLen ∧ ∀ x ∈ xs, (fun n => (Lit.int .u8 n).wf = true) x) x.1 ∧ (fun x : (Bool) × (Bool) => (fun _ => True) x.1 ∧ (fun _ => True) x.2) x.2) x.2) x.2) x.2) (x.f0, x.f1, x.f2, x.f3, x.f4, x.f5)) := opens_iso (d := (Kd.pair (Kd.int .i64) (Kd.pair (Kd.int .u8) (Kd.pair (Kd.int .u8) (Kd.pair (Kd.slice 5 (Kd.int .u8)) (Kd.pair Kd.bool Kd.bool)))))) (ok := (fun x : (Int) × (Int) × (Int) × (List (Int)) × (Bool) × (Bool) => (fun n => (Lit.int .i64 n).wf = true) x.1 ∧ (fun x : (Int) × (Int) × (List (Int)) × (Bool) × (Bool) => (fun n => (Lit.int .u8 n).wf = true) x.1 ∧ (fun x : (Int) × (List (Int)) × (Bool) × (Bool) => (fun n => (Lit.int .u8 n).wf = true) x.1 ∧ (fun x : (List (Int)) × (Bool) × (Bool) => (fun xs : List (Int) => xs.length ≤ maxLen ∧ ∀ x ∈ xs, (fun n => (Lit.int .u8 n).wf = true) x) x.1 ∧ (fun x : (Bool) × (Bool) => (fun _ => True) x.1 ∧ (fun _ => True) x.2) x.2) x.2) x.2) x.2)) (fun x : PTe.S35 => (x.f0, x.f1, x.f2, x.f3, x.f4, x.f5)) (fun a => (⟨a.1, a.2.1, a.2.2.1, a.2.2.2.1, a.2.2.2.2.1, a.2.2.2.2.2⟩ : PTe.S35)) (fun _ => rfl) (by refine opens_struct Try.underlying35 (by kernel_rfl) ?_; refine opensAt_cons (oka := (fun n => (Lit.int .i64 n).wf = true)) (okb := (fun x : (Int) × (Int) × (List (Int)) × (Bool) × (Bool) => (fun n => (Lit.int .u8 n).wf = true) x.1 ∧ (fun x : (Int) × (List (Int)) × (Bool) × (Bool) => (fun n => (Lit.int .u8 n).wf = true) x.1 ∧ (fun x : (List (Int)) × (Bool) × (Bool) => (fun xs : List (Int) => xs.length ≤ maxLen ∧ ∀ x ∈ xs, (fun n => (Lit.int .u8 n).wf = true) x) x.1 ∧ (fun x : (Bool) × (Bool) => (fun _ => True) x.1 ∧ (fun _ => True) x.2) x.2) x.2) x.2)) opens3 (by kernel_rfl) _ rfl ?_; refine opensAt_cons (oka := (fun n => (Lit.int .u8 n).wf = true)) (okb := (fun x : (Int) × (List (Int)) × (Bool) × (Bool) => (fun n => (Lit.int .u8 n).wf = true) x.1 ∧ (fun x : (List (Int)) × (Bool) × (Bool) => (fun xs : List (Int) => xs.length ≤ maxLen ∧ ∀ x ∈ xs, (fun n => (Lit.int .u8 n).wf = true) x) x.1 ∧ (fun x : (Bool) × (Bool) => (fun _ => True) x.1 ∧ (fun _ => True) x.2) x.2) x.2)) opens5 (by kernel_rfl) _ rfl ?_; refine opensAt_cons (oka := (fun n => (Lit.int .u8 n).wf = true)) (okb := (fun x : (List (Int)) × (Bool) × (Bool) => (fun xs : List (Int) => xs.length ≤ maxLen ∧ ∀ x ∈ xs, (fun n => (Lit.int .u8 n).wf = true) x) x.1 ∧ (fun x : (Bool) × (Bool) => (fun _ => True) x.1 ∧ (fun _ => True) x.2) x.2)) opens5 (by kernel_rfl) _ rfl ?_; refine opensAt_cons (oka := (fun xs : List (Int) => xs.length ≤ maxLen ∧ ∀ x ∈ xs, (fun n => (Lit.int .u8 n).wf = true) x)) (okb := (fun x : (Bool) × (Bool) => (fun _ => True) x.1 ∧ (fun _ => True) x.2)) opens22 (by kernel_rfl) _ rfl ?_; refine opensAt_cons (oka := (fun _ => True)) (okb := (fun _ => True)) opens4 (by kernel_rfl) _ rfl ?_; exact opensAt_one opens4 (by kernel_rfl) _ rfl)
theorem opens25 : Opens Try.prog 25 (Kd.slice 35 PTe.k35) (fun xs : List (PTe.S35) => xs.length ≤ maxLen ∧ ∀ x ∈ xs, (fun x => (fun x : (Int) × (Int) × (Int) × (List (Int)) × (Bool) × (Bool) => (fun n => (Lit.int .i64 n).wf = true) x.1 ∧ (fun x : (Int) × (Int) × (List (Int)) × (Bool) × (Bool) => (fun n => (Lit.int .u8 n).wf = true) x.1 ∧ (fun x : (Int) × (List (Int)) × (Bool) × (Bool) => (fun n => (Lit.int .u8 n).wf = true) x.1 ∧ (fun x : (List (Int)) × (Bool) × (Bool) => (fun xs : List (Int) => xs.length ≤ maxLen ∧ ∀ x ∈ xs, (fun n => (Lit.int .u8 n).wf = true) x) x.1 ∧ (fun x : (Bool) × (Bool) => (fun _ => True) x.1 ∧ (fun _ => True) x.2) x.2) x.2) x.2) x.2) (x.f0, x.f1, x.f2, x.f3, x.f4, x.f5)) x) := opens_slice Try.underlying25 (by kernel_rfl) opens35
set_option maxRecDepth 100000 in
theorem lifted (os : Os) (started : os.Started) (H : Type) (enc : TypeId × Value → H) :
    ReturnsInHanded {} Try.checked os 4 .any (Rows.telnetMergesSpec.pre6 enc Try.prog Try.f4 Rows.telnetMergesRow.domain false) (Rows.telnetMergesSpec.post enc Try.prog Try.f4 false true false false) := by
  refine returnsInHanded_of_change_sized (C := Try.checked) own started (by kernel_rfl) Try.func4
    (ChangeSpec.witness6 (enc := enc) (C := Try.checked) false ⟨#[], #[.slice none 0 0], []⟩ 8 (by kernel_rfl) (by kernel_rfl) (by kernel_rfl) (by kernel_rfl)) ?_
  intro W base args ds gs before hval0 hW hcnd hsz0 _
  have hval : ∀ (j : Nat) t v, Try.f4.params[j]? = some t → args[j]? = some v → Value.okWide Try.prog W .any base t v := hval0
  have hW' := hW
  obtain ⟨p, q, hA0, hV, rfl, hfz, hnd⟩ := hW
  have hA : DataW.TrodAll enc Try.prog W 0 (fun _ => true) true Try.f4.params.toList args.toList ds p := hA0
  rw [Try.params4] at hA hval
  obtain ⟨v0, vs0, d0, ds0, p0, q0, hargs, rfl, rfl, h0, r0⟩ := trodAll_cons hA
  obtain ⟨rfl, rfl, rfl⟩ := trodAll_nil r0
  obtain rfl : args = #[v0] := by cases args; simp_all
  obtain ⟨rfl, rfl⟩ := trodVars_none hV
  have lt0 : ∀ x ∈ p0, x.block < W.heap.size := by obtain ⟨m, hm⟩ := h0; exact DataW.trod_lt m _ _ _ hm
  obtain ⟨l0, A0, c0, rfl, hc0, hC0, ok0⟩ := arg_slice Try.underlying25 opens25 (hval 0 25 v0 rfl rfl) h0
  refine (Tn.merges_walk A0 c0 l0 W hC0 hc0 ok0).mono fun e W' ⟨he, bel⟩ => ?_
  subst he
  exact ⟨_, rfl, _, _, _, [], _, [], hW', trodAll_mk1 (shut_bool Try.underlying4 _), (trodAll_cons_mk (Below.trod laidOut (by kernel_rfl) (of_decide_eq_true (by kernel_rfl)) h0 bel lt0) trodAll_mk0), rfl, bel.frame _, fun h => by cases h⟩
theorem over : Rows.telnetMergesRow.holds Try.pinned (OpenSpec.ofChange Rows.telnetMergesSpec) :=
  OpenClaim.holds_of_wide 4 Try.f4 rfl rfl rfl rfl rfl rfl rfl ⟨rfl, rfl, rfl, rfl, rfl⟩ rfl rfl rfl rfl rfl (by kernel_rfl) Try.func4 (by kernel_rfl)
    (of_decide_eq_true (by kernel_rfl)) (by unfold Func.isWrapper; first | (rw [if_pos (by decide +kernel)]; kernel_rfl) | (rw [if_neg (by decide +kernel)]; exact ⟨rfl, rfl⟩))
    (fun os started H enc _ => lifted os started H enc)
theorem proved : Rows.TelnetMergesSaid := over
#print axioms proved
end Go.Proofs.Ytddfgfgjkamccaa.telnetMerges
namespace Go.Proofs.Ytddfgfgjkamccaa
/-- The row, under a short name, for the claim. -/
theorem telnetMerges_holds : Rows.TelnetMergesSaid := telnetMerges.proved
end Go.Proofs.Ytddfgfgjkamccaa
