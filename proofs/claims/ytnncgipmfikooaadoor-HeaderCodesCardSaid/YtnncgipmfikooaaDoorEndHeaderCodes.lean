/- HeaderCodes: the law's row, for every input, out of its walk; its tied card. What is listed: laid by the text, the tie is the given one. -/
import Derived.Test.YtnncgipmfikooaaDoorCards
import Derived.Test.YtnncgipmfikooaaDoorTie
import Derived.Test.YtnncgipmfikooaaDoorHdP
import Derived.Test.YtnncgipmfikooaaDoorOpen
import Derived.Test.YtnncgipmfikooaaDoorHdL
import Derived.WalkKit
import Derived.ProofKit
import Derived.OpenShut
import Derived.ShutString
import Derived.ChangeOld
import Derived.Below
import Derived.SizedLaws
import Derived.Deep.DeepHandedRow
import Derived.Lib.LaidTab
namespace Go.Proofs.YtnncgipmfikooaaDoor.headerCodes
open Go.ChangeShapes Go.WideShapes Go.ChangeAt Go.RowKit Go.Proofs.YtnncgipmfikooaaDoor.Opening Go.Proofs.YtnncgipmfikooaaDoorW.PrintWords
open Go.ChangeMaps (open_string shut_string)
set_option linter.unusedVariables false
theorem own : ownKnob Tryd.prog.godebug = none := by kernel_rfl
theorem laidOut : laidOutB Tryd.prog = true := by kernel_rfl
theorem opens5 : Opens Tryd.prog 5 (Kd.int .u8) (fun n => (Lit.int .u8 n).wf = true) := opens_int Tryd.underlying5
theorem opens22 : Opens Tryd.prog 22 (Kd.int .u16) (fun n => (Lit.int .u16 n).wf = true) := opens_int Tryd.underlying22
theorem opens24 : Opens Tryd.prog 24 (Kd.pair (Kd.int .u8) (Kd.pair (Kd.int .u8) (Kd.pair (Kd.int .u8) (Kd.int .u16)))) (fun x : (Int) × (Int) × (Int) × (Int) => (fun n => (Lit.int .u8 n).wf = true) x.1 ∧ (fun x : (Int) × (Int) × (Int) => (fun n => (Lit.int .u8 n).wf = true) x.1 ∧ (fun x : (Int) × (Int) => (fun n => (Lit.int .u8 n).wf = true) x.1 ∧ (fun n => (Lit.int .u16 n).wf = true) x.2) x.2) x.2) := by refine opens_struct Tryd.underlying24 (by kernel_rfl) ?_; refine opensAt_cons (oka := (fun n => (Lit.int .u8 n).wf = true)) (okb := (fun x : (Int) × (Int) × (Int) => (fun n => (Lit.int .u8 n).wf = true) x.1 ∧ (fun x : (Int) × (Int) => (fun n => (Lit.int .u8 n).wf = true) x.1 ∧ (fun n => (Lit.int .u16 n).wf = true) x.2) x.2)) opens5 (by kernel_rfl) _ rfl ?_; refine opensAt_cons (oka := (fun n => (Lit.int .u8 n).wf = true)) (okb := (fun x : (Int) × (Int) => (fun n => (Lit.int .u8 n).wf = true) x.1 ∧ (fun n => (Lit.int .u16 n).wf = true) x.2)) opens5 (by kernel_rfl) _ rfl ?_; refine opensAt_cons (oka := (fun n => (Lit.int .u8 n).wf = true)) (okb := (fun n => (Lit.int .u16 n).wf = true)) opens5 (by kernel_rfl) _ rfl ?_; exact opensAt_one opens22 (by kernel_rfl) _ rfl
theorem opens26 : Opens Tryd.prog 26 (Kd.slice 5 (Kd.int .u8)) (fun xs => xs.length ≤ maxLen ∧ ∀ x ∈ xs, (fun n => (Lit.int .u8 n).wf = true) x) := opens_slice Tryd.underlying26 (by kernel_rfl) opens5
set_option maxRecDepth 100000 in
theorem contract (H : Type) (enc : TypeId × Value → H) (W : World) (base : Nat) (args : Array Value) (ds gs : List (DataW H)) (before : List MemPlace)
    (hval0 : ∀ (j : Nat) t v, Tryd.f4.params[j]? = some t → args[j]? = some v → Value.okWide Tryd.prog W .any base t v)
    (hW : DataW.Whole enc Tryd.prog Tryd.f4.params.toList Rows.headerCodesSpec.vars false W args.toList ds gs before) (hL : laidMetH Tryd.prog Rows.headerCodesRow.laid W) :
    Calls Tryd.prog 4 args W fun e W' => ∃ v, e = .returned v ∧ Rows.headerCodesSpec.post enc Tryd.prog Tryd.f4 false true false false W args v W' := by
  have hval : ∀ (j : Nat) t v, Tryd.f4.params[j]? = some t → args[j]? = some v → Value.okWide Tryd.prog W .any base t v := hval0
  have hW' := hW
  obtain ⟨p, q, hA0, hV, rfl, hfz, hnd⟩ := hW
  have hA : DataW.TrodAll enc Tryd.prog W 0 (fun _ => true) true Tryd.f4.params.toList args.toList ds p := hA0
  rw [Tryd.params4] at hA hval
  obtain ⟨v0, vs0, d0, ds0, p0, q0, hargs, rfl, rfl, h0, r0⟩ := trodAll_cons hA
  obtain ⟨v1, vs1, d1, ds1, p1, q1, rfl, rfl, rfl, h1, r1⟩ := trodAll_cons r0
  obtain ⟨rfl, rfl, rfl⟩ := trodAll_nil r1
  obtain rfl : args = #[v0, v1] := by cases args; simp_all
  obtain ⟨rfl, rfl⟩ := trodVars_none hV
  have lt0 : ∀ x ∈ p0, x.block < W.heap.size := by obtain ⟨m, hm⟩ := h0; exact DataW.trod_lt m _ _ _ hm
  obtain ⟨⟨a0_0, a0_1, a0_2, a0_3⟩, cs0, rfl, hK0, ok0⟩ := arg_struct Tryd.underlying24 opens24 (hval 0 24 v0 rfl rfl) h0
  obtain ⟨_, _, rfl, rfl, _, _, rfl, rfl, _, _, rfl, rfl, rfl⟩ := hK0
  obtain ⟨ok0_0, ok0_1, ok0_2, ok0_3⟩ := ok0
  have lt1 : ∀ x ∈ p1, x.block < W.heap.size := by obtain ⟨m, hm⟩ := h1; exact DataW.trod_lt m _ _ _ hm
  obtain ⟨l1, A1, c1, rfl, hc1, hC1, ok1⟩ := arg_slice Tryd.underlying26 opens26 (hval 1 26 v1 rfl rfl) h1
  refine (Plain.walkCodes a0_0 a0_1 a0_2 a0_3 A1 c1 l1 W ok0_0 ok0_1 ok0_2 ok0_3 hC1 hc1 ok1 (Laid.gl hL)).mono fun e W' ⟨he, bel⟩ => ?_
  subst he
  exact ⟨_, rfl, _, _, _, [], _, [], hW', trodAll_mk1 (shut_bool Tryd.underlying4 _), (trodAll_cons_mk (Below.trod laidOut (by kernel_rfl) (of_decide_eq_true (by kernel_rfl)) h0 bel lt0) (trodAll_cons_mk (Below.trod laidOut (by kernel_rfl) (of_decide_eq_true (by kernel_rfl)) h1 bel lt1) trodAll_mk0)), rfl, bel.frame _, fun h => by cases h⟩
/-- A world for the witness: the settled one, the listed variables as they are laid. -/
noncomputable def laidWorld (os : Os) : World := { World.holding Tryd.prog os ⟨#[], #[], []⟩ with heap := ((World.holding Tryd.prog os ⟨#[], #[], []⟩).heap.modify 0 fun | .cells _ t fr => .cells #[.string ⟨#[51, 50, 55, 48, 45, 68, 65, 84, 65]⟩, .string ⟨#[83, 67, 83, 45, 68, 65, 84, 65]⟩, .string ⟨#[82, 69, 83, 80, 79, 78, 83, 69]⟩, .string ⟨#[66, 73, 78, 68, 45, 73, 77, 65, 71, 69]⟩, .string ⟨#[85, 78, 66, 73, 78, 68]⟩, .string ⟨#[78, 86, 84, 45, 68, 65, 84, 65]⟩, .string ⟨#[82, 69, 81, 85, 69, 83, 84]⟩, .string ⟨#[83, 83, 67, 80, 45, 76, 85, 45, 68, 65, 84, 65]⟩, .string ⟨#[80, 82, 73, 78, 84, 45, 69, 79, 74]⟩] t fr | o => o) }
theorem laid_met (os : Os) : laidMet Tryd.prog Rows.headerCodesRow.laid ((laidWorld os).forCall (fun _ _ => 0) ⟨#[], #[.agg #[.int .u8 0, .int .u8 0, .int .u8 0, .int .u16 0], .slice none 0 0], []⟩).memory :=
  laidMet_of_run' 8 (by kernel_rfl) (by kernel_rfl)
theorem reads (os : Os) {H : Type} (enc : TypeId × Value → H) : ∃ places, DataW.whole enc Tryd.prog ((laidWorld os).forCall (fun _ _ => 0) ⟨#[], #[.agg #[.int .u8 0, .int .u8 0, .int .u8 0, .int .u16 0], .slice none 0 0], []⟩).memory Tryd.f4.params.toList Rows.headerCodesSpec.vars false (#[.agg #[.int .u8 0, .int .u8 0, .int .u8 0, .int .u16 0], .slice none 0 0] : Array Value).toList 8 = some ([.agg [.lit (.int .u8 0), .lit (.int .u8 0), .lit (.int .u8 0), .lit (.int .u16 0)], .nil], [], places) :=
  ⟨[], by kernel_rfl⟩
set_option maxRecDepth 100000 in
theorem lifted (os : Os) (started : os.Started) (H : Type) (enc : TypeId × Value → H) (F : Stop.Interp) :
    ReturnsInHanded {} Tryd.checked os 4 .any ((OpenSpec.ofChange Rows.headerCodesSpec).preRow enc Tryd.prog Tryd.f4 Rows.headerCodesRow.domain false Rows.headerCodesRow.laid) (((OpenSpec.ofChange Rows.headerCodesSpec).at F).post enc Tryd.prog Tryd.f4 false true false false) := by
  obtain ⟨places, hx⟩ := reads os enc
  refine returnsInHanded_of_row (C := Tryd.checked) (s := OpenSpec.ofChange Rows.headerCodesSpec) own started (by kernel_rfl) Tryd.func4
    (witness_row_at (enc := enc) (C := Tryd.checked) false (laidWorld os) #[.agg #[.int .u8 0, .int .u8 0, .int .u8 0, .int .u16 0], .slice none 0 0] rfl (by kernel_rfl) (by kernel_rfl) (by kernel_rfl)
      (OpenSpec.preRow_of_cond 8 hx (by kernel_rfl) (fun k hk => by cases hk) (by kernel_rfl) (laid_met os))) ?_
  intro W base args ds gs before hval hW _ _ _ hL _ _
  exact contract H enc W base args ds gs before hval hW hL
theorem said : Rows.HeaderCodesSaid :=
  OpenClaim.holds_of_cond 4 Tryd.f4 rfl rfl rfl rfl rfl rfl rfl ⟨rfl, rfl, rfl, rfl, rfl⟩ rfl rfl rfl rfl rfl (by kernel_rfl) Tryd.func4 (by kernel_rfl)
    (of_decide_eq_true (by kernel_rfl)) (by unfold Func.isWrapper; first | (rw [if_pos (by decide +kernel)]; kernel_rfl) | (rw [if_neg (by decide +kernel)]; exact ⟨rfl, rfl⟩))
    (fun os started H enc _ F => by rw [OpenClaim.pre_eq_preRow]; exact lifted os started H enc F)
/-- No parameter wants a stand-in; the program's own looks are off. -/
theorem plain (f : FuncId) (fn : Func) (hf : Tryd.pinned.checked.prog.funcNamed "vitrine/vitrinelaw09.HeaderCodes" = some f) (hfn : Tryd.pinned.checked.prog.funcs[f]? = some fn) :
    false = Tryd.pinned.checked.prog.looks [] ∧ ∀ (j : Nat) t, fn.params[j]? = some t → Tryd.pinned.checked.prog.wantsStandIn t = false := by
  obtain rfl : f = 4 := Option.some.inj ((show Tryd.prog.funcNamed "vitrine/vitrinelaw09.HeaderCodes" = some 4 by kernel_rfl).symm.trans hf) |>.symm
  obtain rfl : fn = Tryd.f4 := (Option.some.inj (Tryd.func4.symm.trans hfn)).symm
  refine ⟨by kernel_rfl, fun j t ht => ?_⟩
  rw [Tryd.params4] at ht
  have hm := Array.mem_of_getElem? ht
  simp only [List.mem_toArray, List.mem_cons, List.not_mem_nil, or_false] at hm
  rcases hm with rfl | rfl
  · exact (show Tryd.prog.wantsStandIn 24 = false by kernel_rfl)
  · exact (show Tryd.prog.wantsStandIn 26 = false by kernel_rfl)
theorem proved : Rows.HeaderCodesCardSaid :=
  Claim7.holds_tied_plain_at .later [] _ _ _ _ said (fun _ h => by cases h) (by kernel_rfl) (fun _ h => by cases h) headerCodes_row_tie rfl ⟨rfl, rfl⟩ (by kernel_rfl) rfl plain (by kernel_rfl)
#print axioms proved
end Go.Proofs.YtnncgipmfikooaaDoor.headerCodes
namespace Go.Proofs.YtnncgipmfikooaaDoor
/-- The card, under a short name, for the claim. -/
theorem headerCodes_holds : Rows.HeaderCodesCardSaid := headerCodes.proved
end Go.Proofs.YtnncgipmfikooaaDoor
