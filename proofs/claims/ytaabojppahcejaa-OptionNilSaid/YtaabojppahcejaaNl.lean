/- option: OptionNil: the walk. -/
import Derived.Test.YtaabojppahcejaaAg
import Derived.Test.YtaabojppahcejaaQu
namespace Go.Proofs.Ytaabojppahcejaa.Op
open Go Go.RowKit Go.Proofs.YtaabojppahcejaaW.PrintWords
set_option linter.unusedVariables false
set_option linter.unusedSimpArgs false
theorem on_nil (i n : Int) (w : World) : Calls Try.prog 13 #[.pointer none, .int .i64 i, .int .u8 n] w fun e w' => e = .returned (.bool false) ∧ w' = w := by
  go_enter Try.func13, Try.ntmps13
  go_wp2_with (go_at_call 19; refine (state_nil _ _ _).mono ?_; rintro e w' ⟨rfl, rfl⟩)
  go_ret
  exact ⟨rfl, rfl⟩
theorem onL_none (k : Nat) : onL (fun _ => false) k = [] := by simp [onL]
set_option maxHeartbeats 4000000 in
theorem nil_walk (verb o side : Int) (w : World) (h0 : (Lit.int .u8 verb).wf = true) (h1 : (Lit.int .u8 o).wf = true) (h2 : (Lit.int .i64 side).wf = true) :
    Calls Try.prog 6 #[.int .u8 verb, .int .u8 o, .int .i64 side] w fun e w' => e = .returned (.bool true) ∧ Below w.heap.size w w' := by
  clear h0 h1 h2
  have C : ∀ W : World, Calls Try.prog 20 #[.func (.func 37) #[] #[.pointer (some ⟨W.heap.size, 0, none⟩), .pointer (some ⟨W.heap.size + 1, 0, none⟩)]] ((W.alloc (.cells #[.pointer none] 26)).alloc (.cells #[.int .i64 side] 3)) fun e W' => ∃ A c, e = .returned (.slice A 0 c) ∧ Below W.heap.size W W' := fun W =>
    (collect_agreed none side (fun _ => false) W (fun W' _ o _ => (on_nil _ _ W').mono fun e w' ⟨he, hw⟩ => ⟨he, 0, hw⟩)).mono fun e W' ⟨v, he, hR, hb⟩ => by
      rw [onL_none] at hR
      obtain ⟨A, c, rfl⟩ := Kd.R_slice hR
      exact ⟨A, c, he, hb⟩
  have HC := Aside0.mk C
  clear C
  go_enter Try.func6, Try.ntmps6
  go_wp2_with fail
  refine (awake_of _).mono ?_
  rintro e w1 ⟨rfl, hb⟩
  have B1 := Aside0.mk hb
  clear hb
  go_wp2_with (first
    | (go_at_call 11; refine (hear_nil _ _ _).mono ?_; rintro e w' ⟨rfl, rfl⟩)
    | (go_at_call 14; refine (ask_nil _ _ _ _).mono ?_; rintro e w' ⟨rfl, rfl⟩)
    | (go_at_call 19; refine (state_nil _ _ _).mono ?_; rintro e w' ⟨rfl, rfl⟩)
    | (go_at_call 13; refine (on_nil _ _ _).mono ?_; rintro e w' ⟨rfl, rfl⟩)
    | (go_at_call 18; refine (quiet_nil _).mono ?_; rintro e w' ⟨rfl, rfl⟩)
    | (go_at_call 21; refine (agreed_of _ _ _).mono ?_; rintro e w' ⟨rfl, rfl⟩)
    | (go_at_call 20; refine (HC.out _).mono ?_; rintro e w' ⟨A, c, rfl, hb⟩))
  go_ret
  exact ⟨rfl, below_step B1.out hb⟩
end Go.Proofs.Ytaabojppahcejaa.Op
