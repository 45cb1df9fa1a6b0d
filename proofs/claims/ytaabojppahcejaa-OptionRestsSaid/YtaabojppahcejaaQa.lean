/- option: a queue of messages: another's words behind it, one or none. -/
import Derived.Test.YtaabojppahcejaaMf
import Derived.Laws.OwnMore
import Derived.WalkKit
namespace Go.Proofs.Ytaabojppahcejaa.Op
open Go Go.RowKit Go.Proofs.YtaabojppahcejaaW.PrintWords
set_option linter.unusedVariables false
theorem append_zero {P : Program} {w : World} (t ty e : TypeId) (i : TypeInfo) (ht : P.underlying t = some (.slice e)) (hi : P.info? e = some i) (B A : Option Addr) (n cap c : Nat) (h : n ≤ cap) :
    (Builtin.append_ #[t, t] ty #[.slice B n cap, .slice A 0 c]).run P w = .ok (.slice B n cap) w := by
  cases B <;> cases A <;> simp [Builtin.append_, run_underlying ht, sizeOf, typeInfo, hi, Builtin.lenOf, Builtin.firstCells, h, storeCells, loadCells, loadCellsFrom]
/-- Words behind a queue: none, or one. -/
theorem Q_app {w : World} {base base' : Nat} {ok ok' : Nat → Prop} {v u : Value} {xs L : List (Int × Int)} (h : Kd.Q kM 37 w base ok v xs) (hu : Kd.R kM 37 w base' ok' u L) (hL : L = [] ∨ ∃ p, L = [p]) (hl : xs.length ≤ 100000) (hb : base ≤ w.heap.size) :
    ∃ v' w', (Builtin.append_ #[30, 30] 30 #[v, u]).run Try.prog w = .ok v' w' ∧ Kd.Q kM 37 w' base (fun _ => True) v' (xs ++ L) ∧ w.grownBy w' v.ownBlock ∧ (v'.ownBlock = v.ownBlock ∨ ∃ b, v'.ownBlock = some b ∧ w.heap.size ≤ b) := by
  obtain ⟨i0, hi, hzz⟩ := Option.map_eq_some_iff.1 (show (Try.prog.info? 37).map (fun i => (i.zero, i.size, i.bytes)) = some (some (.agg #[.int .u8 0, .int .u8 0]), 2, 2) from by kernel_rfl)
  simp only [Prod.mk.injEq] at hzz
  obtain ⟨hz0, hz1, hz2⟩ := hzz
  rcases hL with rfl | ⟨⟨x, y⟩, rfl⟩
  · obtain ⟨A, c, rfl⟩ := row_zero hu
    obtain ⟨B, cap, rfl, hc⟩ := Kd.Q_slice h
    exact ⟨_, _, append_zero 30 30 37 _ Try.underlying30 hi B A _ cap c hc, by rw [List.append_nil]; exact Kd.Q_mono h (fun _ _ => trivial), World.grownBy.refl _ _, .inl rfl⟩
  · obtain ⟨g, c, rfl, h0, h1, _⟩ := row_one hu
    obtain ⟨h0', inner, hq, hr⟩ := Kd.Q_mono (ok' := fun _ => True) h (fun _ _ => trivial)
    obtain ⟨v', w', hrun, hq', hg, hat⟩ := q_append (P := Try.prog) w base 30 30 37 i0 _ 2 2 Try.underlying30 hi hz0 hz1 hz2 rfl (by decide) v xs.length inner hq ⟨g, 0, none⟩ 1 c [.int .u8 x, .int .u8 y] rfl
      (by intro j z hj; match j, hj with
          | 0, hj => simp at hj; subst hj; exact h0
          | 1, hj => simp at hj; subst hj; exact h1
          | j + 2, hj => simp at hj)
      (by intro z hz; simp at hz; rcases hz with rfl | rfl <;> rfl) (by decide) (by simp only [maxLen]; omega) (by omega) hb
    exact ⟨v', w', hrun, Kd.Q_appended h0' hr (p := (x, y)) (cs := [.int .u8 x, .int .u8 y]) (okp := fun k => False) (show Kd.M kM _ _ _ (x, y) [.int .u8 x, .int .u8 y] from ⟨[.int .u8 x], [.int .u8 y], rfl, rfl, rfl⟩) (fun _ hk => hk.elim) (fun _ _ => trivial) hq' hg hat, hg, hat⟩
end Go.Proofs.Ytaabojppahcejaa.Op
