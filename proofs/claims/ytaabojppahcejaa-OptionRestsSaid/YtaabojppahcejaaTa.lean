/- option: a talk of two machines: its block, its machines, its queues. -/
import Derived.Test.YtaabojppahcejaaQa
import Derived.Test.YtaabojppahcejaaMg
import Derived.Test.YtaabojppahcejaaRq
namespace Go.Proofs.Ytaabojppahcejaa.Op
open Go Go.RowKit Go.Proofs.YtaabojppahcejaaW.PrintWords
set_option linter.unusedVariables false
theorem kM_E : kM.E = [] := rfl
/-- Two queues of their own, each beside the other. -/
structure Ways (w : World) (base : Nat) (v0 v1 : Value) (W0 W1 : List (Int × Int)) : Prop where
  q0 : Kd.Q kM 37 w base (fun _ => True) v0 W0
  q1 : Kd.Q kM 37 w base (fun _ => True) v1 W1
  ne : ∀ k, v0.ownBlock = some k → some k ≠ v1.ownBlock
theorem Ways.swap {w : World} {base : Nat} {v0 v1 : Value} {W0 W1 : List (Int × Int)} (h : Ways w base v0 v1 W0 W1) : Ways w base v1 v0 W1 W0 :=
  ⟨h.q1, h.q0, fun k hk he => h.ne k he.symm hk.symm⟩
theorem Ways.below {w w1 : World} {base : Nat} {v0 v1 : Value} {W0 W1 : List (Int × Int)} (h : Ways w base v0 v1 W0 W1) (hb : Below w.heap.size w w1) : Ways w1 base v0 v1 W0 W1 :=
  ⟨Kd.Q_below h.q0 hb, Kd.Q_below h.q1 hb, h.ne⟩
theorem Ways.set {w : World} {base : Nat} {v0 v1 : Value} {W0 W1 : List (Int × Int)} (h : Ways w base v0 v1 W0 W1) {g t : Nat} {cells : Array Value} (hb : w.heap[g]? = some (.cells cells t (0, 0))) (ht : 37 ≠ t) (j : Nat) (u : Value) : Ways (w.setCell ⟨g, j, none⟩ u) base v0 v1 W0 W1 :=
  ⟨Kd.Q_set h.q0 hb (by intro q hq; rw [kM_E] at hq; simp at hq; subst hq; exact ht) j u, Kd.Q_set h.q1 hb (by intro q hq; rw [kM_E] at hq; simp at hq; subst hq; exact ht) j u, h.ne⟩
/-- Another's words behind the second queue. -/
theorem Ways.app {w : World} {base base' : Nat} {ok' : Nat → Prop} {v0 v1 u : Value} {W0 W1 L : List (Int × Int)} (h : Ways w base v0 v1 W0 W1) (hu : Kd.R kM 37 w base' ok' u L) (hL : L = [] ∨ ∃ p, L = [p]) (hl : W1.length ≤ 100000) (hb : base ≤ w.heap.size) :
    ∃ v' w', (Builtin.append_ #[30, 30] 30 #[v1, u]).run Try.prog w = .ok v' w' ∧ Ways w' base v0 v' W0 (W1 ++ L) ∧ w.grownBy w' v1.ownBlock := by
  obtain ⟨v', w', hr, hq, hg, hat⟩ := Q_app h.q1 hu hL hl hb
  refine ⟨v', w', hr, ⟨Kd.Q_grown2 h.q0 kM_E hg (fun k hk => ?_), hq, fun k hk he => ?_⟩, hg⟩
  · intro he
    exact h.ne k he.symm hk.symm
  · rcases hat with hat | ⟨b, hbb, hle⟩
    · rw [hat] at he
      exact h.ne k hk he
    · have := Kd.Q_lt h.q0 k hk
      rw [hbb] at he
      injection he with he
      omega
end Go.Proofs.Ytaabojppahcejaa.Op
