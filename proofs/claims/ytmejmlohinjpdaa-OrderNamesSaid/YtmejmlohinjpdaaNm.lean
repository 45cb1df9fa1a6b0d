/- order: OrderNames, the walk. -/
import Derived.Test.YtmejmlohinjpdaaSj
import Derived.Test.YtmejmlohinjpdaaPOrx5
namespace Go.Proofs.Ytmejmlohinjpdaa.Sc
open Go.RowKit Go.Proofs.YtmejmlohinjpdaaW.PrintWords Go.Proofs.YtmejmlohinjpdaaW.PrintLast Go.Proofs.YtmejmlohinjpdaaW.PrintMore Go.Proofs.Ytmejmlohinjpdaa.POr
set_option linter.unusedVariables false
set_option linter.unusedSimpArgs false
theorem name_l0 (a : Int) (l3 : List ByteArray) (l : List Int) (hl : l.length ≤ 100) (hn : ∀ x ∈ l, x ≠ a) : ∀ (d k i : Nat), l.length - i ≤ d → i ≤ l.length → d < k → vitrineref16_Name.l0 k a l3 l (l.length : Int) (i : Int) = some ⟨#[]⟩ := by
  intro d
  induction d with
  | zero =>
    intro k i h1 h2 h3
    obtain ⟨k, rfl⟩ : ∃ m, k = m + 1 := ⟨k - 1, by omega⟩
    simp only [vitrineref16_Name.l0]
    rw [if_neg (by omega)]
  | succ d ih =>
    intro k i h1 h2 h3
    obtain ⟨k, rfl⟩ : ∃ m, k = m + 1 := ⟨k - 1, by omega⟩
    simp only [vitrineref16_Name.l0]
    by_cases c : i < l.length
    · have e : rd l (i : Int) = l[i] := rd_get l i c
      rw [if_pos (by omega), if_pos (by omega), if_pos (by omega), e, if_neg (hn _ (List.getElem_mem c)), wrap_in _ (by omega) (by omega)]
      exact ih k (i + 1) (by omega) (by omega) (by omega)
    · rw [if_neg (by omega)]
theorem name_same (a : Int) : ∃ s k, order_Name.f a = some s ∧ vitrineref16_Name.f k a = some s := by
  by_cases c0 : a = 0
  · subst c0; exact ⟨_, 12, rfl, by decide +kernel⟩
  by_cases c1 : a = 5
  · subst c1; exact ⟨_, 12, rfl, by decide +kernel⟩
  by_cases c2 : a = 8
  · subst c2; exact ⟨_, 12, rfl, by decide +kernel⟩
  by_cases c3 : a = 17
  · subst c3; exact ⟨_, 12, rfl, by decide +kernel⟩
  by_cases c4 : a = 18
  · subst c4; exact ⟨_, 12, rfl, by decide +kernel⟩
  by_cases c5 : a = 19
  · subst c5; exact ⟨_, 12, rfl, by decide +kernel⟩
  by_cases c6 : a = 29
  · subst c6; exact ⟨_, 12, rfl, by decide +kernel⟩
  by_cases c7 : a = 40
  · subst c7; exact ⟨_, 12, rfl, by decide +kernel⟩
  by_cases c8 : a = 41
  · subst c8; exact ⟨_, 12, rfl, by decide +kernel⟩
  by_cases c9 : a = 44
  · subst c9; exact ⟨_, 12, rfl, by decide +kernel⟩
  by_cases ca : a = 60
  · subst ca; exact ⟨_, 12, rfl, by decide +kernel⟩
  refine ⟨⟨#[]⟩, 13, ?_, ?_⟩
  · unfold order_Name.f
    rw [if_neg c0, if_neg c1, if_neg c2, if_neg c3, if_neg c4, if_neg c5, if_neg c6, if_neg c7, if_neg c8, if_neg c9, if_neg ca]
  · unfold vitrineref16_Name.f
    rw [Option.bind_some]
    refine name_l0 a _ _ (by decide) (fun x hx => ?_) 11 13 0 (by decide) (by decide) (by decide)
    simp at hx
    omega
theorem is_same (b : Int) (h0 : 0 ≤ b) (h1 : b ≤ 255) : vitrineref16_Is.f 13 b = some (isO b) := by
  have key : ∀ n : Nat, n < 256 → vitrineref16_Is.f 13 (n : Int) = some (isO (n : Int)) := by decide +kernel
  have := key b.toNat (by omega)
  rwa [show ((b.toNat : Nat) : Int) = b by omega] at this
theorem byte_of {x : Int} (h : (Lit.int .u8 x).wf = true) : 0 ≤ x ∧ x ≤ 255 := by
  simp only [Lit.wf, IntKind.min, IntKind.max, IntKind.signed, IntKind.bits, Bool.and_eq_true, decide_eq_true_eq] at h
  simp at h
  omega
set_option maxHeartbeats 4000000 in
theorem names_walk (a b : Int) (w : World) (ha : (Lit.int .i64 a).wf = true) (hb : (Lit.int .u8 b).wf = true) :
    Calls Try.prog 3 #[.int .i64 a, .int .u8 b] w fun e w' => e = .returned (.bool true) ∧ Below w.heap.size w w' := by
  obtain ⟨s, k, h1, h2⟩ := name_same a
  have hbb := byte_of hb
  have N1 := fun W => order_Name.calls a s W h1
  have N2 := fun W => vitrineref16_Name.calls k a s W h2
  have I1 := fun W => is_of b hbb.1 hbb.2 W
  have I2 := fun W => vitrineref16_Is.calls 13 b (isO b) W (is_same b hbb.1 hbb.2)
  have hN1 := Aside0.mk N1
  have hN2 := Aside0.mk N2
  have hI1 := Aside0.mk I1
  have hI2 := Aside0.mk I2
  clear N1 N2 I1 I2 h1 h2 ha hb hbb
  generalize isO b = bb at *
  go_enter Try.func3, Try.ntmps3
  go_wp2_with fail
  refine (awake_of _).mono ?_
  rintro e w1 ⟨rfl, hb⟩
  have B1 := Aside0.mk hb
  clear hb
  go_wp2_with fail
  refine (hN1.out _).mono ?_
  rintro e w2 ⟨rfl, hd⟩
  have B2 := Aside0.mk (below_step B1.out hd.below)
  clear hd
  go_wp2_with fail
  refine (hN2.out _).mono ?_
  rintro e w3 ⟨rfl, hb⟩
  have B3 := Aside0.mk (below_step B2.out hb)
  clear hb
  have hs : (s.toList == s.toList) = true := by simp
  go_wp2_with fail
  refine (hI1.out _).mono ?_
  rintro e w4 ⟨rfl, m, rfl⟩
  go_wp2_with fail
  refine (hI2.out _).mono ?_
  rintro e w5 ⟨rfl, hb⟩
  have B5 := Aside0.mk (below_step (pw_below_drewN B3.out m) hb)
  clear hb
  go_wp2
  go_ret
  exact ⟨by simp, B5.out⟩
end Go.Proofs.Ytmejmlohinjpdaa.Sc
