/- AttrMakes: the law's plain function answers true. -/
import Derived.Test.YtfdhchgemplnoaaPMkx9
import Derived.Test.YtfdhchgemplnoaaMkP
import Derived.Test.YtfdhchgemplnoaaByte
namespace Go.Proofs.Ytfdhchgemplnoaa.MkPlain
open Go.RowKit Go.Proofs.Ytfdhchgemplnoaa.PMk Go.Proofs.YtfdhchgemplnoaaW.PrintWords Go.Proofs.YtfdhchgemplnoaaW.PrintLast
set_option linter.unusedSimpArgs false
set_option linter.unusedVariables false

theorem app_ok (t v c0 : Int) (c1 : Bool) (c2 c3 c4 c5 : Int) : ((app t v c0 c1 c2 c3 c4 c5).2.2.2.2.2.2 = 0) ↔ good t v = true := by
  unfold app
  by_cases hg : good t v = true
  · simp only [hg, if_true, iff_true]; repeat' split
    all_goals rfl
  · simp [hg]

theorem l1_is (l : List S40) (hl : l.length ≤ 100000) (b0 : Int) (b1 : Bool) (b2 b3 b4 b5 : Int) (w0 : Int) (w1 : Bool) (w2 w3 w4 w5 : Int) (d : Nat) :
    ∀ (k j : Nat) (c0 : Int) (c1 : Bool) (c2 c3 c4 c5 : Int), j + d = l.length → d < k → (∀ c', run (l.drop j) (c0, c1, c2, c3, c4, c5) = some c' → c'.2.2.2.1 = b3 ∧ c'.2.2.2.2.1 = b4 ∧ c'.2.2.2.2.2 = b5) →
    vitrinelaw05_AttrMakes.l1 k l (l.length : Int) (j : Int) b0 b1 b2 b3 b4 b5 w0 w1 w2 w3 w4 w5 w0 w1 w2 w3 w4 w5 c0 c1 c2 c3 c4 c5 = some true := by
  induction d with
  | zero =>
    intro k j c0 c1 c2 c3 c4 c5 hj hk h
    obtain ⟨k, rfl⟩ : ∃ m, k = m + 1 := ⟨k - 1, by omega⟩
    rw [List.drop_eq_nil_of_le (by omega)] at h
    obtain ⟨rfl, rfl, rfl⟩ := h _ rfl
    simp only [vitrinelaw05_AttrMakes.l1]
    rw [if_neg (by omega)]
    simp
  | succ d ih =>
    intro k j c0 c1 c2 c3 c4 c5 hj hk h
    obtain ⟨k, rfl⟩ : ∃ m, k = m + 1 := ⟨k - 1, by omega⟩
    rw [List.drop_eq_getElem_cons (by omega)] at h
    simp only [vitrinelaw05_AttrMakes.l1]
    rw [if_pos (by omega), if_pos (by omega), if_pos (by omega), rd40_get l j (by omega), apply_is, Option.bind_some]
    by_cases hg : good l[j].f0 l[j].f1 = true
    · rw [if_pos ((app_ok _ _ _ _ _ _ _ _).2 hg), wrap_in _ (by omega) (by omega), show (j : Int) + 1 = ((j + 1 : Nat) : Int) from by omega]
      refine ih k (j + 1) _ _ _ _ _ _ (by omega) (by omega) ?_
      intro c' hc
      refine h c' ?_
      simp only [run, stp, if_pos hg, Option.bind_some]
      exact hc
    · rw [if_neg (fun e => hg ((app_ok _ _ _ _ _ _ _ _).1 e))]
      simp

theorem j2_is (a0 : Int) (a1 : Bool) (a2 a3 a4 a5 b0 : Int) (b1 : Bool) (b2 b3 b4 b5 : Int) (w0 : Int) (w1 : Bool) (w2 w3 w4 w5 : Int) (k : Nat) (hk : 10 ≤ k) :
    vitrinelaw05_AttrMakes.j2 k a0 a1 a2 a3 a4 a5 b0 b1 b2 b3 b4 b5 w0 w1 w2 w3 w4 w5 w0 w1 w2 w3 w4 w5 = some true := by
  obtain ⟨k, rfl⟩ : ∃ m, k = m + 1 := ⟨k - 1, by omega⟩
  have hl := dpart_len a3 a4 a5 b3 b4 b5 3
  simp only [vitrinelaw05_AttrMakes.j2]
  unfold attr_Diff.f
  rw [Option.bind_some]
  refine l1_is _ (by omega) _ _ _ _ _ _ _ _ _ _ _ _ (dpart a3 a4 a5 b3 b4 b5 3).length k 0 _ _ _ _ _ _ (by omega) (by omega) ?_
  intro c' hc
  rw [List.drop_zero] at hc
  have := run_dpart a3 a4 a5 b3 b4 b5 a0 a1 a2 c' hc
  subst this
  exact ⟨rfl, rfl, rfl⟩

theorem l0_is (l : List S40) (hl : l.length ≤ 100000) (a0 : Int) (a1 : Bool) (a2 a3 a4 a5 b0 : Int) (b1 : Bool) (b2 b3 b4 b5 : Int) (h20 : 0 ≤ a2) (h21 : a2 ≤ 255) (d : Nat) :
    ∀ (k j : Nat) (c0 : Int) (c1 : Bool) (c2 c3 c4 c5 : Int), j + d = l.length → d + 30 ≤ k → (∀ c', run (l.drop j) (c0, c1, c2, c3, c4, c5) = some c' → c' = (a0, a1, if a1 = true then Go.bits .and .u8 a2 61 else 0, a3, a4, a5)) →
    vitrinelaw05_AttrMakes.l0 k l (l.length : Int) (j : Int) a0 a1 a2 a3 a4 a5 b0 b1 b2 b3 b4 b5 c0 c1 c2 c3 c4 c5 = some true := by
  induction d with
  | zero =>
    intro k j c0 c1 c2 c3 c4 c5 hj hk h
    obtain ⟨k, rfl⟩ : ∃ m, k = m + 1 := ⟨k - 1, by omega⟩
    rw [List.drop_eq_nil_of_le (by omega)] at h
    have := h _ rfl
    simp only [Prod.mk.injEq] at this
    obtain ⟨rfl, rfl, rfl, rfl, rfl, rfl⟩ := this
    simp only [vitrinelaw05_AttrMakes.l0]
    rw [if_neg (by omega)]
    cases c1
    · rw [if_neg (by simp), if_neg (by simp)]
      exact j2_is _ _ _ _ _ _ _ _ _ _ _ _ _ _ _ _ _ _ k (by omega)
    · rw [if_pos rfl, if_pos rfl, six_is a2 h20 h21 k (by omega), Option.bind_some]
      exact j2_is _ _ _ _ _ _ _ _ _ _ _ _ _ _ _ _ _ _ k (by omega)
  | succ d ih =>
    intro k j c0 c1 c2 c3 c4 c5 hj hk h
    obtain ⟨k, rfl⟩ : ∃ m, k = m + 1 := ⟨k - 1, by omega⟩
    rw [List.drop_eq_getElem_cons (by omega)] at h
    simp only [vitrinelaw05_AttrMakes.l0]
    rw [if_pos (by omega), if_pos (by omega), if_pos (by omega), rd40_get l j (by omega), apply_is, Option.bind_some]
    by_cases hg : good l[j].f0 l[j].f1 = true
    · rw [if_pos ((app_ok _ _ _ _ _ _ _ _).2 hg), wrap_in _ (by omega) (by omega), show (j : Int) + 1 = ((j + 1 : Nat) : Int) from by omega]
      refine ih k (j + 1) _ _ _ _ _ _ (by omega) (by omega) ?_
      intro c' hc
      refine h c' ?_
      simp only [run, stp, if_pos hg, Option.bind_some]
      exact hc
    · rw [if_neg (fun e => hg ((app_ok _ _ _ _ _ _ _ _).1 e))]

theorem makes (a0 : Int) (a1 : Bool) (a2 a3 a4 a5 b0 : Int) (b1 : Bool) (b2 b3 b4 b5 : Int) (h20 : 0 ≤ a2) (h21 : a2 ≤ 255) (k : Nat) (hk : 1000 ≤ k) :
    vitrinelaw05_AttrMakes.f k a0 a1 a2 a3 a4 a5 b0 b1 b2 b3 b4 b5 = some true := by
  obtain ⟨s, hb, hp, hr⟩ := pairs_both a0 a1 a2 a3 a4 a5 h20 h21
  have hl := dpart_len 0 0 0 a3 a4 a5 3
  have hl2 := dpart_len a3 a4 a5 b3 b4 b5 3
  have hrun : ∀ c', run ((pre a1 s ++ dpart 0 0 0 a3 a4 a5 3).drop 0) (a0, a1, 0, 0, 0, 0) = some c' → c' = (a0, a1, if a1 = true then Go.bits .and .u8 a2 61 else 0, a3, a4, a5) := by
    intro c' hc
    rw [List.drop_zero, run_append, run_pre a0 a1 a2 s hb, Option.bind_some] at hc
    exact run_dpart 0 0 0 a3 a4 a5 _ _ _ c' hc
  have hpl : (pre a1 s ++ dpart 0 0 0 a3 a4 a5 3).length ≤ 10 := by
    rw [List.length_append]; unfold pre; split
    · simp only [List.length_cons, List.length_nil]; omega
    · simp only [List.length_nil]; omega
  generalize hL : pre a1 s ++ dpart 0 0 0 a3 a4 a5 3 = L at *
  have hdd : attr_Diff.f a0 a1 a2 a3 a4 a5 b0 b1 b2 b3 b4 b5 = some (dpart a3 a4 a5 b3 b4 b5 3) := rfl
  unfold vitrinelaw05_AttrMakes.f
  rw [awake_is k (by omega), Option.bind_some, if_pos rfl, hp, Option.bind_some, back_is L (by omega) k (by omega), Option.bind_some, hr k (by omega), Option.bind_some,
    pair_same _ (by rw [List.length_map]; omega) k (by rw [List.length_map]; omega), Option.bind_some, if_pos rfl, hdd, Option.bind_some, back_is _ (by omega) k (by omega), Option.bind_some,
    refdiff_is k _ _ _ _ _ _ _ _ _ _ _ _ (by omega), Option.bind_some, pair_same _ (by rw [List.length_map]; omega) k (by rw [List.length_map]; omega), Option.bind_some]
  obtain ⟨k, rfl⟩ : ∃ m, k = m + 1 := ⟨k - 1, by omega⟩
  simp only [vitrinelaw05_AttrMakes.j0]
  rw [if_neg (by simp)]
  exact l0_is L (by omega) _ _ _ _ _ _ _ _ _ _ _ _ h20 h21 L.length k 0 _ _ _ _ _ _ (by omega) (by omega) hrun

theorem walk (a0 : Int) (a1 : Bool) (a2 a3 a4 a5 b0 : Int) (b1 : Bool) (b2 b3 b4 b5 : Int) (W : World) (g0 : (Lit.int .u8 a0).wf = true) (g2 : (Lit.int .u8 a2).wf = true) (g3 : (Lit.int .u8 a3).wf = true) (g4 : (Lit.int .u8 a4).wf = true) (g5 : (Lit.int .u8 a5).wf = true)
    (h0 : (Lit.int .u8 b0).wf = true) (h2 : (Lit.int .u8 b2).wf = true) (h3 : (Lit.int .u8 b3).wf = true) (h4 : (Lit.int .u8 b4).wf = true) (h5 : (Lit.int .u8 b5).wf = true) :
    Calls Try.prog 7 #[.agg #[.int .u8 a0, .bool a1, .int .u8 a2, .int .u8 a3, .int .u8 a4, .int .u8 a5], .agg #[.int .u8 b0, .bool b1, .int .u8 b2, .int .u8 b3, .int .u8 b4, .int .u8 b5]] W fun e W' => e = .returned (.bool true) ∧ Below W.heap.size W W' :=
  vitrinelaw05_AttrMakes.calls 1000 a0 a1 a2 a3 a4 a5 b0 b1 b2 b3 b4 b5 true W (makes a0 a1 a2 a3 a4 a5 b0 b1 b2 b3 b4 b5 (Pure.byte_of a2 g2).1 (Pure.byte_of a2 g2).2 1000 (Nat.le_refl _))
end Go.Proofs.Ytfdhchgemplnoaa.MkPlain
