-- Written by a program of this session (a changed copy of the kit's print program): not the kit's print.
import Derived.Test.YtmejmlohinjpdaaPOrx0
namespace Go.Proofs.Ytmejmlohinjpdaa.POr
open Go.RowKit Go.Proofs.YtmejmlohinjpdaaW.PrintWords Go.Proofs.YtmejmlohinjpdaaW.PrintLast Go.Proofs.YtmejmlohinjpdaaW.PrintMore
attribute [local go_sem] max2_int min2_int max_two min_two max_three min_three max_four min_four   -- for this text's walks alone
set_option linter.unusedVariables false
set_option linter.unusedSimpArgs false

/-! ### vitrineref16_Name: function 7 -/
def vitrineref16_Name.l0 : Nat → Int → List ByteArray → List Int → Int → Int → Option (ByteArray)
  | 0, _, _, _, _, _ => none
  | k + 1, x0, x3, x7, x8, x9 => if x9 < x8 then (if 0 ≤ x9 then (if x9 < (x7.length : Int) then (if (rd x7 x9) = x0 then (if x9 < (x3.length : Int) then (some (rdOf ByteArray.empty x3 x9)) else (none)) else (vitrineref16_Name.l0 k x0 x3 x7 x8 (wrap64 (x9 + 1)))) else (none)) else (none)) else (some (⟨#[]⟩ : ByteArray))
def vitrineref16_Name.f (k : Nat) (a0 : Int) : Option (ByteArray) := (some (([0, 5, 8, 17, 18, 19, 29, 40, 41, 44, 60] : List Int) : List Int)).bind fun y143 => (vitrineref16_Name.l0 k a0 (([(⟨#[84, 101, 120, 116]⟩ : ByteArray), (⟨#[80, 84]⟩ : ByteArray), (⟨#[71, 69]⟩ : ByteArray), (⟨#[83, 66, 65]⟩ : ByteArray), (⟨#[69, 85, 65]⟩ : ByteArray), (⟨#[73, 67]⟩ : ByteArray), (⟨#[83, 70]⟩ : ByteArray), (⟨#[83, 65]⟩ : ByteArray), (⟨#[83, 70, 69]⟩ : ByteArray), (⟨#[77, 70]⟩ : ByteArray), (⟨#[82, 65]⟩ : ByteArray)] : List ByteArray)) y143 (y143.length : Int) 0)
theorem vitrineref16_Name.mono_l : ∀ k, (∀ y0 y1 y2 y3 y4, LeO (vitrineref16_Name.l0 k y0 y1 y2 y3 y4) (vitrineref16_Name.l0 (k + 1) y0 y1 y2 y3 y4))
  | 0 => fun _ _ _ _ _ r h => by simp [vitrineref16_Name.l0] at h
  | k + 1 => by
    have ih0 := vitrineref16_Name.mono_l k
    · intro y0 y1 y2 y3 y4
      unfold vitrineref16_Name.l0
      repeat' first
      | (with_reducible exact ih0 _ _ _ _ _)
      | (with_reducible exact LeO.refl _)
      | (with_reducible exact LeO.none _)
      | (with_reducible refine LeO.ite ?_ ?_)
      | (with_reducible refine LeO.bind ?_ (fun _ => ?_))
      | exact ih0 _ _ _ _ _
      | exact LeO.none _
      | refine LeO.ite ?_ ?_
      | refine LeO.bind ?_ (fun _ => ?_)
theorem vitrineref16_Name.mono : ∀ a0 k, LeO (vitrineref16_Name.f k a0) (vitrineref16_Name.f (k + 1) a0) := by
  intro a0 k
  have ih0 := vitrineref16_Name.mono_l k
  unfold vitrineref16_Name.f
  repeat' first
      | (with_reducible exact ih0 _ _ _ _ _)
      | (with_reducible exact LeO.refl _)
      | (with_reducible exact LeO.none _)
      | (with_reducible refine LeO.ite ?_ ?_)
      | (with_reducible refine LeO.bind ?_ (fun _ => ?_))
      | exact ih0 _ _ _ _ _
      | exact LeO.none _
      | refine LeO.ite ?_ ?_
      | refine LeO.bind ?_ (fun _ => ?_)
set_option maxHeartbeats 8000000 in
set_option maxRecDepth 100000 in
theorem vitrineref16_Name.calls (k : Nat) (a0 : Int) (r : ByteArray) (w : World) (h : vitrineref16_Name.f k a0 = some r) :
    Calls Try.prog 7 #[.int .i64 a0] w fun e w' => e = .returned (.string r) ∧ Below w.heap.size w w' := by
  have HB := Aside0.mk (Below.refl w.heap.size w)
  have H : ((some (([0, 5, 8, 17, 18, 19, 29, 40, 41, 44, 60] : List Int) : List Int)).bind fun y143 => (vitrineref16_Name.l0 k a0 (([(⟨#[84, 101, 120, 116]⟩ : ByteArray), (⟨#[80, 84]⟩ : ByteArray), (⟨#[71, 69]⟩ : ByteArray), (⟨#[83, 66, 65]⟩ : ByteArray), (⟨#[69, 85, 65]⟩ : ByteArray), (⟨#[73, 67]⟩ : ByteArray), (⟨#[83, 70]⟩ : ByteArray), (⟨#[83, 65]⟩ : ByteArray), (⟨#[83, 70, 69]⟩ : ByteArray), (⟨#[77, 70]⟩ : ByteArray), (⟨#[82, 65]⟩ : ByteArray)] : List ByteArray)) y143 (y143.length : Int) 0)) = some r := h
  clear h
  obtain ⟨y140, hy140⟩ : ∃ y_ : List ByteArray, y_ = (([(⟨#[84, 101, 120, 116]⟩ : ByteArray), (⟨#[80, 84]⟩ : ByteArray), (⟨#[71, 69]⟩ : ByteArray), (⟨#[83, 66, 65]⟩ : ByteArray), (⟨#[69, 85, 65]⟩ : ByteArray), (⟨#[73, 67]⟩ : ByteArray), (⟨#[83, 70]⟩ : ByteArray), (⟨#[83, 65]⟩ : ByteArray), (⟨#[83, 70, 69]⟩ : ByteArray), (⟨#[77, 70]⟩ : ByteArray), (⟨#[82, 65]⟩ : ByteArray)] : List ByteArray)) := ⟨_, rfl⟩
  replace H : ((some (([0, 5, 8, 17, 18, 19, 29, 40, 41, 44, 60] : List Int) : List Int)).bind fun y143 => (vitrineref16_Name.l0 k a0 y140 y143 (y143.length : Int) 0)) = some r := by first | (rw [hy140]; with_reducible exact H) | (have H2_ := (Option.bind_some _ _).symm.trans H; rw [hy140]; with_reducible exact H2_) | (have H2_ := (Option.bind_some _ _).symm.trans H; with_reducible exact H2_) | with_reducible exact H | (rw [hy140]; exact H) | exact H
  have Ny140 := Aside0.mk hy140
  clear hy140
  obtain ⟨y143, hy143⟩ : ∃ y_ : List Int, y_ = (([0, 5, 8, 17, 18, 19, 29, 40, 41, 44, 60] : List Int)) := ⟨_, rfl⟩
  replace H : (vitrineref16_Name.l0 k a0 y140 y143 (y143.length : Int) 0) = some r := by first | (rw [hy143]; with_reducible exact H) | (have H2_ := (Option.bind_some _ _).symm.trans H; rw [hy143]; with_reducible exact H2_) | (have H2_ := (Option.bind_some _ _).symm.trans H; with_reducible exact H2_) | with_reducible exact H | (rw [hy143]; exact H) | exact H
  have Ny143 := Aside0.mk hy143
  clear hy143
  have H' := Aside0.mk H
  clear H
  go_enter Try.func7, Try.ntmps7
  go_wp2_with (first | ((with_reducible refine gate_dst (N := 6) rfl ?_); refine Kd.R_lit Kd.string _ 9 ?hg (N := 6) ?hd (xs := ([(⟨#[84, 101, 120, 116]⟩ : ByteArray), (⟨#[80, 84]⟩ : ByteArray), (⟨#[71, 69]⟩ : ByteArray), (⟨#[83, 66, 65]⟩ : ByteArray), (⟨#[69, 85, 65]⟩ : ByteArray), (⟨#[73, 67]⟩ : ByteArray), (⟨#[83, 70]⟩ : ByteArray), (⟨#[83, 65]⟩ : ByteArray), (⟨#[83, 70, 69]⟩ : ByteArray), (⟨#[77, 70]⟩ : ByteArray), (⟨#[82, 65]⟩ : ByteArray)] : List ByteArray)) (inner := [.string (⟨#[84, 101, 120, 116]⟩ : ByteArray), .string (⟨#[80, 84]⟩ : ByteArray), .string (⟨#[71, 69]⟩ : ByteArray), .string (⟨#[83, 66, 65]⟩ : ByteArray), .string (⟨#[69, 85, 65]⟩ : ByteArray), .string (⟨#[73, 67]⟩ : ByteArray), .string (⟨#[83, 70]⟩ : ByteArray), .string (⟨#[83, 65]⟩ : ByteArray), .string (⟨#[83, 70, 69]⟩ : ByteArray), .string (⟨#[77, 70]⟩ : ByteArray), .string (⟨#[82, 65]⟩ : ByteArray)]) (ok := fun _ => True) (okp := fun _ => True) ?hr ?hp (fun _ hk => hk) trivial (Below.refl _ _) (Nat.le_refl _) (by simp) ?_; (case hd => rfl); (case hg => rfl); (case hr => first | (go_simp; done) | (go_simp; rfl)); (case hp => exact (Reps.one (show Kd.M Kd.string _ _ _ (⟨#[84, 101, 120, 116]⟩ : ByteArray) [.string (⟨#[84, 101, 120, 116]⟩ : ByteArray)] from rfl) (Reps.one (show Kd.M Kd.string _ _ _ (⟨#[80, 84]⟩ : ByteArray) [.string (⟨#[80, 84]⟩ : ByteArray)] from rfl) (Reps.one (show Kd.M Kd.string _ _ _ (⟨#[71, 69]⟩ : ByteArray) [.string (⟨#[71, 69]⟩ : ByteArray)] from rfl) (Reps.one (show Kd.M Kd.string _ _ _ (⟨#[83, 66, 65]⟩ : ByteArray) [.string (⟨#[83, 66, 65]⟩ : ByteArray)] from rfl) (Reps.one (show Kd.M Kd.string _ _ _ (⟨#[69, 85, 65]⟩ : ByteArray) [.string (⟨#[69, 85, 65]⟩ : ByteArray)] from rfl) (Reps.one (show Kd.M Kd.string _ _ _ (⟨#[73, 67]⟩ : ByteArray) [.string (⟨#[73, 67]⟩ : ByteArray)] from rfl) (Reps.one (show Kd.M Kd.string _ _ _ (⟨#[83, 70]⟩ : ByteArray) [.string (⟨#[83, 70]⟩ : ByteArray)] from rfl) (Reps.one (show Kd.M Kd.string _ _ _ (⟨#[83, 65]⟩ : ByteArray) [.string (⟨#[83, 65]⟩ : ByteArray)] from rfl) (Reps.one (show Kd.M Kd.string _ _ _ (⟨#[83, 70, 69]⟩ : ByteArray) [.string (⟨#[83, 70, 69]⟩ : ByteArray)] from rfl) (Reps.one (show Kd.M Kd.string _ _ _ (⟨#[77, 70]⟩ : ByteArray) [.string (⟨#[77, 70]⟩ : ByteArray)] from rfl) (Reps.one (show Kd.M Kd.string _ _ _ (⟨#[82, 65]⟩ : ByteArray) [.string (⟨#[82, 65]⟩ : ByteArray)] from rfl) (Reps.none _ _))))))))))))); intro v141 w2 ho3 hb hg_ hnew_; clear hg_ hnew_; (first | rw [← Ny140.out] at ho3 | (simp only [Int.reduceToNat] at ho3; rw [← Ny140.out] at ho3)); have n0_ := Aside0.mk (Kd.R_lower ho3 (below_size (by repeat (first | (with_reducible first | exact HB.out | apply below_alloc | apply pw_below_drewN | apply below_drew1) | exact HB.out)))); have n1_ := Aside0.mk (below_step (by repeat (first | (with_reducible first | exact HB.out | apply below_alloc | apply pw_below_drewN | apply below_drew1) | exact HB.out)) hb); clear HB; have HO142 := n0_; have HB := n1_; clear n0_ n1_; clear hb ho3) | ((with_reducible refine gate_dst (N := 7) rfl ?_); refine Kd.R_lit (Kd.int .i64) _ 3 ?hg (N := 7) ?hd (xs := ([0, 5, 8, 17, 18, 19, 29, 40, 41, 44, 60] : List Int)) (inner := [.int .i64 0, .int .i64 5, .int .i64 8, .int .i64 17, .int .i64 18, .int .i64 19, .int .i64 29, .int .i64 40, .int .i64 41, .int .i64 44, .int .i64 60]) (ok := fun _ => True) (okp := fun _ => True) ?hr ?hp (fun _ hk => hk) trivial (Below.refl _ _) (Nat.le_refl _) (by simp) ?_; (case hd => rfl); (case hg => rfl); (case hr => first | (go_simp; done) | (go_simp; rfl)); (case hp => exact (Reps.one (show Kd.M (Kd.int .i64) _ _ _ 0 [.int .i64 0] from rfl) (Reps.one (show Kd.M (Kd.int .i64) _ _ _ 5 [.int .i64 5] from rfl) (Reps.one (show Kd.M (Kd.int .i64) _ _ _ 8 [.int .i64 8] from rfl) (Reps.one (show Kd.M (Kd.int .i64) _ _ _ 17 [.int .i64 17] from rfl) (Reps.one (show Kd.M (Kd.int .i64) _ _ _ 18 [.int .i64 18] from rfl) (Reps.one (show Kd.M (Kd.int .i64) _ _ _ 19 [.int .i64 19] from rfl) (Reps.one (show Kd.M (Kd.int .i64) _ _ _ 29 [.int .i64 29] from rfl) (Reps.one (show Kd.M (Kd.int .i64) _ _ _ 40 [.int .i64 40] from rfl) (Reps.one (show Kd.M (Kd.int .i64) _ _ _ 41 [.int .i64 41] from rfl) (Reps.one (show Kd.M (Kd.int .i64) _ _ _ 44 [.int .i64 44] from rfl) (Reps.one (show Kd.M (Kd.int .i64) _ _ _ 60 [.int .i64 60] from rfl) (Reps.none _ _))))))))))))); intro v144 w4 ho5 hb hg_ hnew_; clear hg_ hnew_; (first | rw [← Ny143.out] at ho5 | (simp only [Int.reduceToNat] at ho5; rw [← Ny143.out] at ho5)); have n0_ := Aside0.mk (Kd.R_below (by (with_reducible repeat (first | apply Kd.R_alloc | apply Kd.R_drewN | apply Kd.R_drew)); exact HO142.out) hb); have n1_ := Aside0.mk (Kd.R_lower ho5 (below_size (by repeat (first | (with_reducible first | exact HB.out | apply below_alloc | apply pw_below_drewN | apply below_drew1) | exact HB.out)))); have n2_ := Aside0.mk (below_step (by repeat (first | (with_reducible first | exact HB.out | apply below_alloc | apply pw_below_drewN | apply below_drew1) | exact HB.out)) hb); clear HO142; clear HB; have HO142 := n0_; have HO145 := n1_; have HB := n2_; clear n0_ n1_ n2_; clear hb ho5; obtain ⟨Ao6, co6, eo6⟩ := Kd.R_slice HO145.out; subst eo6))
  go_loopg [9] k (fun kq v9 w' => ∃ (x9_1 : Int), v9 = .int .i64 x9_1 ∧ Aside0 (vitrineref16_Name.l0 kq a0 y140 y143 (y143.length : Int) x9_1 = some r) ∧ Aside0 (kq ≤ k) ∧ Aside0 (Kd.R Kd.string 9 w' w.heap.size (fun _ => True) v141 y140) ∧ Aside0 (Kd.R (Kd.int .i64) 3 w' w.heap.size (fun _ => True) (.slice Ao6 y143.length co6) y143) ∧ Aside0 (Below w.heap.size w w'))
  case atStart => exact ⟨(0), (by first | rfl | (simp; done) | (simp [*]; done)), H', ⟨Nat.le_refl _⟩, ⟨by (with_reducible repeat (first | apply Kd.R_alloc | apply Kd.R_drewN | apply Kd.R_drew)); exact HO142.out⟩, ⟨by (with_reducible repeat (first | apply Kd.R_alloc | apply Kd.R_drewN | apply Kd.R_drew)); exact HO145.out⟩, ⟨by repeat (first | (with_reducible first | exact HB.out | apply below_alloc | apply pw_below_drewN | apply below_drew1) | exact HB.out)⟩⟩
  case round =>
    clear H'
    try clear p2
    obtain ⟨x9_1, rfl, HA, HK1, HO_3, HO_7, HB⟩ := hrel
    cases gk with
    | zero => exact absurd HA.out (by simp [vitrineref16_Name.l0])
    | succ k1 =>
      have H := HA.out
      clear HA
      simp only [vitrineref16_Name.l0] at H
      by_cases c7 : x9_1 < (y143.length : Int)
      · rw [if_pos c7] at H
        have c7b0 : decide (x9_1 < (y143.length : Int)) = true := decide_eq_true c7
        clear c7
        by_cases c8 : 0 ≤ x9_1
        · rw [if_pos c8] at H
          have c8b0 : decide (0 ≤ x9_1) = true := decide_eq_true c8
          clear c8
          by_cases c9 : x9_1 < (y143.length : Int)
          · rw [if_pos c9] at H
            have c9b0 : decide (x9_1 < (y143.length : Int)) = true := decide_eq_true c9
            clear c9
            by_cases c10 : (rd y143 x9_1) = a0
            · rw [if_pos c10] at H
              have c10b0 : ((rd y143 x9_1) == a0) = true := beq_iff_eq.mpr c10
              have c10b1 : ((rd y143 x9_1) != a0) = false := bne_eq_false_iff_eq.mpr c10
              clear c10
              by_cases c11 : x9_1 < (y140.length : Int)
              · rw [if_pos c11] at H
                have c11b0 : decide (x9_1 < (y140.length : Int)) = true := decide_eq_true c11
                clear c11
                obtain rfl := Option.some.inj H
                have p146 : 0 ≤ (x9_1 : Int) := of_decide_eq_true (by first | (with_reducible assumption) | assumption)
                have q146 : x9_1 < (y143.length : Int) := of_decide_eq_true (by first | (with_reducible assumption) | assumption)
                obtain ⟨ad146, e146, hx146_0⟩ := Kd.at_int (Kd.R_reads' HO_7.out).2.2 x9_1 p146 q146
                cases e146
                replace p146 := eq_true p146
                replace q146 := eq_true q146
                obtain ⟨Ao12, co12, eo12⟩ := Kd.R_slice HO_3.out
                subst eo12
                have p147 : 0 ≤ (x9_1 : Int) := of_decide_eq_true (by first | (with_reducible assumption) | assumption)
                have q147 : x9_1 < (y140.length : Int) := of_decide_eq_true (by first | (with_reducible assumption) | assumption)
                obtain ⟨ad147, e147, hx147_0⟩ := Kd.at_string (Kd.R_reads' HO_3.out).2.2 x9_1 p147 q147
                cases e147
                replace p147 := eq_true p147
                replace q147 := eq_true q147
                go_wp2
                go_ret
                exact ⟨by first | rfl | (simp [errW_none, errW_some] <;> rfl) | (cases t148.toList <;> simp [errW_none, errW_some]) | (simp [*, errW_none, errW_some] <;> rfl), by repeat (first | (with_reducible first | exact HB.out | apply below_alloc | apply pw_below_drewN | apply below_drew1) | exact HB.out)⟩
              · rw [if_neg c11] at H
                exact absurd H (by simp)
            · rw [if_neg c10] at H
              have c10b0 : ((rd y143 x9_1) == a0) = false := beq_eq_false_iff_ne.mpr c10
              have c10b1 : ((rd y143 x9_1) != a0) = true := bne_iff_ne.mpr c10
              have H' := Aside0.mk H
              clear H
              have p146 : 0 ≤ (x9_1 : Int) := of_decide_eq_true (by first | (with_reducible assumption) | assumption)
              have q146 : x9_1 < (y143.length : Int) := of_decide_eq_true (by first | (with_reducible assumption) | assumption)
              obtain ⟨ad146, e146, hx146_0⟩ := Kd.at_int (Kd.R_reads' HO_7.out).2.2 x9_1 p146 q146
              cases e146
              replace p146 := eq_true p146
              replace q146 := eq_true q146
              go_wp2
              go_roundg k1
              case measure => have := HK1.out; omega
              case rel => exact ⟨(wrap64 (x9_1 + 1)), (by first | rfl | (simp; done) | (simp [*]; done)), H', ⟨by have := HK1.out; omega⟩, ⟨by (with_reducible repeat (first | apply Kd.R_alloc | apply Kd.R_drewN | apply Kd.R_drew)); exact HO_3.out⟩, ⟨by (with_reducible repeat (first | apply Kd.R_alloc | apply Kd.R_drewN | apply Kd.R_drew)); exact HO_7.out⟩, ⟨by repeat (first | (with_reducible first | exact HB.out | apply below_alloc | apply pw_below_drewN | apply below_drew1) | exact HB.out)⟩⟩
          · rw [if_neg c9] at H
            exact absurd H (by simp)
        · rw [if_neg c8] at H
          exact absurd H (by simp)
      · rw [if_neg c7] at H
        have c7b0 : decide (x9_1 < (y143.length : Int)) = false := decide_eq_false c7
        clear c7
        obtain rfl := Option.some.inj H
        go_wp2
        go_ret
        exact ⟨by first | rfl | (simp [errW_none, errW_some] <;> rfl) | (cases t148.toList <;> simp [errW_none, errW_some]) | (simp [*, errW_none, errW_some] <;> rfl), by repeat (first | (with_reducible first | exact HB.out | apply below_alloc | apply pw_below_drewN | apply below_drew1) | exact HB.out)⟩

/-! ### vitrineref16_Is: function 9 -/
def vitrineref16_Is.f (k : Nat) (a0 : Int) : Option (Bool) := if a0 = 0 then (some false) else ((vitrineref16_Name.f k (wrap64 (a0))).bind fun t148 => (some (t148.toList != ([] : List UInt8))))
theorem vitrineref16_Is.mono : ∀ a0 k, LeO (vitrineref16_Is.f k a0) (vitrineref16_Is.f (k + 1) a0) := by
  intro a0 k
  unfold vitrineref16_Is.f
  repeat' first
      | (with_reducible exact vitrineref16_Name.mono _ _)
      | (with_reducible exact LeO.refl _)
      | (with_reducible exact LeO.none _)
      | (with_reducible refine LeO.ite ?_ ?_)
      | (with_reducible refine LeO.bind ?_ (fun _ => ?_))
      | exact vitrineref16_Name.mono _ _
      | exact LeO.none _
      | refine LeO.ite ?_ ?_
      | refine LeO.bind ?_ (fun _ => ?_)
set_option maxHeartbeats 8000000 in
set_option maxRecDepth 100000 in
theorem vitrineref16_Is.calls (k : Nat) (a0 : Int) (r : Bool) (w : World) (h : vitrineref16_Is.f k a0 = some r) :
    Calls Try.prog 9 #[.int .u8 a0] w fun e w' => e = .returned (.bool r) ∧ Below w.heap.size w w' := by
  have HB := Aside0.mk (Below.refl w.heap.size w)
  have H : (if a0 = 0 then (some false) else ((vitrineref16_Name.f k (wrap64 (a0))).bind fun t148 => (some (t148.toList != ([] : List UInt8))))) = some r := h
  clear h
  by_cases c2 : a0 = 0
  · rw [if_pos c2] at H
    have c2b0 : (a0 == 0) = true := beq_iff_eq.mpr c2
    have c2b1 : (a0 != 0) = false := bne_eq_false_iff_eq.mpr c2
    clear c2
    obtain rfl := Option.some.inj H
    go_enter Try.func9, Try.ntmps9
    go_wp2
    go_ret
    exact ⟨by first | rfl | (simp [errW_none, errW_some] <;> rfl) | (cases t148.toList <;> simp [errW_none, errW_some]) | (simp [*, errW_none, errW_some] <;> rfl), by repeat (first | (with_reducible first | exact HB.out | apply below_alloc | apply pw_below_drewN | apply below_drew1) | exact HB.out)⟩
  · rw [if_neg c2] at H
    have c2b0 : (a0 == 0) = false := beq_eq_false_iff_ne.mpr c2
    have c2b1 : (a0 != 0) = true := bne_iff_ne.mpr c2
    replace H := Option.bind_eq_some_iff.mp H
    obtain ⟨t148, A30, H⟩ := H
    replace H : (some (t148.toList != ([] : List UInt8))) = some r := H
    have A3 := Aside0.mk A30
    clear A30
    obtain rfl := Option.some.inj H
    go_enter Try.func9, Try.ntmps9
    go_wp2_with (first | (go_at_call 7; (with_reducible refine (vitrineref16_Name.calls k (wrap64 (a0)) t148 _ A3.out).mono ?_); rintro e w4 ⟨rfl, hb⟩; have n0_ := Aside0.mk (below_step (by repeat (first | (with_reducible first | exact HB.out | apply below_alloc | apply pw_below_drewN | apply below_drew1) | exact HB.out)) hb); clear HB; have HB := n0_; clear n0_; (try clear hb); (try clear hb2); (try clear hk); (try clear hi)))
    go_ret
    exact ⟨by first | rfl | (simp [errW_none, errW_some] <;> rfl) | (cases t148.toList <;> simp [errW_none, errW_some]) | (simp [*, errW_none, errW_some] <;> rfl), by repeat (first | (with_reducible first | exact HB.out | apply below_alloc | apply pw_below_drewN | apply below_drew1) | exact HB.out)⟩

end Go.Proofs.Ytmejmlohinjpdaa.POr
