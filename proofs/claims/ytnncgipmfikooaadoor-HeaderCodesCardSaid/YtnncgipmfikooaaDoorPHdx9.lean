-- Written by a program of this session (a changed copy of the kit's print program): not the kit's print.
import Derived.Test.YtnncgipmfikooaaDoorPHdx0
import Derived.Test.YtnncgipmfikooaaDoorPHdx2
namespace Go.Proofs.YtnncgipmfikooaaDoor.PHd
open Go.RowKit Go.Proofs.YtnncgipmfikooaaDoorW.PrintWords Go.Proofs.YtnncgipmfikooaaDoorW.PrintLast Go.Proofs.YtnncgipmfikooaaDoorW.PrintMore
attribute [local go_sem] max2_int min2_int max_two min_two max_three min_three max_four min_four   -- for this text's walks alone
set_option linter.unusedVariables false
set_option linter.unusedSimpArgs false

/-! ### header_Negative: function 19 -/
def header_Negative.f (a0 : Int) (a1 : Int) : Option (List Int × Int) := if a1 > 3 then (some (([] : List Int), 1)) else ((header_answer.f a0 1 a1).bind fun t285 => (some (t285, 0)))
set_option maxHeartbeats 8000000 in
set_option maxRecDepth 100000 in
theorem header_Negative.calls (a0 : Int) (a1 : Int) (r1 : List Int) (r2 : Int) (w : World) (h : header_Negative.f a0 a1 = some (r1, r2)) :
    Calls Tryd.prog 19 #[.int .u16 a0, .int .u8 a1] w fun e w' => ∃ v0_ : Value, e = .returned (.tuple #[v0_, .int .i64 r2]) ∧ Kd.R (Kd.int .u8) 5 w' w.heap.size (fun _ => True) v0_ r1 ∧ Below w.heap.size w w' := by
  have HB := Aside0.mk (Below.refl w.heap.size w)
  have H : (if a1 > 3 then (some (([] : List Int), 1)) else ((header_answer.f a0 1 a1).bind fun t285 => (some (t285, 0)))) = some (r1, r2) := h
  clear h
  by_cases c3 : a1 > 3
  · rw [if_pos c3] at H
    have c3b0 : decide (3 < a1) = true := decide_eq_true c3
    clear c3
    simp only [Option.some.injEq, Prod.mk.injEq] at H
    obtain ⟨rfl, rfl⟩ := H
    go_enter Tryd.func19, Tryd.ntmps19
    go_wp2
    go_ret2
    exact ⟨_, by first | rfl | (simp [errW_none, errW_some] <;> rfl) | (simp [*, errW_none, errW_some] <;> rfl), by first | exact Kd.R_nil _ _ _ _ _ | exact Kd.N_nil _ _ _ _ _ | exact Kd.V_nil _ _ _ _ _ | exact Kd.Q_nil _ _ _ _ _ | exact Kd.S_nil _ _ _ _ _, by repeat (first | (with_reducible first | exact HB.out | apply below_alloc | apply pw_below_drewN | apply below_drew1) | exact HB.out)⟩
  · rw [if_neg c3] at H
    have c3b0 : decide (3 < a1) = false := decide_eq_false c3
    clear c3
    replace H := Option.bind_eq_some_iff.mp H
    obtain ⟨t285, A40, H⟩ := H
    replace H : (some (t285, 0)) = some (r1, r2) := H
    have A4 := Aside0.mk A40
    clear A40
    simp only [Option.some.injEq, Prod.mk.injEq] at H
    obtain ⟨rfl, rfl⟩ := H
    go_enter Tryd.func19, Tryd.ntmps19
    go_wp2_with (first | ((with_reducible refine gate_callee (f := 25) rfl ?_); refine goesL_ (some 10) rfl rfl Tryd.func25 (by kernel_rfl) rfl #[.int .u16 a0, .int .u8 1, .int .u8 a1] rfl (by (try simp only [List.map_toArray, List.map_cons, List.map_nil]); first | done | rfl | (simp only [List.length_drop, List.length_take]; rfl)) ?_; (with_reducible refine (header_answer.calls a0 1 a1 t285 _ A4.out).mono ?_); rintro e w5 ⟨v286, rfl, ho0, hb⟩; refine ⟨_, rfl, ?_⟩; have n0_ := Aside0.mk (Kd.R_lower ho0 (below_size (by repeat (first | (with_reducible first | exact HB.out | apply below_alloc | apply pw_below_drewN | apply below_drew1) | exact HB.out)))); have n1_ := Aside0.mk (below_step (by repeat (first | (with_reducible first | exact HB.out | apply below_alloc | apply pw_below_drewN | apply below_drew1) | exact HB.out)) hb); clear HB; have HO287 := n0_; have HB := n1_; clear n0_ n1_; (try clear hb); (try clear hb2); (try clear hk); (try clear hi); (try clear ho0)))
    go_ret2
    exact ⟨_, by first | rfl | (simp [errW_none, errW_some] <;> rfl) | (simp [*, errW_none, errW_some] <;> rfl), by (with_reducible repeat (first | apply Kd.R_alloc | apply Kd.R_drewN | apply Kd.R_drew)); exact HO287.out, by repeat (first | (with_reducible first | exact HB.out | apply below_alloc | apply pw_below_drewN | apply below_drew1) | exact HB.out)⟩

/-! ### vitrineref09_Name: function 23 -/
def vitrineref09_Name.f (a0 : Int) : Option (ByteArray) := (some (([(⟨#[51, 50, 55, 48, 45, 68, 65, 84, 65]⟩ : ByteArray), (⟨#[83, 67, 83, 45, 68, 65, 84, 65]⟩ : ByteArray), (⟨#[82, 69, 83, 80, 79, 78, 83, 69]⟩ : ByteArray), (⟨#[66, 73, 78, 68, 45, 73, 77, 65, 71, 69]⟩ : ByteArray), (⟨#[85, 78, 66, 73, 78, 68]⟩ : ByteArray), (⟨#[78, 86, 84, 45, 68, 65, 84, 65]⟩ : ByteArray), (⟨#[82, 69, 81, 85, 69, 83, 84]⟩ : ByteArray), (⟨#[83, 83, 67, 80, 45, 76, 85, 45, 68, 65, 84, 65]⟩ : ByteArray), (⟨#[80, 82, 73, 78, 84, 45, 69, 79, 74]⟩ : ByteArray)] : List ByteArray) : List ByteArray)).bind fun y288 => (if a0 > 8 then (some (⟨#[]⟩ : ByteArray)) else (if 0 ≤ a0 then (if a0 < (y288.length : Int) then (some (rdOf ByteArray.empty y288 a0)) else (none)) else (none)))
set_option maxHeartbeats 8000000 in
set_option maxRecDepth 100000 in
theorem vitrineref09_Name.calls (a0 : Int) (r : ByteArray) (w : World) (h : vitrineref09_Name.f a0 = some r) :
    Calls Tryd.prog 23 #[.int .u8 a0] w fun e w' => e = .returned (.string r) ∧ Below w.heap.size w w' := by
  have HB := Aside0.mk (Below.refl w.heap.size w)
  have H : ((some (([(⟨#[51, 50, 55, 48, 45, 68, 65, 84, 65]⟩ : ByteArray), (⟨#[83, 67, 83, 45, 68, 65, 84, 65]⟩ : ByteArray), (⟨#[82, 69, 83, 80, 79, 78, 83, 69]⟩ : ByteArray), (⟨#[66, 73, 78, 68, 45, 73, 77, 65, 71, 69]⟩ : ByteArray), (⟨#[85, 78, 66, 73, 78, 68]⟩ : ByteArray), (⟨#[78, 86, 84, 45, 68, 65, 84, 65]⟩ : ByteArray), (⟨#[82, 69, 81, 85, 69, 83, 84]⟩ : ByteArray), (⟨#[83, 83, 67, 80, 45, 76, 85, 45, 68, 65, 84, 65]⟩ : ByteArray), (⟨#[80, 82, 73, 78, 84, 45, 69, 79, 74]⟩ : ByteArray)] : List ByteArray) : List ByteArray)).bind fun y288 => (if a0 > 8 then (some (⟨#[]⟩ : ByteArray)) else (if 0 ≤ a0 then (if a0 < (y288.length : Int) then (some (rdOf ByteArray.empty y288 a0)) else (none)) else (none)))) = some r := h
  clear h
  obtain ⟨y288, hy288⟩ : ∃ y_ : List ByteArray, y_ = (([(⟨#[51, 50, 55, 48, 45, 68, 65, 84, 65]⟩ : ByteArray), (⟨#[83, 67, 83, 45, 68, 65, 84, 65]⟩ : ByteArray), (⟨#[82, 69, 83, 80, 79, 78, 83, 69]⟩ : ByteArray), (⟨#[66, 73, 78, 68, 45, 73, 77, 65, 71, 69]⟩ : ByteArray), (⟨#[85, 78, 66, 73, 78, 68]⟩ : ByteArray), (⟨#[78, 86, 84, 45, 68, 65, 84, 65]⟩ : ByteArray), (⟨#[82, 69, 81, 85, 69, 83, 84]⟩ : ByteArray), (⟨#[83, 83, 67, 80, 45, 76, 85, 45, 68, 65, 84, 65]⟩ : ByteArray), (⟨#[80, 82, 73, 78, 84, 45, 69, 79, 74]⟩ : ByteArray)] : List ByteArray)) := ⟨_, rfl⟩
  replace H : (if a0 > 8 then (some (⟨#[]⟩ : ByteArray)) else (if 0 ≤ a0 then (if a0 < (y288.length : Int) then (some (rdOf ByteArray.empty y288 a0)) else (none)) else (none))) = some r := by first | (rw [hy288]; with_reducible exact H) | (have H2_ := (Option.bind_some _ _).symm.trans H; rw [hy288]; with_reducible exact H2_) | (have H2_ := (Option.bind_some _ _).symm.trans H; with_reducible exact H2_) | with_reducible exact H | (rw [hy288]; exact H) | exact H
  have Ny288 := Aside0.mk hy288
  clear hy288
  by_cases c2 : a0 > 8
  · rw [if_pos c2] at H
    have c2b0 : decide (8 < a0) = true := decide_eq_true c2
    clear c2
    obtain rfl := Option.some.inj H
    go_enter Tryd.func23, Tryd.ntmps23
    go_wp2_with (first | ((with_reducible refine gate_dst (N := 4) rfl ?_); refine Kd.R_lit Kd.string _ 9 ?hg (N := 4) ?hd (xs := ([(⟨#[51, 50, 55, 48, 45, 68, 65, 84, 65]⟩ : ByteArray), (⟨#[83, 67, 83, 45, 68, 65, 84, 65]⟩ : ByteArray), (⟨#[82, 69, 83, 80, 79, 78, 83, 69]⟩ : ByteArray), (⟨#[66, 73, 78, 68, 45, 73, 77, 65, 71, 69]⟩ : ByteArray), (⟨#[85, 78, 66, 73, 78, 68]⟩ : ByteArray), (⟨#[78, 86, 84, 45, 68, 65, 84, 65]⟩ : ByteArray), (⟨#[82, 69, 81, 85, 69, 83, 84]⟩ : ByteArray), (⟨#[83, 83, 67, 80, 45, 76, 85, 45, 68, 65, 84, 65]⟩ : ByteArray), (⟨#[80, 82, 73, 78, 84, 45, 69, 79, 74]⟩ : ByteArray)] : List ByteArray)) (inner := [.string (⟨#[51, 50, 55, 48, 45, 68, 65, 84, 65]⟩ : ByteArray), .string (⟨#[83, 67, 83, 45, 68, 65, 84, 65]⟩ : ByteArray), .string (⟨#[82, 69, 83, 80, 79, 78, 83, 69]⟩ : ByteArray), .string (⟨#[66, 73, 78, 68, 45, 73, 77, 65, 71, 69]⟩ : ByteArray), .string (⟨#[85, 78, 66, 73, 78, 68]⟩ : ByteArray), .string (⟨#[78, 86, 84, 45, 68, 65, 84, 65]⟩ : ByteArray), .string (⟨#[82, 69, 81, 85, 69, 83, 84]⟩ : ByteArray), .string (⟨#[83, 83, 67, 80, 45, 76, 85, 45, 68, 65, 84, 65]⟩ : ByteArray), .string (⟨#[80, 82, 73, 78, 84, 45, 69, 79, 74]⟩ : ByteArray)]) (ok := fun _ => True) (okp := fun _ => True) ?hr ?hp (fun _ hk => hk) trivial (Below.refl _ _) (Nat.le_refl _) (by simp) ?_; (case hd => rfl); (case hg => rfl); (case hr => first | (go_simp; done) | (go_simp; rfl)); (case hp => exact (Reps.one (show Kd.M Kd.string _ _ _ (⟨#[51, 50, 55, 48, 45, 68, 65, 84, 65]⟩ : ByteArray) [.string (⟨#[51, 50, 55, 48, 45, 68, 65, 84, 65]⟩ : ByteArray)] from rfl) (Reps.one (show Kd.M Kd.string _ _ _ (⟨#[83, 67, 83, 45, 68, 65, 84, 65]⟩ : ByteArray) [.string (⟨#[83, 67, 83, 45, 68, 65, 84, 65]⟩ : ByteArray)] from rfl) (Reps.one (show Kd.M Kd.string _ _ _ (⟨#[82, 69, 83, 80, 79, 78, 83, 69]⟩ : ByteArray) [.string (⟨#[82, 69, 83, 80, 79, 78, 83, 69]⟩ : ByteArray)] from rfl) (Reps.one (show Kd.M Kd.string _ _ _ (⟨#[66, 73, 78, 68, 45, 73, 77, 65, 71, 69]⟩ : ByteArray) [.string (⟨#[66, 73, 78, 68, 45, 73, 77, 65, 71, 69]⟩ : ByteArray)] from rfl) (Reps.one (show Kd.M Kd.string _ _ _ (⟨#[85, 78, 66, 73, 78, 68]⟩ : ByteArray) [.string (⟨#[85, 78, 66, 73, 78, 68]⟩ : ByteArray)] from rfl) (Reps.one (show Kd.M Kd.string _ _ _ (⟨#[78, 86, 84, 45, 68, 65, 84, 65]⟩ : ByteArray) [.string (⟨#[78, 86, 84, 45, 68, 65, 84, 65]⟩ : ByteArray)] from rfl) (Reps.one (show Kd.M Kd.string _ _ _ (⟨#[82, 69, 81, 85, 69, 83, 84]⟩ : ByteArray) [.string (⟨#[82, 69, 81, 85, 69, 83, 84]⟩ : ByteArray)] from rfl) (Reps.one (show Kd.M Kd.string _ _ _ (⟨#[83, 83, 67, 80, 45, 76, 85, 45, 68, 65, 84, 65]⟩ : ByteArray) [.string (⟨#[83, 83, 67, 80, 45, 76, 85, 45, 68, 65, 84, 65]⟩ : ByteArray)] from rfl) (Reps.one (show Kd.M Kd.string _ _ _ (⟨#[80, 82, 73, 78, 84, 45, 69, 79, 74]⟩ : ByteArray) [.string (⟨#[80, 82, 73, 78, 84, 45, 69, 79, 74]⟩ : ByteArray)] from rfl) (Reps.none _ _))))))))))); intro v289 w3 ho4 hb hg_ hnew_; clear hg_ hnew_; (first | rw [← Ny288.out] at ho4 | (simp only [Int.reduceToNat] at ho4; rw [← Ny288.out] at ho4)); have n0_ := Aside0.mk (Kd.R_lower ho4 (below_size (by repeat (first | (with_reducible first | exact HB.out | apply below_alloc | apply pw_below_drewN | apply below_drew1) | exact HB.out)))); have n1_ := Aside0.mk (below_step (by repeat (first | (with_reducible first | exact HB.out | apply below_alloc | apply pw_below_drewN | apply below_drew1) | exact HB.out)) hb); clear HB; have HO290 := n0_; have HB := n1_; clear n0_ n1_; clear hb ho4))
    go_ret
    exact ⟨by first | rfl | (simp [errW_none, errW_some] <;> rfl) | (simp [*, errW_none, errW_some] <;> rfl), by repeat (first | (with_reducible first | exact HB.out | apply below_alloc | apply pw_below_drewN | apply below_drew1) | exact HB.out)⟩
  · rw [if_neg c2] at H
    have c2b0 : decide (8 < a0) = false := decide_eq_false c2
    clear c2
    by_cases c5 : 0 ≤ a0
    · rw [if_pos c5] at H
      have c5b0 : decide (0 ≤ a0) = true := decide_eq_true c5
      clear c5
      by_cases c6 : a0 < (y288.length : Int)
      · rw [if_pos c6] at H
        have c6b0 : decide (a0 < (y288.length : Int)) = true := decide_eq_true c6
        clear c6
        obtain rfl := Option.some.inj H
        go_enter Tryd.func23, Tryd.ntmps23
        go_wp2_with (first | ((with_reducible refine gate_dst (N := 4) rfl ?_); refine Kd.R_lit Kd.string _ 9 ?hg (N := 4) ?hd (xs := ([(⟨#[51, 50, 55, 48, 45, 68, 65, 84, 65]⟩ : ByteArray), (⟨#[83, 67, 83, 45, 68, 65, 84, 65]⟩ : ByteArray), (⟨#[82, 69, 83, 80, 79, 78, 83, 69]⟩ : ByteArray), (⟨#[66, 73, 78, 68, 45, 73, 77, 65, 71, 69]⟩ : ByteArray), (⟨#[85, 78, 66, 73, 78, 68]⟩ : ByteArray), (⟨#[78, 86, 84, 45, 68, 65, 84, 65]⟩ : ByteArray), (⟨#[82, 69, 81, 85, 69, 83, 84]⟩ : ByteArray), (⟨#[83, 83, 67, 80, 45, 76, 85, 45, 68, 65, 84, 65]⟩ : ByteArray), (⟨#[80, 82, 73, 78, 84, 45, 69, 79, 74]⟩ : ByteArray)] : List ByteArray)) (inner := [.string (⟨#[51, 50, 55, 48, 45, 68, 65, 84, 65]⟩ : ByteArray), .string (⟨#[83, 67, 83, 45, 68, 65, 84, 65]⟩ : ByteArray), .string (⟨#[82, 69, 83, 80, 79, 78, 83, 69]⟩ : ByteArray), .string (⟨#[66, 73, 78, 68, 45, 73, 77, 65, 71, 69]⟩ : ByteArray), .string (⟨#[85, 78, 66, 73, 78, 68]⟩ : ByteArray), .string (⟨#[78, 86, 84, 45, 68, 65, 84, 65]⟩ : ByteArray), .string (⟨#[82, 69, 81, 85, 69, 83, 84]⟩ : ByteArray), .string (⟨#[83, 83, 67, 80, 45, 76, 85, 45, 68, 65, 84, 65]⟩ : ByteArray), .string (⟨#[80, 82, 73, 78, 84, 45, 69, 79, 74]⟩ : ByteArray)]) (ok := fun _ => True) (okp := fun _ => True) ?hr ?hp (fun _ hk => hk) trivial (Below.refl _ _) (Nat.le_refl _) (by simp) ?_; (case hd => rfl); (case hg => rfl); (case hr => first | (go_simp; done) | (go_simp; rfl)); (case hp => exact (Reps.one (show Kd.M Kd.string _ _ _ (⟨#[51, 50, 55, 48, 45, 68, 65, 84, 65]⟩ : ByteArray) [.string (⟨#[51, 50, 55, 48, 45, 68, 65, 84, 65]⟩ : ByteArray)] from rfl) (Reps.one (show Kd.M Kd.string _ _ _ (⟨#[83, 67, 83, 45, 68, 65, 84, 65]⟩ : ByteArray) [.string (⟨#[83, 67, 83, 45, 68, 65, 84, 65]⟩ : ByteArray)] from rfl) (Reps.one (show Kd.M Kd.string _ _ _ (⟨#[82, 69, 83, 80, 79, 78, 83, 69]⟩ : ByteArray) [.string (⟨#[82, 69, 83, 80, 79, 78, 83, 69]⟩ : ByteArray)] from rfl) (Reps.one (show Kd.M Kd.string _ _ _ (⟨#[66, 73, 78, 68, 45, 73, 77, 65, 71, 69]⟩ : ByteArray) [.string (⟨#[66, 73, 78, 68, 45, 73, 77, 65, 71, 69]⟩ : ByteArray)] from rfl) (Reps.one (show Kd.M Kd.string _ _ _ (⟨#[85, 78, 66, 73, 78, 68]⟩ : ByteArray) [.string (⟨#[85, 78, 66, 73, 78, 68]⟩ : ByteArray)] from rfl) (Reps.one (show Kd.M Kd.string _ _ _ (⟨#[78, 86, 84, 45, 68, 65, 84, 65]⟩ : ByteArray) [.string (⟨#[78, 86, 84, 45, 68, 65, 84, 65]⟩ : ByteArray)] from rfl) (Reps.one (show Kd.M Kd.string _ _ _ (⟨#[82, 69, 81, 85, 69, 83, 84]⟩ : ByteArray) [.string (⟨#[82, 69, 81, 85, 69, 83, 84]⟩ : ByteArray)] from rfl) (Reps.one (show Kd.M Kd.string _ _ _ (⟨#[83, 83, 67, 80, 45, 76, 85, 45, 68, 65, 84, 65]⟩ : ByteArray) [.string (⟨#[83, 83, 67, 80, 45, 76, 85, 45, 68, 65, 84, 65]⟩ : ByteArray)] from rfl) (Reps.one (show Kd.M Kd.string _ _ _ (⟨#[80, 82, 73, 78, 84, 45, 69, 79, 74]⟩ : ByteArray) [.string (⟨#[80, 82, 73, 78, 84, 45, 69, 79, 74]⟩ : ByteArray)] from rfl) (Reps.none _ _))))))))))); intro v289 w7 ho8 hb hg_ hnew_; clear hg_ hnew_; (first | rw [← Ny288.out] at ho8 | (simp only [Int.reduceToNat] at ho8; rw [← Ny288.out] at ho8)); have n0_ := Aside0.mk (Kd.R_lower ho8 (below_size (by repeat (first | (with_reducible first | exact HB.out | apply below_alloc | apply pw_below_drewN | apply below_drew1) | exact HB.out)))); have n1_ := Aside0.mk (below_step (by repeat (first | (with_reducible first | exact HB.out | apply below_alloc | apply pw_below_drewN | apply below_drew1) | exact HB.out)) hb); clear HB; have HO290 := n0_; have HB := n1_; clear n0_ n1_; clear hb ho8; obtain ⟨Ao9, co9, eo9⟩ := Kd.R_slice HO290.out; subst eo9; have p291 : 0 ≤ (a0 : Int) := of_decide_eq_true (by first | (with_reducible assumption) | assumption); have q291 : a0 < (y288.length : Int) := of_decide_eq_true (by first | (with_reducible assumption) | assumption); obtain ⟨ad291, e291, hx291_0⟩ := Kd.at_string (Kd.R_reads' HO290.out).2.2 a0 p291 q291; cases e291; replace p291 := eq_true p291; replace q291 := eq_true q291))
        go_ret
        exact ⟨by first | rfl | (simp [errW_none, errW_some] <;> rfl) | (simp [*, errW_none, errW_some] <;> rfl), by repeat (first | (with_reducible first | exact HB.out | apply below_alloc | apply pw_below_drewN | apply below_drew1) | exact HB.out)⟩
      · rw [if_neg c6] at H
        exact absurd H (by simp)
    · rw [if_neg c5] at H
      exact absurd H (by simp)

/-! ### header_Next: function 24 -/
def header_Next.f (a0 : Int) : Option (Int) := if a0 ≥ 32767 then (some 0) else (some (IntKind.u16.wrap (a0 + 1)))
set_option maxHeartbeats 8000000 in
set_option maxRecDepth 100000 in
theorem header_Next.calls (a0 : Int) (r : Int) (w : World) (h : header_Next.f a0 = some r) :
    Calls Tryd.prog 24 #[.int .u16 a0] w fun e w' => e = .returned (.int .u16 r) ∧ Drawn0 w w' := by
  have H : (if a0 ≥ 32767 then (some 0) else (some (IntKind.u16.wrap (a0 + 1)))) = some r := h
  clear h
  by_cases c2 : a0 ≥ 32767
  · rw [if_pos c2] at H
    have c2b0 : decide (32767 ≤ a0) = true := decide_eq_true c2
    clear c2
    obtain rfl := Option.some.inj H
    go_enter Tryd.func24, Tryd.ntmps24
    go_wp2
    go_ret
    exact ⟨by first | rfl | (simp; done) | (simp [*]; done), by repeat (first | exact Drawn0.refl _ | apply Drawn0.step)⟩
  · rw [if_neg c2] at H
    have c2b0 : decide (32767 ≤ a0) = false := decide_eq_false c2
    clear c2
    obtain rfl := Option.some.inj H
    go_enter Tryd.func24, Tryd.ntmps24
    go_wp2
    go_ret
    exact ⟨by first | rfl | (simp; done) | (simp [*]; done), by repeat (first | exact Drawn0.refl _ | apply Drawn0.step)⟩

end Go.Proofs.YtnncgipmfikooaaDoor.PHd
