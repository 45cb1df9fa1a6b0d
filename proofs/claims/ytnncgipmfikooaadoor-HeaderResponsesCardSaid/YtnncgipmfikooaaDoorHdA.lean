/- header.Name and bytes.Clone: their contracts, by hand, in the form of the printed ones; what the package variable reads as. -/
import Derived.Test.YtnncgipmfikooaaDoorPHdx0
import Derived.WalkSpells
namespace Go.Proofs.YtnncgipmfikooaaDoor.PHd
open Go.RowKit Go.Proofs.YtnncgipmfikooaaDoorW.PrintWords Go.Proofs.YtnncgipmfikooaaDoorW.PrintLast Go.Proofs.YtnncgipmfikooaaDoorW.PrintMore
set_option linter.unusedVariables false
set_option linter.unusedSimpArgs false
/-- The package variable 'names' reads as it was laid. -/
def GL (w : World) : Prop := w.cell? ⟨0, 0, none⟩ = some (.string (⟨#[51, 50, 55, 48, 45, 68, 65, 84, 65]⟩ : ByteArray)) ∧ w.cell? ⟨0, 1, none⟩ = some (.string (⟨#[83, 67, 83, 45, 68, 65, 84, 65]⟩ : ByteArray)) ∧ w.cell? ⟨0, 2, none⟩ = some (.string (⟨#[82, 69, 83, 80, 79, 78, 83, 69]⟩ : ByteArray)) ∧ w.cell? ⟨0, 3, none⟩ = some (.string (⟨#[66, 73, 78, 68, 45, 73, 77, 65, 71, 69]⟩ : ByteArray)) ∧ w.cell? ⟨0, 4, none⟩ = some (.string (⟨#[85, 78, 66, 73, 78, 68]⟩ : ByteArray)) ∧ w.cell? ⟨0, 5, none⟩ = some (.string (⟨#[78, 86, 84, 45, 68, 65, 84, 65]⟩ : ByteArray)) ∧ w.cell? ⟨0, 6, none⟩ = some (.string (⟨#[82, 69, 81, 85, 69, 83, 84]⟩ : ByteArray)) ∧ w.cell? ⟨0, 7, none⟩ = some (.string (⟨#[83, 83, 67, 80, 45, 76, 85, 45, 68, 65, 84, 65]⟩ : ByteArray)) ∧ w.cell? ⟨0, 8, none⟩ = some (.string (⟨#[80, 82, 73, 78, 84, 45, 69, 79, 74]⟩ : ByteArray))
theorem GL_below {w w' : World} (h : GL w) (hb : Below w.heap.size w w') : GL w' := by
  have one : ∀ {p : Addr} {v : Value}, w.cell? p = some v → w'.cell? p = some v := fun hc => (hb.cell (World.block_lt_of_cell? w _ hc)).trans hc
  obtain ⟨h0, h1, h2, h3, h4, h5, h6, h7, h8⟩ := h
  exact ⟨one h0, one h1, one h2, one h3, one h4, one h5, one h6, one h7, one h8⟩
def header_Name.f (a0 : Int) : Option ByteArray := if 0 ≤ a0 ∧ a0 ≤ 255 then (if a0 ≥ 9 then some (⟨#[]⟩ : ByteArray) else some (if a0 = 0 then (⟨#[51, 50, 55, 48, 45, 68, 65, 84, 65]⟩ : ByteArray) else if a0 = 1 then (⟨#[83, 67, 83, 45, 68, 65, 84, 65]⟩ : ByteArray) else if a0 = 2 then (⟨#[82, 69, 83, 80, 79, 78, 83, 69]⟩ : ByteArray) else if a0 = 3 then (⟨#[66, 73, 78, 68, 45, 73, 77, 65, 71, 69]⟩ : ByteArray) else if a0 = 4 then (⟨#[85, 78, 66, 73, 78, 68]⟩ : ByteArray) else if a0 = 5 then (⟨#[78, 86, 84, 45, 68, 65, 84, 65]⟩ : ByteArray) else if a0 = 6 then (⟨#[82, 69, 81, 85, 69, 83, 84]⟩ : ByteArray) else if a0 = 7 then (⟨#[83, 83, 67, 80, 45, 76, 85, 45, 68, 65, 84, 65]⟩ : ByteArray) else (⟨#[80, 82, 73, 78, 84, 45, 69, 79, 74]⟩ : ByteArray))) else none
set_option maxHeartbeats 4000000 in
theorem header_Name.calls (a0 : Int) (r : ByteArray) (w : World) (hGL : GL w) (h : header_Name.f a0 = some r) :
    Calls Tryd.prog 22 #[.int .u8 a0] w fun e w' => e = .returned (.string r) ∧ Below w.heap.size w w' := by
  unfold header_Name.f at h
  by_cases h0 : 0 ≤ a0 ∧ a0 ≤ 255
  case neg => rw [if_neg h0] at h; cases h
  rw [if_pos h0] at h
  by_cases c : a0 ≥ 9
  · rw [if_pos c] at h
    obtain rfl := Option.some.inj h
    have hw : wrap64 a0 = a0 := by unfold wrap64; omega
    have hd : decide (9 ≤ wrap64 a0) = true := by rw [hw]; exact decide_eq_true c
    clear hw c h h0
    go_enter Tryd.func22, Tryd.ntmps22
    go_wp2
    go_ret
    exact ⟨rfl, Below.refl _ _⟩
  · rw [if_neg c] at h
    obtain rfl := Option.some.inj h
    obtain ⟨g0, g1, g2, g3, g4, g5, g6, g7, g8⟩ := hGL
    obtain ⟨n, rfl⟩ := Int.eq_ofNat_of_zero_le h0.1
    have hn : n < 9 := by omega
    clear h h0 c
    match n, hn with
    | 0, _ =>
      go_enter Tryd.func22, Tryd.ntmps22
      go_wp2
      go_ret
      exact ⟨rfl, Below.refl _ _⟩
    | 1, _ =>
      go_enter Tryd.func22, Tryd.ntmps22
      go_wp2
      go_ret
      exact ⟨rfl, Below.refl _ _⟩
    | 2, _ =>
      go_enter Tryd.func22, Tryd.ntmps22
      go_wp2
      go_ret
      exact ⟨rfl, Below.refl _ _⟩
    | 3, _ =>
      go_enter Tryd.func22, Tryd.ntmps22
      go_wp2
      go_ret
      exact ⟨rfl, Below.refl _ _⟩
    | 4, _ =>
      go_enter Tryd.func22, Tryd.ntmps22
      go_wp2
      go_ret
      exact ⟨rfl, Below.refl _ _⟩
    | 5, _ =>
      go_enter Tryd.func22, Tryd.ntmps22
      go_wp2
      go_ret
      exact ⟨rfl, Below.refl _ _⟩
    | 6, _ =>
      go_enter Tryd.func22, Tryd.ntmps22
      go_wp2
      go_ret
      exact ⟨rfl, Below.refl _ _⟩
    | 7, _ =>
      go_enter Tryd.func22, Tryd.ntmps22
      go_wp2
      go_ret
      exact ⟨rfl, Below.refl _ _⟩
    | 8, _ =>
      go_enter Tryd.func22, Tryd.ntmps22
      go_wp2
      go_ret
      exact ⟨rfl, Below.refl _ _⟩

def bytes_Clone.f (l0 : List Int) : Option (List Int) := (some (([] : List Int) : List Int)).bind fun y160 => (if y160.length + l0.length < 140737488355328 then (some (y160 ++ l0)) else (none))
set_option maxHeartbeats 8000000 in
set_option maxRecDepth 100000 in
theorem bytes_Clone.calls (A0 : Option Addr) (c0 : Nat) (l0 : List Int) (r : List Int) (w : World) (hr0 : Kd.C (Kd.int .u8) w A0 l0.length l0) (hc0 : l0.length ≤ c0) (h : bytes_Clone.f l0 = some r) :
    Calls Tryd.prog 27 #[.slice A0 l0.length c0] w fun e w' => ∃ v0_ : Value, e = .returned (v0_) ∧ Kd.R (Kd.int .u8) 5 w' w.heap.size (fun _ => True) v0_ r ∧ Below w.heap.size w w' := by
  have HR0 := Aside0.mk hr0
  have HC0 := Aside0.mk hc0
  clear hr0 hc0
  have HB := Aside0.mk (Below.refl w.heap.size w)
  have H : ((some (([] : List Int) : List Int)).bind fun y160 => (if y160.length + l0.length < 140737488355328 then (some (y160 ++ l0)) else (none))) = some r := h
  clear h
  obtain ⟨y160, hy160⟩ : ∃ y_ : List Int, y_ = (([] : List Int)) := ⟨_, rfl⟩
  replace H : (if y160.length + l0.length < 140737488355328 then (some (y160 ++ l0)) else (none)) = some r := by first | (rw [hy160]; with_reducible exact H) | (have H2_ := (Option.bind_some _ _).symm.trans H; rw [hy160]; with_reducible exact H2_) | (have H2_ := (Option.bind_some _ _).symm.trans H; with_reducible exact H2_) | with_reducible exact H | (rw [hy160]; exact H) | exact H
  have Ny160 := Aside0.mk hy160
  clear hy160
  by_cases c2 : y160.length + l0.length < 140737488355328
  · rw [if_pos c2] at H
    have LMc2 := Aside0.mk c2
    clear c2
    obtain ⟨y163, hy163⟩ : ∃ y_ : List Int, y_ = (y160 ++ l0) := ⟨_, rfl⟩
    replace H : (some y163) = some r := by first | (rw [hy163]; with_reducible exact H) | (have H2_ := (Option.bind_some _ _).symm.trans H; rw [hy163]; with_reducible exact H2_) | (have H2_ := (Option.bind_some _ _).symm.trans H; with_reducible exact H2_) | with_reducible exact H | (rw [hy163]; exact H) | exact H
    have Ny163 := Aside0.mk hy163
    clear hy163
    obtain rfl := Option.some.inj H
    cases A0 with
    | none =>
      have hl : l0 = [] := by
        have hx := HR0.out.2.2
        cases l0 with
        | nil => rfl
        | cons x xs => exact absurd (HR0.out.2.2 (by simp)) (by simp)
      subst hl
      have hy163 := Ny163.out
      clear Ny163
      have hy : y163 = [] := by rw [hy163, Ny160.out]; rfl
      clear hy163
      have hq := fun W => Lib.run_eql_slice_nil (P := Tryd.prog) W 26 5 none 0 c0 0 0 Tryd.underlying26
      simp only [Option.isNone_none] at hq
      go_enter Tryd.func27, Tryd.ntmps27
      go_wp2
      go_ret
      exact ⟨_, rfl, Kd.R_nil _ _ _ _ _, HB.out⟩
    | some A0 =>
      have hq := fun W => Lib.run_eql_slice_nil (P := Tryd.prog) W 26 5 (some A0) l0.length c0 0 0 Tryd.underlying26
      simp only [Option.isNone_some] at hq
      go_enter Tryd.func27, Tryd.ntmps27
      go_wp2_with (first | ((with_reducible refine gate_dst (N := 5) rfl ?_); refine Kd.R_lit (Kd.int .u8) _ 5 ?hg (N := 5) ?hd (xs := ([] : List Int)) (inner := []) (ok := fun _ => True) (okp := fun _ => True) ?hr ?hp (fun _ hk => hk) trivial (Below.refl _ _) (Nat.le_refl _) (by simp) ?_; (case hd => rfl); (case hg => rfl); (case hr => first | (go_simp; done) | (go_simp; rfl)); (case hp => exact (Reps.none _ _)); intro v161 w3 ho4 hb hg_ hnew_; clear hg_ hnew_; (first | rw [← Ny160.out] at ho4 | (simp only [Int.reduceToNat] at ho4; rw [← Ny160.out] at ho4)); have n0_ := Aside0.mk (Kd.R_lower ho4 (below_size (by repeat (first | (with_reducible first | exact HB.out | apply below_alloc | apply pw_below_drewN | apply below_drew1) | exact HB.out)))); have n1_ := Aside0.mk (below_step (by repeat (first | (with_reducible first | exact HB.out | apply below_alloc | apply pw_below_drewN | apply below_drew1) | exact HB.out)) hb); clear HB; have HO162 := n0_; have HB := n1_; clear n0_ n1_; clear hb ho4) | ((with_reducible refine gate_builtin (b := .append) (xs := #[.tmp 5, .tmp 6]) rfl ?_); at_builtin; refine Kd.R_append_rows (Kd.int .u8) (w0 := w) w.heap.size rfl (.tmp 5) (.tmp 6) 26 5 (.int .u8 0) 1 rfl Tryd.underlying26 info5 rfl (by decide) (by omega) v161 y160 l0 _ _ _ (fun _ => True) (fun _ => False) rfl rfl ?aO ?aR (fun _ _ h => h) (fun _ h => h.elim) ?aF ?aB ?aS ?aL ?_; (case aR => repeat (first | exact (Kd.C_below HR0.out HB.out) | (with_reducible refine Kd.C_alloc ?_ _) | (with_reducible refine Kd.C_drewN ?_ _) | (with_reducible refine Kd.C_drew ?_))); (case aB => exact (by repeat (first | (with_reducible first | exact HB.out | apply below_alloc | apply pw_below_drewN | apply below_drew1) | exact HB.out))); (case aF => exact (fun _ _ => trivial)); (case aO => exact (by (with_reducible repeat (first | apply Kd.R_alloc | apply Kd.R_drewN | apply Kd.R_drew)); exact HO162.out)); (case aS => exact (below_size (by repeat (first | (with_reducible first | exact HB.out | apply below_alloc | apply pw_below_drewN | apply below_drew1) | exact HB.out)))); (case aL => have := LMc2.out; omega); intro v164 w5 ho hb hg hat; rw [← Ny163.out] at ho; have n0_ := Aside0.mk (hb); have n1_ := Aside0.mk (ho); clear HB; clear HO162; have HB := n0_; have HO165 := n1_; clear n0_ n1_; clear ho hb hg hat))
      go_ret
      exact ⟨_, by first | rfl | (simp [errW_none, errW_some] <;> rfl) | (simp [*, errW_none, errW_some] <;> rfl), by (with_reducible repeat (first | apply Kd.R_alloc | apply Kd.R_drewN | apply Kd.R_drew)); exact HO165.out, by repeat (first | (with_reducible first | exact HB.out | apply below_alloc | apply pw_below_drewN | apply below_drew1) | exact HB.out)⟩
  · rw [if_neg c2] at H
    exact absurd H (by simp)

end Go.Proofs.YtnncgipmfikooaaDoor.PHd
