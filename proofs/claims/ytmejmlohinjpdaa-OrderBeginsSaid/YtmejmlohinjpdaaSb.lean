/- bytes.Clone; order.scanner: text, addr, character, pair, pairs. -/
import Derived.Test.YtmejmlohinjpdaaSa
namespace Go.Proofs.Ytmejmlohinjpdaa.Sc
open Go.RowKit Go.Proofs.YtmejmlohinjpdaaW.PrintWords Go.Proofs.YtmejmlohinjpdaaW.PrintLast Go.Proofs.YtmejmlohinjpdaaW.PrintMore Go.Proofs.Ytmejmlohinjpdaa.POr
set_option linter.unusedVariables false
set_option linter.unusedSimpArgs false
def bytes_Clone.f (l0 : List Int) : Option (List Int) := (some (([] : List Int) : List Int)).bind fun y160 => (if y160.length + l0.length < 140737488355328 then (some (y160 ++ l0)) else (none))
set_option maxHeartbeats 8000000 in
set_option maxRecDepth 100000 in
theorem bytes_Clone.calls (A0 : Option Addr) (c0 : Nat) (l0 : List Int) (r : List Int) (w : World) (hr0 : Kd.C (Kd.int .u8) w A0 l0.length l0) (hc0 : l0.length ≤ c0) (h : bytes_Clone.f l0 = some r) :
    Calls Try.prog 23 #[.slice A0 l0.length c0] w fun e w' => ∃ v0_ : Value, e = .returned (v0_) ∧ Kd.R (Kd.int .u8) 5 w' w.heap.size (fun _ => True) v0_ r ∧ Below w.heap.size w w' := by
  have HR0 := Aside0.mk hr0
  have HC0 := Aside0.mk hc0
  clear hr0 hc0
  have HB := Aside0.mk (Below.refl w.heap.size w)
  have H : ((some (([] : List Int) : List Int)).bind fun y160 => (if y160.length + l0.length < 140737488355328 then (some (y160 ++ l0)) else (none))) = some r := h
  clear h
  obtain ⟨y160, hy160⟩ : ∃ y_ : List Int, y_ = (([] : List Int)) := ⟨_, rfl⟩
  replace H : (if y160.length + l0.length < 140737488355328 then (some (y160 ++ l0)) else (none)) = some r := by first | (rw [hy160]; with_reducible exact H) | (have H2_ := (Option.bind_some _ _).symm.trans H; rw [hy160]; with_reducible exact H2_) | (have H2_ := (Option.bind_some _ _).symm.trans H; with_reducible exact H2_) | with_reducible exact H | (rw [hy160]; exact H) | exact H
  have Ny160 := Aside0.mk hy160
  clear hy160
  by_cases c2 : y160.length + l0.length < 140737488355328
  · rw [if_pos c2] at H
    have LMc2 := Aside0.mk c2
    clear c2
    obtain ⟨y163, hy163⟩ : ∃ y_ : List Int, y_ = (y160 ++ l0) := ⟨_, rfl⟩
    replace H : (some y163) = some r := by first | (rw [hy163]; with_reducible exact H) | (have H2_ := (Option.bind_some _ _).symm.trans H; rw [hy163]; with_reducible exact H2_) | (have H2_ := (Option.bind_some _ _).symm.trans H; with_reducible exact H2_) | with_reducible exact H | (rw [hy163]; exact H) | exact H
    have Ny163 := Aside0.mk hy163
    clear hy163
    obtain rfl := Option.some.inj H
    cases A0 with
    | none =>
      have hl : l0 = [] := by
        have hx := HR0.out.2.2
        cases l0 with
        | nil => rfl
        | cons x xs => exact absurd (HR0.out.2.2 (by simp)) (by simp)
      subst hl
      have hy163 := Ny163.out
      clear Ny163
      have hy : y163 = [] := by rw [hy163, Ny160.out]; rfl
      clear hy163
      have hq := fun W => Lib.run_eql_slice_nil (P := Try.prog) W 26 5 none 0 c0 0 0 Try.underlying26
      simp only [Option.isNone_none] at hq
      go_enter Try.func23, Try.ntmps23
      go_wp2
      go_ret
      exact ⟨_, rfl, Kd.R_nil _ _ _ _ _, HB.out⟩
    | some A0 =>
      have hq := fun W => Lib.run_eql_slice_nil (P := Try.prog) W 26 5 (some A0) l0.length c0 0 0 Try.underlying26
      simp only [Option.isNone_some] at hq
      go_enter Try.func23, Try.ntmps23
      go_wp2_with (first | ((with_reducible refine gate_dst (N := 5) rfl ?_); refine Kd.R_lit (Kd.int .u8) _ 5 ?hg (N := 5) ?hd (xs := ([] : List Int)) (inner := []) (ok := fun _ => True) (okp := fun _ => True) ?hr ?hp (fun _ hk => hk) trivial (Below.refl _ _) (Nat.le_refl _) (by simp) ?_; (case hd => rfl); (case hg => rfl); (case hr => first | (go_simp; done) | (go_simp; rfl)); (case hp => exact (Reps.none _ _)); intro v161 w3 ho4 hb hg_ hnew_; clear hg_ hnew_; (first | rw [← Ny160.out] at ho4 | (simp only [Int.reduceToNat] at ho4; rw [← Ny160.out] at ho4)); have n0_ := Aside0.mk (Kd.R_lower ho4 (below_size (by repeat (first | (with_reducible first | exact HB.out | apply below_alloc | apply pw_below_drewN | apply below_drew1) | exact HB.out)))); have n1_ := Aside0.mk (below_step (by repeat (first | (with_reducible first | exact HB.out | apply below_alloc | apply pw_below_drewN | apply below_drew1) | exact HB.out)) hb); clear HB; have HO162 := n0_; have HB := n1_; clear n0_ n1_; clear hb ho4) | ((with_reducible refine gate_builtin (b := .append) (xs := #[.tmp 5, .tmp 6]) rfl ?_); at_builtin; refine Kd.R_append_rows (Kd.int .u8) (w0 := w) w.heap.size rfl (.tmp 5) (.tmp 6) 26 5 (.int .u8 0) 1 rfl Try.underlying26 info5 rfl (by decide) (by omega) v161 y160 l0 _ _ _ (fun _ => True) (fun _ => False) rfl rfl ?aO ?aR (fun _ _ h => h) (fun _ h => h.elim) ?aF ?aB ?aS ?aL ?_; (case aR => repeat (first | exact (Kd.C_below HR0.out HB.out) | (with_reducible refine Kd.C_alloc ?_ _) | (with_reducible refine Kd.C_drewN ?_ _) | (with_reducible refine Kd.C_drew ?_))); (case aB => exact (by repeat (first | (with_reducible first | exact HB.out | apply below_alloc | apply pw_below_drewN | apply below_drew1) | exact HB.out))); (case aF => exact (fun _ _ => trivial)); (case aO => exact (by (with_reducible repeat (first | apply Kd.R_alloc | apply Kd.R_drewN | apply Kd.R_drew)); exact HO162.out)); (case aS => exact (below_size (by repeat (first | (with_reducible first | exact HB.out | apply below_alloc | apply pw_below_drewN | apply below_drew1) | exact HB.out)))); (case aL => have := LMc2.out; omega); intro v164 w5 ho hb hg hat; rw [← Ny163.out] at ho; have n0_ := Aside0.mk (hb); have n1_ := Aside0.mk (ho); clear HB; clear HO162; have HB := n0_; have HO165 := n1_; clear n0_ n1_; clear ho hb hg hat))
      go_ret
      exact ⟨_, by first | rfl | (simp [errW_none, errW_some] <;> rfl) | (simp [*, errW_none, errW_some] <;> rfl), by (with_reducible repeat (first | apply Kd.R_alloc | apply Kd.R_drewN | apply Kd.R_drew)); exact HO165.out, by repeat (first | (with_reducible first | exact HB.out | apply below_alloc | apply pw_below_drewN | apply below_drew1) | exact HB.out)⟩
  · rw [if_neg c2] at H
    exact absurd H (by simp)

theorem clone_of (A : Option Addr) (n c : Nat) (l : List Int) (w : World) (h : Kd.C (Kd.int .u8) w A n l) (hc : n ≤ c) (hl : l.length ≤ 100000000000) :
    Calls Try.prog 23 #[.slice A n c] w fun e w' => ∃ v, e = .returned v ∧ Kd.R (Kd.int .u8) 5 w' w.heap.size (fun _ => True) v l ∧ Below w.heap.size w w' := by
  obtain rfl := h.1
  exact bytes_Clone.calls A c l l w h hc (by unfold bytes_Clone.f; rw [Option.bind_some, if_pos (by simp; omega)]; rfl)
/-- Does an order begin with it? -/
def isO (b : Int) : Bool := b == 5 || b == 8 || b == 17 || b == 18 || b == 19 || b == 29 || b == 40 || b == 41 || b == 44 || b == 60
theorem isO_is (b : Int) (h0 : 0 ≤ b) (h1 : b ≤ 255) : order_Is.f b = some (isO b) := by
  have key : ∀ n : Nat, n < 256 → order_Is.f (n : Int) = some (isO (n : Int)) := by decide +kernel
  have := key b.toNat (by omega)
  rwa [show ((b.toNat : Nat) : Int) = b by omega] at this
theorem is_of (b : Int) (h0 : 0 ≤ b) (h1 : b ≤ 255) (w : World) : Calls Try.prog 8 #[.int .u8 b] w fun e w' => e = .returned (.bool (isO b)) ∧ ∃ m, w' = w.drewN m :=
  (order_Is.calls b _ w (isO_is b h0 h1)).mono fun e w' ⟨he, hd⟩ => ⟨he, hd.out⟩
/-- How many bytes stand ahead of the next order. -/
def lead : List Int → Nat
  | [] => 0
  | b :: r => if isO b = true then 0 else lead r + 1
theorem lead_le : ∀ p : List Int, lead p ≤ p.length
  | [] => Nat.le_refl _
  | b :: r => by
    unfold lead
    split
    · exact Nat.zero_le _
    · have := lead_le r
      simp only [List.length_cons]; omega
theorem lead_at : ∀ (p : List Int) (k : Nat) (h : k < p.length), (∀ j (hj : j < k), isO (p[j]'(by omega)) = false) → (isO p[k] = true → lead p = k) ∧ (isO p[k] = false → k + 1 ≤ lead p)
  | b :: r, 0, _, _ => by
    simp only [List.getElem_cons_zero]
    unfold lead
    exact ⟨fun h => by rw [if_pos h], fun h => by rw [if_neg (by simp [h])]; omega⟩
  | b :: r, k + 1, h, hb => by
    have h0 : isO b = false := hb 0 (by omega)
    simp only [List.getElem_cons_succ]
    have ih := lead_at r k (by simpa using h) (fun j hj => by
      have := hb (j + 1) (by omega)
      simpa using this)
    unfold lead
    rw [if_neg (by simp [h0])]
    exact ⟨fun h => by rw [ih.1 h], fun h => by have := ih.2 h; omega⟩
theorem lead_all : ∀ (p : List Int), (∀ j (hj : j < p.length), isO p[j] = false) → lead p = p.length
  | [], _ => rfl
  | b :: r, hb => by
    have h0 : isO b = false := hb 0 (by simp)
    unfold lead
    rw [if_neg (by simp [h0]), lead_all r (fun j hj => by
      have := hb (j + 1) (by simpa using hj)
      simpa using this)]
    rfl
def Bytes (p : List Int) : Prop := ∀ x ∈ p, 0 ≤ x ∧ x ≤ 255
theorem rd_get (p : List Int) (k : Nat) (h : k < p.length) : rd p (k : Int) = p[k] := by unfold rd; simp [List.getD_eq_getElem?_getD, h]
theorem SS.drN {w0 W : World} {g : Nat} {p : List Int} {code : Int} (m : Nat) (h : SS w0 W g p code) : SS w0 (W.drewN m) g p code := h.heap rfl
theorem SS.dr1 {w0 W : World} {g : Nat} {p : List Int} {code : Int} (h : SS w0 W g p code) : SS w0 W.drew g p code := h.heap rfl
theorem SS.al {w0 W : World} {g : Nat} {p : List Int} {code : Int} (o : Obj) (h : SS w0 W g p code) : SS w0 (W.alloc o) g p code := h.below (below_alloc (Below.refl _ _) o)
theorem KeepBut.of_drewN (w : World) (g m : Nat) : KeepBut w (w.drewN m) g none := ⟨Nat.le_refl _, fun _ _ _ _ => rfl⟩
theorem next_i {k m : Nat} (h : k < m) (hm : m ≤ 9223372036854775807) : Value.int .i64 (wrap64 ((k : Int) + 1)) = Value.int .i64 ((k + 1 : Nat) : Int) := by
  rw [wrap_in _ (by omega) (by omega)]; rfl
theorem meas {k m : Nat} (h : k < m) (hm : m ≤ 9223372036854775807) : m - (intOf (Value.int .i64 (wrap64 ((k : Int) + 1)))).toNat < m - (intOf (Value.int .i64 (k : Int))).toNat := by
  rw [next_i h hm]
  show m - ((k + 1 : Nat) : Int).toNat < m - ((k : Nat) : Int).toNat
  rw [Int.toNat_natCast, Int.toNat_natCast]
  omega
theorem meas1 {k m : Nat} (h : k < m) : m - (intOf (Value.int .i64 ((k : Int) + 1))).toNat < m - (intOf (Value.int .i64 (k : Int))).toNat := by
  show m - ((k : Int) + 1).toNat < m - (k : Int).toNat
  omega
set_option maxHeartbeats 4000000 in
theorem text_of (g : Nat) (p : List Int) (code : Int) (hp : Bytes p) (hl : p.length ≤ 100000) (w0 w : World) (hI : SS w0 w g p code) (hB : Below w0.heap.size w0 w) :
    Calls Try.prog 17 #[.pointer (some ⟨g, 0, none⟩)] w fun e w' => ∃ v, e = .returned v ∧ Kd.R (Kd.int .u8) 5 w' w.heap.size (fun _ => True) v (p.take (lead p)) ∧ SS w0 w' g (p.drop (lead p)) code ∧ Below w0.heap.size w0 w' ∧ KeepBut w w' g none := by
  have HI := Aside0.mk hI
  have HB := Aside0.mk hB
  have HP := Aside0.mk hp
  have hm := hI.max
  clear hI hB hp
  go_enter Try.func17, Try.ntmps17
  go_wp2
  go_loopw [3] (fun v wr => ∃ k : Nat, k ≤ p.length ∧ v = .int .i64 (k : Int) ∧ Aside0 (∀ j (hj : j < k) (hj' : j < p.length), isO p[j] = false) ∧ Aside0 (∃ m, wr = w.drewN m)) (fun v _ => p.length - (intOf v).toNat)
  case atStart => exact ⟨0, by omega, rfl, ⟨fun j hj => absurd hj (by omega)⟩, ⟨0, rfl⟩⟩
  case round =>
    obtain ⟨k, hk, rfl, HA, HM⟩ := hrel
    obtain ⟨m, rfl⟩ := HM.out
    obtain ⟨A, c, hb, h1, h2, h3⟩ := HI.out
    have z0 : (w.drewN m).cell? ⟨g, 0, none⟩ = some (.slice A p.length c) := blk_cell hb 0
    by_cases ck : k < p.length
    · have cb : decide ((k : Int) < (p.length : Int)) = true := decide_eq_true (by omega)
      have cb' : decide (k < p.length) = true := decide_eq_true ck
      obtain ⟨ad, e1, hx0⟩ := Kd.at_int (Kd.C_drewN (Kd.C_below h3 HB.out) m) (k : Int) (by omega) (by omega)
      cases e1
      have hbyte := HP.out _ (List.getElem_mem ck)
      have hlat := lead_at p k ck (fun j hj => HA.out j hj (by omega))
      rw [rd_get p k ck] at hx0
      simp only [Int.toNat_natCast] at hx0
      have p0 : (0 ≤ (k : Int)) = True := eq_true (by omega)
      have q0 : ((k : Int) < (p.length : Int)) = True := eq_true (by omega)
      have HK := Aside0.mk ck
      have hq : p[k]? = some p[k] := List.getElem?_eq_getElem ck
      generalize p[k] = x at *
      have Hx := Aside0.mk hq
      clear hq
      cases hio : isO x with
      | false =>
        have C := fun W => is_of x hbyte.1 hbyte.2 W
        simp only [hio] at C
        have HC := Aside0.mk C
        have Hio := Aside0.mk hio
        clear hb h3 ck hlat C hio
        go_wp2_with (first | (go_at_call 8; refine (HC.out _).mono ?_; rintro e w2 ⟨rfl, m2, rfl⟩))
        go_roundw
        case rel =>
          refine ⟨k + 1, HK.out, ?_, ⟨fun j hj hj' => ?_⟩, ⟨⟨_, rfl⟩⟩⟩
          · first | exact next_i HK.out hm | rfl
          · rcases Nat.lt_or_ge j k with h | h
            · exact HA.out j h hj'
            · obtain rfl : j = k := by omega
              rw [(List.getElem?_eq_some_iff.1 Hx.out).2]; exact Hio.out
        case measure => exact meas1 HK.out
      | true =>
        have C := fun W => is_of x hbyte.1 hbyte.2 W
        simp only [hio] at C
        have HC := Aside0.mk C
        have HL := Aside0.mk (hlat.1 hio)
        clear hb h3 ck hlat C hio
        go_wp2_with (first | (go_at_call 8; refine (HC.out _).mono ?_; rintro e w2 ⟨rfl, m2, rfl⟩))
        refine (take_ok g k p code hk w0 _ (HI.out.drN _) (pw_below_drewN HB.out _)).mono ?_
        rintro e w3 ⟨A3, rfl, hC3, hs3, hb3, hk3⟩
        go_wp2_with fail
        refine (clone_of A3 k k (p.take k) _ (Kd.C_below hC3 hb3) (Nat.le_refl _) (by rw [List.length_take]; omega)).mono ?_
        rintro e w4 ⟨v, rfl, hv, hb4⟩
        go_wp2
        go_ret
        rw [HL.out]
        exact ⟨v, rfl, Kd.R_lower hv hk3.1, hs3.below hb4, below_step hb3 hb4, (KeepBut.of_drewN w g _).trans (hk3.trans (KeepBut.of_below hb4 g none) (.inl rfl)) (.inl rfl)⟩
    · have cb : decide ((k : Int) < (p.length : Int)) = false := decide_eq_false (by omega)
      have cb' : decide (k < p.length) = false := decide_eq_false ck
      have hkl : k = p.length := by omega
      have HL := Aside0.mk ((lead_all p (fun j hj => HA.out j (by omega) hj)).trans hkl.symm)
      clear hkl ck hb h3
      go_wp2_with fail
      refine (take_ok g k p code hk w0 _ (HI.out.drN _) (pw_below_drewN HB.out _)).mono ?_
      rintro e w3 ⟨A3, rfl, hC3, hs3, hb3, hk3⟩
      go_wp2_with fail
      refine (clone_of A3 k k (p.take k) _ (Kd.C_below hC3 hb3) (Nat.le_refl _) (by rw [List.length_take]; omega)).mono ?_
      rintro e w4 ⟨v, rfl, hv, hb4⟩
      go_wp2
      go_ret
      rw [HL.out]
      exact ⟨v, rfl, Kd.R_lower hv hk3.1, hs3.below hb4, below_step hb3 hb4, (KeepBut.of_drewN w g _).trans (hk3.trans (KeepBut.of_below hb4 g none) (.inl rfl)) (.inl rfl)⟩
end Go.Proofs.Ytmejmlohinjpdaa.Sc
