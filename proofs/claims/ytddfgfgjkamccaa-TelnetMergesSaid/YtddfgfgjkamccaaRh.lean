/- ref.add walked. -/
import Derived.Test.YtddfgfgjkamccaaRg
import Derived.Test.YtddfgfgjkamccaaPTex1
namespace Go.Proofs.Ytddfgfgjkamccaa.Tn
open Go Go.RowKit Go.Proofs.YtddfgfgjkamccaaW.PrintWords Go.Proofs.YtddfgfgjkamccaaW.PrintLast Go.Proofs.YtddfgfgjkamccaaW.PrintMore Go.Proofs.Ytddfgfgjkamccaa.PTe
set_option linter.unusedVariables false
set_option linter.unusedSimpArgs false
/-- append(v, ys...) run. -/
theorem Rows_run {α : Type} (d : Kd α) {Rr : α → List Value → Prop} {W : World} (base : Nat) (t e : TypeId) (z : Value) (bytes : Nat)
    (ht : Try.prog.underlying t = some (.slice e)) (hinfo : (Try.prog.info? e).map (fun i => (i.zero, i.size, i.bytes)) = some (some z, d.sz, bytes)) (hz : z.cells.size = d.sz) (hs0 : 0 < d.sz) (hb0 : 0 < bytes)
    (v : Value) (xs ys : List α) (A : Option Addr) (m c : Nat) {ok okp : Nat → Prop}
    (HO : d.R e W base ok v xs) (HR : ReadsRow Rr d.sz W A m ys) (hKM : ∀ x cs, Rr x cs → d.M W base okp x cs) (hokp : ∀ k, okp k → ok k ∧ some k ≠ v.ownBlock) (hfresh : ∀ k, W.heap.size ≤ k → ok k)
    (hbase : base ≤ W.heap.size) (hl : (xs.length + m) * bytes ≤ 140737488355328) :
    ∃ v1 w1, (Builtin.append_ #[t, t] t #[v, .slice A m c]).run Try.prog W = .ok v1 w1 ∧ d.R e w1 base ok v1 (xs ++ ys) ∧ W.grownBy w1 v.ownBlock ∧ (v1.ownBlock = v.ownBlock ∨ ∃ b, v1.ownBlock = some b ∧ W.heap.size ≤ b) := by
  obtain ⟨i0, hi, hzz⟩ := Option.map_eq_some_iff.1 hinfo
  simp only [Prod.mk.injEq] at hzz
  obtain ⟨hz0, hz1, hz2⟩ := hzz
  have hm : ys.length = m := HR.1
  have hlen : xs.length + m ≤ 140737488355328 := Nat.le_trans (Nat.le_mul_of_pos_right _ hb0) hl
  obtain ⟨hok, inner, hown, hr⟩ := HO
  rcases A with _ | ad
  · have h0 : m = 0 := by
      rcases Nat.eq_zero_or_pos m with h0 | h0
      · exact h0
      · obtain ⟨ad, h, _⟩ := HR.2.2 h0
        cases h
    subst h0
    obtain rfl : ys = [] := List.eq_nil_of_length_eq_zero hm
    refine ⟨v, W, ?_, by rw [List.append_nil]; exact ⟨hok, inner, hown, hr⟩, World.grownBy.refl W _, .inl rfl⟩
    rcases hown.2 with ⟨rfl, hn⟩ | ⟨g, cap, cur, rfl, _, _, hnc, _⟩
    · simp [Builtin.append_, run_underlying ht, sizeOf, typeInfo, hi, Builtin.lenOf, Builtin.firstCells]
    · simp [Builtin.append_, run_underlying ht, sizeOf, typeInfo, hi, Builtin.lenOf, Builtin.firstCells, hnc, storeCells]
  · obtain ⟨news, hnr, hnc⟩ := ReadsRow.inner_ HR
    have hnM : Reps (d.M W base okp) d.sz ys news := hnr.imp_ (fun p c hp => hKM p c hp)
    have hone : ∀ u ∈ news, u.oneCell' = true := by
      intro u hu
      obtain ⟨q, hq, rfl⟩ := List.mem_iff_getElem.1 hu
      have hql : q / d.sz < ys.length := by
        rw [Nat.div_lt_iff_lt_mul hs0]
        rw [← hnM.1]
        exact hq
      have hc := hnM.2 (q / d.sz) _ (List.getElem?_eq_getElem hql)
      refine d.K_one (d.K_of_M hc) _ ?_
      rw [List.mem_iff_getElem?]
      refine ⟨q % d.sz, ?_⟩
      rw [List.getElem?_take, if_pos (Nat.mod_lt _ hs0), List.getElem?_drop, Nat.mul_comm, Nat.div_add_mod, List.getElem?_eq_getElem hq]
    obtain ⟨v1, w1, hrun, h2, hg, _, hat⟩ := run_append_own_at (P := Try.prog) W base t t e i0 z d.sz bytes ht hi hz0 hz1 hz2 hz hs0 v xs.length inner hown ad m c news (by rw [hnM.1, hm]) hnc hone (by simp only [maxLen]; omega) hl hbase
    have hat' : v1.ownBlock = v.ownBlock ∨ ∃ b, v1.ownBlock = some b ∧ W.heap.size ≤ b := by
      rcases hat with hat | hat
      · exact .inl hat
      · exact .inr ⟨_, hat, Nat.le_refl _⟩
    have hne : ∀ k, some k ≠ v.ownBlock → k < W.heap.size → some k ≠ v1.ownBlock := by
      intro k hk hlt
      rcases hat' with hat | ⟨b, hb, hle⟩
      · rw [hat]; exact hk
      · rw [hb]
        intro he
        injection he with he
        omega
    have step : ∀ {q : α} {c : List Value} {o : Nat → Prop}, d.M W base o q c → (∀ k, o k → ok k ∧ some k ≠ v.ownBlock) → d.M w1 base (fun k => ok k ∧ some k ≠ v1.ownBlock) q c := by
      intro q c o hq ho
      have h1 := d.M_move (w1 := w1) (fun k hk => hg.block k hk.2.2.1 (ho k hk.1).2) (d.M_bound hq)
      exact d.M_mono (fun k hk => ⟨(ho k hk.1).1, hne k (ho k hk.1).2 hk.2.2.1⟩) h1
    refine ⟨v1, w1, hrun, ⟨fun k hk => ?_, inner ++ news, by rw [List.length_append, hm]; exact h2, Kd.reps_append (hr.imp_ (fun _ _ hq => step hq (fun _ hk => hk))) (hnM.imp_ (fun _ _ hq => step hq hokp))⟩, hg, hat'⟩
    rcases hat' with hat | ⟨b, hb, hle⟩
    · exact hok k (hat ▸ hk)
    · rw [hb] at hk
      injection hk with hk
      exact hfresh k (by omega)
theorem info35 : (Try.prog.info? 35).map (fun i => (i.zero, i.size, i.bytes)) = some (some (.agg #[.int .i64 0, .int .u8 0, .int .u8 0, .slice none 0 0, .bool false, .bool false]), 6, 48) := by kernel_rfl
/-- The first ones of a row that is read. -/
theorem rows_take {α : Type} {Rr : α → List Value → Prop} {sz : Nat} {w : World} {A : Option Addr} {xs : List α} (h : ReadsRow Rr sz w A xs.length xs) (n : Nat) (hn : n ≤ xs.length) : ReadsRow Rr sz w A n (xs.take n) := by
  have hl : (xs.take n).length = n := by rw [List.length_take]; omega
  refine ⟨hl, by have := h.2.1; omega, fun hp => ?_⟩
  obtain ⟨ad, e, hc⟩ := h.2.2 (by omega)
  refine ⟨ad, e, fun j p hj => ?_⟩
  have hj2 : xs[j]? = some p := by
    rw [List.getElem?_take] at hj
    split at hj
    · exact hj
    · simp at hj
  exact hc j p hj2
def lastD (xs : List S35) : S35 := rd_T35 xs ((xs.length - 1 : Nat) : Int)
def addF (xs : List S35) (e : S35) : List S35 := if e.f0 = 0 ∧ 0 < xs.length ∧ (lastD xs).f0 = 0 then xs.take (xs.length - 1) ++ [⟨0, 0, 0, (lastD xs).f3 ++ e.f3, false, false⟩] else xs ++ [e]
theorem k35_E : k35.E = [5] := rfl
theorem ne_typed {w : World} {g : Nat} {t : TypeId} {cs : Array Value} {fr : Nat × Nat} {α : Type} {d : Kd α} {e : Nat} {B : Nat} {ok : Nat → Prop} {v : Value} {xs : List α} (hb : w.heap[g]? = some (.cells cs t fr)) (h : Kd.R d e w B ok v xs) (he : e ≠ t) : some g ≠ v.ownBlock := by
  intro hk
  obtain ⟨c1, e1⟩ := Kd.R_typed h g hk.symm
  rw [e1] at hb
  injection hb with hb
  injection hb with _ hb
  exact he hb
/-- The rows of events, to be appended. -/
theorem reads35 {w : World} {B : Nat} {ok : Nat → Prop} {A : Option Addr} {n c : Nat} {xs : List S35} (h : Kd.R k35 35 w B ok (.slice A n c) xs) : ReadsRow (k35.M w B (fun k => ok k ∧ ∃ cells, w.heap[k]? = some (.cells cells 5 (0, 0)))) 6 w A n xs := by
  obtain ⟨A', c', e, hc, hr⟩ := OwnRow.reads h.2
  injection e with e1 e2 e3
  subst e1 e2 e3
  obtain ⟨h0, h1, h2⟩ := hr
  refine ⟨h0, h1, fun hp => ?_⟩
  obtain ⟨ad, he, hx⟩ := h2 hp
  refine ⟨ad, he, fun j p hj => ?_⟩
  obtain ⟨cs, hln, hM, hcs⟩ := hx j p hj
  refine ⟨cs, hln, k35.M_mono (fun k hk => ?_) (k35.M_bound hM), hcs⟩
  obtain ⟨hk1, _, _, q, hq, cells, hcl⟩ := hk
  refine ⟨hk1.1, cells, ?_⟩
  have : q = 5 := by simpa [k35_E] using hq
  rw [← this]; exact hcl
theorem run35 {w0 w : World} {B : Nat} {A : Option Addr} {m c : Nat} {v : Value} {xs ys : List S35} (h : Kd.R k35 35 w B (fun _ => True) v xs) (hr : ReadsRow (k35.M w B (fun k => True ∧ ∃ cells, w.heap[k]? = some (.cells cells 5 (0, 0)))) 6 w A m ys)
    (hb : Below w0.heap.size w0 w) (hB : B ≤ w.heap.size) (hv : ∀ k, v.ownBlock = some k → w0.heap.size ≤ k) (hl : xs.length + m ≤ 1000000) :
    ∃ v1 w1, (Builtin.append_ #[25, 25] 25 #[v, .slice A m c]).run Try.prog w = .ok v1 w1 ∧ Kd.R k35 35 w1 B (fun _ => True) v1 (xs ++ ys) ∧ Below w0.heap.size w0 w1 ∧ w.grownBy w1 v.ownBlock ∧ (∀ k, v1.ownBlock = some k → w0.heap.size ≤ k) := by
  obtain ⟨v1, w1, h1, h2, h3, h4⟩ := Rows_run k35 (W := w) B 25 35 _ 48 Try.underlying25 info35 rfl (by decide) (by decide) v xs ys A m c (ok := fun _ => True) (okp := fun k => True ∧ ∃ cells, w.heap[k]? = some (.cells cells 5 (0, 0))) h hr (fun _ _ hm => hm)
    (fun k hk => ⟨trivial, by obtain ⟨_, cells, hc⟩ := hk; exact ne_typed hc h (by decide)⟩) (fun _ _ => trivial) hB (by omega)
  refine ⟨v1, w1, h1, h2, hb.grown h3 hb.size hv, h3, fun k hk => ?_⟩
  rcases h4 with h4 | ⟨b, hb4, hle⟩
  · exact hv k (by rw [← h4]; exact hk)
  · rw [hb4] at hk; injection hk with hk; have := hb.size; omega
theorem R5_ne35 {w : World} {B B' : Nat} {ok ok' : Nat → Prop} {v u : Value} {xs : List Int} {ys : List S35} (h : Kd.R kB 5 w B ok v xs) (h' : Kd.R k35 35 w B' ok' u ys) : ∀ k, v.ownBlock = some k → some k ≠ u.ownBlock := by
  intro k hk he
  obtain ⟨c1, e1⟩ := Kd.R_typed h k hk
  obtain ⟨c2, e2⟩ := Kd.R_typed h' k he.symm
  rw [e1] at e2
  injection e2 with e2
  injection e2 with _ e2
  exact absurd e2 (by decide)
theorem add_plain (B : Nat) (A : Option Addr) (c : Nat) (xs : List S35) (e : S35) (A3 : Option Addr) (c3 : Nat) (w : World) (h : Kd.R k35 35 w B (fun _ => True) (.slice A xs.length c) xs) (h3 : Kd.R kB 5 w B (fun _ => True) (.slice A3 e.f3.length c3) e.f3) (hB : B ≤ w.heap.size) (hl : xs.length ≤ 100000) :
    ∃ A7 n7 c7 w4, (Builtin.append_ #[25, 25] 25 #[.slice A xs.length c, .slice (some ⟨w.heap.size + 1, 0, none⟩) 1 1]).run Try.prog ((w.alloc (.cells #[.int .i64 e.f0, .int .u8 e.f1, .int .u8 e.f2, .slice A3 e.f3.length c3, .bool e.f4, .bool e.f5] 35)).alloc (.cells #[.int .i64 e.f0, .int .u8 e.f1, .int .u8 e.f2, .slice A3 e.f3.length c3, .bool e.f4, .bool e.f5] 35)) = .ok (.slice A7 n7 c7) w4 ∧ Kd.R k35 35 w4 B (fun _ => True) (.slice A7 n7 c7) (xs ++ [e]) ∧ Below B w w4 := by
  have hb : Below w.heap.size w (w.alloc (.cells #[.int .i64 e.f0, .int .u8 e.f1, .int .u8 e.f2, .slice A3 e.f3.length c3, .bool e.f4, .bool e.f5] 35)) := below_alloc (Below.refl _ _) _
  have h' := Kd.R_below h hb
  have h3' := Kd.R_below h3 hb
  obtain ⟨v7, w4, hrun, hR7, hB7, hg7, hat⟩ := R_run k35 (W := w.alloc (.cells #[.int .i64 e.f0, .int .u8 e.f1, .int .u8 e.f2, .slice A3 e.f3.length c3, .bool e.f4, .bool e.f5] 35)) (p := e) (cs := [.int .i64 e.f0, .int .u8 e.f1, .int .u8 e.f2, .slice A3 e.f3.length c3, .bool e.f4, .bool e.f5]) B 25 35 _ 48 Try.underlying25 info35 rfl (by decide) (by decide) (ok := fun _ => True) (okp := fun k => (Value.slice A3 e.f3.length c3).ownBlock = some k)
    (k35_mkM _ _ _ e (Kd.R_mono (Kd.R_tight kB_E h3') (fun k hk => hk.symm))) (fun k hk => ⟨trivial, R5_ne35 h3' h' k hk⟩) (fun _ _ => trivial) h' (by simp; omega) (by omega)
  obtain ⟨A7, n7, c7, rfl⟩ : ∃ A n c, v7 = .slice A n c := by obtain ⟨A, c, e⟩ := Kd.R_slice hR7; exact ⟨A, _, c, e⟩
  refine ⟨A7, n7, c7, w4, by simpa using hrun, hR7, (hb.mono hB).trans hB7⟩
theorem copy_ok (l : List Int) (hl : l.length ≤ 1000000) : vitrineref01_Copy.f l = some l := by
  unfold vitrineref01_Copy.f
  rw [Option.bind_some, if_pos (by simp; omega)]
  simp
theorem rd_mem (xs : List S35) (h : 0 < xs.length) : rd_T35 xs ((xs.length - 1 : Nat) : Int) ∈ xs := by
  unfold rd_T35
  rw [Int.toNat_natCast, List.getD_eq_getElem?_getD, List.getElem?_eq_getElem (by omega)]
  exact List.getElem_mem _
theorem below_weak {w W : World} (h : Below w.heap.size w W) : Below w.heap.size w W := h
def Added (B : Nat) (xs : List S35) (e : S35) (w : World) (r : Ending) (w' : World) : Prop := ∃ A' c', r = .returned (.slice A' (addF xs e).length c') ∧ Kd.R k35 35 w' B (fun _ => True) (.slice A' (addF xs e).length c') (addF xs e) ∧ Below B w w'
set_option maxHeartbeats 8000000 in
theorem add_of (B : Nat) (A : Option Addr) (c : Nat) (xs : List S35) (e : S35) (A3 : Option Addr) (c3 : Nat) (w : World) (h : Kd.R k35 35 w B (fun _ => True) (.slice A xs.length c) xs) (h3 : Kd.R kB 5 w B (fun _ => True) (.slice A3 e.f3.length c3) e.f3) (hB : B ≤ w.heap.size) (hl : xs.length ≤ 100000) (hd : ∀ x ∈ xs, x.f3.length ≤ 100000) (he : e.f3.length ≤ 100000) :
    Calls Try.prog 26 #[.slice A xs.length c, .agg #[.int .i64 e.f0, .int .u8 e.f1, .int .u8 e.f2, .slice A3 e.f3.length c3, .bool e.f4, .bool e.f5]] w (Added B xs e w) := by
  have hC := (Kd.R_reads' h).2.2
  obtain ⟨A7, n7, c7, w4, hrun, hR7, hB7⟩ := add_plain B A c xs e A3 c3 w h h3 hB hl
  have n0 : wrap64 ((xs.length : Int) - 1) = (xs.length : Int) - 1 := wrap_in _ (by omega) (by omega)
  have n1 : IntKind.i64.wrap ((xs.length : Int) - 1) = (xs.length : Int) - 1 := (i64_w _).trans n0
  have hlast : 0 < xs.length → ∃ ad A5 c5, A = some ad ∧ w.cell? (ad.add ((xs.length - 1) * 6)) = some (.int .i64 (lastD xs).f0) ∧ w.cell? ⟨(ad.add ((xs.length - 1) * 6)).block, (ad.add ((xs.length - 1) * 6)).off + 3, none⟩ = some (.slice A5 (lastD xs).f3.length c5) ∧ Kd.C kB w A5 (lastD xs).f3.length (lastD xs).f3 ∧ (lastD xs).f3.length ≤ c5 := by
    intro hp
    have hn : ((xs.length - 1 : Nat) : Int) = (xs.length : Int) - 1 := by omega
    obtain ⟨ad, A5, c5, h0, h1, h2, h3, h4, h5, h6, h7, h8⟩ := at_T35 hC ((xs.length - 1 : Nat) : Int) (by omega) (by omega)
    have hj : ((xs.length - 1 : Nat) : Int).toNat = xs.length - 1 := Int.toNat_natCast _
    rw [hj] at h1 h4
    exact ⟨ad, A5, c5, h0, h1, h4, h8, h7⟩
  by_cases c0 : e.f0 = 0
  · have t0 : (e.f0 == 0) = true := by simpa using c0
    have t0' : decide (e.f0 = 0) = true := decide_eq_true c0
    by_cases c1 : 0 < xs.length
    · have t1 : decide ((xs.length : Int) > 0) = true := decide_eq_true (by omega)
      have t1' : decide (0 < xs.length) = true := decide_eq_true (by omega)
      have i0 : ((0 : Int) ≤ (xs.length : Int) - 1) = True := eq_true (by omega)
      have i1 : ((xs.length : Int) - 1 < (xs.length : Int)) = True := eq_true (by omega)
      have i2 : ((xs.length : Int) < 1) = False := eq_false (by omega)
      by_cases c2 : (lastD xs).f0 = 0
      · have HE : addF xs e = xs.take (xs.length - 1) ++ [⟨0, 0, 0, (lastD xs).f3 ++ e.f3, false, false⟩] := by unfold addF; rw [if_pos ⟨c0, c1, c2⟩]
        have t2 : ((lastD xs).f0 == 0) = true := by simpa using c2
        have t2' : decide ((lastD xs).f0 = 0) = true := decide_eq_true c2
        obtain ⟨ad, A5, c5, rfl, z0, z3, hC5, l5⟩ := hlast c1
        have y0 : (w.alloc (.cells #[.int .i64 e.f0, .int .u8 e.f1, .int .u8 e.f2, .slice A3 e.f3.length c3, .bool e.f4, .bool e.f5] 35)).cell? (ad.add ((xs.length - 1) * 6)) = some (.int .i64 (lastD xs).f0) := cell_al _ z0
        have hb0 : Below w.heap.size w (w.alloc (.cells #[.int .i64 e.f0, .int .u8 e.f1, .int .u8 e.f2, .slice A3 e.f3.length c3, .bool e.f4, .bool e.f5] 35)) := below_alloc (Below.refl _ _) _
        replace z3 := pw_cell_below hb0 z3
        have x3 : (w.alloc (.cells #[.int .i64 e.f0, .int .u8 e.f1, .int .u8 e.f2, .slice A3 e.f3.length c3, .bool e.f4, .bool e.f5] 35)).cell? ⟨w.heap.size, 3, none⟩ = some (.slice A3 e.f3.length c3) := (blk_cell (blk_new w _) 3).trans rfl
        replace hC5 := Kd.C_below hC5 hb0
        have hC3 := Kd.C_below (Kd.R_reads' h3).2.2 hb0
        replace h := Kd.R_below h hb0
        have hbl := Aside0.mk hb0
        have hB0 : B ≤ w.heap.size := hB
        clear hB
        have hBs : B ≤ (w.alloc (.cells #[.int .i64 e.f0, .int .u8 e.f1, .int .u8 e.f2, .slice A3 e.f3.length c3, .bool e.f4, .bool e.f5] 35)).heap.size := Nat.le_trans hB0 hb0.size
        have hdl : (lastD xs).f3.length ≤ 100000 := hd _ (by unfold lastD; exact rd_mem xs c1)
        have HCP := Aside0.mk (copy_ok (lastD xs).f3 (by omega))
        have HEE := Aside0.mk HE
        have HC1 := Aside0.mk c1
        have HH := Aside0.mk h
        have HCC := Aside0.mk (Kd.R_reads' h).2.1
        clear h h3 hC hR7 hB7 HE c0 c1 c2 hlast z0 hrun hb0 hd
        go_enter Try.func26, Try.ntmps26
        go_wp2
        case isFalse => exact absurd HC1.out (by omega)
        generalize w.alloc (.cells #[.int .i64 e.f0, .int .u8 e.f1, .int .u8 e.f2, .slice A3 e.f3.length c3, .bool e.f4, .bool e.f5] 35) = w1 at *
        generalize w.heap.size = g0 at *
        have hB := below_drew (Below.refl w1.heap.size w1)
        clear y0
        refine start_ (n := 13) (S := fun w' => w'.cell? ⟨(ad.add ((xs.length - 1) * 6)).block, (ad.add ((xs.length - 1) * 6)).off + 3, none⟩ = some (.slice A5 (lastD xs).f3.length c5) ∧ w'.cell? ⟨g0, 3, none⟩ = some (.slice A3 e.f3.length c3)) (ds := [12]) #[false, false, false, false, false, false, false, false, false, false, false, false, false] (by kernel_rfl) rfl rfl ⟨cell_dr1 z3, cell_dr1 x3⟩ (fun hHeld => ?_)
        refine pure_ (i := 0) (N := some 25) (v := ?_) (a' := ?_) #[true, false, false, false, false, false, false, false, false, false, false, false, false] rfl rfl (by kernel_rfl) (fun _ _ _ h => h) (Or.inl ⟨by rfl, ?_⟩) ?_ ?_
        rotate_left
        · intro w'
          go_simp
          with_reducible rfl
        rotate_left
        · simp only [Act.put, List.setIfInBounds_toArray, List.set_cons_zero, List.set_cons_succ, i64_w, i32_w]
          rfl
        refine pure_ (i := 1) (N := some 26) (v := ?_) (a' := ?_) #[true, true, false, false, false, false, false, false, false, false, false, false, false] rfl rfl (by kernel_rfl) (fun _ _ _ h => h) (Or.inl ⟨by rfl, ?_⟩) ?_ ?_
        rotate_left
        · intro w'
          go_simp
          with_reducible rfl
        rotate_left
        · simp only [Act.put, List.setIfInBounds_toArray, List.set_cons_zero, List.set_cons_succ, i64_w, i32_w]
          rfl
        refine pure_ (i := 2) (N := some 27) (v := ?_) (a' := ?_) #[true, true, true, false, false, false, false, false, false, false, false, false, false] rfl rfl (by kernel_rfl) (fun _ _ _ h => h) (Or.inl ⟨by rfl, ?_⟩) ?_ ?_
        rotate_left
        · intro w'
          go_simp
          with_reducible rfl
        rotate_left
        · simp only [Act.put, List.setIfInBounds_toArray, List.set_cons_zero, List.set_cons_succ, i64_w, i32_w]
          rfl
        refine pure_ (i := 3) (N := some 28) (v := ?_) (a' := ?_) #[true, true, true, true, false, false, false, false, false, false, false, false, false] rfl rfl (by kernel_rfl) (fun _ _ _ h => h) (Or.inl ⟨by rfl, ?_⟩) ?_ ?_
        rotate_left
        · intro w'
          go_simp
          with_reducible rfl
        rotate_left
        · simp only [Act.put, List.setIfInBounds_toArray, List.set_cons_zero, List.set_cons_succ, i64_w, i32_w]
          rfl
        refine pure_ (i := 4) (N := some 29) (v := ?_) (a' := ?_) #[true, true, true, true, true, false, false, false, false, false, false, false, false] rfl rfl (by kernel_rfl) (fun _ _ _ h => h) (Or.inl ⟨by rfl, ?_⟩) ?_ ?_
        rotate_left
        · intro w'
          go_simp
          with_reducible rfl
        rotate_left
        · simp only [Act.put, List.setIfInBounds_toArray, List.set_cons_zero, List.set_cons_succ, i64_w, i32_w]
          rfl
        refine pure_ (i := 7) (N := some 32) (v := ?_) (a' := ?_) #[true, true, true, true, true, false, false, true, false, false, false, false, false] rfl rfl (by kernel_rfl) (fun _ _ _ h => h) (Or.inl ⟨by rfl, ?_⟩) ?_ ?_
        rotate_left
        · intro w'
          go_simp
          with_reducible rfl
        rotate_left
        · simp only [Act.put, List.setIfInBounds_toArray, List.set_cons_zero, List.set_cons_succ, i64_w, i32_w]
          rfl
        refine take_ (i := 5) (N := some 30) (v := ?_) (a' := ?_) #[true, true, true, true, true, true, false, true, false, false, false, false, false] rfl rfl (by kernel_rfl) (fun _ _ _ h => h) (Or.inl ⟨by rfl, ?_⟩) hHeld ?_ ?_
        rotate_left
        · rintro w' ⟨s0, s1⟩
          go_simp
          with_reducible rfl
        rotate_left
        · simp only [Act.put, List.setIfInBounds_toArray, List.set_cons_zero, List.set_cons_succ, i64_w, i32_w]
          rfl
        refine take_ (i := 8) (N := some 33) (v := ?_) (a' := ?_) #[true, true, true, true, true, true, false, true, true, false, false, false, false] rfl rfl (by kernel_rfl) (fun _ _ _ h => h) (Or.inl ⟨by rfl, ?_⟩) hHeld ?_ ?_
        rotate_left
        · rintro w' ⟨s0, s1⟩
          go_simp
          with_reducible rfl
        rotate_left
        · simp only [Act.put, List.setIfInBounds_toArray, List.set_cons_zero, List.set_cons_succ, i64_w, i32_w]
          rfl
        refine join_ (σ := Value × (Option Addr × Nat) × Nat) 1 #[true, true, true, true, true, true, true, true, true, true, true, true, false] (fun s => [(31, s.1), (34, .slice s.2.1.1 ((lastD xs).f3.length + e.f3.length) s.2.1.2), (35, .agg #[.int .i64 0, .int .u8 0, .int .u8 0, .slice s.2.1.1 ((lastD xs).f3.length + e.f3.length) s.2.1.2, .bool false, .bool false]), (6, .pointer (some ⟨s.2.2, 0, none⟩))]) (fun s w' => Kd.R kB 5 w' w1.heap.size (fun _ => True) (.slice s.2.1.1 ((lastD xs).f3.length + e.f3.length) s.2.1.2) ((lastD xs).f3 ++ e.f3) ∧ Below w1.heap.size w1 w' ∧ w'.heap[s.2.2]? = some (.cells #[.int .i64 0, .int .u8 0, .int .u8 0, .slice none 0 0, .bool false, .bool false] 35 (0, 0)) ∧ w1.heap.size ≤ s.2.2 ∧ w'.cell? ⟨(ad.add ((xs.length - 1) * 6)).block, (ad.add ((xs.length - 1) * 6)).off + 3, none⟩ = some (.slice A5 (lastD xs).f3.length c5) ∧ w'.cell? ⟨g0, 3, none⟩ = some (.slice A3 e.f3.length c3)) ?_ ?_
        rotate_left
        · intro hCont
          refine two_ (i := 6) (j := 11) (Ni := some 31) (Nj := some 6) #[true, true, true, true, true, true, true, true, true, false, false, false, false] #[true, true, true, true, true, true, false, true, true, false, false, true, false] rfl rfl rfl rfl (by kernel_rfl) (by decide) (by decide) (fun K hK => ?_) (fun K hK => ?_)
          · skip
            refine goes_ Try.func14 (by kernel_rfl) rfl #[.slice A5 (lastD xs).f3.length c5] (by rfl) rfl rfl (by simp only [List.map_toArray, List.map_cons, List.map_nil]; rfl) ?_
            with_reducible refine ((vitrineref01_Copy.calls A5 c5 (lastD xs).f3 (lastD xs).f3 _ (Kd.C_below hC5 (below_weak hB)) l5 HCP.out)).mono ?_
            rintro e w6 ⟨v6, rfl, hR6, hb6⟩
            refine ⟨_, rfl, ?_⟩
            replace hR6 := Kd.R_lower hR6 hB.size
            replace hB := below_step hB hb6
            refine hK.out _ _ ⟨pw_cell_below hb6 hHeld.1, pw_cell_below hb6 hHeld.2⟩ (fun hHeld => ?_)
            clear hK K
            refine norm_ (a' := ?_) ?_ ?_
            rotate_left
            · show Act.put _ (some 31) _ = _
              simp only [Act.put, List.setIfInBounds_toArray, List.set_cons_zero, List.set_cons_succ, i64_w, i32_w]
              rfl
            refine two_ (i := 9) (j := 11) (Ni := some 34) (Nj := some 6) #[true, true, true, true, true, true, true, true, true, true, false, false, false] #[true, true, true, true, true, true, true, true, true, false, false, true, false] rfl rfl rfl rfl (by kernel_rfl) (by decide) (by decide) (fun K hK => ?_) (fun K hK => ?_)
            · skip
              obtain ⟨v9, w9, hr9, hR9, hg9, hat9⟩ := Rows_run kB w1.heap.size 22 5 _ 1 Try.underlying22 info5 rfl (by decide) (by decide) v6 (lastD xs).f3 e.f3 A3 e.f3.length c3 (ok := fun _ => True) (okp := fun _ => False) hR6 (Kd.C_below hC3 (below_weak hB)) (fun _ _ hh => hh) (fun _ hk => hk.elim) (fun _ _ => trivial) hB.size (by omega)
              obtain ⟨A4, c4, rfl⟩ := Kd.R_slice hR9
              have hn4 : ((lastD xs).f3 ++ e.f3).length = (lastD xs).f3.length + e.f3.length := List.length_append
              rw [hn4] at hR9 hr9
              refine value_ (w1 := w9) (v := .slice A4 ((lastD xs).f3.length + e.f3.length) c4) (by rfl) rfl ?_ ?_
              · exact exec_append' (.tmp 31) (.tmp 33) 22 hr9 (by rfl) (by rfl) (by rfl) (by rfl)
              have hB9 : Below w1.heap.size w1 w9 := hB.grown hg9 hB.size (fun k hk => Kd.R_base hR6 k hk)
              have hs1 := hHeld.1
              have hs2 := hHeld.2
              have q1 : w9.cell? _ = _ := pw_cell_below (below_weak hB9) z3
              have q2 : w9.cell? _ = _ := pw_cell_below (below_weak hB9) x3
              clear hB
              have hB := hB9
              clear hB9 hr9
              refine hK.out _ _ ⟨q1, q2⟩ (fun hHeld => ?_)
              clear hK K
              refine norm_ (a' := ?_) ?_ ?_
              rotate_left
              · show Act.put _ (some 34) _ = _
                simp only [Act.put, List.setIfInBounds_toArray, List.set_cons_zero, List.set_cons_succ, i64_w, i32_w]
                rfl
              refine pure_ (i := 10) (N := some 35) (v := ?_) (a' := ?_) #[true, true, true, true, true, true, true, true, true, true, true, false, false] rfl rfl (by kernel_rfl) (fun _ _ _ h => h) (Or.inl ⟨by rfl, ?_⟩) ?_ ?_
              rotate_left
              · intro w'
                go_simp
                with_reducible rfl
              rotate_left
              · simp only [Act.put, List.setIfInBounds_toArray, List.set_cons_zero, List.set_cons_succ, i64_w, i32_w]
                rfl
              refine one_ (i := 11) (N := some 6) #[true, true, true, true, true, true, true, true, true, true, true, true, false] rfl rfl (by kernel_rfl) (by decide) (fun K hK => ?_)
              refine box_step (cs := #[.int .i64 0, .int .u8 0, .int .u8 0, .slice none 0 0, .bool false, .bool false]) (t := 35) (by rfl) rfl (by go_simp) ?_
              intro g6 hg6 w7 hx6 hb7
              have hge : w1.heap.size ≤ g6 := by rw [hg6]; exact hB.size
              replace hR9 := Kd.R_below hR9 hb7
              replace hB := below_step hB hb7
              clear hg6
              refine hK.out _ _ ⟨pw_cell_below hb7 hHeld.1, pw_cell_below hb7 hHeld.2⟩ (fun hHeld => ?_)
              clear hK K
              refine norm_ (a' := ?_) ?_ ?_
              rotate_left
              · show Act.put _ (some 6) _ = _
                simp only [Act.put, List.setIfInBounds_toArray, List.set_cons_zero, List.set_cons_succ, i64_w, i32_w]
                rfl
              exact norm_ (by simp only [putAll, Act.put, List.setIfInBounds_toArray, List.set_cons_zero, List.set_cons_succ]) (hCont (v6, (A4, c4), g6) _ ⟨hR9, hB, hx6, hge, hHeld⟩)
            · skip
              refine box_step (cs := #[.int .i64 0, .int .u8 0, .int .u8 0, .slice none 0 0, .bool false, .bool false]) (t := 35) (by rfl) rfl (by go_simp) ?_
              intro g6 hg6 w7 hx6 hb7
              have hge : w1.heap.size ≤ g6 := by rw [hg6]; exact hB.size
              replace hR6 := Kd.R_below hR6 hb7
              replace hB := below_step hB hb7
              clear hg6
              refine hK.out _ _ ⟨pw_cell_below hb7 hHeld.1, pw_cell_below hb7 hHeld.2⟩ (fun hHeld => ?_)
              clear hK K
              refine norm_ (a' := ?_) ?_ ?_
              rotate_left
              · show Act.put _ (some 6) _ = _
                simp only [Act.put, List.setIfInBounds_toArray, List.set_cons_zero, List.set_cons_succ, i64_w, i32_w]
                rfl
              refine one_ (i := 9) (N := some 34) #[true, true, true, true, true, true, true, true, true, true, false, true, false] rfl rfl (by kernel_rfl) (by decide) (fun K hK => ?_)
              obtain ⟨v9, w9, hr9, hR9, hg9, hat9⟩ := Rows_run kB w1.heap.size 22 5 _ 1 Try.underlying22 info5 rfl (by decide) (by decide) v6 (lastD xs).f3 e.f3 A3 e.f3.length c3 (ok := fun _ => True) (okp := fun _ => False) hR6 (Kd.C_below hC3 (below_weak hB)) (fun _ _ hh => hh) (fun _ hk => hk.elim) (fun _ _ => trivial) hB.size (by omega)
              obtain ⟨A4, c4, rfl⟩ := Kd.R_slice hR9
              have hn4 : ((lastD xs).f3 ++ e.f3).length = (lastD xs).f3.length + e.f3.length := List.length_append
              rw [hn4] at hR9 hr9
              refine value_ (w1 := w9) (v := .slice A4 ((lastD xs).f3.length + e.f3.length) c4) (by rfl) rfl ?_ ?_
              · exact exec_append' (.tmp 31) (.tmp 33) 22 hr9 (by rfl) (by rfl) (by rfl) (by rfl)
              have hB9 : Below w1.heap.size w1 w9 := hB.grown hg9 hB.size (fun k hk => Kd.R_base hR6 k hk)
              replace hx6 := blk_grown hx6 hg9 (ne_typed hx6 hR6 (by decide))
              have hs1 := hHeld.1
              have hs2 := hHeld.2
              have q1 : w9.cell? _ = _ := pw_cell_below (below_weak hB9) z3
              have q2 : w9.cell? _ = _ := pw_cell_below (below_weak hB9) x3
              clear hB
              have hB := hB9
              clear hB9 hr9
              refine hK.out _ _ ⟨q1, q2⟩ (fun hHeld => ?_)
              clear hK K
              refine norm_ (a' := ?_) ?_ ?_
              rotate_left
              · show Act.put _ (some 34) _ = _
                simp only [Act.put, List.setIfInBounds_toArray, List.set_cons_zero, List.set_cons_succ, i64_w, i32_w]
                rfl
              refine pure_ (i := 10) (N := some 35) (v := ?_) (a' := ?_) #[true, true, true, true, true, true, true, true, true, true, true, true, false] rfl rfl (by kernel_rfl) (fun _ _ _ h => h) (Or.inl ⟨by rfl, ?_⟩) ?_ ?_
              rotate_left
              · intro w'
                go_simp
                with_reducible rfl
              rotate_left
              · simp only [Act.put, List.setIfInBounds_toArray, List.set_cons_zero, List.set_cons_succ, i64_w, i32_w]
                rfl
              exact norm_ (by simp only [putAll, Act.put, List.setIfInBounds_toArray, List.set_cons_zero, List.set_cons_succ]) (hCont (v6, (A4, c4), g6) _ ⟨hR9, hB, hx6, hge, hHeld⟩)
          · skip
            refine box_step (cs := #[.int .i64 0, .int .u8 0, .int .u8 0, .slice none 0 0, .bool false, .bool false]) (t := 35) (by rfl) rfl (by go_simp) ?_
            intro g6 hg6 w7 hx6 hb7
            have hge : w1.heap.size ≤ g6 := by rw [hg6]; exact hB.size
            replace hB := below_step hB hb7
            clear hg6
            refine hK.out _ _ ⟨pw_cell_below hb7 hHeld.1, pw_cell_below hb7 hHeld.2⟩ (fun hHeld => ?_)
            clear hK K
            refine norm_ (a' := ?_) ?_ ?_
            rotate_left
            · show Act.put _ (some 6) _ = _
              simp only [Act.put, List.setIfInBounds_toArray, List.set_cons_zero, List.set_cons_succ, i64_w, i32_w]
              rfl
            refine one_ (i := 6) (N := some 31) #[true, true, true, true, true, true, true, true, true, false, false, true, false] rfl rfl (by kernel_rfl) (by decide) (fun K hK => ?_)
            refine goes_ Try.func14 (by kernel_rfl) rfl #[.slice A5 (lastD xs).f3.length c5] (by rfl) rfl rfl (by simp only [List.map_toArray, List.map_cons, List.map_nil]; rfl) ?_
            with_reducible refine ((vitrineref01_Copy.calls A5 c5 (lastD xs).f3 (lastD xs).f3 _ (Kd.C_below hC5 (below_weak hB)) l5 HCP.out)).mono ?_
            rintro e w6 ⟨v6, rfl, hR6, hb6⟩
            refine ⟨_, rfl, ?_⟩
            replace hR6 := Kd.R_lower hR6 hB.size
            replace hB := below_step hB hb6
            replace hx6 := blk_below hx6 hb6
            refine hK.out _ _ ⟨pw_cell_below hb6 hHeld.1, pw_cell_below hb6 hHeld.2⟩ (fun hHeld => ?_)
            clear hK K
            refine norm_ (a' := ?_) ?_ ?_
            rotate_left
            · show Act.put _ (some 31) _ = _
              simp only [Act.put, List.setIfInBounds_toArray, List.set_cons_zero, List.set_cons_succ, i64_w, i32_w]
              rfl
            refine one_ (i := 9) (N := some 34) #[true, true, true, true, true, true, true, true, true, true, false, true, false] rfl rfl (by kernel_rfl) (by decide) (fun K hK => ?_)
            obtain ⟨v9, w9, hr9, hR9, hg9, hat9⟩ := Rows_run kB w1.heap.size 22 5 _ 1 Try.underlying22 info5 rfl (by decide) (by decide) v6 (lastD xs).f3 e.f3 A3 e.f3.length c3 (ok := fun _ => True) (okp := fun _ => False) hR6 (Kd.C_below hC3 (below_weak hB)) (fun _ _ hh => hh) (fun _ hk => hk.elim) (fun _ _ => trivial) hB.size (by omega)
            obtain ⟨A4, c4, rfl⟩ := Kd.R_slice hR9
            have hn4 : ((lastD xs).f3 ++ e.f3).length = (lastD xs).f3.length + e.f3.length := List.length_append
            rw [hn4] at hR9 hr9
            refine value_ (w1 := w9) (v := .slice A4 ((lastD xs).f3.length + e.f3.length) c4) (by rfl) rfl ?_ ?_
            · exact exec_append' (.tmp 31) (.tmp 33) 22 hr9 (by rfl) (by rfl) (by rfl) (by rfl)
            have hB9 : Below w1.heap.size w1 w9 := hB.grown hg9 hB.size (fun k hk => Kd.R_base hR6 k hk)
            replace hx6 := blk_grown hx6 hg9 (ne_typed hx6 hR6 (by decide))
            have hs1 := hHeld.1
            have hs2 := hHeld.2
            have q1 : w9.cell? _ = _ := pw_cell_below (below_weak hB9) z3
            have q2 : w9.cell? _ = _ := pw_cell_below (below_weak hB9) x3
            clear hB
            have hB := hB9
            clear hB9 hr9
            refine hK.out _ _ ⟨q1, q2⟩ (fun hHeld => ?_)
            clear hK K
            refine norm_ (a' := ?_) ?_ ?_
            rotate_left
            · show Act.put _ (some 34) _ = _
              simp only [Act.put, List.setIfInBounds_toArray, List.set_cons_zero, List.set_cons_succ, i64_w, i32_w]
              rfl
            refine pure_ (i := 10) (N := some 35) (v := ?_) (a' := ?_) #[true, true, true, true, true, true, true, true, true, true, true, true, false] rfl rfl (by kernel_rfl) (fun _ _ _ h => h) (Or.inl ⟨by rfl, ?_⟩) ?_ ?_
            rotate_left
            · intro w'
              go_simp
              with_reducible rfl
            rotate_left
            · simp only [Act.put, List.setIfInBounds_toArray, List.set_cons_zero, List.set_cons_succ, i64_w, i32_w]
              rfl
            exact norm_ (by simp only [putAll, Act.put, List.setIfInBounds_toArray, List.set_cons_zero, List.set_cons_succ]) (hCont (v6, (A4, c4), g6) _ ⟨hR9, hB, hx6, hge, hHeld⟩)
        rintro ⟨v6, ⟨A4, c4⟩, g6⟩ w10 ⟨hR9, hB, hx6, hge, hHeld⟩
        have u0 := (blk_cell hx6 0).trans rfl
        have u1 := (blk_cell hx6 1).trans rfl
        have u2 := (blk_cell hx6 2).trans rfl
        have u3 := (blk_cell hx6 3).trans rfl
        have u4 := (blk_cell hx6 4).trans rfl
        have u5 := (blk_cell hx6 5).trans rfl
        have fz0 := blk_frozen hx6 0
        have fz1 := blk_frozen hx6 1
        have fz2 := blk_frozen hx6 2
        have fz3 := blk_frozen hx6 3
        have fz4 := blk_frozen hx6 4
        have fz5 := blk_frozen hx6 5
        refine norm_ (a' := ?_) ?_ ?_
        rotate_left
        · simp only [putAll, Act.put, List.setIfInBounds_toArray, List.set_cons_zero, List.set_cons_succ]
          rfl
        refine last_ (i := 12) (N := none) #[true, true, true, true, true, true, true, true, true, true, true, true, true] rfl rfl (by kernel_rfl) (by decide) (fun K hK => ?_)
        refine skip_ (w1 := ?_) (by rfl) rfl ?_ ?_
        rotate_left
        · go_simp
          rfl
        refine hK.out _ _ ?_
        clear hK K
        refine done_ (by kernel_rfl) ?_
        obtain ⟨w2, hw2⟩ : ∃ w2, w2 = (((((((((((w10.setCell ⟨g6, 0, none⟩ (.int .i64 0))).setCell ⟨g6, 1, none⟩ (.int .u8 0))).setCell ⟨g6, 2, none⟩ (.int .u8 0))).setCell ⟨g6, 3, none⟩ (.slice A4 ((lastD xs).f3.length + e.f3.length) c4))).setCell ⟨g6, 4, none⟩ (.bool false))).setCell ⟨g6, 5, none⟩ (.bool false)) := ⟨_, rfl⟩
        have X6 := blk_put (blk_put (blk_put (blk_put (blk_put (blk_put (hx6) 0 (.int .i64 0) rfl) 1 (.int .u8 0) rfl) 2 (.int .u8 0) rfl) 3 (.slice A4 ((lastD xs).f3.length + e.f3.length) c4) rfl) 4 (.bool false) rfl) 5 (.bool false) rfl
        have hB2 : Below w1.heap.size w1 (((((((((((w10.setCell ⟨g6, 0, none⟩ (.int .i64 0))).setCell ⟨g6, 1, none⟩ (.int .u8 0))).setCell ⟨g6, 2, none⟩ (.int .u8 0))).setCell ⟨g6, 3, none⟩ (.slice A4 ((lastD xs).f3.length + e.f3.length) c4))).setCell ⟨g6, 4, none⟩ (.bool false))).setCell ⟨g6, 5, none⟩ (.bool false)) := below_set (below_set (below_set (below_set (below_set (below_set (hB) hge) hge) hge) hge) hge) hge
        have hR92 := Kd.R_mono (ok' := fun _ => True) (Kd.R_far (p := ⟨g6, 5, none⟩) (Kd.R_far (p := ⟨g6, 4, none⟩) (Kd.R_far (p := ⟨g6, 3, none⟩) (Kd.R_far (p := ⟨g6, 2, none⟩) (Kd.R_far (p := ⟨g6, 1, none⟩) (Kd.R_far (p := ⟨g6, 0, none⟩) (Kd.R_types hR9 hx6 (by intro q hq; rw [kB_E] at hq; simp at hq; subst hq; decide)) (fun k hk => hk.2) (.int .i64 0)) (fun k hk => hk.2) (.int .u8 0)) (fun k hk => hk.2) (.int .u8 0)) (fun k hk => hk.2) (.slice A4 ((lastD xs).f3.length + e.f3.length) c4)) (fun k hk => hk.2) (.bool false)) (fun k hk => hk.2) (.bool false)) (fun _ _ => trivial)
        have h2 := Kd.R_below HH.out hB2
        rw [← hw2] at *
        clear hw2 hx6 hB hR9
        have hR9 := hR92
        clear hR92
        have i3 : ((xs.length : Int) - 1 ≤ (c : Int)) = True := eq_true (by have := HCC.out; omega)
        have hBs2 : B ≤ w2.heap.size := Nat.le_trans hBs hB2.size
        have hBw := hBs
        have htk : (xs.take (xs.length - 1)).length = xs.length - 1 := by rw [List.length_take]; omega
        have k0 := (blk_cell X6 0).trans rfl
        have k1 := (blk_cell X6 1).trans rfl
        have k2 := (blk_cell X6 2).trans rfl
        have k3 := (blk_cell X6 3).trans rfl
        have k4 := (blk_cell X6 4).trans rfl
        have k5 := (blk_cell X6 5).trans rfl
        have hB := below_drew (Below.refl w2.heap.size w2)
        have HB2 := Aside0.mk hB2
        clear hB2 X6 hHeld z3 x3 hC5 hC3
        go_wp2
        refine start_ (n := 10) (S := fun w' => w'.cell? ⟨g6, 0, none⟩ = some (.int .i64 0) ∧ w'.cell? ⟨g6, 1, none⟩ = some (.int .u8 0) ∧ w'.cell? ⟨g6, 2, none⟩ = some (.int .u8 0) ∧ w'.cell? ⟨g6, 3, none⟩ = some (.slice A4 ((lastD xs).f3.length + e.f3.length) c4) ∧ w'.cell? ⟨g6, 4, none⟩ = some (.bool false) ∧ w'.cell? ⟨g6, 5, none⟩ = some (.bool false)) (ds := []) #[false, false, false, false, false, false, false, false, false, false] (by kernel_rfl) rfl rfl ⟨cell_dr1 k0, cell_dr1 k1, cell_dr1 k2, cell_dr1 k3, cell_dr1 k4, cell_dr1 k5⟩ (fun hHeld => ?_)
        refine pure_ (i := 1) (N := some 37) (v := ?_) (a' := ?_) #[false, true, false, false, false, false, false, false, false, false] rfl rfl (by kernel_rfl) (fun _ _ _ h => h) (Or.inl ⟨by rfl, ?_⟩) ?_ ?_
        rotate_left
        · intro w'
          go_simp
          with_reducible rfl
        rotate_left
        · simp only [Act.put, List.setIfInBounds_toArray, List.set_cons_zero, List.set_cons_succ, i64_w, i32_w]
          rfl
        refine pure_ (i := 2) (N := some 38) (v := ?_) (a' := ?_) #[false, true, true, false, false, false, false, false, false, false] rfl rfl (by kernel_rfl) (fun _ _ _ h => h) (Or.inl ⟨by rfl, ?_⟩) ?_ ?_
        rotate_left
        · intro w'
          go_simp
          with_reducible rfl
        rotate_left
        · simp only [Act.put, List.setIfInBounds_toArray, List.set_cons_zero, List.set_cons_succ, i64_w, i32_w]
          rfl
        refine pure_ (i := 3) (N := some 39) (v := ?_) (a' := ?_) #[false, true, true, true, false, false, false, false, false, false] rfl rfl (by kernel_rfl) (fun _ _ _ h => h) (Or.inl ⟨by rfl, ?_⟩) ?_ ?_
        rotate_left
        · intro w'
          go_simp
          with_reducible rfl
        rotate_left
        · simp only [Act.put, List.setIfInBounds_toArray, List.set_cons_zero, List.set_cons_succ, i64_w, i32_w]
          rfl
        refine pure_ (i := 4) (N := some 40) (v := ?_) (a' := ?_) #[false, true, true, true, true, false, false, false, false, false] rfl rfl (by kernel_rfl) (fun _ _ _ h => h) (Or.inl ⟨by rfl, ?_⟩) ?_ ?_
        rotate_left
        · intro w'
          go_simp
          with_reducible rfl
        rotate_left
        · simp only [Act.put, List.setIfInBounds_toArray, List.set_cons_zero, List.set_cons_succ, i64_w, i32_w]
          rfl
        refine take_ (i := 6) (N := some 42) (v := ?_) (a' := ?_) #[false, true, true, true, true, false, true, false, false, false] rfl rfl (by kernel_rfl) (fun _ _ _ h => h) (Or.inl ⟨by rfl, ?_⟩) hHeld ?_ ?_
        rotate_left
        · rintro w' ⟨s0, s1, s2, s3, s4, s5⟩
          go_simp
          with_reducible rfl
        rotate_left
        · simp only [Act.put, List.setIfInBounds_toArray, List.set_cons_zero, List.set_cons_succ, i64_w, i32_w]
          rfl
        refine join_ (σ := Value × (Option Addr × Nat) × (Option Addr × Nat)) 2 #[true, true, true, true, true, true, true, true, false, false] (fun s => [(36, s.1), (41, .slice s.2.1.1 (xs.length - 1) s.2.1.2), (42, .agg #[.int .i64 0, .int .u8 0, .int .u8 0, .slice A4 ((lastD xs).f3.length + e.f3.length) c4, .bool false, .bool false]), (43, .slice s.2.2.1 1 s.2.2.2)]) (fun s w' => Kd.R k35 35 w' B (fun _ => True) (.slice s.2.1.1 (xs.length - 1) s.2.1.2) (xs.take (xs.length - 1)) ∧ (∀ k, (Value.slice s.2.1.1 (xs.length - 1) s.2.1.2).ownBlock = some k → w2.heap.size ≤ k) ∧ Kd.R k35 35 w' B (fun _ => True) (.slice s.2.2.1 1 s.2.2.2) [(⟨0, 0, 0, (lastD xs).f3 ++ e.f3, false, false⟩ : S35)] ∧ Below w2.heap.size w2 w' ∧ w'.cell? ⟨g6, 0, none⟩ = some (.int .i64 0) ∧ w'.cell? ⟨g6, 1, none⟩ = some (.int .u8 0) ∧ w'.cell? ⟨g6, 2, none⟩ = some (.int .u8 0) ∧ w'.cell? ⟨g6, 3, none⟩ = some (.slice A4 ((lastD xs).f3.length + e.f3.length) c4) ∧ w'.cell? ⟨g6, 4, none⟩ = some (.bool false) ∧ w'.cell? ⟨g6, 5, none⟩ = some (.bool false)) ?_ ?_
        rotate_left
        · intro hCont
          refine two_ (i := 0) (j := 7) (Ni := some 36) (Nj := some 43) #[true, true, true, true, true, false, true, false, false, false] #[false, true, true, true, true, false, true, true, false, false] rfl rfl rfl rfl (by kernel_rfl) (by decide) (by decide) (fun K hK => ?_) (fun K hK => ?_)
          · skip
            refine Kd.R_lit_step k35 (w0 := w2) B 35 (by rfl) (N := 36) rfl (xs := []) (inner := []) (ok := fun _ => True) (okp := fun _ => True) (by go_simp) (Reps.none _ _) (fun _ hk => hk) trivial (hB.mono hBs2) (Nat.le_trans hBs2 hB.size) (by simp) ?_
            rintro v36 w36 hR36 _ hg36 ⟨b36, hb36, hle36⟩
            have hv36 : ∀ k, v36.ownBlock = some k → w2.heap.size ≤ k := fun k hk => by rw [hb36] at hk; injection hk with hk; have := hB.size; omega
            replace hB := hB.grown hg36 hB.size (fun k hk => by cases hk)
            clear hg36 hb36 hle36 b36
            refine hK.out _ _ ⟨pw_cell_below hB k0, pw_cell_below hB k1, pw_cell_below hB k2, pw_cell_below hB k3, pw_cell_below hB k4, pw_cell_below hB k5⟩ (fun hHeld => ?_)
            clear hK K
            refine norm_ (a' := ?_) ?_ ?_
            rotate_left
            · show Act.put _ (some 36) _ = _
              simp only [Act.put, List.setIfInBounds_toArray, List.set_cons_zero, List.set_cons_succ, i64_w, i32_w]
              rfl
            refine two_ (i := 5) (j := 7) (Ni := some 41) (Nj := some 43) #[true, true, true, true, true, true, true, false, false, false] #[true, true, true, true, true, false, true, true, false, false] rfl rfl rfl rfl (by kernel_rfl) (by decide) (by decide) (fun K hK => ?_) (fun K hK => ?_)
            · skip
              obtain ⟨v41, w41, hr41, hR41, hB41, hg41, hv41⟩ := run35 hR36 (rows_take (reads35 (Kd.R_below h2 hB)) (xs.length - 1) (Nat.sub_le _ _)) (c := c) hB (Nat.le_trans hBs2 hB.size) hv36 (by simp; omega)
              rw [List.nil_append] at hR41
              obtain ⟨A8, c8, rfl⟩ := Kd.R_slice hR41
              rw [htk] at *
              refine value_ (w1 := w41) (v := .slice A8 (xs.length - 1) c8) (by rfl) rfl ?_ ?_
              · exact exec_append' (.tmp 36) (.tmp 40) 25 hr41 (by rfl) (by rfl) (by rfl) (by rfl)
              clear hB
              have hB := hB41
              clear hB41 hg41 hr41
              refine hK.out _ _ ⟨pw_cell_below hB k0, pw_cell_below hB k1, pw_cell_below hB k2, pw_cell_below hB k3, pw_cell_below hB k4, pw_cell_below hB k5⟩ (fun hHeld => ?_)
              clear hK K
              refine norm_ (a' := ?_) ?_ ?_
              rotate_left
              · show Act.put _ (some 41) _ = _
                simp only [Act.put, List.setIfInBounds_toArray, List.set_cons_zero, List.set_cons_succ, i64_w, i32_w]
                rfl
              refine one_ (i := 7) (N := some 43) #[true, true, true, true, true, true, true, true, false, false] rfl rfl (by kernel_rfl) (by decide) (fun K hK => ?_)
              refine Kd.R_lit_step k35 (w0 := w2) B 35 (by rfl) (N := 43) rfl (xs := [(⟨0, 0, 0, (lastD xs).f3 ++ e.f3, false, false⟩ : S35)]) (inner := [.int .i64 0, .int .u8 0, .int .u8 0, .slice A4 ((lastD xs).f3.length + e.f3.length) c4, .bool false, .bool false]) (ok := fun _ => True) (okp := fun k => (Value.slice A4 ((lastD xs).f3.length + e.f3.length) c4).ownBlock = some k) (by go_simp) (Reps.c6 (k35_mkM _ _ _ (⟨0, 0, 0, (lastD xs).f3 ++ e.f3, false, false⟩ : S35) (Kd.R_lower (Kd.R_mono (Kd.R_tight kB_E (Kd.R_below hR9 hB)) (fun k hk => hk.symm)) hBw)) (Reps.none _ _)) (fun _ _ => trivial) trivial (hB.mono hBs2) (Nat.le_trans hBs2 hB.size) (by simp) ?_
              rintro v43 w43 hR43 _ hg43 ⟨b43, hb43, hle43⟩
              obtain ⟨A10, c10, rfl⟩ := Kd.R_slice hR43
              have hn43 : [(⟨0, 0, 0, (lastD xs).f3 ++ e.f3, false, false⟩ : S35)].length = 1 := rfl
              rw [hn43] at *
              replace hR41 := Kd.R_grown hR41 hg43 (fun k hk => by simp)
              replace hB := hB.grown hg43 hB.size (fun k hk => by cases hk)
              clear hg43 hb43 hle43 b43
              refine hK.out _ _ ⟨pw_cell_below hB k0, pw_cell_below hB k1, pw_cell_below hB k2, pw_cell_below hB k3, pw_cell_below hB k4, pw_cell_below hB k5⟩ (fun hHeld => ?_)
              clear hK K
              refine norm_ (a' := ?_) ?_ ?_
              rotate_left
              · show Act.put _ (some 43) _ = _
                simp only [Act.put, List.setIfInBounds_toArray, List.set_cons_zero, List.set_cons_succ, i64_w, i32_w]
                rfl
              exact norm_ (by simp only [putAll, Act.put, List.setIfInBounds_toArray, List.set_cons_zero, List.set_cons_succ]) (hCont (v36, (A8, c8), (A10, c10)) _ ⟨hR41, hv41, hR43, hB, hHeld⟩)
            · skip
              refine Kd.R_lit_step k35 (w0 := w2) B 35 (by rfl) (N := 43) rfl (xs := [(⟨0, 0, 0, (lastD xs).f3 ++ e.f3, false, false⟩ : S35)]) (inner := [.int .i64 0, .int .u8 0, .int .u8 0, .slice A4 ((lastD xs).f3.length + e.f3.length) c4, .bool false, .bool false]) (ok := fun k => some k ≠ v36.ownBlock) (okp := fun k => (Value.slice A4 ((lastD xs).f3.length + e.f3.length) c4).ownBlock = some k) (by go_simp) (Reps.c6 (k35_mkM _ _ _ (⟨0, 0, 0, (lastD xs).f3 ++ e.f3, false, false⟩ : S35) (Kd.R_lower (Kd.R_mono (Kd.R_tight kB_E (Kd.R_below hR9 hB)) (fun k hk => hk.symm)) hBw)) (Reps.none _ _)) (fun k hk => R5_ne35 (Kd.R_below hR9 hB) hR36 k hk) (fun e0 => Nat.lt_irrefl _ (Kd.R_lt hR36 _ e0.symm)) (hB.mono hBs2) (Nat.le_trans hBs2 hB.size) (by simp) ?_
              rintro v43 w43 hR43 _ hg43 ⟨b43, hb43, hle43⟩
              obtain ⟨A10, c10, rfl⟩ := Kd.R_slice hR43
              have hn43 : [(⟨0, 0, 0, (lastD xs).f3 ++ e.f3, false, false⟩ : S35)].length = 1 := rfl
              rw [hn43] at *
              replace hR36 := Kd.R_grown hR36 hg43 (fun k hk => by simp)
              replace hB := hB.grown hg43 hB.size (fun k hk => by cases hk)
              clear hg43 hb43 hle43 b43
              refine hK.out _ _ ⟨pw_cell_below hB k0, pw_cell_below hB k1, pw_cell_below hB k2, pw_cell_below hB k3, pw_cell_below hB k4, pw_cell_below hB k5⟩ (fun hHeld => ?_)
              clear hK K
              refine norm_ (a' := ?_) ?_ ?_
              rotate_left
              · show Act.put _ (some 43) _ = _
                simp only [Act.put, List.setIfInBounds_toArray, List.set_cons_zero, List.set_cons_succ, i64_w, i32_w]
                rfl
              refine one_ (i := 5) (N := some 41) #[true, true, true, true, true, true, true, true, false, false] rfl rfl (by kernel_rfl) (by decide) (fun K hK => ?_)
              obtain ⟨v41, w41, hr41, hR41, hB41, hg41, hv41⟩ := run35 hR36 (rows_take (reads35 (Kd.R_below h2 hB)) (xs.length - 1) (Nat.sub_le _ _)) (c := c) hB (Nat.le_trans hBs2 hB.size) hv36 (by simp; omega)
              rw [List.nil_append] at hR41
              obtain ⟨A8, c8, rfl⟩ := Kd.R_slice hR41
              rw [htk] at *
              refine value_ (w1 := w41) (v := .slice A8 (xs.length - 1) c8) (by rfl) rfl ?_ ?_
              · exact exec_append' (.tmp 36) (.tmp 40) 25 hr41 (by rfl) (by rfl) (by rfl) (by rfl)
              replace hR43 := Kd.R_mono (ok' := fun _ => True) (Kd.R_grown hR43 hg41 (fun k hk => hk)) (fun _ _ => trivial)
              clear hB
              have hB := hB41
              clear hB41 hg41 hr41
              refine hK.out _ _ ⟨pw_cell_below hB k0, pw_cell_below hB k1, pw_cell_below hB k2, pw_cell_below hB k3, pw_cell_below hB k4, pw_cell_below hB k5⟩ (fun hHeld => ?_)
              clear hK K
              refine norm_ (a' := ?_) ?_ ?_
              rotate_left
              · show Act.put _ (some 41) _ = _
                simp only [Act.put, List.setIfInBounds_toArray, List.set_cons_zero, List.set_cons_succ, i64_w, i32_w]
                rfl
              exact norm_ (by simp only [putAll, Act.put, List.setIfInBounds_toArray, List.set_cons_zero, List.set_cons_succ]) (hCont (v36, (A8, c8), (A10, c10)) _ ⟨hR41, hv41, hR43, hB, hHeld⟩)
          · skip
            refine Kd.R_lit_step k35 (w0 := w2) B 35 (by rfl) (N := 43) rfl (xs := [(⟨0, 0, 0, (lastD xs).f3 ++ e.f3, false, false⟩ : S35)]) (inner := [.int .i64 0, .int .u8 0, .int .u8 0, .slice A4 ((lastD xs).f3.length + e.f3.length) c4, .bool false, .bool false]) (ok := fun _ => True) (okp := fun k => (Value.slice A4 ((lastD xs).f3.length + e.f3.length) c4).ownBlock = some k) (by go_simp) (Reps.c6 (k35_mkM _ _ _ (⟨0, 0, 0, (lastD xs).f3 ++ e.f3, false, false⟩ : S35) (Kd.R_lower (Kd.R_mono (Kd.R_tight kB_E (Kd.R_below hR9 hB)) (fun k hk => hk.symm)) hBw)) (Reps.none _ _)) (fun _ _ => trivial) trivial (hB.mono hBs2) (Nat.le_trans hBs2 hB.size) (by simp) ?_
            rintro v43 w43 hR43 _ hg43 ⟨b43, hb43, hle43⟩
            obtain ⟨A10, c10, rfl⟩ := Kd.R_slice hR43
            have hn43 : [(⟨0, 0, 0, (lastD xs).f3 ++ e.f3, false, false⟩ : S35)].length = 1 := rfl
            rw [hn43] at *
            replace hB := hB.grown hg43 hB.size (fun k hk => by cases hk)
            clear hg43 hb43 hle43 b43
            refine hK.out _ _ ⟨pw_cell_below hB k0, pw_cell_below hB k1, pw_cell_below hB k2, pw_cell_below hB k3, pw_cell_below hB k4, pw_cell_below hB k5⟩ (fun hHeld => ?_)
            clear hK K
            refine norm_ (a' := ?_) ?_ ?_
            rotate_left
            · show Act.put _ (some 43) _ = _
              simp only [Act.put, List.setIfInBounds_toArray, List.set_cons_zero, List.set_cons_succ, i64_w, i32_w]
              rfl
            refine one_ (i := 0) (N := some 36) #[true, true, true, true, true, false, true, true, false, false] rfl rfl (by kernel_rfl) (by decide) (fun K hK => ?_)
            refine Kd.R_lit_step k35 (w0 := w2) B 35 (by rfl) (N := 36) rfl (xs := []) (inner := []) (ok := fun _ => True) (okp := fun _ => True) (by go_simp) (Reps.none _ _) (fun _ hk => hk) trivial (hB.mono hBs2) (Nat.le_trans hBs2 hB.size) (by simp) ?_
            rintro v36 w36 hR36 _ hg36 ⟨b36, hb36, hle36⟩
            have hv36 : ∀ k, v36.ownBlock = some k → w2.heap.size ≤ k := fun k hk => by rw [hb36] at hk; injection hk with hk; have := hB.size; omega
            replace hR43 := Kd.R_mono (ok' := fun k => some k ≠ v36.ownBlock) (Kd.R_bound hR43) (fun k hk e0 => by rw [hb36] at e0; injection e0 with e0; have := hk.2.2.1; omega)
            replace hR43 := Kd.R_grown hR43 hg36 (fun k hk => by simp)
            replace hB := hB.grown hg36 hB.size (fun k hk => by cases hk)
            clear hg36 hb36 hle36 b36
            refine hK.out _ _ ⟨pw_cell_below hB k0, pw_cell_below hB k1, pw_cell_below hB k2, pw_cell_below hB k3, pw_cell_below hB k4, pw_cell_below hB k5⟩ (fun hHeld => ?_)
            clear hK K
            refine norm_ (a' := ?_) ?_ ?_
            rotate_left
            · show Act.put _ (some 36) _ = _
              simp only [Act.put, List.setIfInBounds_toArray, List.set_cons_zero, List.set_cons_succ, i64_w, i32_w]
              rfl
            refine one_ (i := 5) (N := some 41) #[true, true, true, true, true, true, true, true, false, false] rfl rfl (by kernel_rfl) (by decide) (fun K hK => ?_)
            obtain ⟨v41, w41, hr41, hR41, hB41, hg41, hv41⟩ := run35 hR36 (rows_take (reads35 (Kd.R_below h2 hB)) (xs.length - 1) (Nat.sub_le _ _)) (c := c) hB (Nat.le_trans hBs2 hB.size) hv36 (by simp; omega)
            rw [List.nil_append] at hR41
            obtain ⟨A8, c8, rfl⟩ := Kd.R_slice hR41
            rw [htk] at *
            refine value_ (w1 := w41) (v := .slice A8 (xs.length - 1) c8) (by rfl) rfl ?_ ?_
            · exact exec_append' (.tmp 36) (.tmp 40) 25 hr41 (by rfl) (by rfl) (by rfl) (by rfl)
            replace hR43 := Kd.R_mono (ok' := fun _ => True) (Kd.R_grown hR43 hg41 (fun k hk => hk)) (fun _ _ => trivial)
            clear hB
            have hB := hB41
            clear hB41 hg41 hr41
            refine hK.out _ _ ⟨pw_cell_below hB k0, pw_cell_below hB k1, pw_cell_below hB k2, pw_cell_below hB k3, pw_cell_below hB k4, pw_cell_below hB k5⟩ (fun hHeld => ?_)
            clear hK K
            refine norm_ (a' := ?_) ?_ ?_
            rotate_left
            · show Act.put _ (some 41) _ = _
              simp only [Act.put, List.setIfInBounds_toArray, List.set_cons_zero, List.set_cons_succ, i64_w, i32_w]
              rfl
            exact norm_ (by simp only [putAll, Act.put, List.setIfInBounds_toArray, List.set_cons_zero, List.set_cons_succ]) (hCont (v36, (A8, c8), (A10, c10)) _ ⟨hR41, hv41, hR43, hB, hHeld⟩)
        rintro ⟨v36, ⟨A8, c8⟩, ⟨A10, c10⟩⟩ w11 ⟨hR41, hv41, hR43, hB, hHeld⟩
        refine norm_ (a' := ?_) ?_ ?_
        rotate_left
        · simp only [putAll, Act.put, List.setIfInBounds_toArray, List.set_cons_zero, List.set_cons_succ]
          rfl
        refine one_ (i := 8) (N := some 44) #[true, true, true, true, true, true, true, true, true, false] rfl rfl (by kernel_rfl) (by decide) (fun K hK => ?_)
        obtain ⟨v44, w44, hr44, hR44, hB44, hg44, hv44⟩ := run35 hR41 (reads35 (Kd.R_mono hR43 (fun _ h => h))) (c := c10) hB (Nat.le_trans hBs2 hB.size) hv41 (by rw [List.length_take]; omega)
        refine value_ (w1 := w44) (v := v44) (by rfl) rfl ?_ ?_
        · exact exec_append' (.tmp 41) (.tmp 43) 25 hr44 (by rfl) (by rfl) (by rfl) (by rfl)
        refine hK.out _ _ ⟨pw_cell_below hB44 k0, pw_cell_below hB44 k1, pw_cell_below hB44 k2, pw_cell_below hB44 k3, pw_cell_below hB44 k4, pw_cell_below hB44 k5⟩ (fun hHeld => ?_)
        clear hK K
        refine norm_ (a' := ?_) ?_ ?_
        rotate_left
        · show Act.put _ (some 44) _ = _
          simp only [Act.put, List.setIfInBounds_toArray, List.set_cons_zero, List.set_cons_succ, i64_w, i32_w]
          rfl
        refine pure_ (i := 9) (N := some 4) (v := ?_) (a' := ?_) #[true, true, true, true, true, true, true, true, true, true] rfl rfl (by kernel_rfl) (fun _ _ _ h => h) (Or.inl ⟨by rfl, ?_⟩) ?_ ?_
        rotate_left
        · intro w'
          go_simp
          with_reducible rfl
        rotate_left
        · simp only [Act.put, List.setIfInBounds_toArray, List.set_cons_zero, List.set_cons_succ, i64_w, i32_w]
          rfl
        refine done_ (by kernel_rfl) ?_
        go_wp2
        go_ret
        obtain ⟨A', c', rfl⟩ := Kd.R_slice hR44
        exact ⟨A', c', by rw [HEE.out]; rfl, by rw [HEE.out]; exact hR44, (hbl.out.mono hB0).trans ((HB2.out.mono hBs).trans (hB44.mono hBs2))⟩
      · have t2 : ((lastD xs).f0 == 0) = false := by simpa using c2
        have t2' : decide ((lastD xs).f0 = 0) = false := decide_eq_false c2
        have HE : addF xs e = xs ++ [e] := by unfold addF; rw [if_neg (fun hh => c2 hh.2.2)]
        obtain ⟨ad, A5, c5, rfl, z0, z3, hC5, l5⟩ := hlast c1
        have y0 : (w.alloc (.cells #[.int .i64 e.f0, .int .u8 e.f1, .int .u8 e.f2, .slice A3 e.f3.length c3, .bool e.f4, .bool e.f5] 35)).cell? (ad.add ((xs.length - 1) * 6)) = some (.int .i64 (lastD xs).f0) := cell_al _ z0
        have HEE := Aside0.mk HE
        have HR := Aside0.mk hR7
        have HBB := Aside0.mk hB7
        have HC1 := Aside0.mk c1
        clear h h3 hC hR7 hB7 HE c0 c1 c2 hlast z0 z3 hC5
        go_enter Try.func26, Try.ntmps26
        go_wp2_with ((with_reducible refine gate_dst (N := 48) rfl ?_); refine Kd.event_run (by rfl) (exec_append' (.tmp 45) (.tmp 47) 25 hrun (by rfl) (by rfl) (by rfl) (by rfl)) ?_; clear hrun)
        case isFalse => exact absurd HC1.out (by omega)
        go_ret
        obtain rfl : n7 = (xs ++ [e]).length := (Kd.R_reads' HR.out).1
        exact ⟨A7, c7, by rw [HEE.out]; rfl, by rw [HEE.out]; exact HR.out, HBB.out⟩
    · have t1 : decide ((xs.length : Int) > 0) = false := decide_eq_false (by omega)
      have t1' : decide (0 < xs.length) = false := decide_eq_false (by omega)
      have HE : addF xs e = xs ++ [e] := by unfold addF; rw [if_neg (fun hh => c1 hh.2.1)]
      have HEE := Aside0.mk HE
      have HR := Aside0.mk hR7
      have HBB := Aside0.mk hB7
      clear h h3 hC hR7 hB7 HE c0 c1 hlast
      go_enter Try.func26, Try.ntmps26
      go_wp2_with ((with_reducible refine gate_dst (N := 48) rfl ?_); refine Kd.event_run (by rfl) (exec_append' (.tmp 45) (.tmp 47) 25 hrun (by rfl) (by rfl) (by rfl) (by rfl)) ?_; clear hrun)
      go_ret
      obtain rfl : n7 = (xs ++ [e]).length := (Kd.R_reads' HR.out).1
      exact ⟨A7, c7, by rw [HEE.out]; rfl, by rw [HEE.out]; exact HR.out, HBB.out⟩
  · have HE : addF xs e = xs ++ [e] := by unfold addF; rw [if_neg (fun hh => c0 hh.1)]
    have t0 : (e.f0 == 0) = false := by simpa using c0
    have t0' : decide (e.f0 = 0) = false := decide_eq_false c0
    have HEE := Aside0.mk HE
    have HR := Aside0.mk hR7
    have HBB := Aside0.mk hB7
    clear h h3 hC hR7 hB7 HE c0 hlast
    go_enter Try.func26, Try.ntmps26
    go_wp2_with ((with_reducible refine gate_dst (N := 48) rfl ?_); refine Kd.event_run (by rfl) (exec_append' (.tmp 45) (.tmp 47) 25 hrun (by rfl) (by rfl) (by rfl) (by rfl)) ?_; clear hrun)
    go_ret
    obtain rfl : n7 = (xs ++ [e]).length := (Kd.R_reads' HR.out).1
    exact ⟨A7, c7, by rw [HEE.out]; rfl, by rw [HEE.out]; exact HR.out, HBB.out⟩
end Go.Proofs.Ytddfgfgjkamccaa.Tn
