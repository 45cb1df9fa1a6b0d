/- attr.Diff: its contract, by hand, in the form of the printed ones. -/
import Derived.Test.YtfdhchgemplnoaaMkE
import Derived.Deep.RegionHeld3
import Derived.Deep.DeepCutAuto
import Derived.BigQuiet
import Derived.Deep.QuietTactic
namespace Go.Proofs.Ytfdhchgemplnoaa.PMk
open Go.RowKit Go.Proofs.YtfdhchgemplnoaaW.PrintWords Go.Proofs.YtfdhchgemplnoaaW.PrintLast Go.Proofs.YtfdhchgemplnoaaW.PrintMore
set_option linter.unusedVariables false
set_option linter.unusedSimpArgs false
attribute [local go_sem high] eqA40' eq74
theorem new_at {W : World} {n : Nat} (h : n = W.heap.size) (o : Obj) : (W.alloc o).heap[n]? = some o := by subst h; exact blk_new W o
theorem alloc_at (W : World) (o : Obj) (n : Nat) : (W.alloc o).heap[n]? = if n = W.heap.size then some o else W.heap[n]? := by
  by_cases h : n = W.heap.size
  · rw [if_pos h, h]; exact blk_new W o
  · rw [if_neg h]; show (W.heap.push o)[n]? = _; rw [Array.getElem?_push, if_neg h]
theorem drew_at (W : World) (n : Nat) : W.drew.heap[n]? = W.heap[n]? := rfl
theorem bdr {W : World} {n : Nat} {o : Obj} (h : W.heap[n]? = some o) : W.drew.heap[n]? = some o := h
theorem kal {W : World} {p : Addr} {v : Value} (h : W.cell? p = some v) (o : Obj) : (W.alloc o).cell? p = some v := (World.cell?_alloc_lt W o p (World.block_lt_of_cell? W _ h)).trans h
theorem kdr {W : World} {p : Addr} {v : Value} (h : W.cell? p = some v) : W.drew.cell? p = some v := h
theorem kse {W : World} {p q : Addr} {v u : Value} (h : W.cell? p = some v) (hne : p ≠ q) : (W.setCell q u).cell? p = some v := (World.cell?_setCell_other W q p u (fun e => hne e.symm)).trans h
theorem looks_exact (c0 : Int) (c1 : Bool) (c2 c3 c4 c5 : Int) (w : World) :
    Calls Try.prog 39 #[.agg #[.int .u8 c0, .bool c1, .int .u8 c2, .int .u8 c3, .int .u8 c4, .int .u8 c5]] w fun e w' =>
      e = .returned (.agg #[.int .u8 65, .int .u8 c3, .int .u8 66, .int .u8 c4, .int .u8 67, .int .u8 c5]) ∧
      w' = (w.alloc (.cells #[.int .u8 c0, .bool c1, .int .u8 c2, .int .u8 c3, .int .u8 c4, .int .u8 c5] 38)).alloc (.cells #[.int .u8 65, .int .u8 c3, .int .u8 66, .int .u8 c4, .int .u8 67, .int .u8 c5] 74) := by
  go_enter Try.func39, Try.ntmps39
  go_wp2
  refine bodyPost_ret (v := .agg #[.int .u8 65, .int .u8 c3, .int .u8 66, .int .u8 c4, .int .u8 67, .int .u8 c5]) (by simp [results, Try.results39, go_sem]) rfl ⟨rfl, rfl⟩

/-- What isn't the same, of the first k. -/
def dpart (a3 a4 a5 b3 b4 b5 : Int) (k : Nat) : List S40 := (([(a3, ⟨65, b3⟩), (a4, ⟨66, b4⟩), (a5, ⟨67, b5⟩)] : List (Int × S40)).take k).filterMap fun p => if p.1 = p.2.f1 then none else some p.2
theorem dpart_len (a3 a4 a5 b3 b4 b5 : Int) (k : Nat) : (dpart a3 a4 a5 b3 b4 b5 k).length ≤ 3 := Nat.le_trans (List.length_filterMap_le _ _) (by simp; omega)
def attr_Diff.f (a0 : Int) (a1 : Bool) (a2 a3 a4 a5 : Int) (b0 : Int) (b1 : Bool) (b2 b3 b4 b5 : Int) : Option (List S40) := some (dpart a3 a4 a5 b3 b4 b5 3)

set_option maxHeartbeats 8000000 in
theorem attr_Diff.calls (a0 : Int) (a1 : Bool) (a2 a3 a4 a5 : Int) (b0 : Int) (b1 : Bool) (b2 b3 b4 b5 : Int) (r : List S40) (w : World) (h : attr_Diff.f a0 a1 a2 a3 a4 a5 b0 b1 b2 b3 b4 b5 = some r) :
    Calls Try.prog 33 #[.agg #[.int .u8 a0, .bool a1, .int .u8 a2, .int .u8 a3, .int .u8 a4, .int .u8 a5], .agg #[.int .u8 b0, .bool b1, .int .u8 b2, .int .u8 b3, .int .u8 b4, .int .u8 b5]] w fun e w' => ∃ v0_ : Value, e = .returned (v0_) ∧ Kd.R k40 40 w' w.heap.size (fun _ => True) v0_ r ∧ Below w.heap.size w w' := by
  have hr : r = dpart a3 a4 a5 b3 b4 b5 3 := by simpa [attr_Diff.f] using h.symm
  have HR := Aside0.mk hr
  clear h hr
  go_enter Try.func33, Try.ntmps33
  go_wp2_with fail
  go_upto_region 2 with (fail)
  generalize hw0 : ((w.alloc (Obj.cells #[.int .u8 a0, .bool a1, .int .u8 a2, .int .u8 a3, .int .u8 a4, .int .u8 a5] 38)).alloc (Obj.cells #[.int .u8 b0, .bool b1, .int .u8 b2, .int .u8 b3, .int .u8 b4, .int .u8 b5] 38)) = w0
  have BA : w0.heap[w.heap.size]? = some (.cells #[.int .u8 a0, .bool a1, .int .u8 a2, .int .u8 a3, .int .u8 a4, .int .u8 a5] 38 (0, 0)) := by rw [← hw0]; exact blk_alloc (blk_new _ _) _
  have BB : w0.heap[w.heap.size + 1]? = some (.cells #[.int .u8 b0, .bool b1, .int .u8 b2, .int .u8 b3, .int .u8 b4, .int .u8 b5] 38 (0, 0)) := by rw [← hw0]; have := blk_new (w.alloc (Obj.cells #[.int .u8 a0, .bool a1, .int .u8 a2, .int .u8 a3, .int .u8 a4, .int .u8 a5] 38)) (Obj.cells #[.int .u8 b0, .bool b1, .int .u8 b2, .int .u8 b3, .int .u8 b4, .int .u8 b5] 38); simpa using this
  have HB : Below w.heap.size w w0 := by rw [← hw0]; exact below_alloc (below_alloc (Below.refl _ _) _) _
  have hA0 : w0.cell? ⟨w.heap.size, 0, none⟩ = some (.int .u8 a0) := (blk_cell BA 0).trans rfl
  have hA1 : w0.cell? ⟨w.heap.size, 1, none⟩ = some (.bool a1) := (blk_cell BA 1).trans rfl
  have hA2 : w0.cell? ⟨w.heap.size, 2, none⟩ = some (.int .u8 a2) := (blk_cell BA 2).trans rfl
  have hA3 : w0.cell? ⟨w.heap.size, 3, none⟩ = some (.int .u8 a3) := (blk_cell BA 3).trans rfl
  have hA4 : w0.cell? ⟨w.heap.size, 4, none⟩ = some (.int .u8 a4) := (blk_cell BA 4).trans rfl
  have hA5 : w0.cell? ⟨w.heap.size, 5, none⟩ = some (.int .u8 a5) := (blk_cell BA 5).trans rfl
  have hB0 : w0.cell? ⟨w.heap.size + 1, 0, none⟩ = some (.int .u8 b0) := (blk_cell BB 0).trans rfl
  have hB1 : w0.cell? ⟨w.heap.size + 1, 1, none⟩ = some (.bool b1) := (blk_cell BB 1).trans rfl
  have hB2 : w0.cell? ⟨w.heap.size + 1, 2, none⟩ = some (.int .u8 b2) := (blk_cell BB 2).trans rfl
  have hB3 : w0.cell? ⟨w.heap.size + 1, 3, none⟩ = some (.int .u8 b3) := (blk_cell BB 3).trans rfl
  have hB4 : w0.cell? ⟨w.heap.size + 1, 4, none⟩ = some (.int .u8 b4) := (blk_cell BB 4).trans rfl
  have hB5 : w0.cell? ⟨w.heap.size + 1, 5, none⟩ = some (.int .u8 b5) := (blk_cell BB 5).trans rfl
  have lA := blk_lt BA
  have lB := blk_lt BB
  have HB0 := Aside0.mk HB
  clear BA BB HB hw0
  have hle : w.heap.size ≤ w0.heap.size := by omega
  go_cut [6, 7] (fun p q W => ∃ g h : Nat, p = .pointer (some ⟨g, 0, none⟩) ∧ q = .pointer (some ⟨h, 0, none⟩) ∧ Aside0 (W.heap[g]? = some (.cells #[.int .u8 65, .int .u8 a3, .int .u8 66, .int .u8 a4, .int .u8 67, .int .u8 a5] 74 (0, 0))) ∧
    Aside0 (W.heap[h]? = some (.cells #[.int .u8 65, .int .u8 b3, .int .u8 66, .int .u8 b4, .int .u8 67, .int .u8 b5] 74 (0, 0))) ∧ Aside0 (Below w.heap.size w W))
  case first =>
    go_region_held3 (fun w' => w'.cell? ⟨w.heap.size, 0, none⟩ = some (.int .u8 a0) ∧ w'.cell? ⟨w.heap.size, 1, none⟩ = some (.bool a1) ∧ w'.cell? ⟨w.heap.size, 2, none⟩ = some (.int .u8 a2) ∧ w'.cell? ⟨w.heap.size, 3, none⟩ = some (.int .u8 a3) ∧ w'.cell? ⟨w.heap.size, 4, none⟩ = some (.int .u8 a4) ∧ w'.cell? ⟨w.heap.size, 5, none⟩ = some (.int .u8 a5) ∧ w'.cell? ⟨w.heap.size + 1, 0, none⟩ = some (.int .u8 b0) ∧ w'.cell? ⟨w.heap.size + 1, 1, none⟩ = some (.bool b1) ∧ w'.cell? ⟨w.heap.size + 1, 2, none⟩ = some (.int .u8 b2) ∧ w'.cell? ⟨w.heap.size + 1, 3, none⟩ = some (.int .u8 b3) ∧ w'.cell? ⟨w.heap.size + 1, 4, none⟩ = some (.int .u8 b4) ∧ w'.cell? ⟨w.heap.size + 1, 5, none⟩ = some (.int .u8 b5)) ((repeat' (refine And.intro ?_ ?_)) <;> (first | (with_reducible assumption) | ((repeat (first | (with_reducible assumption) | (with_reducible refine kdr ?_) | (with_reducible refine kal ?_ _) | (with_reducible refine kse ?_ (by simp; try omega)))))))
      (first | (go_at_call 39; refine (looks_exact _ _ _ _ _ _ _).mono ?_; rintro e w1 ⟨rfl, rfl⟩))
    all_goals (go_wp2_with fail; go_meet; case rel => exact ⟨_, _, rfl, rfl, ⟨(by simp only [drew_at, alloc_at, World.size_alloc, if_true]; repeat (first | rw [if_pos (by omega)] | rw [if_neg (by omega)]))⟩, ⟨(by simp only [drew_at, alloc_at, World.size_alloc, if_true]; repeat (first | rw [if_pos (by omega)] | rw [if_neg (by omega)]))⟩, ⟨(by repeat (first | (with_reducible exact HB0.out) | (with_reducible refine below_drew1 ?_) | (with_reducible refine below_alloc ?_ _)))⟩⟩)
  case rest =>
    clear hA0 hA1 hA2 hA3 hA4 hA5 hB0 hB1 hB2 hB3 hB4 hB5 lA lB hle HB0
    obtain ⟨g, h, rfl, rfl, HG, HH, HB⟩ := hcut
    have hg0 : wc.cell? ⟨g, 0, none⟩ = some (.int .u8 65) := (blk_cell HG.out 0).trans rfl
    have hg1 : wc.cell? ⟨g, 1, none⟩ = some (.int .u8 a3) := (blk_cell HG.out 1).trans rfl
    have hg2 : wc.cell? ⟨g, 2, none⟩ = some (.int .u8 66) := (blk_cell HG.out 2).trans rfl
    have hg3 : wc.cell? ⟨g, 3, none⟩ = some (.int .u8 a4) := (blk_cell HG.out 3).trans rfl
    have hg4 : wc.cell? ⟨g, 4, none⟩ = some (.int .u8 67) := (blk_cell HG.out 4).trans rfl
    have hg5 : wc.cell? ⟨g, 5, none⟩ = some (.int .u8 a5) := (blk_cell HG.out 5).trans rfl
    have hh0 : wc.cell? ⟨h, 0, none⟩ = some (.int .u8 65) := (blk_cell HH.out 0).trans rfl
    have hh1 : wc.cell? ⟨h, 1, none⟩ = some (.int .u8 b3) := (blk_cell HH.out 1).trans rfl
    have hh2 : wc.cell? ⟨h, 2, none⟩ = some (.int .u8 66) := (blk_cell HH.out 2).trans rfl
    have hh3 : wc.cell? ⟨h, 3, none⟩ = some (.int .u8 b4) := (blk_cell HH.out 3).trans rfl
    have hh4 : wc.cell? ⟨h, 4, none⟩ = some (.int .u8 67) := (blk_cell HH.out 4).trans rfl
    have hh5 : wc.cell? ⟨h, 5, none⟩ = some (.int .u8 b5) := (blk_cell HH.out 5).trans rfl
    by_cases hE : a3 = b3 ∧ a4 = b4 ∧ a5 = b5
    · have hE' : (a3 == b3 && (a4 == b4 && (a5 == b5))) = true := by simp [hE]
      have hd : dpart a3 a4 a5 b3 b4 b5 3 = [] := by obtain ⟨rfl, rfl, rfl⟩ := hE; simp [dpart]
      have HD := Aside0.mk hd
      clear hE hd
      go_wp2
      go_ret
      exact ⟨_, rfl, by rw [HR.out, HD.out]; exact Kd.R_nil _ _ _ _ _, HB.out⟩
    · have hE' : (a3 == b3 && (a4 == b4 && (a5 == b5))) = false := by simpa using hE
      clear hE
      go_wp2_with fail
      clear hg0 hg1 hg2 hg3 hg4 hg5 hh0 hh1 hh2 hh3 hh4 hh5 hE'
      have HO := Aside0.mk (Kd.R_nil k40 40 wc w.heap.size (fun _ => True))
      go_loopw [5, 18] (fun v i wr => ∃ k : Nat, k ≤ 3 ∧ i = .int .i64 k ∧ Aside0 (Kd.R k40 40 wr w.heap.size (fun _ => True) v (dpart a3 a4 a5 b3 b4 b5 k)) ∧ Aside0 (wr.heap[g]? = some (.cells #[.int .u8 65, .int .u8 a3, .int .u8 66, .int .u8 a4, .int .u8 67, .int .u8 a5] 74 (0, 0))) ∧ Aside0 (Below w.heap.size w wr)) (fun _ i _ => 3 - (intOf i).toNat)
      case atStart => exact ⟨0, by omega, rfl, HO, HG, HB⟩
      case round =>
        clear HO HB HG HH
        obtain ⟨k, hk, rfl, HO, HG, HB⟩ := hrel
        match k, hk with
        | 0, _ =>
              have hg0 : wr.cell? ⟨g, 0, none⟩ = some (.int .u8 65) := (blk_cell HG.out 0).trans rfl
              have hg1 : wr.cell? ⟨g, 1, none⟩ = some (.int .u8 a3) := (blk_cell HG.out 1).trans rfl
              have hg2 : wr.cell? ⟨g, 2, none⟩ = some (.int .u8 66) := (blk_cell HG.out 2).trans rfl
              have hg3 : wr.cell? ⟨g, 3, none⟩ = some (.int .u8 a4) := (blk_cell HG.out 3).trans rfl
              have hg4 : wr.cell? ⟨g, 4, none⟩ = some (.int .u8 67) := (blk_cell HG.out 4).trans rfl
              have hg5 : wr.cell? ⟨g, 5, none⟩ = some (.int .u8 a5) := (blk_cell HG.out 5).trans rfl
              by_cases hc : a3 = b3
              · have hc' : (a3 == b3) = true := by simp [hc]
                have hp : dpart a3 a4 a5 b3 b4 b5 1 = dpart a3 a4 a5 b3 b4 b5 0 := by by_cases h3 : a3 = b3 <;> by_cases h4 : a4 = b4 <;> by_cases h5 : a5 = b5 <;> simp_all [dpart]
                have HP := Aside0.mk hp
                clear hc hp
                have ix := idx0 b3 b4 b5
                go_wp2_with fail
                have hq0 : (wr.alloc (Obj.cells #[Value.int IntKind.u8 65, Value.int IntKind.u8 b3] 40)).cell? ⟨wr.heap.size, 0, none⟩ = some (.int .u8 65) := (blk_cell (blk_new wr (Obj.cells #[Value.int IntKind.u8 65, Value.int IntKind.u8 b3] 40)) 0).trans rfl
                have hq1 : (wr.alloc (Obj.cells #[Value.int IntKind.u8 65, Value.int IntKind.u8 b3] 40)).cell? ⟨wr.heap.size, 1, none⟩ = some (.int .u8 b3) := (blk_cell (blk_new wr (Obj.cells #[Value.int IntKind.u8 65, Value.int IntKind.u8 b3] 40)) 1).trans rfl
                replace hg0 := kal hg0 (Obj.cells #[Value.int IntKind.u8 65, Value.int IntKind.u8 b3] 40)
                replace hg1 := kal hg1 (Obj.cells #[Value.int IntKind.u8 65, Value.int IntKind.u8 b3] 40)
                replace hg2 := kal hg2 (Obj.cells #[Value.int IntKind.u8 65, Value.int IntKind.u8 b3] 40)
                replace hg3 := kal hg3 (Obj.cells #[Value.int IntKind.u8 65, Value.int IntKind.u8 b3] 40)
                replace hg4 := kal hg4 (Obj.cells #[Value.int IntKind.u8 65, Value.int IntKind.u8 b3] 40)
                replace hg5 := kal hg5 (Obj.cells #[Value.int IntKind.u8 65, Value.int IntKind.u8 b3] 40)
                replace HO := Aside0.mk (Kd.R_alloc HO.out (Obj.cells #[Value.int IntKind.u8 65, Value.int IntKind.u8 b3] 40))
                replace HG := Aside0.mk (blk_alloc HG.out (Obj.cells #[Value.int IntKind.u8 65, Value.int IntKind.u8 b3] 40))
                replace HB := Aside0.mk (below_alloc HB.out (Obj.cells #[Value.int IntKind.u8 65, Value.int IntKind.u8 b3] 40))
                generalize wr.heap.size = q0 at *
                generalize wr.alloc (Obj.cells #[Value.int IntKind.u8 65, Value.int IntKind.u8 b3] 40) = wr at *
                go_quiet (fail)
                go_wp2_with fail
                go_roundw
                case rel => exact ⟨1, by omega, rfl, ⟨by rw [HP.out]; exact (by (with_reducible repeat (first | apply Kd.R_alloc | apply Kd.R_drewN | apply Kd.R_drew)); exact HO.out)⟩, ⟨by (with_reducible repeat (first | refine blk_drewN ?_ _ | refine blk_drew ?_ | refine blk_alloc ?_ _)); exact HG.out⟩, ⟨(by repeat (first | (with_reducible first | exact HB.out | apply below_alloc | apply pw_below_drewN | apply below_drew1) | exact HB.out))⟩⟩
                case measure => simp [intOf]
              · have hc' : (a3 == b3) = false := by simp [hc]
                have hp : dpart a3 a4 a5 b3 b4 b5 1 = dpart a3 a4 a5 b3 b4 b5 0 ++ [(⟨65, b3⟩ : S40)] := by by_cases h3 : a3 = b3 <;> by_cases h4 : a4 = b4 <;> by_cases h5 : a5 = b5 <;> simp_all [dpart]
                have HP := Aside0.mk hp
                clear hc hp
                have ix := idx0 b3 b4 b5
                go_wp2_with fail
                have hq0 : (wr.alloc (Obj.cells #[Value.int IntKind.u8 65, Value.int IntKind.u8 b3] 40)).cell? ⟨wr.heap.size, 0, none⟩ = some (.int .u8 65) := (blk_cell (blk_new wr (Obj.cells #[Value.int IntKind.u8 65, Value.int IntKind.u8 b3] 40)) 0).trans rfl
                have hq1 : (wr.alloc (Obj.cells #[Value.int IntKind.u8 65, Value.int IntKind.u8 b3] 40)).cell? ⟨wr.heap.size, 1, none⟩ = some (.int .u8 b3) := (blk_cell (blk_new wr (Obj.cells #[Value.int IntKind.u8 65, Value.int IntKind.u8 b3] 40)) 1).trans rfl
                replace hg0 := kal hg0 (Obj.cells #[Value.int IntKind.u8 65, Value.int IntKind.u8 b3] 40)
                replace hg1 := kal hg1 (Obj.cells #[Value.int IntKind.u8 65, Value.int IntKind.u8 b3] 40)
                replace hg2 := kal hg2 (Obj.cells #[Value.int IntKind.u8 65, Value.int IntKind.u8 b3] 40)
                replace hg3 := kal hg3 (Obj.cells #[Value.int IntKind.u8 65, Value.int IntKind.u8 b3] 40)
                replace hg4 := kal hg4 (Obj.cells #[Value.int IntKind.u8 65, Value.int IntKind.u8 b3] 40)
                replace hg5 := kal hg5 (Obj.cells #[Value.int IntKind.u8 65, Value.int IntKind.u8 b3] 40)
                replace HO := Aside0.mk (Kd.R_alloc HO.out (Obj.cells #[Value.int IntKind.u8 65, Value.int IntKind.u8 b3] 40))
                replace HG := Aside0.mk (blk_alloc HG.out (Obj.cells #[Value.int IntKind.u8 65, Value.int IntKind.u8 b3] 40))
                replace HB := Aside0.mk (below_alloc HB.out (Obj.cells #[Value.int IntKind.u8 65, Value.int IntKind.u8 b3] 40))
                generalize wr.heap.size = q0 at *
                generalize wr.alloc (Obj.cells #[Value.int IntKind.u8 65, Value.int IntKind.u8 b3] 40) = wr at *
                go_quiet (fail)
                go_wp2_with (first | ((with_reducible refine gate_builtin (b := .append) (xs := #[.tmp 27, .tmp 29]) rfl ?_); at_builtin; refine Kd.R_append k40 (w0 := w) w.heap.size rfl (.tmp 27) (.tmp 29) 50 40 (.agg #[(.int .u8 0), (.int .u8 0)]) 2 rfl Try.underlying50 info40 rfl (by decide) (by omega) u5 (dpart a3 a4 a5 b3 b4 b5 0) (⟨65, b3⟩ : S40) [.int .u8 65, .int .u8 b3] (fun _ => True) (fun _ => False) rfl (by first | (go_simp; done) | (go_simp; rfl)) ?aP (fun _ hk => hk.elim) ?aF ?aO ?aB ?aS ?aL ?_; (case aP => exact k40_mkM _ _ _ (⟨65, b3⟩ : S40)); (case aB => exact (by repeat (first | (with_reducible first | exact HB.out | apply below_alloc | apply pw_below_drewN | apply below_drew1) | exact HB.out))); (case aF => exact (fun _ _ => trivial)); (case aO => exact (by (with_reducible repeat (first | apply Kd.R_alloc | apply Kd.R_drewN | apply Kd.R_drew)); exact HO.out)); (case aS => exact (below_size (by repeat (first | (with_reducible first | exact HB.out | apply below_alloc | apply pw_below_drewN | apply below_drew1) | exact HB.out)))); (case aL => have hpl := dpart_len a3 a4 a5 b3 b4 b5 0; omega); intro v1 w8 ho hb hg hat; have HO1 := Aside0.mk ho; have HB1 := Aside0.mk hb; have HG1 := Aside0.mk (blk_grown (by (with_reducible repeat (first | refine blk_drewN ?_ _ | refine blk_drew ?_ | refine blk_alloc ?_ _)); exact HG.out) hg (Kd.R_ne HO.out HG.out (by decide))); clear ho hb hg hat))
                go_roundw
                case rel => exact ⟨1, by omega, rfl, ⟨by rw [HP.out]; exact HO1.out⟩, HG1, HB1⟩
                case measure => simp [intOf]
        | 1, _ =>
              have hg0 : wr.cell? ⟨g, 0, none⟩ = some (.int .u8 65) := (blk_cell HG.out 0).trans rfl
              have hg1 : wr.cell? ⟨g, 1, none⟩ = some (.int .u8 a3) := (blk_cell HG.out 1).trans rfl
              have hg2 : wr.cell? ⟨g, 2, none⟩ = some (.int .u8 66) := (blk_cell HG.out 2).trans rfl
              have hg3 : wr.cell? ⟨g, 3, none⟩ = some (.int .u8 a4) := (blk_cell HG.out 3).trans rfl
              have hg4 : wr.cell? ⟨g, 4, none⟩ = some (.int .u8 67) := (blk_cell HG.out 4).trans rfl
              have hg5 : wr.cell? ⟨g, 5, none⟩ = some (.int .u8 a5) := (blk_cell HG.out 5).trans rfl
              by_cases hc : a4 = b4
              · have hc' : (a4 == b4) = true := by simp [hc]
                have hp : dpart a3 a4 a5 b3 b4 b5 2 = dpart a3 a4 a5 b3 b4 b5 1 := by by_cases h3 : a3 = b3 <;> by_cases h4 : a4 = b4 <;> by_cases h5 : a5 = b5 <;> simp_all [dpart]
                have HP := Aside0.mk hp
                clear hc hp
                have ix := idx1 b3 b4 b5
                go_wp2_with fail
                have hq0 : (wr.alloc (Obj.cells #[Value.int IntKind.u8 66, Value.int IntKind.u8 b4] 40)).cell? ⟨wr.heap.size, 0, none⟩ = some (.int .u8 66) := (blk_cell (blk_new wr (Obj.cells #[Value.int IntKind.u8 66, Value.int IntKind.u8 b4] 40)) 0).trans rfl
                have hq1 : (wr.alloc (Obj.cells #[Value.int IntKind.u8 66, Value.int IntKind.u8 b4] 40)).cell? ⟨wr.heap.size, 1, none⟩ = some (.int .u8 b4) := (blk_cell (blk_new wr (Obj.cells #[Value.int IntKind.u8 66, Value.int IntKind.u8 b4] 40)) 1).trans rfl
                replace hg0 := kal hg0 (Obj.cells #[Value.int IntKind.u8 66, Value.int IntKind.u8 b4] 40)
                replace hg1 := kal hg1 (Obj.cells #[Value.int IntKind.u8 66, Value.int IntKind.u8 b4] 40)
                replace hg2 := kal hg2 (Obj.cells #[Value.int IntKind.u8 66, Value.int IntKind.u8 b4] 40)
                replace hg3 := kal hg3 (Obj.cells #[Value.int IntKind.u8 66, Value.int IntKind.u8 b4] 40)
                replace hg4 := kal hg4 (Obj.cells #[Value.int IntKind.u8 66, Value.int IntKind.u8 b4] 40)
                replace hg5 := kal hg5 (Obj.cells #[Value.int IntKind.u8 66, Value.int IntKind.u8 b4] 40)
                replace HO := Aside0.mk (Kd.R_alloc HO.out (Obj.cells #[Value.int IntKind.u8 66, Value.int IntKind.u8 b4] 40))
                replace HG := Aside0.mk (blk_alloc HG.out (Obj.cells #[Value.int IntKind.u8 66, Value.int IntKind.u8 b4] 40))
                replace HB := Aside0.mk (below_alloc HB.out (Obj.cells #[Value.int IntKind.u8 66, Value.int IntKind.u8 b4] 40))
                generalize wr.heap.size = q0 at *
                generalize wr.alloc (Obj.cells #[Value.int IntKind.u8 66, Value.int IntKind.u8 b4] 40) = wr at *
                go_quiet (fail)
                go_wp2_with fail
                go_roundw
                case rel => exact ⟨2, by omega, rfl, ⟨by rw [HP.out]; exact (by (with_reducible repeat (first | apply Kd.R_alloc | apply Kd.R_drewN | apply Kd.R_drew)); exact HO.out)⟩, ⟨by (with_reducible repeat (first | refine blk_drewN ?_ _ | refine blk_drew ?_ | refine blk_alloc ?_ _)); exact HG.out⟩, ⟨(by repeat (first | (with_reducible first | exact HB.out | apply below_alloc | apply pw_below_drewN | apply below_drew1) | exact HB.out))⟩⟩
                case measure => simp [intOf]
              · have hc' : (a4 == b4) = false := by simp [hc]
                have hp : dpart a3 a4 a5 b3 b4 b5 2 = dpart a3 a4 a5 b3 b4 b5 1 ++ [(⟨66, b4⟩ : S40)] := by by_cases h3 : a3 = b3 <;> by_cases h4 : a4 = b4 <;> by_cases h5 : a5 = b5 <;> simp_all [dpart]
                have HP := Aside0.mk hp
                clear hc hp
                have ix := idx1 b3 b4 b5
                go_wp2_with fail
                have hq0 : (wr.alloc (Obj.cells #[Value.int IntKind.u8 66, Value.int IntKind.u8 b4] 40)).cell? ⟨wr.heap.size, 0, none⟩ = some (.int .u8 66) := (blk_cell (blk_new wr (Obj.cells #[Value.int IntKind.u8 66, Value.int IntKind.u8 b4] 40)) 0).trans rfl
                have hq1 : (wr.alloc (Obj.cells #[Value.int IntKind.u8 66, Value.int IntKind.u8 b4] 40)).cell? ⟨wr.heap.size, 1, none⟩ = some (.int .u8 b4) := (blk_cell (blk_new wr (Obj.cells #[Value.int IntKind.u8 66, Value.int IntKind.u8 b4] 40)) 1).trans rfl
                replace hg0 := kal hg0 (Obj.cells #[Value.int IntKind.u8 66, Value.int IntKind.u8 b4] 40)
                replace hg1 := kal hg1 (Obj.cells #[Value.int IntKind.u8 66, Value.int IntKind.u8 b4] 40)
                replace hg2 := kal hg2 (Obj.cells #[Value.int IntKind.u8 66, Value.int IntKind.u8 b4] 40)
                replace hg3 := kal hg3 (Obj.cells #[Value.int IntKind.u8 66, Value.int IntKind.u8 b4] 40)
                replace hg4 := kal hg4 (Obj.cells #[Value.int IntKind.u8 66, Value.int IntKind.u8 b4] 40)
                replace hg5 := kal hg5 (Obj.cells #[Value.int IntKind.u8 66, Value.int IntKind.u8 b4] 40)
                replace HO := Aside0.mk (Kd.R_alloc HO.out (Obj.cells #[Value.int IntKind.u8 66, Value.int IntKind.u8 b4] 40))
                replace HG := Aside0.mk (blk_alloc HG.out (Obj.cells #[Value.int IntKind.u8 66, Value.int IntKind.u8 b4] 40))
                replace HB := Aside0.mk (below_alloc HB.out (Obj.cells #[Value.int IntKind.u8 66, Value.int IntKind.u8 b4] 40))
                generalize wr.heap.size = q0 at *
                generalize wr.alloc (Obj.cells #[Value.int IntKind.u8 66, Value.int IntKind.u8 b4] 40) = wr at *
                go_quiet (fail)
                go_wp2_with (first | ((with_reducible refine gate_builtin (b := .append) (xs := #[.tmp 27, .tmp 29]) rfl ?_); at_builtin; refine Kd.R_append k40 (w0 := w) w.heap.size rfl (.tmp 27) (.tmp 29) 50 40 (.agg #[(.int .u8 0), (.int .u8 0)]) 2 rfl Try.underlying50 info40 rfl (by decide) (by omega) u5 (dpart a3 a4 a5 b3 b4 b5 1) (⟨66, b4⟩ : S40) [.int .u8 66, .int .u8 b4] (fun _ => True) (fun _ => False) rfl (by first | (go_simp; done) | (go_simp; rfl)) ?aP (fun _ hk => hk.elim) ?aF ?aO ?aB ?aS ?aL ?_; (case aP => exact k40_mkM _ _ _ (⟨66, b4⟩ : S40)); (case aB => exact (by repeat (first | (with_reducible first | exact HB.out | apply below_alloc | apply pw_below_drewN | apply below_drew1) | exact HB.out))); (case aF => exact (fun _ _ => trivial)); (case aO => exact (by (with_reducible repeat (first | apply Kd.R_alloc | apply Kd.R_drewN | apply Kd.R_drew)); exact HO.out)); (case aS => exact (below_size (by repeat (first | (with_reducible first | exact HB.out | apply below_alloc | apply pw_below_drewN | apply below_drew1) | exact HB.out)))); (case aL => have hpl := dpart_len a3 a4 a5 b3 b4 b5 1; omega); intro v1 w8 ho hb hg hat; have HO1 := Aside0.mk ho; have HB1 := Aside0.mk hb; have HG1 := Aside0.mk (blk_grown (by (with_reducible repeat (first | refine blk_drewN ?_ _ | refine blk_drew ?_ | refine blk_alloc ?_ _)); exact HG.out) hg (Kd.R_ne HO.out HG.out (by decide))); clear ho hb hg hat))
                go_roundw
                case rel => exact ⟨2, by omega, rfl, ⟨by rw [HP.out]; exact HO1.out⟩, HG1, HB1⟩
                case measure => simp [intOf]
        | 2, _ =>
              have hg0 : wr.cell? ⟨g, 0, none⟩ = some (.int .u8 65) := (blk_cell HG.out 0).trans rfl
              have hg1 : wr.cell? ⟨g, 1, none⟩ = some (.int .u8 a3) := (blk_cell HG.out 1).trans rfl
              have hg2 : wr.cell? ⟨g, 2, none⟩ = some (.int .u8 66) := (blk_cell HG.out 2).trans rfl
              have hg3 : wr.cell? ⟨g, 3, none⟩ = some (.int .u8 a4) := (blk_cell HG.out 3).trans rfl
              have hg4 : wr.cell? ⟨g, 4, none⟩ = some (.int .u8 67) := (blk_cell HG.out 4).trans rfl
              have hg5 : wr.cell? ⟨g, 5, none⟩ = some (.int .u8 a5) := (blk_cell HG.out 5).trans rfl
              by_cases hc : a5 = b5
              · have hc' : (a5 == b5) = true := by simp [hc]
                have hp : dpart a3 a4 a5 b3 b4 b5 3 = dpart a3 a4 a5 b3 b4 b5 2 := by by_cases h3 : a3 = b3 <;> by_cases h4 : a4 = b4 <;> by_cases h5 : a5 = b5 <;> simp_all [dpart]
                have HP := Aside0.mk hp
                clear hc hp
                have ix := idx2 b3 b4 b5
                go_wp2_with fail
                have hq0 : (wr.alloc (Obj.cells #[Value.int IntKind.u8 67, Value.int IntKind.u8 b5] 40)).cell? ⟨wr.heap.size, 0, none⟩ = some (.int .u8 67) := (blk_cell (blk_new wr (Obj.cells #[Value.int IntKind.u8 67, Value.int IntKind.u8 b5] 40)) 0).trans rfl
                have hq1 : (wr.alloc (Obj.cells #[Value.int IntKind.u8 67, Value.int IntKind.u8 b5] 40)).cell? ⟨wr.heap.size, 1, none⟩ = some (.int .u8 b5) := (blk_cell (blk_new wr (Obj.cells #[Value.int IntKind.u8 67, Value.int IntKind.u8 b5] 40)) 1).trans rfl
                replace hg0 := kal hg0 (Obj.cells #[Value.int IntKind.u8 67, Value.int IntKind.u8 b5] 40)
                replace hg1 := kal hg1 (Obj.cells #[Value.int IntKind.u8 67, Value.int IntKind.u8 b5] 40)
                replace hg2 := kal hg2 (Obj.cells #[Value.int IntKind.u8 67, Value.int IntKind.u8 b5] 40)
                replace hg3 := kal hg3 (Obj.cells #[Value.int IntKind.u8 67, Value.int IntKind.u8 b5] 40)
                replace hg4 := kal hg4 (Obj.cells #[Value.int IntKind.u8 67, Value.int IntKind.u8 b5] 40)
                replace hg5 := kal hg5 (Obj.cells #[Value.int IntKind.u8 67, Value.int IntKind.u8 b5] 40)
                replace HO := Aside0.mk (Kd.R_alloc HO.out (Obj.cells #[Value.int IntKind.u8 67, Value.int IntKind.u8 b5] 40))
                replace HG := Aside0.mk (blk_alloc HG.out (Obj.cells #[Value.int IntKind.u8 67, Value.int IntKind.u8 b5] 40))
                replace HB := Aside0.mk (below_alloc HB.out (Obj.cells #[Value.int IntKind.u8 67, Value.int IntKind.u8 b5] 40))
                generalize wr.heap.size = q0 at *
                generalize wr.alloc (Obj.cells #[Value.int IntKind.u8 67, Value.int IntKind.u8 b5] 40) = wr at *
                go_quiet (fail)
                go_wp2_with fail
                go_roundw
                case rel => exact ⟨3, by omega, rfl, ⟨by rw [HP.out]; exact (by (with_reducible repeat (first | apply Kd.R_alloc | apply Kd.R_drewN | apply Kd.R_drew)); exact HO.out)⟩, ⟨by (with_reducible repeat (first | refine blk_drewN ?_ _ | refine blk_drew ?_ | refine blk_alloc ?_ _)); exact HG.out⟩, ⟨(by repeat (first | (with_reducible first | exact HB.out | apply below_alloc | apply pw_below_drewN | apply below_drew1) | exact HB.out))⟩⟩
                case measure => simp [intOf]
              · have hc' : (a5 == b5) = false := by simp [hc]
                have hp : dpart a3 a4 a5 b3 b4 b5 3 = dpart a3 a4 a5 b3 b4 b5 2 ++ [(⟨67, b5⟩ : S40)] := by by_cases h3 : a3 = b3 <;> by_cases h4 : a4 = b4 <;> by_cases h5 : a5 = b5 <;> simp_all [dpart]
                have HP := Aside0.mk hp
                clear hc hp
                have ix := idx2 b3 b4 b5
                go_wp2_with fail
                have hq0 : (wr.alloc (Obj.cells #[Value.int IntKind.u8 67, Value.int IntKind.u8 b5] 40)).cell? ⟨wr.heap.size, 0, none⟩ = some (.int .u8 67) := (blk_cell (blk_new wr (Obj.cells #[Value.int IntKind.u8 67, Value.int IntKind.u8 b5] 40)) 0).trans rfl
                have hq1 : (wr.alloc (Obj.cells #[Value.int IntKind.u8 67, Value.int IntKind.u8 b5] 40)).cell? ⟨wr.heap.size, 1, none⟩ = some (.int .u8 b5) := (blk_cell (blk_new wr (Obj.cells #[Value.int IntKind.u8 67, Value.int IntKind.u8 b5] 40)) 1).trans rfl
                replace hg0 := kal hg0 (Obj.cells #[Value.int IntKind.u8 67, Value.int IntKind.u8 b5] 40)
                replace hg1 := kal hg1 (Obj.cells #[Value.int IntKind.u8 67, Value.int IntKind.u8 b5] 40)
                replace hg2 := kal hg2 (Obj.cells #[Value.int IntKind.u8 67, Value.int IntKind.u8 b5] 40)
                replace hg3 := kal hg3 (Obj.cells #[Value.int IntKind.u8 67, Value.int IntKind.u8 b5] 40)
                replace hg4 := kal hg4 (Obj.cells #[Value.int IntKind.u8 67, Value.int IntKind.u8 b5] 40)
                replace hg5 := kal hg5 (Obj.cells #[Value.int IntKind.u8 67, Value.int IntKind.u8 b5] 40)
                replace HO := Aside0.mk (Kd.R_alloc HO.out (Obj.cells #[Value.int IntKind.u8 67, Value.int IntKind.u8 b5] 40))
                replace HG := Aside0.mk (blk_alloc HG.out (Obj.cells #[Value.int IntKind.u8 67, Value.int IntKind.u8 b5] 40))
                replace HB := Aside0.mk (below_alloc HB.out (Obj.cells #[Value.int IntKind.u8 67, Value.int IntKind.u8 b5] 40))
                generalize wr.heap.size = q0 at *
                generalize wr.alloc (Obj.cells #[Value.int IntKind.u8 67, Value.int IntKind.u8 b5] 40) = wr at *
                go_quiet (fail)
                go_wp2_with (first | ((with_reducible refine gate_builtin (b := .append) (xs := #[.tmp 27, .tmp 29]) rfl ?_); at_builtin; refine Kd.R_append k40 (w0 := w) w.heap.size rfl (.tmp 27) (.tmp 29) 50 40 (.agg #[(.int .u8 0), (.int .u8 0)]) 2 rfl Try.underlying50 info40 rfl (by decide) (by omega) u5 (dpart a3 a4 a5 b3 b4 b5 2) (⟨67, b5⟩ : S40) [.int .u8 67, .int .u8 b5] (fun _ => True) (fun _ => False) rfl (by first | (go_simp; done) | (go_simp; rfl)) ?aP (fun _ hk => hk.elim) ?aF ?aO ?aB ?aS ?aL ?_; (case aP => exact k40_mkM _ _ _ (⟨67, b5⟩ : S40)); (case aB => exact (by repeat (first | (with_reducible first | exact HB.out | apply below_alloc | apply pw_below_drewN | apply below_drew1) | exact HB.out))); (case aF => exact (fun _ _ => trivial)); (case aO => exact (by (with_reducible repeat (first | apply Kd.R_alloc | apply Kd.R_drewN | apply Kd.R_drew)); exact HO.out)); (case aS => exact (below_size (by repeat (first | (with_reducible first | exact HB.out | apply below_alloc | apply pw_below_drewN | apply below_drew1) | exact HB.out)))); (case aL => have hpl := dpart_len a3 a4 a5 b3 b4 b5 2; omega); intro v1 w8 ho hb hg hat; have HO1 := Aside0.mk ho; have HB1 := Aside0.mk hb; have HG1 := Aside0.mk (blk_grown (by (with_reducible repeat (first | refine blk_drewN ?_ _ | refine blk_drew ?_ | refine blk_alloc ?_ _)); exact HG.out) hg (Kd.R_ne HO.out HG.out (by decide))); clear ho hb hg hat))
                go_roundw
                case rel => exact ⟨3, by omega, rfl, ⟨by rw [HP.out]; exact HO1.out⟩, HG1, HB1⟩
                case measure => simp [intOf]
        | 3, _ =>
              go_wp2_with fail
              go_ret
              exact ⟨_, rfl, by rw [HR.out]; exact HO.out, HB.out⟩
end Go.Proofs.Ytfdhchgemplnoaa.PMk
