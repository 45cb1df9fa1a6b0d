/- option: Quiet: nothing waits just if all states are no or yes. -/
import Derived.Test.YtaabojppahcejaaMg
import Derived.Deep.MidRow
import Derived.Deep.LoopGhost
namespace Go.Proofs.Ytaabojppahcejaa.Op
open Go Go.RowKit Go.Proofs.YtaabojppahcejaaW.PrintWords Go.Proofs.YtaabojppahcejaaW.PrintLast Go.Proofs.YtaabojppahcejaaW.PrintMore
set_option linter.unusedVariables false
set_option linter.unusedSimpArgs false
/-- The cells of a side, and of a machine. -/
def stL (S : Nat → Nat → Int) (i : Nat) : List Value := (List.range 256).map fun n => .int .u8 (S i n)
def agrL (A : Nat → Nat → Bool) (i : Nat) : List Value := (List.range 256).map fun n => .bool (A i n)
def sideL (S : Nat → Nat → Int) (A : Nat → Nat → Bool) (i : Nat) : List Value := stL S i ++ agrL A i
def machL (S : Nat → Nat → Int) (A : Nat → Nat → Bool) : List Value := sideL S A 0 ++ sideL S A 1
theorem stL_len (S : Nat → Nat → Int) (i : Nat) : (stL S i).length = 256 := by simp [stL]
theorem agrL_len (A : Nat → Nat → Bool) (i : Nat) : (agrL A i).length = 256 := by simp [agrL]
theorem sideL_len (S : Nat → Nat → Int) (A : Nat → Nat → Bool) (i : Nat) : (sideL S A i).length = 512 := by simp [sideL, stL_len, agrL_len]
theorem machL_len (S : Nat → Nat → Int) (A : Nat → Nat → Bool) : (machL S A).length = 1024 := by simp [machL, sideL_len]
theorem stL_at (S : Nat → Nat → Int) (i n : Nat) (hn : n < 256) : (stL S i)[n]? = some (.int .u8 (S i n)) := by
  simp [stL, hn]
theorem agrL_at (A : Nat → Nat → Bool) (i n : Nat) (hn : n < 256) : (agrL A i)[n]? = some (.bool (A i n)) := by
  simp [agrL, hn]
theorem sideL_at0 (S : Nat → Nat → Int) (A : Nat → Nat → Bool) (i n : Nat) (hn : n < 256) : (sideL S A i)[n]? = some (.int .u8 (S i n)) := by
  unfold sideL; rw [List.getElem?_append_left (by rw [stL_len]; exact hn)]; exact stL_at S i n hn
theorem sideL_at1 (S : Nat → Nat → Int) (A : Nat → Nat → Bool) (i n : Nat) (hn : n < 256) : (sideL S A i)[256 + n]? = some (.bool (A i n)) := by
  unfold sideL; rw [List.getElem?_append_right (by rw [stL_len]; omega), stL_len, Nat.add_sub_cancel_left]; exact agrL_at A i n hn
theorem sideL_one (S : Nat → Nat → Int) (A : Nat → Nat → Bool) (i : Nat) : ∀ v ∈ sideL S A i, v.oneCell' = true := by
  intro v hv
  simp only [sideL, stL, agrL, List.mem_append, List.mem_map] at hv
  rcases hv with ⟨_, _, rfl⟩ | ⟨_, _, rfl⟩ <;> rfl
theorem MIs.range {w : World} {g : Nat} {S : Nat → Nat → Int} {A : Nat → Nat → Bool} (h : MIs w g S A) : w.rangeAt g 0 (machL S A) := by
  intro j v hj
  have hlt : j < 1024 := by have := (List.getElem?_eq_some_iff.1 hj).1; rw [machL_len] at this; exact this
  rw [Nat.zero_add]
  have key : ∀ i, i < 2 → ∀ m, m < 512 → (sideL S A i)[m]? = some v → w.cell? ⟨g, 512 * i + m, none⟩ = some v := by
    intro i hi m hm hv
    by_cases c : m < 256
    · rw [sideL_at0 S A i m c] at hv
      injection hv with hv; subst hv
      exact h.st i m hi c
    · rw [show m = 256 + (m - 256) by omega, sideL_at1 S A i (m - 256) (by omega)] at hv
      injection hv with hv; subst hv
      have := h.ag i (m - 256) hi (by omega)
      rwa [show 512 * i + 256 + (m - 256) = 512 * i + m by omega] at this
  unfold machL at hj
  by_cases c : j < 512
  · rw [List.getElem?_append_left (by rw [sideL_len]; exact c)] at hj
    have := key 0 (by omega) j c hj
    simpa using this
  · rw [List.getElem?_append_right (by rw [sideL_len]; omega), sideL_len] at hj
    have := key 1 (by omega) (j - 512) (by omega) hj
    rwa [show 512 * 1 + (j - 512) = j by omega] at this
theorem info79 : (Try.prog.info? 79).map (·.size) = some 1024 := by kernel_rfl
theorem info78 : (Try.prog.info? 78).map (·.size) = some 512 := by kernel_rfl
theorem info76 : (Try.prog.info? 76).map (·.size) = some 256 := by kernel_rfl
theorem info75 : (Try.prog.info? 75).map (·.size) = some 1 := by kernel_rfl
theorem index79 (S : Nat → Nat → Int) (A : Nat → Nat → Bool) (i : Nat) (hi : i < 2) (W : World) : (Instr.index 79 (.agg (machL S A).toArray) (.int .i64 (i : Int))).run Try.prog W = .ok (.agg (sideL S A i).toArray) W := by
  cases hq : Try.prog.info? 78 with
  | none => have := info78; simp [hq] at this
  | some t =>
    have hs : t.size = 512 := by have := info78; simpa [hq] using this
    have hx : (machL S A).toArray.extract (i * 512) (i * 512 + 512) = (sideL S A i).toArray := by
      rw [List.extract_toArray]
      congr 1
      unfold machL
      match i, hi with
      | 0, _ => simp [List.extract_eq_take_drop, List.take_append, sideL_len]
      | 1, _ => simp [List.extract_eq_take_drop, List.drop_append, sideL_len]; exact List.take_of_length_le (by rw [sideL_len]; omega)
    have hagg : (isAgg 78).run Try.prog W = .ok true W := by kernel_rfl
    rw [List.extract_toArray] at hx
    have hx2 : List.take 512 (List.drop (i * 512) (machL S A)) = sideL S A i := by
      have := hx
      simp [List.extract_eq_take_drop] at this
      exact this
    simp [Instr.index, asIntOf, run_underlying Try.underlying79, part, Sem.run_bind, hagg, sizeOf, typeInfo, hq, hs, hx2]
    omega
theorem index76 (S : Nat → Nat → Int) (i n : Nat) (hn : n < 256) (W : World) : (Instr.index 76 (.agg (stL S i).toArray) (.int .i64 (n : Int))).run Try.prog W = .ok (.int .u8 (S i n)) W := by
  cases hq : Try.prog.info? 75 with
  | none => have := info75; simp [hq] at this
  | some t =>
    have hs : t.size = 1 := by have := info75; simpa [hq] using this
    have hagg : (isAgg 75).run Try.prog W = .ok false W := by kernel_rfl
    have hx := stL_at S i n hn
    simp [Instr.index, asIntOf, run_underlying Try.underlying76, part, Sem.run_bind, hagg, sizeOf, typeInfo, hq, hs, hx]
    omega
@[irreducible] def Z78 : Array Value := sideZ.toArray
unseal Z78 in
theorem exec78 (ρ : Operand → Value) (N : Tmp) (ty : TypeId) (p : String) (aft : Array Edge) (W : World) : (execOp ρ { dst := some N, op := .alloc 78, type := ty, pos := p, after := aft, guard := none }).run Try.prog W = .ok (.value (.pointer (some ⟨W.heap.size, 0, none⟩))) (W.alloc (.cells Z78 78)) := by kernel_rfl
theorem Z78_size : Z78.size = 512 := by unfold Z78 sideZ; rw [List.size_toArray, List.length_append, List.length_replicate, List.length_replicate]
theorem Z78_there {W : World} {g : Nat} (h : W.heap[g]? = some (.cells Z78 78 (0, 0))) : W.there g 0 512 := by
  intro j hj
  rw [Nat.zero_add]
  have e : W.cell? ⟨g, j, none⟩ = Z78[j]? := blk_cell h j
  refine ⟨?_, blk_frozen h j⟩
  rw [e, Array.getElem?_eq_getElem (by rw [Z78_size]; exact hj)]; rfl
theorem side_range {W : World} {g : Nat} {S : Nat → Nat → Int} {A : Nat → Nat → Bool} {i : Nat} (h : W.rangeAt g 0 (sideL S A i)) : W.rangeAt g 0 (stL S i) := by
  intro j v hj
  refine h j v ?_
  have hlt : j < 256 := by have := (List.getElem?_eq_some_iff.1 hj).1; rwa [stL_len] at this
  unfold sideL
  rw [List.getElem?_append_left (by rw [stL_len]; exact hlt)]; exact hj
def QI (S : Nat → Nat → Int) (b : Bool) : Prop := b = true ↔ ∀ i, i < 2 → ∀ n, n < 256 → S i n ≤ 1
def QuietPost (S : Nat → Nat → Int) (w : World) (e : Ending) (w' : World) : Prop := ∃ b, e = .returned (.bool b) ∧ QI S b ∧ Below w.heap.size w w'
theorem below_setCells {B g : Nat} {w W : World} (h : Below B w W) (hg : B ≤ g) (o : Nat) (vs : List Value) : Below B w (W.setCells g o vs) := by
  obtain ⟨h1, h2, h3, h4⟩ := setCells_same g vs o W
  exact ⟨h1.trans h.os, h2.trans h.tape, h3.trans h.output, by rw [h4]; exact h.size, fun i hi => (setCells_far vs o i (by omega)).trans (h.block i hi)⟩
set_option maxHeartbeats 4000000 in
set_option maxRecDepth 4000 in
theorem quiet_of (g : Nat) (S : Nat → Nat → Int) (A : Nat → Nat → Bool) (w : World) (h : MIs w g S A) :
    Calls Try.prog 18 #[.pointer (some ⟨g, 0, none⟩)] w (QuietPost S w) := by
  have HR := Aside0.mk h.range
  clear h
  have hn : (machL S A).length = 1024 := machL_len S A
  have hi79 : (Try.prog.info? 79).map (·.size) = some (machL S A).length := by rw [hn]; exact info79
  have HI := Aside0.mk hi79
  clear hi79 hn
  go_enter Try.func18, Try.ntmps18
  go_wp2_with ((with_reducible refine gate_dst (N := 12) rfl ?_); refine wpList_load_mid (by rfl) 79 (.tmp 11) (by rfl) g 0 (by rfl) (machL S A) _ HR.out Try.underlying79 (by rfl) HI.out ?_)
  have HX := Aside0.mk (index79 S A)
  clear HR HI
  obtain ⟨ML, hML⟩ : ∃ ML, ML = (machL S A).toArray := ⟨_, rfl⟩
  rw [← hML] at HX ⊢
  clear hML
  go_loopw [13] (fun i wr => ∃ k : Nat, k ≤ 2 ∧ i = .int .i64 (k : Int) ∧ Aside0 (∀ i, i < k → ∀ n, n < 256 → S i n ≤ 1) ∧ Aside0 (Below w.heap.size w wr)) (fun i _ => 2 - (intOf i).toNat)
  case atStart => exact ⟨0, by omega, rfl, ⟨fun i hi => absurd hi (by omega)⟩, ⟨Below.refl _ _⟩⟩
  case round =>
    obtain ⟨k, hk, rfl, HQ, HB⟩ := hrel
    by_cases c : k < 2
    · have cb : decide ((k : Int) < 2) = true := decide_eq_true (by omega)
      have hix := HX.out k c
      have hl := sideL_len S A k
      have HS := Aside0.mk (show (Try.prog.info? 78).map (·.size) = some (sideL S A k).toArray.size by rw [List.size_toArray, hl]; exact info78)
      have H1 := Aside0.mk (all_oneCell_toArray (sideL_one S A k))
      have HL := Aside0.mk hl
      have HT := Aside0.mk (show (Try.prog.info? 76).map (·.size) = some (stL S k).length by rw [stL_len]; exact info76)
      have HC := Aside0.mk c
      clear hl c
      go_wp2_with (first
        | ((with_reducible refine gate_dst (N := 4) rfl ?_); refine box_event ?hg (N := 4) ?hd (cs := Z78) (t := 78) ?hr ?_; (case hd => rfl); (case hg => rfl); (case hr => exact exec78 _ _ _ _ _ _); intro g4 hg4 w4 hbox hb; have B4 := Aside0.mk (below_step HB.out hb); have X4 := Aside0.mk (Z78_there hbox); have hg4' : w.heap.size ≤ g4 := (by have := HB.out.size; omega); clear hg4 hbox hb HB)
        | ((with_reducible refine gate_store (t := 78) (p := 4) rfl ?_); refine wpList_store_mid (by rfl) 78 (.tmp 4) (.tmp 15) (by rfl) g4 0 (sideL S A k).toArray (by rfl) (by rfl) ?_ HS.out H1.out ?_; (have := X4.out; rw [List.size_toArray, HL.out]; exact this); (obtain ⟨w5, hw5⟩ : ∃ W, W = w4.setCells g4 0 (sideL S A k).toArray.toList := ⟨_, rfl⟩); rw [← hw5]; have R5 := Aside0.mk (side_range (A := A) (by rw [hw5, List.toList_toArray]; exact World.rangeAt_setCells_same _ _ _ _ (by rw [HL.out]; exact X4.out)) : w5.rangeAt g4 0 (stL S k)); have B5 := Aside0.mk (by rw [hw5]; exact below_setCells B4.out hg4' _ _ : Below w.heap.size w w5); clear hw5 X4 B4)
        | ((with_reducible refine gate_dst (N := 17) rfl ?_); refine wpList_load_mid (by rfl) 76 (.tmp 16) (by rfl) g4 0 (by rfl) (stL S k) _ R5.out Try.underlying76 (by rfl) HT.out ?_))
      clear hix HS H1 HL HT
      go_loop [18] (fun j => ∃ n : Nat, n ≤ 256 ∧ j = .int .i64 (n : Int) ∧ Aside0 (∀ m, m < n → S k m ≤ 1)) (fun j => 256 - (intOf j).toNat)
      case atStart => exact ⟨0, by omega, rfl, ⟨fun m hm => absurd hm (by omega)⟩⟩
      case round =>
        obtain ⟨n, hn, rfl, HN⟩ := hrel
        by_cases d : n < 256
        · have db : decide ((n : Int) < 256) = true := decide_eq_true (by omega)
          have hix := index76 S k n d
          by_cases hs : 1 < S k n
          · have hb1 : decide ((1 : Int) < S k n) = true := decide_eq_true hs
            have HS := Aside0.mk hs
            have HD := Aside0.mk d
            clear hs d
            go_wp2
            go_ret
            exact ⟨false, rfl, ⟨fun h => absurd h (by simp), fun h => absurd (h k HC.out n HD.out) (by have := HS.out; omega)⟩, B5.out⟩
          · have hb1 : decide ((1 : Int) < S k n) = false := decide_eq_false hs
            have HS := Aside0.mk hs
            have HD := Aside0.mk d
            clear hs d
            go_wp2
            go_round
            case rel => exact ⟨n + 1, HD.out, by go_num, ⟨fun m hm => by
              by_cases e : m = n
              · rw [e]; have := HS.out; omega
              · exact HN.out m (by omega)⟩⟩
            case measure => have := HD.out; simp [intOf]; omega
        · have db : decide ((n : Int) < 256) = false := decide_eq_false (by omega)
          have HD := Aside0.mk d
          clear d
          go_wp2
          go_roundw
          case rel => exact ⟨k + 1, HC.out, by go_num, ⟨fun i hi m hm => by
              by_cases e : i = k
              · rw [e]; exact HN.out m (by have := HD.out; omega)
              · exact HQ.out i (by omega) m hm⟩, B5⟩
          case measure => have := HC.out; simp [intOf]; omega
    · have cb : decide ((k : Int) < 2) = false := decide_eq_false (by omega)
      have HC := Aside0.mk c
      clear c
      go_wp2
      go_ret
      exact ⟨true, rfl, ⟨fun _ i hi n hn => HQ.out i (by have := HC.out; omega) n hn, fun _ => rfl⟩, HB.out⟩
theorem quiet_nil (w : World) : Calls Try.prog 18 #[.pointer none] w fun e w' => e = .returned (.bool true) ∧ w' = w := by
  go_enter Try.func18, Try.ntmps18
  go_wp2
  go_ret
  exact ⟨rfl, rfl⟩
end Go.Proofs.Ytaabojppahcejaa.Op
