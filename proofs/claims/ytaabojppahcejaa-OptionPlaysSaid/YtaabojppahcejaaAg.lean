/- option: Agreed, collected: the options that are on, in their order. -/
import Derived.RangeFuncBox
import Derived.RangeFuncLeaves
import Derived.Shelf.Abstract
import Derived.WalkKit
import Derived.OwnWalkIn
import Derived.TacticsInMore
import Derived.LoopNIn
import Derived.LoopIn
import Derived.Maps.AppendAt
import Derived.Test.YtaabojppahcejaaMg
namespace Go.Proofs.Ytaabojppahcejaa.Op
open Go Go.RowKit Go.Shelf Go.Proofs Go.Proofs.YtaabojppahcejaaW.PrintWords
attribute [local go_sem] Oper.semAt_some
set_option linter.unusedVariables false
set_option linter.unusedSimpArgs false
/-- The options below k of which b holds. -/
def onL (b : Nat → Bool) (k : Nat) : List Int := ((List.range k).filter b).map fun n : Nat => (n : Int)
theorem onL_succ (b : Nat → Bool) (k : Nat) : onL b (k + 1) = onL b k ++ (if b k = true then [(k : Int)] else []) := by
  unfold onL
  rw [List.range_succ, List.filter_append, List.map_append]
  by_cases c : b k = true <;> simp [c]
theorem onL_len (b : Nat → Bool) (k : Nat) : (onL b k).length ≤ k := by
  unfold onL
  rw [List.length_map]
  exact Nat.le_trans (List.length_filter_le _ _) (by simp)
theorem grown_drewN (w : World) (m : Nat) : w.grownBy (w.drewN m) none := ⟨rfl, rfl, rfl, Nat.le_refl _, fun _ _ _ => rfl⟩
theorem below_drewN_ (B : Nat) (w : World) (m : Nat) : Below B w (w.drewN m) := ⟨rfl, rfl, rfl, Nat.le_refl _, fun _ _ => rfl⟩
set_option maxRecDepth 100000 in
set_option maxHeartbeats 2000000 in
/-- Agreed's function: each option that is on, in its order, for every loop body that keeps what lay below n₀. -/
theorem agreed1_in (n : Nat) (hn : 1 ≤ n) (l B1 B2 n₀ : Nat) (p : Option Addr) (i : Int) (b : Nat → Bool) (hB1 : B1 < n₀) (hB2 : B2 < n₀) (J Jx : List Int → World → Prop)
    (hY : ∀ pre x W, J pre W → pre.length < 256 → YieldAt Fence.wide (n - 1) Try.prog l #[.int .u8 x] W fun e W' =>
      (e = .returned (.bool true) ∧ J (pre ++ [x]) W' ∧ Below n₀ W W') ∨ (e = .returned (.bool false) ∧ Jx (pre ++ [x]) W'))
    (W : World) (hJ : AbidesFrom W.heap.size J) (hc1 : W.cell? ⟨B1, 0, none⟩ = some (.pointer p)) (hc2 : W.cell? ⟨B2, 0, none⟩ = some (.int .i64 i))
    (hOn : ∀ W', Below n₀ W W' → ∀ o : Nat, o < 256 → Calls Try.prog 13 #[.pointer p, .int .i64 i, .int .u8 (o : Int)] W' fun e w' => e = .returned (.bool (b o)) ∧ ∃ m, w' = W'.drewN m) (h0 : J [] W) :
    CallsIn Fence.wide n Try.prog 37 #[.func (.yield l) #[] #[], .pointer (some ⟨B1, 0, none⟩), .pointer (some ⟨B2, 0, none⟩)] W fun e W' => (∃ v, e = .returned v) ∧
      ((∃ ys, ys = onL b 256 ∧ J ys W') ∨ (∃ pre, True ∧ Jx pre W')) := by
  refine callsIn_of_wp Try.func37 rfl trivial ?_ rfl
  simp only [Try.ntmps37, List.size_toArray, List.length_cons, List.length_nil, Nat.reduceAdd, Nat.reduceSub, Array.replicate_succ, Array.replicate_zero, List.push_toArray, List.append_toArray, List.nil_append, List.cons_append]
  gi_wp2
  gi_loopw [5] (fun v wr => ∃ k : Nat, k ≤ 256 ∧ v = .int .i64 (k : Int) ∧ J (onL b k) wr ∧ Below n₀ W wr)
    (fun v _ => 256 - (intOf v).toNat)
  case atStart => exact ⟨0, Nat.zero_le _, rfl, by simpa [onL] using h0, Below.refl _ _⟩
  case round =>
    obtain ⟨k, hk, rfl, hJs, hB⟩ := hrel
    by_cases c : k < 256
    · have d1 := (hB.cell (p := ⟨B1, 0, none⟩) hB1).trans hc1
      have d2 := (hB.cell (p := ⟨B2, 0, none⟩) hB2).trans hc2
      have hu8 : IntKind.u8.wrap (k : Int) = (k : Int) := by rw [IntKind.wrap_u8]; omega
      have cb : decide ((k : Int) < 256) = true := decide_eq_true (by omega)
      have HO := Aside0.mk (hOn wr hB k c)
      cases hb : b k with
      | false =>
        rw [hb] at HO
        gi_wp2_with (refine ⟨trivial, ?_⟩; gi_at_call 13; refine (callsIn_wide.2 HO.out).mono ?_; rintro e w' ⟨rfl, m, rfl⟩)
        refine ⟨fun _ h => (by cases h), ?_⟩
        gi_wp2
        go_roundw
        case rel => exact ⟨k + 1, c, by first | rfl | go_num, by rw [onL_succ, hb]; simpa using hJ _ _ _ none hJs (grown_drewN wr m) (fun r e => by cases e), hB.trans (below_drewN_ n₀ wr m)⟩
        case measure => simp [intOf]; omega
      | true =>
        rw [hb] at HO
        have HO2 : Aside0 (∀ m, YieldAt Fence.wide (n - 1) Try.prog l #[.int .u8 (k : Int)] (wr.drewN m) fun e W' => (e = .returned (.bool true) ∧ J (onL b k ++ [(k : Int)]) W' ∧ Below n₀ (wr.drewN m) W') ∨ (e = .returned (.bool false) ∧ Jx (onL b k ++ [(k : Int)]) W')) :=
          ⟨fun m => hY (onL b k) (k : Int) (wr.drewN m) (hJ _ _ _ none hJs (grown_drewN wr m) (fun r e => by cases e)) (by have := onL_len b k; omega)⟩
        gi_wp2_with (refine ⟨trivial, ?_⟩; gi_at_call 13; refine (callsIn_wide.2 HO.out).mono ?_; rintro e w' ⟨rfl, m, rfl⟩; obtain ⟨fn, tmps, assign, body, hy, hR⟩ := HO2.out m)
        refine hR.mono ?_
        rintro e W3 (⟨rfl, hJ3, hk3⟩ | ⟨rfl, hJx3⟩)
        · gi_wp2
          go_roundw
          case rel => exact ⟨k + 1, c, by first | rfl | go_num, by rw [onL_succ, hb]; simpa using hJ3, (hB.trans (below_drewN_ n₀ wr m)).trans hk3⟩
          case measure => simp [intOf]; omega
        · gi_wp2
          refine bodyPost_ret (results_none rfl _ _ _) rfl ?_
          exact ⟨⟨_, rfl⟩, .inr ⟨_, trivial, hJx3⟩⟩
    · have cb : decide ((k : Int) < 256) = false := decide_eq_false (by omega)
      obtain rfl : k = 256 := by omega
      gi_wp2
      go_end0
      exact ⟨⟨_, rfl⟩, .inl ⟨_, rfl, hJs⟩⟩
set_option maxHeartbeats 1000000 in
/-- m.Agreed(which): both are boxed; the function value captures the boxes. -/
theorem agreed_of (p : Option Addr) (i : Int) (w : World) :
    Calls Try.prog 21 #[.pointer p, .int .i64 i] w fun e w' => e = .returned (.func (.func 37) #[] #[.pointer (some ⟨w.heap.size, 0, none⟩), .pointer (some ⟨w.heap.size + 1, 0, none⟩)]) ∧ w' = (w.alloc (.cells #[.pointer p] 26)).alloc (.cells #[.int .i64 i] 3) := by
  go_enter Try.func21, Try.ntmps21
  go_wp2
  go_ret
  exact ⟨rfl, rfl⟩
theorem agreed_stops (n : Nat) (hn : 1 ≤ n) (B1 B2 n₀ : Nat) (p : Option Addr) (i : Int) (b : Nat → Bool) (w : World) (hB1 : B1 < n₀) (hB2 : B2 < n₀) (hn₀ : n₀ ≤ w.heap.size)
    (hc1 : w.cell? ⟨B1, 0, none⟩ = some (.pointer p)) (hc2 : w.cell? ⟨B2, 0, none⟩ = some (.int .i64 i))
    (hOn : ∀ W', Below n₀ w W' → ∀ o : Nat, o < 256 → Calls Try.prog 13 #[.pointer p, .int .i64 i, .int .u8 (o : Int)] W' fun e w' => e = .returned (.bool (b o)) ∧ ∃ m, w' = W'.drewN m) :
    SeqStopsK Fence.wide n Try.prog 37 #[.pointer (some ⟨B1, 0, none⟩), .pointer (some ⟨B2, 0, none⟩)] (fun x : Int => #[Value.int .u8 x]) (Below n₀) (fun ys => ys = onL b 256) (fun _ => True) 256 w := fun l J Jx W hW hJ _ hY h0 =>
  agreed1_in n hn l B1 B2 n₀ p i b hB1 hB2 J Jx hY W hJ ((hW.cell (p := ⟨B1, 0, none⟩) (Nat.lt_of_lt_of_le hB1 hn₀)).trans hc1) ((hW.cell (p := ⟨B2, 0, none⟩) (Nat.lt_of_lt_of_le hB2 hn₀)).trans hc2) (fun W' h => hOn W' ((hW.mono hn₀).trans h)) h0
theorem seqK_later {α : Type} {F : Fence} {n : Nat} {P : Program} {g : Nat} {lb : Array Value} {encs : α → Array Value} {Kp : World → World → Prop} {S Sp : List α → Prop} {N : Nat} {w w' : World} (h : SeqStopsK F n P g lb encs Kp S Sp N w) (hb : Below w.heap.size w w') : SeqStopsK F n P g lb encs Kp S Sp N w' :=
  fun l J Jx W hW hJ hJx hY h0 => h l J Jx W (hb.trans (hW.mono hb.size)) hJ hJx hY h0
theorem info5 : (Try.prog.info? 5).map (fun i => (i.zero, i.size, i.bytes)) = some (some (.int .u8 0), 1, 1) := by kernel_rfl
set_option maxRecDepth 100000 in
set_option maxHeartbeats 2000000 in
/-- slices.AppendSeq(nil, seq): what comes, in a row of its own. -/
theorem append_seq (lb : Array Value) (xs : List Int) (w : World)
    (hseq : SeqStopsK Fence.wide 4 Try.prog 37 lb (fun x : Int => #[Value.int .u8 x]) (Below w.heap.size) (fun ys => ys = xs) (fun _ => True) 256 w) :
    CallsIn Fence.wide 5 Try.prog 36 #[.slice none 0 0, .func (.func 37) #[] lb] w fun e W' => ∃ v, e = .returned v ∧ W'.ownsRow w.heap.size 5 1 v xs.length (xs.map (Value.int .u8)) ∧ Below w.heap.size w W' := by
  obtain ⟨i0, hi, hz0, hz1, hz2⟩ := info_parts info5
  refine callsIn_of_wp_marks Try.func36 rfl trivial ?_ rfl
  simp only [Try.ntmps36, List.size_toArray, List.length_cons, List.length_nil, Nat.reduceAdd, Nat.reduceSub, Array.replicate_succ, Array.replicate_zero, List.push_toArray, List.append_toArray, List.nil_append, List.cons_append]
  gi_wp2
  have bO := Boxed.new w 22 (.slice none 0 0)
  have hB0 : Below w.heap.size w (w.alloc (.cells #[.slice none 0 0] 22)) := (Below.refl _ w).alloc (Nat.le_refl _) _
  refine wpIn_rangeFunc_ownG rfl (by omega) (gf := 37) (lb := lb) rfl trivial (enters_of Try.func37 (by kernel_rfl) rfl)
    (seqK_later hseq hB0) belowK_t (belowK_b (by simp)) (Below.refl _ _) (fun _ => rfl)
    (fun (pre : List Int) W => (∃ v, Boxed W w.heap.size 22 v ∧ W.ownsRow w.heap.size 5 1 v pre.length (pre.map (Value.int .u8)) ∧ True) ∧ Below w.heap.size w W)
    (fun _ _ _ => False)
    (OwnFrom.and (Own.from (holdsRow_own w.heap.size w.heap.size 22 5 1 (fun pre : List Int => pre.length) (fun pre : List Int => pre.map (Value.int .u8)) (fun (pre : List Int) v => True)) _) (ownFrom_below (Nat.le_refl _) (by simp)))
    (fun _ _ _ _ _ hs _ _ => hs)
    ⟨⟨_, bO, World.ownsRow_nil _ _ _ _, trivial⟩, hB0⟩
    (fun x => { tmps := #[.slice none 0 0, .func (.func 37) #[] lb, .pointer (some ⟨w.heap.size, 0, none⟩), undef, .slice none 0 0, .int .u8 x, .func (.func 37) #[] lb, .int .u8 x, undef, undef, undef, undef, undef], defers := [] }) ?assign ?body ?done ?stop
  case assign =>
    intro l x W K hK
    gi_wp2
    exact hK
  case body =>
    rintro l pre x W ⟨⟨v, hv, hrow, _⟩, hB⟩ hlt
    have hc := hv.cell
    gi_wp2_with (gi_at_builtin; refine wpListIn_append_own _ rfl _ _ 22 rfl w.heap.size 5 i0 (.int .u8 0) 1 1 Try.underlying22 hi hz0 hz1 hz2 rfl (by decide) _ _ _ rfl (hrow.alloc _) ⟨W.heap.size, 0, none⟩ 1 1 [.int .u8 x] rfl rfl (cell_one_new _ _ _) (by simp [Value.oneCell']) (by unfold maxLen; omega) (by omega) (by have := hB.size; simp; omega) ?_; intro v' w1 hown' hgrow _; obtain ⟨g', cap', rfl⟩ := ownsRow_succ hown'; obtain ⟨hv1, hv2, hr2, hk2, hb2⟩ := hv.appended (by decide) hrow hB.size (Nat.le_refl _) hown' hgrow; have hc1 := hv1.cell; have hf1 := hv1.frozen)
    exact ⟨hk2.from _, hb2, ⟨_, hv2, by simpa using hr2, trivial⟩, hB.trans hb2⟩
  case done =>
    rintro D ys W hD rfl ⟨⟨v, hv, hrow, _⟩, hB⟩ hK
    have hc := hv.cell
    gi_wp2
    refine ⟨by simp, .inl ⟨_, _, rfl, run_takeDeferred hK, ?_⟩⟩
    exact ⟨_, results_tmp rfl _ _ _, v, rfl, ownsRow_putObj hrow _ hK rfl, hB.trans (belowK_b (w := w) (Nat.le_refl _) W D _ _ (by simp at hD; omega) hK rfl rfl)⟩
  case stop =>
    rintro D c pre W _ _ h _
    exact h.elim
set_option maxHeartbeats 1000000 in
theorem collect_seq (lb : Array Value) (xs : List Int) (w : World)
    (hseq : SeqStopsK Fence.wide 4 Try.prog 37 lb (fun x : Int => #[Value.int .u8 x]) (Below w.heap.size) (fun ys => ys = xs) (fun _ => True) 256 w) :
    Calls Try.prog 20 #[.func (.func 37) #[] lb] w fun e W' => ∃ v, e = .returned v ∧ W'.ownsRow w.heap.size 5 1 v xs.length (xs.map (Value.int .u8)) ∧ Below w.heap.size w W' := by
  have H := Aside0.mk (callsIn_wide.1 (append_seq lb xs w hseq))
  go_enter Try.func20, Try.ntmps20
  go_wp2_with fail
  refine (H.out).mono ?_
  rintro e w' ⟨v, rfl, ho, hb⟩
  go_wp2
  go_ret
  exact ⟨_, rfl, ho, hb⟩
/-- slices.Collect(m.Agreed(i)): the options that are on, in their order. -/
theorem collect_agreed (p : Option Addr) (i : Int) (b : Nat → Bool) (w : World)
    (hOn : ∀ W', Below w.heap.size w W' → ∀ o : Nat, o < 256 → Calls Try.prog 13 #[.pointer p, .int .i64 i, .int .u8 (o : Int)] W' fun e w' => e = .returned (.bool (b o)) ∧ ∃ m, w' = W'.drewN m) :
    Calls Try.prog 20 #[.func (.func 37) #[] #[.pointer (some ⟨w.heap.size, 0, none⟩), .pointer (some ⟨w.heap.size + 1, 0, none⟩)]] ((w.alloc (.cells #[.pointer p] 26)).alloc (.cells #[.int .i64 i] 3)) fun e W' => ∃ v, e = .returned v ∧ Kd.R (Kd.int .u8) 5 W' w.heap.size (fun _ => True) v (onL b 256) ∧ Below w.heap.size w W' := by
  have hB0 : Below w.heap.size w ((w.alloc (.cells #[.pointer p] 26)).alloc (.cells #[.int .i64 i] 3)) := below_alloc (below_alloc (Below.refl _ _) _) _
  have hsz : ((w.alloc (.cells #[.pointer p] 26)).alloc (.cells #[.int .i64 i] 3)).heap.size = w.heap.size + 2 := by simp
  have c1 : ((w.alloc (.cells #[.pointer p] 26)).alloc (.cells #[.int .i64 i] 3)).cell? ⟨w.heap.size, 0, none⟩ = some (.pointer p) := blk_cell (blk_alloc (blk_new w (.cells #[.pointer p] 26)) _) 0
  have c2 : ((w.alloc (.cells #[.pointer p] 26)).alloc (.cells #[.int .i64 i] 3)).cell? ⟨w.heap.size + 1, 0, none⟩ = some (.int .i64 i) := by
    have := blk_cell (blk_new (w.alloc (.cells #[.pointer p] 26)) (.cells #[.int .i64 i] 3)) 0
    rwa [World.size_alloc] at this
  generalize ((w.alloc (.cells #[.pointer p] 26)).alloc (.cells #[.int .i64 i] 3)) = w2 at *
  refine (collect_seq _ (onL b 256) w2 (agreed_stops 4 (by omega) w.heap.size (w.heap.size + 1) w2.heap.size p i b w2 (by omega) (by omega) (Nat.le_refl _) c1 c2 (fun W' h => hOn W' (hB0.trans (h.mono (by omega)))))).mono ?_
  rintro e W' ⟨v, he, ho, hb⟩
  exact ⟨v, he, Kd.R_lower (Kd.R_of_own ho (fun _ _ => trivial)) (by omega), hB0.trans (hb.mono (by omega))⟩
end Go.Proofs.Ytaabojppahcejaa.Op
