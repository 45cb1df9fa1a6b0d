/- option: New. -/
import Derived.Test.YtaabojppahcejaaMc
import Derived.Test.YtaabojppahcejaaWMore
import Derived.Test.YtaabojppahcejaaWLast
import Derived.Deep.LoopGhost
namespace Go.Proofs.Ytaabojppahcejaa.Op
open Go.RowKit Go.Proofs.YtaabojppahcejaaW.PrintWords Go.Proofs.YtaabojppahcejaaW.PrintLast Go.Proofs.YtaabojppahcejaaW.PrintMore
set_option linter.unusedVariables false
set_option linter.unusedSimpArgs false
def sideZ : List Value := List.replicate 256 (.int .u8 0) ++ List.replicate 256 (.bool false)
@[irreducible] def Z81 : Array Value := (sideZ ++ sideZ).toArray
unseal Z81 in
theorem build81 (W : World) : (Instr.build 81 #[]).run Try.prog W = .ok (.agg Z81) W := by kernel_rfl
unseal Z81 in
theorem exec81 (ρ : Operand → Value) (d : Option Tmp) (ty : TypeId) (p : String) (aft : Array Edge) (W : World) : (execOp ρ { dst := d, op := .build 81 #[], type := ty, pos := p, after := aft, guard := none }).run Try.prog W = .ok (.value (.agg Z81)) W := by kernel_rfl
theorem four_get (m : Nat) (a b : Value) (i n : Nat) (hi : i < 2) (hn : n < m) :
    (((List.replicate m a ++ List.replicate m b) ++ (List.replicate m a ++ List.replicate m b)).toArray)[2 * m * i + n]? = some a ∧ (((List.replicate m a ++ List.replicate m b) ++ (List.replicate m a ++ List.replicate m b)).toArray)[2 * m * i + m + n]? = some b := by
  rw [List.getElem?_toArray, List.getElem?_toArray]
  match i, hi with
  | 0, _ =>
    constructor
    · rw [List.getElem?_append_left (by simp; omega), List.getElem?_append_left (by simp; omega), List.getElem?_replicate, if_pos (by omega)]
    · rw [List.getElem?_append_left (by simp only [List.length_append, List.length_replicate]; omega), List.getElem?_append_right (by simp only [List.length_replicate]; omega), List.getElem?_replicate, if_pos (by simp; omega)]
  | 1, _ =>
    constructor
    · rw [List.getElem?_append_right (by simp; omega), List.getElem?_append_left (by simp; omega), List.getElem?_replicate, if_pos (by simp; omega)]
    · rw [List.getElem?_append_right (by simp; omega), List.getElem?_append_right (by simp; omega), List.getElem?_replicate, if_pos (by simp; omega)]
theorem Z_st (i n : Nat) (hi : i < 2) (hn : n < 256) : Z81[512 * i + n]? = some (.int .u8 0) := by
  unfold Z81 sideZ
  exact (four_get 256 (.int .u8 0) (.bool false) i n hi hn).1
theorem Z_ag (i n : Nat) (hi : i < 2) (hn : n < 256) : Z81[512 * i + 256 + n]? = some (.bool false) := by
  unfold Z81 sideZ
  exact (four_get 256 (.int .u8 0) (.bool false) i n hi hn).2
theorem MIs_new {W : World} {g : Nat} (h : W.heap[g]? = some (.cells Z81 81 (0, 0))) : MIs W g (fun _ _ => 0) (fun _ _ => false) := ⟨Z81, h, Z_st, Z_ag⟩
/-- What is agreed to, out of the two lists. -/
def agL (a b : List Int) : Nat → Nat → Bool := fun i n => if i = 0 then a.contains (n : Int) else b.contains (n : Int)
theorem take_succ_contains (l : List Int) (k n : Nat) (hk : k < l.length) (hn : rd l (k : Int) = (n : Int)) (m : Nat) : (l.take (k + 1)).contains (m : Int) = (if m = n then true else (l.take k).contains (m : Int)) := by
  have e : l[k] = (n : Int) := by rw [← hn]; unfold rd; simp [List.getD_eq_getElem?_getD, hk]
  rw [List.take_succ_eq_append_getElem hk, e]
  by_cases c : m = n
  · simp [c]
  · have : ¬ ((m : Int) = (n : Int)) := by omega
    rw [if_neg c]
    rw [Bool.eq_iff_iff]
    simp [this]
theorem agr0 (l b : List Int) (k n : Nat) (hk : k < l.length) (hn : rd l (k : Int) = (n : Int)) : agr (agL (l.take k) b) 0 n = agL (l.take (k + 1)) b := by
  funext j m
  unfold agr agL
  by_cases c : j = 0
  · subst c
    simp only [true_and, if_true]
    rw [take_succ_contains l k n hk hn m]
  · simp [c]
theorem agr1 (a l : List Int) (k n : Nat) (hk : k < l.length) (hn : rd l (k : Int) = (n : Int)) : (fun j m => if j < 2 then agr (agL a (l.take k)) 1 n j m else agL a (l.take (k + 1)) j m) = agL a (l.take (k + 1)) := by
  funext j m
  by_cases h2 : j < 2
  · rw [if_pos h2]
    unfold agr agL
    by_cases c : j = 1
    · subst c
      simp only [true_and, Nat.one_ne_zero, if_false]
      rw [take_succ_contains l k n hk hn m]
    · have : j = 0 := by omega
      simp [this]
  · rw [if_neg h2]
theorem MIs.ag_eq {W : World} {g : Nat} {S : Nat → Nat → Int} {A A' : Nat → Nat → Bool} (h : MIs W g S A) (e : ∀ i n, i < 2 → A i n = A' i n) : MIs W g S A' := by
  obtain ⟨cs, h0, h1, h2⟩ := h
  exact ⟨cs, h0, h1, fun i n hi hn => by rw [← e i n hi]; exact h2 i n hi hn⟩
theorem agr1' (a l : List Int) (k n : Nat) (hk : k < l.length) (hn : rd l (k : Int) = (n : Int)) (j m : Nat) (h2 : j < 2) : agr (agL a (l.take k)) 1 n j m = agL a (l.take (k + 1)) j m := by
  have := congrFun (congrFun (agr1 a l k n hk hn) j) m
  rw [if_pos h2] at this
  exact this
theorem rd_byte (l : List Int) (hb : ∀ x ∈ l, 0 ≤ x ∧ x ≤ 255) (k : Nat) (hk : k < l.length) : ∃ n : Nat, n < 256 ∧ rd l (k : Int) = (n : Int) := by
  have e : rd l (k : Int) = l[k] := by unfold rd; simp [List.getD_eq_getElem?_getD, hk]
  have := hb _ (List.getElem_mem hk)
  exact ⟨l[k].toNat, by omega, by rw [e]; omega⟩
theorem wrap_in (x : Int) (h0 : -9223372036854775808 ≤ x) (h1 : x ≤ 9223372036854775807) : wrap64 x = x := by unfold wrap64; omega
set_option maxHeartbeats 4000000 in
theorem new_of (A1 : Option Addr) (c1 : Nat) (l1 : List Int) (A2 : Option Addr) (c2 : Nat) (l2 : List Int) (w : World) (h1 : Kd.C (Kd.int .u8) w A1 l1.length l1) (hc1 : l1.length ≤ c1) (h2 : Kd.C (Kd.int .u8) w A2 l2.length l2) (hc2 : l2.length ≤ c2)
    (hb1 : ∀ x ∈ l1, 0 ≤ x ∧ x ≤ 255) (hb2 : ∀ x ∈ l2, 0 ≤ x ∧ x ≤ 255) (hl1 : l1.length ≤ 100000) (hl2 : l2.length ≤ 100000) :
    Calls Try.prog 10 #[.slice A1 l1.length c1, .slice A2 l2.length c2] w fun e w' => ∃ g, e = .returned (.pointer (some ⟨g, 0, none⟩)) ∧ w.heap.size ≤ g ∧ MIs w' g (fun _ _ => 0) (agL l1 l2) ∧ Below w.heap.size w w' := by
  have H1 := Aside0.mk h1
  have H2 := Aside0.mk h2
  clear h1 h2
  go_enter Try.func10, Try.ntmps10
  go_wp2_with (first | ((with_reducible refine gate_dst (N := 10) rfl ?_); refine Kd.event_run rfl (exec81 _ _ _ _ _ _) ?_) | ((with_reducible refine gate_dst (N := 11) rfl ?_); refine box_event ?hg (N := 11) ?hd (cs := Z81) (t := 81) ?hr ?_; (case hd => rfl); (case hg => rfl); (case hr => first | (go_simp; done) | (go_simp; rfl)); intro g hg w7 hbox hb; have hge : w.heap.size ≤ g := Nat.le_of_eq hg.symm; clear hg))
  have HM := Aside0.mk (MIs_new hbox)
  have HB := Aside0.mk hb
  clear hbox hb
  go_loopw [14] (fun v wr => ∃ k : Nat, k ≤ l1.length ∧ v = .int .i64 (k : Int) ∧ Aside0 (MIs wr g (fun _ _ => 0) (agL (l1.take k) [])) ∧ Aside0 (Below w.heap.size w wr)) (fun v _ => l1.length - (intOf v).toNat)
  case atStart => exact ⟨0, by omega, rfl, ⟨HM.out.ag_eq (fun i n _ => by simp [agL])⟩, HB⟩
  case round =>
    clear HM HB
    obtain ⟨k, hk, rfl, HM, HB⟩ := hrel
    by_cases c : k < l1.length
    · obtain ⟨n, hn, hx⟩ := rd_byte l1 hb1 k c
      have cb : decide ((k : Int) < (l1.length : Int)) = true := decide_eq_true (by omega)
      obtain ⟨ad, e1, hx0⟩ := Kd.at_int (Kd.C_below H1.out HB.out) (k : Int) (by omega) (by omega)
      cases e1
      rw [hx] at hx0
      simp only [Int.toNat_natCast, Nat.mul_one, Nat.add_zero] at hx0
      have p0 : (0 ≤ (k : Int)) = True := eq_true (by omega)
      have q0 : ((k : Int) < (l1.length : Int)) = True := eq_true (by omega)
      have hw : wrap64 ((k : Int) + 1) = ((k + 1 : Nat) : Int) := by rw [wrap_in _ (by omega) (by omega)]; omega
      have hf : wr.frozen? ⟨g, 256 + n, none⟩ = false := by obtain ⟨cs, hb, _⟩ := HM.out; exact blk_frozen hb _
      have ha := HM.out.ag 0 n (by decide) hn
      simp only [Nat.mul_zero, Nat.zero_add] at ha
      go_wp2
      go_roundw
      case rel =>
        refine ⟨k + 1, by omega, congrArg (Value.int .i64) (by omega), ⟨?_⟩, ⟨below_set HB.out hge⟩⟩
        have := HM.out.agree 0 n (by decide) hn
        rw [agr0 l1 [] k n c hx] at this
        simpa only [Nat.mul_zero, Nat.zero_add] using this
      case measure => simp only [intOf]; omega
    · have cb : decide ((k : Int) < (l1.length : Int)) = false := decide_eq_false (by omega)
      have hkl : k = l1.length := by omega
      subst hkl
      clear cb c hk
      go_wp2
      go_loopw [28] (fun v wr => ∃ k : Nat, k ≤ l2.length ∧ v = .int .i64 (k : Int) ∧ Aside0 (MIs wr g (fun _ _ => 0) (agL l1 (l2.take k))) ∧ Aside0 (Below w.heap.size w wr)) (fun v _ => l2.length - (intOf v).toNat)
      case atStart => exact ⟨0, by omega, rfl, ⟨HM.out.ag_eq (fun i n _ => by simp [agL])⟩, HB⟩
      case round =>
        clear HM HB
        obtain ⟨k, hk, rfl, HM, HB⟩ := hrel
        by_cases c : k < l2.length
        · obtain ⟨n, hn, hx⟩ := rd_byte l2 hb2 k c
          have cb : decide ((k : Int) < (l2.length : Int)) = true := decide_eq_true (by omega)
          obtain ⟨ad, e1, hx0⟩ := Kd.at_int (Kd.C_below H2.out HB.out) (k : Int) (by omega) (by omega)
          cases e1
          rw [hx] at hx0
          simp only [Int.toNat_natCast, Nat.mul_one, Nat.add_zero] at hx0
          have p0 : (0 ≤ (k : Int)) = True := eq_true (by omega)
          have q0 : ((k : Int) < (l2.length : Int)) = True := eq_true (by omega)
          have hw : wrap64 ((k : Int) + 1) = ((k + 1 : Nat) : Int) := by rw [wrap_in _ (by omega) (by omega)]; omega
          have hf : wr.frozen? ⟨g, 512 + 256 + n, none⟩ = false := by obtain ⟨cs, hb, _⟩ := HM.out; exact blk_frozen hb _
          have ha := HM.out.ag 1 n (by decide) hn
          simp only [Nat.mul_one] at ha
          go_wp2
          go_roundw
          case rel =>
            refine ⟨k + 1, by omega, congrArg (Value.int .i64) (by omega), ⟨?_⟩, ⟨below_set HB.out hge⟩⟩
            have := (HM.out.agree 1 n (by decide) hn).ag_eq (fun j m h2 => agr1' l1 l2 k n c hx j m h2)
            simpa only [Nat.mul_one] using this
          case measure => simp only [intOf]; omega
        · have cb : decide ((k : Int) < (l2.length : Int)) = false := decide_eq_false (by omega)
          have hkl : k = l2.length := by omega
          subst hkl
          go_wp2
          go_ret
          refine ⟨g, rfl, hge, ?_, HB.out⟩
          have := HM.out
          rw [List.take_length] at this
          exact this
end Go.Proofs.Ytaabojppahcejaa.Op
