/- option: the document's machine: New. -/
import Derived.Test.YtaabojppahcejaaPb
import Derived.Deep.LoopGhost
namespace Go.Proofs.Ytaabojppahcejaa.Op
open Go Go.RowKit Go.Proofs.YtaabojppahcejaaW.PrintWords Go.Proofs.YtaabojppahcejaaW.PrintLast Go.Proofs.YtaabojppahcejaaW.PrintMore
set_option linter.unusedVariables false
set_option linter.unusedSimpArgs false
@[irreducible] def Z73 : Array Value := ((List.replicate 256 (Value.int .i64 0) ++ List.replicate 256 (Value.int .i64 0)) ++ (List.replicate 256 (Value.bool false) ++ List.replicate 256 (Value.bool false))).toArray
unseal Z73 in
theorem exec73 (ρ : Operand → Value) (d : Option Tmp) (ty : TypeId) (p : String) (aft : Array Edge) (W : World) : (execOp ρ { dst := d, op := .build 73 #[], type := ty, pos := p, after := aft, guard := none }).run Try.prog W = .ok (.value (.agg Z73)) W := by kernel_rfl
theorem two_get (m : Nat) (a b : Value) (i n : Nat) (hi : i < 2) (hn : n < m) :
    (((List.replicate m a ++ List.replicate m a) ++ (List.replicate m b ++ List.replicate m b)).toArray)[m * i + n]? = some a ∧ (((List.replicate m a ++ List.replicate m a) ++ (List.replicate m b ++ List.replicate m b)).toArray)[2 * m + m * i + n]? = some b := by
  rw [List.getElem?_toArray, List.getElem?_toArray]
  match i, hi with
  | 0, _ =>
    constructor
    · rw [List.getElem?_append_left (by simp only [List.length_append, List.length_replicate]; omega), List.getElem?_append_left (by simp only [List.length_append, List.length_replicate]; omega), List.getElem?_replicate, if_pos (by omega)]
    · rw [List.getElem?_append_right (by simp only [List.length_append, List.length_replicate]; omega), List.getElem?_append_left (by simp only [List.length_append, List.length_replicate]; omega), List.getElem?_replicate, if_pos (by simp only [List.length_append, List.length_replicate]; omega)]
  | 1, _ =>
    constructor
    · rw [List.getElem?_append_left (by simp only [List.length_append, List.length_replicate]; omega), List.getElem?_append_right (by simp only [List.length_append, List.length_replicate]; omega), List.getElem?_replicate, if_pos (by simp only [List.length_append, List.length_replicate]; omega)]
    · rw [List.getElem?_append_right (by simp only [List.length_append, List.length_replicate]; omega), List.getElem?_append_right (by simp only [List.length_append, List.length_replicate]; omega), List.getElem?_replicate, if_pos (by simp only [List.length_append, List.length_replicate]; omega)]
theorem RIs_new {W : World} {g : Nat} (h : W.heap[g]? = some (.cells Z73 73 (0, 0))) : RIs W g (fun _ _ => 0) (fun _ _ => false) := by
  refine ⟨Z73, h, fun i n hi hn => ?_, fun i n hi hn => ?_⟩
  · unfold Z73; exact (two_get 256 _ _ i n hi hn).1
  · unfold Z73; exact (two_get 256 _ _ i n hi hn).2
set_option maxHeartbeats 4000000 in
theorem rnew_of (A1 : Option Addr) (c1 : Nat) (l1 : List Int) (A2 : Option Addr) (c2 : Nat) (l2 : List Int) (w : World) (h1 : Kd.C (Kd.int .u8) w A1 l1.length l1) (hc1 : l1.length ≤ c1) (h2 : Kd.C (Kd.int .u8) w A2 l2.length l2) (hc2 : l2.length ≤ c2)
    (hb1 : ∀ x ∈ l1, 0 ≤ x ∧ x ≤ 255) (hb2 : ∀ x ∈ l2, 0 ≤ x ∧ x ≤ 255) (hl1 : l1.length ≤ 100000) (hl2 : l2.length ≤ 100000) :
    Calls Try.prog 23 #[.slice A1 l1.length c1, .slice A2 l2.length c2] w fun e w' => ∃ g, e = .returned (.pointer (some ⟨g, 0, none⟩)) ∧ w.heap.size ≤ g ∧ RIs w' g (fun _ _ => 0) (agL l1 l2) ∧ Below w.heap.size w w' := by
  have H1 := Aside0.mk h1
  have H2 := Aside0.mk h2
  clear h1 h2
  go_enter Try.func23, Try.ntmps23
  go_wp2_with (first | ((with_reducible refine gate_dst (N := 10) rfl ?_); refine Kd.event_run rfl (exec73 _ _ _ _ _ _) ?_) | ((with_reducible refine gate_dst (N := 11) rfl ?_); refine box_event ?hg (N := 11) ?hd (cs := Z73) (t := 73) ?hr ?_; (case hd => rfl); (case hg => rfl); (case hr => first | (go_simp; done) | (go_simp; rfl)); intro g hg w7 hbox hb; have hge : w.heap.size ≤ g := Nat.le_of_eq hg.symm; clear hg))
  have HM := Aside0.mk (RIs_new hbox)
  have HB := Aside0.mk hb
  clear hbox hb
  go_loopw [14] (fun v wr => ∃ k : Nat, k ≤ l1.length ∧ v = .int .i64 (k : Int) ∧ Aside0 (RIs wr g (fun _ _ => 0) (agL (l1.take k) [])) ∧ Aside0 (Below w.heap.size w wr)) (fun v _ => l1.length - (intOf v).toNat)
  case atStart => exact ⟨0, by omega, rfl, ⟨HM.out.ag_eq (fun i n _ => by simp [agL])⟩, HB⟩
  case round =>
    clear HM HB
    obtain ⟨k, hk, rfl, HM, HB⟩ := hrel
    by_cases c : k < l1.length
    · obtain ⟨n, hn, hx⟩ := rd_byte l1 hb1 k c
      have cb : decide ((k : Int) < (l1.length : Int)) = true := decide_eq_true (by omega)
      obtain ⟨ad, e1, hx0⟩ := Kd.at_int (Kd.C_below H1.out HB.out) (k : Int) (by omega) (by omega)
      cases e1
      rw [hx] at hx0
      simp only [Int.toNat_natCast, Nat.mul_one, Nat.add_zero] at hx0
      have p0 : (0 ≤ (k : Int)) = True := eq_true (by omega)
      have q0 : ((k : Int) < (l1.length : Int)) = True := eq_true (by omega)
      have hw : wrap64 ((k : Int) + 1) = ((k + 1 : Nat) : Int) := by rw [wrap_in _ (by omega) (by omega)]; omega
      have hf : wr.frozen? ⟨g, 512 + n, none⟩ = false := HM.out.fz _
      have ha := HM.out.ag 0 n (by decide) hn
      simp only [Nat.mul_zero, Nat.add_zero] at ha
      go_wp2
      go_roundw
      case rel =>
        refine ⟨k + 1, by omega, congrArg (Value.int .i64) (by omega), ⟨?_⟩, ⟨below_set HB.out hge⟩⟩
        have := HM.out.agree 0 n (by decide) hn
        rw [agr0 l1 [] k n c hx] at this
        simpa only [Nat.mul_zero, Nat.add_zero] using this
      case measure => simp only [intOf]; omega
    · have cb : decide ((k : Int) < (l1.length : Int)) = false := decide_eq_false (by omega)
      have hkl : k = l1.length := by omega
      subst hkl
      clear cb c hk
      go_wp2
      go_loopw [27] (fun v wr => ∃ k : Nat, k ≤ l2.length ∧ v = .int .i64 (k : Int) ∧ Aside0 (RIs wr g (fun _ _ => 0) (agL l1 (l2.take k))) ∧ Aside0 (Below w.heap.size w wr)) (fun v _ => l2.length - (intOf v).toNat)
      case atStart => exact ⟨0, by omega, rfl, ⟨HM.out.ag_eq (fun i n _ => by simp [agL])⟩, HB⟩
      case round =>
        clear HM HB
        obtain ⟨k, hk, rfl, HM, HB⟩ := hrel
        by_cases c : k < l2.length
        · obtain ⟨n, hn, hx⟩ := rd_byte l2 hb2 k c
          have cb : decide ((k : Int) < (l2.length : Int)) = true := decide_eq_true (by omega)
          obtain ⟨ad, e1, hx0⟩ := Kd.at_int (Kd.C_below H2.out HB.out) (k : Int) (by omega) (by omega)
          cases e1
          rw [hx] at hx0
          simp only [Int.toNat_natCast, Nat.mul_one, Nat.add_zero] at hx0
          have p0 : (0 ≤ (k : Int)) = True := eq_true (by omega)
          have q0 : ((k : Int) < (l2.length : Int)) = True := eq_true (by omega)
          have hw : wrap64 ((k : Int) + 1) = ((k + 1 : Nat) : Int) := by rw [wrap_in _ (by omega) (by omega)]; omega
          have hf : wr.frozen? ⟨g, 512 + 256 + n, none⟩ = false := HM.out.fz _
          have ha := HM.out.ag 1 n (by decide) hn
          simp only [Nat.mul_one] at ha
          go_wp2
          go_roundw
          case rel =>
            refine ⟨k + 1, by omega, congrArg (Value.int .i64) (by omega), ⟨?_⟩, ⟨below_set HB.out hge⟩⟩
            have := (HM.out.agree 1 n (by decide) hn).ag_eq (fun j m h2 => agr1' l1 l2 k n c hx j m h2)
            simpa only [Nat.mul_one] using this
          case measure => simp only [intOf]; omega
        · have cb : decide ((k : Int) < (l2.length : Int)) = false := decide_eq_false (by omega)
          have hkl : k = l2.length := by omega
          subst hkl
          go_wp2
          go_ret
          refine ⟨g, rfl, hge, ?_, HB.out⟩
          have := HM.out
          rw [List.take_length] at this
          exact this
end Go.Proofs.Ytaabojppahcejaa.Op
