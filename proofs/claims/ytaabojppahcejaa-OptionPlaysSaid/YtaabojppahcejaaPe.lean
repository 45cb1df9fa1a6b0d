/- option: the law's same: a machine that is the document's is so told. -/
import Derived.Test.YtaabojppahcejaaPd
import Derived.Deep.LoopGhost
namespace Go.Proofs.Ytaabojppahcejaa.Op
open Go Go.RowKit Go.Proofs.YtaabojppahcejaaW.PrintWords Go.Proofs.YtaabojppahcejaaW.PrintLast Go.Proofs.YtaabojppahcejaaW.PrintMore Go.Proofs.Ytaabojppahcejaa.POp
set_option linter.unusedVariables false
set_option linter.unusedSimpArgs false
theorem exec_append' {P : Program} {oi : Oper} {a : Act} {v u v' : Value} {w w' : World} (s x : Operand) (t : TypeId) (hr : (Builtin.append_ #[t, t] t #[v, u]).run P w = .ok v' w') (ho : oi.op = .call { callee := .builtin .append, args := #[s, x], argTypes := #[t, t] }) (ht : oi.type = t) (hs : a.eval s = v) (hx : a.eval x = u) : (execOp a.eval oi).run P w = .ok (.value v') w' := by
  unfold execOp
  simp only [ho, ht, resolve, invoke, builtin, Sem.run_bind, Sem.run_pure, Result.andThen_ok, List.map_toArray, List.map_cons, List.map_nil, hs, hx, hr]
theorem rs_u8 (k : Nat) (h : k < 256) : IntKind.u8.wrap (k : Int) = (k : Int) := by rw [IntKind.wrap_u8]; omega
theorem blk_below' {W W' : World} {g : Nat} {S : Nat → Nat → Int} {A : Nat → Nat → Bool} {B : Nat} (h : MIs W g S A) (hg : g < B) (hb : Below B W W') : MIs W' g S A := by
  obtain ⟨cs, h0, h1, h2⟩ := h; exact ⟨cs, (hb.block g hg).trans h0, h1, h2⟩
theorem RIs.below' {W W' : World} {g : Nat} {S : Nat → Nat → Int} {A : Nat → Nat → Bool} {B : Nat} (h : RIs W g S A) (hg : g < B) (hb : Below B W W') : RIs W' g S A := by
  obtain ⟨cs, h0, h1, h2⟩ := h; exact ⟨cs, (hb.block g hg).trans h0, h1, h2⟩
theorem onL_at (S : Nat → Nat → Int) (k n : Nat) (h : S k n = 1) : onL (fun o => S k o == 1) (n + 1) = onL (fun o => S k o == 1) n ++ [(n : Int)] := by
  rw [onL_succ]; simp [h]
theorem onL_off (S : Nat → Nat → Int) (k n : Nat) (h : S k n ≠ 1) : onL (fun o => S k o == 1) (n + 1) = onL (fun o => S k o == 1) n := by
  rw [onL_succ]; simp [h]
def SameInv (w : World) (S : Nat → Nat → Int) (k n : Nat) (v : Value) (wr : World) : Prop := Kd.R (Kd.int .u8) 5 wr w.heap.size (fun _ => True) v (onL (fun o => S k o == 1) n) ∧ Below w.heap.size w wr
set_option maxHeartbeats 8000000 in
theorem same_walk (g gx : Nat) (S : Nat → Nat → Int) (A A' : Nat → Nat → Bool) (w : World) (hm : MIs w g S A) (hx : RIs w gx S A') (hr : Rng S) :
    Calls Try.prog 28 #[.pointer (some ⟨g, 0, none⟩), .pointer (some ⟨gx, 0, none⟩)] w fun e w' => e = .returned (.bool true) ∧ Below w.heap.size w w' := by
  have HM := Aside0.mk hm
  have HX := Aside0.mk hx
  have HR := Aside0.mk hr
  have hgl := Aside0.mk hm.lt
  have hxl := Aside0.mk hx.lt
  clear hm hx hr
  have HQ := Aside0.mk (qb_start S)
  go_enter Try.func28, Try.ntmps28
  go_wp2
  go_loopw [5, 10] (fun q v wr => ∃ k : Nat, k ≤ 2 ∧ v = .int .i64 (k : Int) ∧ q = .bool (qb S k 0) ∧ Aside0 (Below w.heap.size w wr)) (fun _ v _ => 2 - (intOf v).toNat)
  case atStart => exact ⟨0, by omega, rfl, by rw [HQ.out], ⟨Below.refl _ _⟩⟩
  case round =>
    obtain ⟨k, hk, rfl, rfl, HB⟩ := hrel
    by_cases c : k < 2
    · have cb : decide ((k : Int) < 2) = true := decide_eq_true (by omega)
      go_wp2
      go_loopw [5, 7, 13] (fun q v u wr2 => ∃ n : Nat, n ≤ 256 ∧ u = .int .i64 (n : Int) ∧ q = .bool (qb S k n) ∧ Aside0 (SameInv w S k n v wr2)) (fun _ _ u _ => 256 - (intOf u).toNat)
      case atStart => exact ⟨0, by omega, rfl, rfl, ⟨Kd.R_nil _ _ _ _ _, HB.out⟩⟩
      case round =>
        obtain ⟨n, hn, rfl, rfl, HI⟩ := hrel
        rename_i v7 _ wr2
        by_cases d : n < 256
        · have db : decide ((n : Int) < 256) = true := decide_eq_true (by omega)
          -- ROUND
          have hs := (HX.out.below' hxl.out HI.out.2).st k n c d
          rw [Nat.mul_comm] at hs
          have hu8 := rs_u8 n d
          have M2 := Aside0.mk (blk_below' HM.out hgl.out HI.out.2)
          have hb2 := Aside0.mk (below_size HI.out.2)
          have h2q := Aside0.mk (qb_succ S k n)
          have hk1 := Aside0.mk c
          have hd1 := Aside0.mk d
          have p0 : (0 ≤ (k : Int)) = True := eq_true (by omega)
          have p1 : ((k : Int) < 2) = True := eq_true (by omega)
          have p2 : (0 ≤ (n : Int)) = True := eq_true (by omega)
          have p3 : ((n : Int) < 256) = True := eq_true (by omega)
          have hns : (S k n != S k n) = false := by simp
          have hol := Aside0.mk (onL_len (fun o => S k o == 1) n)
          cases hq : qb S k n with
          | true =>
           by_cases h1 : S k n = 1
           · have hl : decide (S k n < 2) = true := decide_eq_true (by omega)
             have C := Aside0.mk (fun W h => state_of g k n hk1.out hd1.out S A W h HR.out)
             have D := Aside0.mk (fun W h => on_of g k n hk1.out hd1.out S A W h HR.out)
             have HQ2 : Aside0 (qb S k (n + 1) = true) := ⟨by rw [h2q.out, hq, hl]; rfl⟩
             have HL := Aside0.mk hl
             have HO := Aside0.mk (onL_at S k n h1)
             have hj1 : (S k n == 1) = true := by simp [h1]
             have hj2 : ((S k n == 1) != true) = false := by rw [hj1]; rfl
             obtain ⟨va, wa, hrun, hRa, hBa⟩ := appByte (n : Int) HI.out.1 hb2.out (by have := hol.out; have := hd1.out; omega)
             have HRa := Aside0.mk hRa
             have HBa := Aside0.mk (HI.out.2.trans hBa)
             have Ma := Aside0.mk (blk_below' HM.out hgl.out HBa.out)
             clear hRa hBa HI M2
             go_wp2_with (first
               | ((with_reducible refine gate_dst (N := 35) rfl ?_); refine Kd.event_run (by rfl) (exec_append' (.tmp 31) (.tmp 34) 22 hrun (by rfl) (by rfl) (by rfl) (by rfl)) ?_; clear hrun)
               | (go_at_call 19; refine (C.out _ (by exact Ma.out)).mono ?_; rintro e w' ⟨rfl, m1, rfl⟩)
               | (go_at_call 13; refine (D.out _ (by exact Ma.out.heap rfl)).mono ?_; rintro e w' ⟨rfl, m2, rfl⟩))
             go_roundw
             case rel => exact ⟨n + 1, hd1.out, by first | rfl | go_num, by rw [HQ2.out], ⟨by rw [HO.out]; exact Kd.R_drewN HRa.out _, pw_below_drewN HBa.out _⟩⟩
             case measure => have := hd1.out; simp [intOf]; omega
           by_cases h2 : S k n < 2
           · have hl : decide (S k n < 2) = true := decide_eq_true h2
             have C := Aside0.mk (fun W h => state_of g k n hk1.out hd1.out S A W h HR.out)
             have D := Aside0.mk (fun W h => on_of g k n hk1.out hd1.out S A W h HR.out)
             have HQ2 : Aside0 (qb S k (n + 1) = true) := ⟨by rw [h2q.out, hq, hl]; rfl⟩
             have HL := Aside0.mk hl
             have HO := Aside0.mk (onL_off S k n h1)
             have hj1 : (S k n == 1) = false := by simp [h1]
             have hj2 : ((S k n == 1) != false) = false := by rw [hj1]; rfl
             go_wp2_with (first
               | (go_at_call 19; refine (C.out _ (by exact M2.out)).mono ?_; rintro e w' ⟨rfl, m1, rfl⟩)
               | (go_at_call 13; refine (D.out _ (by exact M2.out.heap rfl)).mono ?_; rintro e w' ⟨rfl, m2, rfl⟩))
             go_roundw
             case rel => exact ⟨n + 1, hd1.out, by first | rfl | go_num, by rw [HQ2.out], ⟨by rw [HO.out]; exact Kd.R_drewN HI.out.1 _, pw_below_drewN HI.out.2 _⟩⟩
             case measure => have := hd1.out; simp [intOf]; omega
           · have hl : decide (S k n < 2) = false := decide_eq_false h2
             have C := Aside0.mk (fun W h => state_of g k n hk1.out hd1.out S A W h HR.out)
             have D := Aside0.mk (fun W h => on_of g k n hk1.out hd1.out S A W h HR.out)
             have HQ2 : Aside0 (qb S k (n + 1) = false) := ⟨by rw [h2q.out, hq, hl]; rfl⟩
             have HL := Aside0.mk hl
             have HO := Aside0.mk (onL_off S k n h1)
             have hj1 : (S k n == 1) = false := by simp [h1]
             have hj2 : ((S k n == 1) != false) = false := by rw [hj1]; rfl
             go_wp2_with (first
               | (go_at_call 19; refine (C.out _ (by exact M2.out)).mono ?_; rintro e w' ⟨rfl, m1, rfl⟩)
               | (go_at_call 13; refine (D.out _ (by exact M2.out.heap rfl)).mono ?_; rintro e w' ⟨rfl, m2, rfl⟩))
             go_roundw
             case rel => exact ⟨n + 1, hd1.out, by first | rfl | go_num, by rw [HQ2.out], ⟨by rw [HO.out]; exact Kd.R_drewN HI.out.1 _, pw_below_drewN HI.out.2 _⟩⟩
             case measure => have := hd1.out; simp [intOf]; omega
          | false =>
           by_cases h1 : S k n = 1
           · have hl : decide (S k n < 2) = true := decide_eq_true (by omega)
             have C := Aside0.mk (fun W h => state_of g k n hk1.out hd1.out S A W h HR.out)
             have D := Aside0.mk (fun W h => on_of g k n hk1.out hd1.out S A W h HR.out)
             have HQ2 : Aside0 (qb S k (n + 1) = false) := ⟨by rw [h2q.out, hq, hl]; rfl⟩
             have HL := Aside0.mk hl
             have HO := Aside0.mk (onL_at S k n h1)
             have hj1 : (S k n == 1) = true := by simp [h1]
             have hj2 : ((S k n == 1) != true) = false := by rw [hj1]; rfl
             obtain ⟨va, wa, hrun, hRa, hBa⟩ := appByte (n : Int) HI.out.1 hb2.out (by have := hol.out; have := hd1.out; omega)
             have HRa := Aside0.mk hRa
             have HBa := Aside0.mk (HI.out.2.trans hBa)
             have Ma := Aside0.mk (blk_below' HM.out hgl.out HBa.out)
             clear hRa hBa HI M2
             go_wp2_with (first
               | ((with_reducible refine gate_dst (N := 35) rfl ?_); refine Kd.event_run (by rfl) (exec_append' (.tmp 31) (.tmp 34) 22 hrun (by rfl) (by rfl) (by rfl) (by rfl)) ?_; clear hrun)
               | (go_at_call 19; refine (C.out _ (by exact Ma.out)).mono ?_; rintro e w' ⟨rfl, m1, rfl⟩)
               | (go_at_call 13; refine (D.out _ (by exact Ma.out.heap rfl)).mono ?_; rintro e w' ⟨rfl, m2, rfl⟩))
             go_roundw
             case rel => exact ⟨n + 1, hd1.out, by first | rfl | go_num, by rw [HQ2.out], ⟨by rw [HO.out]; exact Kd.R_drewN HRa.out _, pw_below_drewN HBa.out _⟩⟩
             case measure => have := hd1.out; simp [intOf]; omega
           by_cases h2 : S k n < 2
           · have hl : decide (S k n < 2) = true := decide_eq_true h2
             have C := Aside0.mk (fun W h => state_of g k n hk1.out hd1.out S A W h HR.out)
             have D := Aside0.mk (fun W h => on_of g k n hk1.out hd1.out S A W h HR.out)
             have HQ2 : Aside0 (qb S k (n + 1) = false) := ⟨by rw [h2q.out, hq, hl]; rfl⟩
             have HL := Aside0.mk hl
             have HO := Aside0.mk (onL_off S k n h1)
             have hj1 : (S k n == 1) = false := by simp [h1]
             have hj2 : ((S k n == 1) != false) = false := by rw [hj1]; rfl
             go_wp2_with (first
               | (go_at_call 19; refine (C.out _ (by exact M2.out)).mono ?_; rintro e w' ⟨rfl, m1, rfl⟩)
               | (go_at_call 13; refine (D.out _ (by exact M2.out.heap rfl)).mono ?_; rintro e w' ⟨rfl, m2, rfl⟩))
             go_roundw
             case rel => exact ⟨n + 1, hd1.out, by first | rfl | go_num, by rw [HQ2.out], ⟨by rw [HO.out]; exact Kd.R_drewN HI.out.1 _, pw_below_drewN HI.out.2 _⟩⟩
             case measure => have := hd1.out; simp [intOf]; omega
           · have hl : decide (S k n < 2) = false := decide_eq_false h2
             have C := Aside0.mk (fun W h => state_of g k n hk1.out hd1.out S A W h HR.out)
             have D := Aside0.mk (fun W h => on_of g k n hk1.out hd1.out S A W h HR.out)
             have HQ2 : Aside0 (qb S k (n + 1) = false) := ⟨by rw [h2q.out, hq, hl]; rfl⟩
             have HL := Aside0.mk hl
             have HO := Aside0.mk (onL_off S k n h1)
             have hj1 : (S k n == 1) = false := by simp [h1]
             have hj2 : ((S k n == 1) != false) = false := by rw [hj1]; rfl
             go_wp2_with (first
               | (go_at_call 19; refine (C.out _ (by exact M2.out)).mono ?_; rintro e w' ⟨rfl, m1, rfl⟩)
               | (go_at_call 13; refine (D.out _ (by exact M2.out.heap rfl)).mono ?_; rintro e w' ⟨rfl, m2, rfl⟩))
             go_roundw
             case rel => exact ⟨n + 1, hd1.out, by first | rfl | go_num, by rw [HQ2.out], ⟨by rw [HO.out]; exact Kd.R_drewN HI.out.1 _, pw_below_drewN HI.out.2 _⟩⟩
             case measure => have := hd1.out; simp [intOf]; omega
        -- BEHIND
        · have db : decide ((n : Int) < 256) = false := decide_eq_false (by omega)
          obtain rfl : n = 256 := by omega
          have HK := Aside0.mk c
          have HN := Aside0.mk (qb_next S k)
          have hb2 := below_size HI.out.2
          go_wp2_with (first
            | (go_at_call 21; refine (agreed_of _ _ _).mono ?_; rintro e w' ⟨rfl, rfl⟩)
            | (go_at_call 20; refine (collect_agreed _ _ (fun o => S k o == 1) _ (fun W' hW o ho => on_of g k o HK.out ho S A W' (blk_below' HM.out hgl.out ((HI.out.2).trans (hW.mono hb2))) HR.out)).mono ?_; rintro e w' ⟨vc, rfl, hRc, hBc⟩)
            | (go_at_call 39; refine (equal_rows (w1 := w') _ (by have := onL_len (fun o => S k o == 1) 256; omega) hRc (Kd.R_below HI.out.1 hBc)).mono ?_; rintro e w2' ⟨rfl, m, rfl⟩))
          go_roundw
          case rel => exact ⟨k + 1, HK.out, by first | rfl | go_num, by rw [HN.out], ⟨pw_below_drewN (HI.out.2.trans (hBc.mono hb2)) m⟩⟩
          case measure => have := HK.out; simp [intOf]; omega
    · have cb : decide ((k : Int) < 2) = false := decide_eq_false (by omega)
      obtain rfl : k = 2 := by omega
      have hbz := below_size HB.out
      have HX2 := Aside0.mk (blk_below' HM.out hgl.out HB.out)
      have hgb := Aside0.mk (on_bad ⟨g, 0, none⟩ (-1) 0 (by decide) (by decide))
      have hsb := Aside0.mk (state_bad ⟨g, 0, none⟩ 2 0 (by decide) (by decide))
      have hqq : (qb S 2 0 == qb S 2 0) = true := by simp
      go_wp2_with (first
        | (go_at_call 18; refine (quiet_is g S A _ (by exact HX2.out)).mono ?_; rintro e w' ⟨rfl, hBq⟩)
        | (go_at_call 19; refine (hsb.out _).mono ?_; rintro e w' ⟨rfl, rfl⟩)
        | (go_at_call 13; refine (hgb.out _).mono ?_; rintro e w' ⟨rfl, rfl⟩))
      go_ret
      exact ⟨rfl, HB.out.trans (hBq.mono hbz)⟩
end Go.Proofs.Ytaabojppahcejaa.Op
