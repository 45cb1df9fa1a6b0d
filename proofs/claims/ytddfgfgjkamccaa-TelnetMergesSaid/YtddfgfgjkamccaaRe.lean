/- telnet: the reader: command, take. -/
import Derived.Test.YtddfgfgjkamccaaRd
namespace Go.Proofs.Ytddfgfgjkamccaa.Tn
open Go Go.RowKit Go.Proofs.YtddfgfgjkamccaaW.PrintWords Go.Proofs.YtddfgfgjkamccaaW.PrintLast Go.Proofs.YtddfgfgjkamccaaW.PrintMore Go.Proofs.Ytddfgfgjkamccaa.PTe
set_option linter.unusedVariables false
set_option linter.unusedSimpArgs false
set_option maxHeartbeats 4000000 in
theorem command_of (B g : Nat) (r : Rd) (O : Nat → Prop) (b : Int) (w : World) (h : RdIs w B g r O) (hl : r.out.length ≤ 90000) (hdl : r.data.length ≤ 90000) :
    Calls Try.prog 29 #[.pointer (some ⟨g, 0, none⟩), .int .u8 b] w (TkP B g O (cmdF r b) w) := by
  obtain ⟨z0, z1, _, _, zf⟩ := Tk.cells h
  have zf0 := zf 0
  have zf1 := zf 1
  have HL := Aside0.mk h.olt
  by_cases c1 : b = 255
  · have e1 : (b == 255) = true := by simpa using c1
    obtain ⟨v3, A7, n7, c7, w4, q3, hrun, p3, f3, T1⟩ := h.appData b (by omega)
    obtain ⟨y0, _, _, _, yf⟩ := Tk.cells T1.1
    have yf0 := yf 0
    have T2 := Tk.of_set (r' := { r with data := r.data ++ [b], st := 0 }) T1.1 0 (.int .i64 0) (fun _ _ _ => rfl) rfl rfl rfl
    have hk : cmdF r b = { r with data := r.data ++ [b], st := 0 } := by unfold cmdF; rw [if_pos c1]
    have HK := Aside0.mk hk
    have HT1 := Aside0.mk T1
    have HT2 := Aside0.mk T2
    have HB := Aside0.mk c1
    clear h T1 T2 zf yf hk c1 z0 z1 zf0 zf1
    go_enter Try.func29, Try.ntmps29
    go_wp2_with ((with_reducible refine gate_dst (N := 18) rfl ?_); refine Kd.event_run (by rfl) (exec_append' (.tmp 15) (.tmp 17) 22 hrun (by rfl) (by rfl) (by rfl) (by rfl)) ?_; clear hrun)
    go_end0
    exact ⟨rfl, by rw [HK.out]; exact HT1.out.trans HT2.out HL.out⟩
  have e1 : (b == 255) = false := by simpa using c1
  by_cases c2 : b = 250
  · have e2 : (b == 250) = true := by simpa using c2
    have T1 := Tk.of_set (r' := { r with st := 3 }) h 0 (.int .i64 3) (fun _ _ _ => rfl) rfl rfl rfl
    have hk : cmdF r b = { r with st := 3 } := by unfold cmdF; rw [if_neg c1, if_pos c2]
    have HK := Aside0.mk hk
    have HT1 := Aside0.mk T1
    clear h T1 zf hk c1 c2 z1 zf1
    go_enter Try.func29, Try.ntmps29
    go_wp2
    go_end0
    exact ⟨rfl, by rw [HK.out]; exact HT1.out⟩
  have e2 : (b == 250) = false := by simpa using c2
  by_cases c3 : 251 ≤ b ∧ b ≤ 254
  · have e3 : decide (b ≥ 251) = true := decide_eq_true c3.1
    have e4 : decide (b ≤ 254) = true := decide_eq_true c3.2
    have T1 := Tk.of_set (r' := { r with vb := b }) h 1 (.int .u8 b) (fun _ _ _ => rfl) rfl rfl rfl
    obtain ⟨y0, _, _, _, yf⟩ := Tk.cells T1.1
    have yf0 := yf 0
    have T2 := Tk.of_set (r' := { r with vb := b, st := 2 }) T1.1 0 (.int .i64 2) (fun _ _ _ => rfl) rfl rfl rfl
    have hk : cmdF r b = { r with vb := b, st := 2 } := by unfold cmdF; rw [if_neg c1, if_neg c2, if_pos c3]
    have HK := Aside0.mk hk
    have HT1 := Aside0.mk T1
    have HT2 := Aside0.mk T2
    clear h T1 T2 zf yf hk c1 c2 c3 z0 zf0
    go_enter Try.func29, Try.ntmps29
    go_wp2
    go_end0
    exact ⟨rfl, by rw [HK.out]; exact HT1.out.trans HT2.out HL.out⟩
  · have HT := Aside0.mk (tell_is B g r O ⟨1, b, 0, [], false, false⟩ w h hl hdl rfl)
    have hk : cmdF r b = tellF r ⟨1, b, 0, [], false, false⟩ := by unfold cmdF; rw [if_neg c1, if_neg c2, if_neg c3]
    have HK := Aside0.mk hk
    by_cases c4 : 251 ≤ b
    · have e3 : decide (b ≥ 251) = true := decide_eq_true c4
      have e4 : decide (b ≤ 254) = false := decide_eq_false (fun h4 => c3 ⟨c4, h4⟩)
      clear h zf hk c1 c2 c3 c4 z0 zf0 z1 zf1
      go_enter Try.func29, Try.ntmps29
      go_wp2_with fail
      refine (HT.out).mono ?_
      rintro e w' ⟨rfl, ht⟩
      go_wp2
      go_end0
      exact ⟨rfl, by rw [HK.out]; exact ht⟩
    · have e3 : decide (b ≥ 251) = false := decide_eq_false c4
      clear h zf hk c1 c2 c3 c4 z0 zf0 z1 zf1
      go_enter Try.func29, Try.ntmps29
      go_wp2_with fail
      refine (HT.out).mono ?_
      rintro e w' ⟨rfl, ht⟩
      go_wp2
      go_end0
      exact ⟨rfl, by rw [HK.out]; exact ht⟩
theorem endF_len (r : Rd) (br : Bool) : (endF r br).out.length ≤ r.out.length + 2 ∧ (endF r br).data.length = 0 := by
  have h := flush_len r
  have hd : (flushF r).data = [] := rfl
  constructor
  · show ((flushF r).out ++ [_]).length ≤ _
    rw [List.length_append, List.length_singleton]; omega
  · show (flushF r).data.length = 0
    rw [hd]; rfl
set_option maxHeartbeats 8000000 in
theorem take_of (B g : Nat) (r : Rd) (O : Nat → Prop) (b : Int) (w : World) (h : RdIs w B g r O) (hl : r.out.length ≤ 80000) (hdl : r.data.length ≤ 80000) (hsl : r.sub.length ≤ 1000) :
    Calls Try.prog 22 #[.pointer (some ⟨g, 0, none⟩), .int .u8 b] w (TkP B g O (takeF r b) w) := by
  obtain ⟨z0, z1, z2, _, zf⟩ := Tk.cells h
  have zf0 := zf 0
  have zf2 := zf 2
  have HL := Aside0.mk h.olt
  have HH := Aside0.mk h
  by_cases s1 : r.st = 1
  · have e1 : (r.st == 1) = true := by simpa using s1
    have HC := Aside0.mk (command_of B g r O b w h (by omega) (by omega))
    have hk : takeF r b = cmdF r b := by unfold takeF; rw [if_pos s1]
    have HK := Aside0.mk hk
    clear h zf hk s1 z1 z2 zf0 zf2
    go_enter Try.func22, Try.ntmps22
    go_wp2_with fail
    refine (HC.out).mono ?_
    rintro e w' ⟨rfl, ht⟩
    go_wp2
    go_end0
    exact ⟨rfl, by rw [HK.out]; exact ht⟩
  have e1 : (r.st == 1) = false := by simpa using s1
  by_cases s2 : r.st = 2
  · have e2 : (r.st == 2) = true := by simpa using s2
    have HC := Aside0.mk (tell_is B g r O ⟨2, r.vb, b, [], false, false⟩ w h (by omega) (by omega) rfl)
    have hk : takeF r b = tellF r ⟨2, r.vb, b, [], false, false⟩ := by unfold takeF; rw [if_neg s1, if_pos s2]
    have HK := Aside0.mk hk
    clear h zf hk s1 s2 z2 zf0 zf2
    go_enter Try.func22, Try.ntmps22
    go_wp2_with fail
    refine (HC.out).mono ?_
    rintro e w' ⟨rfl, ht⟩
    go_wp2
    go_end0
    exact ⟨rfl, by rw [HK.out]; exact ht⟩
  have e2 : (r.st == 2) = false := by simpa using s2
  by_cases s3 : r.st = 3
  · have e3 : (r.st == 3) = true := by simpa using s3
    have T1 := Tk.of_set (r' := { r with op := b }) h 2 (.int .u8 b) (fun _ _ _ => rfl) rfl rfl rfl
    obtain ⟨y0, _, _, _, yf⟩ := Tk.cells T1.1
    have yf0 := yf 0
    have T2 := Tk.of_set (r' := { r with op := b, st := 4 }) T1.1 0 (.int .i64 4) (fun _ _ _ => rfl) rfl rfl rfl
    have hk : takeF r b = { r with op := b, st := 4 } := by unfold takeF; rw [if_neg s1, if_neg s2, if_pos s3]
    have HK := Aside0.mk hk
    have HT1 := Aside0.mk T1
    have HT2 := Aside0.mk T2
    clear h T1 T2 zf yf hk s1 s2 s3 z1 zf0
    go_enter Try.func22, Try.ntmps22
    go_wp2
    go_end0
    exact ⟨rfl, by rw [HK.out]; exact HT1.out.trans HT2.out HL.out⟩
  have e3 : (r.st == 3) = false := by simpa using s3
  by_cases s4 : r.st = 4
  · have e4 : (r.st == 4) = true := by simpa using s4
    by_cases c1 : b = 255
    · have d1 : (b == 255) = true := by simpa using c1
      have T1 := Tk.of_set (r' := { r with st := 5 }) h 0 (.int .i64 5) (fun _ _ _ => rfl) rfl rfl rfl
      have hk : takeF r b = { r with st := 5 } := by unfold takeF; rw [if_neg s1, if_neg s2, if_neg s3, if_pos s4, if_pos c1]
      have HK := Aside0.mk hk
      have HT1 := Aside0.mk T1
      clear h T1 zf hk s1 s2 s3 s4 c1 z1 z2 zf2
      go_enter Try.func22, Try.ntmps22
      go_wp2
      go_end0
      exact ⟨rfl, by rw [HK.out]; exact HT1.out⟩
    · have d1 : (b == 255) = false := by simpa using c1
      have HC := Aside0.mk (keep_of B g r O b w h hsl)
      have hk : takeF r b = keepF r b := by unfold takeF; rw [if_neg s1, if_neg s2, if_neg s3, if_pos s4, if_neg c1]
      have HK := Aside0.mk hk
      clear h zf hk s1 s2 s3 s4 c1 z1 z2 zf0 zf2
      go_enter Try.func22, Try.ntmps22
      go_wp2_with fail
      refine (HC.out).mono ?_
      rintro e w' ⟨rfl, ht⟩
      go_wp2
      go_end0
      exact ⟨rfl, by rw [HK.out]; exact ht⟩
  have e4 : (r.st == 4) = false := by simpa using s4
  by_cases s5 : r.st = 5
  · have e5 : (r.st == 5) = true := by simpa using s5
    by_cases c1 : b = 255
    · have d1 : (b == 255) = true := by simpa using c1
      have HC := Aside0.mk (keep_of B g r O b w h hsl)
      have hk : takeF r b = keepF r b := by unfold takeF; rw [if_neg s1, if_neg s2, if_neg s3, if_neg s4, if_pos s5, if_pos c1]
      have HK := Aside0.mk hk
      clear h zf hk s1 s2 s3 s4 s5 c1 z1 z2 zf0 zf2
      go_enter Try.func22, Try.ntmps22
      go_wp2_with fail
      refine (HC.out).mono ?_
      rintro e w' ⟨rfl, ht⟩
      go_wp2
      go_end0
      exact ⟨rfl, by rw [HK.out]; exact ht⟩
    have d1 : (b == 255) = false := by simpa using c1
    by_cases c2 : b = 240
    · have d2 : (b == 240) = true := by simpa using c2
      have HC := Aside0.mk (end_of B g r O false w h (by omega) (by omega))
      have hk : takeF r b = endF r false := by unfold takeF; rw [if_neg s1, if_neg s2, if_neg s3, if_neg s4, if_pos s5, if_neg c1, if_pos c2]
      have HK := Aside0.mk hk
      clear h zf hk s1 s2 s3 s4 s5 c1 c2 z1 z2 zf0 zf2
      go_enter Try.func22, Try.ntmps22
      go_wp2_with fail
      refine (HC.out).mono ?_
      rintro e w' ⟨rfl, ht⟩
      go_wp2
      go_end0
      exact ⟨rfl, by rw [HK.out]; exact ht⟩
    · have d2 : (b == 240) = false := by simpa using c2
      have HC := Aside0.mk (end_of B g r O true w h (by omega) (by omega))
      have hk : takeF r b = cmdF (endF r true) b := by unfold takeF; rw [if_neg s1, if_neg s2, if_neg s3, if_neg s4, if_pos s5, if_neg c1, if_neg c2]
      have HK := Aside0.mk hk
      have hle := endF_len r true
      clear h zf hk s1 s2 s3 s4 s5 c1 c2 z1 z2 zf0 zf2
      go_enter Try.func22, Try.ntmps22
      go_wp2_with fail
      refine (HC.out).mono ?_
      rintro e w' ⟨rfl, ht⟩
      go_wp2_with fail
      refine (command_of B g (endF r true) _ b w' ht.1 (by omega) (by omega)).mono ?_
      rintro e w2 ⟨rfl, ht2⟩
      go_wp2
      go_end0
      exact ⟨rfl, by rw [HK.out]; exact ht.trans ht2 HL.out⟩
  have e5 : (r.st == 5) = false := by simpa using s5
  by_cases c1 : b = 255
  · have d1 : (b == 255) = true := by simpa using c1
    have T1 := Tk.of_set (r' := { r with st := 1 }) h 0 (.int .i64 1) (fun _ _ _ => rfl) rfl rfl rfl
    have hk : takeF r b = { r with st := 1 } := by unfold takeF; rw [if_neg s1, if_neg s2, if_neg s3, if_neg s4, if_neg s5, if_pos c1]
    have HK := Aside0.mk hk
    have HT1 := Aside0.mk T1
    clear h T1 zf hk s1 s2 s3 s4 s5 c1 z1 z2 zf2
    go_enter Try.func22, Try.ntmps22
    go_wp2
    go_end0
    exact ⟨rfl, by rw [HK.out]; exact HT1.out⟩
  · have d1 : (b == 255) = false := by simpa using c1
    obtain ⟨v3, A7, n7, c7, w4, q3, hrun, p3, f3, T1⟩ := h.appData b (by omega)
    have hk : takeF r b = { r with data := r.data ++ [b] } := by unfold takeF; rw [if_neg s1, if_neg s2, if_neg s3, if_neg s4, if_neg s5, if_neg c1]
    have HK := Aside0.mk hk
    have HT1 := Aside0.mk T1
    clear h T1 zf hk s1 s2 s3 s4 s5 c1 z1 z2 zf0 zf2
    go_enter Try.func22, Try.ntmps22
    go_wp2_with ((with_reducible refine gate_dst (N := 20) rfl ?_); refine Kd.event_run (by rfl) (exec_append' (.tmp 17) (.tmp 19) 22 hrun (by rfl) (by rfl) (by rfl) (by rfl)) ?_; clear hrun)
    go_end0
    exact ⟨rfl, by rw [HK.out]; exact HT1.out⟩
end Go.Proofs.Ytddfgfgjkamccaa.Tn
