/- option: Ask. -/
import Derived.Test.YtaabojppahcejaaMb
namespace Go.Proofs.Ytaabojppahcejaa.Op
open Go.RowKit Go.Proofs.YtaabojppahcejaaW.PrintWords
set_option linter.unusedVariables false
set_option linter.unusedSimpArgs false
theorem aOn_w (s : Int) : ∃ x : Nat, x < 3 ∧ (aOn s).2.1 = (x : Int) ∧ ((aOn s).2.2 = false → x = 0) := by
  unfold aOn; repeat' split
  all_goals first | exact ⟨0, by decide, rfl, fun _ => rfl⟩ | exact ⟨2, by decide, rfl, fun h => by cases h⟩
theorem aOff_w (s : Int) : ∃ x : Nat, x < 3 ∧ (aOff s).2.1 = (x : Int) ∧ ((aOff s).2.2 = false → x = 0) := by
  unfold aOff; repeat' split
  all_goals first | exact ⟨0, by decide, rfl, fun _ => rfl⟩ | exact ⟨1, by decide, rfl, fun h => by cases h⟩
theorem say_nil (i : Nat) (o : Int) : say i ((0 : Nat) : Int) o = [] := rfl
set_option maxHeartbeats 8000000 in
set_option maxRecDepth 100000 in
theorem ask_on0 (g n : Nat) (hn : n < 256) (S : Nat → Nat → Int) (A : Nat → Nat → Bool) (w : World) (hM : MIs w g S A) :
    Calls Try.prog 14 #[.pointer (some ⟨g, 0, none⟩), .int .i64 0, .int .u8 (n : Int), .bool true] w fun e w' => ∃ v, e = .returned (.tuple #[v, .int .i64 (if (aOn (S 0 n)).2.2 = true then 0 else 6)]) ∧ Kd.R kM 37 w' w.heap.size (fun _ => True) v (say 0 (aOn (S 0 n)).2.1 n) ∧ MIs w' g (put S 0 n (aOn (S 0 n)).1) A ∧ KeepBut w w' g none ∧ Below g w w' := by
  have hs := hM.st 0 n (by decide) hn
  have ha := hM.ag 0 n (by decide) hn
  simp only [Nat.mul_zero, Nat.zero_add] at hs ha
  have hf : w.frozen? ⟨g, n, none⟩ = false := by obtain ⟨cs, hb, _⟩ := hM; exact blk_frozen hb _
  obtain ⟨x, hx, ex, h0⟩ := aOn_w (S 0 n)
  generalize hy : (aOn (S 0 n)).1 = y at *
  generalize hz : (aOn (S 0 n)).2.2 = z at *
  have C : ∀ W : World, W.cell? ⟨g, n, none⟩ = some (.int .u8 (S 0 n)) → W.cell? ⟨g, 256 + n, none⟩ = some (.bool (A 0 n)) → Calls Try.prog 33 #[.pointer (some ⟨g, 0, none⟩), .int .u8 (n : Int)] W fun e w' => e = .returned (.tuple #[.int .u8 y, .int .u8 (x : Int), .bool z]) ∧ w' = W := by
    intro W h1 h2
    have := askOn g 0 n hn (S 0 n) (A 0 n) W (by rw [Nat.zero_add]; exact h1) (by rw [Nat.zero_add]; exact h2)
    rw [ex, hy, hz] at this; exact this
  rw [ex]
  clear hy hz ex
  cases z with
  | true =>
    go_enter Try.func14, Try.ntmps14
    go_wp2
    go_region_with (first | (go_at_call 33; refine (C _ ?_ ?_).mono ?_; exact hs; exact ha; rintro e w' ⟨rfl, rfl⟩))
    all_goals go_wp2_with (first | (go_at_call 31; refine (said_of 0 (by decide) x hx n _).mono ?_; rintro e w3 ⟨v, rfl, hv, hb⟩))
    all_goals (go_ret2; exact ⟨v, rfl, hear_end hM (i := 0) (by decide) hn hv hb ⟨(by simp only [Nat.mul_one, Nat.mul_zero, Nat.zero_add]; rfl), rfl, rfl, rfl⟩⟩)
  | false =>
    obtain rfl := h0 rfl
    go_enter Try.func14, Try.ntmps14
    go_wp2
    go_region_with (first | (go_at_call 33; refine (C _ ?_ ?_).mono ?_; exact hs; exact ha; rintro e w' ⟨rfl, rfl⟩))
    all_goals go_wp2
    all_goals (go_ret2; exact ⟨_, rfl, hear_end hM (i := 0) (by decide) hn (Kd.R_nil _ _ _ _ _) (Below.refl _ _) ⟨(by simp only [Nat.mul_one, Nat.mul_zero, Nat.zero_add]; rfl), rfl, rfl, rfl⟩⟩)
set_option maxHeartbeats 8000000 in
set_option maxRecDepth 100000 in
theorem ask_off0 (g n : Nat) (hn : n < 256) (S : Nat → Nat → Int) (A : Nat → Nat → Bool) (w : World) (hM : MIs w g S A) :
    Calls Try.prog 14 #[.pointer (some ⟨g, 0, none⟩), .int .i64 0, .int .u8 (n : Int), .bool false] w fun e w' => ∃ v, e = .returned (.tuple #[v, .int .i64 (if (aOff (S 0 n)).2.2 = true then 0 else 6)]) ∧ Kd.R kM 37 w' w.heap.size (fun _ => True) v (say 0 (aOff (S 0 n)).2.1 n) ∧ MIs w' g (put S 0 n (aOff (S 0 n)).1) A ∧ KeepBut w w' g none ∧ Below g w w' := by
  have hs := hM.st 0 n (by decide) hn
  have ha := hM.ag 0 n (by decide) hn
  simp only [Nat.mul_zero, Nat.zero_add] at hs ha
  have hf : w.frozen? ⟨g, n, none⟩ = false := by obtain ⟨cs, hb, _⟩ := hM; exact blk_frozen hb _
  obtain ⟨x, hx, ex, h0⟩ := aOff_w (S 0 n)
  generalize hy : (aOff (S 0 n)).1 = y at *
  generalize hz : (aOff (S 0 n)).2.2 = z at *
  have C : ∀ W : World, W.cell? ⟨g, n, none⟩ = some (.int .u8 (S 0 n)) → W.cell? ⟨g, 256 + n, none⟩ = some (.bool (A 0 n)) → Calls Try.prog 34 #[.pointer (some ⟨g, 0, none⟩), .int .u8 (n : Int)] W fun e w' => e = .returned (.tuple #[.int .u8 y, .int .u8 (x : Int), .bool z]) ∧ w' = W := by
    intro W h1 h2
    have := askOff g 0 n hn (S 0 n) (A 0 n) W (by rw [Nat.zero_add]; exact h1) (by rw [Nat.zero_add]; exact h2)
    rw [ex, hy, hz] at this; exact this
  rw [ex]
  clear hy hz ex
  cases z with
  | true =>
    go_enter Try.func14, Try.ntmps14
    go_wp2
    go_region_with (first | (go_at_call 34; refine (C _ ?_ ?_).mono ?_; exact hs; exact ha; rintro e w' ⟨rfl, rfl⟩))
    all_goals go_wp2_with (first | (go_at_call 31; refine (said_of 0 (by decide) x hx n _).mono ?_; rintro e w3 ⟨v, rfl, hv, hb⟩))
    all_goals (go_ret2; exact ⟨v, rfl, hear_end hM (i := 0) (by decide) hn hv hb ⟨(by simp only [Nat.mul_one, Nat.mul_zero, Nat.zero_add]; rfl), rfl, rfl, rfl⟩⟩)
  | false =>
    obtain rfl := h0 rfl
    go_enter Try.func14, Try.ntmps14
    go_wp2
    go_region_with (first | (go_at_call 34; refine (C _ ?_ ?_).mono ?_; exact hs; exact ha; rintro e w' ⟨rfl, rfl⟩))
    all_goals go_wp2
    all_goals (go_ret2; exact ⟨_, rfl, hear_end hM (i := 0) (by decide) hn (Kd.R_nil _ _ _ _ _) (Below.refl _ _) ⟨(by simp only [Nat.mul_one, Nat.mul_zero, Nat.zero_add]; rfl), rfl, rfl, rfl⟩⟩)
set_option maxHeartbeats 8000000 in
set_option maxRecDepth 100000 in
theorem ask_on1 (g n : Nat) (hn : n < 256) (S : Nat → Nat → Int) (A : Nat → Nat → Bool) (w : World) (hM : MIs w g S A) :
    Calls Try.prog 14 #[.pointer (some ⟨g, 0, none⟩), .int .i64 1, .int .u8 (n : Int), .bool true] w fun e w' => ∃ v, e = .returned (.tuple #[v, .int .i64 (if (aOn (S 1 n)).2.2 = true then 0 else 6)]) ∧ Kd.R kM 37 w' w.heap.size (fun _ => True) v (say 1 (aOn (S 1 n)).2.1 n) ∧ MIs w' g (put S 1 n (aOn (S 1 n)).1) A ∧ KeepBut w w' g none ∧ Below g w w' := by
  have hs := hM.st 1 n (by decide) hn
  have ha := hM.ag 1 n (by decide) hn
  simp only [Nat.mul_one] at hs ha
  have hf : w.frozen? ⟨g, 512 + n, none⟩ = false := by obtain ⟨cs, hb, _⟩ := hM; exact blk_frozen hb _
  obtain ⟨x, hx, ex, h0⟩ := aOn_w (S 1 n)
  generalize hy : (aOn (S 1 n)).1 = y at *
  generalize hz : (aOn (S 1 n)).2.2 = z at *
  have C : ∀ W : World, W.cell? ⟨g, 512 + n, none⟩ = some (.int .u8 (S 1 n)) → W.cell? ⟨g, 512 + 256 + n, none⟩ = some (.bool (A 1 n)) → Calls Try.prog 33 #[.pointer (some ⟨g, 512, none⟩), .int .u8 (n : Int)] W fun e w' => e = .returned (.tuple #[.int .u8 y, .int .u8 (x : Int), .bool z]) ∧ w' = W := by
    intro W h1 h2
    have := askOn g 512 n hn (S 1 n) (A 1 n) W h1 h2
    rw [ex, hy, hz] at this; exact this
  rw [ex]
  clear hy hz ex
  cases z with
  | true =>
    go_enter Try.func14, Try.ntmps14
    go_wp2
    go_region_with (first | (go_at_call 33; refine (C _ ?_ ?_).mono ?_; exact hs; exact ha; rintro e w' ⟨rfl, rfl⟩))
    all_goals go_wp2_with (first | (go_at_call 31; refine (said_of 1 (by decide) x hx n _).mono ?_; rintro e w3 ⟨v, rfl, hv, hb⟩))
    all_goals (go_ret2; exact ⟨v, rfl, hear_end hM (i := 1) (by decide) hn hv hb ⟨(by simp only [Nat.mul_one, Nat.mul_zero, Nat.zero_add]; rfl), rfl, rfl, rfl⟩⟩)
  | false =>
    obtain rfl := h0 rfl
    go_enter Try.func14, Try.ntmps14
    go_wp2
    go_region_with (first | (go_at_call 33; refine (C _ ?_ ?_).mono ?_; exact hs; exact ha; rintro e w' ⟨rfl, rfl⟩))
    all_goals go_wp2
    all_goals (go_ret2; exact ⟨_, rfl, hear_end hM (i := 1) (by decide) hn (Kd.R_nil _ _ _ _ _) (Below.refl _ _) ⟨(by simp only [Nat.mul_one, Nat.mul_zero, Nat.zero_add]; rfl), rfl, rfl, rfl⟩⟩)
set_option maxHeartbeats 8000000 in
set_option maxRecDepth 100000 in
theorem ask_off1 (g n : Nat) (hn : n < 256) (S : Nat → Nat → Int) (A : Nat → Nat → Bool) (w : World) (hM : MIs w g S A) :
    Calls Try.prog 14 #[.pointer (some ⟨g, 0, none⟩), .int .i64 1, .int .u8 (n : Int), .bool false] w fun e w' => ∃ v, e = .returned (.tuple #[v, .int .i64 (if (aOff (S 1 n)).2.2 = true then 0 else 6)]) ∧ Kd.R kM 37 w' w.heap.size (fun _ => True) v (say 1 (aOff (S 1 n)).2.1 n) ∧ MIs w' g (put S 1 n (aOff (S 1 n)).1) A ∧ KeepBut w w' g none ∧ Below g w w' := by
  have hs := hM.st 1 n (by decide) hn
  have ha := hM.ag 1 n (by decide) hn
  simp only [Nat.mul_one] at hs ha
  have hf : w.frozen? ⟨g, 512 + n, none⟩ = false := by obtain ⟨cs, hb, _⟩ := hM; exact blk_frozen hb _
  obtain ⟨x, hx, ex, h0⟩ := aOff_w (S 1 n)
  generalize hy : (aOff (S 1 n)).1 = y at *
  generalize hz : (aOff (S 1 n)).2.2 = z at *
  have C : ∀ W : World, W.cell? ⟨g, 512 + n, none⟩ = some (.int .u8 (S 1 n)) → W.cell? ⟨g, 512 + 256 + n, none⟩ = some (.bool (A 1 n)) → Calls Try.prog 34 #[.pointer (some ⟨g, 512, none⟩), .int .u8 (n : Int)] W fun e w' => e = .returned (.tuple #[.int .u8 y, .int .u8 (x : Int), .bool z]) ∧ w' = W := by
    intro W h1 h2
    have := askOff g 512 n hn (S 1 n) (A 1 n) W h1 h2
    rw [ex, hy, hz] at this; exact this
  rw [ex]
  clear hy hz ex
  cases z with
  | true =>
    go_enter Try.func14, Try.ntmps14
    go_wp2
    go_region_with (first | (go_at_call 34; refine (C _ ?_ ?_).mono ?_; exact hs; exact ha; rintro e w' ⟨rfl, rfl⟩))
    all_goals go_wp2_with (first | (go_at_call 31; refine (said_of 1 (by decide) x hx n _).mono ?_; rintro e w3 ⟨v, rfl, hv, hb⟩))
    all_goals (go_ret2; exact ⟨v, rfl, hear_end hM (i := 1) (by decide) hn hv hb ⟨(by simp only [Nat.mul_one, Nat.mul_zero, Nat.zero_add]; rfl), rfl, rfl, rfl⟩⟩)
  | false =>
    obtain rfl := h0 rfl
    go_enter Try.func14, Try.ntmps14
    go_wp2
    go_region_with (first | (go_at_call 34; refine (C _ ?_ ?_).mono ?_; exact hs; exact ha; rintro e w' ⟨rfl, rfl⟩))
    all_goals go_wp2
    all_goals (go_ret2; exact ⟨_, rfl, hear_end hM (i := 1) (by decide) hn (Kd.R_nil _ _ _ _ _) (Below.refl _ _) ⟨(by simp only [Nat.mul_one, Nat.mul_zero, Nat.zero_add]; rfl), rfl, rfl, rfl⟩⟩)
end Go.Proofs.Ytaabojppahcejaa.Op
