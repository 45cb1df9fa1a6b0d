/- option: On, said, New, Hear, Ask. -/
import Derived.Test.YtaabojppahcejaaMa
import Derived.Test.YtaabojppahcejaaWRepsOne
namespace Go.Proofs.Ytaabojppahcejaa.Op
open Go.RowKit Go.Proofs.YtaabojppahcejaaW.PrintWords
set_option linter.unusedVariables false
set_option linter.unusedSimpArgs false
set_option maxHeartbeats 2000000 in
theorem on_of (g i n : Nat) (hi : i < 2) (hn : n < 256) (S : Nat → Nat → Int) (A : Nat → Nat → Bool) (w : World) (h : MIs w g S A) (hr : ∀ i n, 0 ≤ S i n ∧ S i n ≤ 5) :
    Calls Try.prog 13 #[.pointer (some ⟨g, 0, none⟩), .int .i64 (i : Int), .int .u8 (n : Int)] w fun e w' => e = .returned (.bool (S i n == 1)) ∧ ∃ m, w' = w.drewN m := by
  go_enter Try.func13, Try.ntmps13
  go_wp2_with (first | (go_at_call 19; refine (state_of g i n hi hn S A _ h hr).mono ?_; rintro e w' ⟨rfl, m, rfl⟩))
  go_ret
  exact ⟨rfl, _, rfl⟩
abbrev kM : Kd (Int × Int) := Kd.pair (Kd.int .u8) (Kd.int .u8)
theorem R_one (W : World) (base : Nat) (hb : base ≤ W.heap.size) (a b : Int) : Kd.R kM 37 (W.alloc (.cells #[.int .u8 a, .int .u8 b] 37)) base (fun _ => True) (.slice (some ⟨W.heap.size, 0, none⟩) 1 1) [(a, b)] := by
  refine ⟨fun _ _ => trivial, [.int .u8 a, .int .u8 b], ?_, ?_⟩
  · exact World.ownsRow_lit (base := base) (e := 37) (size := 2) W #[.int .u8 a, .int .u8 b] 1 hb (by decide) rfl
  · exact Reps.c2 (show Kd.M kM _ _ _ (a, b) [.int .u8 a, .int .u8 b] from ⟨[.int .u8 a], [.int .u8 b], rfl, rfl, rfl⟩) (Reps.none _ _)
theorem R_two (W : World) (x : Obj) (a b : Int) : Kd.R kM 37 ((W.alloc x).alloc (.cells #[.int .u8 a, .int .u8 b] 37)) W.heap.size (fun _ => True) (.slice (some ⟨W.heap.size + 1, 0, none⟩) 1 1) [(a, b)] := by
  have h := R_one (W.alloc x) W.heap.size (by rw [World.size_alloc]; omega) a b
  rw [World.size_alloc] at h
  exact h
def verb (i : Nat) (x : Int) : Int := if i = 0 then (if x = 1 then 252 else 251) else (if x = 1 then 254 else 253)
def say (i : Nat) (x o : Int) : List (Int × Int) := if x = 0 then [] else [(verb i x, o)]
set_option maxHeartbeats 2000000 in
theorem said_of (i : Nat) (hi : i < 2) (x : Nat) (hx : x < 3) (o : Int) (w : World) :
    Calls Try.prog 31 #[.int .i64 (i : Int), .int .u8 (x : Int), .int .u8 o] w fun e w' => ∃ v, e = .returned v ∧ Kd.R kM 37 w' w.heap.size (fun _ => True) v (say i x o) ∧ Below w.heap.size w w' := by
  match i, hi, x, hx with
  | 0, _, 0, _ =>
    go_enter Try.func31, Try.ntmps31
    go_wp2
    go_ret
    exact ⟨_, rfl, Kd.R_nil _ _ _ _ _, by repeat (first | exact Below.refl _ _ | apply below_alloc | apply below_drew)⟩
  | 1, _, 0, _ =>
    go_enter Try.func31, Try.ntmps31
    go_wp2
    go_ret
    exact ⟨_, rfl, Kd.R_nil _ _ _ _ _, by repeat (first | exact Below.refl _ _ | apply below_alloc | apply below_drew)⟩
  | 0, _, 1, _ =>
    go_enter Try.func31, Try.ntmps31
    go_wp2
    go_ret
    exact ⟨_, rfl, R_two _ _ _ _, by repeat (first | exact Below.refl _ _ | apply below_alloc | apply below_drew)⟩
  | 1, _, 1, _ =>
    go_enter Try.func31, Try.ntmps31
    go_wp2
    go_ret
    exact ⟨_, rfl, R_two _ _ _ _, by repeat (first | exact Below.refl _ _ | apply below_alloc | apply below_drew)⟩
  | 0, _, 2, _ =>
    go_enter Try.func31, Try.ntmps31
    go_wp2
    go_ret
    exact ⟨_, rfl, R_two _ _ _ _, by repeat (first | exact Below.refl _ _ | apply below_alloc | apply below_drew)⟩
  | 1, _, 2, _ =>
    go_enter Try.func31, Try.ntmps31
    go_wp2
    go_ret
    exact ⟨_, rfl, R_two _ _ _ _, by repeat (first | exact Below.refl _ _ | apply below_alloc | apply below_drew)⟩

theorem hOn_w (s : Int) (a : Bool) : ∃ x : Nat, x < 3 ∧ (hOn s a).2 = (x : Int) := by
  unfold hOn; repeat' split
  all_goals first | exact ⟨0, by decide, rfl⟩ | exact ⟨1, by decide, rfl⟩ | exact ⟨2, by decide, rfl⟩
theorem hOff_w (s : Int) : ∃ x : Nat, x < 3 ∧ (hOff s).2 = (x : Int) := by
  unfold hOff; repeat' split
  all_goals first | exact ⟨0, by decide, rfl⟩ | exact ⟨1, by decide, rfl⟩ | exact ⟨2, by decide, rfl⟩

theorem MIs.heap {W W' : World} {g : Nat} {S : Nat → Nat → Int} {A : Nat → Nat → Bool} (h : MIs W g S A) (e : W'.heap = W.heap) : MIs W' g S A := by
  obtain ⟨cs, h0, h1, h2⟩ := h; exact ⟨cs, by rw [e]; exact h0, h1, h2⟩
theorem keep_heap {W W' w : World} {g : Nat} (h : KeepBut w W g none) (e : W'.heap = W.heap) : KeepBut w W' g none := by
  obtain ⟨h1, h2⟩ := h; exact ⟨by rw [e]; exact h1, fun i a b c => by rw [e]; exact h2 i a b c⟩
theorem hear_end {w W1 w3 : World} {g i n : Nat} {S : Nat → Nat → Int} {A : Nat → Nat → Bool} {y : Int} {v : Value} {xs : List (Int × Int)} (h : MIs w g S A) (hi : i < 2) (hn : n < 256) 
    (hv : Kd.R kM 37 w3 W1.heap.size (fun _ => True) v xs) (hb : Below W1.heap.size W1 w3) (hW : W1.heap = (w.setCell ⟨g, 512 * i + n, none⟩ (.int .u8 y)).heap ∧ W1.os = w.os ∧ W1.tape = w.tape ∧ W1.output = w.output) : Kd.R kM 37 w3 w.heap.size (fun _ => True) v xs ∧ MIs w3 g (put S i n y) A ∧ KeepBut w w3 g none ∧ Below g w w3 := by
  obtain ⟨hW, ho, ht, hp⟩ := hW
  have k1 : KeepBut w W1 g none := keep_heap ((KeepBut.refl w g none).set_ _ _) hW
  have b1 : Below g w W1 := ⟨ho, ht, hp, k1.1, fun i hi => k1.2 i (Nat.lt_trans hi h.lt) (by omega) (by simp)⟩
  exact ⟨Kd.R_lower hv k1.1, ((h.set i n hi hn y).heap hW).below hb, k1.trans (KeepBut.of_below hb g none) (.inl rfl), b1.trans (hb.mono (Nat.le_trans (Nat.le_of_lt h.lt) k1.1))⟩
set_option maxHeartbeats 8000000 in
set_option maxRecDepth 100000 in
theorem hear_will (g n : Nat) (hn : n < 256) (S : Nat → Nat → Int) (A : Nat → Nat → Bool) (w : World) (h : MIs w g S A) :
    Calls Try.prog 11 #[.pointer (some ⟨g, 0, none⟩), .int .u8 251, .int .u8 (n : Int)] w fun e w' => ∃ v, e = .returned (.tuple #[v, .int .i64 0]) ∧ Kd.R kM 37 w' w.heap.size (fun _ => True) v (say 1 (hOn (S 1 n) (A 1 n)).2 n) ∧ MIs w' g (put S 1 n (hOn (S 1 n) (A 1 n)).1) A ∧ KeepBut w w' g none ∧ Below g w w' := by
  have hs := h.st 1 n (by decide) hn
  have ha := h.ag 1 n (by decide) hn
  simp only [Nat.mul_one] at hs ha
  have hf : w.frozen? ⟨g, 512 + n, none⟩ = false := by obtain ⟨cs, hb, _⟩ := h; exact blk_frozen hb _
  obtain ⟨x, hx, ex⟩ := hOn_w (S 1 n) (A 1 n)
  generalize hy : (hOn (S 1 n) (A 1 n)).1 = y at *
  have C : ∀ W : World, W.cell? ⟨g, 512 + n, none⟩ = some (.int .u8 (S 1 n)) → W.cell? ⟨g, 512 + 256 + n, none⟩ = some (.bool (A 1 n)) → Calls Try.prog 29 #[.pointer (some ⟨g, 512, none⟩), .int .u8 (n : Int)] W fun e w' => e = .returned (.tuple #[.int .u8 y, .int .u8 (x : Int)]) ∧ w' = W := by
    intro W h1 h2
    have := heardOn g 512 n hn (S 1 n) (A 1 n) W h1 h2
    rw [ex, hy] at this; exact this
  rw [ex]
  go_enter Try.func11, Try.ntmps11
  go_wp2
  go_region_with (first | (go_at_call 29; refine (C _ ?_ ?_).mono ?_; exact hs; exact ha; rintro e w' ⟨rfl, rfl⟩))
  all_goals go_wp2_with (first | (go_at_call 31; refine (said_of 1 (by decide) x hx n _).mono ?_; rintro e w3 ⟨v, rfl, hv, hb⟩))
  all_goals (go_ret2; exact ⟨v, rfl, hear_end h (i := 1) (by decide) hn hv hb ⟨(by simp only [Nat.mul_one, Nat.mul_zero, Nat.zero_add]; rfl), rfl, rfl, rfl⟩⟩)
set_option maxHeartbeats 8000000 in
set_option maxRecDepth 100000 in
theorem hear_do (g n : Nat) (hn : n < 256) (S : Nat → Nat → Int) (A : Nat → Nat → Bool) (w : World) (h : MIs w g S A) :
    Calls Try.prog 11 #[.pointer (some ⟨g, 0, none⟩), .int .u8 253, .int .u8 (n : Int)] w fun e w' => ∃ v, e = .returned (.tuple #[v, .int .i64 0]) ∧ Kd.R kM 37 w' w.heap.size (fun _ => True) v (say 0 (hOn (S 0 n) (A 0 n)).2 n) ∧ MIs w' g (put S 0 n (hOn (S 0 n) (A 0 n)).1) A ∧ KeepBut w w' g none ∧ Below g w w' := by
  have hs := h.st 0 n (by decide) hn
  have ha := h.ag 0 n (by decide) hn
  simp only [Nat.mul_zero, Nat.zero_add] at hs ha
  have hf : w.frozen? ⟨g, n, none⟩ = false := by obtain ⟨cs, hb, _⟩ := h; exact blk_frozen hb _
  obtain ⟨x, hx, ex⟩ := hOn_w (S 0 n) (A 0 n)
  generalize hy : (hOn (S 0 n) (A 0 n)).1 = y at *
  have C : ∀ W : World, W.cell? ⟨g, n, none⟩ = some (.int .u8 (S 0 n)) → W.cell? ⟨g, 256 + n, none⟩ = some (.bool (A 0 n)) → Calls Try.prog 29 #[.pointer (some ⟨g, 0, none⟩), .int .u8 (n : Int)] W fun e w' => e = .returned (.tuple #[.int .u8 y, .int .u8 (x : Int)]) ∧ w' = W := by
    intro W h1 h2
    have := heardOn g 0 n hn (S 0 n) (A 0 n) W (by rw [Nat.zero_add]; exact h1) (by rw [Nat.zero_add]; exact h2)
    rw [ex, hy] at this; exact this
  rw [ex]
  go_enter Try.func11, Try.ntmps11
  go_wp2
  go_region_with (first | (go_at_call 29; refine (C _ ?_ ?_).mono ?_; exact hs; exact ha; rintro e w' ⟨rfl, rfl⟩))
  all_goals go_wp2_with (first | (go_at_call 31; refine (said_of 0 (by decide) x hx n _).mono ?_; rintro e w3 ⟨v, rfl, hv, hb⟩))
  all_goals (go_ret2; exact ⟨v, rfl, hear_end h (i := 0) (by decide) hn hv hb ⟨(by simp only [Nat.mul_one, Nat.mul_zero, Nat.zero_add]; rfl), rfl, rfl, rfl⟩⟩)
set_option maxHeartbeats 8000000 in
set_option maxRecDepth 100000 in
theorem hear_wont (g n : Nat) (hn : n < 256) (S : Nat → Nat → Int) (A : Nat → Nat → Bool) (w : World) (h : MIs w g S A) :
    Calls Try.prog 11 #[.pointer (some ⟨g, 0, none⟩), .int .u8 252, .int .u8 (n : Int)] w fun e w' => ∃ v, e = .returned (.tuple #[v, .int .i64 0]) ∧ Kd.R kM 37 w' w.heap.size (fun _ => True) v (say 1 (hOff (S 1 n)).2 n) ∧ MIs w' g (put S 1 n (hOff (S 1 n)).1) A ∧ KeepBut w w' g none ∧ Below g w w' := by
  have hs := h.st 1 n (by decide) hn
  have ha := h.ag 1 n (by decide) hn
  simp only [Nat.mul_one] at hs ha
  have hf : w.frozen? ⟨g, 512 + n, none⟩ = false := by obtain ⟨cs, hb, _⟩ := h; exact blk_frozen hb _
  obtain ⟨x, hx, ex⟩ := hOff_w (S 1 n)
  generalize hy : (hOff (S 1 n)).1 = y at *
  have C : ∀ W : World, W.cell? ⟨g, 512 + n, none⟩ = some (.int .u8 (S 1 n)) → W.cell? ⟨g, 512 + 256 + n, none⟩ = some (.bool (A 1 n)) → Calls Try.prog 30 #[.pointer (some ⟨g, 512, none⟩), .int .u8 (n : Int)] W fun e w' => e = .returned (.tuple #[.int .u8 y, .int .u8 (x : Int)]) ∧ w' = W := by
    intro W h1 h2
    have := heardOff g 512 n hn (S 1 n) (A 1 n) W h1 h2
    rw [ex, hy] at this; exact this
  rw [ex]
  go_enter Try.func11, Try.ntmps11
  go_wp2
  go_region_with (first | (go_at_call 30; refine (C _ ?_ ?_).mono ?_; exact hs; exact ha; rintro e w' ⟨rfl, rfl⟩))
  all_goals go_wp2_with (first | (go_at_call 31; refine (said_of 1 (by decide) x hx n _).mono ?_; rintro e w3 ⟨v, rfl, hv, hb⟩))
  all_goals (go_ret2; exact ⟨v, rfl, hear_end h (i := 1) (by decide) hn hv hb ⟨(by simp only [Nat.mul_one, Nat.mul_zero, Nat.zero_add]; rfl), rfl, rfl, rfl⟩⟩)
set_option maxHeartbeats 8000000 in
set_option maxRecDepth 100000 in
theorem hear_dont (g n : Nat) (hn : n < 256) (S : Nat → Nat → Int) (A : Nat → Nat → Bool) (w : World) (h : MIs w g S A) :
    Calls Try.prog 11 #[.pointer (some ⟨g, 0, none⟩), .int .u8 254, .int .u8 (n : Int)] w fun e w' => ∃ v, e = .returned (.tuple #[v, .int .i64 0]) ∧ Kd.R kM 37 w' w.heap.size (fun _ => True) v (say 0 (hOff (S 0 n)).2 n) ∧ MIs w' g (put S 0 n (hOff (S 0 n)).1) A ∧ KeepBut w w' g none ∧ Below g w w' := by
  have hs := h.st 0 n (by decide) hn
  have ha := h.ag 0 n (by decide) hn
  simp only [Nat.mul_zero, Nat.zero_add] at hs ha
  have hf : w.frozen? ⟨g, n, none⟩ = false := by obtain ⟨cs, hb, _⟩ := h; exact blk_frozen hb _
  obtain ⟨x, hx, ex⟩ := hOff_w (S 0 n)
  generalize hy : (hOff (S 0 n)).1 = y at *
  have C : ∀ W : World, W.cell? ⟨g, n, none⟩ = some (.int .u8 (S 0 n)) → W.cell? ⟨g, 256 + n, none⟩ = some (.bool (A 0 n)) → Calls Try.prog 30 #[.pointer (some ⟨g, 0, none⟩), .int .u8 (n : Int)] W fun e w' => e = .returned (.tuple #[.int .u8 y, .int .u8 (x : Int)]) ∧ w' = W := by
    intro W h1 h2
    have := heardOff g 0 n hn (S 0 n) (A 0 n) W (by rw [Nat.zero_add]; exact h1) (by rw [Nat.zero_add]; exact h2)
    rw [ex, hy] at this; exact this
  rw [ex]
  go_enter Try.func11, Try.ntmps11
  go_wp2
  go_region_with (first | (go_at_call 30; refine (C _ ?_ ?_).mono ?_; exact hs; exact ha; rintro e w' ⟨rfl, rfl⟩))
  all_goals go_wp2_with (first | (go_at_call 31; refine (said_of 0 (by decide) x hx n _).mono ?_; rintro e w3 ⟨v, rfl, hv, hb⟩))
  all_goals (go_ret2; exact ⟨v, rfl, hear_end h (i := 0) (by decide) hn hv hb ⟨(by simp only [Nat.mul_one, Nat.mul_zero, Nat.zero_add]; rfl), rfl, rfl, rfl⟩⟩)
end Go.Proofs.Ytaabojppahcejaa.Op
