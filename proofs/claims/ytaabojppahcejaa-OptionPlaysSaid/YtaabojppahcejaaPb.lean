/- option: the document's machine: Ask; what is refused. -/
import Derived.Test.YtaabojppahcejaaPa
namespace Go.Proofs.Ytaabojppahcejaa.Op
open Go Go.RowKit Go.Proofs.YtaabojppahcejaaW.PrintWords Go.Proofs.YtaabojppahcejaaW.PrintLast Go.Proofs.YtaabojppahcejaaW.PrintMore Go.Proofs.Ytaabojppahcejaa.POp
set_option linter.unusedVariables false
set_option linter.unusedSimpArgs false
set_option maxHeartbeats 4000000 in
theorem rhear_bad (p : Addr) (v : Int) (n : Int) (h8 : 0 ≤ v ∧ v ≤ 255) (h0 : v ≠ 251) (h1 : v ≠ 252) (h2 : v ≠ 253) (h3 : v ≠ 254) (w : World) :
    Calls Try.prog 24 #[.pointer (some p), .int .u8 v, .int .u8 n] w fun e w' => e = .returned (.tuple #[.slice none 0 0, .int .i64 1]) ∧ w' = w := by
  by_cases c : v < 251
  · have cb : decide (v < 251) = true := decide_eq_true c
    clear h0 h1 h2 h3 h8 c
    go_enter Try.func24, Try.ntmps24
    go_wp2
    go_ret2
    exact ⟨rfl, rfl⟩
  · have cb : decide (v < 251) = false := decide_eq_false c
    have cc : decide (v > 254) = true := decide_eq_true (by omega)
    clear h0 h1 h2 h3 h8 c
    go_enter Try.func24, Try.ntmps24
    go_wp2
    go_ret2
    exact ⟨rfl, rfl⟩
theorem rask_bad (p : Addr) (i n : Int) (t : Bool) (h0 : i ≠ 0) (h1 : i ≠ 1) (w : World) :
    Calls Try.prog 25 #[.pointer (some p), .int .i64 i, .int .u8 n, .bool t] w fun e w' => e = .returned (.tuple #[.slice none 0 0, .int .i64 1]) ∧ w' = w := by
  have e0 : (i != 0) = true := by simpa using h0
  have e1 : (i != 1) = true := by simpa using h1
  clear h0 h1
  go_enter Try.func25, Try.ntmps25
  go_wp2
  go_ret2
  exact ⟨rfl, rfl⟩
/-- What an asking leaves. -/
def RAsked (w : World) (g i n : Nat) (S : Nat → Nat → Int) (A : Nat → Nat → Bool) (r : Int × Int × Bool) (e : Ending) (w' : World) : Prop :=
  ∃ v, e = .returned (.tuple #[v, .int .i64 (if r.2.2 = true then 0 else 6)]) ∧ Kd.R kM 67 w' w.heap.size (fun _ => True) v (say i r.2.1 n) ∧ RIs w' g (put S i n r.1) A ∧ KeepBut w w' g none ∧ Below g w w'
theorem put_same (S : Nat → Nat → Int) (i n : Nat) : put S i n (S i n) = S := by
  funext j m
  unfold put
  by_cases c : j = i ∧ m = n
  · rw [if_pos c, c.1, c.2]
  · rw [if_neg c]
theorem rask_end {w W1 w3 : World} {g i n : Nat} {S : Nat → Nat → Int} {A : Nat → Nat → Bool} {y : Int} {v : Value} {xs : List (Int × Int)} (h : RIs w g S A) (hi : i < 2) (hn : n < 256)
    (hv : Kd.R kM 67 w3 W1.heap.size (fun _ => True) v xs) (hb : Below W1.heap.size W1 w3) (W0 : World) (hW0 : Below W0.heap.size W0 W1) (hW : W0 = w.setCell ⟨g, 256 * i + n, none⟩ (.int .i64 y)) : Kd.R kM 67 w3 w.heap.size (fun _ => True) v xs ∧ RIs w3 g (put S i n y) A ∧ KeepBut w w3 g none ∧ Below g w w3 := by
  subst hW
  have hl := h.lt
  have b0 : Below g w (w.setCell ⟨g, 256 * i + n, none⟩ (.int .i64 y)) := (Below.refl g w).setCell (Nat.le_refl _) _
  have hsz : (w.setCell ⟨g, 256 * i + n, none⟩ (.int .i64 y)).heap.size = w.heap.size := World.size_setCell _ _ _
  have b1 : Below g w W1 := b0.trans (hW0.mono (by omega))
  have k1 : KeepBut w W1 g none := ((KeepBut.refl w g none).set_ _ _).trans (KeepBut.of_below hW0 g none) (.inl rfl)
  exact ⟨Kd.R_lower hv k1.1, ((h.set i n hi hn y).below hW0).below hb, k1.trans (KeepBut.of_below hb g none) (.inl rfl), b1.trans (hb.mono (Nat.le_trans (Nat.le_of_lt hl) k1.1))⟩
theorem rask_no {w w' : World} {g i n : Nat} {S : Nat → Nat → Int} {A : Nat → Nat → Bool} {s : Int} (h : RIs w g S A) (hs : S i n = s) (hb : Below w.heap.size w w') : Kd.R kM 67 w' w.heap.size (fun _ => True) (.slice none 0 0) (say i 0 n) ∧ RIs w' g (put S i n s) A ∧ KeepBut w w' g none ∧ Below g w w' := by
  subst hs
  exact ⟨Kd.R_nil _ _ _ _ _, by rw [put_same]; exact h.below hb, KeepBut.of_below hb g none, hb.mono (Nat.le_of_lt h.lt)⟩
set_option maxHeartbeats 8000000 in
theorem rask_on0 (g n : Nat) (hn : n < 256) (S : Nat → Nat → Int) (A : Nat → Nat → Bool) (w : World) (h : RIs w g S A) (hr : 0 ≤ S 0 n ∧ S 0 n ≤ 5) :
    Calls Try.prog 25 #[.pointer (some ⟨g, 0, none⟩), .int .i64 0, .int .u8 (n : Int), .bool true] w (RAsked w g 0 n S A (aOn (S 0 n))) := by
  have hs := h.st 0 n (by decide) hn
  have hf := h.fz (256 * 0 + n)
  have HM := Aside0.mk h
  simp only [Nat.mul_zero, Nat.mul_one, Nat.zero_add, Nat.add_zero] at hs hf
  clear h
  have hgl := HM.out.lt
  have HS0 := Aside0.mk (rfl : S 0 n = S 0 n)
  generalize hs0 : S 0 n = s at hs hr ⊢
  have HS := Aside0.mk hs0
  have hs6 : s = 0 ∨ s = 1 ∨ s = 2 ∨ s = 3 ∨ s = 4 ∨ s = 5 := by omega
  clear hs0 hr
  rcases hs6 with rfl | rfl | rfl | rfl | rfl | rfl
  all_goals
    go_enter Try.func25, Try.ntmps25
    go_wp2_with (first | (go_at_call 38; refine (rsay_s0 _ (by decide) _ _).mono ?_; rintro e w3 ⟨v, rfl, hv, hb⟩))
    go_ret2
    first
      | exact ⟨v, rfl, rask_end HM.out (i := 0) (by decide) hn hv hb _ (below_alloc (Below.refl _ _) _) (by simp only [Nat.mul_one, Nat.mul_zero, Nat.zero_add]; rfl)⟩
      | exact ⟨v, rfl, rask_end HM.out (i := 0) (by decide) hn hv hb _ (below_alloc (below_alloc (Below.refl _ _) _) _) (by simp only [Nat.mul_one, Nat.mul_zero, Nat.zero_add]; rfl)⟩
      | exact ⟨_, rfl, rask_no HM.out HS.out (by repeat (first | exact Below.refl _ _ | apply below_alloc))⟩
set_option maxHeartbeats 8000000 in
theorem rask_on1 (g n : Nat) (hn : n < 256) (S : Nat → Nat → Int) (A : Nat → Nat → Bool) (w : World) (h : RIs w g S A) (hr : 0 ≤ S 1 n ∧ S 1 n ≤ 5) :
    Calls Try.prog 25 #[.pointer (some ⟨g, 0, none⟩), .int .i64 1, .int .u8 (n : Int), .bool true] w (RAsked w g 1 n S A (aOn (S 1 n))) := by
  have hs := h.st 1 n (by decide) hn
  have hf := h.fz (256 * 1 + n)
  have HM := Aside0.mk h
  simp only [Nat.mul_zero, Nat.mul_one, Nat.zero_add, Nat.add_zero] at hs hf
  clear h
  have hgl := HM.out.lt
  have HS0 := Aside0.mk (rfl : S 1 n = S 1 n)
  generalize hs0 : S 1 n = s at hs hr ⊢
  have HS := Aside0.mk hs0
  have hs6 : s = 0 ∨ s = 1 ∨ s = 2 ∨ s = 3 ∨ s = 4 ∨ s = 5 := by omega
  clear hs0 hr
  rcases hs6 with rfl | rfl | rfl | rfl | rfl | rfl
  all_goals
    go_enter Try.func25, Try.ntmps25
    go_wp2_with (first | (go_at_call 38; refine (rsay_s1 _ (by decide) _ _).mono ?_; rintro e w3 ⟨v, rfl, hv, hb⟩))
    go_ret2
    first
      | exact ⟨v, rfl, rask_end HM.out (i := 1) (by decide) hn hv hb _ (below_alloc (Below.refl _ _) _) (by simp only [Nat.mul_one, Nat.mul_zero, Nat.zero_add]; rfl)⟩
      | exact ⟨v, rfl, rask_end HM.out (i := 1) (by decide) hn hv hb _ (below_alloc (below_alloc (Below.refl _ _) _) _) (by simp only [Nat.mul_one, Nat.mul_zero, Nat.zero_add]; rfl)⟩
      | exact ⟨_, rfl, rask_no HM.out HS.out (by repeat (first | exact Below.refl _ _ | apply below_alloc))⟩
set_option maxHeartbeats 8000000 in
theorem rask_off0 (g n : Nat) (hn : n < 256) (S : Nat → Nat → Int) (A : Nat → Nat → Bool) (w : World) (h : RIs w g S A) (hr : 0 ≤ S 0 n ∧ S 0 n ≤ 5) :
    Calls Try.prog 25 #[.pointer (some ⟨g, 0, none⟩), .int .i64 0, .int .u8 (n : Int), .bool false] w (RAsked w g 0 n S A (aOff (S 0 n))) := by
  have hs := h.st 0 n (by decide) hn
  have hf := h.fz (256 * 0 + n)
  have HM := Aside0.mk h
  simp only [Nat.mul_zero, Nat.mul_one, Nat.zero_add, Nat.add_zero] at hs hf
  clear h
  have hgl := HM.out.lt
  have HS0 := Aside0.mk (rfl : S 0 n = S 0 n)
  generalize hs0 : S 0 n = s at hs hr ⊢
  have HS := Aside0.mk hs0
  have hs6 : s = 0 ∨ s = 1 ∨ s = 2 ∨ s = 3 ∨ s = 4 ∨ s = 5 := by omega
  clear hs0 hr
  rcases hs6 with rfl | rfl | rfl | rfl | rfl | rfl
  all_goals
    go_enter Try.func25, Try.ntmps25
    go_wp2_with (first | (go_at_call 38; refine (rsay_s0 _ (by decide) _ _).mono ?_; rintro e w3 ⟨v, rfl, hv, hb⟩))
    go_ret2
    first
      | exact ⟨v, rfl, rask_end HM.out (i := 0) (by decide) hn hv hb _ (below_alloc (Below.refl _ _) _) (by simp only [Nat.mul_one, Nat.mul_zero, Nat.zero_add]; rfl)⟩
      | exact ⟨v, rfl, rask_end HM.out (i := 0) (by decide) hn hv hb _ (below_alloc (below_alloc (Below.refl _ _) _) _) (by simp only [Nat.mul_one, Nat.mul_zero, Nat.zero_add]; rfl)⟩
      | exact ⟨_, rfl, rask_no HM.out HS.out (by repeat (first | exact Below.refl _ _ | apply below_alloc))⟩
set_option maxHeartbeats 8000000 in
theorem rask_off1 (g n : Nat) (hn : n < 256) (S : Nat → Nat → Int) (A : Nat → Nat → Bool) (w : World) (h : RIs w g S A) (hr : 0 ≤ S 1 n ∧ S 1 n ≤ 5) :
    Calls Try.prog 25 #[.pointer (some ⟨g, 0, none⟩), .int .i64 1, .int .u8 (n : Int), .bool false] w (RAsked w g 1 n S A (aOff (S 1 n))) := by
  have hs := h.st 1 n (by decide) hn
  have hf := h.fz (256 * 1 + n)
  have HM := Aside0.mk h
  simp only [Nat.mul_zero, Nat.mul_one, Nat.zero_add, Nat.add_zero] at hs hf
  clear h
  have hgl := HM.out.lt
  have HS0 := Aside0.mk (rfl : S 1 n = S 1 n)
  generalize hs0 : S 1 n = s at hs hr ⊢
  have HS := Aside0.mk hs0
  have hs6 : s = 0 ∨ s = 1 ∨ s = 2 ∨ s = 3 ∨ s = 4 ∨ s = 5 := by omega
  clear hs0 hr
  rcases hs6 with rfl | rfl | rfl | rfl | rfl | rfl
  all_goals
    go_enter Try.func25, Try.ntmps25
    go_wp2_with (first | (go_at_call 38; refine (rsay_s1 _ (by decide) _ _).mono ?_; rintro e w3 ⟨v, rfl, hv, hb⟩))
    go_ret2
    first
      | exact ⟨v, rfl, rask_end HM.out (i := 1) (by decide) hn hv hb _ (below_alloc (Below.refl _ _) _) (by simp only [Nat.mul_one, Nat.mul_zero, Nat.zero_add]; rfl)⟩
      | exact ⟨v, rfl, rask_end HM.out (i := 1) (by decide) hn hv hb _ (below_alloc (below_alloc (Below.refl _ _) _) _) (by simp only [Nat.mul_one, Nat.mul_zero, Nat.zero_add]; rfl)⟩
      | exact ⟨_, rfl, rask_no HM.out HS.out (by repeat (first | exact Below.refl _ _ | apply below_alloc))⟩
theorem rask_of (g i n : Nat) (t : Bool) (hi : i < 2) (hn : n < 256) (S : Nat → Nat → Int) (A : Nat → Nat → Bool) (w : World) (h : RIs w g S A) (hr : Rng S) :
    Calls Try.prog 25 #[.pointer (some ⟨g, 0, none⟩), .int .i64 (i : Int), .int .u8 (n : Int), .bool t] w (RAsked w g i n S A (ares S t i n)) := by
  match i, hi, t with
  | 0, _, true => exact rask_on0 g n hn S A w h (hr 0 n)
  | 1, _, true => exact rask_on1 g n hn S A w h (hr 1 n)
  | 0, _, false => exact rask_off0 g n hn S A w h (hr 0 n)
  | 1, _, false => exact rask_off1 g n hn S A w h (hr 1 n)
/-- What a hearing leaves. -/
def RHeard (w : World) (g i n : Nat) (S : Nat → Nat → Int) (A : Nat → Nat → Bool) (r : Int × Int) (e : Ending) (w' : World) : Prop :=
  ∃ v, e = .returned (.tuple #[v, .int .i64 0]) ∧ Kd.R kM 67 w' w.heap.size (fun _ => True) v (say i r.2 n) ∧ RIs w' g (put S i n r.1) A ∧ KeepBut w w' g none ∧ Below g w w'
theorem rhear_of (g v n : Nat) (hv : v = 251 ∨ v = 252 ∨ v = 253 ∨ v = 254) (hn : n < 256) (S : Nat → Nat → Int) (A : Nat → Nat → Bool) (w : World) (h : RIs w g S A) (hr : Rng S) :
    Calls Try.prog 24 #[.pointer (some ⟨g, 0, none⟩), .int .u8 (v : Int), .int .u8 (n : Int)] w (RHeard w g (sideOf v) n S A (hres S A v n)) := by
  rcases hv with rfl | rfl | rfl | rfl
  · exact rhear_will g n hn S A w h (hr 1 n)
  · exact rhear_wont g n hn S A w h (hr 1 n)
  · exact rhear_do g n hn S A w h (hr 0 n)
  · exact rhear_dont g n hn S A w h (hr 0 n)
end Go.Proofs.Ytaabojppahcejaa.Op
