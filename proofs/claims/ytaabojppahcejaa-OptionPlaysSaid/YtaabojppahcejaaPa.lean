/- option: the document's machine: its block; say, New, Hear, Ask. -/
import Derived.Test.YtaabojppahcejaaMe
import Derived.Test.YtaabojppahcejaaMf
import Derived.Test.YtaabojppahcejaaPOpx3
namespace Go.Proofs.Ytaabojppahcejaa.Op
open Go Go.RowKit Go.Proofs.YtaabojppahcejaaW.PrintWords Go.Proofs.YtaabojppahcejaaW.PrintLast Go.Proofs.YtaabojppahcejaaW.PrintMore Go.Proofs.Ytaabojppahcejaa.POp
set_option linter.unusedVariables false
set_option linter.unusedSimpArgs false
/-- The document's machine: the states, and what is agreed to. -/
def RIs (W : World) (g : Nat) (S : Nat → Nat → Int) (A : Nat → Nat → Bool) : Prop :=
  ∃ cs : Array Value, W.heap[g]? = some (.cells cs 73 (0, 0)) ∧ (∀ i n, i < 2 → n < 256 → cs[256 * i + n]? = some (.int .i64 (S i n))) ∧ (∀ i n, i < 2 → n < 256 → cs[512 + 256 * i + n]? = some (.bool (A i n)))
section
variable {W W' : World} {g : Nat} {S : Nat → Nat → Int} {A : Nat → Nat → Bool}
theorem RIs.st (h : RIs W g S A) (i n : Nat) (hi : i < 2) (hn : n < 256) : W.cell? ⟨g, 256 * i + n, none⟩ = some (.int .i64 (S i n)) := by
  obtain ⟨cs, hb, h1, h2⟩ := h; rw [blk_cell hb]; exact h1 i n hi hn
theorem RIs.ag (h : RIs W g S A) (i n : Nat) (hi : i < 2) (hn : n < 256) : W.cell? ⟨g, 512 + 256 * i + n, none⟩ = some (.bool (A i n)) := by
  obtain ⟨cs, hb, h1, h2⟩ := h; rw [blk_cell hb]; exact h2 i n hi hn
theorem RIs.fz (h : RIs W g S A) (j : Nat) : W.frozen? ⟨g, j, none⟩ = false := by
  obtain ⟨cs, hb, _⟩ := h; exact blk_frozen hb _
theorem RIs.lt (h : RIs W g S A) : g < W.heap.size := by
  obtain ⟨cs, hb, _⟩ := h; exact blk_lt hb
theorem RIs.below (h : RIs W g S A) (hb : Below W.heap.size W W') : RIs W' g S A := by
  obtain ⟨cs, h0, h1, h2⟩ := h; exact ⟨cs, blk_below h0 hb, h1, h2⟩
theorem RIs.heap (h : RIs W g S A) (e : W'.heap = W.heap) : RIs W' g S A := by
  obtain ⟨cs, h0, h1, h2⟩ := h; exact ⟨cs, by rw [e]; exact h0, h1, h2⟩
theorem RIs.keep {g' : Nat} (h : RIs W g S A) (hk : KeepBut W W' g' none) (hne : g ≠ g') : RIs W' g S A := by
  obtain ⟨cs, h0, h1, h2⟩ := h; exact ⟨cs, hk.blk h0 hne (by simp), h1, h2⟩
theorem RIs.set (h : RIs W g S A) (i n : Nat) (hi : i < 2) (hn : n < 256) (x : Int) : RIs (W.setCell ⟨g, 256 * i + n, none⟩ (.int .i64 x)) g (put S i n x) A := by
  obtain ⟨cs, h0, h1, h2⟩ := h
  have hsz : 256 * i + n < cs.size := (Array.getElem?_eq_some_iff.1 (h1 i n hi hn)).1
  refine ⟨cs.setIfInBounds (256 * i + n) (.int .i64 x), blk_set h0 _ _, ?_, ?_⟩
  · intro j m hj hm
    unfold put
    by_cases c : j = i ∧ m = n
    · obtain ⟨rfl, rfl⟩ := c
      rw [if_pos ⟨rfl, rfl⟩, Array.getElem?_setIfInBounds_self_of_lt hsz]
    · rw [if_neg c, Array.getElem?_setIfInBounds_ne (by omega)]
      exact h1 j m hj hm
  · intro j m hj hm
    rw [Array.getElem?_setIfInBounds_ne (by omega)]
    exact h2 j m hj hm
theorem RIs.agree (h : RIs W g S A) (i n : Nat) (hi : i < 2) (hn : n < 256) : RIs (W.setCell ⟨g, 512 + 256 * i + n, none⟩ (.bool true)) g S (agr A i n) := by
  obtain ⟨cs, h0, h1, h2⟩ := h
  have hsz : 512 + 256 * i + n < cs.size := (Array.getElem?_eq_some_iff.1 (h2 i n hi hn)).1
  refine ⟨cs.setIfInBounds (512 + 256 * i + n) (.bool true), blk_set h0 _ _, ?_, ?_⟩
  · intro j m hj hm
    rw [Array.getElem?_setIfInBounds_ne (by omega)]
    exact h1 j m hj hm
  · intro j m hj hm
    unfold agr
    by_cases c : j = i ∧ m = n
    · obtain ⟨rfl, rfl⟩ := c
      rw [if_pos ⟨rfl, rfl⟩, Array.getElem?_setIfInBounds_self_of_lt hsz]
    · rw [if_neg c, Array.getElem?_setIfInBounds_ne (by omega)]
      exact h2 j m hj hm
theorem RIs.ag_eq {A' : Nat → Nat → Bool} (h : RIs W g S A) (e : ∀ i n, i < 2 → A i n = A' i n) : RIs W g S A' := by
  obtain ⟨cs, h0, h1, h2⟩ := h
  exact ⟨cs, h0, h1, fun i n hi hn => by rw [← e i n hi]; exact h2 i n hi hn⟩
end
theorem K_iso67 (w : World) (x : S67) (cs : List Value) : k67.K w x cs ↔ kM.K w (x.f0, x.f1) cs := Iff.rfl
theorem R67 {w : World} {base : Nat} {ok : Nat → Prop} {v : Value} {xs : List S67} (h : Kd.R k67 67 w base ok v xs) : Kd.R kM 67 w base ok v (xs.map fun x => (x.f0, x.f1)) := by
  obtain ⟨h0, inner, ho, hr⟩ := h
  refine ⟨h0, inner, by rw [List.length_map]; exact ho, ⟨by rw [List.length_map]; exact hr.1, fun j p hj => ?_⟩⟩
  rw [List.getElem?_map] at hj
  obtain ⟨x, hx, rfl⟩ := Option.map_eq_some_iff.1 hj
  exact hr.2 j x hx
/-- say: what is said of a side: nothing (-1), off (0), on (1). -/
theorem rsay_of (i : Nat) (hi : i < 2) (x : Nat) (hx : x < 3) (o : Int) (w : World) :
    Calls Try.prog 38 #[.int .i64 (i : Int), .int .i64 ((x : Int) - 1), .int .u8 o] w fun e w' => ∃ v, e = .returned v ∧ Kd.R kM 67 w' w.heap.size (fun _ => True) v (say i x o) ∧ Below w.heap.size w w' := by
  have h1 : i = 0 ∨ i = 1 := by omega
  have h2 : x = 0 ∨ x = 1 ∨ x = 2 := by omega
  have key : vitrineref08_say.f (i : Int) ((x : Int) - 1) o = some ((say i x o).map fun p => (⟨p.1, p.2⟩ : S67)) := by
    rcases h1 with rfl | rfl <;> rcases h2 with rfl | rfl | rfl <;> simp [vitrineref08_say.f, say, verb, wrap64, rd]
  refine (vitrineref08_say.calls (i : Int) ((x : Int) - 1) o _ w key).mono ?_
  rintro e w' ⟨v, he, hR, hb⟩
  have := R67 hR
  rw [List.map_map, List.map_id''] at this
  · exact ⟨v, he, this, hb⟩
  · intro p; rfl
theorem rsay_s0 (y : Int) (hy : y = -1 ∨ y = 0 ∨ y = 1) (o : Int) (w : World) :
    Calls Try.prog 38 #[.int .i64 0, .int .i64 y, .int .u8 o] w fun e w' => ∃ v, e = .returned v ∧ Kd.R kM 67 w' w.heap.size (fun _ => True) v (say 0 (y + 1) o) ∧ Below w.heap.size w w' := by
  rcases hy with rfl | rfl | rfl
  · exact rsay_of 0 (by decide) 0 (by decide) o w
  · exact rsay_of 0 (by decide) 1 (by decide) o w
  · exact rsay_of 0 (by decide) 2 (by decide) o w
theorem rsay_s1 (y : Int) (hy : y = -1 ∨ y = 0 ∨ y = 1) (o : Int) (w : World) :
    Calls Try.prog 38 #[.int .i64 1, .int .i64 y, .int .u8 o] w fun e w' => ∃ v, e = .returned v ∧ Kd.R kM 67 w' w.heap.size (fun _ => True) v (say 1 (y + 1) o) ∧ Below w.heap.size w w' := by
  rcases hy with rfl | rfl | rfl
  · exact rsay_of 1 (by decide) 0 (by decide) o w
  · exact rsay_of 1 (by decide) 1 (by decide) o w
  · exact rsay_of 1 (by decide) 2 (by decide) o w
theorem rhear_end {w W1 w3 : World} {g i n : Nat} {S : Nat → Nat → Int} {A : Nat → Nat → Bool} {y : Int} {v : Value} {xs : List (Int × Int)} (o : Obj) (h : RIs w g S A) (hi : i < 2) (hn : n < 256)
    (hv : Kd.R kM 67 w3 W1.heap.size (fun _ => True) v xs) (hb : Below W1.heap.size W1 w3) (hW : W1 = (w.setCell ⟨g, 256 * i + n, none⟩ (.int .i64 y)).alloc o) : Kd.R kM 67 w3 w.heap.size (fun _ => True) v xs ∧ RIs w3 g (put S i n y) A ∧ KeepBut w w3 g none ∧ Below g w w3 := by
  subst hW
  have hl := h.lt
  have b0 : Below g w (w.setCell ⟨g, 256 * i + n, none⟩ (.int .i64 y)) := (Below.refl g w).setCell (Nat.le_refl _) _
  have hsz : (w.setCell ⟨g, 256 * i + n, none⟩ (.int .i64 y)).heap.size = w.heap.size := World.size_setCell _ _ _
  have b2 : Below (w.setCell ⟨g, 256 * i + n, none⟩ (.int .i64 y)).heap.size (w.setCell ⟨g, 256 * i + n, none⟩ (.int .i64 y)) ((w.setCell ⟨g, 256 * i + n, none⟩ (.int .i64 y)).alloc o) := below_alloc (Below.refl _ _) _
  have b1 : Below g w ((w.setCell ⟨g, 256 * i + n, none⟩ (.int .i64 y)).alloc o) := b0.trans (b2.mono (by omega))
  have k1 : KeepBut w ((w.setCell ⟨g, 256 * i + n, none⟩ (.int .i64 y)).alloc o) g none := ((KeepBut.refl w g none).set_ _ _).trans (KeepBut.of_below b2 g none) (.inl rfl)
  exact ⟨Kd.R_lower hv k1.1, ((h.set i n hi hn y).below b2).below hb, k1.trans (KeepBut.of_below hb g none) (.inl rfl), b1.trans (hb.mono (Nat.le_trans (Nat.le_of_lt hl) k1.1))⟩
set_option maxHeartbeats 8000000 in
theorem rhear_will (g n : Nat) (hn : n < 256) (S : Nat → Nat → Int) (A : Nat → Nat → Bool) (w : World) (h : RIs w g S A) (hr : 0 ≤ S 1 n ∧ S 1 n ≤ 5) :
    Calls Try.prog 24 #[.pointer (some ⟨g, 0, none⟩), .int .u8 251, .int .u8 (n : Int)] w fun e w' => ∃ v, e = .returned (.tuple #[v, .int .i64 0]) ∧ Kd.R kM 67 w' w.heap.size (fun _ => True) v (say 1 (hOn (S 1 n) (A 1 n)).2 n) ∧ RIs w' g (put S 1 n (hOn (S 1 n) (A 1 n)).1) A ∧ KeepBut w w' g none ∧ Below g w w' := by
  have hs := h.st 1 n (by decide) hn
  have ha := h.ag 1 n (by decide) hn
  have hf := h.fz (256 * 1 + n)
  have HM := Aside0.mk h
  simp only [Nat.mul_zero, Nat.mul_one, Nat.zero_add, Nat.add_zero] at hs ha hf
  clear h
  have hgl := HM.out.lt
  generalize hs0 : S 1 n = s at *
  generalize ha0 : A 1 n = a at *
  have hs6 : s = 0 ∨ s = 1 ∨ s = 2 ∨ s = 3 ∨ s = 4 ∨ s = 5 := by omega
  clear hs0 ha0 hr
  rcases hs6 with rfl | rfl | rfl | rfl | rfl | rfl <;> cases a
  all_goals
    go_enter Try.func24, Try.ntmps24
    go_wp2_with (first | (go_at_call 38; refine (rsay_s1 _ (by decide) _ _).mono ?_; rintro e w3 ⟨v, rfl, hv, hb⟩))
    go_ret2
    exact ⟨v, rfl, rhear_end _ HM.out (i := 1) (by decide) hn hv hb (by simp only [Nat.mul_one, Nat.mul_zero, Nat.zero_add]; rfl)⟩
set_option maxHeartbeats 8000000 in
theorem rhear_wont (g n : Nat) (hn : n < 256) (S : Nat → Nat → Int) (A : Nat → Nat → Bool) (w : World) (h : RIs w g S A) (hr : 0 ≤ S 1 n ∧ S 1 n ≤ 5) :
    Calls Try.prog 24 #[.pointer (some ⟨g, 0, none⟩), .int .u8 252, .int .u8 (n : Int)] w fun e w' => ∃ v, e = .returned (.tuple #[v, .int .i64 0]) ∧ Kd.R kM 67 w' w.heap.size (fun _ => True) v (say 1 (hOff (S 1 n)).2 n) ∧ RIs w' g (put S 1 n (hOff (S 1 n)).1) A ∧ KeepBut w w' g none ∧ Below g w w' := by
  have hs := h.st 1 n (by decide) hn
  have ha := h.ag 1 n (by decide) hn
  have hf := h.fz (256 * 1 + n)
  have HM := Aside0.mk h
  simp only [Nat.mul_zero, Nat.mul_one, Nat.zero_add, Nat.add_zero] at hs ha hf
  clear h
  have hgl := HM.out.lt
  generalize hs0 : S 1 n = s at *
  generalize ha0 : A 1 n = a at *
  have hs6 : s = 0 ∨ s = 1 ∨ s = 2 ∨ s = 3 ∨ s = 4 ∨ s = 5 := by omega
  clear hs0 ha0 hr
  rcases hs6 with rfl | rfl | rfl | rfl | rfl | rfl
  all_goals
    go_enter Try.func24, Try.ntmps24
    go_wp2_with (first | (go_at_call 38; refine (rsay_s1 _ (by decide) _ _).mono ?_; rintro e w3 ⟨v, rfl, hv, hb⟩))
    go_ret2
    exact ⟨v, rfl, rhear_end _ HM.out (i := 1) (by decide) hn hv hb (by simp only [Nat.mul_one, Nat.mul_zero, Nat.zero_add]; rfl)⟩
set_option maxHeartbeats 8000000 in
theorem rhear_do (g n : Nat) (hn : n < 256) (S : Nat → Nat → Int) (A : Nat → Nat → Bool) (w : World) (h : RIs w g S A) (hr : 0 ≤ S 0 n ∧ S 0 n ≤ 5) :
    Calls Try.prog 24 #[.pointer (some ⟨g, 0, none⟩), .int .u8 253, .int .u8 (n : Int)] w fun e w' => ∃ v, e = .returned (.tuple #[v, .int .i64 0]) ∧ Kd.R kM 67 w' w.heap.size (fun _ => True) v (say 0 (hOn (S 0 n) (A 0 n)).2 n) ∧ RIs w' g (put S 0 n (hOn (S 0 n) (A 0 n)).1) A ∧ KeepBut w w' g none ∧ Below g w w' := by
  have hs := h.st 0 n (by decide) hn
  have ha := h.ag 0 n (by decide) hn
  have hf := h.fz (256 * 0 + n)
  have HM := Aside0.mk h
  simp only [Nat.mul_zero, Nat.mul_one, Nat.zero_add, Nat.add_zero] at hs ha hf
  clear h
  have hgl := HM.out.lt
  generalize hs0 : S 0 n = s at *
  generalize ha0 : A 0 n = a at *
  have hs6 : s = 0 ∨ s = 1 ∨ s = 2 ∨ s = 3 ∨ s = 4 ∨ s = 5 := by omega
  clear hs0 ha0 hr
  rcases hs6 with rfl | rfl | rfl | rfl | rfl | rfl <;> cases a
  all_goals
    go_enter Try.func24, Try.ntmps24
    go_wp2_with (first | (go_at_call 38; refine (rsay_s0 _ (by decide) _ _).mono ?_; rintro e w3 ⟨v, rfl, hv, hb⟩))
    go_ret2
    exact ⟨v, rfl, rhear_end _ HM.out (i := 0) (by decide) hn hv hb (by simp only [Nat.mul_one, Nat.mul_zero, Nat.zero_add]; rfl)⟩
set_option maxHeartbeats 8000000 in
theorem rhear_dont (g n : Nat) (hn : n < 256) (S : Nat → Nat → Int) (A : Nat → Nat → Bool) (w : World) (h : RIs w g S A) (hr : 0 ≤ S 0 n ∧ S 0 n ≤ 5) :
    Calls Try.prog 24 #[.pointer (some ⟨g, 0, none⟩), .int .u8 254, .int .u8 (n : Int)] w fun e w' => ∃ v, e = .returned (.tuple #[v, .int .i64 0]) ∧ Kd.R kM 67 w' w.heap.size (fun _ => True) v (say 0 (hOff (S 0 n)).2 n) ∧ RIs w' g (put S 0 n (hOff (S 0 n)).1) A ∧ KeepBut w w' g none ∧ Below g w w' := by
  have hs := h.st 0 n (by decide) hn
  have ha := h.ag 0 n (by decide) hn
  have hf := h.fz (256 * 0 + n)
  have HM := Aside0.mk h
  simp only [Nat.mul_zero, Nat.mul_one, Nat.zero_add, Nat.add_zero] at hs ha hf
  clear h
  have hgl := HM.out.lt
  generalize hs0 : S 0 n = s at *
  generalize ha0 : A 0 n = a at *
  have hs6 : s = 0 ∨ s = 1 ∨ s = 2 ∨ s = 3 ∨ s = 4 ∨ s = 5 := by omega
  clear hs0 ha0 hr
  rcases hs6 with rfl | rfl | rfl | rfl | rfl | rfl
  all_goals
    go_enter Try.func24, Try.ntmps24
    go_wp2_with (first | (go_at_call 38; refine (rsay_s0 _ (by decide) _ _).mono ?_; rintro e w3 ⟨v, rfl, hv, hb⟩))
    go_ret2
    exact ⟨v, rfl, rhear_end _ HM.out (i := 0) (by decide) hn hv hb (by simp only [Nat.mul_one, Nat.mul_zero, Nat.zero_add]; rfl)⟩
end Go.Proofs.Ytaabojppahcejaa.Op
