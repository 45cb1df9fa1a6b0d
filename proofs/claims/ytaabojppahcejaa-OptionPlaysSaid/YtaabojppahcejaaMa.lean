/- option: the machine as one block; each method's contract. -/
import Derived.Test.YtaabojppahcejaaProg
import Derived.Test.YtaabojppahcejaaWWords
import Derived.Tactics
import Derived.WalkKit
import Derived.KernelRfl
import Derived.Below
import Derived.WalkSpells
import Derived.BigQuiet
import Derived.Deep.QuietTactic
import Derived.Deep.RegionHeld3
namespace Go.Proofs.Ytaabojppahcejaa.Op
open Go.RowKit Go.Proofs.YtaabojppahcejaaW.PrintWords
set_option linter.unusedVariables false
set_option linter.unusedSimpArgs false
/-- Heard on: of a state, and whether it is agreed to. -/
def hOn (s : Int) (a : Bool) : Int × Int := if s = 0 then (if a = true then (1, 2) else (0, 1)) else if s = 2 then (0, 0) else if s = 5 then (2, 1) else (1, 0)
def hOff (s : Int) : Int × Int := if s = 1 then (0, 1) else if s = 3 then (4, 2) else (0, 0)
def aOn (s : Int) : Int × Int × Bool := if s = 0 then (4, 2, true) else if s = 2 then (3, 0, true) else if s = 5 then (4, 0, true) else (s, 0, false)
def aOff (s : Int) : Int × Int × Bool := if s = 1 then (2, 1, true) else if s = 3 then (2, 0, true) else if s = 4 then (5, 0, true) else (s, 0, false)
set_option maxHeartbeats 2000000 in
theorem heardOn (g b n : Nat) (hn : n < 256) (s : Int) (a : Bool) (w : World) (hS : w.cell? ⟨g, b + n, none⟩ = some (.int .u8 s)) (hA : w.cell? ⟨g, b + 256 + n, none⟩ = some (.bool a)) :
    Calls Try.prog 29 #[.pointer (some ⟨g, b, none⟩), .int .u8 (n : Int)] w fun e w' => e = .returned (.tuple #[.int .u8 (hOn s a).1, .int .u8 (hOn s a).2]) ∧ w' = w := by
  go_enter Try.func29, Try.ntmps29
  go_wp2
  all_goals ((first | go_ret2 | go_ret3); exact ⟨by simp_all [hOn, hOff, aOn, aOff], rfl⟩)
set_option maxHeartbeats 2000000 in
theorem heardOff (g b n : Nat) (hn : n < 256) (s : Int) (a : Bool) (w : World) (hS : w.cell? ⟨g, b + n, none⟩ = some (.int .u8 s)) (hA : w.cell? ⟨g, b + 256 + n, none⟩ = some (.bool a)) :
    Calls Try.prog 30 #[.pointer (some ⟨g, b, none⟩), .int .u8 (n : Int)] w fun e w' => e = .returned (.tuple #[.int .u8 (hOff s).1, .int .u8 (hOff s).2]) ∧ w' = w := by
  go_enter Try.func30, Try.ntmps30
  go_wp2
  all_goals ((first | go_ret2 | go_ret3); exact ⟨by simp_all [hOn, hOff, aOn, aOff], rfl⟩)
set_option maxHeartbeats 2000000 in
theorem askOn (g b n : Nat) (hn : n < 256) (s : Int) (a : Bool) (w : World) (hS : w.cell? ⟨g, b + n, none⟩ = some (.int .u8 s)) (hA : w.cell? ⟨g, b + 256 + n, none⟩ = some (.bool a)) :
    Calls Try.prog 33 #[.pointer (some ⟨g, b, none⟩), .int .u8 (n : Int)] w fun e w' => e = .returned (.tuple #[.int .u8 (aOn s).1, .int .u8 (aOn s).2.1, .bool (aOn s).2.2]) ∧ w' = w := by
  go_enter Try.func33, Try.ntmps33
  go_wp2
  all_goals ((first | go_ret2 | go_ret3); exact ⟨by simp_all [hOn, hOff, aOn, aOff], rfl⟩)
set_option maxHeartbeats 2000000 in
theorem askOff (g b n : Nat) (hn : n < 256) (s : Int) (a : Bool) (w : World) (hS : w.cell? ⟨g, b + n, none⟩ = some (.int .u8 s)) (hA : w.cell? ⟨g, b + 256 + n, none⟩ = some (.bool a)) :
    Calls Try.prog 34 #[.pointer (some ⟨g, b, none⟩), .int .u8 (n : Int)] w fun e w' => e = .returned (.tuple #[.int .u8 (aOff s).1, .int .u8 (aOff s).2.1, .bool (aOff s).2.2]) ∧ w' = w := by
  go_enter Try.func34, Try.ntmps34
  go_wp2
  all_goals ((first | go_ret2 | go_ret3); exact ⟨by simp_all [hOn, hOff, aOn, aOff], rfl⟩)

/-- The machine's block, whole: the states and what is agreed to, of each side and option. -/
def MIs (W : World) (g : Nat) (S : Nat → Nat → Int) (A : Nat → Nat → Bool) : Prop :=
  ∃ cs : Array Value, W.heap[g]? = some (.cells cs 81 (0, 0)) ∧ (∀ i n, i < 2 → n < 256 → cs[512 * i + n]? = some (.int .u8 (S i n))) ∧ (∀ i n, i < 2 → n < 256 → cs[512 * i + 256 + n]? = some (.bool (A i n)))
theorem MIs.st {W : World} {g : Nat} {S : Nat → Nat → Int} {A : Nat → Nat → Bool} (h : MIs W g S A) (i n : Nat) (hi : i < 2) (hn : n < 256) : W.cell? ⟨g, 512 * i + n, none⟩ = some (.int .u8 (S i n)) := by
  obtain ⟨cs, hb, h1, h2⟩ := h
  rw [blk_cell hb]; exact h1 i n hi hn
theorem MIs.ag {W : World} {g : Nat} {S : Nat → Nat → Int} {A : Nat → Nat → Bool} (h : MIs W g S A) (i n : Nat) (hi : i < 2) (hn : n < 256) : W.cell? ⟨g, 512 * i + 256 + n, none⟩ = some (.bool (A i n)) := by
  obtain ⟨cs, hb, h1, h2⟩ := h
  rw [blk_cell hb]; exact h2 i n hi hn
theorem MIs.lt {W : World} {g : Nat} {S : Nat → Nat → Int} {A : Nat → Nat → Bool} (h : MIs W g S A) : g < W.heap.size := by
  obtain ⟨cs, hb, _⟩ := h; exact blk_lt hb
theorem MIs.below {W W' : World} {g : Nat} {S : Nat → Nat → Int} {A : Nat → Nat → Bool} (h : MIs W g S A) (hb : Below W.heap.size W W') : MIs W' g S A := by
  obtain ⟨cs, h0, h1, h2⟩ := h; exact ⟨cs, blk_below h0 hb, h1, h2⟩
def put (S : Nat → Nat → Int) (i n : Nat) (x : Int) : Nat → Nat → Int := fun j m => if j = i ∧ m = n then x else S j m
theorem MIs.set {W : World} {g : Nat} {S : Nat → Nat → Int} {A : Nat → Nat → Bool} (h : MIs W g S A) (i n : Nat) (hi : i < 2) (hn : n < 256) (x : Int) : MIs (W.setCell ⟨g, 512 * i + n, none⟩ (.int .u8 x)) g (put S i n x) A := by
  obtain ⟨cs, h0, h1, h2⟩ := h
  have hsz : 512 * i + n < cs.size := (Array.getElem?_eq_some_iff.1 (h1 i n hi hn)).1
  refine ⟨cs.setIfInBounds (512 * i + n) (.int .u8 x), blk_set h0 _ _, ?_, ?_⟩
  · intro j m hj hm
    unfold put
    by_cases c : j = i ∧ m = n
    · obtain ⟨rfl, rfl⟩ := c
      rw [if_pos ⟨rfl, rfl⟩, Array.getElem?_setIfInBounds_self_of_lt hsz]
    · rw [if_neg c, Array.getElem?_setIfInBounds_ne (by omega)]
      exact h1 j m hj hm
  · intro j m hj hm
    rw [Array.getElem?_setIfInBounds_ne (by omega)]
    exact h2 j m hj hm
def agr (A : Nat → Nat → Bool) (i n : Nat) : Nat → Nat → Bool := fun j m => if j = i ∧ m = n then true else A j m
theorem MIs.agree {W : World} {g : Nat} {S : Nat → Nat → Int} {A : Nat → Nat → Bool} (h : MIs W g S A) (i n : Nat) (hi : i < 2) (hn : n < 256) : MIs (W.setCell ⟨g, 512 * i + 256 + n, none⟩ (.bool true)) g S (agr A i n) := by
  obtain ⟨cs, h0, h1, h2⟩ := h
  have hsz : 512 * i + 256 + n < cs.size := (Array.getElem?_eq_some_iff.1 (h2 i n hi hn)).1
  refine ⟨cs.setIfInBounds (512 * i + 256 + n) (.bool true), blk_set h0 _ _, ?_, ?_⟩
  · intro j m hj hm
    rw [Array.getElem?_setIfInBounds_ne (by omega)]
    exact h1 j m hj hm
  · intro j m hj hm
    unfold agr
    by_cases c : j = i ∧ m = n
    · obtain ⟨rfl, rfl⟩ := c
      rw [if_pos ⟨rfl, rfl⟩, Array.getElem?_setIfInBounds_self_of_lt hsz]
    · rw [if_neg c, Array.getElem?_setIfInBounds_ne (by omega)]
      exact h2 j m hj hm
set_option maxHeartbeats 2000000 in
theorem state_of (g i n : Nat) (hi : i < 2) (hn : n < 256) (S : Nat → Nat → Int) (A : Nat → Nat → Bool) (w : World) (h : MIs w g S A) (hr : ∀ i n, 0 ≤ S i n ∧ S i n ≤ 5) :
    Calls Try.prog 19 #[.pointer (some ⟨g, 0, none⟩), .int .i64 (i : Int), .int .u8 (n : Int)] w fun e w' => e = .returned (.int .i64 (S i n)) ∧ ∃ m, w' = w.drewN m := by
  have hs := h.st i n hi hn
  have hw : wrap64 (S i n) = S i n := by have := hr i n; unfold wrap64; omega
  match i, hi with
  | 0, _ =>
    simp only [Nat.mul_zero, Nat.zero_add] at hs
    go_enter Try.func19, Try.ntmps19
    go_wp2
    go_ret
    exact ⟨by simp [hw], 0, rfl⟩
  | 1, _ =>
    simp only [Nat.mul_one] at hs
    go_enter Try.func19, Try.ntmps19
    go_wp2
    go_ret
    exact ⟨by simp [hw], 0, rfl⟩
end Go.Proofs.Ytaabojppahcejaa.Op
