/- option: what two ends say to each other, of one option and one side: it comes to rest. Plain. -/
import Derived.Test.YtaabojppahcejaaMc
namespace Go.Proofs.Ytaabojppahcejaa.Op
open Go.RowKit Go.Proofs.YtaabojppahcejaaW.PrintWords
set_option linter.unusedVariables false
set_option linter.unusedSimpArgs false
/-- What two ends may be in, of one option and side: their states, the words under way to each, and how many words may still come of it. -/
def talks : List (Int × Int × List Int × List Int × Nat) := [(0, 0, [], [], 0), (0, 2, [], [1], 0), (0, 3, [], [1], 2), (0, 4, [], [1], 0), (0, 4, [2], [], 1), (0, 5, [], [1], 0), (0, 5, [2], [], 3), (1, 1, [], [], 0), (1, 2, [1], [], 1), (1, 3, [1], [], 3), (1, 4, [], [2], 0), (1, 5, [], [2], 2), (2, 0, [1], [], 0), (2, 1, [], [1], 1), (2, 2, [1], [1], 0), (2, 3, [1], [1], 2), (2, 4, [], [2, 1], 1), (2, 4, [1, 2], [], 1), (2, 5, [], [2, 1], 1), (2, 5, [1, 2], [], 3), (3, 0, [1], [], 2), (3, 1, [], [1], 3), (3, 2, [1], [1], 2), (3, 3, [1], [1], 2), (3, 4, [], [2, 1], 3), (3, 4, [1, 2], [], 1), (3, 5, [], [2, 1], 3), (3, 5, [1, 2], [], 3), (4, 0, [], [2], 1), (4, 0, [1], [], 0), (4, 1, [2], [], 0), (4, 2, [], [1, 2], 1), (4, 2, [2, 1], [], 1), (4, 3, [], [1, 2], 1), (4, 3, [2, 1], [], 3), (4, 4, [], [1, 2], 1), (4, 4, [1, 2], [], 1), (4, 4, [2], [2], 0), (4, 5, [], [1, 2], 1), (4, 5, [1, 2], [], 3), (4, 5, [2], [2], 2), (5, 0, [], [2], 3), (5, 0, [1], [], 0), (5, 1, [2], [], 2), (5, 2, [], [1, 2], 3), (5, 2, [2, 1], [], 1), (5, 3, [], [1, 2], 3), (5, 3, [2, 1], [], 3), (5, 4, [], [1, 2], 3), (5, 4, [1, 2], [], 1), (5, 4, [2], [2], 2), (5, 5, [], [1, 2], 3), (5, 5, [1, 2], [], 3), (5, 5, [2], [2], 2)]
/-- Heard: of a state, whether it is agreed to, a word: the state and the word behind it. -/
def heardW (s : Int) (a : Bool) (x : Int) : Int × Int := if x = 2 then hOn s a else hOff s
def askW (s : Int) (t : Bool) : Int × Int × Bool := if t = true then aOn s else aOff s
def put1 (q : List Int) (x : Int) : List Int := if x = 0 then q else q ++ [x]
def one (x : Int) : Nat := if x = 0 then 0 else 1
def hearL (c : Int × Int × List Int × List Int × Nat) (a : Bool) : Bool :=
  match c.2.2.1 with
  | [] => true
  | x :: r => talks.any fun d => d.1 == (heardW c.1 a x).1 && d.2.1 == c.2.1 && d.2.2.1 == r && d.2.2.2.1 == put1 c.2.2.2.1 (heardW c.1 a x).2 && decide (d.2.2.2.2 + one (heardW c.1 a x).2 ≤ c.2.2.2.2)
def hearR (c : Int × Int × List Int × List Int × Nat) (a : Bool) : Bool :=
  match c.2.2.2.1 with
  | [] => true
  | x :: r => talks.any fun d => d.1 == c.1 && d.2.1 == (heardW c.2.1 a x).1 && d.2.2.1 == put1 c.2.2.1 (heardW c.2.1 a x).2 && d.2.2.2.1 == r && decide (d.2.2.2.2 + one (heardW c.2.1 a x).2 ≤ c.2.2.2.2)
def askL (c : Int × Int × List Int × List Int × Nat) (t : Bool) : Bool :=
  (talks.any fun d => d.1 == (askW c.1 t).1 && d.2.1 == c.2.1 && d.2.2.1 == c.2.2.1 && d.2.2.2.1 == put1 c.2.2.2.1 (askW c.1 t).2.1 && decide (d.2.2.2.2 + one (askW c.1 t).2.1 ≤ c.2.2.2.2 + (if (askW c.1 t).2.2 = true then 2 else 0)))
def askR (c : Int × Int × List Int × List Int × Nat) (t : Bool) : Bool :=
  (talks.any fun d => d.1 == c.1 && d.2.1 == (askW c.2.1 t).1 && d.2.2.1 == put1 c.2.2.1 (askW c.2.1 t).2.1 && d.2.2.2.1 == c.2.2.2.1 && decide (d.2.2.2.2 + one (askW c.2.1 t).2.1 ≤ c.2.2.2.2 + (if (askW c.2.1 t).2.2 = true then 2 else 0)))
def restC (c : Int × Int × List Int × List Int × Nat) : Bool := !(c.2.2.1 == [] && c.2.2.2.1 == []) || (c.1 == c.2.1 && (c.1 == 0 || c.1 == 1))
theorem talks_ok : (talks.all fun c => hearL c true && hearL c false && hearR c true && hearR c false && askL c true && askL c false && askR c true && askR c false && restC c) = true := by decide +kernel
/-- A conversation: one of those. -/
def Tk (s0 s1 : Int) (q0 q1 : List Int) (u : Nat) : Prop := (s0, s1, q0, q1, u) ∈ talks
theorem Tk.all {s0 s1 : Int} {q0 q1 : List Int} {u : Nat} (h : Tk s0 s1 q0 q1 u) : (hearL (s0, s1, q0, q1, u) true && hearL (s0, s1, q0, q1, u) false && hearR (s0, s1, q0, q1, u) true && hearR (s0, s1, q0, q1, u) false && askL (s0, s1, q0, q1, u) true && askL (s0, s1, q0, q1, u) false && askR (s0, s1, q0, q1, u) true && askR (s0, s1, q0, q1, u) false && restC (s0, s1, q0, q1, u)) = true :=
  List.all_eq_true.1 talks_ok _ h
theorem any_Tk {p : Int × Int × List Int × List Int × Nat → Bool} {s0 s1 : Int} {q0 q1 : List Int} {m : Nat} {k : Nat}
    (h : (talks.any fun d => d.1 == s0 && d.2.1 == s1 && d.2.2.1 == q0 && d.2.2.2.1 == q1 && decide (d.2.2.2.2 + k ≤ m)) = true) : ∃ u, Tk s0 s1 q0 q1 u ∧ u + k ≤ m := by
  obtain ⟨⟨a, b, c, d, u⟩, hd, he⟩ := List.any_eq_true.1 h
  simp only [Bool.and_eq_true, beq_iff_eq, decide_eq_true_eq] at he
  obtain ⟨⟨⟨⟨rfl, rfl⟩, rfl⟩, rfl⟩, hu⟩ := he
  exact ⟨u, hd, hu⟩
theorem Tk.hear0 {s0 s1 x : Int} {q0 q1 : List Int} {u : Nat} (a : Bool) (h : Tk s0 s1 (x :: q0) q1 u) : ∃ u', Tk (heardW s0 a x).1 s1 q0 (put1 q1 (heardW s0 a x).2) u' ∧ u' + one (heardW s0 a x).2 ≤ u := by
  have := h.all
  simp only [Bool.and_eq_true] at this
  cases a
  · exact any_Tk (p := fun _ => true) this.1.1.1.1.1.1.1.2
  · exact any_Tk (p := fun _ => true) this.1.1.1.1.1.1.1.1
theorem Tk.hear1 {s0 s1 x : Int} {q0 q1 : List Int} {u : Nat} (a : Bool) (h : Tk s0 s1 q0 (x :: q1) u) : ∃ u', Tk s0 (heardW s1 a x).1 (put1 q0 (heardW s1 a x).2) q1 u' ∧ u' + one (heardW s1 a x).2 ≤ u := by
  have := h.all
  simp only [Bool.and_eq_true] at this
  cases a
  · exact any_Tk (p := fun _ => true) this.1.1.1.1.1.2
  · exact any_Tk (p := fun _ => true) this.1.1.1.1.1.1.2
theorem Tk.ask0 {s0 s1 : Int} {q0 q1 : List Int} {u : Nat} (t : Bool) (h : Tk s0 s1 q0 q1 u) : ∃ u', Tk (askW s0 t).1 s1 q0 (put1 q1 (askW s0 t).2.1) u' ∧ u' + one (askW s0 t).2.1 ≤ u + (if (askW s0 t).2.2 = true then 2 else 0) := by
  have := h.all
  simp only [Bool.and_eq_true] at this
  cases t
  · exact any_Tk (p := fun _ => true) this.1.1.1.2
  · exact any_Tk (p := fun _ => true) this.1.1.1.1.2
theorem Tk.ask1 {s0 s1 : Int} {q0 q1 : List Int} {u : Nat} (t : Bool) (h : Tk s0 s1 q0 q1 u) : ∃ u', Tk s0 (askW s1 t).1 (put1 q0 (askW s1 t).2.1) q1 u' ∧ u' + one (askW s1 t).2.1 ≤ u + (if (askW s1 t).2.2 = true then 2 else 0) := by
  have := h.all
  simp only [Bool.and_eq_true] at this
  cases t
  · exact any_Tk (p := fun _ => true) this.1.2
  · exact any_Tk (p := fun _ => true) this.1.1.2
theorem Tk.rest {s0 s1 : Int} {u : Nat} (h : Tk s0 s1 [] [] u) : s0 = s1 ∧ (s0 = 0 ∨ s0 = 1) := by
  have := h.all
  simp only [Bool.and_eq_true] at this
  have := this.2
  simpa [restC] using this
theorem Tk.start : Tk 0 0 [] [] 0 := by unfold Tk; decide
end Go.Proofs.Ytaabojppahcejaa.Op
