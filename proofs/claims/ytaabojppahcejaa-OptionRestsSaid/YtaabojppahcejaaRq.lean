/- option: two ends, of all options at once: what is said and still may be said. Plain. -/
import Derived.Test.YtaabojppahcejaaRp
import Derived.Test.YtaabojppahcejaaMe
namespace Go.Proofs.Ytaabojppahcejaa.Op
open Go.RowKit Go.Proofs.YtaabojppahcejaaW.PrintWords
set_option linter.unusedVariables false
set_option linter.unusedSimpArgs false
theorem talks_swap : (talks.all fun c => talks.any fun d => d == (c.2.1, c.1, c.2.2.2.1, c.2.2.1, c.2.2.2.2)) = true := by decide +kernel
theorem Tk.swap {s0 s1 : Int} {q0 q1 : List Int} {u : Nat} (h : Tk s0 s1 q0 q1 u) : Tk s1 s0 q1 q0 u := by
  obtain ⟨d, hd, he⟩ := List.any_eq_true.1 (List.all_eq_true.1 talks_swap _ h)
  simp only [beq_iff_eq] at he
  subst he
  exact hd
/-- A message that there is: a verb, an option that is spoken of. -/
def okm (m : Int × Int) : Prop := (m.1 = 251 ∨ m.1 = 252 ∨ m.1 = 253 ∨ m.1 = 254) ∧ ∃ o : Nat, o < 4 ∧ m.2 = (o : Int)
def rside (v : Int) : Nat := if v = 251 ∨ v = 252 then 1 else 0
def wordOf (v : Int) : Int := if v = 251 ∨ v = 253 then 2 else 1
/-- What of a queue is said of one option, to one side of him who hears it. -/
def pj (r o : Nat) (l : List (Int × Int)) : List Int := l.filterMap fun m => if m.2 = (o : Int) ∧ rside m.1 = r then some (wordOf m.1) else none
theorem pj_nil (r o : Nat) : pj r o [] = [] := rfl
theorem pj_append (r o : Nat) (a b : List (Int × Int)) : pj r o (a ++ b) = pj r o a ++ pj r o b := by unfold pj; exact List.filterMap_append
theorem pj_cons (r o : Nat) (m : Int × Int) (l : List (Int × Int)) : pj r o (m :: l) = if m.2 = (o : Int) ∧ rside m.1 = r then wordOf m.1 :: pj r o l else pj r o l := by
  unfold pj
  rw [List.filterMap_cons]
  by_cases c : m.2 = (o : Int) ∧ rside m.1 = r
  · rw [if_pos c, if_pos c]
  · rw [if_neg c, if_neg c]
/-- How much may still be said, of the four options and both sides. -/
def pot (U : Nat → Nat → Nat) : Nat := U 0 0 + U 0 1 + U 0 2 + U 0 3 + U 1 0 + U 1 1 + U 1 2 + U 1 3
def putU (U : Nat → Nat → Nat) (c o x : Nat) : Nat → Nat → Nat := fun d p => if d = c ∧ p = o then x else U d p
theorem pot_put {U : Nat → Nat → Nat} {c o x k e : Nat} (hc : c < 2) (ho : o < 4) (h : x + k ≤ U c o + e) : pot (putU U c o x) + k ≤ pot U + e := by
  have h1 : c = 0 ∨ c = 1 := by omega
  have h2 : o = 0 ∨ o = 1 ∨ o = 2 ∨ o = 3 := by omega
  rcases h1 with rfl | rfl <;> rcases h2 with rfl | rfl | rfl | rfl <;> simp [pot, putU] <;> omega
/-- Two ends of a talk. -/
structure Ends (S0 S1 : Nat → Nat → Int) (W0 W1 : List (Int × Int)) (U : Nat → Nat → Nat) : Prop where
  talk : ∀ c o, c < 2 → o < 4 → Tk (S0 c o) (S1 (1 - c) o) (pj c o W0) (pj (1 - c) o W1) (U c o)
  ok0 : ∀ m ∈ W0, okm m
  ok1 : ∀ m ∈ W1, okm m
  z0 : ∀ c o, 4 ≤ o → S0 c o = 0
  z1 : ∀ c o, 4 ≤ o → S1 c o = 0
theorem Ends.swap {S0 S1 : Nat → Nat → Int} {W0 W1 : List (Int × Int)} {U : Nat → Nat → Nat} (h : Ends S0 S1 W0 W1 U) : Ends S1 S0 W1 W0 (fun c o => U (1 - c) o) where
  talk := by
    intro c o hc ho
    have h1 := (h.talk (1 - c) o (by omega) ho).swap
    have : 1 - (1 - c) = c := by omega
    rw [this] at h1
    exact h1
  ok0 := h.ok1
  ok1 := h.ok0
  z0 := h.z1
  z1 := h.z0
theorem pot_swap (U : Nat → Nat → Nat) : pot (fun c o => U (1 - c) o) = pot U := by simp [pot]; omega
theorem Ends.start : Ends (fun _ _ => 0) (fun _ _ => 0) [] [] (fun _ _ => 0) where
  talk := fun _ _ _ _ => Tk.start
  ok0 := by simp
  ok1 := by simp
  z0 := fun _ _ _ => rfl
  z1 := fun _ _ _ => rfl
/-- What is said of a side: to the other side of him who hears it. -/
theorem pj_say (i o r p : Nat) (x : Int) (hi : i < 2) (hr : r < 2) (hx : x = 0 ∨ x = 1 ∨ x = 2) : pj r p (say i x (o : Int)) = if p = o ∧ r = 1 - i then (if x = 0 then [] else [x]) else [] := by
  have h1 : i = 0 ∨ i = 1 := by omega
  have h2 : r = 0 ∨ r = 1 := by omega
  by_cases c : p = o
  · subst c
    rcases h1 with rfl | rfl <;> rcases h2 with rfl | rfl <;> rcases hx with rfl | rfl | rfl <;> simp [pj, say, verb, rside, wordOf]
  · have c' : ¬ ((o : Int) = (p : Int)) := by omega
    rcases hx with rfl | rfl | rfl <;> simp [pj, say, c, c']
theorem say_len (i : Nat) (x o : Int) : (say i x o).length = one x := by
  unfold say one
  split <;> rfl
theorem say_okm (i o : Nat) (x : Int) (hi : i < 2) (hx : x = 0 ∨ x = 1 ∨ x = 2) (ho : o < 4) : ∀ m ∈ say i x (o : Int), okm m := by
  have h1 : i = 0 ∨ i = 1 := by omega
  rcases h1 with rfl | rfl <;> rcases hx with rfl | rfl | rfl <;> simp [say, verb, okm] <;> exact ⟨o, ho, rfl⟩
theorem put1_eq (q : List Int) (x : Int) : put1 q x = q ++ (if x = 0 then [] else [x]) := by
  unfold put1
  split <;> simp
theorem heardW_word (s : Int) (a : Bool) (x : Int) : (heardW s a x).2 = 0 ∨ (heardW s a x).2 = 1 ∨ (heardW s a x).2 = 2 := by
  unfold heardW hOn hOff
  repeat' split
  all_goals decide
theorem askW_word (s : Int) (t : Bool) : (askW s t).2.1 = 0 ∨ (askW s t).2.1 = 1 ∨ (askW s t).2.1 = 2 := by
  unfold askW aOn aOff
  repeat' split
  all_goals simp
/-- One end hears its first word. -/
theorem Ends.hear {S0 S1 : Nat → Nat → Int} {W0 W1 : List (Int × Int)} {U : Nat → Nat → Nat} {v : Int} {o : Nat} (a : Bool) (h : Ends S0 S1 ((v, (o : Int)) :: W0) W1 U) :
    ∃ U', Ends (put S0 (rside v) o (heardW (S0 (rside v) o) a (wordOf v)).1) S1 W0 (W1 ++ say (rside v) (heardW (S0 (rside v) o) a (wordOf v)).2 (o : Int)) U' ∧
      pot U' + (say (rside v) (heardW (S0 (rside v) o) a (wordOf v)).2 (o : Int)).length ≤ pot U := by
  obtain ⟨hv, o', ho', e⟩ := h.ok0 _ (List.mem_cons_self ..)
  have ho : o < 4 := by have : (o : Int) = o' := e; omega
  have hr : rside v < 2 := by unfold rside; split <;> decide
  have ht := h.talk (rside v) o hr ho
  rw [pj_cons, if_pos ⟨rfl, rfl⟩] at ht
  obtain ⟨u, hu, hl⟩ := ht.hear0 a
  have hx := heardW_word (S0 (rside v) o) a (wordOf v)
  refine ⟨putU U (rside v) o u, ⟨?_, fun m hm => h.ok0 m (List.mem_cons_of_mem _ hm), ?_, ?_, h.z1⟩, ?_⟩
  · intro c p hc hp
    by_cases e : c = rside v ∧ p = o
    · obtain ⟨rfl, rfl⟩ := e
      simp only [put, putU, and_self, if_true, pj_append]
      rw [pj_say _ _ _ _ _ hr (by omega) hx, if_pos ⟨rfl, rfl⟩, ← put1_eq]
      exact hu
    · have h1 := h.talk c p hc hp
      have e1 : ¬ (((v, (o : Int)) : Int × Int).2 = (p : Int) ∧ rside ((v, (o : Int)) : Int × Int).1 = c) := fun ⟨x, y⟩ => e ⟨y.symm, by have : (o : Int) = p := x; omega⟩
      rw [pj_cons, if_neg e1] at h1
      have e2 : ¬ (p = o ∧ 1 - c = 1 - rside v) := fun ⟨x, y⟩ => e ⟨by omega, x⟩
      simp only [put, putU, if_neg e, pj_append]
      rw [pj_say _ _ _ _ _ hr (by omega) hx, if_neg e2, List.append_nil]
      exact h1
  · intro m hm
    rcases List.mem_append.1 hm with hm | hm
    · exact h.ok1 m hm
    · exact say_okm _ _ _ hr hx ho m hm
  · intro c p hp
    have : ¬ (c = rside v ∧ p = o) := by omega
    simp only [put, if_neg this]
    exact h.z0 c p hp
  · rw [say_len]
    exact pot_put (e := 0) hr ho hl
/-- One end asks. -/
theorem Ends.ask {S0 S1 : Nat → Nat → Int} {W0 W1 : List (Int × Int)} {U : Nat → Nat → Nat} {i o : Nat} (t : Bool) (hi : i < 2) (ho : o < 4) (h : Ends S0 S1 W0 W1 U) :
    ∃ U', Ends (put S0 i o (askW (S0 i o) t).1) S1 W0 (W1 ++ say i (askW (S0 i o) t).2.1 (o : Int)) U' ∧
      pot U' + (say i (askW (S0 i o) t).2.1 (o : Int)).length ≤ pot U + (if (askW (S0 i o) t).2.2 = true then 2 else 0) := by
  have ht := h.talk i o hi ho
  obtain ⟨u, hu, hl⟩ := ht.ask0 t
  have hx := askW_word (S0 i o) t
  refine ⟨putU U i o u, ⟨?_, h.ok0, ?_, ?_, h.z1⟩, ?_⟩
  · intro c p hc hp
    by_cases e : c = i ∧ p = o
    · obtain ⟨rfl, rfl⟩ := e
      simp only [put, putU, and_self, if_true, pj_append]
      rw [pj_say _ _ _ _ _ hi (by omega) hx, if_pos ⟨rfl, rfl⟩, ← put1_eq]
      exact hu
    · have h1 := h.talk c p hc hp
      have e2 : ¬ (p = o ∧ 1 - c = 1 - i) := fun ⟨x, y⟩ => e ⟨by omega, x⟩
      simp only [put, putU, if_neg e, pj_append]
      rw [pj_say _ _ _ _ _ hi (by omega) hx, if_neg e2, List.append_nil]
      exact h1
  · intro m hm
    rcases List.mem_append.1 hm with hm | hm
    · exact h.ok1 m hm
    · exact say_okm _ _ _ hi hx ho m hm
  · intro c p hp
    have : ¬ (c = i ∧ p = o) := by omega
    simp only [put, if_neg this]
    exact h.z0 c p hp
  · rw [say_len]
    exact pot_put hi ho hl
/-- At rest: both have the same mind. -/
theorem Ends.rest {S0 S1 : Nat → Nat → Int} {U : Nat → Nat → Nat} (h : Ends S0 S1 [] [] U) (c o : Nat) (hc : c < 2) (ho : o < 4) : S0 c o = S1 (1 - c) o ∧ (S0 c o = 0 ∨ S0 c o = 1) :=
  (h.talk c o hc ho).rest
theorem Ends.quiet0 {S0 S1 : Nat → Nat → Int} {U : Nat → Nat → Nat} (h : Ends S0 S1 [] [] U) (c o : Nat) (hc : c < 2) : S0 c o = 0 ∨ S0 c o = 1 := by
  by_cases ho : o < 4
  · exact (h.rest c o hc ho).2
  · exact .inl (h.z0 c o (by omega))
theorem hres_eq (S : Nat → Nat → Int) (A : Nat → Nat → Bool) (v n : Nat) (hv : v = 251 ∨ v = 252 ∨ v = 253 ∨ v = 254) : hres S A v n = heardW (S (rside v) n) (A (rside v) n) (wordOf v) ∧ sideOf v = rside v := by
  rcases hv with rfl | rfl | rfl | rfl <;> simp [hres, heardW, rside, wordOf, sideOf]
theorem ares_eq (S : Nat → Nat → Int) (t : Bool) (i n : Nat) : ares S t i n = askW (S i n) t := rfl
end Go.Proofs.Ytaabojppahcejaa.Op
