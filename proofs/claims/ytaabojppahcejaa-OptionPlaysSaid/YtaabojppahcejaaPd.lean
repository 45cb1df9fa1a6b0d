/- option: a machine that is the document's: what the law's same answers. -/
import Derived.Test.YtaabojppahcejaaPc
import Derived.Test.YtaabojppahcejaaAg
import Derived.Test.YtaabojppahcejaaQu
namespace Go.Proofs.Ytaabojppahcejaa.Op
open Go Go.RowKit Go.Proofs.YtaabojppahcejaaW.PrintWords Go.Proofs.YtaabojppahcejaaW.PrintLast Go.Proofs.YtaabojppahcejaaW.PrintMore Go.Proofs.Ytaabojppahcejaa.POp
set_option linter.unusedVariables false
set_option linter.unusedSimpArgs false
/-- Nothing waits, of the sides below k, and of side k below n. -/
@[irreducible] def qb (S : Nat → Nat → Int) (k n : Nat) : Bool := ((List.range k).all fun i => (List.range 256).all fun m => decide (S i m < 2)) && (List.range n).all fun m => decide (S k m < 2)
theorem qb_start (S : Nat → Nat → Int) : qb S 0 0 = true := by unfold qb; rfl
theorem qb_succ (S : Nat → Nat → Int) (k n : Nat) : qb S k (n + 1) = (qb S k n && decide (S k n < 2)) := by
  unfold qb
  rw [List.range_succ (n := n), List.all_append, ← Bool.and_assoc]
  simp
theorem qb_next (S : Nat → Nat → Int) (k : Nat) : qb S k 256 = qb S (k + 1) 0 := by
  unfold qb
  rw [List.range_succ (n := k), List.all_append]
  simp only [List.all_cons, List.all_nil, Bool.and_true, List.range_zero]
theorem qb_all (S : Nat → Nat → Int) : qb S 2 0 = true ↔ ∀ i, i < 2 → ∀ n, n < 256 → S i n ≤ 1 := by
  unfold qb
  simp only [Bool.and_eq_true, List.all_eq_true, List.mem_range, decide_eq_true_eq]
  constructor
  · intro h i hi n hn
    have := h.1 i hi n hn
    omega
  · intro h
    exact ⟨fun i hi n hn => by have := h i hi n hn; omega, fun n hn => by omega⟩
theorem quiet_is (g : Nat) (S : Nat → Nat → Int) (A : Nat → Nat → Bool) (w : World) (h : MIs w g S A) :
    Calls Try.prog 18 #[.pointer (some ⟨g, 0, none⟩)] w fun e w' => e = .returned (.bool (qb S 2 0)) ∧ Below w.heap.size w w' :=
  (quiet_of g S A w h).mono fun e w' ⟨b, he, hi, hb⟩ => by
    have : b = qb S 2 0 := by
      rw [Bool.eq_iff_iff, qb_all]
      exact hi
    subst this
    exact ⟨he, hb⟩
theorem on_bad (p : Addr) (i n : Int) (h0 : i ≠ 0) (h1 : i ≠ 1) (w : World) : Calls Try.prog 13 #[.pointer (some p), .int .i64 i, .int .u8 n] w fun e w' => e = .returned (.bool false) ∧ w' = w := by
  have H := Aside0.mk (state_bad p i n h0 h1 w)
  clear h0 h1
  go_enter Try.func13, Try.ntmps13
  go_wp2_with (go_at_call 19; refine (H.out).mono ?_; rintro e w' ⟨rfl, rfl⟩)
  go_ret
  exact ⟨rfl, rfl⟩
theorem eq_l0 (l : List Int) (hl : l.length ≤ 100000) : ∀ (d k i : Nat), l.length - i ≤ d → i ≤ l.length → d < k → slices_Equal_byte_byte.l0 k l l (l.length : Int) (i : Int) = some true := by
  intro d
  induction d with
  | zero =>
    intro k i h1 h2 h3
    obtain ⟨k, rfl⟩ : ∃ m, k = m + 1 := ⟨k - 1, by omega⟩
    simp only [slices_Equal_byte_byte.l0]
    rw [if_neg (by omega)]
  | succ d ih =>
    intro k i h1 h2 h3
    obtain ⟨k, rfl⟩ : ∃ m, k = m + 1 := ⟨k - 1, by omega⟩
    simp only [slices_Equal_byte_byte.l0]
    by_cases c : i < l.length
    · rw [if_pos (by omega), if_pos (by omega), if_pos (by omega), if_pos (by omega), if_pos trivial]
      have hw : wrap64 ((i : Int) + 1) = ((i + 1 : Nat) : Int) := by unfold wrap64; omega
      rw [hw]
      exact ih k (i + 1) (by omega) (by omega) (by omega)
    · rw [if_neg (by omega)]
theorem equal_bytes (A0 : Option Addr) (c0 : Nat) (A1 : Option Addr) (c1 : Nat) (l : List Int) (w : World) (hl : l.length ≤ 100000) (h0 : Kd.C (Kd.int .u8) w A0 l.length l) (hc0 : l.length ≤ c0) (h1 : Kd.C (Kd.int .u8) w A1 l.length l) (hc1 : l.length ≤ c1) :
    Calls Try.prog 39 #[.slice A0 l.length c0, .slice A1 l.length c1] w fun e w' => e = .returned (.bool true) ∧ ∃ m, w' = w.drewN m :=
  (slices_Equal_byte_byte.calls (l.length + 1) A0 c0 l A1 c1 l true w h0 hc0 h1 hc1 (by unfold slices_Equal_byte_byte.f; rw [if_pos rfl]; exact eq_l0 l hl l.length (l.length + 1) 0 (by omega) (by omega) (by omega))).mono fun e w' ⟨he, hd⟩ => ⟨he, hd.out⟩
/-- slices.Equal on two rows that hold the same. -/
theorem equal_rows {w w1 : World} {b0 b1 : Nat} {ok0 ok1 : Nat → Prop} {u v : Value} (l : List Int) (hl : l.length ≤ 100000) (h0 : Kd.R (Kd.int .u8) 5 w b0 ok0 u l) (h1 : Kd.R (Kd.int .u8) 5 w b1 ok1 v l) :
    Calls Try.prog 39 #[u, v] w fun e w' => e = .returned (.bool true) ∧ ∃ m, w' = w.drewN m := by
  obtain ⟨A0, c0, rfl, l0, C0⟩ := Kd.R_reads h0
  obtain ⟨A1, c1, rfl, l1, C1⟩ := Kd.R_reads h1
  exact equal_bytes A0 c0 A1 c1 l w hl C0 l0 C1 l1
theorem appByte {W : World} {base : Nat} {v : Value} {xs : List Int} (x : Int) (h : Kd.R (Kd.int .u8) 5 W base (fun _ => True) v xs) (hb : base ≤ W.heap.size) (hl : xs.length ≤ 1000) :
    ∃ v' w', (Builtin.append_ #[22, 22] 22 #[v, .slice (some ⟨W.heap.size, 0, none⟩) 1 1]).run Try.prog (W.alloc (.cells #[.int .u8 x] 5)) = .ok v' w' ∧ Kd.R (Kd.int .u8) 5 w' base (fun _ => True) v' (xs ++ [x]) ∧ Below base W w' := by
  obtain ⟨h0, inner, ho, hr⟩ := h
  obtain ⟨i0, hi, hz0, hz1, hz2⟩ := info_parts info5
  have hown := pw_own_below ho (below_alloc (Below.refl _ _) (.cells #[.int .u8 x] 5))
  obtain ⟨v', w', hrun, ho', hg, _, hat⟩ := run_append_own_at (P := Try.prog) (W.alloc (.cells #[.int .u8 x] 5)) base 22 22 5 i0 (.int .u8 0) 1 1 Try.underlying22 hi hz0 hz1 hz2 rfl (by decide) v xs.length inner hown ⟨W.heap.size, 0, none⟩ 1 1 [.int .u8 x] rfl
    (by simpa using World.news_of_block (cs := #[.int .u8 x]) (t := 5) (fr := (0, 0)) (heap_alloc_new W (.cells #[.int .u8 x] 5))) (by simp [Value.oneCell']) (by simp only [maxLen]; omega) (by omega) (by simp; omega)
  have hg' : W.grownBy w' v.ownBlock := World.grownBy.trans (World.grownBy_alloc W _ _) hg
  have hat' : v'.ownBlock = v.ownBlock ∨ ∃ b, v'.ownBlock = some b ∧ W.heap.size ≤ b := by
    rcases hat with hat | hat
    · exact .inl hat
    · exact .inr ⟨_, hat, by simp⟩
  refine ⟨v', w', hrun, Kd.R_appended (okp := fun _ => False) h0 hr (show Kd.M (Kd.int .u8) W base _ x [.int .u8 x] from rfl) (fun _ hk => hk.elim) (fun _ _ => trivial) ho' hg' hat', (Below.refl base W).grown hg' hb (fun k hk => own_base ho k hk)⟩
end Go.Proofs.Ytaabojppahcejaa.Op
