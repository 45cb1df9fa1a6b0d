/- option: a step of a script, whatever it is; counts of options. -/
import Derived.Test.YtaabojppahcejaaMg
namespace Go.Proofs.Ytaabojppahcejaa.Op
open Go.RowKit Go.Proofs.YtaabojppahcejaaW.PrintWords Go.Proofs.YtaabojppahcejaaW.PrintLast Go.Proofs.YtaabojppahcejaaW.PrintMore Go.Proofs.Ytaabojppahcejaa.POp
set_option linter.unusedVariables false
set_option linter.unusedSimpArgs false
def MR (W : World) (g : Nat) (A : Nat → Nat → Bool) : Prop := ∃ S, MIs W g S A ∧ Rng S
/-- At most one thing is said, of that option. -/
def Said1 (w : World) (g : Nat) (A : Nat → Nat → Bool) (n : Nat) (e : Ending) (w' : World) : Prop :=
  ∃ u er L, e = .returned (.tuple #[u, .int .i64 er]) ∧ Kd.R kM 37 w' w.heap.size (fun k => w.heap.size ≤ k) u L ∧ (L = [] ∨ ∃ x, L = [(x, (n : Int))]) ∧ MR w' g A ∧ KeepBut w w' g none ∧ Below g w w'
theorem say_one (i : Nat) (x : Int) (n : Nat) : say i x (n : Int) = [] ∨ ∃ y, say i x (n : Int) = [(y, (n : Int))] := by
  unfold say
  split
  · exact .inl rfl
  · exact .inr ⟨_, rfl⟩
theorem hear_any (g : Nat) (v : Int) (n : Nat) (hn : n < 256) (A : Nat → Nat → Bool) (w : World) (h : MR w g A) :
    Calls Try.prog 11 #[.pointer (some ⟨g, 0, none⟩), .int .u8 v, .int .u8 (n : Int)] w (Said1 w g A n) := by
  obtain ⟨S, hm, hr⟩ := h
  by_cases c1 : v = 251
  · subst c1
    exact (hear_will g n hn S A w hm).mono fun e w' ⟨u, he, hu, hm', hk⟩ => ⟨u, _, _, he, R_newer hu, say_one _ _ _, ⟨_, hm', put_rng hr _ _ (hOn_rng _ _)⟩, hk⟩
  by_cases c2 : v = 252
  · subst c2
    exact (hear_wont g n hn S A w hm).mono fun e w' ⟨u, he, hu, hm', hk⟩ => ⟨u, _, _, he, R_newer hu, say_one _ _ _, ⟨_, hm', put_rng hr _ _ (hOff_rng _)⟩, hk⟩
  by_cases c3 : v = 253
  · subst c3
    exact (hear_do g n hn S A w hm).mono fun e w' ⟨u, he, hu, hm', hk⟩ => ⟨u, _, _, he, R_newer hu, say_one _ _ _, ⟨_, hm', put_rng hr _ _ (hOn_rng _ _)⟩, hk⟩
  by_cases c4 : v = 254
  · subst c4
    exact (hear_dont g n hn S A w hm).mono fun e w' ⟨u, he, hu, hm', hk⟩ => ⟨u, _, _, he, R_newer hu, say_one _ _ _, ⟨_, hm', put_rng hr _ _ (hOff_rng _)⟩, hk⟩
  · refine (hear_bad _ v (n : Int) c1 c2 c3 c4 w).mono fun e w' ⟨he, hw⟩ => ?_
    subst hw
    exact ⟨_, _, [], he, Kd.R_nil _ _ _ _ _, .inl rfl, ⟨S, hm, hr⟩, KeepBut.refl _ _ _, Below.refl _ _⟩
theorem ask_any (g : Nat) (i : Int) (n : Nat) (t : Bool) (hn : n < 256) (A : Nat → Nat → Bool) (w : World) (h : MR w g A) :
    Calls Try.prog 14 #[.pointer (some ⟨g, 0, none⟩), .int .i64 i, .int .u8 (n : Int), .bool t] w (Said1 w g A n) := by
  obtain ⟨S, hm, hr⟩ := h
  by_cases c0 : i = 0
  · subst c0
    cases t with
    | true => exact (ask_on0 g n hn S A w hm).mono fun e w' ⟨u, he, hu, hm', hk⟩ => ⟨u, _, _, he, R_newer hu, say_one _ _ _, ⟨_, hm', put_rng hr _ _ (aOn_rng _ (hr _ _))⟩, hk⟩
    | false => exact (ask_off0 g n hn S A w hm).mono fun e w' ⟨u, he, hu, hm', hk⟩ => ⟨u, _, _, he, R_newer hu, say_one _ _ _, ⟨_, hm', put_rng hr _ _ (aOff_rng _ (hr _ _))⟩, hk⟩
  by_cases c1 : i = 1
  · subst c1
    cases t with
    | true => exact (ask_on1 g n hn S A w hm).mono fun e w' ⟨u, he, hu, hm', hk⟩ => ⟨u, _, _, he, R_newer hu, say_one _ _ _, ⟨_, hm', put_rng hr _ _ (aOn_rng _ (hr _ _))⟩, hk⟩
    | false => exact (ask_off1 g n hn S A w hm).mono fun e w' ⟨u, he, hu, hm', hk⟩ => ⟨u, _, _, he, R_newer hu, say_one _ _ _, ⟨_, hm', put_rng hr _ _ (aOff_rng _ (hr _ _))⟩, hk⟩
  · refine (ask_bad _ i (n : Int) t c0 c1 w).mono fun e w' ⟨he, hw⟩ => ?_
    subst hw
    exact ⟨_, _, [], he, Kd.R_nil _ _ _ _ _, .inl rfl, ⟨S, hm, hr⟩, KeepBut.refl _ _ _, Below.refl _ _⟩
/-- A block of 256 counts. -/
def CIs (W : World) (g : Nat) (H : Nat → Nat) : Prop := ∃ cs : Array Value, W.heap[g]? = some (.cells cs 39 (0, 0)) ∧ ∀ n, n < 256 → cs[n]? = some (.int .i64 (H n : Int))
theorem CIs.cell {W : World} {g : Nat} {H : Nat → Nat} (h : CIs W g H) (n : Nat) (hn : n < 256) : W.cell? ⟨g, n, none⟩ = some (.int .i64 (H n : Int)) ∧ W.frozen? ⟨g, n, none⟩ = false := by
  obtain ⟨cs, hb, h1⟩ := h
  exact ⟨by rw [blk_cell hb]; exact h1 n hn, blk_frozen hb _⟩
theorem CIs.lt {W : World} {g : Nat} {H : Nat → Nat} (h : CIs W g H) : g < W.heap.size := by
  obtain ⟨cs, hb, _⟩ := h; exact blk_lt hb
theorem CIs.keep {W W' : World} {g m : Nat} {H : Nat → Nat} (h : CIs W g H) (hk : KeepBut W W' m none) (hne : g ≠ m) : CIs W' g H := by
  obtain ⟨cs, hb, h1⟩ := h
  exact ⟨cs, hk.blk hb hne (by simp), h1⟩
theorem CIs.below {W W' : World} {g : Nat} {H : Nat → Nat} (h : CIs W g H) (hb' : Below W.heap.size W W') : CIs W' g H := by
  obtain ⟨cs, hb, h1⟩ := h
  exact ⟨cs, blk_below hb hb', h1⟩
def bump (H : Nat → Nat) (n : Nat) (d : Nat) : Nat → Nat := fun m => if m = n then H m + d else H m
theorem CIs.set {W : World} {g : Nat} {H : Nat → Nat} (h : CIs W g H) (n d : Nat) (hn : n < 256) : CIs (W.setCell ⟨g, n, none⟩ (.int .i64 (((H n + d : Nat)) : Int))) g (bump H n d) := by
  obtain ⟨cs, hb, h1⟩ := h
  have hsz : n < cs.size := (Array.getElem?_eq_some_iff.1 (h1 n hn)).1
  refine ⟨_, blk_set hb _ _, fun m hm => ?_⟩
  unfold bump
  by_cases c : m = n
  · subst c
    rw [if_pos rfl, Array.getElem?_setIfInBounds_self_of_lt hsz]
  · rw [if_neg c, Array.getElem?_setIfInBounds_ne (by omega)]
    exact h1 m hm
theorem CIs.far {W : World} {g : Nat} {H : Nat → Nat} (h : CIs W g H) {p : Addr} (hp : g ≠ p.block) (u : Value) : CIs (W.setCell p u) g H := by
  obtain ⟨cs, hb, h1⟩ := h
  exact ⟨cs, blk_far hb hp u, h1⟩
@[irreducible] def Z39 : Array Value := (List.replicate 256 (Value.int .i64 0)).toArray
unseal Z39 in
theorem exec39 (ρ : Operand → Value) (N : Tmp) (ty : TypeId) (p : String) (aft : Array Edge) (W : World) : (execOp ρ { dst := some N, op := .alloc 39, type := ty, pos := p, after := aft, guard := none }).run Try.prog W = .ok (.value (.pointer (some ⟨W.heap.size, 0, none⟩))) (W.alloc (.cells Z39 39)) := by kernel_rfl
theorem CIs.new {W : World} {g : Nat} (h : W.heap[g]? = some (.cells Z39 39 (0, 0))) : CIs W g (fun _ => 0) := ⟨Z39, h, fun n hn => by
  unfold Z39
  rw [List.getElem?_toArray, List.getElem?_replicate, if_pos hn]; rfl⟩
end Go.Proofs.Ytaabojppahcejaa.Op
