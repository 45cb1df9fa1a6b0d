/- What reads as data at a type has cells of the kind that belongs to the type: whole numbers, bools, strings, slices, structs. Plain; over any program. -/
import Derived.Test.YtddfgfgjkamccaaWWords
import Derived.Deep.Slices
import Derived.Deep.Fields
import Derived.ChangeSame
import Derived.OpenShut
namespace Go.Proofs.Ytddfgfgjkamccaa.Opening
open Go.RowKit Go.WideShapes Go.ChangeShapes Go.Proofs.YtddfgfgjkamccaaW.PrintWords
set_option linter.unusedVariables false
set_option linter.unusedSimpArgs false

/-- What reads as data at type t has cells of kind d, and is ok. -/
def Opens (P : Program) (t : TypeId) {α : Type} (d : Kd α) (ok : α → Prop) : Prop :=
  ∀ (H : Type) (enc : TypeId × Value → H) (w : World) (base : Nat) (spare : Nat → Bool) (held : Bool) (fuel : Nat) (cs : List Value) (x : DataW H × List MemPlace),
    DataW.trod enc P w base spare held fuel t cs = some x → ∃ y, d.K w y cs ∧ ok y

section
variable {P : Program} {t e : TypeId}

theorem opens_int {k : IntKind} (ht : P.underlying t = some (.int k)) : Opens P t (Kd.int k) (fun n => (Lit.int k n).wf = true) := by
  intro H enc w base spare held fuel cs x h
  obtain ⟨n, rfl, _, hw⟩ := DataW.trod_int ht h
  exact ⟨n, rfl, hw⟩
theorem opens_bool (ht : P.underlying t = some .bool) : Opens P t Kd.bool (fun _ => True) := by
  intro H enc w base spare held fuel cs x h
  obtain ⟨b, rfl, _⟩ := DataW.trod_bool ht h
  exact ⟨b, rfl, trivial⟩
theorem opens_string (ht : P.underlying t = some .string) : Opens P t Kd.string (fun s => s.size ≤ maxLen) := by
  intro H enc w base spare held fuel cs x h
  obtain ⟨s, rfl, _, hs⟩ := DataW.trod_string ht h
  exact ⟨s, rfl, hs⟩

theorem opens_mono {α : Type} {d : Kd α} {ok ok' : α → Prop} (h : Opens P t d ok) (hi : ∀ x, ok x → ok' x) : Opens P t d ok' := by
  intro H enc w base spare held fuel cs x hx
  obtain ⟨y, h1, h2⟩ := h H enc w base spare held fuel cs x hx
  exact ⟨y, h1, hi _ h2⟩
theorem opens_iso {α β : Type} {d : Kd α} {ok : α → Prop} (f : β → α) (g : α → β) (hfg : ∀ a, f (g a) = a) (h : Opens P t d ok) : Opens P t (Kd.iso d f) (fun b => ok (f b)) := by
  intro H enc w base spare held fuel cs x hx
  obtain ⟨y, h1, h2⟩ := h H enc w base spare held fuel cs x hx
  refine ⟨g y, ?_, ?_⟩
  · show d.K w (f (g y)) cs
    rw [hfg]; exact h1
  · show ok (f (g y))
    rw [hfg]; exact h2

theorem list_of {α : Type} (p : Nat → α → Prop) : ∀ (n : Nat), (∀ i, i < n → ∃ y, p i y) → ∃ l : List α, l.length = n ∧ ∀ i y, l[i]? = some y → p i y
  | 0, _ => ⟨[], rfl, by simp⟩
  | n + 1, h => by
    obtain ⟨l, hl, hp⟩ := list_of p n (fun i hi => h i (by omega))
    obtain ⟨y, hy⟩ := h n (by omega)
    refine ⟨l ++ [y], by simp [hl], fun i z hz => ?_⟩
    rcases Nat.lt_or_ge i l.length with hi | hi
    · rw [List.getElem?_append_left hi] at hz
      exact hp i z hz
    · have hi' : i = n := by
        have := (List.getElem?_eq_some_iff.1 hz).1
        rw [List.length_append, List.length_singleton] at this
        omega
      subst hi'
      rw [List.getElem?_append_right hi, hl] at hz
      simp at hz
      subst hz
      exact hy

theorem opens_slice {α : Type} {d : Kd α} {ok : α → Prop} (ht : P.underlying t = some (.slice e)) (hc : P.cellsOf e = d.sz) (h : Opens P e d ok) :
    Opens P t (Kd.slice e d) (fun xs => xs.length ≤ maxLen ∧ ∀ x ∈ xs, ok x) := by
  intro H enc w base spare held fuel cs x hx
  rcases Deep.open_slice ht hx with ⟨rfl, _⟩ | ⟨a, len, cap, m, n, D, Pl, rfl, hb, hl, hm, hmm, _, hi⟩
  · exact ⟨[], ⟨none, 0, rfl, Nat.le_refl _, rfl, by simp, fun h0 => absurd h0 (Nat.lt_irrefl 0)⟩, by simp, by simp⟩
  · have hlm : len ≤ m := by rw [hmm]; split <;> omega
    obtain ⟨l, hll, hlp⟩ := list_of (fun i y => ok y ∧ ∃ c, c.length = d.sz ∧ d.K w y c ∧ ∀ j u, c[j]? = some u → w.cell? (a.add (i * d.sz + j)) = some u) len (fun i hil => by
      obtain ⟨cs', h1, h2⟩ := hi i (by omega)
      obtain ⟨y, hy, ho⟩ := h H enc w base spare held n cs' _ h2
      rw [hc] at h1
      obtain ⟨_, hcl, hat⟩ := World.cells?_some h1
      refine ⟨y, ho, cs', hcl, hy, fun j u hu => ?_⟩
      have hj : j < d.sz := by rw [← hcl]; exact (List.getElem?_eq_some_iff.1 hu).1
      rw [← Deep.add_add, hat j hj, hu])
    subst hll
    refine ⟨l, ⟨some a, cap, rfl, hl, rfl, by have := hm; unfold maxLen at this; omega, fun _ => ⟨a, rfl, fun j p hj => ?_⟩⟩, by omega, fun y hy => ?_⟩
    · obtain ⟨_, c, h1, h2, h3⟩ := hlp j p hj
      exact ⟨c, h1, h2, h3⟩
    · obtain ⟨i, hi, rfl⟩ := List.mem_iff_getElem.1 hy
      exact (hlp i _ (List.getElem?_eq_getElem hi)).1

/-- The fields fs, the first of them at offset o, read as kind d. -/
def OpensAt (P : Program) (fs : List Field) (o : Nat) {α : Type} (d : Kd α) (ok : α → Prop) : Prop :=
  ∀ (H : Type) (enc : TypeId × Value → H) (w : World) (base : Nat) (spare : Nat → Bool) (held : Bool) (n : Nat) (cs : List Value),
    (∀ f ∈ fs, ∃ y, DataW.trod enc P w base spare held n f.type ((cs.drop f.offset).take (P.cellsOf f.type)) = some y) → ∃ y, d.K w y ((cs.drop o).take d.sz) ∧ ok y
theorem opensAt_one {α : Type} {f : Field} {d : Kd α} {ok : α → Prop} (h : Opens P f.type d ok) (hc : P.cellsOf f.type = d.sz) (o : Nat) (ho : f.offset = o) : OpensAt P [f] o d ok := by
  intro H enc w base spare held n cs hcs
  obtain ⟨y, hy⟩ := hcs f (by simp)
  rw [hc, ho] at hy
  exact h H enc w base spare held n _ _ hy
theorem opensAt_cons {α β : Type} {f : Field} {fs : List Field} {a : Kd α} {b : Kd β} {oka : α → Prop} {okb : β → Prop} (h : Opens P f.type a oka) (hc : P.cellsOf f.type = a.sz) (o : Nat) (ho : f.offset = o)
    (hr : OpensAt P fs (o + a.sz) b okb) : OpensAt P (f :: fs) o (Kd.pair a b) (fun y => oka y.1 ∧ okb y.2) := by
  intro H enc w base spare held n cs hcs
  obtain ⟨y, hy⟩ := hcs f (by simp)
  rw [hc, ho] at hy
  obtain ⟨y0, h0, k0⟩ := h H enc w base spare held n _ _ hy
  obtain ⟨y1, h1, k1⟩ := hr H enc w base spare held n cs (fun g hg => hcs g (by simp [hg]))
  refine ⟨(y0, y1), ⟨_, _, ?_, h0, h1⟩, k0, k1⟩
  show (cs.drop o).take (a.sz + b.sz) = _
  rw [List.take_add, List.drop_drop]
theorem opens_struct {α : Type} {fs : List Field} {d : Kd α} {ok : α → Prop} (ht : P.underlying t = some (.struct fs.toArray)) (hc : P.cellsOf t = d.sz) (h : OpensAt P fs 0 d ok) : Opens P t d ok := by
  intro H enc w base spare held fuel cs x hx
  obtain ⟨xs, n, _, _, hlen, hxl, hf⟩ := DataW.trod_struct ht hx
  obtain ⟨y, hy, ho⟩ := h H enc w base spare held n cs (fun f hfm => by
    obtain ⟨i, hi, rfl⟩ := List.mem_iff_getElem.1 hfm
    have h1 := hf i fs[i] (by simp [hi])
    rw [h1]
    have : i < xs.length := by rw [hxl]; simpa using hi
    exact ⟨_, List.getElem?_eq_getElem this⟩)
  rw [List.drop_zero, List.take_of_length_le (by omega)] at hy
  exact ⟨y, hy, ho⟩

/-- An argument: its cells are of the kind. -/
theorem arg_opens {H : Type} {enc : TypeId × Value → H} {w : World} {base : Nat} {spare : Nat → Bool} {held : Bool} {v : Value} {x : DataW H} {p : List MemPlace} {α : Type} {d : Kd α} {ok : α → Prop} (h : Opens P t d ok)
    (hx : DataW.Trod enc P w base spare held t v x p) : ∃ y, d.K w y v.cells.toList ∧ ok y := by
  obtain ⟨fuel, hf⟩ := hx
  exact h H enc w base spare held fuel _ _ hf
/-- An argument that is a slice. -/
theorem arg_slice {H : Type} {enc : TypeId × Value → H} {w : World} {b : Nat} {r : Reach} {base : Nat} {spare : Nat → Bool} {held : Bool} {v : Value} {x : DataW H} {p : List MemPlace} {α : Type} {d : Kd α} {ok : List α → Prop} (ht : P.underlying t = some (.slice e)) (h : Opens P t (Kd.slice e d) ok)
    (hv : Value.okWide P w r b t v) (hx : DataW.Trod enc P w base spare held t v x p) : ∃ (xs : List α) (A : Option Addr) (c : Nat), v = .slice A xs.length c ∧ xs.length ≤ c ∧ d.C w A xs.length xs ∧ ok xs := by
  obtain ⟨a0, len0, cap0, rfl⟩ := okWide_slice ht hv
  obtain ⟨xs, ⟨A, c, hcs, hl, hC⟩, ho⟩ := arg_opens h hx
  simp [Value.cells] at hcs
  obtain ⟨rfl, rfl, rfl⟩ := hcs
  exact ⟨xs, _, _, rfl, hl, hC, ho⟩
/-- An argument that is a struct. -/
theorem arg_struct {H : Type} {enc : TypeId × Value → H} {w : World} {b : Nat} {r : Reach} {base : Nat} {spare : Nat → Bool} {held : Bool} {v : Value} {x : DataW H} {p : List MemPlace} {fs : Array Field} {α : Type} {d : Kd α} {ok : α → Prop} (ht : P.underlying t = some (.struct fs)) (h : Opens P t d ok)
    (hv : Value.okWide P w r b t v) (hx : DataW.Trod enc P w base spare held t v x p) : ∃ (y : α) (cs : List Value), v = .agg cs.toArray ∧ d.K w y cs ∧ ok y := by
  obtain ⟨cs, rfl, _⟩ := okWide_struct ht hv
  obtain ⟨y, hy, ho⟩ := arg_opens h hx
  exact ⟨y, cs.toList, by simp, by simpa [Value.cells] using hy, ho⟩
end
end Go.Proofs.Ytddfgfgjkamccaa.Opening
