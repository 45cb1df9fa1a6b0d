/- option: helpers of the laws: cuts, what a list holds, a step of a script. -/
import Derived.Test.YtaabojppahcejaaMf
import Derived.Test.YtaabojppahcejaaPOpx2
namespace Go.Proofs.Ytaabojppahcejaa.Op
open Go.RowKit Go.Proofs.YtaabojppahcejaaW.PrintWords Go.Proofs.YtaabojppahcejaaW.PrintLast Go.Proofs.YtaabojppahcejaaW.PrintMore Go.Proofs.Ytaabojppahcejaa.POp
set_option linter.unusedVariables false
set_option linter.unusedSimpArgs false
theorem copy_is (l : List Int) (hl : l.length ≤ 100000) : vitrineref01_Copy.f l = some l := by
  unfold vitrineref01_Copy.f
  rw [Option.bind_some, if_pos (by simp; omega)]; rfl
theorem cut_is (l : List Int) (m : Nat) (hm : m ≤ 1000) : vitrineref01_Cut.f l (m : Int) = some (l.take m) := by
  unfold vitrineref01_Cut.f
  by_cases h : (l.length : Int) > m
  · rw [if_pos h, if_pos (by omega), if_pos (by omega), Int.toNat_natCast, copy_is _ (by simp; omega)]; rfl
  · rw [if_neg h, copy_is _ (by omega), List.take_of_length_le (by omega)]; rfl
theorem cut_of (m : Nat) (hm : m ≤ 1000) (A0 : Option Addr) (c0 : Nat) (l0 : List Int) (w : World) (hr0 : Kd.C (Kd.int .u8) w A0 l0.length l0) (hc0 : l0.length ≤ c0) :
    Calls Try.prog 9 #[.slice A0 l0.length c0, .int .i64 (m : Int)] w fun e w' => ∃ us A c, e = .returned (.slice A us.length c) ∧ Aside0 (us = l0.take m) ∧ us.length ≤ c ∧ Kd.C (Kd.int .u8) w' A us.length us ∧ (∀ ad, A = some ad → 0 < us.length → w.heap.size ≤ ad.block ∧ ad.block < w'.heap.size) ∧ Below w.heap.size w w' :=
  (vitrineref01_Cut.calls A0 c0 l0 (m : Int) (l0.take m) w hr0 hc0 (cut_is l0 m hm)).mono fun e w' ⟨v, he, hR, hb⟩ => by
    obtain ⟨A, c, rfl, hl, hC⟩ := Kd.R_reads hR
    refine ⟨l0.take m, A, c, he, ⟨rfl⟩, hl, hC, fun ad ha hp => ?_, hb⟩
    subst ha
    exact ⟨Kd.R_base hR ad.block (by simp [Value.ownBlock]), Kd.R_lt hR ad.block (by simp [Value.ownBlock])⟩
theorem index_l0 (l : List Int) (a : Int) (hl : l.length ≤ 100000) : ∀ (d k i : Nat), l.length - i ≤ d → i ≤ l.length → d < k → ∃ r, slices_Index_byte_byte.l0 k l a (l.length : Int) (i : Int) = some r ∧ (0 ≤ r ↔ (l.drop i).contains a = true) := by
  intro d
  induction d with
  | zero =>
    intro k i h1 h2 h3
    obtain ⟨k, rfl⟩ : ∃ m, k = m + 1 := ⟨k - 1, by omega⟩
    simp only [slices_Index_byte_byte.l0]
    rw [if_neg (by omega)]
    exact ⟨-1, rfl, by rw [List.drop_of_length_le (by omega)]; simp⟩
  | succ d ih =>
    intro k i h1 h2 h3
    obtain ⟨k, rfl⟩ : ∃ m, k = m + 1 := ⟨k - 1, by omega⟩
    simp only [slices_Index_byte_byte.l0]
    by_cases c : i < l.length
    · rw [if_pos (by omega), if_pos (by omega), if_pos (by omega)]
      have e : rd l (i : Int) = l[i] := by unfold rd; simp [List.getD_eq_getElem?_getD, c]
      have hd : l.drop i = l[i] :: l.drop (i + 1) := List.drop_eq_getElem_cons c
      rw [e, hd, List.contains_cons]
      by_cases q : a = l[i]
      · rw [if_pos q]
        exact ⟨(i : Int), rfl, by rw [beq_iff_eq.2 q, Bool.true_or]; simp⟩
      · rw [if_neg q]
        have hw : wrap64 ((i : Int) + 1) = ((i + 1 : Nat) : Int) := by unfold wrap64; omega
        rw [hw]
        obtain ⟨r, h, hr⟩ := ih k (i + 1) (by omega) (by omega) (by omega)
        refine ⟨r, h, hr.trans ?_⟩
        rw [beq_eq_false_iff_ne.2 q, Bool.false_or]
    · rw [if_neg (by omega)]
      exact ⟨-1, rfl, by rw [List.drop_of_length_le (by omega)]; simp⟩
theorem contains_is (l : List Int) (a : Int) (hl : l.length ≤ 100000) : slices_Contains_byte_byte.f (l.length + 1) l a = some (l.contains a) := by
  unfold slices_Contains_byte_byte.f slices_Index_byte_byte.f
  obtain ⟨r, h, hr⟩ := index_l0 l a hl l.length (l.length + 1) 0 (by omega) (by omega) (by omega)
  rw [show ((0 : Int)) = ((0 : Nat) : Int) from rfl, h, Option.bind_some, Option.some.injEq]
  rw [List.drop_zero] at hr
  rw [Bool.eq_iff_iff, ← hr]
  simp
theorem contains_of (A : Option Addr) (c : Nat) (l : List Int) (a : Int) (w : World) (hl : l.length ≤ 100000) (hr : Kd.C (Kd.int .u8) w A l.length l) (hc : l.length ≤ c) :
    Calls Try.prog 12 #[.slice A l.length c, .int .u8 a] w fun e w' => e = .returned (.bool (l.contains a)) ∧ ∃ m, w' = w.drewN m :=
  (slices_Contains_byte_byte.calls _ A c l a _ w hr hc (contains_is l a hl)).mono fun e w' ⟨he, hd⟩ => ⟨he, hd.out⟩
theorem Ckeep {w W : World} {g : Nat} {A : Option Addr} {l : List Int} (h : Kd.C (Kd.int .u8) w A l.length l) (hk : KeepBut w W g none) (hf : ∀ ad, A = some ad → 0 < l.length → ad.block ≠ g) : Kd.C (Kd.int .u8) W A l.length l :=
  Kd.C_keep (0 : Int) h hk hf
theorem cell_dr1 {W : World} {p : Addr} {v : Value} (h : W.cell? p = some v) : W.drew.cell? p = some v := h
theorem cell_drN {W : World} {p : Addr} {v : Value} (m : Nat) (h : W.cell? p = some v) : (W.drewN m).cell? p = some v := h
theorem cell_al {W : World} {p : Addr} {v : Value} (o : Obj) (h : W.cell? p = some v) : (W.alloc o).cell? p = some v := pw_cell_below (below_alloc (Below.refl _ _) _) h
theorem on_lit0 (g n : Nat) (hn : n < 256) (S : Nat → Nat → Int) (A : Nat → Nat → Bool) (w : World) (h : MIs w g S A) (hr : ∀ i n, 0 ≤ S i n ∧ S i n ≤ 5) (b : Bool) (hb : (S 0 n == 1) = b) :
    Calls Try.prog 13 #[.pointer (some ⟨g, 0, none⟩), .int .i64 0, .int .u8 (n : Int)] w fun e w' => e = .returned (.bool b) ∧ ∃ m, w' = w.drewN m := by
  subst hb
  exact on_of g 0 n (by decide) hn S A w h hr
theorem on_lit1 (g n : Nat) (hn : n < 256) (S : Nat → Nat → Int) (A : Nat → Nat → Bool) (w : World) (h : MIs w g S A) (hr : ∀ i n, 0 ≤ S i n ∧ S i n ≤ 5) (b : Bool) (hb : (S 1 n == 1) = b) :
    Calls Try.prog 13 #[.pointer (some ⟨g, 0, none⟩), .int .i64 1, .int .u8 (n : Int)] w fun e w' => e = .returned (.bool b) ∧ ∃ m, w' = w.drewN m := by
  subst hb
  exact on_of g 1 n (by decide) hn S A w h hr
theorem next_i {k m : Nat} (h : k < m) (hm : m ≤ 9223372036854775807) : Value.int .i64 (wrap64 ((k : Int) + 1)) = Value.int .i64 ((k + 1 : Nat) : Int) := by
  rw [wrap_in _ (by omega) (by omega)]; rfl
theorem meas {k m : Nat} (h : k < m) (hm : m ≤ 9223372036854775807) : m - (intOf (Value.int .i64 (wrap64 ((k : Int) + 1)))).toNat < m - (intOf (Value.int .i64 (k : Int))).toNat := by
  rw [next_i h hm]
  show m - ((k + 1 : Nat) : Int).toNat < m - ((k : Nat) : Int).toNat
  rw [Int.toNat_natCast, Int.toNat_natCast]
  omega
theorem MIs.dr1 {W : World} {g : Nat} {S : Nat → Nat → Int} {A : Nat → Nat → Bool} (h : MIs W g S A) : MIs W.drew g S A := h.heap rfl
theorem MIs.drN {W : World} {g : Nat} {S : Nat → Nat → Int} {A : Nat → Nat → Bool} (h : MIs W g S A) (m : Nat) : MIs (W.drewN m) g S A := h.heap rfl
theorem MIs.al {W : World} {g : Nat} {S : Nat → Nat → Int} {A : Nat → Nat → Bool} (h : MIs W g S A) (o : Obj) : MIs (W.alloc o) g S A := h.below (below_alloc (Below.refl _ _) o)
/-- A step of a script. -/
structure S29 where
  h : Bool
  v : Int
  o : Int
  s : Int
  t : Bool
def z29 : S29 := ⟨false, 0, 0, 0, false⟩
def k29 : Kd S29 := Kd.iso (Kd.pair Kd.bool (Kd.pair (Kd.int .u8) (Kd.pair (Kd.int .u8) (Kd.pair (Kd.int .i64) Kd.bool)))) (fun x : S29 => (x.h, x.v, x.o, x.s, x.t))
theorem k29_open {w : World} {x : S29} {cs : List Value} (h : k29.K w x cs) : cs = [.bool x.h, .int .u8 x.v, .int .u8 x.o, .int .i64 x.s, .bool x.t] := by
  obtain ⟨_, _, rfl, rfl, _, _, rfl, rfl, _, _, rfl, rfl, _, _, rfl, rfl, rfl⟩ := h
  exact rfl
theorem at_29 {w : World} {A : Option Addr} {n : Nat} {xs : List S29} (h : Kd.C k29 w A n xs) (i : Int) (h0 : 0 ≤ i) (h1 : i < n) : ∃ ad , A = some ad ∧ w.cell? (ad.add (i.toNat * 5)) = some (.bool (xs.getD i.toNat z29).h) ∧ w.cell? ⟨(ad.add (i.toNat * 5)).block, (ad.add (i.toNat * 5)).off + 1, none⟩ = some (.int .u8 (xs.getD i.toNat z29).v) ∧ w.cell? ⟨(ad.add (i.toNat * 5)).block, (ad.add (i.toNat * 5)).off + 2, none⟩ = some (.int .u8 (xs.getD i.toNat z29).o) ∧ w.cell? ⟨(ad.add (i.toNat * 5)).block, (ad.add (i.toNat * 5)).off + 3, none⟩ = some (.int .i64 (xs.getD i.toNat z29).s) ∧ w.cell? ⟨(ad.add (i.toNat * 5)).block, (ad.add (i.toNat * 5)).off + 4, none⟩ = some (.bool (xs.getD i.toNat z29).t) := by
  obtain ⟨ad, c, e, _, hK, hc0⟩ := Kd.C_get h z29 i h0 h1
  have hc : ∀ j u, c[j]? = some u → w.cell? (ad.add (i.toNat * 5 + j)) = some u := hc0
  obtain rfl := k29_open hK
  exact ⟨ad, e, hc 0 _ rfl, by rw [← add_field _ _ 1 (by omega)]; exact hc 1 _ rfl, by rw [← add_field _ _ 2 (by omega)]; exact hc 2 _ rfl, by rw [← add_field _ _ 3 (by omega)]; exact hc 3 _ rfl, by rw [← add_field _ _ 4 (by omega)]; exact hc 4 _ rfl⟩
end Go.Proofs.Ytaabojppahcejaa.Op
