/- Plain facts: Bytes, and AttrBytes. -/
import Derived.Test.YtfdhchgemplnoaaPlainC
import Derived.Test.YtfdhchgemplnoaaByte
import Derived.Test.YtfdhchgemplnoaaPAllx13
namespace Go.Proofs.Ytfdhchgemplnoaa.Plain
open Go.RowKit Go.Proofs.Ytfdhchgemplnoaa.PAll Go.Proofs.YtfdhchgemplnoaaW.PrintWords Go.Proofs.YtfdhchgemplnoaaW.PrintLast
set_option linter.unusedSimpArgs false
set_option linter.unusedVariables false

def unconv (x : S36) : S40 := ⟨x.f0, x.f1⟩
def okp (p : S40) : Bool := good p.f0 p.f1
def flat (l : List S40) : List Int := l.flatMap fun p => [p.f0, p.f1]
/-- Their bytes, or the error. -/
def bytesOf (l : List S40) : List Int × Int := if l.length > 255 then ([], 3) else if l.all okp = true then ((l.length : Int) :: flat l, 0) else ([], 10)

theorem flat_len (l : List S40) : (flat l).length = 2 * l.length := by
  unfold flat; induction l with
  | nil => rfl
  | cons a l ih => simp [List.flatMap_cons, ih]; omega

theorem bytes_l0 (l : List S40) (hl : l.length ≤ 255) (d : Nat) : ∀ (k j : Nat) (acc : List Int), j + d = l.length → d < k → acc.length ≤ 1 + 2 * j →
    attr_Bytes.l0 k acc l (l.length : Int) (j : Int) = some (if (l.drop j).all okp = true then (acc ++ flat (l.drop j), 0) else ([], 10)) := by
  induction d with
  | zero =>
    intro k j acc hj hk ha
    obtain ⟨k, rfl⟩ : ∃ m, k = m + 1 := ⟨k - 1, by omega⟩
    simp only [attr_Bytes.l0]
    rw [if_neg (by omega), List.drop_eq_nil_of_le (by omega)]
    simp [flat]
  | succ d ih =>
    intro k j acc hj hk ha
    obtain ⟨k, rfl⟩ : ∃ m, k = m + 1 := ⟨k - 1, by omega⟩
    simp only [attr_Bytes.l0]
    have hd : l.drop j = l[j] :: l.drop (j + 1) := List.drop_eq_getElem_cons (by omega)
    rw [if_pos (by omega), if_pos (by omega), if_pos (by omega), rd40_get l j (by omega), check_is, hd]
    simp only [Option.bind_some, List.all_cons]
    by_cases hg : good l[j].f0 l[j].f1 = true
    · have hg' : okp l[j] = true := hg
      rw [if_pos hg, if_pos rfl, if_pos (by simp; omega), wrap_in _ (by omega) (by omega)]
      have := ih k (j + 1) (acc ++ [l[j].f0, l[j].f1]) (by omega) (by omega) (by simp; omega)
      rw [show (j : Int) + 1 = ((j + 1 : Nat) : Int) from by omega, this]
      have fl : flat (l[j] :: l.drop (j + 1)) = [l[j].f0, l[j].f1] ++ flat (l.drop (j + 1)) := rfl
      simp only [hg', Bool.true_and, fl, List.append_assoc]
    · have hg' : okp l[j] = false := by simpa [okp] using hg
      rw [if_neg hg, if_neg (by omega)]; simp [hg']

theorem refbytes_l0 (l : List S36) (hl : l.length ≤ 255) (d : Nat) : ∀ (k j : Nat) (acc : List Int), j + d = l.length → d + 12 < k → acc.length ≤ 1 + 2 * j →
    vitrineref05_Bytes.l0 k acc l (l.length : Int) (j : Int) = some (if ((l.drop j).map unconv).all okp = true then (acc ++ flat ((l.drop j).map unconv), 0) else ([], 10)) := by
  induction d with
  | zero =>
    intro k j acc hj hk ha
    obtain ⟨k, rfl⟩ : ∃ m, k = m + 1 := ⟨k - 1, by omega⟩
    simp only [vitrineref05_Bytes.l0]
    rw [if_neg (by omega), List.drop_eq_nil_of_le (by omega)]
    simp [flat]
  | succ d ih =>
    intro k j acc hj hk ha
    obtain ⟨k, rfl⟩ : ∃ m, k = m + 1 := ⟨k - 1, by omega⟩
    simp only [vitrineref05_Bytes.l0]
    have hd : l.drop j = l[j] :: l.drop (j + 1) := List.drop_eq_getElem_cons (by omega)
    rw [if_pos (by omega), if_pos (by omega), if_pos (by omega), rd36_get l j (by omega), right_is _ _ k (by omega), hd]
    simp only [Option.bind_some, List.map_cons, List.all_cons]
    by_cases hg : good l[j].f0 l[j].f1 = true
    · have hg' : okp (unconv l[j]) = true := hg
      rw [if_pos hg, if_pos (by simp; omega), wrap_in _ (by omega) (by omega)]
      have := ih k (j + 1) (acc ++ [l[j].f0, l[j].f1]) (by omega) (by omega) (by simp; omega)
      rw [show (j : Int) + 1 = ((j + 1 : Nat) : Int) from by omega, this]
      have fl : flat (unconv l[j] :: (l.drop (j + 1)).map unconv) = [l[j].f0, l[j].f1] ++ flat ((l.drop (j + 1)).map unconv) := rfl
      simp only [hg', Bool.true_and, fl, List.append_assoc]
    · have hg' : okp (unconv l[j]) = false := by simpa [okp, unconv] using hg
      rw [if_neg hg]; simp [hg']

theorem bytes_is (l : List S40) (hl : l.length ≤ 1000) (k : Nat) (hk : 300 ≤ k) : attr_Bytes.f k l = some (bytesOf l) := by
  unfold attr_Bytes.f bytesOf
  by_cases h : l.length > 255
  · rw [if_pos (by omega), if_pos h]
  · rw [if_neg (by omega), if_neg h]
    have := bytes_l0 l (by omega) l.length k 0 [(l.length : Int) % 256] (by omega) (by omega) (by simp)
    simp only [Int.natCast_zero, List.drop_zero] at this
    rw [this, Int.emod_eq_of_lt (by omega) (by omega)]
    rfl
theorem unconv_conv (l : List S40) : (l.map conv).map unconv = l := by
  rw [List.map_map]; exact List.map_id' _
theorem conv_unconv (l : List S36) : (l.map unconv).map conv = l := by
  rw [List.map_map]; exact List.map_id' _
theorem refbytes_is (l : List S40) (hl : l.length ≤ 1000) (k : Nat) (hk : 300 ≤ k) : vitrineref05_Bytes.f k (l.map conv) = some (bytesOf l) := by
  unfold vitrineref05_Bytes.f bytesOf
  rw [List.length_map]
  by_cases h : l.length > 255
  · rw [if_pos (by omega), if_pos h]
  · rw [if_neg (by omega), if_neg h]
    have := refbytes_l0 (l.map conv) (by simp; omega) l.length k 0 [(l.length : Int) % 256] (by simp) (by omega) (by simp)
    simp only [Int.natCast_zero, List.drop_zero, List.length_map, unconv_conv] at this
    rw [this, Int.emod_eq_of_lt (by omega) (by omega)]
    rfl

theorem pairs_flat : ∀ (l : List S40) (b : List Int), l.all okp = true → pairs l.length (flat l ++ b) = some (l.map fun p => (p.f0, p.f1))
  | [], _, _ => by simp [pairs, flat]
  | p :: l, b, h => by
    simp only [List.all_cons, Bool.and_eq_true] at h
    have hp : good p.f0 p.f1 = true := h.1
    have ih := pairs_flat l b h.2
    simp only [flat, List.flatMap_cons, List.length_cons, List.cons_append, List.nil_append, pairs, List.map_cons] at ih ⊢
    rw [if_pos hp, ih]; rfl

theorem parsed_bytes (l : List S40) (b : List Int) (hl : l.length ≤ 255) (h : l.all okp = true) : parsed (((l.length : Int) :: flat l) ++ b) = (l.map fun p => (p.f0, p.f1), 1 + 2 * (l.length : Int), 0) := by
  simp only [List.cons_append, parsed, Int.toNat_natCast]
  rw [if_neg (by rw [List.length_append, flat_len]; omega), pairs_flat l b h]

theorem flat_range (l : List S40) (h : ∀ p ∈ l, (0 ≤ p.f0 ∧ p.f0 ≤ 255) ∧ (0 ≤ p.f1 ∧ p.f1 ≤ 255)) : ∀ y ∈ flat l, 0 ≤ y ∧ y ≤ 255 := by
  intro y hy
  unfold flat at hy
  obtain ⟨p, hp, hy⟩ := List.mem_flatMap.1 hy
  rcases List.mem_cons.1 hy with rfl | hy
  · exact (h p hp).1
  · rcases List.mem_cons.1 hy with rfl | hy
    · exact (h p hp).2
    · cases hy

theorem bytes_j1 (l : List S40) (b : List Int) (hl : l.length ≤ 260) (hr : ∀ p ∈ l, (0 ≤ p.f0 ∧ p.f0 ≤ 255) ∧ (0 ≤ p.f1 ∧ p.f1 ≤ 255)) (hb : ∀ y ∈ b, 0 ≤ y ∧ y ≤ 255) (k : Nat) (hk : 500 ≤ k) :
    vitrinelaw05_AttrBytes.j1 k b l (bytesOf l).1 (bytesOf l).2 ((bytesOf l).2 != (bytesOf l).2) = some true := by
  obtain ⟨k, rfl⟩ : ∃ m, k = m + 1 := ⟨k - 1, by omega⟩
  simp only [vitrinelaw05_AttrBytes.j1, bne_self_eq_false, Bool.false_eq_true, if_false]
  by_cases h : l.length > 255
  · simp [bytesOf, h]
  · by_cases ho : l.all okp = true
    · have hbo : bytesOf l = ((l.length : Int) :: flat l, 0) := by unfold bytesOf; rw [if_neg h, if_pos ho]
      have hfl := flat_len l
      have hcut : vitrineref01_Cut.f b 20 = some (b.take 20) := cut_is b 20 (by omega)
      have htk : (b.take 20).length ≤ 20 := by simp; omega
      rw [hbo]
      simp only [if_true]
      rw [copy_is _ (by simp; omega), hcut]
      simp only [Option.bind_some]
      have hlen : (((l.length : Int) :: flat l) ++ b.take 20).length ≤ 1000 := by rw [List.length_append, List.length_cons]; omega
      rw [if_pos (by rw [List.length_cons]; omega), parse_is _ (by omega) (by
        intro y hy
        rcases List.mem_append.1 hy with hy | hy
        · rcases List.mem_cons.1 hy with rfl | hy
          · omega
          · exact flat_range l hr y hy
        · exact hb y (List.mem_of_mem_take hy)) k (by omega), parsed_bytes l _ (by omega) ho]
      simp only [Option.bind_some, if_true]
      have e : (l.map fun p => (p.f0, p.f1)).map mk40 = l := by rw [List.map_map]; exact List.map_id' _
      rw [if_pos (by simp [hfl]; omega), e, back_is l (by omega) k (by omega)]
      simp only [Option.bind_some]
      rw [pair_same _ (by simp; omega) k (by simp; omega)]
      rfl
    · have hbo : bytesOf l = ([], 10) := by unfold bytesOf; rw [if_neg h, if_neg ho]
      rw [hbo]
      simp

theorem bytes_law_l0 (l0 : List S36) (b : List Int) (hl : l0.length ≤ 9223372036854775807) (hr : ∀ p ∈ l0, (0 ≤ p.f0 ∧ p.f0 ≤ 255) ∧ (0 ≤ p.f1 ∧ p.f1 ≤ 255)) (hb : ∀ y ∈ b, 0 ≤ y ∧ y ≤ 255) (d : Nat) :
    ∀ (k j : Nat), j + d = l0.length → d + 600 < k → vitrinelaw05_AttrBytes.l0 k b ((l0.take (min j 260)).map unconv) l0 (l0.length : Int) (j : Int) = some true := by
  induction d with
  | zero =>
    intro k j hj hk
    obtain ⟨k, rfl⟩ : ∃ m, k = m + 1 := ⟨k - 1, by omega⟩
    simp only [vitrinelaw05_AttrBytes.l0]
    have hm : ((l0.take (min j 260)).map unconv).length ≤ 260 := by simp; omega
    have hr' : ∀ p ∈ (l0.take (min j 260)).map unconv, (0 ≤ p.f0 ∧ p.f0 ≤ 255) ∧ (0 ≤ p.f1 ∧ p.f1 ≤ 255) := by
      intro p hp
      obtain ⟨q, hq, rfl⟩ := List.mem_map.1 hp
      exact hr q (List.mem_of_mem_take hq)
    have hj1 := bytes_j1 _ b hm hr' hb k (by omega)
    rw [if_neg (by omega), bytes_is _ (by omega) k (by omega)]
    simp only [Option.bind_some]
    rw [back_is _ (by omega) k (by omega)]
    simp only [Option.bind_some]
    rw [refbytes_is _ (by omega) k (by omega)]
    simp only [Option.bind_some, same_is, if_true]
    exact hj1
  | succ d ih =>
    intro k j hj hk
    obtain ⟨k, rfl⟩ : ∃ m, k = m + 1 := ⟨k - 1, by omega⟩
    simp only [vitrinelaw05_AttrBytes.l0]
    rw [if_pos (by omega), if_pos (by omega), if_pos (by omega), rd36_get l0 j (by omega), wrap_in _ (by omega) (by omega)]
    have := ih k (j + 1) (by omega) (by omega)
    rw [show ((j + 1 : Nat) : Int) = (j : Int) + 1 from by omega] at this
    by_cases h : j < 260
    · rw [if_pos (by omega), if_pos (by simp; omega)]
      rw [show min (j + 1) 260 = j + 1 from by omega, List.take_succ_eq_append_getElem (by omega), List.map_append] at this
      rw [show min j 260 = j from by omega]
      exact this
    · rw [if_neg (by omega)]
      rw [show min (j + 1) 260 = 260 from by omega] at this
      rw [show min j 260 = 260 from by omega]
      exact this

theorem bytes_law (l0 : List S36) (b : List Int) (hl : l0.length ≤ 9223372036854775807) (hr : ∀ p ∈ l0, (0 ≤ p.f0 ∧ p.f0 ≤ 255) ∧ (0 ≤ p.f1 ∧ p.f1 ≤ 255)) (hb : ∀ y ∈ b, 0 ≤ y ∧ y ≤ 255) : vitrinelaw05_AttrBytes.f (l0.length + 1000) l0 b = some true := by
  unfold vitrinelaw05_AttrBytes.f
  rw [awake_is _ (by omega)]
  simp only [Option.bind_some, if_true]
  have := bytes_law_l0 l0 b hl hr hb l0.length (l0.length + 1000) 0 (by omega) (by omega)
  simpa using this

theorem bytes_walk (A : Option Addr) (c : Nat) (l : List S36) (A' : Option Addr) (c' : Nat) (b : List Int) (W : World) (hC : Kd.C k36 W A l.length l) (hc : l.length ≤ c) (ok : l.length ≤ maxLen ∧ ∀ x ∈ l, (Lit.int .u8 x.f0).wf = true ∧ (Lit.int .u8 x.f1).wf = true)
    (hC' : Kd.C (Kd.int .u8) W A' b.length b) (hc' : b.length ≤ c') (ok' : b.length ≤ maxLen ∧ ∀ x ∈ b, (Lit.int .u8 x).wf = true) :
    Calls Try.prog 6 #[.slice A l.length c, .slice A' b.length c'] W fun e W' => e = .returned (.bool true) ∧ Below W.heap.size W W' :=
  vitrinelaw05_AttrBytes.calls (l.length + 1000) A c l A' c' b true W hC hc hC' hc' (bytes_law l b (by have := ok.1; unfold maxLen at this; omega) (fun p hp => ⟨Pure.byte_of _ (ok.2 p hp).1, Pure.byte_of _ (ok.2 p hp).2⟩) (fun y hy => Pure.byte_of y (ok'.2 y hy)))
end Go.Proofs.Ytfdhchgemplnoaa.Plain
