/- AttrMakes: plain facts under the law (PMk's namespace). -/
import Derived.Test.YtfdhchgemplnoaaMkA
import Derived.Test.YtfdhchgemplnoaaMkB
import Derived.Test.YtfdhchgemplnoaaPMkx3
import Derived.Test.YtfdhchgemplnoaaPMkx4
import Derived.Test.YtfdhchgemplnoaaPMkx6
import Derived.Test.YtfdhchgemplnoaaPMkx7
import Derived.Test.YtfdhchgemplnoaaPMkx8
namespace Go.Proofs.Ytfdhchgemplnoaa.MkPlain
open Go.RowKit Go.Proofs.Ytfdhchgemplnoaa.PMk Go.Proofs.YtfdhchgemplnoaaW.PrintWords Go.Proofs.YtfdhchgemplnoaaW.PrintLast
set_option linter.unusedSimpArgs false
set_option linter.unusedVariables false
theorem wrap_in (x : Int) (h0 : -9223372036854775808 ≤ x) (h1 : x ≤ 9223372036854775807) : wrap64 x = x := by unfold wrap64; omega

/-! ### Right and Check -/
def okList (t : Int) : List Int := if t = 0 then [0] else if t = 65 then [0, 240, 241, 242, 244, 248] else if t = 66 then [0, 241, 242, 243, 244, 245, 246, 247] else if t = 67 then [0, 241] else []
/-- Is it an extended attribute? -/
def good (t v : Int) : Bool := decide (t = 192) || (okList t).contains v

theorem check_is (t v : Int) : attr_Pair_Check.f t v = some (if good t v = true then 0 else 10) := by
  unfold attr_Pair_Check.f good okList
  by_cases h0 : t = 0
  · subst h0; simp; split <;> simp_all
  · rw [if_neg h0, if_neg h0]
    by_cases h1 : t = 192
    · simp [h1]
    · rw [if_neg h1]
      by_cases h2 : t = 65
      · simp only [if_pos h2]; simp [h1]; repeat' (split <;> simp_all)
      · rw [if_neg h2, if_neg h2]
        by_cases h3 : t = 66
        · simp only [if_pos h3]; simp [h1]
          by_cases a : v = 0
          · simp [a]
          · rw [if_neg a]
            by_cases b : v ≥ 241
            · by_cases c : v ≤ 247
              · rw [if_pos b, if_pos c, if_pos (by omega)]
              · rw [if_pos b, if_neg c, if_neg (by omega)]
            · rw [if_neg b, if_neg (by omega)]
        · rw [if_neg h3, if_neg h3]
          by_cases h4 : t = 67
          · simp only [if_pos h4]; simp [h1]; repeat' (split <;> simp_all)
          · simp [h1, h4]

/-! ### awake -/
theorem awake_is (k : Nat) (hk : 3 ≤ k) : vitrinelaw05_awake.f k = some true := by
  have h : vitrinelaw05_awake.f 3 = some true := by decide +kernel
  exact at_rounds vitrinelaw05_awake.mono hk h


def conv (x : S40) : S36 := ⟨x.f0, x.f1⟩
/-! ### back, Pair (slices.Equal), Copy, Cut, Same -/
theorem rd40_get (xs : List S40) (j : Nat) (h : j < xs.length) : rd_T40 xs (j : Int) = xs[j] := by unfold rd_T40; simp [List.getD_eq_getElem?_getD, h]
theorem rd36_get (xs : List S36) (j : Nat) (h : j < xs.length) : rd_T36 xs (j : Int) = xs[j] := by unfold rd_T36; simp [List.getD_eq_getElem?_getD, h]

theorem back_l0 (l : List S40) (hl : l.length ≤ 100000) (d : Nat) : ∀ (k j : Nat) (acc : List S36), j + d = l.length → d < k → acc.length = j →
    vitrinelaw05_back.l0 k acc l (l.length : Int) (j : Int) = some (acc ++ (l.drop j).map conv) := by
  induction d with
  | zero =>
    intro k j acc hj hk ha
    obtain ⟨k, rfl⟩ : ∃ m, k = m + 1 := ⟨k - 1, by omega⟩
    simp only [vitrinelaw05_back.l0]
    rw [if_neg (by omega), List.drop_eq_nil_of_le (by omega)]; simp
  | succ d ih =>
    intro k j acc hj hk ha
    obtain ⟨k, rfl⟩ : ∃ m, k = m + 1 := ⟨k - 1, by omega⟩
    simp only [vitrinelaw05_back.l0]
    rw [if_pos (by omega), if_pos (by omega), if_pos (by omega), if_pos (by omega), rd40_get l j (by omega), wrap_in _ (by omega) (by omega)]
    have := ih k (j + 1) (acc ++ [conv l[j]]) (by omega) (by omega) (by simp; omega)
    rw [show (j : Int) + 1 = ((j + 1 : Nat) : Int) from by omega]
    have hd : l.drop j = l[j] :: l.drop (j + 1) := List.drop_eq_getElem_cons (by omega)
    rw [hd, List.map_cons]
    simp only [List.append_assoc, List.singleton_append] at this
    exact this
theorem back_is (l : List S40) (hl : l.length ≤ 100000) (k : Nat) (hk : l.length < k) : vitrinelaw05_back.f k l = some (l.map conv) := by
  have := back_l0 l hl l.length k 0 [] (by omega) (by omega) rfl
  simpa [vitrinelaw05_back.f] using this

theorem pair_l0 (l : List S36) (hl : l.length ≤ 100000) (d : Nat) : ∀ (k j : Nat), j + d = l.length → d < k → vitrineref05_Pair.l0 k l l (l.length : Int) (j : Int) = some true := by
  induction d with
  | zero =>
    intro k j hj hk
    obtain ⟨k, rfl⟩ : ∃ m, k = m + 1 := ⟨k - 1, by omega⟩
    simp only [vitrineref05_Pair.l0]
    rw [if_neg (by omega)]
  | succ d ih =>
    intro k j hj hk
    obtain ⟨k, rfl⟩ : ∃ m, k = m + 1 := ⟨k - 1, by omega⟩
    simp only [vitrineref05_Pair.l0]
    rw [if_pos (by omega), if_pos (by omega), if_pos (by omega), if_pos (by omega), if_neg (by simp), wrap_in _ (by omega) (by omega)]
    exact ih k (j + 1) (by omega) (by omega)
theorem pair_same (l : List S36) (hl : l.length ≤ 100000) (k : Nat) (hk : l.length < k) : vitrineref05_Pair.f k l l = some true := by
  unfold vitrineref05_Pair.f
  rw [if_pos rfl]
  exact pair_l0 l hl l.length k 0 (by omega) hk

theorem six_all : ∀ n : Fin 256, vitrineref05_Six.f 6 (n.val : Int) = some (Go.bits .and .u8 (n.val : Int) 61) := by decide +kernel
theorem six_is (v : Int) (h0 : 0 ≤ v) (h1 : v ≤ 255) (k : Nat) (hk : 6 ≤ k) : vitrineref05_Six.f k v = some (Go.bits .and .u8 v 61) := by
  obtain ⟨n, rfl⟩ := Int.eq_ofNat_of_zero_le h0
  exact at_rounds (vitrineref05_Six.mono _) hk (six_all ⟨n, by omega⟩)

/-- What a pair makes of a cell, with the error. -/
def app (t v c0 : Int) (c1 : Bool) (c2 c3 c4 c5 : Int) : Int × Bool × Int × Int × Int × Int × Int :=
  if good t v = true then
    if t = 0 then (c0, c1, c2, 0, 0, 0, 0) else if t = 192 then (c0, c1, if c1 = true then Go.bits .and .u8 v 61 else c2, c3, c4, c5, 0)
    else if t = 65 then (c0, c1, c2, v, c4, c5, 0) else if t = 66 then (c0, c1, c2, c3, v, c5, 0) else (c0, c1, c2, c3, c4, v, 0)
  else (0, false, 0, 0, 0, 0, 10)

theorem good_types {t v : Int} (h : good t v = true) : t = 0 ∨ t = 192 ∨ t = 65 ∨ t = 66 ∨ t = 67 := by
  unfold good okList at h
  by_cases a : t = 0
  · simp [a]
  · by_cases b : t = 192
    · simp [b]
    · by_cases c : t = 65
      · simp [c]
      · by_cases d : t = 66
        · simp [d]
        · by_cases e : t = 67
          · simp [e]
          · simp [a, b, c, d, e] at h
theorem good_zero {v : Int} (h : good 0 v = true) : v = 0 := by simpa [good, okList] using h

theorem apply_is (t v c0 : Int) (c1 : Bool) (c2 c3 c4 c5 : Int) : attr_Pair_Apply.f t v c0 c1 c2 c3 c4 c5 = some (app t v c0 c1 c2 c3 c4 c5) := by
  unfold attr_Pair_Apply.f app
  rw [check_is]
  simp only [Option.bind_some]
  by_cases hg : good t v = true
  · rw [if_pos hg, if_pos rfl, if_pos hg]
    rcases good_types hg with rfl | rfl | rfl | rfl | rfl
    · simp
    · cases c1 <;> simp
    · simp
    · simp
    · simp
  · rw [if_neg hg, if_neg (by omega), if_neg hg]


/-! ### the six bits -/
unseal wrap64 in
theorem sixes_all : ∀ n : Fin 256, addr_Six.f (wrap64 (Go.bits .and .u8 (n.val : Int) 61)) = vitrineref04_Six.f 6 (wrap64 (Go.bits .and .u8 (n.val : Int) 61)) ∧ (addr_Six.f (wrap64 (Go.bits .and .u8 (n.val : Int) 61))).map (fun s => Go.bits .and .u8 s 61) = some (Go.bits .and .u8 (n.val : Int) 61) := by decide +kernel
theorem sixes (v : Int) (h0 : 0 ≤ v) (h1 : v ≤ 255) : ∃ s, addr_Six.f (wrap64 (Go.bits .and .u8 v 61)) = some s ∧ vitrineref04_Six.f 6 (wrap64 (Go.bits .and .u8 v 61)) = some s ∧ Go.bits .and .u8 s 61 = Go.bits .and .u8 v 61 := by
  obtain ⟨n, rfl⟩ := Int.eq_ofNat_of_zero_le h0
  obtain ⟨ha, hb⟩ := sixes_all ⟨n, by omega⟩
  simp only at ha hb
  cases hs : addr_Six.f (wrap64 (Go.bits .and .u8 (n : Int) 61)) with
  | none => rw [hs] at hb; simp at hb
  | some s => rw [hs] at ha hb; exact ⟨s, rfl, ha.symm, by simpa using hb⟩

/-! ### Diff and Pairs -/
theorem refdiff_is (k : Nat) (a0 : Int) (a1 : Bool) (a2 a3 a4 a5 : Int) (b0 : Int) (b1 : Bool) (b2 b3 b4 b5 : Int) (hk : 1 ≤ k) :
    vitrineref05_Diff.f k a0 a1 a2 a3 a4 a5 b0 b1 b2 b3 b4 b5 = some ((dpart a3 a4 a5 b3 b4 b5 3).map conv) := by
  obtain ⟨k, rfl⟩ : ∃ m, k = m + 1 := ⟨k - 1, by omega⟩
  unfold vitrineref05_Diff.f vitrineref05_Diff.j0 dpart
  by_cases h3 : a3 = b3 <;> by_cases h4 : a4 = b4 <;> by_cases h5 : a5 = b5 <;> simp [h3, h4, h5, conv]
theorem lkp_dpart (a3 a4 a5 : Int) : lkp a3 a4 a5 3 = dpart 0 0 0 a3 a4 a5 3 := by
  unfold lkp lookL dpart
  have e3 : ((0 : Int) = a3) = (a3 = 0) := propext ⟨Eq.symm, Eq.symm⟩
  have e4 : ((0 : Int) = a4) = (a4 = 0) := propext ⟨Eq.symm, Eq.symm⟩
  have e5 : ((0 : Int) = a5) = (a5 = 0) := propext ⟨Eq.symm, Eq.symm⟩
  by_cases h3 : a3 = 0 <;> by_cases h4 : a4 = 0 <;> by_cases h5 : a5 = 0 <;> simp [h3, h4, h5, e3, e4, e5]
def pre (a1 : Bool) (s : Int) : List S40 := if a1 = true then [⟨192, s⟩] else []
theorem pairs_a (a0 : Int) (a1 : Bool) (a2 a3 a4 a5 s : Int) (hs : addr_Six.f (wrap64 (Go.bits .and .u8 a2 61)) = some s) :
    attr_Pairs.f a0 a1 a2 a3 a4 a5 = some (pre a1 s ++ dpart 0 0 0 a3 a4 a5 3) := by
  unfold attr_Pairs.f pre
  rw [← lkp_dpart, lkp3]
  cases a1
  · rw [if_neg (by simp), if_neg (by simp)]
  · rw [if_pos rfl, if_pos rfl, hs]; rfl
theorem u1 (dd : List S40) (hl : dd.length ≤ 3) : ((some (dd.map conv)).bind fun t166 : List S36 => (if ([] : List (S36)).length + t166.length < 70368744177664 then (some (([] : List (S36)) ++ t166)) else (none))) = some (dd.map conv) := by
  have hm : (dd.map conv).length ≤ 3 := by rw [List.length_map]; exact hl
  generalize dd.map conv = m at *
  show (if 0 + m.length < 70368744177664 then some m else none) = some m
  exact if_pos (by omega)

theorem u2 (dd : List S40) (hl : dd.length ≤ 3) (s : Int) : (if ([] : List (S36)).length < 70368744177664 then ((some (([] : List (S36)) ++ [(⟨192, s⟩ : S36)] : List (S36))).bind fun y157 => ((some (dd.map conv)).bind fun t160 : List S36 => (if y157.length + t160.length < 70368744177664 then (some (y157 ++ t160)) else (none)))) else (none)) = some ((([⟨192, s⟩] : List S40) ++ dd).map conv) := by
  have hm : (dd.map conv).length ≤ 3 := by rw [List.length_map]; exact hl
  rw [List.map_append]
  generalize dd.map conv = m at *
  show (if 0 < 70368744177664 then (if 1 + m.length < 70368744177664 then some ([(⟨192, s⟩ : S36)] ++ m) else none) else none) = some ([(⟨192, s⟩ : S36)] ++ m)
  rw [if_pos (by omega)]
  exact if_pos (by omega)
theorem pairs_t (a0 : Int) (a1 : Bool) (a2 a3 a4 a5 s : Int) (h0 : 0 ≤ a2) (h1 : a2 ≤ 255) (k : Nat) (hk : 20 ≤ k) (hq : vitrineref04_Six.f k (wrap64 (Go.bits .and .u8 a2 61)) = some s) :
    vitrineref05_Pairs.f k a0 a1 a2 a3 a4 a5 = some ((pre a1 s ++ dpart 0 0 0 a3 a4 a5 3).map conv) := by
  have hl := dpart_len 0 0 0 a3 a4 a5 3
  generalize hd : dpart 0 0 0 a3 a4 a5 3 = dd at *
  unfold vitrineref05_Pairs.f pre
  rw [refdiff_is k 0 false 0 0 0 0 a0 a1 a2 a3 a4 a5 (by omega), six_is a2 h0 h1 k (by omega), hd]
  cases a1
  · exact u1 dd hl
  · have hb : ∀ (F : Int → Option (List S36)), ((some (Go.bits .and .u8 a2 61)).bind fun t155 => (vitrineref04_Six.f k (wrap64 t155)).bind F) = F s := by intro F; rw [Option.bind_some, hq, Option.bind_some]
    rw [if_pos rfl, if_pos rfl, hb]
    exact u2 dd hl s
theorem pairs_b (a0 : Int) (a1 : Bool) (a2 a3 a4 a5 s : Int) (h0 : 0 ≤ a2) (h1 : a2 ≤ 255) (hr : vitrineref04_Six.f 6 (wrap64 (Go.bits .and .u8 a2 61)) = some s) (k : Nat) (hk : 20 ≤ k) :
    vitrineref05_Pairs.f k a0 a1 a2 a3 a4 a5 = some ((pre a1 s ++ dpart 0 0 0 a3 a4 a5 3).map conv) :=
  pairs_t a0 a1 a2 a3 a4 a5 s h0 h1 k hk (at_rounds (vitrineref04_Six.mono _) (Nat.le_trans (by decide) hk) hr)
theorem pairs_both (a0 : Int) (a1 : Bool) (a2 a3 a4 a5 : Int) (h0 : 0 ≤ a2) (h1 : a2 ≤ 255) : ∃ s, Go.bits .and .u8 s 61 = Go.bits .and .u8 a2 61 ∧
    attr_Pairs.f a0 a1 a2 a3 a4 a5 = some (pre a1 s ++ dpart 0 0 0 a3 a4 a5 3) ∧ ∀ k, 20 ≤ k → vitrineref05_Pairs.f k a0 a1 a2 a3 a4 a5 = some ((pre a1 s ++ dpart 0 0 0 a3 a4 a5 3).map conv) := by
  obtain ⟨s, hs, hr, hb⟩ := sixes a2 h0 h1
  exact ⟨s, hb, pairs_a a0 a1 a2 a3 a4 a5 s hs, pairs_b a0 a1 a2 a3 a4 a5 s h0 h1 hr⟩

/-! ### running pairs over a cell -/
def stp (p : S40) (c : Int × Bool × Int × Int × Int × Int) : Option (Int × Bool × Int × Int × Int × Int) :=
  if good p.f0 p.f1 = true then
    some (let r := app p.f0 p.f1 c.1 c.2.1 c.2.2.1 c.2.2.2.1 c.2.2.2.2.1 c.2.2.2.2.2; (r.1, r.2.1, r.2.2.1, r.2.2.2.1, r.2.2.2.2.1, r.2.2.2.2.2.1))
  else none
def run : List S40 → (Int × Bool × Int × Int × Int × Int) → Option (Int × Bool × Int × Int × Int × Int)
  | [], c => some c
  | p :: l, c => (stp p c).bind (run l)
theorem run_append (l m : List S40) (c) : run (l ++ m) c = (run l c).bind (run m) := by
  induction l generalizing c with
  | nil => rfl
  | cons p l ih => simp only [List.cons_append, run]; cases stp p c <;> simp [ih]
theorem run_dpart (a3 a4 a5 b3 b4 b5 : Int) (c0 : Int) (c1 : Bool) (c2 : Int) (c') (h : run (dpart a3 a4 a5 b3 b4 b5 3) (c0, c1, c2, a3, a4, a5) = some c') : c' = (c0, c1, c2, b3, b4, b5) := by
  unfold dpart at h
  by_cases h3 : a3 = b3 <;> by_cases h4 : a4 = b4 <;> by_cases h5 : a5 = b5 <;>
    by_cases g3 : good 65 b3 = true <;> by_cases g4 : good 66 b4 = true <;> by_cases g5 : good 67 b5 = true <;>
    simp [h3, h4, h5, g3, g4, g5, run, stp, app] at h <;> simp [← h, h3, h4, h5]
theorem run_pre (a0 : Int) (a1 : Bool) (a2 s : Int) (hb : Go.bits .and .u8 s 61 = Go.bits .and .u8 a2 61) : run (pre a1 s) (a0, a1, 0, 0, 0, 0) = some (a0, a1, if a1 = true then Go.bits .and .u8 a2 61 else 0, 0, 0, 0) := by
  unfold pre
  have hg : good 192 s = true := by simp [good]
  cases a1 <;> simp [run, stp, app, hg, hb]
end Go.Proofs.Ytfdhchgemplnoaa.MkPlain
