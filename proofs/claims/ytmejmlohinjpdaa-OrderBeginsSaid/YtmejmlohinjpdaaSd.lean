/- order.scanner: pair, pairs. -/
import Derived.Test.YtmejmlohinjpdaaSc
import Derived.RegionTactic
import Derived.ChangeAlike
namespace Go.Proofs.Ytmejmlohinjpdaa.Sc
open Go.RowKit Go.Proofs.YtmejmlohinjpdaaW.PrintWords Go.Proofs.YtmejmlohinjpdaaW.PrintLast Go.Proofs.YtmejmlohinjpdaaW.PrintMore Go.Proofs.Ytmejmlohinjpdaa.POr
set_option linter.unusedVariables false
set_option linter.unusedSimpArgs false
def chk (a b : Int) : Int := (attr_Pair_Check.f a b).getD 0
theorem chk_ok (a b : Int) : attr_Pair_Check.f a b = some (chk a b) := by
  have : ∃ r, attr_Pair_Check.f a b = some r := by
    unfold attr_Pair_Check.f
    repeat' split
    all_goals exact ⟨_, rfl⟩
  obtain ⟨r, hr⟩ := this
  unfold chk
  rw [hr]; rfl
theorem check_of (a b : Int) (w : World) : Calls Try.prog 26 #[.agg #[.int .u8 a, .int .u8 b]] w fun e w' => e = .returned (.int .i64 (chk a b)) ∧ Below w.heap.size w w' :=
  attr_Pair_Check.calls a b _ w (chk_ok a b)
theorem C_two {w : World} {A : Option Addr} {a b : Int} (h : Kd.C (Kd.int .u8) w A 2 [a, b]) : ∃ ad, A = some ad ∧ w.cell? ad = some (.int .u8 a) ∧ w.cell? ⟨ad.block, ad.off + 1, none⟩ = some (.int .u8 b) := by
  obtain ⟨ad, e, hc⟩ := Kd.at_int h 0 (by omega) (by omega)
  obtain ⟨ad', e', hc'⟩ := Kd.at_int h 1 (by omega) (by omega)
  rw [e] at e'
  obtain rfl := Option.some.inj e'
  have h0 : (ad.add (0 : Int).toNat) = ad := by unfold Addr.add; simp
  rw [h0] at hc
  have h1 : (ad.add (1 : Int).toNat) = ⟨ad.block, ad.off + 1, none⟩ := by unfold Addr.add; simp
  rw [h1] at hc'
  exact ⟨ad, e, hc, hc'⟩
theorem R_pair (W : World) (base : Nat) (hb : base ≤ W.heap.size) (a b : Int) : Kd.R k50 50 (W.alloc (.cells #[.int .u8 a, .int .u8 b] 50)) base (fun _ => True) (.slice (some ⟨W.heap.size, 0, none⟩) 1 1) [⟨a, b⟩] := by
  refine ⟨fun _ _ => trivial, [.int .u8 a, .int .u8 b], ?_, ?_⟩
  · exact World.ownsRow_lit (base := base) (e := 50) (size := 2) W #[.int .u8 a, .int .u8 b] 1 hb (by decide) rfl
  · exact Reps.snoc (ps := []) (cs := []) (Reps.none _ _) (k50_mkM _ _ _ ⟨a, b⟩) rfl
/-- What pair answers, what is left, and the error (there was none). -/
def pairF (p : List Int) : S50 × List Int × Int := match p with
  | a :: b :: r => (⟨a, b⟩, r, chk a b)
  | _ => (⟨0, 0⟩, [], 2)
set_option maxHeartbeats 4000000 in
theorem pair_tail (g : Nat) (p : List Int) (a b code : Int) (w0 w : World) (T : Calls Try.prog 18 #[.pointer (some ⟨g, 0, none⟩), .int .i64 2] w fun r w' => ∃ A, r = .returned (.slice A 2 2) ∧ Kd.C (Kd.int .u8) w' A 2 [a, b] ∧ SS w0 w' g p code ∧ Below w0.heap.size w0 w' ∧ KeepBut w w' g none)
    (hg : w0.heap.size ≤ g) (hlt : g < w.heap.size) (hc : chk a b ≠ 0 → code = 0) (cd : Int) (hd0 : chk a b = 0 → cd = code) (hd1 : chk a b ≠ 0 → cd = chk a b) :
    Calls Try.prog 21 #[.pointer (some ⟨g, 0, none⟩)] w fun e w' => ∃ v, e = .returned v ∧ Kd.R k50 50 w' w.heap.size (fun _ => True) v [⟨a, b⟩] ∧ SS w0 w' g p cd ∧ Below w0.heap.size w0 w' ∧ KeepBut w w' g none := by
  have HC0 := Aside0.mk hc
  have CK := fun W => check_of a b W
  have HCK := Aside0.mk CK
  have HD0 := Aside0.mk hd0
  have HD1 := Aside0.mk hd1
  clear hc CK hd0 hd1
  generalize chk a b = e0 at *
  have HT := Aside0.mk T
  clear T
  go_enter Try.func21, Try.ntmps21
  go_wp2_with fail
  refine HT.out.mono ?_
  rintro e w1 ⟨A, rfl, hC, hs, hb, hk⟩
  obtain ⟨ad, rfl, x0, x1⟩ := C_two hC
  have HS := Aside0.mk hs
  have HBb := Aside0.mk hb
  have HK := Aside0.mk hk
  have hg1 := hs.lt
  have hw1 := hk.1
  clear hs hb hk hC
  have y0 := cell_al (.cells #[.int .u8 0, .int .u8 0] 50) x0
  have y1 := cell_al (.cells #[.int .u8 0, .int .u8 0] 50) x1
  go_wp2
  go_region
  all_goals go_wp2_with fail
  refine (HCK.out _).mono ?_
  rintro e w2 ⟨rfl, hb2⟩
  have BX := Aside0.mk (blk_below (blk_drew (blk_new w1 (.cells #[.int .u8 a, .int .u8 b] 50))) hb2)
  have z0 := blk_cell BX.out 0
  have z1 := blk_cell BX.out 1
  have HS2 := Aside0.mk (((HS.out.al (.cells #[.int .u8 a, .int .u8 b] 50)).dr1).below hb2)
  have HB2 := Aside0.mk (below_step (below_drew (below_alloc HBb.out (.cells #[.int .u8 a, .int .u8 b] 50))) hb2)
  have HK2 := Aside0.mk (HK.out.trans (KeepBut.of_below (below_step (below_drew (below_alloc (Below.refl w1.heap.size w1) (.cells #[.int .u8 a, .int .u8 b] 50))) hb2) g none) (.inl rfl))
  have hne : w1.heap.size ≠ g := by omega
  clear HS HBb HK hb2 x0 x1 y0 y1
  by_cases c : e0 = 0
  · subst c
    obtain rfl := HD0.out rfl
    go_wp2
    go_ret
    exact ⟨_, rfl, R_pair _ _ HK2.out.1 _ _, HS2.out.al _, below_alloc HB2.out _, HK2.out.trans (KeepBut.of_below (below_alloc (Below.refl _ _) _) g none) (.inl rfl)⟩
  · obtain rfl := HC0.out c
    have hcd := (HD1.out c).symm
    subst hcd
    have cb : (e0 != 0) = true := by simpa using c
    have HF := Aside0.mk (show failF 0 e0 = e0 from rfl)
    clear c HC0
    go_wp2_with fail
    refine (fail_of g _ 0 e0 w0 _ HS2.out HB2.out).mono ?_
    rintro e w3 ⟨rfl, hs, hb, hk⟩
    rw [HF.out] at hs
    have v0 := keep_cell hk z0 hne
    have v1 := keep_cell hk z1 hne
    have HS3 := Aside0.mk hs
    have HK3 := Aside0.mk (HK2.out.trans hk (.inl rfl))
    clear hs hk z0 z1
    go_wp2
    go_ret
    exact ⟨_, rfl, R_pair _ _ HK3.out.1 _ _, HS3.out.al _, below_alloc hb _, HK3.out.trans (KeepBut.of_below (below_alloc (Below.refl _ _) _) g none) (.inl rfl)⟩
theorem pair_of (g : Nat) (p : List Int) (w0 w : World) (hI : SS w0 w g p 0) (hB : Below w0.heap.size w0 w) :
    Calls Try.prog 21 #[.pointer (some ⟨g, 0, none⟩)] w fun e w' => ∃ v, e = .returned v ∧ Kd.R k50 50 w' w.heap.size (fun _ => True) v [(pairF p).1] ∧ SS w0 w' g (pairF p).2.1 (pairF p).2.2 ∧ Below w0.heap.size w0 w' ∧ KeepBut w w' g none := by
  have hlt := hI.lt
  have hg : w0.heap.size ≤ g := by obtain ⟨A, c, _, h1, _⟩ := hI; exact h1
  have Z : p.length < 2 → pairF p = (⟨0, 0⟩, [], 2) → Calls Try.prog 21 #[.pointer (some ⟨g, 0, none⟩)] w fun e w' => ∃ v, e = .returned v ∧ Kd.R k50 50 w' w.heap.size (fun _ => True) v [(pairF p).1] ∧ SS w0 w' g (pairF p).2.1 (pairF p).2.2 ∧ Below w0.heap.size w0 w' ∧ KeepBut w w' g none := by
    intro hp hf
    rw [hf]
    have T := take_short2 g p 0 hp w0 w hI hB
    have := pair_tail g [] 0 0 2 w0 w T hg hlt (fun h => absurd (show chk 0 0 = 0 by decide +kernel) h) 2 (fun _ => rfl) (fun h => absurd (show chk 0 0 = 0 by decide +kernel) h)
    exact this
  match p, hI, Z with
  | [], _, Z => exact Z (by simp) rfl
  | [a], _, Z => exact Z (by simp) rfl
  | a :: b :: r, hI, _ =>
    have T := (take_ok g 2 (a :: b :: r) 0 (by simp) w0 w hI hB).mono fun (e : Ending) w' ⟨A, he, hC, hs, hb, hk⟩ => (⟨A, he, Kd.C_below hC hb, hs, hb, hk⟩ : ∃ A, e = Ending.returned (.slice A 2 2) ∧ Kd.C (Kd.int .u8) w' A 2 [a, b] ∧ SS w0 w' g r 0 ∧ Below w0.heap.size w0 w' ∧ KeepBut w w' g none)
    exact pair_tail g r a b 0 w0 w T hg hlt (fun _ => rfl) (chk a b) (fun h => h) (fun _ => rfl)
end Go.Proofs.Ytmejmlohinjpdaa.Sc
