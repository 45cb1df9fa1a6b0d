/- order.scanner: addr, character, pair, pairs. -/
import Derived.Test.YtmejmlohinjpdaaSb
namespace Go.Proofs.Ytmejmlohinjpdaa.Sc
open Go.RowKit Go.Proofs.YtmejmlohinjpdaaW.PrintWords Go.Proofs.YtmejmlohinjpdaaW.PrintLast Go.Proofs.YtmejmlohinjpdaaW.PrintMore Go.Proofs.Ytmejmlohinjpdaa.POr
set_option linter.unusedVariables false
set_option linter.unusedSimpArgs false
/-- What a function with rounds answers. -/
noncomputable def val {α : Type} (g : Nat → Option α) (d : α) : α := open Classical in if h : ∃ r k, g k = some r then h.choose else d
theorem val_is {α : Type} {g : Nat → Option α} (hg : ∀ k, LeO (g k) (g (k + 1))) (d : α) {k : Nat} {r : α} (h : g k = some r) : val g d = r := by
  have he : ∃ r k, g k = some r := ⟨r, k, h⟩
  unfold val
  rw [dif_pos he]
  obtain ⟨k', h'⟩ := he.choose_spec
  have h1 := at_rounds hg (Nat.le_max_left k k') h
  have h2 := at_rounds hg (Nat.le_max_right k k') h'
  rw [h1] at h2
  exact (Option.some.inj h2).symm
noncomputable def dec (q : List Int) : Int × Int := val (fun k => addr_Decode.f k 12 q) (0, 0)
theorem zone_ok (i : Int) : ∃ r, addr_zone.f i = some r := by
  unfold addr_zone.f
  repeat' split
  all_goals exact ⟨_, rfl⟩
theorem six_ok (i : Int) : ∃ r, addr_Six.f i = some r := by
  unfold addr_Six.f
  obtain ⟨z, hz⟩ := zone_ok (Go.bits .and .i64 i 63)
  rw [hz, Option.bind_some]
  repeat' split
  all_goals exact ⟨_, rfl⟩
theorem unsix_l0 (b : Int) : ∀ (d k i : Nat), 64 - i ≤ d → i ≤ 64 → d < k → ∃ r, addr_Unsix.l0 k b (i : Int) = some r := by
  intro d
  induction d with
  | zero =>
    intro k i h1 h2 h3
    obtain ⟨k, rfl⟩ : ∃ m, k = m + 1 := ⟨k - 1, by omega⟩
    simp only [addr_Unsix.l0]
    rw [if_neg (by omega)]
    exact ⟨_, rfl⟩
  | succ d ih =>
    intro k i h1 h2 h3
    obtain ⟨k, rfl⟩ : ∃ m, k = m + 1 := ⟨k - 1, by omega⟩
    simp only [addr_Unsix.l0]
    by_cases c : i < 64
    · rw [if_pos (by omega)]
      obtain ⟨s, hs⟩ := six_ok (i : Int)
      rw [hs, Option.bind_some]
      split
      · exact ⟨_, rfl⟩
      · rw [wrap_in _ (by omega) (by omega)]
        exact ih k (i + 1) (by omega) (by omega) (by omega)
    · rw [if_neg (by omega)]
      exact ⟨_, rfl⟩
theorem unsix_ok (b : Int) (k : Nat) (hk : 64 < k) : ∃ r, addr_Unsix.f k b = some r := unsix_l0 b 64 k 0 (by omega) (by omega) hk
theorem dec_some (q : List Int) (hl : q.length = 2) : ∃ k r, addr_Decode.f k 12 q = some r := by
  refine ⟨70, ?_⟩
  unfold addr_Decode.f
  rw [if_pos rfl]
  generalize hk : 69 = k
  have h70 : (70 : Nat) = k + 1 := by omega
  rw [h70]
  simp only [addr_Decode.j0]
  rw [if_neg (by simp), if_neg (by omega), if_pos (by omega), if_pos (by omega), if_neg (by decide)]
  obtain ⟨k', rfl⟩ : ∃ m, k = m + 1 := ⟨k - 1, by omega⟩
  simp only [addr_Decode.j1]
  obtain ⟨r0, e0⟩ := unsix_ok (rd q 0) k' (by omega)
  obtain ⟨r1, e1⟩ := unsix_ok (rd q 1) k' (by omega)
  rw [e0, e1]
  simp only [Option.bind_some]
  repeat' split
  all_goals first | exact ⟨_, rfl⟩ | (exfalso; omega)
theorem dec_ok (q : List Int) (hl : q.length = 2) : ∃ k, addr_Decode.f k 12 q = some (dec q) := by
  obtain ⟨k, r, h⟩ := dec_some q hl
  exact ⟨k, by unfold dec; rw [val_is (fun k => addr_Decode.mono 12 q k) (0, 0) h]; exact h⟩
theorem decode_of (A : Option Addr) (q : List Int) (hl : q.length = 2) (w : World) (h : Kd.C (Kd.int .u8) w A 2 q) :
    Calls Try.prog 25 #[.int .i64 12, .slice A 2 2] w fun e w' => e = .returned (.tuple #[.int .i64 (dec q).1, .int .i64 (dec q).2]) ∧ ∃ m, w' = w.drewN m := by
  obtain ⟨k, hk⟩ := dec_ok q hl
  have := addr_Decode.calls k 12 A 2 q (dec q).1 (dec q).2 w (by rw [hl]; exact h) (by omega) hk
  rw [hl] at this
  exact this.mono fun e w' ⟨he, hd⟩ => ⟨he, hd.out⟩
/-- The error that the scanner holds. -/
theorem SS.code {w0 W : World} {g : Nat} {p : List Int} {code : Int} (h : SS w0 W g p code) : W.cell? ⟨g, 1, none⟩ = some (.int .i64 code) := by
  obtain ⟨A, c, hb, _⟩ := h; exact blk_cell hb 1
/-- What addr answers, what is left, and the error (there was none). -/
noncomputable def addrF (p : List Int) : Int × List Int × Int := if p.length < 2 then (0, [], 2) else ((dec (p.take 2)).1, p.drop 2, (dec (p.take 2)).2)
set_option maxHeartbeats 4000000 in
theorem addr_of (g : Nat) (p : List Int) (w0 w : World) (hI : SS w0 w g p 0) (hB : Below w0.heap.size w0 w) :
    Calls Try.prog 19 #[.pointer (some ⟨g, 0, none⟩)] w fun e w' => e = .returned (.int .i64 (addrF p).1) ∧ SS w0 w' g (addrF p).2.1 (addrF p).2.2 ∧ Below w0.heap.size w0 w' ∧ KeepBut w w' g none := by
  by_cases hp : p.length < 2
  · have hf : addrF p = (0, [], 2) := by unfold addrF; rw [if_pos hp]
    rw [hf]
    dsimp only
    clear hf
    go_enter Try.func19, Try.ntmps19
    go_wp2_with fail
    refine (take_short2 g p 0 hp w0 w hI hB).mono ?_
    rintro e w1 ⟨A, rfl, hC, hs, hb, hk⟩
    have z1 : w1.cell? ⟨g, 1, none⟩ = some (.int .i64 2) := hs.code
    go_wp2
    go_ret
    exact ⟨rfl, hs, hb, hk⟩
  · have hf : addrF p = ((dec (p.take 2)).1, p.drop 2, (dec (p.take 2)).2) := by unfold addrF; rw [if_neg hp]
    rw [hf]
    dsimp only
    clear hf
    have T := take_ok g 2 p 0 (by omega) w0 w hI hB
    have hl : (p.take 2).length = 2 := by rw [List.length_take]; omega
    have D := fun (A : Option Addr) (W : World) (h : Kd.C (Kd.int .u8) W A 2 (p.take 2)) => decode_of A (p.take 2) hl W h
    have HD := Aside0.mk D
    clear D hl
    generalize (dec (p.take 2)).1 = r1 at *
    generalize (dec (p.take 2)).2 = r2 at *
    go_enter Try.func19, Try.ntmps19
    go_wp2_with fail
    refine T.mono ?_
    clear T
    rintro e w1 ⟨A, rfl, hC, hs, hb, hk⟩
    have z1 : w1.cell? ⟨g, 1, none⟩ = some (.int .i64 0) := hs.code
    have HS := Aside0.mk hs
    have HBb := Aside0.mk hb
    have HK := Aside0.mk hk
    have HC := Aside0.mk (Kd.C_below hC hb)
    clear hs hb hk hC
    go_wp2_with fail
    refine (HD.out A w1 HC.out).mono ?_
    rintro e w2 ⟨rfl, m, rfl⟩
    by_cases c : r2 = 0
    · subst c
      clear z1
      go_wp2
      go_ret
      exact ⟨rfl, HS.out.drN m, pw_below_drewN HBb.out m, HK.out.trans (KeepBut.of_drewN w1 g m) (.inl rfl)⟩
    · have cb : (r2 != 0) = true := by simpa using c
      have hf : failF 0 r2 = r2 := rfl
      have HF := Aside0.mk hf
      clear c hf z1
      go_wp2_with fail
      refine (fail_of g _ 0 r2 w0 _ (HS.out.drN m) (pw_below_drewN HBb.out m)).mono ?_
      rintro e w3 ⟨rfl, hs, hb, hk⟩
      rw [HF.out] at hs
      go_wp2
      go_ret
      exact ⟨rfl, hs, hb, (HK.out.trans (KeepBut.of_drewN w1 g m) (.inl rfl)).trans hk (.inl rfl)⟩
/-- What character answers, what is left, and the error. -/
def charF (p : List Int) (code : Int) : Int × List Int × Int := match p with
  | [] => (0, [], failF code 2)
  | b :: r => (b, r, if isO b = true then failF code 10 else code)
theorem C_head {w : World} {A : Option Addr} {b : Int} (h : Kd.C (Kd.int .u8) w A 1 [b]) : ∃ ad, A = some ad ∧ w.cell? ad = some (.int .u8 b) := by
  obtain ⟨ad, e, hc⟩ := Kd.at_int h 0 (by omega) (by omega)
  exact ⟨ad, e, by have h0 : (ad.add (0 : Int).toNat) = ad := by unfold Addr.add; simp
                   rw [h0] at hc; exact hc⟩
set_option maxHeartbeats 4000000 in
theorem char_of (g : Nat) (p : List Int) (code : Int) (hp : Bytes p) (w0 w : World) (hI : SS w0 w g p code) (hB : Below w0.heap.size w0 w) :
    Calls Try.prog 20 #[.pointer (some ⟨g, 0, none⟩)] w fun e w' => e = .returned (.int .u8 (charF p code).1) ∧ SS w0 w' g (charF p code).2.1 (charF p code).2.2 ∧ Below w0.heap.size w0 w' ∧ KeepBut w w' g none := by
  cases p with
  | nil =>
    have C := fun W => is_of 0 (by omega) (by omega) W
    simp only [show isO 0 = false from rfl] at C
    have HC := Aside0.mk C
    clear C
    show Calls Try.prog 20 #[.pointer (some ⟨g, 0, none⟩)] w fun e w' => e = .returned (.int .u8 0) ∧ SS w0 w' g [] (failF code 2) ∧ Below w0.heap.size w0 w' ∧ KeepBut w w' g none
    go_enter Try.func20, Try.ntmps20
    go_wp2_with fail
    refine (take_short1 g code w0 w hI hB).mono ?_
    rintro e w1 ⟨A, rfl, hC, hs, hb, hk⟩
    obtain ⟨ad, rfl, hx⟩ := C_head hC
    have HS := Aside0.mk hs
    clear hs hC
    go_wp2_with (first | (go_at_call 8; refine (HC.out _).mono ?_; rintro e w2 ⟨rfl, m2, rfl⟩))
    go_ret
    exact ⟨rfl, HS.out.drN m2, pw_below_drewN hb m2, hk.trans (KeepBut.of_drewN w1 g m2) (.inl rfl)⟩
  | cons b r =>
    have hbyte := hp b (by simp)
    have C := fun W => is_of b hbyte.1 hbyte.2 W
    have T := take_ok g 1 (b :: r) code (by simp) w0 w hI hB
    have HT := Aside0.mk T
    clear T
    cases hio : isO b with
    | false =>
      simp only [hio] at C
      have HC := Aside0.mk C
      have e1 : charF (b :: r) code = (b, r, code) := by simp [charF, hio]
      rw [e1]
      dsimp only
      clear C hio e1
      go_enter Try.func20, Try.ntmps20
      go_wp2_with fail
      refine HT.out.mono ?_
      rintro e w1 ⟨A, rfl, hC, hs, hb, hk⟩
      obtain ⟨ad, rfl, hx⟩ := C_head (Kd.C_below hC hb)
      have HS := Aside0.mk hs
      clear hs hC
      go_wp2_with (first | (go_at_call 8; refine (HC.out _).mono ?_; rintro e w2 ⟨rfl, m2, rfl⟩))
      go_ret
      exact ⟨rfl, HS.out.drN m2, pw_below_drewN hb m2, hk.trans (KeepBut.of_drewN w1 g m2) (.inl rfl)⟩
    | true =>
      simp only [hio] at C
      have HC := Aside0.mk C
      have e1 : charF (b :: r) code = (b, r, failF code 10) := by simp [charF, hio]
      rw [e1]
      dsimp only
      clear C hio e1
      go_enter Try.func20, Try.ntmps20
      go_wp2_with fail
      refine HT.out.mono ?_
      rintro e w1 ⟨A, rfl, hC, hs, hb, hk⟩
      obtain ⟨ad, rfl, hx⟩ := C_head (Kd.C_below hC hb)
      have HS := Aside0.mk hs
      have HBb := Aside0.mk hb
      have HK := Aside0.mk hk
      clear hs hC hb hk
      go_wp2_with (first | (go_at_call 8; refine (HC.out _).mono ?_; rintro e w2 ⟨rfl, m2, rfl⟩))
      refine (fail_of g _ code 10 w0 _ (HS.out.drN _) (pw_below_drewN HBb.out _)).mono ?_
      rintro e w3 ⟨rfl, hs, hb, hk⟩
      go_wp2
      go_ret
      exact ⟨rfl, hs, hb, (HK.out.trans (KeepBut.of_drewN w1 g _) (.inl rfl)).trans hk (.inl rfl)⟩
end Go.Proofs.Ytmejmlohinjpdaa.Sc
