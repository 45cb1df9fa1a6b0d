/- option: Hear and Ask, whole. -/
import Derived.Test.YtaabojppahcejaaMd
namespace Go.Proofs.Ytaabojppahcejaa.Op
open Go.RowKit Go.Proofs.YtaabojppahcejaaW.PrintWords Go.Proofs.YtaabojppahcejaaW.PrintLast Go.Proofs.YtaabojppahcejaaW.PrintMore
set_option linter.unusedVariables false
set_option linter.unusedSimpArgs false
/-- A row of messages, at blocks of which p holds. -/
theorem R_newer {w : World} {base : Nat} {v : Value} {xs : List (Int × Int)} (h : Kd.R kM 37 w base (fun _ => True) v xs) : Kd.R kM 37 w base (fun k => base ≤ k) v xs :=
  ⟨fun k hk => Kd.R_base h k hk, h.2⟩
theorem R_any {w : World} {base : Nat} {p q : Nat → Prop} {v : Value} {xs : List (Int × Int)} (h : Kd.R kM 37 w base p v xs) (hq : ∀ k, p k → q k) : Kd.R kM 37 w base q v xs :=
  ⟨fun k hk => hq k (h.1 k hk), h.2⟩
def sideOf (v : Nat) : Nat := if v = 251 ∨ v = 252 then 1 else 0
def hres (S : Nat → Nat → Int) (A : Nat → Nat → Bool) (v n : Nat) : Int × Int :=
  if v = 251 then hOn (S 1 n) (A 1 n) else if v = 252 then hOff (S 1 n) else if v = 253 then hOn (S 0 n) (A 0 n) else hOff (S 0 n)
theorem hear_of (g v n : Nat) (hv : v = 251 ∨ v = 252 ∨ v = 253 ∨ v = 254) (hn : n < 256) (S : Nat → Nat → Int) (A : Nat → Nat → Bool) (w : World) (h : MIs w g S A) :
    Calls Try.prog 11 #[.pointer (some ⟨g, 0, none⟩), .int .u8 (v : Int), .int .u8 (n : Int)] w fun e w' => ∃ u, e = .returned (.tuple #[u, .int .i64 0]) ∧ Kd.R kM 37 w' w.heap.size (fun k => w.heap.size ≤ k) u (say (sideOf v) (hres S A v n).2 n) ∧ MIs w' g (put S (sideOf v) n (hres S A v n).1) A ∧ KeepBut w w' g none ∧ Below g w w' := by
  rcases hv with rfl | rfl | rfl | rfl
  · exact (hear_will g n hn S A w h).mono fun e w' ⟨u, he, hr, hm, hk⟩ => ⟨u, he, R_newer hr, hm, hk⟩
  · exact (hear_wont g n hn S A w h).mono fun e w' ⟨u, he, hr, hm, hk⟩ => ⟨u, he, R_newer hr, hm, hk⟩
  · exact (hear_do g n hn S A w h).mono fun e w' ⟨u, he, hr, hm, hk⟩ => ⟨u, he, R_newer hr, hm, hk⟩
  · exact (hear_dont g n hn S A w h).mono fun e w' ⟨u, he, hr, hm, hk⟩ => ⟨u, he, R_newer hr, hm, hk⟩
set_option maxHeartbeats 4000000 in
theorem hear_bad (p : Addr) (v : Int) (n : Int) (h0 : v ≠ 251) (h1 : v ≠ 252) (h2 : v ≠ 253) (h3 : v ≠ 254) (w : World) :
    Calls Try.prog 11 #[.pointer (some p), .int .u8 v, .int .u8 n] w fun e w' => e = .returned (.tuple #[.slice none 0 0, .int .i64 1]) ∧ w' = w := by
  have e0 : (v == 251) = false := by simpa using h0
  have e1 : (v == 252) = false := by simpa using h1
  have e2 : (v == 253) = false := by simpa using h2
  have e3 : (v == 254) = false := by simpa using h3
  clear h0 h1 h2 h3
  go_enter Try.func11, Try.ntmps11
  go_wp2
  go_ret2
  exact ⟨rfl, rfl⟩
theorem hear_nil (v n : Int) (w : World) :
    Calls Try.prog 11 #[.pointer none, .int .u8 v, .int .u8 n] w fun e w' => e = .returned (.tuple #[.slice none 0 0, .int .i64 5]) ∧ w' = w := by
  go_enter Try.func11, Try.ntmps11
  go_wp2
  go_ret2
  exact ⟨rfl, rfl⟩
theorem ask_nil (i n : Int) (t : Bool) (w : World) :
    Calls Try.prog 14 #[.pointer none, .int .i64 i, .int .u8 n, .bool t] w fun e w' => e = .returned (.tuple #[.slice none 0 0, .int .i64 5]) ∧ w' = w := by
  go_enter Try.func14, Try.ntmps14
  go_wp2
  go_ret2
  exact ⟨rfl, rfl⟩
theorem ask_bad (p : Addr) (i n : Int) (t : Bool) (h0 : i ≠ 0) (h1 : i ≠ 1) (w : World) :
    Calls Try.prog 14 #[.pointer (some p), .int .i64 i, .int .u8 n, .bool t] w fun e w' => e = .returned (.tuple #[.slice none 0 0, .int .i64 1]) ∧ w' = w := by
  have e0 : (i != 0) = true := by simpa using h0
  have e1 : (i != 1) = true := by simpa using h1
  clear h0 h1
  go_enter Try.func14, Try.ntmps14
  go_wp2
  go_ret2
  exact ⟨rfl, rfl⟩
def ares (S : Nat → Nat → Int) (t : Bool) (i n : Nat) : Int × Int × Bool := if t = true then aOn (S i n) else aOff (S i n)
theorem ask_of (g i n : Nat) (t : Bool) (hi : i < 2) (hn : n < 256) (S : Nat → Nat → Int) (A : Nat → Nat → Bool) (w : World) (h : MIs w g S A) :
    Calls Try.prog 14 #[.pointer (some ⟨g, 0, none⟩), .int .i64 (i : Int), .int .u8 (n : Int), .bool t] w fun e w' => ∃ u, e = .returned (.tuple #[u, .int .i64 (if (ares S t i n).2.2 = true then 0 else 6)]) ∧ Kd.R kM 37 w' w.heap.size (fun k => w.heap.size ≤ k) u (say i (ares S t i n).2.1 n) ∧ MIs w' g (put S i n (ares S t i n).1) A ∧ KeepBut w w' g none ∧ Below g w w' := by
  match i, hi, t with
  | 0, _, true => exact (ask_on0 g n hn S A w h).mono fun e w' ⟨u, he, hr, hm, hk⟩ => ⟨u, he, R_newer hr, hm, hk⟩
  | 1, _, true => exact (ask_on1 g n hn S A w h).mono fun e w' ⟨u, he, hr, hm, hk⟩ => ⟨u, he, R_newer hr, hm, hk⟩
  | 0, _, false => exact (ask_off0 g n hn S A w h).mono fun e w' ⟨u, he, hr, hm, hk⟩ => ⟨u, he, R_newer hr, hm, hk⟩
  | 1, _, false => exact (ask_off1 g n hn S A w h).mono fun e w' ⟨u, he, hr, hm, hk⟩ => ⟨u, he, R_newer hr, hm, hk⟩
theorem state_nil (i n : Int) (w : World) : Calls Try.prog 19 #[.pointer none, .int .i64 i, .int .u8 n] w fun e w' => e = .returned (.int .i64 0) ∧ w' = w := by
  go_enter Try.func19, Try.ntmps19
  go_wp2
  go_ret
  exact ⟨rfl, rfl⟩
theorem state_bad (p : Addr) (i n : Int) (h0 : i ≠ 0) (h1 : i ≠ 1) (w : World) : Calls Try.prog 19 #[.pointer (some p), .int .i64 i, .int .u8 n] w fun e w' => e = .returned (.int .i64 0) ∧ w' = w := by
  have e0 : (i != 0) = true := by simpa using h0
  have e1 : (i != 1) = true := by simpa using h1
  clear h0 h1
  go_enter Try.func19, Try.ntmps19
  go_wp2
  go_ret
  exact ⟨rfl, rfl⟩
end Go.Proofs.Ytaabojppahcejaa.Op
