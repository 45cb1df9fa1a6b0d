-- Written by a program of this session (a changed copy of the kit's print program): not the kit's print.
import Derived.Test.YtddfgfgjkamccaaProg
import Derived.Below
import Derived.Deep.Draws
import Derived.Deep.AppendLies
import Derived.Maps.AppendAt
import Derived.OwnWalk
import Derived.Laws.BytesArg
import Derived.Laws.MakeOwn
import Derived.Laws.OwnMore
import Derived.Deep.OwnRows
import Derived.Tactics
import Derived.Lib.ConvBytes
import Derived.Laws.Slices
import Derived.WalkKit
import Derived.KernelRfl
import Derived.RowKit3
import Derived.Deep.LoopGhost
import Derived.Deep.QuietTactic
import Derived.BigQuiet
import Derived.WideLaws
import Derived.Deep.DeepCutAuto
import Derived.Deep.CutBlock
import Derived.Deep.RegionHeld3
import Derived.Laws.Rows
import Derived.Lib.AppendStr
import Derived.ArgAppend
import Derived.Laws.IdiomCopy
import Derived.OrdersHeld
import Derived.Laws.BitsLemmas
import Derived.RowKit
import Derived.Test.YtddfgfgjkamccaaWWords
import Derived.Test.YtddfgfgjkamccaaWLast
import Derived.Test.YtddfgfgjkamccaaWTab
import Derived.Test.YtddfgfgjkamccaaWFour
import Derived.Test.YtddfgfgjkamccaaWQPut
import Derived.Test.YtddfgfgjkamccaaWApart
import Derived.Test.YtddfgfgjkamccaaWArr
import Derived.Test.YtddfgfgjkamccaaWZeros
import Derived.Test.YtddfgfgjkamccaaWFoot
import Derived.Test.YtddfgfgjkamccaaWKept
import Derived.Test.YtddfgfgjkamccaaWShare
import Derived.Test.YtddfgfgjkamccaaWN
import Derived.Test.YtddfgfgjkamccaaWFootNe
import Derived.Test.YtddfgfgjkamccaaWAt
import Derived.Test.YtddfgfgjkamccaaWEqStruct
import Derived.Test.YtddfgfgjkamccaaWRepsOne
import Derived.Test.YtddfgfgjkamccaaWInv
import Derived.Test.YtddfgfgjkamccaaWInvWords
import Derived.Test.YtddfgfgjkamccaaWGuard
import Derived.Test.YtddfgfgjkamccaaWNEv
import Derived.Test.YtddfgfgjkamccaaWMore
namespace Go.Proofs.Ytddfgfgjkamccaa.PTe
open Go.RowKit Go.Proofs.YtddfgfgjkamccaaW.PrintWords Go.Proofs.YtddfgfgjkamccaaW.PrintLast Go.Proofs.YtddfgfgjkamccaaW.PrintMore
attribute [local go_sem] max2_int min2_int max_two min_two max_three min_three max_four min_four   -- for this text's walks alone
set_option linter.unusedVariables false
set_option linter.unusedSimpArgs false



def errW : Option Int → Value
  | none => .nilIface
  | some c => .iface 0 (.int .i64 c)
theorem errW_none : errW none = .nilIface := rfl
theorem errW_some (c : Int) : errW (some c) = .iface 0 (.int .i64 c) := rfl

theorem info5 : (Try.prog.info? 5).map (fun i => (i.zero, i.size, i.bytes)) = some (some (.int .u8 0), 1, 1) := by kernel_rfl
theorem info35 : (Try.prog.info? 35).map (fun i => (i.zero, i.size, i.bytes)) = some (some (.agg #[(.int .i64 0), (.int .u8 0), (.int .u8 0), (.slice none 0 0), (.bool false), (.bool false)]), 6, 48) := by kernel_rfl
-- the values' own types
def rd_L2 (xs : List (List Int)) (i : Int) : (List Int) := xs.getD i.toNat ([] : List Int)
theorem at_L2 {w : World} {A : Option Addr} {n : Nat} {xs : List (List Int)} (h : Kd.C (Kd.slice 5 (Kd.int .u8)) w A n xs) (i : Int) (h0 : 0 ≤ i) (h1 : i < n) : ∃ ad A0 c0, A = some ad ∧ w.cell? (ad.add i.toNat) = some (.slice A0 (rd_L2 xs i).length c0) ∧ (rd_L2 xs i).length ≤ c0 ∧ (Kd.int .u8).C w A0 (rd_L2 xs i).length (rd_L2 xs i) := by
  obtain ⟨ad, c, e, _, hK, hc0⟩ := Kd.C_get h ([] : List Int) i h0 h1
  have hc : ∀ j u, c[j]? = some u → w.cell? (ad.add (i.toNat * 1 + j)) = some u := hc0
  obtain ⟨A0, c0, rfl, l0, g0⟩ := hK
  exact ⟨ad, A0, c0, e, by have hq := hc 0 _ rfl; rwa [Nat.mul_one, Nat.add_zero] at hq, l0, g0⟩

/-! #### struct type 36 -/
structure S36 where
  f0 : Int
  f1 : Int
  f2 : Int
  f3 : (List Int)
  f4 : Bool
  f5 : Bool
def z36 : S36 := ⟨(0 : Int), (0 : Int), (0 : Int), ([] : List Int), false, false⟩
def k36 : Kd S36 := Kd.iso (Kd.pair (Kd.int .i64) (Kd.pair (Kd.int .u8) (Kd.pair (Kd.int .u8) (Kd.pair (Kd.slice 5 (Kd.int .u8)) (Kd.pair Kd.bool Kd.bool))))) (fun x : S36 => (x.f0, x.f1, x.f2, x.f3, x.f4, x.f5))
theorem k36_open {w : World} {x : S36} {cs : List Value} (h : k36.K w x cs) : ∃ A3 c3, cs = [.int .i64 x.f0, .int .u8 x.f1, .int .u8 x.f2, .slice A3 x.f3.length c3, .bool x.f4, .bool x.f5] ∧ x.f3.length ≤ c3 ∧ (Kd.int .u8).C w A3 x.f3.length x.f3 := by
  obtain ⟨_, _, rfl, rfl, ⟨_, _, rfl, rfl, ⟨_, _, rfl, rfl, ⟨_, _, rfl, ⟨A3, c3, rfl, l3, g3⟩, ⟨_, _, rfl, rfl, rfl⟩⟩⟩⟩⟩ := h
  exact ⟨A3, c3, rfl, l3, g3⟩
theorem k36_openM {w : World} {base : Nat} {ok : Nat → Prop} {x : S36} {cs : List Value} (h : k36.M w base ok x cs) : ∃ v3, cs = [.int .i64 x.f0, .int .u8 x.f1, .int .u8 x.f2, v3, .bool x.f4, .bool x.f5] ∧ (Kd.int .u8).R 5 w base ok v3 x.f3 := by
  obtain ⟨_, _, rfl, rfl, ⟨_, _, rfl, rfl, ⟨_, _, rfl, rfl, ⟨_, _, rfl, ⟨v3, rfl, g3⟩, ⟨_, _, rfl, rfl, rfl⟩⟩⟩⟩⟩ := h
  exact ⟨v3, rfl, g3⟩
theorem k36_mk (w : World) (x : S36) {A3 : Option Addr} {c3 : Nat} (l3 : x.f3.length ≤ c3) (g3 : (Kd.int .u8).C w A3 x.f3.length x.f3) : k36.K w x [.int .i64 x.f0, .int .u8 x.f1, .int .u8 x.f2, .slice A3 x.f3.length c3, .bool x.f4, .bool x.f5] := ⟨[.int .i64 x.f0], [.int .u8 x.f1, .int .u8 x.f2, .slice A3 x.f3.length c3, .bool x.f4, .bool x.f5], rfl, rfl, ⟨[.int .u8 x.f1], [.int .u8 x.f2, .slice A3 x.f3.length c3, .bool x.f4, .bool x.f5], rfl, rfl, ⟨[.int .u8 x.f2], [.slice A3 x.f3.length c3, .bool x.f4, .bool x.f5], rfl, rfl, ⟨[.slice A3 x.f3.length c3], [.bool x.f4, .bool x.f5], rfl, ⟨A3, c3, rfl, l3, g3⟩, ⟨[.bool x.f4], [.bool x.f5], rfl, rfl, rfl⟩⟩⟩⟩⟩
theorem k36_mkM (w : World) (base : Nat) (ok : Nat → Prop) (x : S36) {v3 : Value} (g3 : (Kd.int .u8).R 5 w base ok v3 x.f3) : k36.M w base ok x [.int .i64 x.f0, .int .u8 x.f1, .int .u8 x.f2, v3, .bool x.f4, .bool x.f5] := ⟨[.int .i64 x.f0], [.int .u8 x.f1, .int .u8 x.f2, v3, .bool x.f4, .bool x.f5], rfl, rfl, ⟨[.int .u8 x.f1], [.int .u8 x.f2, v3, .bool x.f4, .bool x.f5], rfl, rfl, ⟨[.int .u8 x.f2], [v3, .bool x.f4, .bool x.f5], rfl, rfl, ⟨[v3], [.bool x.f4, .bool x.f5], rfl, ⟨v3, rfl, g3⟩, ⟨[.bool x.f4], [.bool x.f5], rfl, rfl, rfl⟩⟩⟩⟩⟩
theorem k36_openF {W : World} {ok : Nat → Prop} {x : S36} {cs : List Value} (h : Kd.FK k36 W ok x cs) : ∃ A3 c3, cs = [.int .i64 x.f0, .int .u8 x.f1, .int .u8 x.f2, .slice A3 x.f3.length c3, .bool x.f4, .bool x.f5] ∧ x.f3.length ≤ c3 ∧ Kd.F (Kd.int .u8) W ok A3 x.f3.length x.f3 := by
  obtain ⟨A3, c3, rfl, l3, _⟩ := k36_open (Kd.FK_now h)
  exact ⟨A3, c3, rfl, l3, (fun W' hW => by obtain ⟨A3_, c3_, he, l3_, g3_⟩ := k36_open (h W' hW); injection (Option.some.inj (show some (Value.slice A3 x.f3.length c3) = some (Value.slice A3_ x.f3.length c3_) from congrArg (fun l => l[3]?) he)) with ha_ _ _; rw [ha_]; exact g3_)⟩
theorem k36_mkF (W : World) (ok : Nat → Prop) (x : S36) {A3 : Option Addr} {c3 : Nat} (l3 : x.f3.length ≤ c3) (g3 : Kd.F (Kd.int .u8) W ok A3 x.f3.length x.f3) : Kd.FK k36 W ok x [.int .i64 x.f0, .int .u8 x.f1, .int .u8 x.f2, .slice A3 x.f3.length c3, .bool x.f4, .bool x.f5] := fun W2 hW => k36_mk W2 x l3 (g3 W2 hW)
def rd_T36 (xs : List S36) (i : Int) : S36 := xs.getD i.toNat z36
theorem at_T36 {w : World} {A : Option Addr} {n : Nat} {xs : List S36} (h : Kd.C k36 w A n xs) (i : Int) (h0 : 0 ≤ i) (h1 : i < n) : ∃ ad A3 c3, A = some ad ∧ w.cell? (ad.add (i.toNat * 6)) = some (.int .i64 (rd_T36 xs i).f0) ∧ w.cell? ⟨(ad.add (i.toNat * 6)).block, (ad.add (i.toNat * 6)).off + 1, none⟩ = some (.int .u8 (rd_T36 xs i).f1) ∧ w.cell? ⟨(ad.add (i.toNat * 6)).block, (ad.add (i.toNat * 6)).off + 2, none⟩ = some (.int .u8 (rd_T36 xs i).f2) ∧ w.cell? ⟨(ad.add (i.toNat * 6)).block, (ad.add (i.toNat * 6)).off + 3, none⟩ = some (.slice A3 (rd_T36 xs i).f3.length c3) ∧ w.cell? ⟨(ad.add (i.toNat * 6)).block, (ad.add (i.toNat * 6)).off + 4, none⟩ = some (.bool (rd_T36 xs i).f4) ∧ w.cell? ⟨(ad.add (i.toNat * 6)).block, (ad.add (i.toNat * 6)).off + 5, none⟩ = some (.bool (rd_T36 xs i).f5) ∧ (rd_T36 xs i).f3.length ≤ c3 ∧ (Kd.int .u8).C w A3 (rd_T36 xs i).f3.length (rd_T36 xs i).f3 := by
  obtain ⟨ad, c, e, _, hK, hc0⟩ := Kd.C_get h z36 i h0 h1
  have hc : ∀ j u, c[j]? = some u → w.cell? (ad.add (i.toNat * 6 + j)) = some u := hc0
  obtain ⟨A3, c3, rfl, l3, g3⟩ := k36_open hK
  exact ⟨ad, A3, c3, e, hc 0 _ rfl, by rw [← add_field _ _ 1 (by omega)]; exact hc 1 _ rfl, by rw [← add_field _ _ 2 (by omega)]; exact hc 2 _ rfl, by rw [← add_field _ _ 3 (by omega)]; exact hc 3 _ rfl, by rw [← add_field _ _ 4 (by omega)]; exact hc 4 _ rfl, by rw [← add_field _ _ 5 (by omega)]; exact hc 5 _ rfl, l3, g3⟩

/-! #### struct type 35 -/
structure S35 where
  f0 : Int
  f1 : Int
  f2 : Int
  f3 : (List Int)
  f4 : Bool
  f5 : Bool
def z35 : S35 := ⟨(0 : Int), (0 : Int), (0 : Int), ([] : List Int), false, false⟩
def k35 : Kd S35 := Kd.iso (Kd.pair (Kd.int .i64) (Kd.pair (Kd.int .u8) (Kd.pair (Kd.int .u8) (Kd.pair (Kd.slice 5 (Kd.int .u8)) (Kd.pair Kd.bool Kd.bool))))) (fun x : S35 => (x.f0, x.f1, x.f2, x.f3, x.f4, x.f5))
theorem k35_open {w : World} {x : S35} {cs : List Value} (h : k35.K w x cs) : ∃ A3 c3, cs = [.int .i64 x.f0, .int .u8 x.f1, .int .u8 x.f2, .slice A3 x.f3.length c3, .bool x.f4, .bool x.f5] ∧ x.f3.length ≤ c3 ∧ (Kd.int .u8).C w A3 x.f3.length x.f3 := by
  obtain ⟨_, _, rfl, rfl, ⟨_, _, rfl, rfl, ⟨_, _, rfl, rfl, ⟨_, _, rfl, ⟨A3, c3, rfl, l3, g3⟩, ⟨_, _, rfl, rfl, rfl⟩⟩⟩⟩⟩ := h
  exact ⟨A3, c3, rfl, l3, g3⟩
theorem k35_openM {w : World} {base : Nat} {ok : Nat → Prop} {x : S35} {cs : List Value} (h : k35.M w base ok x cs) : ∃ v3, cs = [.int .i64 x.f0, .int .u8 x.f1, .int .u8 x.f2, v3, .bool x.f4, .bool x.f5] ∧ (Kd.int .u8).R 5 w base ok v3 x.f3 := by
  obtain ⟨_, _, rfl, rfl, ⟨_, _, rfl, rfl, ⟨_, _, rfl, rfl, ⟨_, _, rfl, ⟨v3, rfl, g3⟩, ⟨_, _, rfl, rfl, rfl⟩⟩⟩⟩⟩ := h
  exact ⟨v3, rfl, g3⟩
theorem k35_mk (w : World) (x : S35) {A3 : Option Addr} {c3 : Nat} (l3 : x.f3.length ≤ c3) (g3 : (Kd.int .u8).C w A3 x.f3.length x.f3) : k35.K w x [.int .i64 x.f0, .int .u8 x.f1, .int .u8 x.f2, .slice A3 x.f3.length c3, .bool x.f4, .bool x.f5] := ⟨[.int .i64 x.f0], [.int .u8 x.f1, .int .u8 x.f2, .slice A3 x.f3.length c3, .bool x.f4, .bool x.f5], rfl, rfl, ⟨[.int .u8 x.f1], [.int .u8 x.f2, .slice A3 x.f3.length c3, .bool x.f4, .bool x.f5], rfl, rfl, ⟨[.int .u8 x.f2], [.slice A3 x.f3.length c3, .bool x.f4, .bool x.f5], rfl, rfl, ⟨[.slice A3 x.f3.length c3], [.bool x.f4, .bool x.f5], rfl, ⟨A3, c3, rfl, l3, g3⟩, ⟨[.bool x.f4], [.bool x.f5], rfl, rfl, rfl⟩⟩⟩⟩⟩
theorem k35_mkM (w : World) (base : Nat) (ok : Nat → Prop) (x : S35) {v3 : Value} (g3 : (Kd.int .u8).R 5 w base ok v3 x.f3) : k35.M w base ok x [.int .i64 x.f0, .int .u8 x.f1, .int .u8 x.f2, v3, .bool x.f4, .bool x.f5] := ⟨[.int .i64 x.f0], [.int .u8 x.f1, .int .u8 x.f2, v3, .bool x.f4, .bool x.f5], rfl, rfl, ⟨[.int .u8 x.f1], [.int .u8 x.f2, v3, .bool x.f4, .bool x.f5], rfl, rfl, ⟨[.int .u8 x.f2], [v3, .bool x.f4, .bool x.f5], rfl, rfl, ⟨[v3], [.bool x.f4, .bool x.f5], rfl, ⟨v3, rfl, g3⟩, ⟨[.bool x.f4], [.bool x.f5], rfl, rfl, rfl⟩⟩⟩⟩⟩
theorem k35_openF {W : World} {ok : Nat → Prop} {x : S35} {cs : List Value} (h : Kd.FK k35 W ok x cs) : ∃ A3 c3, cs = [.int .i64 x.f0, .int .u8 x.f1, .int .u8 x.f2, .slice A3 x.f3.length c3, .bool x.f4, .bool x.f5] ∧ x.f3.length ≤ c3 ∧ Kd.F (Kd.int .u8) W ok A3 x.f3.length x.f3 := by
  obtain ⟨A3, c3, rfl, l3, _⟩ := k35_open (Kd.FK_now h)
  exact ⟨A3, c3, rfl, l3, (fun W' hW => by obtain ⟨A3_, c3_, he, l3_, g3_⟩ := k35_open (h W' hW); injection (Option.some.inj (show some (Value.slice A3 x.f3.length c3) = some (Value.slice A3_ x.f3.length c3_) from congrArg (fun l => l[3]?) he)) with ha_ _ _; rw [ha_]; exact g3_)⟩
theorem k35_mkF (W : World) (ok : Nat → Prop) (x : S35) {A3 : Option Addr} {c3 : Nat} (l3 : x.f3.length ≤ c3) (g3 : Kd.F (Kd.int .u8) W ok A3 x.f3.length x.f3) : Kd.FK k35 W ok x [.int .i64 x.f0, .int .u8 x.f1, .int .u8 x.f2, .slice A3 x.f3.length c3, .bool x.f4, .bool x.f5] := fun W2 hW => k35_mk W2 x l3 (g3 W2 hW)
def rd_T35 (xs : List S35) (i : Int) : S35 := xs.getD i.toNat z35
theorem at_T35 {w : World} {A : Option Addr} {n : Nat} {xs : List S35} (h : Kd.C k35 w A n xs) (i : Int) (h0 : 0 ≤ i) (h1 : i < n) : ∃ ad A3 c3, A = some ad ∧ w.cell? (ad.add (i.toNat * 6)) = some (.int .i64 (rd_T35 xs i).f0) ∧ w.cell? ⟨(ad.add (i.toNat * 6)).block, (ad.add (i.toNat * 6)).off + 1, none⟩ = some (.int .u8 (rd_T35 xs i).f1) ∧ w.cell? ⟨(ad.add (i.toNat * 6)).block, (ad.add (i.toNat * 6)).off + 2, none⟩ = some (.int .u8 (rd_T35 xs i).f2) ∧ w.cell? ⟨(ad.add (i.toNat * 6)).block, (ad.add (i.toNat * 6)).off + 3, none⟩ = some (.slice A3 (rd_T35 xs i).f3.length c3) ∧ w.cell? ⟨(ad.add (i.toNat * 6)).block, (ad.add (i.toNat * 6)).off + 4, none⟩ = some (.bool (rd_T35 xs i).f4) ∧ w.cell? ⟨(ad.add (i.toNat * 6)).block, (ad.add (i.toNat * 6)).off + 5, none⟩ = some (.bool (rd_T35 xs i).f5) ∧ (rd_T35 xs i).f3.length ≤ c3 ∧ (Kd.int .u8).C w A3 (rd_T35 xs i).f3.length (rd_T35 xs i).f3 := by
  obtain ⟨ad, c, e, _, hK, hc0⟩ := Kd.C_get h z35 i h0 h1
  have hc : ∀ j u, c[j]? = some u → w.cell? (ad.add (i.toNat * 6 + j)) = some u := hc0
  obtain ⟨A3, c3, rfl, l3, g3⟩ := k35_open hK
  exact ⟨ad, A3, c3, e, hc 0 _ rfl, by rw [← add_field _ _ 1 (by omega)]; exact hc 1 _ rfl, by rw [← add_field _ _ 2 (by omega)]; exact hc 2 _ rfl, by rw [← add_field _ _ 3 (by omega)]; exact hc 3 _ rfl, by rw [← add_field _ _ 4 (by omega)]; exact hc 4 _ rfl, by rw [← add_field _ _ 5 (by omega)]; exact hc 5 _ rfl, l3, g3⟩

end Go.Proofs.Ytddfgfgjkamccaa.PTe
