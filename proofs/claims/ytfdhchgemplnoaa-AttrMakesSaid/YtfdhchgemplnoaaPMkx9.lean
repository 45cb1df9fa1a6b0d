-- Written by a program of this session (a changed copy of the kit's print program): not the kit's print.
import Derived.Test.YtfdhchgemplnoaaPMkx0
import Derived.Test.YtfdhchgemplnoaaPMkx2
import Derived.Test.YtfdhchgemplnoaaPMkx3
import Derived.Test.YtfdhchgemplnoaaPMkx4
import Derived.Test.YtfdhchgemplnoaaPMkx6
import Derived.Test.YtfdhchgemplnoaaPMkx7
import Derived.Test.YtfdhchgemplnoaaPMkx8
import Derived.Test.YtfdhchgemplnoaaMkA
import Derived.Test.YtfdhchgemplnoaaMkB
namespace Go.Proofs.Ytfdhchgemplnoaa.PMk
open Go.RowKit Go.Proofs.YtfdhchgemplnoaaW.PrintWords Go.Proofs.YtfdhchgemplnoaaW.PrintLast Go.Proofs.YtfdhchgemplnoaaW.PrintMore
attribute [local go_sem] max2_int min2_int max_two min_two max_three min_three max_four min_four   -- for this text's walks alone
set_option linter.unusedVariables false
set_option linter.unusedSimpArgs false

attribute [local go_sem high] eqA38
/-! ### vitrinelaw05_AttrMakes: function 7 -/
mutual
def vitrinelaw05_AttrMakes.j0 : Nat → List (S40) → Bool → Int → Bool → Int → Int → Int → Int → Int → Bool → Int → Int → Int → Int → Option (Bool)
  | 0, _, _, _, _, _, _, _, _, _, _, _, _, _, _ => none
  | k + 1, x5, x37, x173000, x173001, x173002, x173003, x173004, x173005, x174000, x174001, x174002, x174003, x174004, x174005 => if x37 = true then (none) else (vitrinelaw05_AttrMakes.l0 k x5 (x5.length : Int) 0 x173000 x173001 x173002 x173003 x173004 x173005 x174000 x174001 x174002 x174003 x174004 x174005 x173000 x173001 0 0 0 0)
def vitrinelaw05_AttrMakes.l0 : Nat → List (S40) → Int → Int → Int → Bool → Int → Int → Int → Int → Int → Bool → Int → Int → Int → Int → Int → Bool → Int → Int → Int → Int → Option (Bool)
  | 0, _, _, _, _, _, _, _, _, _, _, _, _, _, _, _, _, _, _, _, _, _ => none
  | k + 1, x43, x44, x45, x173000, x173001, x173002, x173003, x173004, x173005, x174000, x174001, x174002, x174003, x174004, x174005, x196000, x196001, x196002, x196003, x196004, x196005 => if x45 < x44 then (if 0 ≤ x45 then (if x45 < (x43.length : Int) then ((attr_Pair_Apply.f ((rd_T40 x43 x45).f0) ((rd_T40 x43 x45).f1) x196000 x196001 x196002 x196003 x196004 x196005).bind fun bt198 => (if bt198.2.2.2.2.2.2 = 0 then (vitrinelaw05_AttrMakes.l0 k x43 x44 (wrap64 (x45 + 1)) x173000 x173001 x173002 x173003 x173004 x173005 x174000 x174001 x174002 x174003 x174004 x174005 bt198.1 bt198.2.1 bt198.2.2.1 bt198.2.2.2.1 bt198.2.2.2.2.1 bt198.2.2.2.2.2.1) else (some true))) else (none)) else (none)) else (if x173001 = true then ((vitrineref05_Six.f k x173002).bind fun t207 => (vitrinelaw05_AttrMakes.j2 k x173000 x173001 x173002 x173003 x173004 x173005 x174000 x174001 x174002 x174003 x174004 x174005 x196000 x196001 x196002 x196003 x196004 x196005 x173000 x173001 t207 x173003 x173004 x173005)) else (vitrinelaw05_AttrMakes.j2 k x173000 x173001 x173002 x173003 x173004 x173005 x174000 x174001 x174002 x174003 x174004 x174005 x196000 x196001 x196002 x196003 x196004 x196005 x173000 x173001 0 x173003 x173004 x173005))
def vitrinelaw05_AttrMakes.j2 : Nat → Int → Bool → Int → Int → Int → Int → Int → Bool → Int → Int → Int → Int → Int → Bool → Int → Int → Int → Int → Int → Bool → Int → Int → Int → Int → Option (Bool)
  | 0, _, _, _, _, _, _, _, _, _, _, _, _, _, _, _, _, _, _, _, _, _, _, _, _ => none
  | k + 1, x173000, x173001, x173002, x173003, x173004, x173005, x174000, x174001, x174002, x174003, x174004, x174005, x196000, x196001, x196002, x196003, x196004, x196005, x207000, x207001, x207002, x207003, x207004, x207005 => (attr_Diff.f x173000 x173001 x173002 x173003 x173004 x173005 x174000 x174001 x174002 x174003 x174004 x174005).bind fun t209 => (vitrinelaw05_AttrMakes.l1 k t209 (t209.length : Int) 0 x174000 x174001 x174002 x174003 x174004 x174005 x196000 x196001 x196002 x196003 x196004 x196005 x207000 x207001 x207002 x207003 x207004 x207005 x173000 x173001 x173002 x173003 x173004 x173005)
def vitrinelaw05_AttrMakes.l1 : Nat → List (S40) → Int → Int → Int → Bool → Int → Int → Int → Int → Int → Bool → Int → Int → Int → Int → Int → Bool → Int → Int → Int → Int → Int → Bool → Int → Int → Int → Int → Option (Bool)
  | 0, _, _, _, _, _, _, _, _, _, _, _, _, _, _, _, _, _, _, _, _, _, _, _, _, _, _, _ => none
  | k + 1, x70, x71, x72, x174000, x174001, x174002, x174003, x174004, x174005, x196000, x196001, x196002, x196003, x196004, x196005, x207000, x207001, x207002, x207003, x207004, x207005, x209000, x209001, x209002, x209003, x209004, x209005 => if x72 < x71 then (if 0 ≤ x72 then (if x72 < (x70.length : Int) then ((attr_Pair_Apply.f ((rd_T40 x70 x72).f0) ((rd_T40 x70 x72).f1) x209000 x209001 x209002 x209003 x209004 x209005).bind fun bt214 => (if bt214.2.2.2.2.2.2 = 0 then (vitrinelaw05_AttrMakes.l1 k x70 x71 (wrap64 (x72 + 1)) x174000 x174001 x174002 x174003 x174004 x174005 x196000 x196001 x196002 x196003 x196004 x196005 x207000 x207001 x207002 x207003 x207004 x207005 bt214.1 bt214.2.1 bt214.2.2.1 bt214.2.2.2.1 bt214.2.2.2.2.1 bt214.2.2.2.2.2.1) else (some (x196000 == x207000 && (x196001 == x207001 && (x196002 == x207002 && (x196003 == x207003 && (x196004 == x207004 && (x196005 == x207005))))))))) else (none)) else (none)) else (if (x196000 == x207000 && (x196001 == x207001 && (x196002 == x207002 && (x196003 == x207003 && (x196004 == x207004 && (x196005 == x207005)))))) = true then (if x209003 = x174003 then (if x209004 = x174004 then (some (x209005 == x174005)) else (none)) else (none)) else (none))
end
def vitrinelaw05_AttrMakes.f (k : Nat) (a0_0 : Int) (a0_1 : Bool) (a0_2 : Int) (a0_3 : Int) (a0_4 : Int) (a0_5 : Int) (a1_0 : Int) (a1_1 : Bool) (a1_2 : Int) (a1_3 : Int) (a1_4 : Int) (a1_5 : Int) : Option (Bool) := (vitrinelaw05_awake.f k).bind fun t174 => (if t174 = true then ((attr_Pairs.f a0_0 a0_1 a0_2 a0_3 a0_4 a0_5).bind fun t175 => ((vitrinelaw05_back.f k t175).bind fun t178 => ((vitrineref05_Pairs.f k a0_0 a0_1 a0_2 a0_3 a0_4 a0_5).bind fun t181 => ((vitrineref05_Pair.f k t178 t181).bind fun t184 => (if t184 = true then ((attr_Diff.f a0_0 a0_1 a0_2 a0_3 a0_4 a0_5 a1_0 a1_1 a1_2 a1_3 a1_4 a1_5).bind fun t185 => ((vitrinelaw05_back.f k t185).bind fun t188 => ((vitrineref05_Diff.f k a0_0 a0_1 a0_2 a0_3 a0_4 a0_5 a1_0 a1_1 a1_2 a1_3 a1_4 a1_5).bind fun t191 => ((vitrineref05_Pair.f k t188 t191).bind fun t194 => (vitrinelaw05_AttrMakes.j0 k t175 (!t194) a0_0 a0_1 a0_2 a0_3 a0_4 a0_5 a1_0 a1_1 a1_2 a1_3 a1_4 a1_5))))) else (none)))))) else (none))
theorem vitrinelaw05_AttrMakes.mono_l : ∀ k, (∀ y0 y1 y2 y3 y4 y5 y6 y7 y8 y9 y10 y11 y12 y13, LeO (vitrinelaw05_AttrMakes.j0 k y0 y1 y2 y3 y4 y5 y6 y7 y8 y9 y10 y11 y12 y13) (vitrinelaw05_AttrMakes.j0 (k + 1) y0 y1 y2 y3 y4 y5 y6 y7 y8 y9 y10 y11 y12 y13)) ∧ (∀ y0 y1 y2 y3 y4 y5 y6 y7 y8 y9 y10 y11 y12 y13 y14 y15 y16 y17 y18 y19 y20, LeO (vitrinelaw05_AttrMakes.l0 k y0 y1 y2 y3 y4 y5 y6 y7 y8 y9 y10 y11 y12 y13 y14 y15 y16 y17 y18 y19 y20) (vitrinelaw05_AttrMakes.l0 (k + 1) y0 y1 y2 y3 y4 y5 y6 y7 y8 y9 y10 y11 y12 y13 y14 y15 y16 y17 y18 y19 y20)) ∧ (∀ y0 y1 y2 y3 y4 y5 y6 y7 y8 y9 y10 y11 y12 y13 y14 y15 y16 y17 y18 y19 y20 y21 y22 y23, LeO (vitrinelaw05_AttrMakes.j2 k y0 y1 y2 y3 y4 y5 y6 y7 y8 y9 y10 y11 y12 y13 y14 y15 y16 y17 y18 y19 y20 y21 y22 y23) (vitrinelaw05_AttrMakes.j2 (k + 1) y0 y1 y2 y3 y4 y5 y6 y7 y8 y9 y10 y11 y12 y13 y14 y15 y16 y17 y18 y19 y20 y21 y22 y23)) ∧ (∀ y0 y1 y2 y3 y4 y5 y6 y7 y8 y9 y10 y11 y12 y13 y14 y15 y16 y17 y18 y19 y20 y21 y22 y23 y24 y25 y26, LeO (vitrinelaw05_AttrMakes.l1 k y0 y1 y2 y3 y4 y5 y6 y7 y8 y9 y10 y11 y12 y13 y14 y15 y16 y17 y18 y19 y20 y21 y22 y23 y24 y25 y26) (vitrinelaw05_AttrMakes.l1 (k + 1) y0 y1 y2 y3 y4 y5 y6 y7 y8 y9 y10 y11 y12 y13 y14 y15 y16 y17 y18 y19 y20 y21 y22 y23 y24 y25 y26))
  | 0 => ⟨fun _ _ _ _ _ _ _ _ _ _ _ _ _ _ r h => by simp [vitrinelaw05_AttrMakes.j0] at h, fun _ _ _ _ _ _ _ _ _ _ _ _ _ _ _ _ _ _ _ _ _ r h => by simp [vitrinelaw05_AttrMakes.l0] at h, fun _ _ _ _ _ _ _ _ _ _ _ _ _ _ _ _ _ _ _ _ _ _ _ _ r h => by simp [vitrinelaw05_AttrMakes.j2] at h, fun _ _ _ _ _ _ _ _ _ _ _ _ _ _ _ _ _ _ _ _ _ _ _ _ _ _ _ r h => by simp [vitrinelaw05_AttrMakes.l1] at h⟩
  | k + 1 => by
    obtain ⟨ih0, ih1, ih2, ih3⟩ := vitrinelaw05_AttrMakes.mono_l k
    refine ⟨?_, ?_, ?_, ?_⟩
    · intro y0 y1 y2 y3 y4 y5 y6 y7 y8 y9 y10 y11 y12 y13
      unfold vitrinelaw05_AttrMakes.j0
      repeat' first
      | (with_reducible exact ih0 _ _ _ _ _ _ _ _ _ _ _ _ _ _)
      | (with_reducible exact ih1 _ _ _ _ _ _ _ _ _ _ _ _ _ _ _ _ _ _ _ _ _)
      | (with_reducible exact ih2 _ _ _ _ _ _ _ _ _ _ _ _ _ _ _ _ _ _ _ _ _ _ _ _)
      | (with_reducible exact ih3 _ _ _ _ _ _ _ _ _ _ _ _ _ _ _ _ _ _ _ _ _ _ _ _ _ _ _)
      | (with_reducible exact vitrinelaw05_awake.mono _)
      | (with_reducible exact vitrinelaw05_back.mono _ _)
      | (with_reducible exact vitrineref05_Diff.mono _ _ _ _ _ _ _ _ _ _ _ _ _)
      | (with_reducible exact vitrineref05_Pair.mono _ _ _)
      | (with_reducible exact vitrineref05_Pairs.mono _ _ _ _ _ _ _)
      | (with_reducible exact vitrineref05_Six.mono _ _)
      | (with_reducible exact LeO.refl _)
      | (with_reducible exact LeO.none _)
      | (with_reducible refine LeO.ite ?_ ?_)
      | (with_reducible refine LeO.bind ?_ (fun _ => ?_))
      | exact ih0 _ _ _ _ _ _ _ _ _ _ _ _ _ _
      | exact ih1 _ _ _ _ _ _ _ _ _ _ _ _ _ _ _ _ _ _ _ _ _
      | exact ih2 _ _ _ _ _ _ _ _ _ _ _ _ _ _ _ _ _ _ _ _ _ _ _ _
      | exact ih3 _ _ _ _ _ _ _ _ _ _ _ _ _ _ _ _ _ _ _ _ _ _ _ _ _ _ _
      | exact vitrinelaw05_awake.mono _
      | exact vitrinelaw05_back.mono _ _
      | exact vitrineref05_Diff.mono _ _ _ _ _ _ _ _ _ _ _ _ _
      | exact vitrineref05_Pair.mono _ _ _
      | exact vitrineref05_Pairs.mono _ _ _ _ _ _ _
      | exact vitrineref05_Six.mono _ _
      | exact LeO.none _
      | refine LeO.ite ?_ ?_
      | refine LeO.bind ?_ (fun _ => ?_)
    · intro y0 y1 y2 y3 y4 y5 y6 y7 y8 y9 y10 y11 y12 y13 y14 y15 y16 y17 y18 y19 y20
      unfold vitrinelaw05_AttrMakes.l0
      repeat' first
      | (with_reducible exact ih0 _ _ _ _ _ _ _ _ _ _ _ _ _ _)
      | (with_reducible exact ih1 _ _ _ _ _ _ _ _ _ _ _ _ _ _ _ _ _ _ _ _ _)
      | (with_reducible exact ih2 _ _ _ _ _ _ _ _ _ _ _ _ _ _ _ _ _ _ _ _ _ _ _ _)
      | (with_reducible exact ih3 _ _ _ _ _ _ _ _ _ _ _ _ _ _ _ _ _ _ _ _ _ _ _ _ _ _ _)
      | (with_reducible exact vitrinelaw05_awake.mono _)
      | (with_reducible exact vitrinelaw05_back.mono _ _)
      | (with_reducible exact vitrineref05_Diff.mono _ _ _ _ _ _ _ _ _ _ _ _ _)
      | (with_reducible exact vitrineref05_Pair.mono _ _ _)
      | (with_reducible exact vitrineref05_Pairs.mono _ _ _ _ _ _ _)
      | (with_reducible exact vitrineref05_Six.mono _ _)
      | (with_reducible exact LeO.refl _)
      | (with_reducible exact LeO.none _)
      | (with_reducible refine LeO.ite ?_ ?_)
      | (with_reducible refine LeO.bind ?_ (fun _ => ?_))
      | exact ih0 _ _ _ _ _ _ _ _ _ _ _ _ _ _
      | exact ih1 _ _ _ _ _ _ _ _ _ _ _ _ _ _ _ _ _ _ _ _ _
      | exact ih2 _ _ _ _ _ _ _ _ _ _ _ _ _ _ _ _ _ _ _ _ _ _ _ _
      | exact ih3 _ _ _ _ _ _ _ _ _ _ _ _ _ _ _ _ _ _ _ _ _ _ _ _ _ _ _
      | exact vitrinelaw05_awake.mono _
      | exact vitrinelaw05_back.mono _ _
      | exact vitrineref05_Diff.mono _ _ _ _ _ _ _ _ _ _ _ _ _
      | exact vitrineref05_Pair.mono _ _ _
      | exact vitrineref05_Pairs.mono _ _ _ _ _ _ _
      | exact vitrineref05_Six.mono _ _
      | exact LeO.none _
      | refine LeO.ite ?_ ?_
      | refine LeO.bind ?_ (fun _ => ?_)
    · intro y0 y1 y2 y3 y4 y5 y6 y7 y8 y9 y10 y11 y12 y13 y14 y15 y16 y17 y18 y19 y20 y21 y22 y23
      unfold vitrinelaw05_AttrMakes.j2
      repeat' first
      | (with_reducible exact ih0 _ _ _ _ _ _ _ _ _ _ _ _ _ _)
      | (with_reducible exact ih1 _ _ _ _ _ _ _ _ _ _ _ _ _ _ _ _ _ _ _ _ _)
      | (with_reducible exact ih2 _ _ _ _ _ _ _ _ _ _ _ _ _ _ _ _ _ _ _ _ _ _ _ _)
      | (with_reducible exact ih3 _ _ _ _ _ _ _ _ _ _ _ _ _ _ _ _ _ _ _ _ _ _ _ _ _ _ _)
      | (with_reducible exact vitrinelaw05_awake.mono _)
      | (with_reducible exact vitrinelaw05_back.mono _ _)
      | (with_reducible exact vitrineref05_Diff.mono _ _ _ _ _ _ _ _ _ _ _ _ _)
      | (with_reducible exact vitrineref05_Pair.mono _ _ _)
      | (with_reducible exact vitrineref05_Pairs.mono _ _ _ _ _ _ _)
      | (with_reducible exact vitrineref05_Six.mono _ _)
      | (with_reducible exact LeO.refl _)
      | (with_reducible exact LeO.none _)
      | (with_reducible refine LeO.ite ?_ ?_)
      | (with_reducible refine LeO.bind ?_ (fun _ => ?_))
      | exact ih0 _ _ _ _ _ _ _ _ _ _ _ _ _ _
      | exact ih1 _ _ _ _ _ _ _ _ _ _ _ _ _ _ _ _ _ _ _ _ _
      | exact ih2 _ _ _ _ _ _ _ _ _ _ _ _ _ _ _ _ _ _ _ _ _ _ _ _
      | exact ih3 _ _ _ _ _ _ _ _ _ _ _ _ _ _ _ _ _ _ _ _ _ _ _ _ _ _ _
      | exact vitrinelaw05_awake.mono _
      | exact vitrinelaw05_back.mono _ _
      | exact vitrineref05_Diff.mono _ _ _ _ _ _ _ _ _ _ _ _ _
      | exact vitrineref05_Pair.mono _ _ _
      | exact vitrineref05_Pairs.mono _ _ _ _ _ _ _
      | exact vitrineref05_Six.mono _ _
      | exact LeO.none _
      | refine LeO.ite ?_ ?_
      | refine LeO.bind ?_ (fun _ => ?_)
    · intro y0 y1 y2 y3 y4 y5 y6 y7 y8 y9 y10 y11 y12 y13 y14 y15 y16 y17 y18 y19 y20 y21 y22 y23 y24 y25 y26
      unfold vitrinelaw05_AttrMakes.l1
      repeat' first
      | (with_reducible exact ih0 _ _ _ _ _ _ _ _ _ _ _ _ _ _)
      | (with_reducible exact ih1 _ _ _ _ _ _ _ _ _ _ _ _ _ _ _ _ _ _ _ _ _)
      | (with_reducible exact ih2 _ _ _ _ _ _ _ _ _ _ _ _ _ _ _ _ _ _ _ _ _ _ _ _)
      | (with_reducible exact ih3 _ _ _ _ _ _ _ _ _ _ _ _ _ _ _ _ _ _ _ _ _ _ _ _ _ _ _)
      | (with_reducible exact vitrinelaw05_awake.mono _)
      | (with_reducible exact vitrinelaw05_back.mono _ _)
      | (with_reducible exact vitrineref05_Diff.mono _ _ _ _ _ _ _ _ _ _ _ _ _)
      | (with_reducible exact vitrineref05_Pair.mono _ _ _)
      | (with_reducible exact vitrineref05_Pairs.mono _ _ _ _ _ _ _)
      | (with_reducible exact vitrineref05_Six.mono _ _)
      | (with_reducible exact LeO.refl _)
      | (with_reducible exact LeO.none _)
      | (with_reducible refine LeO.ite ?_ ?_)
      | (with_reducible refine LeO.bind ?_ (fun _ => ?_))
      | exact ih0 _ _ _ _ _ _ _ _ _ _ _ _ _ _
      | exact ih1 _ _ _ _ _ _ _ _ _ _ _ _ _ _ _ _ _ _ _ _ _
      | exact ih2 _ _ _ _ _ _ _ _ _ _ _ _ _ _ _ _ _ _ _ _ _ _ _ _
      | exact ih3 _ _ _ _ _ _ _ _ _ _ _ _ _ _ _ _ _ _ _ _ _ _ _ _ _ _ _
      | exact vitrinelaw05_awake.mono _
      | exact vitrinelaw05_back.mono _ _
      | exact vitrineref05_Diff.mono _ _ _ _ _ _ _ _ _ _ _ _ _
      | exact vitrineref05_Pair.mono _ _ _
      | exact vitrineref05_Pairs.mono _ _ _ _ _ _ _
      | exact vitrineref05_Six.mono _ _
      | exact LeO.none _
      | refine LeO.ite ?_ ?_
      | refine LeO.bind ?_ (fun _ => ?_)
theorem vitrinelaw05_AttrMakes.mono : ∀ a0 a1 a2 a3 a4 a5 a6 a7 a8 a9 a10 a11 k, LeO (vitrinelaw05_AttrMakes.f k a0 a1 a2 a3 a4 a5 a6 a7 a8 a9 a10 a11) (vitrinelaw05_AttrMakes.f (k + 1) a0 a1 a2 a3 a4 a5 a6 a7 a8 a9 a10 a11) := by
  intro a0 a1 a2 a3 a4 a5 a6 a7 a8 a9 a10 a11 k
  obtain ⟨ih0, ih1, ih2, ih3⟩ := vitrinelaw05_AttrMakes.mono_l k
  unfold vitrinelaw05_AttrMakes.f
  repeat' first
      | (with_reducible exact ih0 _ _ _ _ _ _ _ _ _ _ _ _ _ _)
      | (with_reducible exact ih1 _ _ _ _ _ _ _ _ _ _ _ _ _ _ _ _ _ _ _ _ _)
      | (with_reducible exact ih2 _ _ _ _ _ _ _ _ _ _ _ _ _ _ _ _ _ _ _ _ _ _ _ _)
      | (with_reducible exact ih3 _ _ _ _ _ _ _ _ _ _ _ _ _ _ _ _ _ _ _ _ _ _ _ _ _ _ _)
      | (with_reducible exact vitrinelaw05_awake.mono _)
      | (with_reducible exact vitrinelaw05_back.mono _ _)
      | (with_reducible exact vitrineref05_Diff.mono _ _ _ _ _ _ _ _ _ _ _ _ _)
      | (with_reducible exact vitrineref05_Pair.mono _ _ _)
      | (with_reducible exact vitrineref05_Pairs.mono _ _ _ _ _ _ _)
      | (with_reducible exact vitrineref05_Six.mono _ _)
      | (with_reducible exact LeO.refl _)
      | (with_reducible exact LeO.none _)
      | (with_reducible refine LeO.ite ?_ ?_)
      | (with_reducible refine LeO.bind ?_ (fun _ => ?_))
      | exact ih0 _ _ _ _ _ _ _ _ _ _ _ _ _ _
      | exact ih1 _ _ _ _ _ _ _ _ _ _ _ _ _ _ _ _ _ _ _ _ _
      | exact ih2 _ _ _ _ _ _ _ _ _ _ _ _ _ _ _ _ _ _ _ _ _ _ _ _
      | exact ih3 _ _ _ _ _ _ _ _ _ _ _ _ _ _ _ _ _ _ _ _ _ _ _ _ _ _ _
      | exact vitrinelaw05_awake.mono _
      | exact vitrinelaw05_back.mono _ _
      | exact vitrineref05_Diff.mono _ _ _ _ _ _ _ _ _ _ _ _ _
      | exact vitrineref05_Pair.mono _ _ _
      | exact vitrineref05_Pairs.mono _ _ _ _ _ _ _
      | exact vitrineref05_Six.mono _ _
      | exact LeO.none _
      | refine LeO.ite ?_ ?_
      | refine LeO.bind ?_ (fun _ => ?_)
def vitrinelaw05_AttrMakes.T4 : Bool × List (List Nat × List Nat) := (true, [([], []), ([0], [0]), ([], []), ([2, 1], [2]), ([1, 3, 3], [1, 3]), ([4], [4]), ([5, 4], [5]), ([6], [6]), ([6], [6]), ([7, 8, 6, 6], [6, 7, 8]), ([9, 9, 6], [6, 9]), ([6], [6]), ([6], [6]), ([11, 12, 10, 6], [6, 11, 12]), ([10, 13, 13, 6], [6, 10, 13]), ([14, 6], [6, 14]), ([6, 15], [6, 15])])
def vitrinelaw05_AttrMakes.B4 : List Nat := [0, 1, 0, 7, 15, 31, 63, 127, 127, 511, 1023, 127, 127, 8191, 16383, 32767, 65535]
theorem vitrinelaw05_AttrMakes.tab4 : rtab .any (opsOf Try.f7 4) = vitrinelaw05_AttrMakes.T4 := by kernel_rfl
theorem vitrinelaw05_AttrMakes.bits4 : waitsOk vitrinelaw05_AttrMakes.T4.2 vitrinelaw05_AttrMakes.B4 = true := by kernel_rfl
set_option maxHeartbeats 8000000 in
set_option maxRecDepth 100000 in
theorem vitrinelaw05_AttrMakes.calls (k : Nat) (a0_0 : Int) (a0_1 : Bool) (a0_2 : Int) (a0_3 : Int) (a0_4 : Int) (a0_5 : Int) (a1_0 : Int) (a1_1 : Bool) (a1_2 : Int) (a1_3 : Int) (a1_4 : Int) (a1_5 : Int) (r : Bool) (w : World) (h : vitrinelaw05_AttrMakes.f k a0_0 a0_1 a0_2 a0_3 a0_4 a0_5 a1_0 a1_1 a1_2 a1_3 a1_4 a1_5 = some r) :
    Calls Try.prog 7 #[.agg #[.int .u8 a0_0, .bool a0_1, .int .u8 a0_2, .int .u8 a0_3, .int .u8 a0_4, .int .u8 a0_5], .agg #[.int .u8 a1_0, .bool a1_1, .int .u8 a1_2, .int .u8 a1_3, .int .u8 a1_4, .int .u8 a1_5]] w fun e w' => e = .returned (.bool r) ∧ Below w.heap.size w w' := by
  have hu38 := Try.underlying38
  have hu40 := Try.underlying40
  have HB := Aside0.mk (Below.refl w.heap.size w)
  have H : ((vitrinelaw05_awake.f k).bind fun t174 => (if t174 = true then ((attr_Pairs.f a0_0 a0_1 a0_2 a0_3 a0_4 a0_5).bind fun t175 => ((vitrinelaw05_back.f k t175).bind fun t178 => ((vitrineref05_Pairs.f k a0_0 a0_1 a0_2 a0_3 a0_4 a0_5).bind fun t181 => ((vitrineref05_Pair.f k t178 t181).bind fun t184 => (if t184 = true then ((attr_Diff.f a0_0 a0_1 a0_2 a0_3 a0_4 a0_5 a1_0 a1_1 a1_2 a1_3 a1_4 a1_5).bind fun t185 => ((vitrinelaw05_back.f k t185).bind fun t188 => ((vitrineref05_Diff.f k a0_0 a0_1 a0_2 a0_3 a0_4 a0_5 a1_0 a1_1 a1_2 a1_3 a1_4 a1_5).bind fun t191 => ((vitrineref05_Pair.f k t188 t191).bind fun t194 => (vitrinelaw05_AttrMakes.j0 k t175 (!t194) a0_0 a0_1 a0_2 a0_3 a0_4 a0_5 a1_0 a1_1 a1_2 a1_3 a1_4 a1_5))))) else (none)))))) else (none))) = some r := h
  clear h
  replace H := Option.bind_eq_some_iff.mp H
  obtain ⟨t174, A30, H⟩ := H
  replace H : (if t174 = true then ((attr_Pairs.f a0_0 a0_1 a0_2 a0_3 a0_4 a0_5).bind fun t175 => ((vitrinelaw05_back.f k t175).bind fun t178 => ((vitrineref05_Pairs.f k a0_0 a0_1 a0_2 a0_3 a0_4 a0_5).bind fun t181 => ((vitrineref05_Pair.f k t178 t181).bind fun t184 => (if t184 = true then ((attr_Diff.f a0_0 a0_1 a0_2 a0_3 a0_4 a0_5 a1_0 a1_1 a1_2 a1_3 a1_4 a1_5).bind fun t185 => ((vitrinelaw05_back.f k t185).bind fun t188 => ((vitrineref05_Diff.f k a0_0 a0_1 a0_2 a0_3 a0_4 a0_5 a1_0 a1_1 a1_2 a1_3 a1_4 a1_5).bind fun t191 => ((vitrineref05_Pair.f k t188 t191).bind fun t194 => (vitrinelaw05_AttrMakes.j0 k t175 (!t194) a0_0 a0_1 a0_2 a0_3 a0_4 a0_5 a1_0 a1_1 a1_2 a1_3 a1_4 a1_5))))) else (none)))))) else (none)) = some r := H
  have A3 := Aside0.mk A30
  clear A30
  by_cases c4 : t174 = true
  · subst c4
    have H1 : ((attr_Pairs.f a0_0 a0_1 a0_2 a0_3 a0_4 a0_5).bind fun t175 => ((vitrinelaw05_back.f k t175).bind fun t178 => ((vitrineref05_Pairs.f k a0_0 a0_1 a0_2 a0_3 a0_4 a0_5).bind fun t181 => ((vitrineref05_Pair.f k t178 t181).bind fun t184 => (if t184 = true then ((attr_Diff.f a0_0 a0_1 a0_2 a0_3 a0_4 a0_5 a1_0 a1_1 a1_2 a1_3 a1_4 a1_5).bind fun t185 => ((vitrinelaw05_back.f k t185).bind fun t188 => ((vitrineref05_Diff.f k a0_0 a0_1 a0_2 a0_3 a0_4 a0_5 a1_0 a1_1 a1_2 a1_3 a1_4 a1_5).bind fun t191 => ((vitrineref05_Pair.f k t188 t191).bind fun t194 => (vitrinelaw05_AttrMakes.j0 k t175 (!t194) a0_0 a0_1 a0_2 a0_3 a0_4 a0_5 a1_0 a1_1 a1_2 a1_3 a1_4 a1_5))))) else (none)))))) = some r := by rw [if_pos rfl] at H; exact H
    clear H
    have H := H1
    clear H1
    replace H := Option.bind_eq_some_iff.mp H
    obtain ⟨t175, A50, H⟩ := H
    replace H : ((vitrinelaw05_back.f k t175).bind fun t178 => ((vitrineref05_Pairs.f k a0_0 a0_1 a0_2 a0_3 a0_4 a0_5).bind fun t181 => ((vitrineref05_Pair.f k t178 t181).bind fun t184 => (if t184 = true then ((attr_Diff.f a0_0 a0_1 a0_2 a0_3 a0_4 a0_5 a1_0 a1_1 a1_2 a1_3 a1_4 a1_5).bind fun t185 => ((vitrinelaw05_back.f k t185).bind fun t188 => ((vitrineref05_Diff.f k a0_0 a0_1 a0_2 a0_3 a0_4 a0_5 a1_0 a1_1 a1_2 a1_3 a1_4 a1_5).bind fun t191 => ((vitrineref05_Pair.f k t188 t191).bind fun t194 => (vitrinelaw05_AttrMakes.j0 k t175 (!t194) a0_0 a0_1 a0_2 a0_3 a0_4 a0_5 a1_0 a1_1 a1_2 a1_3 a1_4 a1_5))))) else (none))))) = some r := H
    have A5 := Aside0.mk A50
    clear A50
    have HC6 := Aside0.mk H
    clear H
    go_enter Try.func7, Try.ntmps7
    go_upto_region 4 with (first | ((with_reducible refine gate_dst (N := 2) rfl ?_); refine box_event ?hg (N := 2) ?hd (cs := #[.int .u8 a0_0, .bool a0_1, .int .u8 a0_2, .int .u8 a0_3, .int .u8 a0_4, .int .u8 a0_5]) (t := 38) ?hr ?_; (case hd => rfl); (case hg => rfl); (case hr => first | (go_simp; done) | (go_simp; rfl)); intro gb172 hg w7 hbox hb; have n0_ := Aside0.mk (below_step (by repeat (first | (with_reducible first | exact HB.out | apply below_alloc | apply pw_below_drewN | apply below_drew1) | exact HB.out)) hb); have n1_ := Aside0.mk (hbox); have n2_ := Aside0.mk ((by rw [hg]; exact (below_size (by repeat (first | (with_reducible first | exact HB.out | apply below_alloc | apply pw_below_drewN | apply below_drew1) | exact HB.out))) : w.heap.size ≤ gb172)); have n3_ := Aside0.mk ((by rw [hg]; exact (below_size (by repeat (first | (with_reducible first | exact HB.out | apply below_alloc | apply pw_below_drewN | apply below_drew1) | exact HB.out))) : w.heap.size ≤ gb172)); clear HB; have HB := n0_; have BK172 := n1_; have GW172 := n2_; have GE172 := n3_; clear n0_ n1_ n2_ n3_; clear hb hbox hg) | ((with_reducible refine gate_dst (N := 3) rfl ?_); refine box_event ?hg (N := 3) ?hd (cs := #[.int .u8 a1_0, .bool a1_1, .int .u8 a1_2, .int .u8 a1_3, .int .u8 a1_4, .int .u8 a1_5]) (t := 38) ?hr ?_; (case hd => rfl); (case hg => rfl); (case hr => first | (go_simp; done) | (go_simp; rfl)); intro gb173 hg w8 hbox hb; have n0_ := Aside0.mk (blk_below (g := gb172) (o := .cells #[.int .u8 a0_0, .bool a0_1, .int .u8 a0_2, .int .u8 a0_3, .int .u8 a0_4, .int .u8 a0_5] 38 (0, 0)) (by (with_reducible repeat (first | refine blk_drewN ?_ _ | refine blk_drew ?_ | refine blk_alloc ?_ _)); exact BK172.out) hb); have n1_ := Aside0.mk (below_step (by repeat (first | (with_reducible first | exact HB.out | apply below_alloc | apply pw_below_drewN | apply below_drew1 | refine below_set ?_ GE172.out) | exact HB.out)) hb); have n2_ := Aside0.mk (hbox); have n3_ := Aside0.mk ((by rw [hg]; exact (below_size (by repeat (first | (with_reducible first | exact HB.out | apply below_alloc | apply pw_below_drewN | apply below_drew1 | refine below_set ?_ GE172.out) | exact HB.out))) : w.heap.size ≤ gb173)); have n4_ := Aside0.mk ((by rw [hg]; exact (below_size (by repeat (first | (with_reducible first | exact HB.out | apply below_alloc | apply pw_below_drewN | apply below_drew1 | refine below_set ?_ GE172.out) | exact HB.out))) : w.heap.size ≤ gb173)); have n5_ := Aside0.mk ((by rw [hg]; exact Nat.ne_of_lt (blk_lt (g := gb172) (o := .cells #[.int .u8 a0_0, .bool a0_1, .int .u8 a0_2, .int .u8 a0_3, .int .u8 a0_4, .int .u8 a0_5] 38 (0, 0)) (by (with_reducible repeat (first | refine blk_drewN ?_ _ | refine blk_drew ?_ | refine blk_alloc ?_ _)); exact BK172.out)) : gb172 ≠ gb173)); have n6_ := Aside0.mk ((by rw [hg]; exact Nat.ne_of_gt (blk_lt (g := gb172) (o := .cells #[.int .u8 a0_0, .bool a0_1, .int .u8 a0_2, .int .u8 a0_3, .int .u8 a0_4, .int .u8 a0_5] 38 (0, 0)) (by (with_reducible repeat (first | refine blk_drewN ?_ _ | refine blk_drew ?_ | refine blk_alloc ?_ _)); exact BK172.out)) : gb173 ≠ gb172)); clear BK172; clear HB; have BK172 := n0_; have HB := n1_; have BK173 := n2_; have GW173 := n3_; have GE173 := n4_; have NB172_173 := n5_; have NB173_172 := n6_; clear n0_ n1_ n2_ n3_ n4_ n5_ n6_; clear hb hbox hg) | ((with_reducible refine gate_callee (f := 8) rfl ?_); refine goesL_ (some 17) rfl rfl Try.func8 (by kernel_rfl) rfl #[] rfl (by (try simp only [List.map_toArray, List.map_cons, List.map_nil]); first | done | rfl | (simp only [List.length_drop, List.length_take]; rfl)) ?_; (with_reducible refine (vitrinelaw05_awake.calls k  true _ A3.out).mono ?_); rintro e w9 ⟨rfl, hb⟩; refine ⟨_, rfl, ?_⟩; have n0_ := Aside0.mk (blk_below (g := gb172) (o := .cells #[.int .u8 a0_0, .bool a0_1, .int .u8 a0_2, .int .u8 a0_3, .int .u8 a0_4, .int .u8 a0_5] 38 (0, 0)) (by (with_reducible repeat (first | refine blk_drewN ?_ _ | refine blk_drew ?_ | refine blk_alloc ?_ _)); exact BK172.out) hb); have n1_ := Aside0.mk (blk_below (g := gb173) (o := .cells #[.int .u8 a1_0, .bool a1_1, .int .u8 a1_2, .int .u8 a1_3, .int .u8 a1_4, .int .u8 a1_5] 38 (0, 0)) (by (with_reducible repeat (first | refine blk_drewN ?_ _ | refine blk_drew ?_ | refine blk_alloc ?_ _)); exact BK173.out) hb); have n2_ := Aside0.mk (below_step (by repeat (first | (with_reducible first | exact HB.out | apply below_alloc | apply pw_below_drewN | apply below_drew1 | refine below_set ?_ GE172.out | refine below_set ?_ GE173.out) | exact HB.out)) hb); clear BK172; clear BK173; clear HB; have BK172 := n0_; have BK173 := n1_; have HB := n2_; clear n0_ n1_ n2_; (try clear hb); (try clear hb2); (try clear hk); (try clear hi); have hnb10 := NB172_173.out; have hnc10 := NB173_172.out; have hcz11_0 : w9.cell? ⟨gb172, 0, none⟩ = some (.int .u8 a0_0) := (blk_cell BK172.out 0).trans rfl; have hcz11_1 : w9.cell? ⟨gb172, 1, none⟩ = some (.bool a0_1) := (blk_cell BK172.out 1).trans rfl; have hcz11_2 : w9.cell? ⟨gb172, 2, none⟩ = some (.int .u8 a0_2) := (blk_cell BK172.out 2).trans rfl; have hcz11_3 : w9.cell? ⟨gb172, 3, none⟩ = some (.int .u8 a0_3) := (blk_cell BK172.out 3).trans rfl; have hcz11_4 : w9.cell? ⟨gb172, 4, none⟩ = some (.int .u8 a0_4) := (blk_cell BK172.out 4).trans rfl; have hcz11_5 : w9.cell? ⟨gb172, 5, none⟩ = some (.int .u8 a0_5) := (blk_cell BK172.out 5).trans rfl; have hfz11_0 := blk_frozen BK172.out 0; have hfz11_1 := blk_frozen BK172.out 1; have hfz11_2 := blk_frozen BK172.out 2; have hfz11_3 := blk_frozen BK172.out 3; have hfz11_4 := blk_frozen BK172.out 4; have hfz11_5 := blk_frozen BK172.out 5) | ((with_reducible refine gate_callee (f := 31) rfl ?_); refine goesL_ (some 20) rfl rfl Try.func31 (by kernel_rfl) rfl #[.agg #[.int .u8 a0_0, .bool a0_1, .int .u8 a0_2, .int .u8 a0_3, .int .u8 a0_4, .int .u8 a0_5]] rfl (by (try simp only [List.map_toArray, List.map_cons, List.map_nil]); first | done | rfl | (simp only [List.length_drop, List.length_take]; rfl)) ?_; (with_reducible refine (attr_Pairs.calls a0_0 a0_1 a0_2 a0_3 a0_4 a0_5 t175 _ A5.out).mono ?_); rintro e w12 ⟨v176, rfl, ho0, hb⟩; refine ⟨_, rfl, ?_⟩; have n0_ := Aside0.mk (Kd.R_lower ho0 (below_size (by repeat (first | (with_reducible first | exact HB.out | apply below_alloc | apply pw_below_drewN | apply below_drew1 | refine below_set ?_ GE172.out | refine below_set ?_ GE173.out) | exact HB.out)))); have n1_ := Aside0.mk (blk_below (g := gb172) (o := .cells #[.int .u8 a0_0, .bool a0_1, .int .u8 a0_2, .int .u8 a0_3, .int .u8 a0_4, .int .u8 a0_5] 38 (0, 0)) (by (with_reducible repeat (first | refine blk_drewN ?_ _ | refine blk_drew ?_ | refine blk_alloc ?_ _)); exact BK172.out) hb); have n2_ := Aside0.mk (blk_below (g := gb173) (o := .cells #[.int .u8 a1_0, .bool a1_1, .int .u8 a1_2, .int .u8 a1_3, .int .u8 a1_4, .int .u8 a1_5] 38 (0, 0)) (by (with_reducible repeat (first | refine blk_drewN ?_ _ | refine blk_drew ?_ | refine blk_alloc ?_ _)); exact BK173.out) hb); have n3_ := Aside0.mk (below_step (by repeat (first | (with_reducible first | exact HB.out | apply below_alloc | apply pw_below_drewN | apply below_drew1 | refine below_set ?_ GE172.out | refine below_set ?_ GE173.out) | exact HB.out)) hb); clear BK172; clear BK173; clear HB; have HO177 := n0_; have BK172 := n1_; have BK173 := n2_; have HB := n3_; clear n0_ n1_ n2_ n3_; (try clear hb); (try clear hb2); (try clear hk); (try clear hi); (try clear ho0)))
    (try simp only [Act.put, List.setIfInBounds_toArray, List.set_cons_zero, List.set_cons_succ])
    go_cut [37] (fun v37 wc => ∃ (kq : Nat) (x37_5 : Bool), v37 = .bool x37_5 ∧ Aside0 (vitrinelaw05_AttrMakes.j0 kq t175 x37_5 a0_0 a0_1 a0_2 a0_3 a0_4 a0_5 a1_0 a1_1 a1_2 a1_3 a1_4 a1_5 = some r) ∧ Aside0 (kq ≤ k) ∧ Aside0 (Kd.R k40 40 wc w.heap.size (fun _ => True) v176 t175) ∧ Aside0 (wc.heap[gb172]? = some (.cells #[.int .u8 a0_0, .bool a0_1, .int .u8 a0_2, .int .u8 a0_3, .int .u8 a0_4, .int .u8 a0_5] 38 (0, 0))) ∧ Aside0 (wc.heap[gb173]? = some (.cells #[.int .u8 a1_0, .bool a1_1, .int .u8 a1_2, .int .u8 a1_3, .int .u8 a1_4, .int .u8 a1_5] 38 (0, 0))) ∧ Aside0 (Below w.heap.size w wc))
    case first =>
      have H := HC6.out
      clear HC6
      replace H := Option.bind_eq_some_iff.mp H
      obtain ⟨t178, A130, H⟩ := H
      replace H : ((vitrineref05_Pairs.f k a0_0 a0_1 a0_2 a0_3 a0_4 a0_5).bind fun t181 => ((vitrineref05_Pair.f k t178 t181).bind fun t184 => (if t184 = true then ((attr_Diff.f a0_0 a0_1 a0_2 a0_3 a0_4 a0_5 a1_0 a1_1 a1_2 a1_3 a1_4 a1_5).bind fun t185 => ((vitrinelaw05_back.f k t185).bind fun t188 => ((vitrineref05_Diff.f k a0_0 a0_1 a0_2 a0_3 a0_4 a0_5 a1_0 a1_1 a1_2 a1_3 a1_4 a1_5).bind fun t191 => ((vitrineref05_Pair.f k t188 t191).bind fun t194 => (vitrinelaw05_AttrMakes.j0 k t175 (!t194) a0_0 a0_1 a0_2 a0_3 a0_4 a0_5 a1_0 a1_1 a1_2 a1_3 a1_4 a1_5))))) else (none)))) = some r := H
      have A13 := Aside0.mk A130
      clear A130
      replace H := Option.bind_eq_some_iff.mp H
      obtain ⟨t181, A140, H⟩ := H
      replace H : ((vitrineref05_Pair.f k t178 t181).bind fun t184 => (if t184 = true then ((attr_Diff.f a0_0 a0_1 a0_2 a0_3 a0_4 a0_5 a1_0 a1_1 a1_2 a1_3 a1_4 a1_5).bind fun t185 => ((vitrinelaw05_back.f k t185).bind fun t188 => ((vitrineref05_Diff.f k a0_0 a0_1 a0_2 a0_3 a0_4 a0_5 a1_0 a1_1 a1_2 a1_3 a1_4 a1_5).bind fun t191 => ((vitrineref05_Pair.f k t188 t191).bind fun t194 => (vitrinelaw05_AttrMakes.j0 k t175 (!t194) a0_0 a0_1 a0_2 a0_3 a0_4 a0_5 a1_0 a1_1 a1_2 a1_3 a1_4 a1_5))))) else (none))) = some r := H
      have A14 := Aside0.mk A140
      clear A140
      replace H := Option.bind_eq_some_iff.mp H
      obtain ⟨t184, A150, H⟩ := H
      replace H : (if t184 = true then ((attr_Diff.f a0_0 a0_1 a0_2 a0_3 a0_4 a0_5 a1_0 a1_1 a1_2 a1_3 a1_4 a1_5).bind fun t185 => ((vitrinelaw05_back.f k t185).bind fun t188 => ((vitrineref05_Diff.f k a0_0 a0_1 a0_2 a0_3 a0_4 a0_5 a1_0 a1_1 a1_2 a1_3 a1_4 a1_5).bind fun t191 => ((vitrineref05_Pair.f k t188 t191).bind fun t194 => (vitrinelaw05_AttrMakes.j0 k t175 (!t194) a0_0 a0_1 a0_2 a0_3 a0_4 a0_5 a1_0 a1_1 a1_2 a1_3 a1_4 a1_5))))) else (none)) = some r := H
      have A15 := Aside0.mk A150
      clear A150
      by_cases c16 : t184 = true
      · subst c16
        have H1 : ((attr_Diff.f a0_0 a0_1 a0_2 a0_3 a0_4 a0_5 a1_0 a1_1 a1_2 a1_3 a1_4 a1_5).bind fun t185 => ((vitrinelaw05_back.f k t185).bind fun t188 => ((vitrineref05_Diff.f k a0_0 a0_1 a0_2 a0_3 a0_4 a0_5 a1_0 a1_1 a1_2 a1_3 a1_4 a1_5).bind fun t191 => ((vitrineref05_Pair.f k t188 t191).bind fun t194 => (vitrinelaw05_AttrMakes.j0 k t175 (!t194) a0_0 a0_1 a0_2 a0_3 a0_4 a0_5 a1_0 a1_1 a1_2 a1_3 a1_4 a1_5))))) = some r := by rw [if_pos rfl] at H; exact H
        clear H
        have H := H1
        clear H1
        replace H := Option.bind_eq_some_iff.mp H
        obtain ⟨t185, A170, H⟩ := H
        replace H : ((vitrinelaw05_back.f k t185).bind fun t188 => ((vitrineref05_Diff.f k a0_0 a0_1 a0_2 a0_3 a0_4 a0_5 a1_0 a1_1 a1_2 a1_3 a1_4 a1_5).bind fun t191 => ((vitrineref05_Pair.f k t188 t191).bind fun t194 => (vitrinelaw05_AttrMakes.j0 k t175 (!t194) a0_0 a0_1 a0_2 a0_3 a0_4 a0_5 a1_0 a1_1 a1_2 a1_3 a1_4 a1_5)))) = some r := H
        have A17 := Aside0.mk A170
        clear A170
        replace H := Option.bind_eq_some_iff.mp H
        obtain ⟨t188, A180, H⟩ := H
        replace H : ((vitrineref05_Diff.f k a0_0 a0_1 a0_2 a0_3 a0_4 a0_5 a1_0 a1_1 a1_2 a1_3 a1_4 a1_5).bind fun t191 => ((vitrineref05_Pair.f k t188 t191).bind fun t194 => (vitrinelaw05_AttrMakes.j0 k t175 (!t194) a0_0 a0_1 a0_2 a0_3 a0_4 a0_5 a1_0 a1_1 a1_2 a1_3 a1_4 a1_5))) = some r := H
        have A18 := Aside0.mk A180
        clear A180
        replace H := Option.bind_eq_some_iff.mp H
        obtain ⟨t191, A190, H⟩ := H
        replace H : ((vitrineref05_Pair.f k t188 t191).bind fun t194 => (vitrinelaw05_AttrMakes.j0 k t175 (!t194) a0_0 a0_1 a0_2 a0_3 a0_4 a0_5 a1_0 a1_1 a1_2 a1_3 a1_4 a1_5)) = some r := H
        have A19 := Aside0.mk A190
        clear A190
        replace H := Option.bind_eq_some_iff.mp H
        obtain ⟨t194, A200, H⟩ := H
        replace H : (vitrinelaw05_AttrMakes.j0 k t175 (!t194) a0_0 a0_1 a0_2 a0_3 a0_4 a0_5 a1_0 a1_1 a1_2 a1_3 a1_4 a1_5) = some r := H
        have A20 := Aside0.mk A200
        clear A200
        have H' := Aside0.mk H
        clear H
        try go_wp2
        have n0_ := Aside0.mk (Kd.R_drew HO177.out)
        have n1_ := Aside0.mk (blk_drew BK172.out)
        have n2_ := Aside0.mk (blk_drew BK173.out)
        have n3_ := Aside0.mk (below_drew1 HB.out)
        clear HO177
        clear BK172
        clear BK173
        clear HB
        have HO177 := n0_
        have BK172 := n1_
        have BK173 := n2_
        have HB := n3_
        clear n0_ n1_ n2_ n3_
        obtain ⟨Ao22, co22, eo22⟩ := Kd.R_slice HO177.out
        (first | subst eo22 | (injection eo22 with f1_ f2_ f3_; have f4_ := f1_.symm; have f5_ := f3_.symm; clear f1_ f2_ f3_; subst f4_; subst f5_))
        refine start_ (n := 17) (S := fun w' => w'.cell? ⟨gb172, 0, none⟩ = some (.int .u8 a0_0) ∧ w'.cell? ⟨gb172, 1, none⟩ = some (.bool a0_1) ∧ w'.cell? ⟨gb172, 2, none⟩ = some (.int .u8 a0_2) ∧ w'.cell? ⟨gb172, 3, none⟩ = some (.int .u8 a0_3) ∧ w'.cell? ⟨gb172, 4, none⟩ = some (.int .u8 a0_4) ∧ w'.cell? ⟨gb172, 5, none⟩ = some (.int .u8 a0_5) ∧ w'.cell? ⟨gb173, 0, none⟩ = some (.int .u8 a1_0) ∧ w'.cell? ⟨gb173, 1, none⟩ = some (.bool a1_1) ∧ w'.cell? ⟨gb173, 2, none⟩ = some (.int .u8 a1_2) ∧ w'.cell? ⟨gb173, 3, none⟩ = some (.int .u8 a1_3) ∧ w'.cell? ⟨gb173, 4, none⟩ = some (.int .u8 a1_4) ∧ w'.cell? ⟨gb173, 5, none⟩ = some (.int .u8 a1_5)) (ds := []) #[false, false, false, false, false, false, false, false, false, false, false, false, false, false, false, false, false] (by kernel_rfl) rfl rfl ⟨(blk_cell BK172.out 0).trans rfl, (blk_cell BK172.out 1).trans rfl, (blk_cell BK172.out 2).trans rfl, (blk_cell BK172.out 3).trans rfl, (blk_cell BK172.out 4).trans rfl, (blk_cell BK172.out 5).trans rfl, (blk_cell BK173.out 0).trans rfl, (blk_cell BK173.out 1).trans rfl, (blk_cell BK173.out 2).trans rfl, (blk_cell BK173.out 3).trans rfl, (blk_cell BK173.out 4).trans rfl, (blk_cell BK173.out 5).trans rfl⟩ (fun hHeld => ?_); refine with_tabW vitrinelaw05_AttrMakes.tab4 vitrinelaw05_AttrMakes.bits4 (fun HT_ HW_ => ?_)
        generalize w12.drew = w21 at HO177 BK172 BK173 HB hHeld ⊢
        refine pure_ (i := 0) (N := some 21) (v := ?_) (a' := ?_) #[true, false, false, false, false, false, false, false, false, false, false, false, false, false, false, false, false] rfl rfl (any_of HT_.out (by kernel_rfl)) (fun _ _ _ h => h) (Or.inl ⟨by rfl, ?_⟩) ?_ ?_
        rotate_left
        · intro w'
          go_simp
          with_reducible rfl
        rotate_left
        · simp only [Act.put, List.setIfInBounds_toArray, List.set_cons_zero, List.set_cons_succ, i64_w, i32_w]
          rfl
        refine take_ (i := 2) (N := some 23) (v := ?_) (a' := ?_) #[true, false, true, false, false, false, false, false, false, false, false, false, false, false, false, false, false] rfl rfl (take_ofW HT_.out HW_.out (by kernel_rfl)) (fun _ _ _ h => h) (Or.inl ⟨by rfl, ?_⟩) hHeld ?_ ?_
        rotate_left
        · rintro w' ⟨s0, s1, s2, s3, s4, s5, s6, s7, s8, s9, s10, s11⟩
          go_simp
          with_reducible rfl
        rotate_left
        · simp only [Act.put, List.setIfInBounds_toArray, List.set_cons_zero, List.set_cons_succ, i64_w, i32_w]
          rfl
        refine one_ (i := 1) (N := some 22) #[true, true, true, false, false, false, false, false, false, false, false, false, false, false, false, false, false] rfl rfl (one_of HT_.out (by kernel_rfl)) (by decide) (fun K hK => ?_)
        refine goes_ Try.func27 (by kernel_rfl) rfl #[.slice Ao22 t175.length co22] (by rfl) rfl rfl (by (try simp only [List.map_toArray, List.map_cons, List.map_nil]); first | done | rfl | (simp only [List.length_drop, List.length_take]; rfl)) ?_
        with_reducible refine (vitrinelaw05_back.calls k _ _ t175 t178 _ ?side1 ?side2 A13.out).mono ?_
        (case side1 => repeat (first | exact (Kd.R_reads' HO177.out).2.2 | (with_reducible refine Kd.C_alloc ?_ _) | (with_reducible refine Kd.C_drewN ?_ _) | (with_reducible refine Kd.C_drew ?_)))
        (case side2 => exact (Kd.R_reads' HO177.out).2.1)
        rintro e w23 ⟨v179, rfl, ho0, hb⟩
        refine ⟨_, rfl, ?_⟩
        have n0_ := Aside0.mk (Kd.R_below (by (with_reducible repeat (first | apply Kd.R_alloc | apply Kd.R_drewN | apply Kd.R_drew)); exact HO177.out) hb)
        have n1_ := Aside0.mk (Kd.R_lower ho0 (below_size (by repeat (first | (with_reducible first | exact HB.out | apply below_alloc | apply pw_below_drewN | apply below_drew1 | refine below_set ?_ GE172.out | refine below_set ?_ GE173.out) | exact HB.out))))
        have n2_ := Aside0.mk (blk_below (g := gb172) (o := .cells #[.int .u8 a0_0, .bool a0_1, .int .u8 a0_2, .int .u8 a0_3, .int .u8 a0_4, .int .u8 a0_5] 38 (0, 0)) (by (with_reducible repeat (first | refine blk_drewN ?_ _ | refine blk_drew ?_ | refine blk_alloc ?_ _)); exact BK172.out) hb)
        have n3_ := Aside0.mk (blk_below (g := gb173) (o := .cells #[.int .u8 a1_0, .bool a1_1, .int .u8 a1_2, .int .u8 a1_3, .int .u8 a1_4, .int .u8 a1_5] 38 (0, 0)) (by (with_reducible repeat (first | refine blk_drewN ?_ _ | refine blk_drew ?_ | refine blk_alloc ?_ _)); exact BK173.out) hb)
        have n4_ := Aside0.mk (below_step (by repeat (first | (with_reducible first | exact HB.out | apply below_alloc | apply pw_below_drewN | apply below_drew1 | refine below_set ?_ GE172.out | refine below_set ?_ GE173.out) | exact HB.out)) hb)
        clear HO177
        clear BK172
        clear BK173
        clear HB
        have HO177 := n0_
        have HO180 := n1_
        have BK172 := n2_
        have BK173 := n3_
        have HB := n4_
        clear n0_ n1_ n2_ n3_ n4_
        (try clear hb)
        (try clear hb2)
        (try clear hk)
        (try clear hi)
        (try clear ho0)
        refine hK.out _ _ ⟨(blk_cell BK172.out 0).trans rfl, (blk_cell BK172.out 1).trans rfl, (blk_cell BK172.out 2).trans rfl, (blk_cell BK172.out 3).trans rfl, (blk_cell BK172.out 4).trans rfl, (blk_cell BK172.out 5).trans rfl, (blk_cell BK173.out 0).trans rfl, (blk_cell BK173.out 1).trans rfl, (blk_cell BK173.out 2).trans rfl, (blk_cell BK173.out 3).trans rfl, (blk_cell BK173.out 4).trans rfl, (blk_cell BK173.out 5).trans rfl⟩ (fun hHeld => ?_)
        clear hK K
        refine norm_ (a' := ?_) ?_ ?_
        rotate_left
        · show Act.put _ (some 22) _ = _
          simp only [Act.put, List.setIfInBounds_toArray, List.set_cons_zero, List.set_cons_succ, i64_w, i32_w]
          rfl
        refine one_ (i := 3) (N := some 24) #[true, true, true, true, false, false, false, false, false, false, false, false, false, false, false, false, false] rfl rfl (one_of HT_.out (by kernel_rfl)) (by decide) (fun K hK => ?_)
        refine goes_ Try.func32 (by kernel_rfl) rfl #[.agg #[.int .u8 a0_0, .bool a0_1, .int .u8 a0_2, .int .u8 a0_3, .int .u8 a0_4, .int .u8 a0_5]] (by rfl) rfl rfl (by (try simp only [List.map_toArray, List.map_cons, List.map_nil]); first | done | rfl | (simp only [List.length_drop, List.length_take]; rfl)) ?_
        with_reducible refine (vitrineref05_Pairs.calls k a0_0 a0_1 a0_2 a0_3 a0_4 a0_5 t181 _ A14.out).mono ?_
        rintro e w24 ⟨v182, rfl, ho0, hb⟩
        refine ⟨_, rfl, ?_⟩
        have n0_ := Aside0.mk (Kd.R_below (by (with_reducible repeat (first | apply Kd.R_alloc | apply Kd.R_drewN | apply Kd.R_drew)); exact HO177.out) hb)
        have n1_ := Aside0.mk (Kd.R_elder' (by (with_reducible repeat (first | apply Kd.R_alloc | apply Kd.R_drewN | apply Kd.R_drew)); exact HO180.out) (Kd.R_base ho0) hb)
        have n2_ := Aside0.mk (Kd.R_lower (Kd.R_new' ho0 (Kd.R_lt (by (with_reducible repeat (first | apply Kd.R_alloc | apply Kd.R_drewN | apply Kd.R_drew)); exact HO180.out))) (below_size (by repeat (first | (with_reducible first | exact HB.out | apply below_alloc | apply pw_below_drewN | apply below_drew1 | refine below_set ?_ GE172.out | refine below_set ?_ GE173.out) | exact HB.out))))
        have n3_ := Aside0.mk (blk_below (g := gb172) (o := .cells #[.int .u8 a0_0, .bool a0_1, .int .u8 a0_2, .int .u8 a0_3, .int .u8 a0_4, .int .u8 a0_5] 38 (0, 0)) (by (with_reducible repeat (first | refine blk_drewN ?_ _ | refine blk_drew ?_ | refine blk_alloc ?_ _)); exact BK172.out) hb)
        have n4_ := Aside0.mk (blk_below (g := gb173) (o := .cells #[.int .u8 a1_0, .bool a1_1, .int .u8 a1_2, .int .u8 a1_3, .int .u8 a1_4, .int .u8 a1_5] 38 (0, 0)) (by (with_reducible repeat (first | refine blk_drewN ?_ _ | refine blk_drew ?_ | refine blk_alloc ?_ _)); exact BK173.out) hb)
        have n5_ := Aside0.mk (below_step (by repeat (first | (with_reducible first | exact HB.out | apply below_alloc | apply pw_below_drewN | apply below_drew1 | refine below_set ?_ GE172.out | refine below_set ?_ GE173.out) | exact HB.out)) hb)
        clear HO177
        clear HO180
        clear BK172
        clear BK173
        clear HB
        have HO177 := n0_
        have HO180 := n1_
        have HO183 := n2_
        have BK172 := n3_
        have BK173 := n4_
        have HB := n5_
        clear n0_ n1_ n2_ n3_ n4_ n5_
        (try clear hb)
        (try clear hb2)
        (try clear hk)
        (try clear hi)
        (try clear ho0)
        obtain ⟨Ao25, co25, eo25⟩ := Kd.R_slice HO180.out
        (first | subst eo25 | (injection eo25 with f1_ f2_ f3_; have f4_ := f1_.symm; have f5_ := f3_.symm; clear f1_ f2_ f3_; subst f4_; subst f5_))
        obtain ⟨Ao26, co26, eo26⟩ := Kd.R_slice HO183.out
        (first | subst eo26 | (injection eo26 with f1_ f2_ f3_; have f4_ := f1_.symm; have f5_ := f3_.symm; clear f1_ f2_ f3_; subst f4_; subst f5_))
        refine hK.out _ _ ⟨(blk_cell BK172.out 0).trans rfl, (blk_cell BK172.out 1).trans rfl, (blk_cell BK172.out 2).trans rfl, (blk_cell BK172.out 3).trans rfl, (blk_cell BK172.out 4).trans rfl, (blk_cell BK172.out 5).trans rfl, (blk_cell BK173.out 0).trans rfl, (blk_cell BK173.out 1).trans rfl, (blk_cell BK173.out 2).trans rfl, (blk_cell BK173.out 3).trans rfl, (blk_cell BK173.out 4).trans rfl, (blk_cell BK173.out 5).trans rfl⟩ (fun hHeld => ?_)
        clear hK K
        refine norm_ (a' := ?_) ?_ ?_
        rotate_left
        · show Act.put _ (some 24) _ = _
          simp only [Act.put, List.setIfInBounds_toArray, List.set_cons_zero, List.set_cons_succ, i64_w, i32_w]
          rfl
        refine one_ (i := 4) (N := some 25) #[true, true, true, true, true, false, false, false, false, false, false, false, false, false, false, false, false] rfl rfl (one_of HT_.out (by kernel_rfl)) (by decide) (fun K hK => ?_)
        refine goes_ Try.func26 (by kernel_rfl) rfl #[.slice Ao25 t178.length co25, .slice Ao26 t181.length co26] (by rfl) rfl rfl (by (try simp only [List.map_toArray, List.map_cons, List.map_nil]); first | done | rfl | (simp only [List.length_drop, List.length_take]; rfl)) ?_
        with_reducible refine (vitrineref05_Pair.calls k _ _ t178 _ _ t181 true _ ?side1 ?side2 ?side3 ?side4 A15.out).mono ?_
        (case side1 => repeat (first | exact (Kd.R_reads' HO180.out).2.2 | (with_reducible refine Kd.C_alloc ?_ _) | (with_reducible refine Kd.C_drewN ?_ _) | (with_reducible refine Kd.C_drew ?_)))
        (case side2 => exact (Kd.R_reads' HO180.out).2.1)
        (case side3 => repeat (first | exact (Kd.R_reads' HO183.out).2.2 | (with_reducible refine Kd.C_alloc ?_ _) | (with_reducible refine Kd.C_drewN ?_ _) | (with_reducible refine Kd.C_drew ?_)))
        (case side4 => exact (Kd.R_reads' HO183.out).2.1)
        rintro e w' ⟨rfl, ⟨nd, rfl⟩⟩
        refine ⟨_, rfl, ?_⟩
        refine hK.out _ _ ⟨(blk_cell BK172.out 0).trans rfl, (blk_cell BK172.out 1).trans rfl, (blk_cell BK172.out 2).trans rfl, (blk_cell BK172.out 3).trans rfl, (blk_cell BK172.out 4).trans rfl, (blk_cell BK172.out 5).trans rfl, (blk_cell BK173.out 0).trans rfl, (blk_cell BK173.out 1).trans rfl, (blk_cell BK173.out 2).trans rfl, (blk_cell BK173.out 3).trans rfl, (blk_cell BK173.out 4).trans rfl, (blk_cell BK173.out 5).trans rfl⟩ (fun hHeld => ?_)
        clear hK K
        refine norm_ (a' := ?_) ?_ ?_
        rotate_left
        · show Act.put _ (some 25) _ = _
          simp only [Act.put, List.setIfInBounds_toArray, List.set_cons_zero, List.set_cons_succ, i64_w, i32_w]
          rfl
        refine pure_ (i := 5) (N := some 26) (v := ?_) (a' := ?_) #[true, true, true, true, true, true, false, false, false, false, false, false, false, false, false, false, false] rfl rfl (any_of HT_.out (by kernel_rfl)) (fun _ _ _ h => h) (Or.inl ⟨by rfl, ?_⟩) ?_ ?_
        rotate_left
        · intro w'
          go_simp
          with_reducible rfl
        rotate_left
        · simp only [Act.put, List.setIfInBounds_toArray, List.set_cons_zero, List.set_cons_succ, i64_w, i32_w]
          rfl
        refine pure_ (i := 6) (N := some 27) (v := ?_) (a' := ?_) #[true, true, true, true, true, true, true, false, false, false, false, false, false, false, false, false, false] rfl rfl (any_of HT_.out (by kernel_rfl)) (fun _ _ _ h => h) (Or.inl ⟨by rfl, ?_⟩) ?_ ?_
        rotate_left
        · intro w'
          go_simp
          with_reducible rfl
        rotate_left
        · simp only [Act.put, List.setIfInBounds_toArray, List.set_cons_zero, List.set_cons_succ, i64_w, i32_w]
          rfl
        refine take_ (i := 7) (N := some 28) (v := ?_) (a' := ?_) #[true, true, true, true, true, true, true, true, false, false, false, false, false, false, false, false, false] rfl rfl (take_ofW HT_.out HW_.out (by kernel_rfl)) (fun _ _ _ h => h) (Or.inl ⟨by rfl, ?_⟩) hHeld ?_ ?_
        rotate_left
        · rintro w' ⟨s0, s1, s2, s3, s4, s5, s6, s7, s8, s9, s10, s11⟩
          go_simp
          with_reducible rfl
        rotate_left
        · simp only [Act.put, List.setIfInBounds_toArray, List.set_cons_zero, List.set_cons_succ, i64_w, i32_w]
          rfl
        refine take_ (i := 8) (N := some 29) (v := ?_) (a' := ?_) #[true, true, true, true, true, true, true, true, true, false, false, false, false, false, false, false, false] rfl rfl (take_ofW HT_.out HW_.out (by kernel_rfl)) (fun _ _ _ h => h) (Or.inl ⟨by rfl, ?_⟩) hHeld ?_ ?_
        rotate_left
        · rintro w' ⟨s0, s1, s2, s3, s4, s5, s6, s7, s8, s9, s10, s11⟩
          go_simp
          with_reducible rfl
        rotate_left
        · simp only [Act.put, List.setIfInBounds_toArray, List.set_cons_zero, List.set_cons_succ, i64_w, i32_w]
          rfl
        refine take_ (i := 11) (N := some 32) (v := ?_) (a' := ?_) #[true, true, true, true, true, true, true, true, true, false, false, true, false, false, false, false, false] rfl rfl (take_ofW HT_.out HW_.out (by kernel_rfl)) (fun _ _ _ h => h) (Or.inl ⟨by rfl, ?_⟩) hHeld ?_ ?_
        rotate_left
        · rintro w' ⟨s0, s1, s2, s3, s4, s5, s6, s7, s8, s9, s10, s11⟩
          go_simp
          with_reducible rfl
        rotate_left
        · simp only [Act.put, List.setIfInBounds_toArray, List.set_cons_zero, List.set_cons_succ, i64_w, i32_w]
          rfl
        refine take_ (i := 12) (N := some 33) (v := ?_) (a' := ?_) #[true, true, true, true, true, true, true, true, true, false, false, true, true, false, false, false, false] rfl rfl (take_ofW HT_.out HW_.out (by kernel_rfl)) (fun _ _ _ h => h) (Or.inl ⟨by rfl, ?_⟩) hHeld ?_ ?_
        rotate_left
        · rintro w' ⟨s0, s1, s2, s3, s4, s5, s6, s7, s8, s9, s10, s11⟩
          go_simp
          with_reducible rfl
        rotate_left
        · simp only [Act.put, List.setIfInBounds_toArray, List.set_cons_zero, List.set_cons_succ, i64_w, i32_w]
          rfl
        refine one_ (i := 9) (N := some 30) #[true, true, true, true, true, true, true, true, true, true, false, true, true, false, false, false, false] rfl rfl (one_of HT_.out (by kernel_rfl)) (by decide) (fun K hK => ?_)
        refine goes_ Try.func33 (by kernel_rfl) rfl #[.agg #[.int .u8 a0_0, .bool a0_1, .int .u8 a0_2, .int .u8 a0_3, .int .u8 a0_4, .int .u8 a0_5], .agg #[.int .u8 a1_0, .bool a1_1, .int .u8 a1_2, .int .u8 a1_3, .int .u8 a1_4, .int .u8 a1_5]] (by rfl) rfl rfl (by (try simp only [List.map_toArray, List.map_cons, List.map_nil]); first | done | rfl | (simp only [List.length_drop, List.length_take]; rfl)) ?_
        with_reducible refine (attr_Diff.calls a0_0 a0_1 a0_2 a0_3 a0_4 a0_5 a1_0 a1_1 a1_2 a1_3 a1_4 a1_5 t185 _ A17.out).mono ?_
        rintro e w27 ⟨v186, rfl, ho0, hb⟩
        refine ⟨_, rfl, ?_⟩
        have n0_ := Aside0.mk (Kd.R_elder' (by (with_reducible repeat (first | apply Kd.R_alloc | apply Kd.R_drewN | apply Kd.R_drew)); exact HO177.out) (Kd.R_base ho0) hb)
        have n1_ := Aside0.mk (Kd.R_below (by (with_reducible repeat (first | apply Kd.R_alloc | apply Kd.R_drewN | apply Kd.R_drew)); exact HO180.out) hb)
        have n2_ := Aside0.mk (Kd.R_below (by (with_reducible repeat (first | apply Kd.R_alloc | apply Kd.R_drewN | apply Kd.R_drew)); exact HO183.out) hb)
        have n3_ := Aside0.mk (Kd.R_lower (Kd.R_new' ho0 (Kd.R_lt (by (with_reducible repeat (first | apply Kd.R_alloc | apply Kd.R_drewN | apply Kd.R_drew)); exact HO177.out))) (below_size (by repeat (first | (with_reducible first | exact HB.out | apply below_alloc | apply pw_below_drewN | apply below_drew1 | refine below_set ?_ GE172.out | refine below_set ?_ GE173.out) | exact HB.out))))
        have n4_ := Aside0.mk (blk_below (g := gb172) (o := .cells #[.int .u8 a0_0, .bool a0_1, .int .u8 a0_2, .int .u8 a0_3, .int .u8 a0_4, .int .u8 a0_5] 38 (0, 0)) (by (with_reducible repeat (first | refine blk_drewN ?_ _ | refine blk_drew ?_ | refine blk_alloc ?_ _)); exact BK172.out) hb)
        have n5_ := Aside0.mk (blk_below (g := gb173) (o := .cells #[.int .u8 a1_0, .bool a1_1, .int .u8 a1_2, .int .u8 a1_3, .int .u8 a1_4, .int .u8 a1_5] 38 (0, 0)) (by (with_reducible repeat (first | refine blk_drewN ?_ _ | refine blk_drew ?_ | refine blk_alloc ?_ _)); exact BK173.out) hb)
        have n6_ := Aside0.mk (below_step (by repeat (first | (with_reducible first | exact HB.out | apply below_alloc | apply pw_below_drewN | apply below_drew1 | refine below_set ?_ GE172.out | refine below_set ?_ GE173.out) | exact HB.out)) hb)
        clear HO177
        clear HO180
        clear HO183
        clear BK172
        clear BK173
        clear HB
        have HO177 := n0_
        have HO180 := n1_
        have HO183 := n2_
        have HO187 := n3_
        have BK172 := n4_
        have BK173 := n5_
        have HB := n6_
        clear n0_ n1_ n2_ n3_ n4_ n5_ n6_
        (try clear hb)
        (try clear hb2)
        (try clear hk)
        (try clear hi)
        (try clear ho0)
        obtain ⟨Ao28, co28, eo28⟩ := Kd.R_slice HO187.out
        (first | subst eo28 | (injection eo28 with f1_ f2_ f3_; have f4_ := f1_.symm; have f5_ := f3_.symm; clear f1_ f2_ f3_; subst f4_; subst f5_))
        refine hK.out _ _ ⟨(blk_cell BK172.out 0).trans rfl, (blk_cell BK172.out 1).trans rfl, (blk_cell BK172.out 2).trans rfl, (blk_cell BK172.out 3).trans rfl, (blk_cell BK172.out 4).trans rfl, (blk_cell BK172.out 5).trans rfl, (blk_cell BK173.out 0).trans rfl, (blk_cell BK173.out 1).trans rfl, (blk_cell BK173.out 2).trans rfl, (blk_cell BK173.out 3).trans rfl, (blk_cell BK173.out 4).trans rfl, (blk_cell BK173.out 5).trans rfl⟩ (fun hHeld => ?_)
        clear hK K
        refine norm_ (a' := ?_) ?_ ?_
        rotate_left
        · show Act.put _ (some 30) _ = _
          simp only [Act.put, List.setIfInBounds_toArray, List.set_cons_zero, List.set_cons_succ, i64_w, i32_w]
          rfl
        refine one_ (i := 10) (N := some 31) #[true, true, true, true, true, true, true, true, true, true, true, true, true, false, false, false, false] rfl rfl (one_of HT_.out (by kernel_rfl)) (by decide) (fun K hK => ?_)
        refine goes_ Try.func27 (by kernel_rfl) rfl #[.slice Ao28 t185.length co28] (by rfl) rfl rfl (by (try simp only [List.map_toArray, List.map_cons, List.map_nil]); first | done | rfl | (simp only [List.length_drop, List.length_take]; rfl)) ?_
        with_reducible refine (vitrinelaw05_back.calls k _ _ t185 t188 _ ?side1 ?side2 A18.out).mono ?_
        (case side1 => repeat (first | exact (Kd.R_reads' HO187.out).2.2 | (with_reducible refine Kd.C_alloc ?_ _) | (with_reducible refine Kd.C_drewN ?_ _) | (with_reducible refine Kd.C_drew ?_)))
        (case side2 => exact (Kd.R_reads' HO187.out).2.1)
        rintro e w29 ⟨v189, rfl, ho0, hb⟩
        refine ⟨_, rfl, ?_⟩
        have n0_ := Aside0.mk (Kd.R_below (by (with_reducible repeat (first | apply Kd.R_alloc | apply Kd.R_drewN | apply Kd.R_drew)); exact HO177.out) hb)
        have n1_ := Aside0.mk (Kd.R_elder' (by (with_reducible repeat (first | apply Kd.R_alloc | apply Kd.R_drewN | apply Kd.R_drew)); exact HO180.out) (Kd.R_base ho0) hb)
        have n2_ := Aside0.mk (Kd.R_elder' (by (with_reducible repeat (first | apply Kd.R_alloc | apply Kd.R_drewN | apply Kd.R_drew)); exact HO183.out) (Kd.R_base ho0) hb)
        have n3_ := Aside0.mk (Kd.R_below (by (with_reducible repeat (first | apply Kd.R_alloc | apply Kd.R_drewN | apply Kd.R_drew)); exact HO187.out) hb)
        have n4_ := Aside0.mk (Kd.R_lower (Kd.R_new' (Kd.R_new' ho0 (Kd.R_lt (by (with_reducible repeat (first | apply Kd.R_alloc | apply Kd.R_drewN | apply Kd.R_drew)); exact HO180.out))) (Kd.R_lt (by (with_reducible repeat (first | apply Kd.R_alloc | apply Kd.R_drewN | apply Kd.R_drew)); exact HO183.out))) (below_size (by repeat (first | (with_reducible first | exact HB.out | apply below_alloc | apply pw_below_drewN | apply below_drew1 | refine below_set ?_ GE172.out | refine below_set ?_ GE173.out) | exact HB.out))))
        have n5_ := Aside0.mk (blk_below (g := gb172) (o := .cells #[.int .u8 a0_0, .bool a0_1, .int .u8 a0_2, .int .u8 a0_3, .int .u8 a0_4, .int .u8 a0_5] 38 (0, 0)) (by (with_reducible repeat (first | refine blk_drewN ?_ _ | refine blk_drew ?_ | refine blk_alloc ?_ _)); exact BK172.out) hb)
        have n6_ := Aside0.mk (blk_below (g := gb173) (o := .cells #[.int .u8 a1_0, .bool a1_1, .int .u8 a1_2, .int .u8 a1_3, .int .u8 a1_4, .int .u8 a1_5] 38 (0, 0)) (by (with_reducible repeat (first | refine blk_drewN ?_ _ | refine blk_drew ?_ | refine blk_alloc ?_ _)); exact BK173.out) hb)
        have n7_ := Aside0.mk (below_step (by repeat (first | (with_reducible first | exact HB.out | apply below_alloc | apply pw_below_drewN | apply below_drew1 | refine below_set ?_ GE172.out | refine below_set ?_ GE173.out) | exact HB.out)) hb)
        clear HO177
        clear HO180
        clear HO183
        clear HO187
        clear BK172
        clear BK173
        clear HB
        have HO177 := n0_
        have HO180 := n1_
        have HO183 := n2_
        have HO187 := n3_
        have HO190 := n4_
        have BK172 := n5_
        have BK173 := n6_
        have HB := n7_
        clear n0_ n1_ n2_ n3_ n4_ n5_ n6_ n7_
        (try clear hb)
        (try clear hb2)
        (try clear hk)
        (try clear hi)
        (try clear ho0)
        refine hK.out _ _ ⟨(blk_cell BK172.out 0).trans rfl, (blk_cell BK172.out 1).trans rfl, (blk_cell BK172.out 2).trans rfl, (blk_cell BK172.out 3).trans rfl, (blk_cell BK172.out 4).trans rfl, (blk_cell BK172.out 5).trans rfl, (blk_cell BK173.out 0).trans rfl, (blk_cell BK173.out 1).trans rfl, (blk_cell BK173.out 2).trans rfl, (blk_cell BK173.out 3).trans rfl, (blk_cell BK173.out 4).trans rfl, (blk_cell BK173.out 5).trans rfl⟩ (fun hHeld => ?_)
        clear hK K
        refine norm_ (a' := ?_) ?_ ?_
        rotate_left
        · show Act.put _ (some 31) _ = _
          simp only [Act.put, List.setIfInBounds_toArray, List.set_cons_zero, List.set_cons_succ, i64_w, i32_w]
          rfl
        refine one_ (i := 13) (N := some 34) #[true, true, true, true, true, true, true, true, true, true, true, true, true, true, false, false, false] rfl rfl (one_of HT_.out (by kernel_rfl)) (by decide) (fun K hK => ?_)
        refine goes_ Try.func34 (by kernel_rfl) rfl #[.agg #[.int .u8 a0_0, .bool a0_1, .int .u8 a0_2, .int .u8 a0_3, .int .u8 a0_4, .int .u8 a0_5], .agg #[.int .u8 a1_0, .bool a1_1, .int .u8 a1_2, .int .u8 a1_3, .int .u8 a1_4, .int .u8 a1_5]] (by rfl) rfl rfl (by (try simp only [List.map_toArray, List.map_cons, List.map_nil]); first | done | rfl | (simp only [List.length_drop, List.length_take]; rfl)) ?_
        with_reducible refine (vitrineref05_Diff.calls k a0_0 a0_1 a0_2 a0_3 a0_4 a0_5 a1_0 a1_1 a1_2 a1_3 a1_4 a1_5 t191 _ A19.out).mono ?_
        rintro e w30 ⟨v192, rfl, ho0, hb⟩
        refine ⟨_, rfl, ?_⟩
        have n0_ := Aside0.mk (Kd.R_below (by (with_reducible repeat (first | apply Kd.R_alloc | apply Kd.R_drewN | apply Kd.R_drew)); exact HO177.out) hb)
        have n1_ := Aside0.mk (Kd.R_elder' (by (with_reducible repeat (first | apply Kd.R_alloc | apply Kd.R_drewN | apply Kd.R_drew)); exact HO180.out) (Kd.R_base ho0) hb)
        have n2_ := Aside0.mk (Kd.R_elder' (by (with_reducible repeat (first | apply Kd.R_alloc | apply Kd.R_drewN | apply Kd.R_drew)); exact HO183.out) (Kd.R_base ho0) hb)
        have n3_ := Aside0.mk (Kd.R_below (by (with_reducible repeat (first | apply Kd.R_alloc | apply Kd.R_drewN | apply Kd.R_drew)); exact HO187.out) hb)
        have n4_ := Aside0.mk (Kd.R_elder' (by (with_reducible repeat (first | apply Kd.R_alloc | apply Kd.R_drewN | apply Kd.R_drew)); exact HO190.out) (Kd.R_base ho0) hb)
        have n5_ := Aside0.mk (Kd.R_lower (Kd.R_new' (Kd.R_new' (Kd.R_new' ho0 (Kd.R_lt (by (with_reducible repeat (first | apply Kd.R_alloc | apply Kd.R_drewN | apply Kd.R_drew)); exact HO180.out))) (Kd.R_lt (by (with_reducible repeat (first | apply Kd.R_alloc | apply Kd.R_drewN | apply Kd.R_drew)); exact HO183.out))) (Kd.R_lt (by (with_reducible repeat (first | apply Kd.R_alloc | apply Kd.R_drewN | apply Kd.R_drew)); exact HO190.out))) (below_size (by repeat (first | (with_reducible first | exact HB.out | apply below_alloc | apply pw_below_drewN | apply below_drew1 | refine below_set ?_ GE172.out | refine below_set ?_ GE173.out) | exact HB.out))))
        have n6_ := Aside0.mk (blk_below (g := gb172) (o := .cells #[.int .u8 a0_0, .bool a0_1, .int .u8 a0_2, .int .u8 a0_3, .int .u8 a0_4, .int .u8 a0_5] 38 (0, 0)) (by (with_reducible repeat (first | refine blk_drewN ?_ _ | refine blk_drew ?_ | refine blk_alloc ?_ _)); exact BK172.out) hb)
        have n7_ := Aside0.mk (blk_below (g := gb173) (o := .cells #[.int .u8 a1_0, .bool a1_1, .int .u8 a1_2, .int .u8 a1_3, .int .u8 a1_4, .int .u8 a1_5] 38 (0, 0)) (by (with_reducible repeat (first | refine blk_drewN ?_ _ | refine blk_drew ?_ | refine blk_alloc ?_ _)); exact BK173.out) hb)
        have n8_ := Aside0.mk (below_step (by repeat (first | (with_reducible first | exact HB.out | apply below_alloc | apply pw_below_drewN | apply below_drew1 | refine below_set ?_ GE172.out | refine below_set ?_ GE173.out) | exact HB.out)) hb)
        clear HO177
        clear HO180
        clear HO183
        clear HO187
        clear HO190
        clear BK172
        clear BK173
        clear HB
        have HO177 := n0_
        have HO180 := n1_
        have HO183 := n2_
        have HO187 := n3_
        have HO190 := n4_
        have HO193 := n5_
        have BK172 := n6_
        have BK173 := n7_
        have HB := n8_
        clear n0_ n1_ n2_ n3_ n4_ n5_ n6_ n7_ n8_
        (try clear hb)
        (try clear hb2)
        (try clear hk)
        (try clear hi)
        (try clear ho0)
        obtain ⟨Ao31, co31, eo31⟩ := Kd.R_slice HO190.out
        (first | subst eo31 | (injection eo31 with f1_ f2_ f3_; have f4_ := f1_.symm; have f5_ := f3_.symm; clear f1_ f2_ f3_; subst f4_; subst f5_))
        obtain ⟨Ao32, co32, eo32⟩ := Kd.R_slice HO193.out
        (first | subst eo32 | (injection eo32 with f1_ f2_ f3_; have f4_ := f1_.symm; have f5_ := f3_.symm; clear f1_ f2_ f3_; subst f4_; subst f5_))
        refine hK.out _ _ ⟨(blk_cell BK172.out 0).trans rfl, (blk_cell BK172.out 1).trans rfl, (blk_cell BK172.out 2).trans rfl, (blk_cell BK172.out 3).trans rfl, (blk_cell BK172.out 4).trans rfl, (blk_cell BK172.out 5).trans rfl, (blk_cell BK173.out 0).trans rfl, (blk_cell BK173.out 1).trans rfl, (blk_cell BK173.out 2).trans rfl, (blk_cell BK173.out 3).trans rfl, (blk_cell BK173.out 4).trans rfl, (blk_cell BK173.out 5).trans rfl⟩ (fun hHeld => ?_)
        clear hK K
        refine norm_ (a' := ?_) ?_ ?_
        rotate_left
        · show Act.put _ (some 34) _ = _
          simp only [Act.put, List.setIfInBounds_toArray, List.set_cons_zero, List.set_cons_succ, i64_w, i32_w]
          rfl
        refine one_ (i := 14) (N := some 35) #[true, true, true, true, true, true, true, true, true, true, true, true, true, true, true, false, false] rfl rfl (one_of HT_.out (by kernel_rfl)) (by decide) (fun K hK => ?_)
        refine goes_ Try.func26 (by kernel_rfl) rfl #[.slice Ao31 t188.length co31, .slice Ao32 t191.length co32] (by rfl) rfl rfl (by (try simp only [List.map_toArray, List.map_cons, List.map_nil]); first | done | rfl | (simp only [List.length_drop, List.length_take]; rfl)) ?_
        with_reducible refine (vitrineref05_Pair.calls k _ _ t188 _ _ t191 t194 _ ?side1 ?side2 ?side3 ?side4 A20.out).mono ?_
        (case side1 => repeat (first | exact (Kd.R_reads' HO190.out).2.2 | (with_reducible refine Kd.C_alloc ?_ _) | (with_reducible refine Kd.C_drewN ?_ _) | (with_reducible refine Kd.C_drew ?_)))
        (case side2 => exact (Kd.R_reads' HO190.out).2.1)
        (case side3 => repeat (first | exact (Kd.R_reads' HO193.out).2.2 | (with_reducible refine Kd.C_alloc ?_ _) | (with_reducible refine Kd.C_drewN ?_ _) | (with_reducible refine Kd.C_drew ?_)))
        (case side4 => exact (Kd.R_reads' HO193.out).2.1)
        rintro e w' ⟨rfl, ⟨nd, rfl⟩⟩
        refine ⟨_, rfl, ?_⟩
        refine hK.out _ _ ⟨(blk_cell BK172.out 0).trans rfl, (blk_cell BK172.out 1).trans rfl, (blk_cell BK172.out 2).trans rfl, (blk_cell BK172.out 3).trans rfl, (blk_cell BK172.out 4).trans rfl, (blk_cell BK172.out 5).trans rfl, (blk_cell BK173.out 0).trans rfl, (blk_cell BK173.out 1).trans rfl, (blk_cell BK173.out 2).trans rfl, (blk_cell BK173.out 3).trans rfl, (blk_cell BK173.out 4).trans rfl, (blk_cell BK173.out 5).trans rfl⟩ (fun hHeld => ?_)
        clear hK K
        refine norm_ (a' := ?_) ?_ ?_
        rotate_left
        · show Act.put _ (some 35) _ = _
          simp only [Act.put, List.setIfInBounds_toArray, List.set_cons_zero, List.set_cons_succ, i64_w, i32_w]
          rfl
        refine pure_ (i := 15) (N := some 36) (v := ?_) (a' := ?_) #[true, true, true, true, true, true, true, true, true, true, true, true, true, true, true, true, false] rfl rfl (any_of HT_.out (by kernel_rfl)) (fun _ _ _ h => h) (Or.inl ⟨by rfl, ?_⟩) ?_ ?_
        rotate_left
        · intro w'
          go_simp
          with_reducible rfl
        rotate_left
        · simp only [Act.put, List.setIfInBounds_toArray, List.set_cons_zero, List.set_cons_succ, i64_w, i32_w]
          rfl
        refine pure_ (i := 16) (N := some 37) (v := ?_) (a' := ?_) #[true, true, true, true, true, true, true, true, true, true, true, true, true, true, true, true, true] rfl rfl (any_of HT_.out (by kernel_rfl)) (fun _ _ _ h => h) (Or.inl ⟨by rfl, ?_⟩) ?_ ?_
        rotate_left
        · intro w'
          go_simp
          with_reducible rfl
        rotate_left
        · simp only [Act.put, List.setIfInBounds_toArray, List.set_cons_zero, List.set_cons_succ, i64_w, i32_w]
          rfl
        refine done_ (done_of HT_.out (by kernel_rfl)) ?_
        try go_wp2
        go_meet
        case rel => exact ⟨_, (!t194), (by first | rfl | (simp; done) | (simp [*]; done)), H', ⟨by first | omega | exact Nat.le_refl _⟩, ⟨by (with_reducible repeat (first | apply Kd.R_alloc | apply Kd.R_drewN | apply Kd.R_drew)); exact Kd.R_mono HO177.out (fun _ hk => trivial)⟩, ⟨by (with_reducible repeat (first | refine blk_drewN ?_ _ | refine blk_drew ?_ | refine blk_alloc ?_ _)); exact BK172.out⟩, ⟨by (with_reducible repeat (first | refine blk_drewN ?_ _ | refine blk_drew ?_ | refine blk_alloc ?_ _)); exact BK173.out⟩, ⟨by repeat (first | (with_reducible first | exact HB.out | apply below_alloc | apply pw_below_drewN | apply below_drew1 | refine below_set ?_ GE172.out | refine below_set ?_ GE173.out) | exact HB.out)⟩⟩
      · replace c16 := Bool.eq_false_iff.mpr c16
        subst c16
        have H1 : (none) = some r := by rw [if_neg (show ¬ (false = true) by decide)] at H; exact H
        clear H
        have H := H1
        clear H1
        exact absurd H (by simp)
    case rest =>
      clear HC6
      try clear c1
      try clear c2
      try clear p2
      try clear c3
      try clear c4
      try clear c7
      try clear c8
      try clear c10
      try clear c16
      try clear c26
      try clear c27
      try clear c31
      try clear c32
      try clear hcz11_0
      try clear hcz11_1
      try clear hcz11_2
      try clear hcz11_3
      try clear hcz11_4
      try clear hcz11_5
      try clear hfz11_0
      try clear hfz11_1
      try clear hfz11_2
      try clear hfz11_3
      try clear hfz11_4
      try clear hfz11_5
      obtain ⟨kq, x37_5, rfl, HA, HJ5, HO_5, BK172, BK173, HB⟩ := hcut
      cases kq with
      | zero => exact absurd HA.out (by simp [vitrinelaw05_AttrMakes.j0])
      | succ kj5 =>
        have H := HA.out
        clear HA
        simp only [vitrinelaw05_AttrMakes.j0] at H
        by_cases c33 : x37_5 = true
        · subst c33
          have H1 : (none) = some r := by rw [if_pos rfl] at H; exact H
          clear H
          have H := H1
          clear H1
          exact absurd H (by simp)
        · replace c33 := Bool.eq_false_iff.mpr c33
          subst c33
          have H1 : (vitrinelaw05_AttrMakes.l0 kj5 t175 (t175.length : Int) 0 a0_0 a0_1 a0_2 a0_3 a0_4 a0_5 a1_0 a1_1 a1_2 a1_3 a1_4 a1_5 a0_0 a0_1 0 0 0 0) = some r := by rw [if_neg (show ¬ (false = true) by decide)] at H; exact H
          clear H
          have H := H1
          clear H1
          have H' := Aside0.mk H
          clear H
          have hnb34 := NB172_173.out
          have hnc34 := NB173_172.out
          have hcz35_0 : wc.cell? ⟨gb172, 0, none⟩ = some (.int .u8 a0_0) := (blk_cell BK172.out 0).trans rfl
          have hcz35_1 : wc.cell? ⟨gb172, 1, none⟩ = some (.bool a0_1) := (blk_cell BK172.out 1).trans rfl
          have hcz35_2 : wc.cell? ⟨gb172, 2, none⟩ = some (.int .u8 a0_2) := (blk_cell BK172.out 2).trans rfl
          have hcz35_3 : wc.cell? ⟨gb172, 3, none⟩ = some (.int .u8 a0_3) := (blk_cell BK172.out 3).trans rfl
          have hcz35_4 : wc.cell? ⟨gb172, 4, none⟩ = some (.int .u8 a0_4) := (blk_cell BK172.out 4).trans rfl
          have hcz35_5 : wc.cell? ⟨gb172, 5, none⟩ = some (.int .u8 a0_5) := (blk_cell BK172.out 5).trans rfl
          have hfz35_0 := blk_frozen BK172.out 0
          have hfz35_1 := blk_frozen BK172.out 1
          have hfz35_2 := blk_frozen BK172.out 2
          have hfz35_3 := blk_frozen BK172.out 3
          have hfz35_4 := blk_frozen BK172.out 4
          have hfz35_5 := blk_frozen BK172.out 5
          go_wp2_with (first | ((with_reducible refine gate_dst (N := 6) rfl ?_); refine box_event ?hg (N := 6) ?hd (cs := #[.int .u8 0, .bool false, .int .u8 0, .int .u8 0, .int .u8 0, .int .u8 0]) (t := 38) ?hr ?_; (case hd => rfl); (case hg => rfl); (case hr => first | (go_simp; done) | (go_simp; rfl)); intro gb195 hg w36 hbox hb; have n0_ := Aside0.mk (Kd.R_below (by (with_reducible repeat (first | apply Kd.R_alloc | apply Kd.R_drewN | apply Kd.R_drew)); exact HO_5.out) hb); have n1_ := Aside0.mk (blk_below (g := gb172) (o := .cells #[.int .u8 a0_0, .bool a0_1, .int .u8 a0_2, .int .u8 a0_3, .int .u8 a0_4, .int .u8 a0_5] 38 (0, 0)) (by (with_reducible repeat (first | refine blk_drewN ?_ _ | refine blk_drew ?_ | refine blk_alloc ?_ _)); exact BK172.out) hb); have n2_ := Aside0.mk (blk_below (g := gb173) (o := .cells #[.int .u8 a1_0, .bool a1_1, .int .u8 a1_2, .int .u8 a1_3, .int .u8 a1_4, .int .u8 a1_5] 38 (0, 0)) (by (with_reducible repeat (first | refine blk_drewN ?_ _ | refine blk_drew ?_ | refine blk_alloc ?_ _)); exact BK173.out) hb); have n3_ := Aside0.mk (below_step (by repeat (first | (with_reducible first | exact HB.out | apply below_alloc | apply pw_below_drewN | apply below_drew1 | refine below_set ?_ GE172.out | refine below_set ?_ GE173.out) | exact HB.out)) hb); have n4_ := Aside0.mk (hbox); have n5_ := Aside0.mk ((by rw [hg]; exact (below_size (by repeat (first | (with_reducible first | exact HB.out | apply below_alloc | apply pw_below_drewN | apply below_drew1 | refine below_set ?_ GE172.out | refine below_set ?_ GE173.out) | exact HB.out))) : w.heap.size ≤ gb195)); have n6_ := Aside0.mk ((by rw [hg]; exact (below_size (by repeat (first | (with_reducible first | exact HB.out | apply below_alloc | apply pw_below_drewN | apply below_drew1 | refine below_set ?_ GE172.out | refine below_set ?_ GE173.out) | exact HB.out))) : w.heap.size ≤ gb195)); have n7_ := Aside0.mk ((by rw [hg]; exact Nat.ne_of_lt (blk_lt (g := gb172) (o := .cells #[.int .u8 a0_0, .bool a0_1, .int .u8 a0_2, .int .u8 a0_3, .int .u8 a0_4, .int .u8 a0_5] 38 (0, 0)) (by (with_reducible repeat (first | refine blk_drewN ?_ _ | refine blk_drew ?_ | refine blk_alloc ?_ _)); exact BK172.out)) : gb172 ≠ gb195)); have n8_ := Aside0.mk ((by rw [hg]; exact Nat.ne_of_gt (blk_lt (g := gb172) (o := .cells #[.int .u8 a0_0, .bool a0_1, .int .u8 a0_2, .int .u8 a0_3, .int .u8 a0_4, .int .u8 a0_5] 38 (0, 0)) (by (with_reducible repeat (first | refine blk_drewN ?_ _ | refine blk_drew ?_ | refine blk_alloc ?_ _)); exact BK172.out)) : gb195 ≠ gb172)); have n9_ := Aside0.mk ((by rw [hg]; exact Nat.ne_of_lt (blk_lt (g := gb173) (o := .cells #[.int .u8 a1_0, .bool a1_1, .int .u8 a1_2, .int .u8 a1_3, .int .u8 a1_4, .int .u8 a1_5] 38 (0, 0)) (by (with_reducible repeat (first | refine blk_drewN ?_ _ | refine blk_drew ?_ | refine blk_alloc ?_ _)); exact BK173.out)) : gb173 ≠ gb195)); have n10_ := Aside0.mk ((by rw [hg]; exact Nat.ne_of_gt (blk_lt (g := gb173) (o := .cells #[.int .u8 a1_0, .bool a1_1, .int .u8 a1_2, .int .u8 a1_3, .int .u8 a1_4, .int .u8 a1_5] 38 (0, 0)) (by (with_reducible repeat (first | refine blk_drewN ?_ _ | refine blk_drew ?_ | refine blk_alloc ?_ _)); exact BK173.out)) : gb195 ≠ gb173)); clear HO_5; clear BK172; clear BK173; clear HB; have HO_5 := n0_; have BK172 := n1_; have BK173 := n2_; have HB := n3_; have BK195 := n4_; have GW195 := n5_; have GE195 := n6_; have NB172_195 := n7_; have NB195_172 := n8_; have NB173_195 := n9_; have NB195_173 := n10_; clear n0_ n1_ n2_ n3_ n4_ n5_ n6_ n7_ n8_ n9_ n10_; clear hb hbox hg; have hnb37 := NB195_172.out; have hnc37 := NB172_195.out; have hnb38 := NB195_173.out; have hnc38 := NB173_195.out; have hcz39_0 : w36.cell? ⟨gb195, 0, none⟩ = some (.int .u8 0) := (blk_cell BK195.out 0).trans rfl; have hcz39_1 : w36.cell? ⟨gb195, 1, none⟩ = some (.bool false) := (blk_cell BK195.out 1).trans rfl; have hcz39_2 : w36.cell? ⟨gb195, 2, none⟩ = some (.int .u8 0) := (blk_cell BK195.out 2).trans rfl; have hcz39_3 : w36.cell? ⟨gb195, 3, none⟩ = some (.int .u8 0) := (blk_cell BK195.out 3).trans rfl; have hcz39_4 : w36.cell? ⟨gb195, 4, none⟩ = some (.int .u8 0) := (blk_cell BK195.out 4).trans rfl; have hcz39_5 : w36.cell? ⟨gb195, 5, none⟩ = some (.int .u8 0) := (blk_cell BK195.out 5).trans rfl; have hfz39_0 := blk_frozen BK195.out 0; have hfz39_1 := blk_frozen BK195.out 1; have hfz39_2 := blk_frozen BK195.out 2; have hfz39_3 := blk_frozen BK195.out 3; have hfz39_4 := blk_frozen BK195.out 4; have hfz39_5 := blk_frozen BK195.out 5; obtain ⟨Ao40, co40, eo40⟩ := Kd.R_slice HO_5.out; subst eo40))
          go_loopg [45] kj5 (fun kq v45 w' => ∃ (x45_2 : Int) (x196000_2 : Int) (x196001_2 : Bool) (x196002_2 : Int) (x196003_2 : Int) (x196004_2 : Int) (x196005_2 : Int), v45 = .int .i64 x45_2 ∧ Aside0 (vitrinelaw05_AttrMakes.l0 kq t175 (t175.length : Int) x45_2 a0_0 a0_1 a0_2 a0_3 a0_4 a0_5 a1_0 a1_1 a1_2 a1_3 a1_4 a1_5 x196000_2 x196001_2 x196002_2 x196003_2 x196004_2 x196005_2 = some r) ∧ Aside0 (kq ≤ kj5) ∧ Aside0 (Kd.R k40 40 w' w.heap.size (fun _ => True) (.slice Ao40 t175.length co40) t175) ∧ Aside0 (w'.heap[gb172]? = some (.cells #[.int .u8 a0_0, .bool a0_1, .int .u8 a0_2, .int .u8 a0_3, .int .u8 a0_4, .int .u8 a0_5] 38 (0, 0))) ∧ Aside0 (w'.heap[gb173]? = some (.cells #[.int .u8 a1_0, .bool a1_1, .int .u8 a1_2, .int .u8 a1_3, .int .u8 a1_4, .int .u8 a1_5] 38 (0, 0))) ∧ Aside0 (w'.heap[gb195]? = some (.cells #[.int .u8 x196000_2, .bool x196001_2, .int .u8 x196002_2, .int .u8 x196003_2, .int .u8 x196004_2, .int .u8 x196005_2] 38 (0, 0))) ∧ Aside0 (Below w.heap.size w w'))
          case atStart => exact ⟨(0), (a0_0), (a0_1), (0), (0), (0), (0), (by first | rfl | (simp; done) | (simp [*]; done)), H', ⟨Nat.le_refl _⟩, ⟨by (with_reducible repeat (first | apply Kd.R_alloc | apply Kd.R_drewN | apply Kd.R_drew)); exact Kd.R_mono (Kd.R_far (p := ⟨gb195, 5, none⟩) (Kd.R_far (p := ⟨gb195, 4, none⟩) (Kd.R_far (p := ⟨gb195, 3, none⟩) (Kd.R_far (p := ⟨gb195, 2, none⟩) (Kd.R_far (p := ⟨gb195, 1, none⟩) (Kd.R_far (p := ⟨gb195, 0, none⟩) (Kd.R_types HO_5.out BK195.out (by decide)) (fun _ hk => hk.2) (.int .u8 a0_0)) (fun _ hk => hk.2) (.bool a0_1)) (fun _ hk => hk.2) (.int .u8 0)) (fun _ hk => hk.2) (.int .u8 0)) (fun _ hk => hk.2) (.int .u8 0)) (fun _ hk => hk.2) (.int .u8 0)) (fun _ hk => trivial)⟩, ⟨by (with_reducible repeat (first | refine blk_drewN ?_ _ | refine blk_drew ?_ | refine blk_alloc ?_ _)); refine blk_far ?_ NB172_195.out _; (with_reducible repeat (first | refine blk_drewN ?_ _ | refine blk_drew ?_ | refine blk_alloc ?_ _)); refine blk_far ?_ NB172_195.out _; (with_reducible repeat (first | refine blk_drewN ?_ _ | refine blk_drew ?_ | refine blk_alloc ?_ _)); refine blk_far ?_ NB172_195.out _; (with_reducible repeat (first | refine blk_drewN ?_ _ | refine blk_drew ?_ | refine blk_alloc ?_ _)); refine blk_far ?_ NB172_195.out _; (with_reducible repeat (first | refine blk_drewN ?_ _ | refine blk_drew ?_ | refine blk_alloc ?_ _)); refine blk_far ?_ NB172_195.out _; (with_reducible repeat (first | refine blk_drewN ?_ _ | refine blk_drew ?_ | refine blk_alloc ?_ _)); refine blk_far ?_ NB172_195.out _; (with_reducible repeat (first | refine blk_drewN ?_ _ | refine blk_drew ?_ | refine blk_alloc ?_ _)); exact BK172.out⟩, ⟨by (with_reducible repeat (first | refine blk_drewN ?_ _ | refine blk_drew ?_ | refine blk_alloc ?_ _)); refine blk_far ?_ NB173_195.out _; (with_reducible repeat (first | refine blk_drewN ?_ _ | refine blk_drew ?_ | refine blk_alloc ?_ _)); refine blk_far ?_ NB173_195.out _; (with_reducible repeat (first | refine blk_drewN ?_ _ | refine blk_drew ?_ | refine blk_alloc ?_ _)); refine blk_far ?_ NB173_195.out _; (with_reducible repeat (first | refine blk_drewN ?_ _ | refine blk_drew ?_ | refine blk_alloc ?_ _)); refine blk_far ?_ NB173_195.out _; (with_reducible repeat (first | refine blk_drewN ?_ _ | refine blk_drew ?_ | refine blk_alloc ?_ _)); refine blk_far ?_ NB173_195.out _; (with_reducible repeat (first | refine blk_drewN ?_ _ | refine blk_drew ?_ | refine blk_alloc ?_ _)); refine blk_far ?_ NB173_195.out _; (with_reducible repeat (first | refine blk_drewN ?_ _ | refine blk_drew ?_ | refine blk_alloc ?_ _)); exact BK173.out⟩, ⟨by (with_reducible repeat (first | refine blk_drewN ?_ _ | refine blk_drew ?_ | refine blk_alloc ?_ _)); refine blk_put (cs := #[.int .u8 a0_0, .bool a0_1, .int .u8 0, .int .u8 0, .int .u8 0, .int .u8 0]) ?_ 5 _ rfl; (with_reducible repeat (first | refine blk_drewN ?_ _ | refine blk_drew ?_ | refine blk_alloc ?_ _)); refine blk_put (cs := #[.int .u8 a0_0, .bool a0_1, .int .u8 0, .int .u8 0, .int .u8 0, .int .u8 0]) ?_ 4 _ rfl; (with_reducible repeat (first | refine blk_drewN ?_ _ | refine blk_drew ?_ | refine blk_alloc ?_ _)); refine blk_put (cs := #[.int .u8 a0_0, .bool a0_1, .int .u8 0, .int .u8 0, .int .u8 0, .int .u8 0]) ?_ 3 _ rfl; (with_reducible repeat (first | refine blk_drewN ?_ _ | refine blk_drew ?_ | refine blk_alloc ?_ _)); refine blk_put (cs := #[.int .u8 a0_0, .bool a0_1, .int .u8 0, .int .u8 0, .int .u8 0, .int .u8 0]) ?_ 2 _ rfl; (with_reducible repeat (first | refine blk_drewN ?_ _ | refine blk_drew ?_ | refine blk_alloc ?_ _)); refine blk_put (cs := #[.int .u8 a0_0, .bool false, .int .u8 0, .int .u8 0, .int .u8 0, .int .u8 0]) ?_ 1 _ rfl; (with_reducible repeat (first | refine blk_drewN ?_ _ | refine blk_drew ?_ | refine blk_alloc ?_ _)); refine blk_put (cs := #[.int .u8 0, .bool false, .int .u8 0, .int .u8 0, .int .u8 0, .int .u8 0]) ?_ 0 _ rfl; (with_reducible repeat (first | refine blk_drewN ?_ _ | refine blk_drew ?_ | refine blk_alloc ?_ _)); exact BK195.out⟩, ⟨by repeat (first | (with_reducible first | exact HB.out | apply below_alloc | apply pw_below_drewN | apply below_drew1 | refine below_set ?_ GE172.out | refine below_set ?_ GE173.out | refine below_set ?_ GE195.out) | exact HB.out)⟩⟩
          case round =>
            clear H'
            try clear c1
            try clear c2
            try clear p2
            try clear c3
            try clear c4
            try clear c7
            try clear c8
            try clear c10
            try clear c16
            try clear c26
            try clear c27
            try clear c31
            try clear c32
            try clear c33
            try clear c34
            try clear c37
            try clear c38
            try clear hcz11_0
            try clear hcz11_1
            try clear hcz11_2
            try clear hcz11_3
            try clear hcz11_4
            try clear hcz11_5
            try clear hcz35_0
            try clear hcz35_1
            try clear hcz35_2
            try clear hcz35_3
            try clear hcz35_4
            try clear hcz35_5
            try clear hcz39_0
            try clear hcz39_1
            try clear hcz39_2
            try clear hcz39_3
            try clear hcz39_4
            try clear hcz39_5
            try clear hfz11_0
            try clear hfz11_1
            try clear hfz11_2
            try clear hfz11_3
            try clear hfz11_4
            try clear hfz11_5
            try clear hfz35_0
            try clear hfz35_1
            try clear hfz35_2
            try clear hfz35_3
            try clear hfz35_4
            try clear hfz35_5
            try clear hfz39_0
            try clear hfz39_1
            try clear hfz39_2
            try clear hfz39_3
            try clear hfz39_4
            try clear hfz39_5
            try clear p2
            obtain ⟨x45_2, x196000_2, x196001_2, x196002_2, x196003_2, x196004_2, x196005_2, rfl, HA, HK2, HO_43, BK172, BK173, BK195, HB⟩ := hrel
            cases gk with
            | zero => exact absurd HA.out (by simp [vitrinelaw05_AttrMakes.l0])
            | succ k2 =>
              have H := HA.out
              clear HA
              simp only [vitrinelaw05_AttrMakes.l0] at H
              by_cases c41 : x45_2 < (t175.length : Int)
              · rw [if_pos c41] at H
                have c41b0 : decide (x45_2 < (t175.length : Int)) = true := decide_eq_true c41
                clear c41
                by_cases c42 : 0 ≤ x45_2
                · rw [if_pos c42] at H
                  have c42b0 : decide (0 ≤ x45_2) = true := decide_eq_true c42
                  clear c42
                  by_cases c43 : x45_2 < (t175.length : Int)
                  · rw [if_pos c43] at H
                    have c43b0 : decide (x45_2 < (t175.length : Int)) = true := decide_eq_true c43
                    clear c43
                    replace H := Option.bind_eq_some_iff.mp H
                    obtain ⟨⟨t198, t199, t200, t201, t202, t203, t204⟩, A440, H⟩ := H
                    replace H : (if t204 = 0 then (vitrinelaw05_AttrMakes.l0 k2 t175 (t175.length : Int) (wrap64 (x45_2 + 1)) a0_0 a0_1 a0_2 a0_3 a0_4 a0_5 a1_0 a1_1 a1_2 a1_3 a1_4 a1_5 t198 t199 t200 t201 t202 t203) else (some true)) = some r := H
                    have A44 := Aside0.mk A440
                    clear A440
                    by_cases c45 : t204 = 0
                    · rw [if_pos c45] at H
                      have c45b0 : (t204 == 0) = true := beq_iff_eq.mpr c45
                      have c45b1 : (t204 != 0) = false := bne_eq_false_iff_eq.mpr c45
                      clear c45
                      have H' := Aside0.mk H
                      clear H
                      have p196 : 0 ≤ (x45_2 : Int) := of_decide_eq_true (by first | (with_reducible assumption) | assumption)
                      have q196 : x45_2 < (t175.length : Int) := of_decide_eq_true (by first | (with_reducible assumption) | assumption)
                      obtain ⟨ad196, e196, hx196_0, hx196_1⟩ := at_T40 (Kd.R_reads' HO_43.out).2.2 x45_2 p196 q196
                      cases e196
                      replace p196 := eq_true p196
                      replace q196 := eq_true q196
                      go_wp2_with (first | ((with_reducible refine gate_dst (N := 8) rfl ?_); refine box_event ?hg (N := 8) ?hd (cs := #[.int .u8 0, .int .u8 0]) (t := 40) ?hr ?_; (case hd => rfl); (case hg => rfl); (case hr => first | (go_simp; done) | (go_simp; rfl)); intro gb197 hg w46 hbox hb; have n0_ := Aside0.mk (Kd.R_below (Kd.R_elderB (by (with_reducible repeat (first | apply Kd.R_alloc | apply Kd.R_drewN | apply Kd.R_drew)); exact HO_43.out) gb197 (Nat.le_of_eq hg.symm)) hb); have n1_ := Aside0.mk (blk_below (g := gb172) (o := .cells #[.int .u8 a0_0, .bool a0_1, .int .u8 a0_2, .int .u8 a0_3, .int .u8 a0_4, .int .u8 a0_5] 38 (0, 0)) (by (with_reducible repeat (first | refine blk_drewN ?_ _ | refine blk_drew ?_ | refine blk_alloc ?_ _)); exact BK172.out) hb); have n2_ := Aside0.mk (blk_below (g := gb173) (o := .cells #[.int .u8 a1_0, .bool a1_1, .int .u8 a1_2, .int .u8 a1_3, .int .u8 a1_4, .int .u8 a1_5] 38 (0, 0)) (by (with_reducible repeat (first | refine blk_drewN ?_ _ | refine blk_drew ?_ | refine blk_alloc ?_ _)); exact BK173.out) hb); have n3_ := Aside0.mk (blk_below (g := gb195) (o := .cells #[.int .u8 x196000_2, .bool x196001_2, .int .u8 x196002_2, .int .u8 x196003_2, .int .u8 x196004_2, .int .u8 x196005_2] 38 (0, 0)) (by (with_reducible repeat (first | refine blk_drewN ?_ _ | refine blk_drew ?_ | refine blk_alloc ?_ _)); exact BK195.out) hb); have n4_ := Aside0.mk (below_step (by repeat (first | (with_reducible first | exact HB.out | apply below_alloc | apply pw_below_drewN | apply below_drew1 | refine below_set ?_ GE172.out | refine below_set ?_ GE173.out | refine below_set ?_ GE195.out) | exact HB.out)) hb); have n5_ := Aside0.mk (hbox); have n6_ := Aside0.mk ((by rw [hg]; exact (below_size (by repeat (first | (with_reducible first | exact HB.out | apply below_alloc | apply pw_below_drewN | apply below_drew1 | refine below_set ?_ GE172.out | refine below_set ?_ GE173.out | refine below_set ?_ GE195.out) | exact HB.out))) : w.heap.size ≤ gb197)); have n7_ := Aside0.mk ((by rw [hg]; exact (below_size (by repeat (first | (with_reducible first | exact HB.out | apply below_alloc | apply pw_below_drewN | apply below_drew1 | refine below_set ?_ GE172.out | refine below_set ?_ GE173.out | refine below_set ?_ GE195.out) | exact HB.out))) : w.heap.size ≤ gb197)); have n8_ := Aside0.mk ((by rw [hg]; exact Nat.ne_of_lt (blk_lt (g := gb172) (o := .cells #[.int .u8 a0_0, .bool a0_1, .int .u8 a0_2, .int .u8 a0_3, .int .u8 a0_4, .int .u8 a0_5] 38 (0, 0)) (by (with_reducible repeat (first | refine blk_drewN ?_ _ | refine blk_drew ?_ | refine blk_alloc ?_ _)); exact BK172.out)) : gb172 ≠ gb197)); have n9_ := Aside0.mk ((by rw [hg]; exact Nat.ne_of_gt (blk_lt (g := gb172) (o := .cells #[.int .u8 a0_0, .bool a0_1, .int .u8 a0_2, .int .u8 a0_3, .int .u8 a0_4, .int .u8 a0_5] 38 (0, 0)) (by (with_reducible repeat (first | refine blk_drewN ?_ _ | refine blk_drew ?_ | refine blk_alloc ?_ _)); exact BK172.out)) : gb197 ≠ gb172)); have n10_ := Aside0.mk ((by rw [hg]; exact Nat.ne_of_lt (blk_lt (g := gb173) (o := .cells #[.int .u8 a1_0, .bool a1_1, .int .u8 a1_2, .int .u8 a1_3, .int .u8 a1_4, .int .u8 a1_5] 38 (0, 0)) (by (with_reducible repeat (first | refine blk_drewN ?_ _ | refine blk_drew ?_ | refine blk_alloc ?_ _)); exact BK173.out)) : gb173 ≠ gb197)); have n11_ := Aside0.mk ((by rw [hg]; exact Nat.ne_of_gt (blk_lt (g := gb173) (o := .cells #[.int .u8 a1_0, .bool a1_1, .int .u8 a1_2, .int .u8 a1_3, .int .u8 a1_4, .int .u8 a1_5] 38 (0, 0)) (by (with_reducible repeat (first | refine blk_drewN ?_ _ | refine blk_drew ?_ | refine blk_alloc ?_ _)); exact BK173.out)) : gb197 ≠ gb173)); have n12_ := Aside0.mk ((by rw [hg]; exact Nat.ne_of_lt (blk_lt (g := gb195) (o := .cells #[.int .u8 x196000_2, .bool x196001_2, .int .u8 x196002_2, .int .u8 x196003_2, .int .u8 x196004_2, .int .u8 x196005_2] 38 (0, 0)) (by (with_reducible repeat (first | refine blk_drewN ?_ _ | refine blk_drew ?_ | refine blk_alloc ?_ _)); exact BK195.out)) : gb195 ≠ gb197)); have n13_ := Aside0.mk ((by rw [hg]; exact Nat.ne_of_gt (blk_lt (g := gb195) (o := .cells #[.int .u8 x196000_2, .bool x196001_2, .int .u8 x196002_2, .int .u8 x196003_2, .int .u8 x196004_2, .int .u8 x196005_2] 38 (0, 0)) (by (with_reducible repeat (first | refine blk_drewN ?_ _ | refine blk_drew ?_ | refine blk_alloc ?_ _)); exact BK195.out)) : gb197 ≠ gb195)); clear HO_43; clear BK172; clear BK173; clear BK195; clear HB; have HO_43 := n0_; have BK172 := n1_; have BK173 := n2_; have BK195 := n3_; have HB := n4_; have BK197 := n5_; have GW197 := n6_; have GE197 := n7_; have NB172_197 := n8_; have NB197_172 := n9_; have NB173_197 := n10_; have NB197_173 := n11_; have NB195_197 := n12_; have NB197_195 := n13_; clear n0_ n1_ n2_ n3_ n4_ n5_ n6_ n7_ n8_ n9_ n10_ n11_ n12_ n13_; clear hb hbox hg; have hnb47 := NB197_172.out; have hnc47 := NB172_197.out; have hnb48 := NB197_173.out; have hnc48 := NB173_197.out; have hnb49 := NB197_195.out; have hnc49 := NB195_197.out; have hcz50_0 : w46.cell? ⟨gb197, 0, none⟩ = some (.int .u8 0) := (blk_cell BK197.out 0).trans rfl; have hcz50_1 : w46.cell? ⟨gb197, 1, none⟩ = some (.int .u8 0) := (blk_cell BK197.out 1).trans rfl; have hfz50_0 := blk_frozen BK197.out 0; have hfz50_1 := blk_frozen BK197.out 1; have hnb51 := NB195_172.out; have hnc51 := NB172_195.out; have hnb52 := NB195_173.out; have hnc52 := NB173_195.out; have hcz53_0 : w46.cell? ⟨gb195, 0, none⟩ = some (.int .u8 x196000_2) := (blk_cell BK195.out 0).trans rfl; have hcz53_1 : w46.cell? ⟨gb195, 1, none⟩ = some (.bool x196001_2) := (blk_cell BK195.out 1).trans rfl; have hcz53_2 : w46.cell? ⟨gb195, 2, none⟩ = some (.int .u8 x196002_2) := (blk_cell BK195.out 2).trans rfl; have hcz53_3 : w46.cell? ⟨gb195, 3, none⟩ = some (.int .u8 x196003_2) := (blk_cell BK195.out 3).trans rfl; have hcz53_4 : w46.cell? ⟨gb195, 4, none⟩ = some (.int .u8 x196004_2) := (blk_cell BK195.out 4).trans rfl; have hcz53_5 : w46.cell? ⟨gb195, 5, none⟩ = some (.int .u8 x196005_2) := (blk_cell BK195.out 5).trans rfl; have hfz53_0 := blk_frozen BK195.out 0; have hfz53_1 := blk_frozen BK195.out 1; have hfz53_2 := blk_frozen BK195.out 2; have hfz53_3 := blk_frozen BK195.out 3; have hfz53_4 := blk_frozen BK195.out 4; have hfz53_5 := blk_frozen BK195.out 5) | ((with_reducible refine gate_callee (f := 18) rfl ?_); refine goesL_ (some 52) rfl rfl Try.func18 (by kernel_rfl) rfl #[.agg #[.int .u8 ((rd_T40 t175 x45_2).f0), .int .u8 ((rd_T40 t175 x45_2).f1)], .agg #[.int .u8 x196000_2, .bool x196001_2, .int .u8 x196002_2, .int .u8 x196003_2, .int .u8 x196004_2, .int .u8 x196005_2]] rfl (by (try simp only [List.map_toArray, List.map_cons, List.map_nil]); first | done | rfl | (simp only [List.length_drop, List.length_take]; rfl)) ?_; (with_reducible refine (attr_Pair_Apply.calls ((rd_T40 t175 x45_2).f0) ((rd_T40 t175 x45_2).f1) x196000_2 x196001_2 x196002_2 x196003_2 x196004_2 x196005_2 t198 t199 t200 t201 t202 t203 t204 _ A44.out).mono ?_); rintro e w54 ⟨rfl, hb⟩; refine ⟨_, rfl, ?_⟩; have n0_ := Aside0.mk (Kd.R_below (by (with_reducible repeat (first | apply Kd.R_alloc | apply Kd.R_drewN | apply Kd.R_drew)); exact (Kd.R_mono (Kd.R_far (p := ⟨gb197, 1, none⟩) (Kd.R_far (p := ⟨gb197, 0, none⟩) (Kd.R_mono HO_43.out (fun k_ hk => (⟨hk, hk.2⟩ : _ ∧ k_ ≠ gb197))) (fun _ hk => hk.2) (.int .u8 ((rd_T40 t175 x45_2).f0))) (fun _ hk => hk.2) (.int .u8 ((rd_T40 t175 x45_2).f1))) (fun _ h_ => h_.1))) hb); have n1_ := Aside0.mk (blk_below (g := gb172) (o := .cells #[.int .u8 a0_0, .bool a0_1, .int .u8 a0_2, .int .u8 a0_3, .int .u8 a0_4, .int .u8 a0_5] 38 (0, 0)) (by (with_reducible repeat (first | refine blk_drewN ?_ _ | refine blk_drew ?_ | refine blk_alloc ?_ _)); refine blk_far ?_ NB172_197.out _; (with_reducible repeat (first | refine blk_drewN ?_ _ | refine blk_drew ?_ | refine blk_alloc ?_ _)); refine blk_far ?_ NB172_197.out _; (with_reducible repeat (first | refine blk_drewN ?_ _ | refine blk_drew ?_ | refine blk_alloc ?_ _)); exact BK172.out) hb); have n2_ := Aside0.mk (blk_below (g := gb173) (o := .cells #[.int .u8 a1_0, .bool a1_1, .int .u8 a1_2, .int .u8 a1_3, .int .u8 a1_4, .int .u8 a1_5] 38 (0, 0)) (by (with_reducible repeat (first | refine blk_drewN ?_ _ | refine blk_drew ?_ | refine blk_alloc ?_ _)); refine blk_far ?_ NB173_197.out _; (with_reducible repeat (first | refine blk_drewN ?_ _ | refine blk_drew ?_ | refine blk_alloc ?_ _)); refine blk_far ?_ NB173_197.out _; (with_reducible repeat (first | refine blk_drewN ?_ _ | refine blk_drew ?_ | refine blk_alloc ?_ _)); exact BK173.out) hb); have n3_ := Aside0.mk (blk_below (g := gb195) (o := .cells #[.int .u8 x196000_2, .bool x196001_2, .int .u8 x196002_2, .int .u8 x196003_2, .int .u8 x196004_2, .int .u8 x196005_2] 38 (0, 0)) (by (with_reducible repeat (first | refine blk_drewN ?_ _ | refine blk_drew ?_ | refine blk_alloc ?_ _)); refine blk_far ?_ NB195_197.out _; (with_reducible repeat (first | refine blk_drewN ?_ _ | refine blk_drew ?_ | refine blk_alloc ?_ _)); refine blk_far ?_ NB195_197.out _; (with_reducible repeat (first | refine blk_drewN ?_ _ | refine blk_drew ?_ | refine blk_alloc ?_ _)); exact BK195.out) hb); have n4_ := Aside0.mk (blk_below (g := gb197) (o := .cells #[.int .u8 ((rd_T40 t175 x45_2).f0), .int .u8 ((rd_T40 t175 x45_2).f1)] 40 (0, 0)) (by (with_reducible repeat (first | refine blk_drewN ?_ _ | refine blk_drew ?_ | refine blk_alloc ?_ _)); refine blk_put (cs := #[.int .u8 ((rd_T40 t175 x45_2).f0), .int .u8 0]) ?_ 1 _ rfl; (with_reducible repeat (first | refine blk_drewN ?_ _ | refine blk_drew ?_ | refine blk_alloc ?_ _)); refine blk_put (cs := #[.int .u8 0, .int .u8 0]) ?_ 0 _ rfl; (with_reducible repeat (first | refine blk_drewN ?_ _ | refine blk_drew ?_ | refine blk_alloc ?_ _)); exact BK197.out) hb); have n5_ := Aside0.mk (below_step (by repeat (first | (with_reducible first | exact HB.out | apply below_alloc | apply pw_below_drewN | apply below_drew1 | refine below_set ?_ GE172.out | refine below_set ?_ GE173.out | refine below_set ?_ GE195.out | refine below_set ?_ GE197.out) | exact HB.out)) hb); clear HO_43; clear BK172; clear BK173; clear BK195; clear BK197; clear HB; have HO_43 := n0_; have BK172 := n1_; have BK173 := n2_; have BK195 := n3_; have BK197 := n4_; have HB := n5_; clear n0_ n1_ n2_ n3_ n4_ n5_; (try clear hb); (try clear hb2); (try clear hk); (try clear hi)) | ((with_reducible refine gate_dst (N := 9) rfl ?_); refine box_event ?hg (N := 9) ?hd (cs := #[.int .u8 0, .bool false, .int .u8 0, .int .u8 0, .int .u8 0, .int .u8 0]) (t := 38) ?hr ?_; (case hd => rfl); (case hg => rfl); (case hr => first | (go_simp; done) | (go_simp; rfl)); intro gb205 hg w55 hbox hb; have n0_ := Aside0.mk (Kd.R_below (by (with_reducible repeat (first | apply Kd.R_alloc | apply Kd.R_drewN | apply Kd.R_drew)); exact HO_43.out) hb); have n1_ := Aside0.mk (blk_below (g := gb172) (o := .cells #[.int .u8 a0_0, .bool a0_1, .int .u8 a0_2, .int .u8 a0_3, .int .u8 a0_4, .int .u8 a0_5] 38 (0, 0)) (by (with_reducible repeat (first | refine blk_drewN ?_ _ | refine blk_drew ?_ | refine blk_alloc ?_ _)); exact BK172.out) hb); have n2_ := Aside0.mk (blk_below (g := gb173) (o := .cells #[.int .u8 a1_0, .bool a1_1, .int .u8 a1_2, .int .u8 a1_3, .int .u8 a1_4, .int .u8 a1_5] 38 (0, 0)) (by (with_reducible repeat (first | refine blk_drewN ?_ _ | refine blk_drew ?_ | refine blk_alloc ?_ _)); exact BK173.out) hb); have n3_ := Aside0.mk (blk_below (g := gb195) (o := .cells #[.int .u8 x196000_2, .bool x196001_2, .int .u8 x196002_2, .int .u8 x196003_2, .int .u8 x196004_2, .int .u8 x196005_2] 38 (0, 0)) (by (with_reducible repeat (first | refine blk_drewN ?_ _ | refine blk_drew ?_ | refine blk_alloc ?_ _)); exact BK195.out) hb); have n4_ := Aside0.mk (blk_below (g := gb197) (o := .cells #[.int .u8 ((rd_T40 t175 x45_2).f0), .int .u8 ((rd_T40 t175 x45_2).f1)] 40 (0, 0)) (by (with_reducible repeat (first | refine blk_drewN ?_ _ | refine blk_drew ?_ | refine blk_alloc ?_ _)); exact BK197.out) hb); have n5_ := Aside0.mk (below_step (by repeat (first | (with_reducible first | exact HB.out | apply below_alloc | apply pw_below_drewN | apply below_drew1 | refine below_set ?_ GE172.out | refine below_set ?_ GE173.out | refine below_set ?_ GE195.out | refine below_set ?_ GE197.out) | exact HB.out)) hb); have n6_ := Aside0.mk (hbox); have n7_ := Aside0.mk ((by rw [hg]; exact (below_size (by repeat (first | (with_reducible first | exact HB.out | apply below_alloc | apply pw_below_drewN | apply below_drew1 | refine below_set ?_ GE172.out | refine below_set ?_ GE173.out | refine below_set ?_ GE195.out | refine below_set ?_ GE197.out) | exact HB.out))) : w.heap.size ≤ gb205)); have n8_ := Aside0.mk ((by rw [hg]; exact (below_size (by repeat (first | (with_reducible first | exact HB.out | apply below_alloc | apply pw_below_drewN | apply below_drew1 | refine below_set ?_ GE172.out | refine below_set ?_ GE173.out | refine below_set ?_ GE195.out | refine below_set ?_ GE197.out) | exact HB.out))) : w.heap.size ≤ gb205)); have n9_ := Aside0.mk ((by rw [hg]; exact Nat.ne_of_lt (blk_lt (g := gb172) (o := .cells #[.int .u8 a0_0, .bool a0_1, .int .u8 a0_2, .int .u8 a0_3, .int .u8 a0_4, .int .u8 a0_5] 38 (0, 0)) (by (with_reducible repeat (first | refine blk_drewN ?_ _ | refine blk_drew ?_ | refine blk_alloc ?_ _)); exact BK172.out)) : gb172 ≠ gb205)); have n10_ := Aside0.mk ((by rw [hg]; exact Nat.ne_of_gt (blk_lt (g := gb172) (o := .cells #[.int .u8 a0_0, .bool a0_1, .int .u8 a0_2, .int .u8 a0_3, .int .u8 a0_4, .int .u8 a0_5] 38 (0, 0)) (by (with_reducible repeat (first | refine blk_drewN ?_ _ | refine blk_drew ?_ | refine blk_alloc ?_ _)); exact BK172.out)) : gb205 ≠ gb172)); have n11_ := Aside0.mk ((by rw [hg]; exact Nat.ne_of_lt (blk_lt (g := gb173) (o := .cells #[.int .u8 a1_0, .bool a1_1, .int .u8 a1_2, .int .u8 a1_3, .int .u8 a1_4, .int .u8 a1_5] 38 (0, 0)) (by (with_reducible repeat (first | refine blk_drewN ?_ _ | refine blk_drew ?_ | refine blk_alloc ?_ _)); exact BK173.out)) : gb173 ≠ gb205)); have n12_ := Aside0.mk ((by rw [hg]; exact Nat.ne_of_gt (blk_lt (g := gb173) (o := .cells #[.int .u8 a1_0, .bool a1_1, .int .u8 a1_2, .int .u8 a1_3, .int .u8 a1_4, .int .u8 a1_5] 38 (0, 0)) (by (with_reducible repeat (first | refine blk_drewN ?_ _ | refine blk_drew ?_ | refine blk_alloc ?_ _)); exact BK173.out)) : gb205 ≠ gb173)); have n13_ := Aside0.mk ((by rw [hg]; exact Nat.ne_of_lt (blk_lt (g := gb195) (o := .cells #[.int .u8 x196000_2, .bool x196001_2, .int .u8 x196002_2, .int .u8 x196003_2, .int .u8 x196004_2, .int .u8 x196005_2] 38 (0, 0)) (by (with_reducible repeat (first | refine blk_drewN ?_ _ | refine blk_drew ?_ | refine blk_alloc ?_ _)); exact BK195.out)) : gb195 ≠ gb205)); have n14_ := Aside0.mk ((by rw [hg]; exact Nat.ne_of_gt (blk_lt (g := gb195) (o := .cells #[.int .u8 x196000_2, .bool x196001_2, .int .u8 x196002_2, .int .u8 x196003_2, .int .u8 x196004_2, .int .u8 x196005_2] 38 (0, 0)) (by (with_reducible repeat (first | refine blk_drewN ?_ _ | refine blk_drew ?_ | refine blk_alloc ?_ _)); exact BK195.out)) : gb205 ≠ gb195)); have n15_ := Aside0.mk ((by rw [hg]; exact Nat.ne_of_lt (blk_lt (g := gb197) (o := .cells #[.int .u8 ((rd_T40 t175 x45_2).f0), .int .u8 ((rd_T40 t175 x45_2).f1)] 40 (0, 0)) (by (with_reducible repeat (first | refine blk_drewN ?_ _ | refine blk_drew ?_ | refine blk_alloc ?_ _)); exact BK197.out)) : gb197 ≠ gb205)); have n16_ := Aside0.mk ((by rw [hg]; exact Nat.ne_of_gt (blk_lt (g := gb197) (o := .cells #[.int .u8 ((rd_T40 t175 x45_2).f0), .int .u8 ((rd_T40 t175 x45_2).f1)] 40 (0, 0)) (by (with_reducible repeat (first | refine blk_drewN ?_ _ | refine blk_drew ?_ | refine blk_alloc ?_ _)); exact BK197.out)) : gb205 ≠ gb197)); clear HO_43; clear BK172; clear BK173; clear BK195; clear BK197; clear HB; have HO_43 := n0_; have BK172 := n1_; have BK173 := n2_; have BK195 := n3_; have BK197 := n4_; have HB := n5_; have BK205 := n6_; have GW205 := n7_; have GE205 := n8_; have NB172_205 := n9_; have NB205_172 := n10_; have NB173_205 := n11_; have NB205_173 := n12_; have NB195_205 := n13_; have NB205_195 := n14_; have NB197_205 := n15_; have NB205_197 := n16_; clear n0_ n1_ n2_ n3_ n4_ n5_ n6_ n7_ n8_ n9_ n10_ n11_ n12_ n13_ n14_ n15_ n16_; clear hb hbox hg; have hnb56 := NB205_172.out; have hnc56 := NB172_205.out; have hnb57 := NB205_173.out; have hnc57 := NB173_205.out; have hnb58 := NB205_195.out; have hnc58 := NB195_205.out; have hnb59 := NB205_197.out; have hnc59 := NB197_205.out; have hcz60_0 : w55.cell? ⟨gb205, 0, none⟩ = some (.int .u8 0) := (blk_cell BK205.out 0).trans rfl; have hcz60_1 : w55.cell? ⟨gb205, 1, none⟩ = some (.bool false) := (blk_cell BK205.out 1).trans rfl; have hcz60_2 : w55.cell? ⟨gb205, 2, none⟩ = some (.int .u8 0) := (blk_cell BK205.out 2).trans rfl; have hcz60_3 : w55.cell? ⟨gb205, 3, none⟩ = some (.int .u8 0) := (blk_cell BK205.out 3).trans rfl; have hcz60_4 : w55.cell? ⟨gb205, 4, none⟩ = some (.int .u8 0) := (blk_cell BK205.out 4).trans rfl; have hcz60_5 : w55.cell? ⟨gb205, 5, none⟩ = some (.int .u8 0) := (blk_cell BK205.out 5).trans rfl; have hfz60_0 := blk_frozen BK205.out 0; have hfz60_1 := blk_frozen BK205.out 1; have hfz60_2 := blk_frozen BK205.out 2; have hfz60_3 := blk_frozen BK205.out 3; have hfz60_4 := blk_frozen BK205.out 4; have hfz60_5 := blk_frozen BK205.out 5; have hcz61_0 : w55.cell? ⟨gb195, 0, none⟩ = some (.int .u8 x196000_2) := (blk_cell BK195.out 0).trans rfl; have hcz61_1 : w55.cell? ⟨gb195, 1, none⟩ = some (.bool x196001_2) := (blk_cell BK195.out 1).trans rfl; have hcz61_2 : w55.cell? ⟨gb195, 2, none⟩ = some (.int .u8 x196002_2) := (blk_cell BK195.out 2).trans rfl; have hcz61_3 : w55.cell? ⟨gb195, 3, none⟩ = some (.int .u8 x196003_2) := (blk_cell BK195.out 3).trans rfl; have hcz61_4 : w55.cell? ⟨gb195, 4, none⟩ = some (.int .u8 x196004_2) := (blk_cell BK195.out 4).trans rfl; have hcz61_5 : w55.cell? ⟨gb195, 5, none⟩ = some (.int .u8 x196005_2) := (blk_cell BK195.out 5).trans rfl; have hfz61_0 := blk_frozen BK195.out 0; have hfz61_1 := blk_frozen BK195.out 1; have hfz61_2 := blk_frozen BK195.out 2; have hfz61_3 := blk_frozen BK195.out 3; have hfz61_4 := blk_frozen BK195.out 4; have hfz61_5 := blk_frozen BK195.out 5))
                      go_roundg k2
                      case measure => have := HJ5.out; have := HK2.out; omega
                      case rel => exact ⟨(wrap64 (x45_2 + 1)), (t198), (t199), (t200), (t201), (t202), (t203), (by first | rfl | (simp; done) | (simp [*]; done)), H', ⟨by have := HJ5.out; have := HK2.out; omega⟩, ⟨by (with_reducible repeat (first | apply Kd.R_alloc | apply Kd.R_drewN | apply Kd.R_drew)); exact Kd.R_mono (Kd.R_far (p := ⟨gb195, 5, none⟩) (Kd.R_far (p := ⟨gb195, 4, none⟩) (Kd.R_far (p := ⟨gb195, 3, none⟩) (Kd.R_far (p := ⟨gb195, 2, none⟩) (Kd.R_far (p := ⟨gb195, 1, none⟩) (Kd.R_far (p := ⟨gb195, 0, none⟩) (Kd.R_far (p := ⟨gb205, 5, none⟩) (Kd.R_far (p := ⟨gb205, 4, none⟩) (Kd.R_far (p := ⟨gb205, 3, none⟩) (Kd.R_far (p := ⟨gb205, 2, none⟩) (Kd.R_far (p := ⟨gb205, 1, none⟩) (Kd.R_far (p := ⟨gb205, 0, none⟩) (Kd.R_types (Kd.R_types HO_43.out BK205.out (by decide)) BK195.out (by decide)) (fun _ hk => hk.1.2) (.int .u8 t198)) (fun _ hk => hk.1.2) (.bool t199)) (fun _ hk => hk.1.2) (.int .u8 t200)) (fun _ hk => hk.1.2) (.int .u8 t201)) (fun _ hk => hk.1.2) (.int .u8 t202)) (fun _ hk => hk.1.2) (.int .u8 t203)) (fun _ hk => hk.2) (.int .u8 t198)) (fun _ hk => hk.2) (.bool t199)) (fun _ hk => hk.2) (.int .u8 t200)) (fun _ hk => hk.2) (.int .u8 t201)) (fun _ hk => hk.2) (.int .u8 t202)) (fun _ hk => hk.2) (.int .u8 t203)) (fun _ hk => trivial)⟩, ⟨by (with_reducible repeat (first | refine blk_drewN ?_ _ | refine blk_drew ?_ | refine blk_alloc ?_ _)); refine blk_far ?_ NB172_195.out _; (with_reducible repeat (first | refine blk_drewN ?_ _ | refine blk_drew ?_ | refine blk_alloc ?_ _)); refine blk_far ?_ NB172_195.out _; (with_reducible repeat (first | refine blk_drewN ?_ _ | refine blk_drew ?_ | refine blk_alloc ?_ _)); refine blk_far ?_ NB172_195.out _; (with_reducible repeat (first | refine blk_drewN ?_ _ | refine blk_drew ?_ | refine blk_alloc ?_ _)); refine blk_far ?_ NB172_195.out _; (with_reducible repeat (first | refine blk_drewN ?_ _ | refine blk_drew ?_ | refine blk_alloc ?_ _)); refine blk_far ?_ NB172_195.out _; (with_reducible repeat (first | refine blk_drewN ?_ _ | refine blk_drew ?_ | refine blk_alloc ?_ _)); refine blk_far ?_ NB172_195.out _; (with_reducible repeat (first | refine blk_drewN ?_ _ | refine blk_drew ?_ | refine blk_alloc ?_ _)); refine blk_far ?_ NB172_205.out _; (with_reducible repeat (first | refine blk_drewN ?_ _ | refine blk_drew ?_ | refine blk_alloc ?_ _)); refine blk_far ?_ NB172_205.out _; (with_reducible repeat (first | refine blk_drewN ?_ _ | refine blk_drew ?_ | refine blk_alloc ?_ _)); refine blk_far ?_ NB172_205.out _; (with_reducible repeat (first | refine blk_drewN ?_ _ | refine blk_drew ?_ | refine blk_alloc ?_ _)); refine blk_far ?_ NB172_205.out _; (with_reducible repeat (first | refine blk_drewN ?_ _ | refine blk_drew ?_ | refine blk_alloc ?_ _)); refine blk_far ?_ NB172_205.out _; (with_reducible repeat (first | refine blk_drewN ?_ _ | refine blk_drew ?_ | refine blk_alloc ?_ _)); refine blk_far ?_ NB172_205.out _; (with_reducible repeat (first | refine blk_drewN ?_ _ | refine blk_drew ?_ | refine blk_alloc ?_ _)); exact BK172.out⟩, ⟨by (with_reducible repeat (first | refine blk_drewN ?_ _ | refine blk_drew ?_ | refine blk_alloc ?_ _)); refine blk_far ?_ NB173_195.out _; (with_reducible repeat (first | refine blk_drewN ?_ _ | refine blk_drew ?_ | refine blk_alloc ?_ _)); refine blk_far ?_ NB173_195.out _; (with_reducible repeat (first | refine blk_drewN ?_ _ | refine blk_drew ?_ | refine blk_alloc ?_ _)); refine blk_far ?_ NB173_195.out _; (with_reducible repeat (first | refine blk_drewN ?_ _ | refine blk_drew ?_ | refine blk_alloc ?_ _)); refine blk_far ?_ NB173_195.out _; (with_reducible repeat (first | refine blk_drewN ?_ _ | refine blk_drew ?_ | refine blk_alloc ?_ _)); refine blk_far ?_ NB173_195.out _; (with_reducible repeat (first | refine blk_drewN ?_ _ | refine blk_drew ?_ | refine blk_alloc ?_ _)); refine blk_far ?_ NB173_195.out _; (with_reducible repeat (first | refine blk_drewN ?_ _ | refine blk_drew ?_ | refine blk_alloc ?_ _)); refine blk_far ?_ NB173_205.out _; (with_reducible repeat (first | refine blk_drewN ?_ _ | refine blk_drew ?_ | refine blk_alloc ?_ _)); refine blk_far ?_ NB173_205.out _; (with_reducible repeat (first | refine blk_drewN ?_ _ | refine blk_drew ?_ | refine blk_alloc ?_ _)); refine blk_far ?_ NB173_205.out _; (with_reducible repeat (first | refine blk_drewN ?_ _ | refine blk_drew ?_ | refine blk_alloc ?_ _)); refine blk_far ?_ NB173_205.out _; (with_reducible repeat (first | refine blk_drewN ?_ _ | refine blk_drew ?_ | refine blk_alloc ?_ _)); refine blk_far ?_ NB173_205.out _; (with_reducible repeat (first | refine blk_drewN ?_ _ | refine blk_drew ?_ | refine blk_alloc ?_ _)); refine blk_far ?_ NB173_205.out _; (with_reducible repeat (first | refine blk_drewN ?_ _ | refine blk_drew ?_ | refine blk_alloc ?_ _)); exact BK173.out⟩, ⟨by (with_reducible repeat (first | refine blk_drewN ?_ _ | refine blk_drew ?_ | refine blk_alloc ?_ _)); refine blk_put (cs := #[.int .u8 t198, .bool t199, .int .u8 t200, .int .u8 t201, .int .u8 t202, .int .u8 x196005_2]) ?_ 5 _ rfl; (with_reducible repeat (first | refine blk_drewN ?_ _ | refine blk_drew ?_ | refine blk_alloc ?_ _)); refine blk_put (cs := #[.int .u8 t198, .bool t199, .int .u8 t200, .int .u8 t201, .int .u8 x196004_2, .int .u8 x196005_2]) ?_ 4 _ rfl; (with_reducible repeat (first | refine blk_drewN ?_ _ | refine blk_drew ?_ | refine blk_alloc ?_ _)); refine blk_put (cs := #[.int .u8 t198, .bool t199, .int .u8 t200, .int .u8 x196003_2, .int .u8 x196004_2, .int .u8 x196005_2]) ?_ 3 _ rfl; (with_reducible repeat (first | refine blk_drewN ?_ _ | refine blk_drew ?_ | refine blk_alloc ?_ _)); refine blk_put (cs := #[.int .u8 t198, .bool t199, .int .u8 x196002_2, .int .u8 x196003_2, .int .u8 x196004_2, .int .u8 x196005_2]) ?_ 2 _ rfl; (with_reducible repeat (first | refine blk_drewN ?_ _ | refine blk_drew ?_ | refine blk_alloc ?_ _)); refine blk_put (cs := #[.int .u8 t198, .bool x196001_2, .int .u8 x196002_2, .int .u8 x196003_2, .int .u8 x196004_2, .int .u8 x196005_2]) ?_ 1 _ rfl; (with_reducible repeat (first | refine blk_drewN ?_ _ | refine blk_drew ?_ | refine blk_alloc ?_ _)); refine blk_put (cs := #[.int .u8 x196000_2, .bool x196001_2, .int .u8 x196002_2, .int .u8 x196003_2, .int .u8 x196004_2, .int .u8 x196005_2]) ?_ 0 _ rfl; (with_reducible repeat (first | refine blk_drewN ?_ _ | refine blk_drew ?_ | refine blk_alloc ?_ _)); refine blk_far ?_ NB195_205.out _; (with_reducible repeat (first | refine blk_drewN ?_ _ | refine blk_drew ?_ | refine blk_alloc ?_ _)); refine blk_far ?_ NB195_205.out _; (with_reducible repeat (first | refine blk_drewN ?_ _ | refine blk_drew ?_ | refine blk_alloc ?_ _)); refine blk_far ?_ NB195_205.out _; (with_reducible repeat (first | refine blk_drewN ?_ _ | refine blk_drew ?_ | refine blk_alloc ?_ _)); refine blk_far ?_ NB195_205.out _; (with_reducible repeat (first | refine blk_drewN ?_ _ | refine blk_drew ?_ | refine blk_alloc ?_ _)); refine blk_far ?_ NB195_205.out _; (with_reducible repeat (first | refine blk_drewN ?_ _ | refine blk_drew ?_ | refine blk_alloc ?_ _)); refine blk_far ?_ NB195_205.out _; (with_reducible repeat (first | refine blk_drewN ?_ _ | refine blk_drew ?_ | refine blk_alloc ?_ _)); exact BK195.out⟩, ⟨by repeat (first | (with_reducible first | exact HB.out | apply below_alloc | apply pw_below_drewN | apply below_drew1 | refine below_set ?_ GE172.out | refine below_set ?_ GE173.out | refine below_set ?_ GE195.out | refine below_set ?_ GE197.out | refine below_set ?_ GE205.out) | exact HB.out)⟩⟩
                    · rw [if_neg c45] at H
                      have c45b0 : (t204 == 0) = false := beq_eq_false_iff_ne.mpr c45
                      have c45b1 : (t204 != 0) = true := bne_iff_ne.mpr c45
                      obtain rfl := Option.some.inj H
                      have p196 : 0 ≤ (x45_2 : Int) := of_decide_eq_true (by first | (with_reducible assumption) | assumption)
                      have q196 : x45_2 < (t175.length : Int) := of_decide_eq_true (by first | (with_reducible assumption) | assumption)
                      obtain ⟨ad196, e196, hx196_0, hx196_1⟩ := at_T40 (Kd.R_reads' HO_43.out).2.2 x45_2 p196 q196
                      cases e196
                      replace p196 := eq_true p196
                      replace q196 := eq_true q196
                      go_wp2_with (first | ((with_reducible refine gate_dst (N := 8) rfl ?_); refine box_event ?hg (N := 8) ?hd (cs := #[.int .u8 0, .int .u8 0]) (t := 40) ?hr ?_; (case hd => rfl); (case hg => rfl); (case hr => first | (go_simp; done) | (go_simp; rfl)); intro gb197 hg w62 hbox hb; have n0_ := Aside0.mk (Kd.R_below (Kd.R_elderB (by (with_reducible repeat (first | apply Kd.R_alloc | apply Kd.R_drewN | apply Kd.R_drew)); exact HO_43.out) gb197 (Nat.le_of_eq hg.symm)) hb); have n1_ := Aside0.mk (blk_below (g := gb172) (o := .cells #[.int .u8 a0_0, .bool a0_1, .int .u8 a0_2, .int .u8 a0_3, .int .u8 a0_4, .int .u8 a0_5] 38 (0, 0)) (by (with_reducible repeat (first | refine blk_drewN ?_ _ | refine blk_drew ?_ | refine blk_alloc ?_ _)); exact BK172.out) hb); have n2_ := Aside0.mk (blk_below (g := gb173) (o := .cells #[.int .u8 a1_0, .bool a1_1, .int .u8 a1_2, .int .u8 a1_3, .int .u8 a1_4, .int .u8 a1_5] 38 (0, 0)) (by (with_reducible repeat (first | refine blk_drewN ?_ _ | refine blk_drew ?_ | refine blk_alloc ?_ _)); exact BK173.out) hb); have n3_ := Aside0.mk (blk_below (g := gb195) (o := .cells #[.int .u8 x196000_2, .bool x196001_2, .int .u8 x196002_2, .int .u8 x196003_2, .int .u8 x196004_2, .int .u8 x196005_2] 38 (0, 0)) (by (with_reducible repeat (first | refine blk_drewN ?_ _ | refine blk_drew ?_ | refine blk_alloc ?_ _)); exact BK195.out) hb); have n4_ := Aside0.mk (below_step (by repeat (first | (with_reducible first | exact HB.out | apply below_alloc | apply pw_below_drewN | apply below_drew1 | refine below_set ?_ GE172.out | refine below_set ?_ GE173.out | refine below_set ?_ GE195.out) | exact HB.out)) hb); have n5_ := Aside0.mk (hbox); have n6_ := Aside0.mk ((by rw [hg]; exact (below_size (by repeat (first | (with_reducible first | exact HB.out | apply below_alloc | apply pw_below_drewN | apply below_drew1 | refine below_set ?_ GE172.out | refine below_set ?_ GE173.out | refine below_set ?_ GE195.out) | exact HB.out))) : w.heap.size ≤ gb197)); have n7_ := Aside0.mk ((by rw [hg]; exact (below_size (by repeat (first | (with_reducible first | exact HB.out | apply below_alloc | apply pw_below_drewN | apply below_drew1 | refine below_set ?_ GE172.out | refine below_set ?_ GE173.out | refine below_set ?_ GE195.out) | exact HB.out))) : w.heap.size ≤ gb197)); have n8_ := Aside0.mk ((by rw [hg]; exact Nat.ne_of_lt (blk_lt (g := gb172) (o := .cells #[.int .u8 a0_0, .bool a0_1, .int .u8 a0_2, .int .u8 a0_3, .int .u8 a0_4, .int .u8 a0_5] 38 (0, 0)) (by (with_reducible repeat (first | refine blk_drewN ?_ _ | refine blk_drew ?_ | refine blk_alloc ?_ _)); exact BK172.out)) : gb172 ≠ gb197)); have n9_ := Aside0.mk ((by rw [hg]; exact Nat.ne_of_gt (blk_lt (g := gb172) (o := .cells #[.int .u8 a0_0, .bool a0_1, .int .u8 a0_2, .int .u8 a0_3, .int .u8 a0_4, .int .u8 a0_5] 38 (0, 0)) (by (with_reducible repeat (first | refine blk_drewN ?_ _ | refine blk_drew ?_ | refine blk_alloc ?_ _)); exact BK172.out)) : gb197 ≠ gb172)); have n10_ := Aside0.mk ((by rw [hg]; exact Nat.ne_of_lt (blk_lt (g := gb173) (o := .cells #[.int .u8 a1_0, .bool a1_1, .int .u8 a1_2, .int .u8 a1_3, .int .u8 a1_4, .int .u8 a1_5] 38 (0, 0)) (by (with_reducible repeat (first | refine blk_drewN ?_ _ | refine blk_drew ?_ | refine blk_alloc ?_ _)); exact BK173.out)) : gb173 ≠ gb197)); have n11_ := Aside0.mk ((by rw [hg]; exact Nat.ne_of_gt (blk_lt (g := gb173) (o := .cells #[.int .u8 a1_0, .bool a1_1, .int .u8 a1_2, .int .u8 a1_3, .int .u8 a1_4, .int .u8 a1_5] 38 (0, 0)) (by (with_reducible repeat (first | refine blk_drewN ?_ _ | refine blk_drew ?_ | refine blk_alloc ?_ _)); exact BK173.out)) : gb197 ≠ gb173)); have n12_ := Aside0.mk ((by rw [hg]; exact Nat.ne_of_lt (blk_lt (g := gb195) (o := .cells #[.int .u8 x196000_2, .bool x196001_2, .int .u8 x196002_2, .int .u8 x196003_2, .int .u8 x196004_2, .int .u8 x196005_2] 38 (0, 0)) (by (with_reducible repeat (first | refine blk_drewN ?_ _ | refine blk_drew ?_ | refine blk_alloc ?_ _)); exact BK195.out)) : gb195 ≠ gb197)); have n13_ := Aside0.mk ((by rw [hg]; exact Nat.ne_of_gt (blk_lt (g := gb195) (o := .cells #[.int .u8 x196000_2, .bool x196001_2, .int .u8 x196002_2, .int .u8 x196003_2, .int .u8 x196004_2, .int .u8 x196005_2] 38 (0, 0)) (by (with_reducible repeat (first | refine blk_drewN ?_ _ | refine blk_drew ?_ | refine blk_alloc ?_ _)); exact BK195.out)) : gb197 ≠ gb195)); clear HO_43; clear BK172; clear BK173; clear BK195; clear HB; have HO_43 := n0_; have BK172 := n1_; have BK173 := n2_; have BK195 := n3_; have HB := n4_; have BK197 := n5_; have GW197 := n6_; have GE197 := n7_; have NB172_197 := n8_; have NB197_172 := n9_; have NB173_197 := n10_; have NB197_173 := n11_; have NB195_197 := n12_; have NB197_195 := n13_; clear n0_ n1_ n2_ n3_ n4_ n5_ n6_ n7_ n8_ n9_ n10_ n11_ n12_ n13_; clear hb hbox hg; have hnb63 := NB197_172.out; have hnc63 := NB172_197.out; have hnb64 := NB197_173.out; have hnc64 := NB173_197.out; have hnb65 := NB197_195.out; have hnc65 := NB195_197.out; have hcz66_0 : w62.cell? ⟨gb197, 0, none⟩ = some (.int .u8 0) := (blk_cell BK197.out 0).trans rfl; have hcz66_1 : w62.cell? ⟨gb197, 1, none⟩ = some (.int .u8 0) := (blk_cell BK197.out 1).trans rfl; have hfz66_0 := blk_frozen BK197.out 0; have hfz66_1 := blk_frozen BK197.out 1; have hnb67 := NB195_172.out; have hnc67 := NB172_195.out; have hnb68 := NB195_173.out; have hnc68 := NB173_195.out; have hcz69_0 : w62.cell? ⟨gb195, 0, none⟩ = some (.int .u8 x196000_2) := (blk_cell BK195.out 0).trans rfl; have hcz69_1 : w62.cell? ⟨gb195, 1, none⟩ = some (.bool x196001_2) := (blk_cell BK195.out 1).trans rfl; have hcz69_2 : w62.cell? ⟨gb195, 2, none⟩ = some (.int .u8 x196002_2) := (blk_cell BK195.out 2).trans rfl; have hcz69_3 : w62.cell? ⟨gb195, 3, none⟩ = some (.int .u8 x196003_2) := (blk_cell BK195.out 3).trans rfl; have hcz69_4 : w62.cell? ⟨gb195, 4, none⟩ = some (.int .u8 x196004_2) := (blk_cell BK195.out 4).trans rfl; have hcz69_5 : w62.cell? ⟨gb195, 5, none⟩ = some (.int .u8 x196005_2) := (blk_cell BK195.out 5).trans rfl; have hfz69_0 := blk_frozen BK195.out 0; have hfz69_1 := blk_frozen BK195.out 1; have hfz69_2 := blk_frozen BK195.out 2; have hfz69_3 := blk_frozen BK195.out 3; have hfz69_4 := blk_frozen BK195.out 4; have hfz69_5 := blk_frozen BK195.out 5) | ((with_reducible refine gate_callee (f := 18) rfl ?_); refine goesL_ (some 52) rfl rfl Try.func18 (by kernel_rfl) rfl #[.agg #[.int .u8 ((rd_T40 t175 x45_2).f0), .int .u8 ((rd_T40 t175 x45_2).f1)], .agg #[.int .u8 x196000_2, .bool x196001_2, .int .u8 x196002_2, .int .u8 x196003_2, .int .u8 x196004_2, .int .u8 x196005_2]] rfl (by (try simp only [List.map_toArray, List.map_cons, List.map_nil]); first | done | rfl | (simp only [List.length_drop, List.length_take]; rfl)) ?_; (with_reducible refine (attr_Pair_Apply.calls ((rd_T40 t175 x45_2).f0) ((rd_T40 t175 x45_2).f1) x196000_2 x196001_2 x196002_2 x196003_2 x196004_2 x196005_2 t198 t199 t200 t201 t202 t203 t204 _ A44.out).mono ?_); rintro e w70 ⟨rfl, hb⟩; refine ⟨_, rfl, ?_⟩; have n0_ := Aside0.mk (Kd.R_below (by (with_reducible repeat (first | apply Kd.R_alloc | apply Kd.R_drewN | apply Kd.R_drew)); exact (Kd.R_mono (Kd.R_far (p := ⟨gb197, 1, none⟩) (Kd.R_far (p := ⟨gb197, 0, none⟩) (Kd.R_mono HO_43.out (fun k_ hk => (⟨hk, hk.2⟩ : _ ∧ k_ ≠ gb197))) (fun _ hk => hk.2) (.int .u8 ((rd_T40 t175 x45_2).f0))) (fun _ hk => hk.2) (.int .u8 ((rd_T40 t175 x45_2).f1))) (fun _ h_ => h_.1))) hb); have n1_ := Aside0.mk (blk_below (g := gb172) (o := .cells #[.int .u8 a0_0, .bool a0_1, .int .u8 a0_2, .int .u8 a0_3, .int .u8 a0_4, .int .u8 a0_5] 38 (0, 0)) (by (with_reducible repeat (first | refine blk_drewN ?_ _ | refine blk_drew ?_ | refine blk_alloc ?_ _)); refine blk_far ?_ NB172_197.out _; (with_reducible repeat (first | refine blk_drewN ?_ _ | refine blk_drew ?_ | refine blk_alloc ?_ _)); refine blk_far ?_ NB172_197.out _; (with_reducible repeat (first | refine blk_drewN ?_ _ | refine blk_drew ?_ | refine blk_alloc ?_ _)); exact BK172.out) hb); have n2_ := Aside0.mk (blk_below (g := gb173) (o := .cells #[.int .u8 a1_0, .bool a1_1, .int .u8 a1_2, .int .u8 a1_3, .int .u8 a1_4, .int .u8 a1_5] 38 (0, 0)) (by (with_reducible repeat (first | refine blk_drewN ?_ _ | refine blk_drew ?_ | refine blk_alloc ?_ _)); refine blk_far ?_ NB173_197.out _; (with_reducible repeat (first | refine blk_drewN ?_ _ | refine blk_drew ?_ | refine blk_alloc ?_ _)); refine blk_far ?_ NB173_197.out _; (with_reducible repeat (first | refine blk_drewN ?_ _ | refine blk_drew ?_ | refine blk_alloc ?_ _)); exact BK173.out) hb); have n3_ := Aside0.mk (blk_below (g := gb195) (o := .cells #[.int .u8 x196000_2, .bool x196001_2, .int .u8 x196002_2, .int .u8 x196003_2, .int .u8 x196004_2, .int .u8 x196005_2] 38 (0, 0)) (by (with_reducible repeat (first | refine blk_drewN ?_ _ | refine blk_drew ?_ | refine blk_alloc ?_ _)); refine blk_far ?_ NB195_197.out _; (with_reducible repeat (first | refine blk_drewN ?_ _ | refine blk_drew ?_ | refine blk_alloc ?_ _)); refine blk_far ?_ NB195_197.out _; (with_reducible repeat (first | refine blk_drewN ?_ _ | refine blk_drew ?_ | refine blk_alloc ?_ _)); exact BK195.out) hb); have n4_ := Aside0.mk (blk_below (g := gb197) (o := .cells #[.int .u8 ((rd_T40 t175 x45_2).f0), .int .u8 ((rd_T40 t175 x45_2).f1)] 40 (0, 0)) (by (with_reducible repeat (first | refine blk_drewN ?_ _ | refine blk_drew ?_ | refine blk_alloc ?_ _)); refine blk_put (cs := #[.int .u8 ((rd_T40 t175 x45_2).f0), .int .u8 0]) ?_ 1 _ rfl; (with_reducible repeat (first | refine blk_drewN ?_ _ | refine blk_drew ?_ | refine blk_alloc ?_ _)); refine blk_put (cs := #[.int .u8 0, .int .u8 0]) ?_ 0 _ rfl; (with_reducible repeat (first | refine blk_drewN ?_ _ | refine blk_drew ?_ | refine blk_alloc ?_ _)); exact BK197.out) hb); have n5_ := Aside0.mk (below_step (by repeat (first | (with_reducible first | exact HB.out | apply below_alloc | apply pw_below_drewN | apply below_drew1 | refine below_set ?_ GE172.out | refine below_set ?_ GE173.out | refine below_set ?_ GE195.out | refine below_set ?_ GE197.out) | exact HB.out)) hb); clear HO_43; clear BK172; clear BK173; clear BK195; clear BK197; clear HB; have HO_43 := n0_; have BK172 := n1_; have BK173 := n2_; have BK195 := n3_; have BK197 := n4_; have HB := n5_; clear n0_ n1_ n2_ n3_ n4_ n5_; (try clear hb); (try clear hb2); (try clear hk); (try clear hi)) | ((with_reducible refine gate_dst (N := 9) rfl ?_); refine box_event ?hg (N := 9) ?hd (cs := #[.int .u8 0, .bool false, .int .u8 0, .int .u8 0, .int .u8 0, .int .u8 0]) (t := 38) ?hr ?_; (case hd => rfl); (case hg => rfl); (case hr => first | (go_simp; done) | (go_simp; rfl)); intro gb205 hg w71 hbox hb; have n0_ := Aside0.mk (Kd.R_below (by (with_reducible repeat (first | apply Kd.R_alloc | apply Kd.R_drewN | apply Kd.R_drew)); exact HO_43.out) hb); have n1_ := Aside0.mk (blk_below (g := gb172) (o := .cells #[.int .u8 a0_0, .bool a0_1, .int .u8 a0_2, .int .u8 a0_3, .int .u8 a0_4, .int .u8 a0_5] 38 (0, 0)) (by (with_reducible repeat (first | refine blk_drewN ?_ _ | refine blk_drew ?_ | refine blk_alloc ?_ _)); exact BK172.out) hb); have n2_ := Aside0.mk (blk_below (g := gb173) (o := .cells #[.int .u8 a1_0, .bool a1_1, .int .u8 a1_2, .int .u8 a1_3, .int .u8 a1_4, .int .u8 a1_5] 38 (0, 0)) (by (with_reducible repeat (first | refine blk_drewN ?_ _ | refine blk_drew ?_ | refine blk_alloc ?_ _)); exact BK173.out) hb); have n3_ := Aside0.mk (blk_below (g := gb195) (o := .cells #[.int .u8 x196000_2, .bool x196001_2, .int .u8 x196002_2, .int .u8 x196003_2, .int .u8 x196004_2, .int .u8 x196005_2] 38 (0, 0)) (by (with_reducible repeat (first | refine blk_drewN ?_ _ | refine blk_drew ?_ | refine blk_alloc ?_ _)); exact BK195.out) hb); have n4_ := Aside0.mk (blk_below (g := gb197) (o := .cells #[.int .u8 ((rd_T40 t175 x45_2).f0), .int .u8 ((rd_T40 t175 x45_2).f1)] 40 (0, 0)) (by (with_reducible repeat (first | refine blk_drewN ?_ _ | refine blk_drew ?_ | refine blk_alloc ?_ _)); exact BK197.out) hb); have n5_ := Aside0.mk (below_step (by repeat (first | (with_reducible first | exact HB.out | apply below_alloc | apply pw_below_drewN | apply below_drew1 | refine below_set ?_ GE172.out | refine below_set ?_ GE173.out | refine below_set ?_ GE195.out | refine below_set ?_ GE197.out) | exact HB.out)) hb); have n6_ := Aside0.mk (hbox); have n7_ := Aside0.mk ((by rw [hg]; exact (below_size (by repeat (first | (with_reducible first | exact HB.out | apply below_alloc | apply pw_below_drewN | apply below_drew1 | refine below_set ?_ GE172.out | refine below_set ?_ GE173.out | refine below_set ?_ GE195.out | refine below_set ?_ GE197.out) | exact HB.out))) : w.heap.size ≤ gb205)); have n8_ := Aside0.mk ((by rw [hg]; exact (below_size (by repeat (first | (with_reducible first | exact HB.out | apply below_alloc | apply pw_below_drewN | apply below_drew1 | refine below_set ?_ GE172.out | refine below_set ?_ GE173.out | refine below_set ?_ GE195.out | refine below_set ?_ GE197.out) | exact HB.out))) : w.heap.size ≤ gb205)); have n9_ := Aside0.mk ((by rw [hg]; exact Nat.ne_of_lt (blk_lt (g := gb172) (o := .cells #[.int .u8 a0_0, .bool a0_1, .int .u8 a0_2, .int .u8 a0_3, .int .u8 a0_4, .int .u8 a0_5] 38 (0, 0)) (by (with_reducible repeat (first | refine blk_drewN ?_ _ | refine blk_drew ?_ | refine blk_alloc ?_ _)); exact BK172.out)) : gb172 ≠ gb205)); have n10_ := Aside0.mk ((by rw [hg]; exact Nat.ne_of_gt (blk_lt (g := gb172) (o := .cells #[.int .u8 a0_0, .bool a0_1, .int .u8 a0_2, .int .u8 a0_3, .int .u8 a0_4, .int .u8 a0_5] 38 (0, 0)) (by (with_reducible repeat (first | refine blk_drewN ?_ _ | refine blk_drew ?_ | refine blk_alloc ?_ _)); exact BK172.out)) : gb205 ≠ gb172)); have n11_ := Aside0.mk ((by rw [hg]; exact Nat.ne_of_lt (blk_lt (g := gb173) (o := .cells #[.int .u8 a1_0, .bool a1_1, .int .u8 a1_2, .int .u8 a1_3, .int .u8 a1_4, .int .u8 a1_5] 38 (0, 0)) (by (with_reducible repeat (first | refine blk_drewN ?_ _ | refine blk_drew ?_ | refine blk_alloc ?_ _)); exact BK173.out)) : gb173 ≠ gb205)); have n12_ := Aside0.mk ((by rw [hg]; exact Nat.ne_of_gt (blk_lt (g := gb173) (o := .cells #[.int .u8 a1_0, .bool a1_1, .int .u8 a1_2, .int .u8 a1_3, .int .u8 a1_4, .int .u8 a1_5] 38 (0, 0)) (by (with_reducible repeat (first | refine blk_drewN ?_ _ | refine blk_drew ?_ | refine blk_alloc ?_ _)); exact BK173.out)) : gb205 ≠ gb173)); have n13_ := Aside0.mk ((by rw [hg]; exact Nat.ne_of_lt (blk_lt (g := gb195) (o := .cells #[.int .u8 x196000_2, .bool x196001_2, .int .u8 x196002_2, .int .u8 x196003_2, .int .u8 x196004_2, .int .u8 x196005_2] 38 (0, 0)) (by (with_reducible repeat (first | refine blk_drewN ?_ _ | refine blk_drew ?_ | refine blk_alloc ?_ _)); exact BK195.out)) : gb195 ≠ gb205)); have n14_ := Aside0.mk ((by rw [hg]; exact Nat.ne_of_gt (blk_lt (g := gb195) (o := .cells #[.int .u8 x196000_2, .bool x196001_2, .int .u8 x196002_2, .int .u8 x196003_2, .int .u8 x196004_2, .int .u8 x196005_2] 38 (0, 0)) (by (with_reducible repeat (first | refine blk_drewN ?_ _ | refine blk_drew ?_ | refine blk_alloc ?_ _)); exact BK195.out)) : gb205 ≠ gb195)); have n15_ := Aside0.mk ((by rw [hg]; exact Nat.ne_of_lt (blk_lt (g := gb197) (o := .cells #[.int .u8 ((rd_T40 t175 x45_2).f0), .int .u8 ((rd_T40 t175 x45_2).f1)] 40 (0, 0)) (by (with_reducible repeat (first | refine blk_drewN ?_ _ | refine blk_drew ?_ | refine blk_alloc ?_ _)); exact BK197.out)) : gb197 ≠ gb205)); have n16_ := Aside0.mk ((by rw [hg]; exact Nat.ne_of_gt (blk_lt (g := gb197) (o := .cells #[.int .u8 ((rd_T40 t175 x45_2).f0), .int .u8 ((rd_T40 t175 x45_2).f1)] 40 (0, 0)) (by (with_reducible repeat (first | refine blk_drewN ?_ _ | refine blk_drew ?_ | refine blk_alloc ?_ _)); exact BK197.out)) : gb205 ≠ gb197)); clear HO_43; clear BK172; clear BK173; clear BK195; clear BK197; clear HB; have HO_43 := n0_; have BK172 := n1_; have BK173 := n2_; have BK195 := n3_; have BK197 := n4_; have HB := n5_; have BK205 := n6_; have GW205 := n7_; have GE205 := n8_; have NB172_205 := n9_; have NB205_172 := n10_; have NB173_205 := n11_; have NB205_173 := n12_; have NB195_205 := n13_; have NB205_195 := n14_; have NB197_205 := n15_; have NB205_197 := n16_; clear n0_ n1_ n2_ n3_ n4_ n5_ n6_ n7_ n8_ n9_ n10_ n11_ n12_ n13_ n14_ n15_ n16_; clear hb hbox hg; have hnb72 := NB205_172.out; have hnc72 := NB172_205.out; have hnb73 := NB205_173.out; have hnc73 := NB173_205.out; have hnb74 := NB205_195.out; have hnc74 := NB195_205.out; have hnb75 := NB205_197.out; have hnc75 := NB197_205.out; have hcz76_0 : w71.cell? ⟨gb205, 0, none⟩ = some (.int .u8 0) := (blk_cell BK205.out 0).trans rfl; have hcz76_1 : w71.cell? ⟨gb205, 1, none⟩ = some (.bool false) := (blk_cell BK205.out 1).trans rfl; have hcz76_2 : w71.cell? ⟨gb205, 2, none⟩ = some (.int .u8 0) := (blk_cell BK205.out 2).trans rfl; have hcz76_3 : w71.cell? ⟨gb205, 3, none⟩ = some (.int .u8 0) := (blk_cell BK205.out 3).trans rfl; have hcz76_4 : w71.cell? ⟨gb205, 4, none⟩ = some (.int .u8 0) := (blk_cell BK205.out 4).trans rfl; have hcz76_5 : w71.cell? ⟨gb205, 5, none⟩ = some (.int .u8 0) := (blk_cell BK205.out 5).trans rfl; have hfz76_0 := blk_frozen BK205.out 0; have hfz76_1 := blk_frozen BK205.out 1; have hfz76_2 := blk_frozen BK205.out 2; have hfz76_3 := blk_frozen BK205.out 3; have hfz76_4 := blk_frozen BK205.out 4; have hfz76_5 := blk_frozen BK205.out 5))
                      go_ret
                      exact ⟨by first | rfl | (simp [errW_none, errW_some] <;> rfl) | (simp [*, errW_none, errW_some] <;> rfl), by repeat (first | (with_reducible first | exact HB.out | apply below_alloc | apply pw_below_drewN | apply below_drew1 | refine below_set ?_ GE172.out | refine below_set ?_ GE173.out | refine below_set ?_ GE195.out | refine below_set ?_ GE197.out | refine below_set ?_ GE205.out) | exact HB.out)⟩
                  · rw [if_neg c43] at H
                    exact absurd H (by simp)
                · rw [if_neg c42] at H
                  exact absurd H (by simp)
              · rw [if_neg c41] at H
                have c41b0 : decide (x45_2 < (t175.length : Int)) = false := decide_eq_false c41
                clear c41
                have HC77 := Aside0.mk H
                clear H
                have hnb78 := NB172_173.out
                have hnc78 := NB173_172.out
                have hnb79 := NB172_195.out
                have hnc79 := NB195_172.out
                have hcz80_0 : wr.cell? ⟨gb172, 0, none⟩ = some (.int .u8 a0_0) := (blk_cell BK172.out 0).trans rfl
                have hcz80_1 : wr.cell? ⟨gb172, 1, none⟩ = some (.bool a0_1) := (blk_cell BK172.out 1).trans rfl
                have hcz80_2 : wr.cell? ⟨gb172, 2, none⟩ = some (.int .u8 a0_2) := (blk_cell BK172.out 2).trans rfl
                have hcz80_3 : wr.cell? ⟨gb172, 3, none⟩ = some (.int .u8 a0_3) := (blk_cell BK172.out 3).trans rfl
                have hcz80_4 : wr.cell? ⟨gb172, 4, none⟩ = some (.int .u8 a0_4) := (blk_cell BK172.out 4).trans rfl
                have hcz80_5 : wr.cell? ⟨gb172, 5, none⟩ = some (.int .u8 a0_5) := (blk_cell BK172.out 5).trans rfl
                have hfz80_0 := blk_frozen BK172.out 0
                have hfz80_1 := blk_frozen BK172.out 1
                have hfz80_2 := blk_frozen BK172.out 2
                have hfz80_3 := blk_frozen BK172.out 3
                have hfz80_4 := blk_frozen BK172.out 4
                have hfz80_5 := blk_frozen BK172.out 5
                go_upto_if 61 with (first | ((with_reducible refine gate_dst (N := 11) rfl ?_); refine box_event ?hg (N := 11) ?hd (cs := #[.int .u8 0, .bool false, .int .u8 0, .int .u8 0, .int .u8 0, .int .u8 0]) (t := 38) ?hr ?_; (case hd => rfl); (case hg => rfl); (case hr => first | (go_simp; done) | (go_simp; rfl)); intro gb206 hg w81 hbox hb; have n0_ := Aside0.mk (Kd.R_below (by (with_reducible repeat (first | apply Kd.R_alloc | apply Kd.R_drewN | apply Kd.R_drew)); exact HO_43.out) hb); have n1_ := Aside0.mk (blk_below (g := gb172) (o := .cells #[.int .u8 a0_0, .bool a0_1, .int .u8 a0_2, .int .u8 a0_3, .int .u8 a0_4, .int .u8 a0_5] 38 (0, 0)) (by (with_reducible repeat (first | refine blk_drewN ?_ _ | refine blk_drew ?_ | refine blk_alloc ?_ _)); exact BK172.out) hb); have n2_ := Aside0.mk (blk_below (g := gb173) (o := .cells #[.int .u8 a1_0, .bool a1_1, .int .u8 a1_2, .int .u8 a1_3, .int .u8 a1_4, .int .u8 a1_5] 38 (0, 0)) (by (with_reducible repeat (first | refine blk_drewN ?_ _ | refine blk_drew ?_ | refine blk_alloc ?_ _)); exact BK173.out) hb); have n3_ := Aside0.mk (blk_below (g := gb195) (o := .cells #[.int .u8 x196000_2, .bool x196001_2, .int .u8 x196002_2, .int .u8 x196003_2, .int .u8 x196004_2, .int .u8 x196005_2] 38 (0, 0)) (by (with_reducible repeat (first | refine blk_drewN ?_ _ | refine blk_drew ?_ | refine blk_alloc ?_ _)); exact BK195.out) hb); have n4_ := Aside0.mk (below_step (by repeat (first | (with_reducible first | exact HB.out | apply below_alloc | apply pw_below_drewN | apply below_drew1 | refine below_set ?_ GE172.out | refine below_set ?_ GE173.out | refine below_set ?_ GE195.out) | exact HB.out)) hb); have n5_ := Aside0.mk (hbox); have n6_ := Aside0.mk ((by rw [hg]; exact (below_size (by repeat (first | (with_reducible first | exact HB.out | apply below_alloc | apply pw_below_drewN | apply below_drew1 | refine below_set ?_ GE172.out | refine below_set ?_ GE173.out | refine below_set ?_ GE195.out) | exact HB.out))) : w.heap.size ≤ gb206)); have n7_ := Aside0.mk ((by rw [hg]; exact (below_size (by repeat (first | (with_reducible first | exact HB.out | apply below_alloc | apply pw_below_drewN | apply below_drew1 | refine below_set ?_ GE172.out | refine below_set ?_ GE173.out | refine below_set ?_ GE195.out) | exact HB.out))) : w.heap.size ≤ gb206)); have n8_ := Aside0.mk ((by rw [hg]; exact Nat.ne_of_lt (blk_lt (g := gb172) (o := .cells #[.int .u8 a0_0, .bool a0_1, .int .u8 a0_2, .int .u8 a0_3, .int .u8 a0_4, .int .u8 a0_5] 38 (0, 0)) (by (with_reducible repeat (first | refine blk_drewN ?_ _ | refine blk_drew ?_ | refine blk_alloc ?_ _)); exact BK172.out)) : gb172 ≠ gb206)); have n9_ := Aside0.mk ((by rw [hg]; exact Nat.ne_of_gt (blk_lt (g := gb172) (o := .cells #[.int .u8 a0_0, .bool a0_1, .int .u8 a0_2, .int .u8 a0_3, .int .u8 a0_4, .int .u8 a0_5] 38 (0, 0)) (by (with_reducible repeat (first | refine blk_drewN ?_ _ | refine blk_drew ?_ | refine blk_alloc ?_ _)); exact BK172.out)) : gb206 ≠ gb172)); have n10_ := Aside0.mk ((by rw [hg]; exact Nat.ne_of_lt (blk_lt (g := gb173) (o := .cells #[.int .u8 a1_0, .bool a1_1, .int .u8 a1_2, .int .u8 a1_3, .int .u8 a1_4, .int .u8 a1_5] 38 (0, 0)) (by (with_reducible repeat (first | refine blk_drewN ?_ _ | refine blk_drew ?_ | refine blk_alloc ?_ _)); exact BK173.out)) : gb173 ≠ gb206)); have n11_ := Aside0.mk ((by rw [hg]; exact Nat.ne_of_gt (blk_lt (g := gb173) (o := .cells #[.int .u8 a1_0, .bool a1_1, .int .u8 a1_2, .int .u8 a1_3, .int .u8 a1_4, .int .u8 a1_5] 38 (0, 0)) (by (with_reducible repeat (first | refine blk_drewN ?_ _ | refine blk_drew ?_ | refine blk_alloc ?_ _)); exact BK173.out)) : gb206 ≠ gb173)); have n12_ := Aside0.mk ((by rw [hg]; exact Nat.ne_of_lt (blk_lt (g := gb195) (o := .cells #[.int .u8 x196000_2, .bool x196001_2, .int .u8 x196002_2, .int .u8 x196003_2, .int .u8 x196004_2, .int .u8 x196005_2] 38 (0, 0)) (by (with_reducible repeat (first | refine blk_drewN ?_ _ | refine blk_drew ?_ | refine blk_alloc ?_ _)); exact BK195.out)) : gb195 ≠ gb206)); have n13_ := Aside0.mk ((by rw [hg]; exact Nat.ne_of_gt (blk_lt (g := gb195) (o := .cells #[.int .u8 x196000_2, .bool x196001_2, .int .u8 x196002_2, .int .u8 x196003_2, .int .u8 x196004_2, .int .u8 x196005_2] 38 (0, 0)) (by (with_reducible repeat (first | refine blk_drewN ?_ _ | refine blk_drew ?_ | refine blk_alloc ?_ _)); exact BK195.out)) : gb206 ≠ gb195)); clear HO_43; clear BK172; clear BK173; clear BK195; clear HB; have HO_43 := n0_; have BK172 := n1_; have BK173 := n2_; have BK195 := n3_; have HB := n4_; have BK206 := n5_; have GW206 := n6_; have GE206 := n7_; have NB172_206 := n8_; have NB206_172 := n9_; have NB173_206 := n10_; have NB206_173 := n11_; have NB195_206 := n12_; have NB206_195 := n13_; clear n0_ n1_ n2_ n3_ n4_ n5_ n6_ n7_ n8_ n9_ n10_ n11_ n12_ n13_; clear hb hbox hg; have hnb82 := NB206_172.out; have hnc82 := NB172_206.out; have hnb83 := NB206_173.out; have hnc83 := NB173_206.out; have hnb84 := NB206_195.out; have hnc84 := NB195_206.out; have hcz85_0 : w81.cell? ⟨gb206, 0, none⟩ = some (.int .u8 0) := (blk_cell BK206.out 0).trans rfl; have hcz85_1 : w81.cell? ⟨gb206, 1, none⟩ = some (.bool false) := (blk_cell BK206.out 1).trans rfl; have hcz85_2 : w81.cell? ⟨gb206, 2, none⟩ = some (.int .u8 0) := (blk_cell BK206.out 2).trans rfl; have hcz85_3 : w81.cell? ⟨gb206, 3, none⟩ = some (.int .u8 0) := (blk_cell BK206.out 3).trans rfl; have hcz85_4 : w81.cell? ⟨gb206, 4, none⟩ = some (.int .u8 0) := (blk_cell BK206.out 4).trans rfl; have hcz85_5 : w81.cell? ⟨gb206, 5, none⟩ = some (.int .u8 0) := (blk_cell BK206.out 5).trans rfl; have hfz85_0 := blk_frozen BK206.out 0; have hfz85_1 := blk_frozen BK206.out 1; have hfz85_2 := blk_frozen BK206.out 2; have hfz85_3 := blk_frozen BK206.out 3; have hfz85_4 := blk_frozen BK206.out 4; have hfz85_5 := blk_frozen BK206.out 5; have hcz86_0 : w81.cell? ⟨gb172, 0, none⟩ = some (.int .u8 a0_0) := (blk_cell BK172.out 0).trans rfl; have hcz86_1 : w81.cell? ⟨gb172, 1, none⟩ = some (.bool a0_1) := (blk_cell BK172.out 1).trans rfl; have hcz86_2 : w81.cell? ⟨gb172, 2, none⟩ = some (.int .u8 a0_2) := (blk_cell BK172.out 2).trans rfl; have hcz86_3 : w81.cell? ⟨gb172, 3, none⟩ = some (.int .u8 a0_3) := (blk_cell BK172.out 3).trans rfl; have hcz86_4 : w81.cell? ⟨gb172, 4, none⟩ = some (.int .u8 a0_4) := (blk_cell BK172.out 4).trans rfl; have hcz86_5 : w81.cell? ⟨gb172, 5, none⟩ = some (.int .u8 a0_5) := (blk_cell BK172.out 5).trans rfl; have hfz86_0 := blk_frozen BK172.out 0; have hfz86_1 := blk_frozen BK172.out 1; have hfz86_2 := blk_frozen BK172.out 2; have hfz86_3 := blk_frozen BK172.out 3; have hfz86_4 := blk_frozen BK172.out 4; have hfz86_5 := blk_frozen BK172.out 5))
                (try simp only [Act.put, List.setIfInBounds_toArray, List.set_cons_zero, List.set_cons_succ])
                go_cut [] (fun wc => ∃ (kq : Nat) (x207002_76 : Int), Aside0 (vitrinelaw05_AttrMakes.j2 kq a0_0 a0_1 a0_2 a0_3 a0_4 a0_5 a1_0 a1_1 a1_2 a1_3 a1_4 a1_5 x196000_2 x196001_2 x196002_2 x196003_2 x196004_2 x196005_2 a0_0 a0_1 x207002_76 a0_3 a0_4 a0_5 = some r) ∧ Aside0 (kq ≤ k2) ∧ Aside0 (wc.heap[gb172]? = some (.cells #[.int .u8 a0_0, .bool a0_1, .int .u8 a0_2, .int .u8 a0_3, .int .u8 a0_4, .int .u8 a0_5] 38 (0, 0))) ∧ Aside0 (wc.heap[gb173]? = some (.cells #[.int .u8 a1_0, .bool a1_1, .int .u8 a1_2, .int .u8 a1_3, .int .u8 a1_4, .int .u8 a1_5] 38 (0, 0))) ∧ Aside0 (wc.heap[gb195]? = some (.cells #[.int .u8 x196000_2, .bool x196001_2, .int .u8 x196002_2, .int .u8 x196003_2, .int .u8 x196004_2, .int .u8 x196005_2] 38 (0, 0))) ∧ Aside0 (wc.heap[gb206]? = some (.cells #[.int .u8 a0_0, .bool a0_1, .int .u8 x207002_76, .int .u8 a0_3, .int .u8 a0_4, .int .u8 a0_5] 38 (0, 0))) ∧ Aside0 (Below w.heap.size w wc))
                case first =>
                  have H := HC77.out
                  clear HC77
                  by_cases c87 : a0_1 = true
                  · subst c87
                    have H1 : ((vitrineref05_Six.f k2 a0_2).bind fun t207 => (vitrinelaw05_AttrMakes.j2 k2 a0_0 true a0_2 a0_3 a0_4 a0_5 a1_0 a1_1 a1_2 a1_3 a1_4 a1_5 x196000_2 x196001_2 x196002_2 x196003_2 x196004_2 x196005_2 a0_0 true t207 a0_3 a0_4 a0_5)) = some r := by rw [if_pos rfl] at H; exact H
                    clear H
                    have H := H1
                    clear H1
                    replace H := Option.bind_eq_some_iff.mp H
                    obtain ⟨t207, A880, H⟩ := H
                    replace H : (vitrinelaw05_AttrMakes.j2 k2 a0_0 true a0_2 a0_3 a0_4 a0_5 a1_0 a1_1 a1_2 a1_3 a1_4 a1_5 x196000_2 x196001_2 x196002_2 x196003_2 x196004_2 x196005_2 a0_0 true t207 a0_3 a0_4 a0_5) = some r := H
                    have A88 := Aside0.mk A880
                    clear A880
                    have H' := Aside0.mk H
                    clear H
                    have hnb89 := NB172_173.out
                    have hnc89 := NB173_172.out
                    have hnb90 := NB172_195.out
                    have hnc90 := NB195_172.out
                    have hnb91 := NB172_206.out
                    have hnc91 := NB206_172.out
                    have hcz92_0 : w81.cell? ⟨gb172, 0, none⟩ = some (.int .u8 a0_0) := (blk_cell BK172.out 0).trans rfl
                    have hcz92_1 : w81.cell? ⟨gb172, 1, none⟩ = some (.bool true) := (blk_cell BK172.out 1).trans rfl
                    have hcz92_2 : w81.cell? ⟨gb172, 2, none⟩ = some (.int .u8 a0_2) := (blk_cell BK172.out 2).trans rfl
                    have hcz92_3 : w81.cell? ⟨gb172, 3, none⟩ = some (.int .u8 a0_3) := (blk_cell BK172.out 3).trans rfl
                    have hcz92_4 : w81.cell? ⟨gb172, 4, none⟩ = some (.int .u8 a0_4) := (blk_cell BK172.out 4).trans rfl
                    have hcz92_5 : w81.cell? ⟨gb172, 5, none⟩ = some (.int .u8 a0_5) := (blk_cell BK172.out 5).trans rfl
                    have hfz92_0 := blk_frozen BK172.out 0
                    have hfz92_1 := blk_frozen BK172.out 1
                    have hfz92_2 := blk_frozen BK172.out 2
                    have hfz92_3 := blk_frozen BK172.out 3
                    have hfz92_4 := blk_frozen BK172.out 4
                    have hfz92_5 := blk_frozen BK172.out 5
                    go_wp2_with (first | ((with_reducible refine gate_callee (f := 35) rfl ?_); refine goesL_ (some 64) rfl rfl Try.func35 (by kernel_rfl) rfl #[.int .u8 a0_2] rfl (by (try simp only [List.map_toArray, List.map_cons, List.map_nil]); first | done | rfl | (simp only [List.length_drop, List.length_take]; rfl)) ?_; (with_reducible refine (vitrineref05_Six.calls k2 a0_2 t207 _ A88.out).mono ?_); rintro e w93 ⟨rfl, hb⟩; refine ⟨_, rfl, ?_⟩; have n0_ := Aside0.mk (Kd.R_below (by (with_reducible repeat (first | apply Kd.R_alloc | apply Kd.R_drewN | apply Kd.R_drew)); exact (Kd.R_mono (Kd.R_far (p := ⟨gb206, 5, none⟩) (Kd.R_far (p := ⟨gb206, 4, none⟩) (Kd.R_far (p := ⟨gb206, 3, none⟩) (Kd.R_far (p := ⟨gb206, 2, none⟩) (Kd.R_far (p := ⟨gb206, 1, none⟩) (Kd.R_far (p := ⟨gb206, 0, none⟩) (Kd.R_types HO_43.out BK206.out (by decide)) (fun _ hk => hk.2) (.int .u8 a0_0)) (fun _ hk => hk.2) (.bool true)) (fun _ hk => hk.2) (.int .u8 a0_2)) (fun _ hk => hk.2) (.int .u8 a0_3)) (fun _ hk => hk.2) (.int .u8 a0_4)) (fun _ hk => hk.2) (.int .u8 a0_5)) (fun _ h_ => h_.1))) hb); have n1_ := Aside0.mk (blk_below (g := gb172) (o := .cells #[.int .u8 a0_0, .bool true, .int .u8 a0_2, .int .u8 a0_3, .int .u8 a0_4, .int .u8 a0_5] 38 (0, 0)) (by (with_reducible repeat (first | refine blk_drewN ?_ _ | refine blk_drew ?_ | refine blk_alloc ?_ _)); refine blk_far ?_ NB172_206.out _; (with_reducible repeat (first | refine blk_drewN ?_ _ | refine blk_drew ?_ | refine blk_alloc ?_ _)); refine blk_far ?_ NB172_206.out _; (with_reducible repeat (first | refine blk_drewN ?_ _ | refine blk_drew ?_ | refine blk_alloc ?_ _)); refine blk_far ?_ NB172_206.out _; (with_reducible repeat (first | refine blk_drewN ?_ _ | refine blk_drew ?_ | refine blk_alloc ?_ _)); refine blk_far ?_ NB172_206.out _; (with_reducible repeat (first | refine blk_drewN ?_ _ | refine blk_drew ?_ | refine blk_alloc ?_ _)); refine blk_far ?_ NB172_206.out _; (with_reducible repeat (first | refine blk_drewN ?_ _ | refine blk_drew ?_ | refine blk_alloc ?_ _)); refine blk_far ?_ NB172_206.out _; (with_reducible repeat (first | refine blk_drewN ?_ _ | refine blk_drew ?_ | refine blk_alloc ?_ _)); exact BK172.out) hb); have n2_ := Aside0.mk (blk_below (g := gb173) (o := .cells #[.int .u8 a1_0, .bool a1_1, .int .u8 a1_2, .int .u8 a1_3, .int .u8 a1_4, .int .u8 a1_5] 38 (0, 0)) (by (with_reducible repeat (first | refine blk_drewN ?_ _ | refine blk_drew ?_ | refine blk_alloc ?_ _)); refine blk_far ?_ NB173_206.out _; (with_reducible repeat (first | refine blk_drewN ?_ _ | refine blk_drew ?_ | refine blk_alloc ?_ _)); refine blk_far ?_ NB173_206.out _; (with_reducible repeat (first | refine blk_drewN ?_ _ | refine blk_drew ?_ | refine blk_alloc ?_ _)); refine blk_far ?_ NB173_206.out _; (with_reducible repeat (first | refine blk_drewN ?_ _ | refine blk_drew ?_ | refine blk_alloc ?_ _)); refine blk_far ?_ NB173_206.out _; (with_reducible repeat (first | refine blk_drewN ?_ _ | refine blk_drew ?_ | refine blk_alloc ?_ _)); refine blk_far ?_ NB173_206.out _; (with_reducible repeat (first | refine blk_drewN ?_ _ | refine blk_drew ?_ | refine blk_alloc ?_ _)); refine blk_far ?_ NB173_206.out _; (with_reducible repeat (first | refine blk_drewN ?_ _ | refine blk_drew ?_ | refine blk_alloc ?_ _)); exact BK173.out) hb); have n3_ := Aside0.mk (blk_below (g := gb195) (o := .cells #[.int .u8 x196000_2, .bool x196001_2, .int .u8 x196002_2, .int .u8 x196003_2, .int .u8 x196004_2, .int .u8 x196005_2] 38 (0, 0)) (by (with_reducible repeat (first | refine blk_drewN ?_ _ | refine blk_drew ?_ | refine blk_alloc ?_ _)); refine blk_far ?_ NB195_206.out _; (with_reducible repeat (first | refine blk_drewN ?_ _ | refine blk_drew ?_ | refine blk_alloc ?_ _)); refine blk_far ?_ NB195_206.out _; (with_reducible repeat (first | refine blk_drewN ?_ _ | refine blk_drew ?_ | refine blk_alloc ?_ _)); refine blk_far ?_ NB195_206.out _; (with_reducible repeat (first | refine blk_drewN ?_ _ | refine blk_drew ?_ | refine blk_alloc ?_ _)); refine blk_far ?_ NB195_206.out _; (with_reducible repeat (first | refine blk_drewN ?_ _ | refine blk_drew ?_ | refine blk_alloc ?_ _)); refine blk_far ?_ NB195_206.out _; (with_reducible repeat (first | refine blk_drewN ?_ _ | refine blk_drew ?_ | refine blk_alloc ?_ _)); refine blk_far ?_ NB195_206.out _; (with_reducible repeat (first | refine blk_drewN ?_ _ | refine blk_drew ?_ | refine blk_alloc ?_ _)); exact BK195.out) hb); have n4_ := Aside0.mk (blk_below (g := gb206) (o := .cells #[.int .u8 a0_0, .bool true, .int .u8 a0_2, .int .u8 a0_3, .int .u8 a0_4, .int .u8 a0_5] 38 (0, 0)) (by (with_reducible repeat (first | refine blk_drewN ?_ _ | refine blk_drew ?_ | refine blk_alloc ?_ _)); refine blk_put (cs := #[.int .u8 a0_0, .bool true, .int .u8 a0_2, .int .u8 a0_3, .int .u8 a0_4, .int .u8 0]) ?_ 5 _ rfl; (with_reducible repeat (first | refine blk_drewN ?_ _ | refine blk_drew ?_ | refine blk_alloc ?_ _)); refine blk_put (cs := #[.int .u8 a0_0, .bool true, .int .u8 a0_2, .int .u8 a0_3, .int .u8 0, .int .u8 0]) ?_ 4 _ rfl; (with_reducible repeat (first | refine blk_drewN ?_ _ | refine blk_drew ?_ | refine blk_alloc ?_ _)); refine blk_put (cs := #[.int .u8 a0_0, .bool true, .int .u8 a0_2, .int .u8 0, .int .u8 0, .int .u8 0]) ?_ 3 _ rfl; (with_reducible repeat (first | refine blk_drewN ?_ _ | refine blk_drew ?_ | refine blk_alloc ?_ _)); refine blk_put (cs := #[.int .u8 a0_0, .bool true, .int .u8 0, .int .u8 0, .int .u8 0, .int .u8 0]) ?_ 2 _ rfl; (with_reducible repeat (first | refine blk_drewN ?_ _ | refine blk_drew ?_ | refine blk_alloc ?_ _)); refine blk_put (cs := #[.int .u8 a0_0, .bool false, .int .u8 0, .int .u8 0, .int .u8 0, .int .u8 0]) ?_ 1 _ rfl; (with_reducible repeat (first | refine blk_drewN ?_ _ | refine blk_drew ?_ | refine blk_alloc ?_ _)); refine blk_put (cs := #[.int .u8 0, .bool false, .int .u8 0, .int .u8 0, .int .u8 0, .int .u8 0]) ?_ 0 _ rfl; (with_reducible repeat (first | refine blk_drewN ?_ _ | refine blk_drew ?_ | refine blk_alloc ?_ _)); exact BK206.out) hb); have n5_ := Aside0.mk (below_step (by repeat (first | (with_reducible first | exact HB.out | apply below_alloc | apply pw_below_drewN | apply below_drew1 | refine below_set ?_ GE172.out | refine below_set ?_ GE173.out | refine below_set ?_ GE195.out | refine below_set ?_ GE206.out) | exact HB.out)) hb); clear HO_43; clear BK172; clear BK173; clear BK195; clear BK206; clear HB; have HO_43 := n0_; have BK172 := n1_; have BK173 := n2_; have BK195 := n3_; have BK206 := n4_; have HB := n5_; clear n0_ n1_ n2_ n3_ n4_ n5_; (try clear hb); (try clear hb2); (try clear hk); (try clear hi); have hnb94 := NB206_173.out; have hnc94 := NB173_206.out; have hnb95 := NB206_195.out; have hnc95 := NB195_206.out; have hcz96_0 : w93.cell? ⟨gb206, 0, none⟩ = some (.int .u8 a0_0) := (blk_cell BK206.out 0).trans rfl; have hcz96_1 : w93.cell? ⟨gb206, 1, none⟩ = some (.bool true) := (blk_cell BK206.out 1).trans rfl; have hcz96_2 : w93.cell? ⟨gb206, 2, none⟩ = some (.int .u8 a0_2) := (blk_cell BK206.out 2).trans rfl; have hcz96_3 : w93.cell? ⟨gb206, 3, none⟩ = some (.int .u8 a0_3) := (blk_cell BK206.out 3).trans rfl; have hcz96_4 : w93.cell? ⟨gb206, 4, none⟩ = some (.int .u8 a0_4) := (blk_cell BK206.out 4).trans rfl; have hcz96_5 : w93.cell? ⟨gb206, 5, none⟩ = some (.int .u8 a0_5) := (blk_cell BK206.out 5).trans rfl; have hfz96_0 := blk_frozen BK206.out 0; have hfz96_1 := blk_frozen BK206.out 1; have hfz96_2 := blk_frozen BK206.out 2; have hfz96_3 := blk_frozen BK206.out 3; have hfz96_4 := blk_frozen BK206.out 4; have hfz96_5 := blk_frozen BK206.out 5))
                    go_meet
                    case rel => exact ⟨_, (t207), H', ⟨by have := HJ5.out; have := HK2.out; first | omega | exact Nat.le_refl _⟩, ⟨by (with_reducible repeat (first | refine blk_drewN ?_ _ | refine blk_drew ?_ | refine blk_alloc ?_ _)); refine blk_far ?_ NB172_206.out _; (with_reducible repeat (first | refine blk_drewN ?_ _ | refine blk_drew ?_ | refine blk_alloc ?_ _)); exact BK172.out⟩, ⟨by (with_reducible repeat (first | refine blk_drewN ?_ _ | refine blk_drew ?_ | refine blk_alloc ?_ _)); refine blk_far ?_ NB173_206.out _; (with_reducible repeat (first | refine blk_drewN ?_ _ | refine blk_drew ?_ | refine blk_alloc ?_ _)); exact BK173.out⟩, ⟨by (with_reducible repeat (first | refine blk_drewN ?_ _ | refine blk_drew ?_ | refine blk_alloc ?_ _)); refine blk_far ?_ NB195_206.out _; (with_reducible repeat (first | refine blk_drewN ?_ _ | refine blk_drew ?_ | refine blk_alloc ?_ _)); exact BK195.out⟩, ⟨by (with_reducible repeat (first | refine blk_drewN ?_ _ | refine blk_drew ?_ | refine blk_alloc ?_ _)); refine blk_put (cs := #[.int .u8 a0_0, .bool true, .int .u8 a0_2, .int .u8 a0_3, .int .u8 a0_4, .int .u8 a0_5]) ?_ 2 _ rfl; (with_reducible repeat (first | refine blk_drewN ?_ _ | refine blk_drew ?_ | refine blk_alloc ?_ _)); exact BK206.out⟩, ⟨by repeat (first | (with_reducible first | exact HB.out | apply below_alloc | apply pw_below_drewN | apply below_drew1 | refine below_set ?_ GE172.out | refine below_set ?_ GE173.out | refine below_set ?_ GE195.out | refine below_set ?_ GE206.out) | exact HB.out)⟩⟩
                  · replace c87 := Bool.eq_false_iff.mpr c87
                    subst c87
                    have H1 : (vitrinelaw05_AttrMakes.j2 k2 a0_0 false a0_2 a0_3 a0_4 a0_5 a1_0 a1_1 a1_2 a1_3 a1_4 a1_5 x196000_2 x196001_2 x196002_2 x196003_2 x196004_2 x196005_2 a0_0 false 0 a0_3 a0_4 a0_5) = some r := by rw [if_neg (show ¬ (false = true) by decide)] at H; exact H
                    clear H
                    have H := H1
                    clear H1
                    have H' := Aside0.mk H
                    clear H
                    have hnb97 := NB206_172.out
                    have hnc97 := NB172_206.out
                    have hnb98 := NB206_173.out
                    have hnc98 := NB173_206.out
                    have hnb99 := NB206_195.out
                    have hnc99 := NB195_206.out
                    have hcz100_0 : w81.cell? ⟨gb206, 0, none⟩ = some (.int .u8 0) := (blk_cell BK206.out 0).trans rfl
                    have hcz100_1 : w81.cell? ⟨gb206, 1, none⟩ = some (.bool false) := (blk_cell BK206.out 1).trans rfl
                    have hcz100_2 : w81.cell? ⟨gb206, 2, none⟩ = some (.int .u8 0) := (blk_cell BK206.out 2).trans rfl
                    have hcz100_3 : w81.cell? ⟨gb206, 3, none⟩ = some (.int .u8 0) := (blk_cell BK206.out 3).trans rfl
                    have hcz100_4 : w81.cell? ⟨gb206, 4, none⟩ = some (.int .u8 0) := (blk_cell BK206.out 4).trans rfl
                    have hcz100_5 : w81.cell? ⟨gb206, 5, none⟩ = some (.int .u8 0) := (blk_cell BK206.out 5).trans rfl
                    have hfz100_0 := blk_frozen BK206.out 0
                    have hfz100_1 := blk_frozen BK206.out 1
                    have hfz100_2 := blk_frozen BK206.out 2
                    have hfz100_3 := blk_frozen BK206.out 3
                    have hfz100_4 := blk_frozen BK206.out 4
                    have hfz100_5 := blk_frozen BK206.out 5
                    go_wp2
                    go_meet
                    case rel => exact ⟨_, (0), H', ⟨by have := HJ5.out; have := HK2.out; first | omega | exact Nat.le_refl _⟩, ⟨by (with_reducible repeat (first | refine blk_drewN ?_ _ | refine blk_drew ?_ | refine blk_alloc ?_ _)); refine blk_far ?_ NB172_206.out _; (with_reducible repeat (first | refine blk_drewN ?_ _ | refine blk_drew ?_ | refine blk_alloc ?_ _)); refine blk_far ?_ NB172_206.out _; (with_reducible repeat (first | refine blk_drewN ?_ _ | refine blk_drew ?_ | refine blk_alloc ?_ _)); refine blk_far ?_ NB172_206.out _; (with_reducible repeat (first | refine blk_drewN ?_ _ | refine blk_drew ?_ | refine blk_alloc ?_ _)); refine blk_far ?_ NB172_206.out _; (with_reducible repeat (first | refine blk_drewN ?_ _ | refine blk_drew ?_ | refine blk_alloc ?_ _)); refine blk_far ?_ NB172_206.out _; (with_reducible repeat (first | refine blk_drewN ?_ _ | refine blk_drew ?_ | refine blk_alloc ?_ _)); refine blk_far ?_ NB172_206.out _; (with_reducible repeat (first | refine blk_drewN ?_ _ | refine blk_drew ?_ | refine blk_alloc ?_ _)); refine blk_far ?_ NB172_206.out _; (with_reducible repeat (first | refine blk_drewN ?_ _ | refine blk_drew ?_ | refine blk_alloc ?_ _)); exact BK172.out⟩, ⟨by (with_reducible repeat (first | refine blk_drewN ?_ _ | refine blk_drew ?_ | refine blk_alloc ?_ _)); refine blk_far ?_ NB173_206.out _; (with_reducible repeat (first | refine blk_drewN ?_ _ | refine blk_drew ?_ | refine blk_alloc ?_ _)); refine blk_far ?_ NB173_206.out _; (with_reducible repeat (first | refine blk_drewN ?_ _ | refine blk_drew ?_ | refine blk_alloc ?_ _)); refine blk_far ?_ NB173_206.out _; (with_reducible repeat (first | refine blk_drewN ?_ _ | refine blk_drew ?_ | refine blk_alloc ?_ _)); refine blk_far ?_ NB173_206.out _; (with_reducible repeat (first | refine blk_drewN ?_ _ | refine blk_drew ?_ | refine blk_alloc ?_ _)); refine blk_far ?_ NB173_206.out _; (with_reducible repeat (first | refine blk_drewN ?_ _ | refine blk_drew ?_ | refine blk_alloc ?_ _)); refine blk_far ?_ NB173_206.out _; (with_reducible repeat (first | refine blk_drewN ?_ _ | refine blk_drew ?_ | refine blk_alloc ?_ _)); refine blk_far ?_ NB173_206.out _; (with_reducible repeat (first | refine blk_drewN ?_ _ | refine blk_drew ?_ | refine blk_alloc ?_ _)); exact BK173.out⟩, ⟨by (with_reducible repeat (first | refine blk_drewN ?_ _ | refine blk_drew ?_ | refine blk_alloc ?_ _)); refine blk_far ?_ NB195_206.out _; (with_reducible repeat (first | refine blk_drewN ?_ _ | refine blk_drew ?_ | refine blk_alloc ?_ _)); refine blk_far ?_ NB195_206.out _; (with_reducible repeat (first | refine blk_drewN ?_ _ | refine blk_drew ?_ | refine blk_alloc ?_ _)); refine blk_far ?_ NB195_206.out _; (with_reducible repeat (first | refine blk_drewN ?_ _ | refine blk_drew ?_ | refine blk_alloc ?_ _)); refine blk_far ?_ NB195_206.out _; (with_reducible repeat (first | refine blk_drewN ?_ _ | refine blk_drew ?_ | refine blk_alloc ?_ _)); refine blk_far ?_ NB195_206.out _; (with_reducible repeat (first | refine blk_drewN ?_ _ | refine blk_drew ?_ | refine blk_alloc ?_ _)); refine blk_far ?_ NB195_206.out _; (with_reducible repeat (first | refine blk_drewN ?_ _ | refine blk_drew ?_ | refine blk_alloc ?_ _)); refine blk_far ?_ NB195_206.out _; (with_reducible repeat (first | refine blk_drewN ?_ _ | refine blk_drew ?_ | refine blk_alloc ?_ _)); exact BK195.out⟩, ⟨by (with_reducible repeat (first | refine blk_drewN ?_ _ | refine blk_drew ?_ | refine blk_alloc ?_ _)); refine blk_put (cs := #[.int .u8 a0_0, .bool false, .int .u8 a0_2, .int .u8 a0_3, .int .u8 a0_4, .int .u8 a0_5]) ?_ 2 _ rfl; (with_reducible repeat (first | refine blk_drewN ?_ _ | refine blk_drew ?_ | refine blk_alloc ?_ _)); refine blk_put (cs := #[.int .u8 a0_0, .bool false, .int .u8 a0_2, .int .u8 a0_3, .int .u8 a0_4, .int .u8 0]) ?_ 5 _ rfl; (with_reducible repeat (first | refine blk_drewN ?_ _ | refine blk_drew ?_ | refine blk_alloc ?_ _)); refine blk_put (cs := #[.int .u8 a0_0, .bool false, .int .u8 a0_2, .int .u8 a0_3, .int .u8 0, .int .u8 0]) ?_ 4 _ rfl; (with_reducible repeat (first | refine blk_drewN ?_ _ | refine blk_drew ?_ | refine blk_alloc ?_ _)); refine blk_put (cs := #[.int .u8 a0_0, .bool false, .int .u8 a0_2, .int .u8 0, .int .u8 0, .int .u8 0]) ?_ 3 _ rfl; (with_reducible repeat (first | refine blk_drewN ?_ _ | refine blk_drew ?_ | refine blk_alloc ?_ _)); refine blk_put (cs := #[.int .u8 a0_0, .bool false, .int .u8 0, .int .u8 0, .int .u8 0, .int .u8 0]) ?_ 2 _ rfl; (with_reducible repeat (first | refine blk_drewN ?_ _ | refine blk_drew ?_ | refine blk_alloc ?_ _)); refine blk_put (cs := #[.int .u8 a0_0, .bool false, .int .u8 0, .int .u8 0, .int .u8 0, .int .u8 0]) ?_ 1 _ rfl; (with_reducible repeat (first | refine blk_drewN ?_ _ | refine blk_drew ?_ | refine blk_alloc ?_ _)); refine blk_put (cs := #[.int .u8 0, .bool false, .int .u8 0, .int .u8 0, .int .u8 0, .int .u8 0]) ?_ 0 _ rfl; (with_reducible repeat (first | refine blk_drewN ?_ _ | refine blk_drew ?_ | refine blk_alloc ?_ _)); exact BK206.out⟩, ⟨by repeat (first | (with_reducible first | exact HB.out | apply below_alloc | apply pw_below_drewN | apply below_drew1 | refine below_set ?_ GE172.out | refine below_set ?_ GE173.out | refine below_set ?_ GE195.out | refine below_set ?_ GE206.out) | exact HB.out)⟩⟩
                case rest =>
                  clear HC77
                  try clear c1
                  try clear p1
                  try clear q1
                  try clear hx1
                  try clear c2
                  try clear p2
                  try clear c3
                  try clear c4
                  try clear c5
                  try clear c6
                  try clear p6
                  try clear c7
                  try clear c8
                  try clear c9
                  try clear c10
                  try clear c16
                  try clear c18
                  try clear p19
                  try clear q19
                  try clear hx19
                  try clear c26
                  try clear c27
                  try clear c31
                  try clear c32
                  try clear c33
                  try clear c34
                  try clear c35
                  try clear c37
                  try clear c38
                  try clear c41
                  try clear c41b0
                  try clear c42
                  try clear c42b0
                  try clear c43
                  try clear c43b0
                  try clear c45
                  try clear c45b0
                  try clear c45b1
                  try clear c47
                  try clear c48
                  try clear c49
                  try clear c51
                  try clear c52
                  try clear c56
                  try clear c57
                  try clear c58
                  try clear c59
                  try clear c63
                  try clear c64
                  try clear p64
                  try clear c65
                  try clear c67
                  try clear c68
                  try clear c72
                  try clear c73
                  try clear c74
                  try clear c75
                  try clear c78
                  try clear c79
                  try clear c82
                  try clear c83
                  try clear c84
                  try clear c87
                  try clear c89
                  try clear c90
                  try clear c91
                  try clear c94
                  try clear c95
                  try clear c97
                  try clear c98
                  try clear c99
                  try clear hcz100_0
                  try clear hcz100_1
                  try clear hcz100_2
                  try clear hcz100_3
                  try clear hcz100_4
                  try clear hcz100_5
                  try clear hcz11_0
                  try clear hcz11_1
                  try clear hcz11_2
                  try clear hcz11_3
                  try clear hcz11_4
                  try clear hcz11_5
                  try clear hcz35_0
                  try clear hcz35_1
                  try clear hcz35_2
                  try clear hcz35_3
                  try clear hcz35_4
                  try clear hcz35_5
                  try clear hcz39_0
                  try clear hcz39_1
                  try clear hcz39_2
                  try clear hcz39_3
                  try clear hcz39_4
                  try clear hcz39_5
                  try clear hcz50_0
                  try clear hcz50_1
                  try clear hcz53_0
                  try clear hcz53_1
                  try clear hcz53_2
                  try clear hcz53_3
                  try clear hcz53_4
                  try clear hcz53_5
                  try clear hcz60_0
                  try clear hcz60_1
                  try clear hcz60_2
                  try clear hcz60_3
                  try clear hcz60_4
                  try clear hcz60_5
                  try clear hcz61_0
                  try clear hcz61_1
                  try clear hcz61_2
                  try clear hcz61_3
                  try clear hcz61_4
                  try clear hcz61_5
                  try clear hcz66_0
                  try clear hcz66_1
                  try clear hcz69_0
                  try clear hcz69_1
                  try clear hcz69_2
                  try clear hcz69_3
                  try clear hcz69_4
                  try clear hcz69_5
                  try clear hcz76_0
                  try clear hcz76_1
                  try clear hcz76_2
                  try clear hcz76_3
                  try clear hcz76_4
                  try clear hcz76_5
                  try clear hcz80_0
                  try clear hcz80_1
                  try clear hcz80_2
                  try clear hcz80_3
                  try clear hcz80_4
                  try clear hcz80_5
                  try clear hcz85_0
                  try clear hcz85_1
                  try clear hcz85_2
                  try clear hcz85_3
                  try clear hcz85_4
                  try clear hcz85_5
                  try clear hcz86_0
                  try clear hcz86_1
                  try clear hcz86_2
                  try clear hcz86_3
                  try clear hcz86_4
                  try clear hcz86_5
                  try clear hcz92_0
                  try clear hcz92_1
                  try clear hcz92_2
                  try clear hcz92_3
                  try clear hcz92_4
                  try clear hcz92_5
                  try clear hcz96_0
                  try clear hcz96_1
                  try clear hcz96_2
                  try clear hcz96_3
                  try clear hcz96_4
                  try clear hcz96_5
                  try clear hfz100_0
                  try clear hfz100_1
                  try clear hfz100_2
                  try clear hfz100_3
                  try clear hfz100_4
                  try clear hfz100_5
                  try clear hfz11_0
                  try clear hfz11_1
                  try clear hfz11_2
                  try clear hfz11_3
                  try clear hfz11_4
                  try clear hfz11_5
                  try clear hfz35_0
                  try clear hfz35_1
                  try clear hfz35_2
                  try clear hfz35_3
                  try clear hfz35_4
                  try clear hfz35_5
                  try clear hfz39_0
                  try clear hfz39_1
                  try clear hfz39_2
                  try clear hfz39_3
                  try clear hfz39_4
                  try clear hfz39_5
                  try clear hfz50_0
                  try clear hfz50_1
                  try clear hfz53_0
                  try clear hfz53_1
                  try clear hfz53_2
                  try clear hfz53_3
                  try clear hfz53_4
                  try clear hfz53_5
                  try clear hfz60_0
                  try clear hfz60_1
                  try clear hfz60_2
                  try clear hfz60_3
                  try clear hfz60_4
                  try clear hfz60_5
                  try clear hfz61_0
                  try clear hfz61_1
                  try clear hfz61_2
                  try clear hfz61_3
                  try clear hfz61_4
                  try clear hfz61_5
                  try clear hfz66_0
                  try clear hfz66_1
                  try clear hfz69_0
                  try clear hfz69_1
                  try clear hfz69_2
                  try clear hfz69_3
                  try clear hfz69_4
                  try clear hfz69_5
                  try clear hfz76_0
                  try clear hfz76_1
                  try clear hfz76_2
                  try clear hfz76_3
                  try clear hfz76_4
                  try clear hfz76_5
                  try clear hfz80_0
                  try clear hfz80_1
                  try clear hfz80_2
                  try clear hfz80_3
                  try clear hfz80_4
                  try clear hfz80_5
                  try clear hfz85_0
                  try clear hfz85_1
                  try clear hfz85_2
                  try clear hfz85_3
                  try clear hfz85_4
                  try clear hfz85_5
                  try clear hfz86_0
                  try clear hfz86_1
                  try clear hfz86_2
                  try clear hfz86_3
                  try clear hfz86_4
                  try clear hfz86_5
                  try clear hfz92_0
                  try clear hfz92_1
                  try clear hfz92_2
                  try clear hfz92_3
                  try clear hfz92_4
                  try clear hfz92_5
                  try clear hfz96_0
                  try clear hfz96_1
                  try clear hfz96_2
                  try clear hfz96_3
                  try clear hfz96_4
                  try clear hfz96_5
                  try clear hx196_0
                  try clear hx196_1
                  try clear p196
                  try clear p2
                  try clear q196
                  obtain ⟨kq, x207002_76, HA, HJ76, BK172, BK173, BK195, BK206, HB⟩ := hcut
                  cases kq with
                  | zero => exact absurd HA.out (by simp [vitrinelaw05_AttrMakes.j2])
                  | succ kj76 =>
                    have H := HA.out
                    clear HA
                    simp only [vitrinelaw05_AttrMakes.j2] at H
                    replace H := Option.bind_eq_some_iff.mp H
                    obtain ⟨t209, A1010, H⟩ := H
                    replace H : (vitrinelaw05_AttrMakes.l1 kj76 t209 (t209.length : Int) 0 a1_0 a1_1 a1_2 a1_3 a1_4 a1_5 x196000_2 x196001_2 x196002_2 x196003_2 x196004_2 x196005_2 a0_0 a0_1 x207002_76 a0_3 a0_4 a0_5 a0_0 a0_1 a0_2 a0_3 a0_4 a0_5) = some r := H
                    have A101 := Aside0.mk A1010
                    clear A1010
                    have H' := Aside0.mk H
                    clear H
                    have hnb102 := NB172_173.out
                    have hnc102 := NB173_172.out
                    have hnb103 := NB172_195.out
                    have hnc103 := NB195_172.out
                    have hnb104 := NB172_206.out
                    have hnc104 := NB206_172.out
                    have hcz105_0 : wc.cell? ⟨gb172, 0, none⟩ = some (.int .u8 a0_0) := (blk_cell BK172.out 0).trans rfl
                    have hcz105_1 : wc.cell? ⟨gb172, 1, none⟩ = some (.bool a0_1) := (blk_cell BK172.out 1).trans rfl
                    have hcz105_2 : wc.cell? ⟨gb172, 2, none⟩ = some (.int .u8 a0_2) := (blk_cell BK172.out 2).trans rfl
                    have hcz105_3 : wc.cell? ⟨gb172, 3, none⟩ = some (.int .u8 a0_3) := (blk_cell BK172.out 3).trans rfl
                    have hcz105_4 : wc.cell? ⟨gb172, 4, none⟩ = some (.int .u8 a0_4) := (blk_cell BK172.out 4).trans rfl
                    have hcz105_5 : wc.cell? ⟨gb172, 5, none⟩ = some (.int .u8 a0_5) := (blk_cell BK172.out 5).trans rfl
                    have hfz105_0 := blk_frozen BK172.out 0
                    have hfz105_1 := blk_frozen BK172.out 1
                    have hfz105_2 := blk_frozen BK172.out 2
                    have hfz105_3 := blk_frozen BK172.out 3
                    have hfz105_4 := blk_frozen BK172.out 4
                    have hfz105_5 := blk_frozen BK172.out 5
                    go_wp2_with (first | ((with_reducible refine gate_dst (N := 12) rfl ?_); refine box_event ?hg (N := 12) ?hd (cs := #[.int .u8 0, .bool false, .int .u8 0, .int .u8 0, .int .u8 0, .int .u8 0]) (t := 38) ?hr ?_; (case hd => rfl); (case hg => rfl); (case hr => first | (go_simp; done) | (go_simp; rfl)); intro gb208 hg w106 hbox hb; have n0_ := Aside0.mk (blk_below (g := gb172) (o := .cells #[.int .u8 a0_0, .bool a0_1, .int .u8 a0_2, .int .u8 a0_3, .int .u8 a0_4, .int .u8 a0_5] 38 (0, 0)) (by (with_reducible repeat (first | refine blk_drewN ?_ _ | refine blk_drew ?_ | refine blk_alloc ?_ _)); exact BK172.out) hb); have n1_ := Aside0.mk (blk_below (g := gb173) (o := .cells #[.int .u8 a1_0, .bool a1_1, .int .u8 a1_2, .int .u8 a1_3, .int .u8 a1_4, .int .u8 a1_5] 38 (0, 0)) (by (with_reducible repeat (first | refine blk_drewN ?_ _ | refine blk_drew ?_ | refine blk_alloc ?_ _)); exact BK173.out) hb); have n2_ := Aside0.mk (blk_below (g := gb195) (o := .cells #[.int .u8 x196000_2, .bool x196001_2, .int .u8 x196002_2, .int .u8 x196003_2, .int .u8 x196004_2, .int .u8 x196005_2] 38 (0, 0)) (by (with_reducible repeat (first | refine blk_drewN ?_ _ | refine blk_drew ?_ | refine blk_alloc ?_ _)); exact BK195.out) hb); have n3_ := Aside0.mk (blk_below (g := gb206) (o := .cells #[.int .u8 a0_0, .bool a0_1, .int .u8 x207002_76, .int .u8 a0_3, .int .u8 a0_4, .int .u8 a0_5] 38 (0, 0)) (by (with_reducible repeat (first | refine blk_drewN ?_ _ | refine blk_drew ?_ | refine blk_alloc ?_ _)); exact BK206.out) hb); have n4_ := Aside0.mk (below_step (by repeat (first | (with_reducible first | exact HB.out | apply below_alloc | apply pw_below_drewN | apply below_drew1 | refine below_set ?_ GE172.out | refine below_set ?_ GE173.out | refine below_set ?_ GE195.out | refine below_set ?_ GE206.out) | exact HB.out)) hb); have n5_ := Aside0.mk (hbox); have n6_ := Aside0.mk ((by rw [hg]; exact (below_size (by repeat (first | (with_reducible first | exact HB.out | apply below_alloc | apply pw_below_drewN | apply below_drew1 | refine below_set ?_ GE172.out | refine below_set ?_ GE173.out | refine below_set ?_ GE195.out | refine below_set ?_ GE206.out) | exact HB.out))) : w.heap.size ≤ gb208)); have n7_ := Aside0.mk ((by rw [hg]; exact (below_size (by repeat (first | (with_reducible first | exact HB.out | apply below_alloc | apply pw_below_drewN | apply below_drew1 | refine below_set ?_ GE172.out | refine below_set ?_ GE173.out | refine below_set ?_ GE195.out | refine below_set ?_ GE206.out) | exact HB.out))) : w.heap.size ≤ gb208)); have n8_ := Aside0.mk ((by rw [hg]; exact Nat.ne_of_lt (blk_lt (g := gb172) (o := .cells #[.int .u8 a0_0, .bool a0_1, .int .u8 a0_2, .int .u8 a0_3, .int .u8 a0_4, .int .u8 a0_5] 38 (0, 0)) (by (with_reducible repeat (first | refine blk_drewN ?_ _ | refine blk_drew ?_ | refine blk_alloc ?_ _)); exact BK172.out)) : gb172 ≠ gb208)); have n9_ := Aside0.mk ((by rw [hg]; exact Nat.ne_of_gt (blk_lt (g := gb172) (o := .cells #[.int .u8 a0_0, .bool a0_1, .int .u8 a0_2, .int .u8 a0_3, .int .u8 a0_4, .int .u8 a0_5] 38 (0, 0)) (by (with_reducible repeat (first | refine blk_drewN ?_ _ | refine blk_drew ?_ | refine blk_alloc ?_ _)); exact BK172.out)) : gb208 ≠ gb172)); have n10_ := Aside0.mk ((by rw [hg]; exact Nat.ne_of_lt (blk_lt (g := gb173) (o := .cells #[.int .u8 a1_0, .bool a1_1, .int .u8 a1_2, .int .u8 a1_3, .int .u8 a1_4, .int .u8 a1_5] 38 (0, 0)) (by (with_reducible repeat (first | refine blk_drewN ?_ _ | refine blk_drew ?_ | refine blk_alloc ?_ _)); exact BK173.out)) : gb173 ≠ gb208)); have n11_ := Aside0.mk ((by rw [hg]; exact Nat.ne_of_gt (blk_lt (g := gb173) (o := .cells #[.int .u8 a1_0, .bool a1_1, .int .u8 a1_2, .int .u8 a1_3, .int .u8 a1_4, .int .u8 a1_5] 38 (0, 0)) (by (with_reducible repeat (first | refine blk_drewN ?_ _ | refine blk_drew ?_ | refine blk_alloc ?_ _)); exact BK173.out)) : gb208 ≠ gb173)); have n12_ := Aside0.mk ((by rw [hg]; exact Nat.ne_of_lt (blk_lt (g := gb195) (o := .cells #[.int .u8 x196000_2, .bool x196001_2, .int .u8 x196002_2, .int .u8 x196003_2, .int .u8 x196004_2, .int .u8 x196005_2] 38 (0, 0)) (by (with_reducible repeat (first | refine blk_drewN ?_ _ | refine blk_drew ?_ | refine blk_alloc ?_ _)); exact BK195.out)) : gb195 ≠ gb208)); have n13_ := Aside0.mk ((by rw [hg]; exact Nat.ne_of_gt (blk_lt (g := gb195) (o := .cells #[.int .u8 x196000_2, .bool x196001_2, .int .u8 x196002_2, .int .u8 x196003_2, .int .u8 x196004_2, .int .u8 x196005_2] 38 (0, 0)) (by (with_reducible repeat (first | refine blk_drewN ?_ _ | refine blk_drew ?_ | refine blk_alloc ?_ _)); exact BK195.out)) : gb208 ≠ gb195)); have n14_ := Aside0.mk ((by rw [hg]; exact Nat.ne_of_lt (blk_lt (g := gb206) (o := .cells #[.int .u8 a0_0, .bool a0_1, .int .u8 x207002_76, .int .u8 a0_3, .int .u8 a0_4, .int .u8 a0_5] 38 (0, 0)) (by (with_reducible repeat (first | refine blk_drewN ?_ _ | refine blk_drew ?_ | refine blk_alloc ?_ _)); exact BK206.out)) : gb206 ≠ gb208)); have n15_ := Aside0.mk ((by rw [hg]; exact Nat.ne_of_gt (blk_lt (g := gb206) (o := .cells #[.int .u8 a0_0, .bool a0_1, .int .u8 x207002_76, .int .u8 a0_3, .int .u8 a0_4, .int .u8 a0_5] 38 (0, 0)) (by (with_reducible repeat (first | refine blk_drewN ?_ _ | refine blk_drew ?_ | refine blk_alloc ?_ _)); exact BK206.out)) : gb208 ≠ gb206)); clear BK172; clear BK173; clear BK195; clear BK206; clear HB; have BK172 := n0_; have BK173 := n1_; have BK195 := n2_; have BK206 := n3_; have HB := n4_; have BK208 := n5_; have GW208 := n6_; have GE208 := n7_; have NB172_208 := n8_; have NB208_172 := n9_; have NB173_208 := n10_; have NB208_173 := n11_; have NB195_208 := n12_; have NB208_195 := n13_; have NB206_208 := n14_; have NB208_206 := n15_; clear n0_ n1_ n2_ n3_ n4_ n5_ n6_ n7_ n8_ n9_ n10_ n11_ n12_ n13_ n14_ n15_; clear hb hbox hg; have hnb107 := NB208_172.out; have hnc107 := NB172_208.out; have hnb108 := NB208_173.out; have hnc108 := NB173_208.out; have hnb109 := NB208_195.out; have hnc109 := NB195_208.out; have hnb110 := NB208_206.out; have hnc110 := NB206_208.out; have hcz111_0 : w106.cell? ⟨gb208, 0, none⟩ = some (.int .u8 0) := (blk_cell BK208.out 0).trans rfl; have hcz111_1 : w106.cell? ⟨gb208, 1, none⟩ = some (.bool false) := (blk_cell BK208.out 1).trans rfl; have hcz111_2 : w106.cell? ⟨gb208, 2, none⟩ = some (.int .u8 0) := (blk_cell BK208.out 2).trans rfl; have hcz111_3 : w106.cell? ⟨gb208, 3, none⟩ = some (.int .u8 0) := (blk_cell BK208.out 3).trans rfl; have hcz111_4 : w106.cell? ⟨gb208, 4, none⟩ = some (.int .u8 0) := (blk_cell BK208.out 4).trans rfl; have hcz111_5 : w106.cell? ⟨gb208, 5, none⟩ = some (.int .u8 0) := (blk_cell BK208.out 5).trans rfl; have hfz111_0 := blk_frozen BK208.out 0; have hfz111_1 := blk_frozen BK208.out 1; have hfz111_2 := blk_frozen BK208.out 2; have hfz111_3 := blk_frozen BK208.out 3; have hfz111_4 := blk_frozen BK208.out 4; have hfz111_5 := blk_frozen BK208.out 5; have hcz112_0 : w106.cell? ⟨gb172, 0, none⟩ = some (.int .u8 a0_0) := (blk_cell BK172.out 0).trans rfl; have hcz112_1 : w106.cell? ⟨gb172, 1, none⟩ = some (.bool a0_1) := (blk_cell BK172.out 1).trans rfl; have hcz112_2 : w106.cell? ⟨gb172, 2, none⟩ = some (.int .u8 a0_2) := (blk_cell BK172.out 2).trans rfl; have hcz112_3 : w106.cell? ⟨gb172, 3, none⟩ = some (.int .u8 a0_3) := (blk_cell BK172.out 3).trans rfl; have hcz112_4 : w106.cell? ⟨gb172, 4, none⟩ = some (.int .u8 a0_4) := (blk_cell BK172.out 4).trans rfl; have hcz112_5 : w106.cell? ⟨gb172, 5, none⟩ = some (.int .u8 a0_5) := (blk_cell BK172.out 5).trans rfl; have hfz112_0 := blk_frozen BK172.out 0; have hfz112_1 := blk_frozen BK172.out 1; have hfz112_2 := blk_frozen BK172.out 2; have hfz112_3 := blk_frozen BK172.out 3; have hfz112_4 := blk_frozen BK172.out 4; have hfz112_5 := blk_frozen BK172.out 5; have hnb113 := NB173_195.out; have hnc113 := NB195_173.out; have hnb114 := NB173_206.out; have hnc114 := NB206_173.out; have hcz115_0 : w106.cell? ⟨gb173, 0, none⟩ = some (.int .u8 a1_0) := (blk_cell BK173.out 0).trans rfl; have hcz115_1 : w106.cell? ⟨gb173, 1, none⟩ = some (.bool a1_1) := (blk_cell BK173.out 1).trans rfl; have hcz115_2 : w106.cell? ⟨gb173, 2, none⟩ = some (.int .u8 a1_2) := (blk_cell BK173.out 2).trans rfl; have hcz115_3 : w106.cell? ⟨gb173, 3, none⟩ = some (.int .u8 a1_3) := (blk_cell BK173.out 3).trans rfl; have hcz115_4 : w106.cell? ⟨gb173, 4, none⟩ = some (.int .u8 a1_4) := (blk_cell BK173.out 4).trans rfl; have hcz115_5 : w106.cell? ⟨gb173, 5, none⟩ = some (.int .u8 a1_5) := (blk_cell BK173.out 5).trans rfl; have hfz115_0 := blk_frozen BK173.out 0; have hfz115_1 := blk_frozen BK173.out 1; have hfz115_2 := blk_frozen BK173.out 2; have hfz115_3 := blk_frozen BK173.out 3; have hfz115_4 := blk_frozen BK173.out 4; have hfz115_5 := blk_frozen BK173.out 5) | ((with_reducible refine gate_callee (f := 33) rfl ?_); refine goesL_ (some 70) rfl rfl Try.func33 (by kernel_rfl) rfl #[.agg #[.int .u8 a0_0, .bool a0_1, .int .u8 a0_2, .int .u8 a0_3, .int .u8 a0_4, .int .u8 a0_5], .agg #[.int .u8 a1_0, .bool a1_1, .int .u8 a1_2, .int .u8 a1_3, .int .u8 a1_4, .int .u8 a1_5]] rfl (by (try simp only [List.map_toArray, List.map_cons, List.map_nil]); first | done | rfl | (simp only [List.length_drop, List.length_take]; rfl)) ?_; (with_reducible refine (attr_Diff.calls a0_0 a0_1 a0_2 a0_3 a0_4 a0_5 a1_0 a1_1 a1_2 a1_3 a1_4 a1_5 t209 _ A101.out).mono ?_); rintro e w116 ⟨v210, rfl, ho0, hb⟩; refine ⟨_, rfl, ?_⟩; have n0_ := Aside0.mk (Kd.R_lower ho0 (below_size (by repeat (first | (with_reducible first | exact HB.out | apply below_alloc | apply pw_below_drewN | apply below_drew1 | refine below_set ?_ GE172.out | refine below_set ?_ GE173.out | refine below_set ?_ GE195.out | refine below_set ?_ GE206.out | refine below_set ?_ GE208.out) | exact HB.out)))); have n1_ := Aside0.mk (blk_below (g := gb172) (o := .cells #[.int .u8 a0_0, .bool a0_1, .int .u8 a0_2, .int .u8 a0_3, .int .u8 a0_4, .int .u8 a0_5] 38 (0, 0)) (by (with_reducible repeat (first | refine blk_drewN ?_ _ | refine blk_drew ?_ | refine blk_alloc ?_ _)); refine blk_far ?_ NB172_208.out _; (with_reducible repeat (first | refine blk_drewN ?_ _ | refine blk_drew ?_ | refine blk_alloc ?_ _)); refine blk_far ?_ NB172_208.out _; (with_reducible repeat (first | refine blk_drewN ?_ _ | refine blk_drew ?_ | refine blk_alloc ?_ _)); refine blk_far ?_ NB172_208.out _; (with_reducible repeat (first | refine blk_drewN ?_ _ | refine blk_drew ?_ | refine blk_alloc ?_ _)); refine blk_far ?_ NB172_208.out _; (with_reducible repeat (first | refine blk_drewN ?_ _ | refine blk_drew ?_ | refine blk_alloc ?_ _)); refine blk_far ?_ NB172_208.out _; (with_reducible repeat (first | refine blk_drewN ?_ _ | refine blk_drew ?_ | refine blk_alloc ?_ _)); refine blk_far ?_ NB172_208.out _; (with_reducible repeat (first | refine blk_drewN ?_ _ | refine blk_drew ?_ | refine blk_alloc ?_ _)); exact BK172.out) hb); have n2_ := Aside0.mk (blk_below (g := gb173) (o := .cells #[.int .u8 a1_0, .bool a1_1, .int .u8 a1_2, .int .u8 a1_3, .int .u8 a1_4, .int .u8 a1_5] 38 (0, 0)) (by (with_reducible repeat (first | refine blk_drewN ?_ _ | refine blk_drew ?_ | refine blk_alloc ?_ _)); refine blk_far ?_ NB173_208.out _; (with_reducible repeat (first | refine blk_drewN ?_ _ | refine blk_drew ?_ | refine blk_alloc ?_ _)); refine blk_far ?_ NB173_208.out _; (with_reducible repeat (first | refine blk_drewN ?_ _ | refine blk_drew ?_ | refine blk_alloc ?_ _)); refine blk_far ?_ NB173_208.out _; (with_reducible repeat (first | refine blk_drewN ?_ _ | refine blk_drew ?_ | refine blk_alloc ?_ _)); refine blk_far ?_ NB173_208.out _; (with_reducible repeat (first | refine blk_drewN ?_ _ | refine blk_drew ?_ | refine blk_alloc ?_ _)); refine blk_far ?_ NB173_208.out _; (with_reducible repeat (first | refine blk_drewN ?_ _ | refine blk_drew ?_ | refine blk_alloc ?_ _)); refine blk_far ?_ NB173_208.out _; (with_reducible repeat (first | refine blk_drewN ?_ _ | refine blk_drew ?_ | refine blk_alloc ?_ _)); exact BK173.out) hb); have n3_ := Aside0.mk (blk_below (g := gb195) (o := .cells #[.int .u8 x196000_2, .bool x196001_2, .int .u8 x196002_2, .int .u8 x196003_2, .int .u8 x196004_2, .int .u8 x196005_2] 38 (0, 0)) (by (with_reducible repeat (first | refine blk_drewN ?_ _ | refine blk_drew ?_ | refine blk_alloc ?_ _)); refine blk_far ?_ NB195_208.out _; (with_reducible repeat (first | refine blk_drewN ?_ _ | refine blk_drew ?_ | refine blk_alloc ?_ _)); refine blk_far ?_ NB195_208.out _; (with_reducible repeat (first | refine blk_drewN ?_ _ | refine blk_drew ?_ | refine blk_alloc ?_ _)); refine blk_far ?_ NB195_208.out _; (with_reducible repeat (first | refine blk_drewN ?_ _ | refine blk_drew ?_ | refine blk_alloc ?_ _)); refine blk_far ?_ NB195_208.out _; (with_reducible repeat (first | refine blk_drewN ?_ _ | refine blk_drew ?_ | refine blk_alloc ?_ _)); refine blk_far ?_ NB195_208.out _; (with_reducible repeat (first | refine blk_drewN ?_ _ | refine blk_drew ?_ | refine blk_alloc ?_ _)); refine blk_far ?_ NB195_208.out _; (with_reducible repeat (first | refine blk_drewN ?_ _ | refine blk_drew ?_ | refine blk_alloc ?_ _)); exact BK195.out) hb); have n4_ := Aside0.mk (blk_below (g := gb206) (o := .cells #[.int .u8 a0_0, .bool a0_1, .int .u8 x207002_76, .int .u8 a0_3, .int .u8 a0_4, .int .u8 a0_5] 38 (0, 0)) (by (with_reducible repeat (first | refine blk_drewN ?_ _ | refine blk_drew ?_ | refine blk_alloc ?_ _)); refine blk_far ?_ NB206_208.out _; (with_reducible repeat (first | refine blk_drewN ?_ _ | refine blk_drew ?_ | refine blk_alloc ?_ _)); refine blk_far ?_ NB206_208.out _; (with_reducible repeat (first | refine blk_drewN ?_ _ | refine blk_drew ?_ | refine blk_alloc ?_ _)); refine blk_far ?_ NB206_208.out _; (with_reducible repeat (first | refine blk_drewN ?_ _ | refine blk_drew ?_ | refine blk_alloc ?_ _)); refine blk_far ?_ NB206_208.out _; (with_reducible repeat (first | refine blk_drewN ?_ _ | refine blk_drew ?_ | refine blk_alloc ?_ _)); refine blk_far ?_ NB206_208.out _; (with_reducible repeat (first | refine blk_drewN ?_ _ | refine blk_drew ?_ | refine blk_alloc ?_ _)); refine blk_far ?_ NB206_208.out _; (with_reducible repeat (first | refine blk_drewN ?_ _ | refine blk_drew ?_ | refine blk_alloc ?_ _)); exact BK206.out) hb); have n5_ := Aside0.mk (blk_below (g := gb208) (o := .cells #[.int .u8 a0_0, .bool a0_1, .int .u8 a0_2, .int .u8 a0_3, .int .u8 a0_4, .int .u8 a0_5] 38 (0, 0)) (by (with_reducible repeat (first | refine blk_drewN ?_ _ | refine blk_drew ?_ | refine blk_alloc ?_ _)); refine blk_put (cs := #[.int .u8 a0_0, .bool a0_1, .int .u8 a0_2, .int .u8 a0_3, .int .u8 a0_4, .int .u8 0]) ?_ 5 _ rfl; (with_reducible repeat (first | refine blk_drewN ?_ _ | refine blk_drew ?_ | refine blk_alloc ?_ _)); refine blk_put (cs := #[.int .u8 a0_0, .bool a0_1, .int .u8 a0_2, .int .u8 a0_3, .int .u8 0, .int .u8 0]) ?_ 4 _ rfl; (with_reducible repeat (first | refine blk_drewN ?_ _ | refine blk_drew ?_ | refine blk_alloc ?_ _)); refine blk_put (cs := #[.int .u8 a0_0, .bool a0_1, .int .u8 a0_2, .int .u8 0, .int .u8 0, .int .u8 0]) ?_ 3 _ rfl; (with_reducible repeat (first | refine blk_drewN ?_ _ | refine blk_drew ?_ | refine blk_alloc ?_ _)); refine blk_put (cs := #[.int .u8 a0_0, .bool a0_1, .int .u8 0, .int .u8 0, .int .u8 0, .int .u8 0]) ?_ 2 _ rfl; (with_reducible repeat (first | refine blk_drewN ?_ _ | refine blk_drew ?_ | refine blk_alloc ?_ _)); refine blk_put (cs := #[.int .u8 a0_0, .bool false, .int .u8 0, .int .u8 0, .int .u8 0, .int .u8 0]) ?_ 1 _ rfl; (with_reducible repeat (first | refine blk_drewN ?_ _ | refine blk_drew ?_ | refine blk_alloc ?_ _)); refine blk_put (cs := #[.int .u8 0, .bool false, .int .u8 0, .int .u8 0, .int .u8 0, .int .u8 0]) ?_ 0 _ rfl; (with_reducible repeat (first | refine blk_drewN ?_ _ | refine blk_drew ?_ | refine blk_alloc ?_ _)); exact BK208.out) hb); have n6_ := Aside0.mk (below_step (by repeat (first | (with_reducible first | exact HB.out | apply below_alloc | apply pw_below_drewN | apply below_drew1 | refine below_set ?_ GE172.out | refine below_set ?_ GE173.out | refine below_set ?_ GE195.out | refine below_set ?_ GE206.out | refine below_set ?_ GE208.out) | exact HB.out)) hb); clear BK172; clear BK173; clear BK195; clear BK206; clear BK208; clear HB; have HO211 := n0_; have BK172 := n1_; have BK173 := n2_; have BK195 := n3_; have BK206 := n4_; have BK208 := n5_; have HB := n6_; clear n0_ n1_ n2_ n3_ n4_ n5_ n6_; (try clear hb); (try clear hb2); (try clear hk); (try clear hi); (try clear ho0); obtain ⟨Ao117, co117, eo117⟩ := Kd.R_slice HO211.out; subst eo117))
                    go_loopg [72] kj76 (fun kq v72 w' => ∃ (x72_4 : Int) (x209000_4 : Int) (x209001_4 : Bool) (x209002_4 : Int) (x209003_4 : Int) (x209004_4 : Int) (x209005_4 : Int), v72 = .int .i64 x72_4 ∧ Aside0 (vitrinelaw05_AttrMakes.l1 kq t209 (t209.length : Int) x72_4 a1_0 a1_1 a1_2 a1_3 a1_4 a1_5 x196000_2 x196001_2 x196002_2 x196003_2 x196004_2 x196005_2 a0_0 a0_1 x207002_76 a0_3 a0_4 a0_5 x209000_4 x209001_4 x209002_4 x209003_4 x209004_4 x209005_4 = some r) ∧ Aside0 (kq ≤ kj76) ∧ Aside0 (Kd.R k40 40 w' w.heap.size (fun _ => True) (.slice Ao117 t209.length co117) t209) ∧ Aside0 (w'.heap[gb172]? = some (.cells #[.int .u8 a0_0, .bool a0_1, .int .u8 a0_2, .int .u8 a0_3, .int .u8 a0_4, .int .u8 a0_5] 38 (0, 0))) ∧ Aside0 (w'.heap[gb173]? = some (.cells #[.int .u8 a1_0, .bool a1_1, .int .u8 a1_2, .int .u8 a1_3, .int .u8 a1_4, .int .u8 a1_5] 38 (0, 0))) ∧ Aside0 (w'.heap[gb195]? = some (.cells #[.int .u8 x196000_2, .bool x196001_2, .int .u8 x196002_2, .int .u8 x196003_2, .int .u8 x196004_2, .int .u8 x196005_2] 38 (0, 0))) ∧ Aside0 (w'.heap[gb206]? = some (.cells #[.int .u8 a0_0, .bool a0_1, .int .u8 x207002_76, .int .u8 a0_3, .int .u8 a0_4, .int .u8 a0_5] 38 (0, 0))) ∧ Aside0 (w'.heap[gb208]? = some (.cells #[.int .u8 x209000_4, .bool x209001_4, .int .u8 x209002_4, .int .u8 x209003_4, .int .u8 x209004_4, .int .u8 x209005_4] 38 (0, 0))) ∧ Aside0 (Below w.heap.size w w'))
                    case atStart => exact ⟨(0), (a0_0), (a0_1), (a0_2), (a0_3), (a0_4), (a0_5), (by first | rfl | (simp; done) | (simp [*]; done)), H', ⟨Nat.le_refl _⟩, ⟨by (with_reducible repeat (first | apply Kd.R_alloc | apply Kd.R_drewN | apply Kd.R_drew)); exact HO211.out⟩, ⟨by (with_reducible repeat (first | refine blk_drewN ?_ _ | refine blk_drew ?_ | refine blk_alloc ?_ _)); exact BK172.out⟩, ⟨by (with_reducible repeat (first | refine blk_drewN ?_ _ | refine blk_drew ?_ | refine blk_alloc ?_ _)); exact BK173.out⟩, ⟨by (with_reducible repeat (first | refine blk_drewN ?_ _ | refine blk_drew ?_ | refine blk_alloc ?_ _)); exact BK195.out⟩, ⟨by (with_reducible repeat (first | refine blk_drewN ?_ _ | refine blk_drew ?_ | refine blk_alloc ?_ _)); exact BK206.out⟩, ⟨by (with_reducible repeat (first | refine blk_drewN ?_ _ | refine blk_drew ?_ | refine blk_alloc ?_ _)); exact BK208.out⟩, ⟨by repeat (first | (with_reducible first | exact HB.out | apply below_alloc | apply pw_below_drewN | apply below_drew1 | refine below_set ?_ GE172.out | refine below_set ?_ GE173.out | refine below_set ?_ GE195.out | refine below_set ?_ GE206.out | refine below_set ?_ GE208.out) | exact HB.out)⟩⟩
                    case round =>
                      clear H'
                      try clear c1
                      try clear p1
                      try clear q1
                      try clear hx1
                      try clear c2
                      try clear p2
                      try clear c3
                      try clear c4
                      try clear c5
                      try clear c6
                      try clear p6
                      try clear c7
                      try clear c8
                      try clear c9
                      try clear c10
                      try clear c11
                      try clear c16
                      try clear c18
                      try clear p19
                      try clear q19
                      try clear hx19
                      try clear c26
                      try clear c27
                      try clear c31
                      try clear c32
                      try clear c33
                      try clear c34
                      try clear c35
                      try clear c37
                      try clear c38
                      try clear c41
                      try clear c41b0
                      try clear c42
                      try clear c42b0
                      try clear c43
                      try clear c43b0
                      try clear c45
                      try clear c45b0
                      try clear c45b1
                      try clear c47
                      try clear c48
                      try clear c49
                      try clear c51
                      try clear c52
                      try clear c56
                      try clear c57
                      try clear c58
                      try clear c59
                      try clear c63
                      try clear c64
                      try clear p64
                      try clear c65
                      try clear c67
                      try clear c68
                      try clear c72
                      try clear c73
                      try clear c74
                      try clear c75
                      try clear c78
                      try clear c79
                      try clear c82
                      try clear c83
                      try clear c84
                      try clear c87
                      try clear c89
                      try clear c90
                      try clear c91
                      try clear c94
                      try clear c95
                      try clear c97
                      try clear c98
                      try clear c99
                      try clear c102
                      try clear c103
                      try clear c104
                      try clear c107
                      try clear c108
                      try clear c109
                      try clear c110
                      try clear c113
                      try clear c114
                      try clear hcz100_0
                      try clear hcz100_1
                      try clear hcz100_2
                      try clear hcz100_3
                      try clear hcz100_4
                      try clear hcz100_5
                      try clear hcz105_0
                      try clear hcz105_1
                      try clear hcz105_2
                      try clear hcz105_3
                      try clear hcz105_4
                      try clear hcz105_5
                      try clear hcz111_0
                      try clear hcz111_1
                      try clear hcz111_2
                      try clear hcz111_3
                      try clear hcz111_4
                      try clear hcz111_5
                      try clear hcz112_0
                      try clear hcz112_1
                      try clear hcz112_2
                      try clear hcz112_3
                      try clear hcz112_4
                      try clear hcz112_5
                      try clear hcz115_0
                      try clear hcz115_1
                      try clear hcz115_2
                      try clear hcz115_3
                      try clear hcz115_4
                      try clear hcz115_5
                      try clear hcz11_0
                      try clear hcz11_1
                      try clear hcz11_2
                      try clear hcz11_3
                      try clear hcz11_4
                      try clear hcz11_5
                      try clear hcz35_0
                      try clear hcz35_1
                      try clear hcz35_2
                      try clear hcz35_3
                      try clear hcz35_4
                      try clear hcz35_5
                      try clear hcz39_0
                      try clear hcz39_1
                      try clear hcz39_2
                      try clear hcz39_3
                      try clear hcz39_4
                      try clear hcz39_5
                      try clear hcz50_0
                      try clear hcz50_1
                      try clear hcz53_0
                      try clear hcz53_1
                      try clear hcz53_2
                      try clear hcz53_3
                      try clear hcz53_4
                      try clear hcz53_5
                      try clear hcz60_0
                      try clear hcz60_1
                      try clear hcz60_2
                      try clear hcz60_3
                      try clear hcz60_4
                      try clear hcz60_5
                      try clear hcz61_0
                      try clear hcz61_1
                      try clear hcz61_2
                      try clear hcz61_3
                      try clear hcz61_4
                      try clear hcz61_5
                      try clear hcz66_0
                      try clear hcz66_1
                      try clear hcz69_0
                      try clear hcz69_1
                      try clear hcz69_2
                      try clear hcz69_3
                      try clear hcz69_4
                      try clear hcz69_5
                      try clear hcz76_0
                      try clear hcz76_1
                      try clear hcz76_2
                      try clear hcz76_3
                      try clear hcz76_4
                      try clear hcz76_5
                      try clear hcz80_0
                      try clear hcz80_1
                      try clear hcz80_2
                      try clear hcz80_3
                      try clear hcz80_4
                      try clear hcz80_5
                      try clear hcz85_0
                      try clear hcz85_1
                      try clear hcz85_2
                      try clear hcz85_3
                      try clear hcz85_4
                      try clear hcz85_5
                      try clear hcz86_0
                      try clear hcz86_1
                      try clear hcz86_2
                      try clear hcz86_3
                      try clear hcz86_4
                      try clear hcz86_5
                      try clear hcz92_0
                      try clear hcz92_1
                      try clear hcz92_2
                      try clear hcz92_3
                      try clear hcz92_4
                      try clear hcz92_5
                      try clear hcz96_0
                      try clear hcz96_1
                      try clear hcz96_2
                      try clear hcz96_3
                      try clear hcz96_4
                      try clear hcz96_5
                      try clear hfz100_0
                      try clear hfz100_1
                      try clear hfz100_2
                      try clear hfz100_3
                      try clear hfz100_4
                      try clear hfz100_5
                      try clear hfz105_0
                      try clear hfz105_1
                      try clear hfz105_2
                      try clear hfz105_3
                      try clear hfz105_4
                      try clear hfz105_5
                      try clear hfz111_0
                      try clear hfz111_1
                      try clear hfz111_2
                      try clear hfz111_3
                      try clear hfz111_4
                      try clear hfz111_5
                      try clear hfz112_0
                      try clear hfz112_1
                      try clear hfz112_2
                      try clear hfz112_3
                      try clear hfz112_4
                      try clear hfz112_5
                      try clear hfz115_0
                      try clear hfz115_1
                      try clear hfz115_2
                      try clear hfz115_3
                      try clear hfz115_4
                      try clear hfz115_5
                      try clear hfz11_0
                      try clear hfz11_1
                      try clear hfz11_2
                      try clear hfz11_3
                      try clear hfz11_4
                      try clear hfz11_5
                      try clear hfz35_0
                      try clear hfz35_1
                      try clear hfz35_2
                      try clear hfz35_3
                      try clear hfz35_4
                      try clear hfz35_5
                      try clear hfz39_0
                      try clear hfz39_1
                      try clear hfz39_2
                      try clear hfz39_3
                      try clear hfz39_4
                      try clear hfz39_5
                      try clear hfz50_0
                      try clear hfz50_1
                      try clear hfz53_0
                      try clear hfz53_1
                      try clear hfz53_2
                      try clear hfz53_3
                      try clear hfz53_4
                      try clear hfz53_5
                      try clear hfz60_0
                      try clear hfz60_1
                      try clear hfz60_2
                      try clear hfz60_3
                      try clear hfz60_4
                      try clear hfz60_5
                      try clear hfz61_0
                      try clear hfz61_1
                      try clear hfz61_2
                      try clear hfz61_3
                      try clear hfz61_4
                      try clear hfz61_5
                      try clear hfz66_0
                      try clear hfz66_1
                      try clear hfz69_0
                      try clear hfz69_1
                      try clear hfz69_2
                      try clear hfz69_3
                      try clear hfz69_4
                      try clear hfz69_5
                      try clear hfz76_0
                      try clear hfz76_1
                      try clear hfz76_2
                      try clear hfz76_3
                      try clear hfz76_4
                      try clear hfz76_5
                      try clear hfz80_0
                      try clear hfz80_1
                      try clear hfz80_2
                      try clear hfz80_3
                      try clear hfz80_4
                      try clear hfz80_5
                      try clear hfz85_0
                      try clear hfz85_1
                      try clear hfz85_2
                      try clear hfz85_3
                      try clear hfz85_4
                      try clear hfz85_5
                      try clear hfz86_0
                      try clear hfz86_1
                      try clear hfz86_2
                      try clear hfz86_3
                      try clear hfz86_4
                      try clear hfz86_5
                      try clear hfz92_0
                      try clear hfz92_1
                      try clear hfz92_2
                      try clear hfz92_3
                      try clear hfz92_4
                      try clear hfz92_5
                      try clear hfz96_0
                      try clear hfz96_1
                      try clear hfz96_2
                      try clear hfz96_3
                      try clear hfz96_4
                      try clear hfz96_5
                      try clear hx196_0
                      try clear hx196_1
                      try clear p1
                      try clear p19
                      try clear p196
                      try clear p2
                      try clear p6
                      try clear p64
                      try clear q1
                      try clear q19
                      try clear q196
                      obtain ⟨x72_4, x209000_4, x209001_4, x209002_4, x209003_4, x209004_4, x209005_4, rfl, HA, HK4, HO_70, BK172, BK173, BK195, BK206, BK208, HB⟩ := hrel
                      cases gk with
                      | zero => exact absurd HA.out (by simp [vitrinelaw05_AttrMakes.l1])
                      | succ k4 =>
                        have H := HA.out
                        clear HA
                        simp only [vitrinelaw05_AttrMakes.l1] at H
                        by_cases c118 : x72_4 < (t209.length : Int)
                        · rw [if_pos c118] at H
                          have c118b0 : decide (x72_4 < (t209.length : Int)) = true := decide_eq_true c118
                          clear c118
                          by_cases c119 : 0 ≤ x72_4
                          · rw [if_pos c119] at H
                            have c119b0 : decide (0 ≤ x72_4) = true := decide_eq_true c119
                            clear c119
                            by_cases c120 : x72_4 < (t209.length : Int)
                            · rw [if_pos c120] at H
                              have c120b0 : decide (x72_4 < (t209.length : Int)) = true := decide_eq_true c120
                              clear c120
                              replace H := Option.bind_eq_some_iff.mp H
                              obtain ⟨⟨t214, t215, t216, t217, t218, t219, t220⟩, A1210, H⟩ := H
                              replace H : (if t220 = 0 then (vitrinelaw05_AttrMakes.l1 k4 t209 (t209.length : Int) (wrap64 (x72_4 + 1)) a1_0 a1_1 a1_2 a1_3 a1_4 a1_5 x196000_2 x196001_2 x196002_2 x196003_2 x196004_2 x196005_2 a0_0 a0_1 x207002_76 a0_3 a0_4 a0_5 t214 t215 t216 t217 t218 t219) else (some (x196000_2 == a0_0 && (x196001_2 == a0_1 && (x196002_2 == x207002_76 && (x196003_2 == a0_3 && (x196004_2 == a0_4 && (x196005_2 == a0_5)))))))) = some r := H
                              have A121 := Aside0.mk A1210
                              clear A1210
                              by_cases c122 : t220 = 0
                              · rw [if_pos c122] at H
                                have c122b0 : (t220 == 0) = true := beq_iff_eq.mpr c122
                                have c122b1 : (t220 != 0) = false := bne_eq_false_iff_eq.mpr c122
                                clear c122
                                have H' := Aside0.mk H
                                clear H
                                have p212 : 0 ≤ (x72_4 : Int) := of_decide_eq_true (by first | (with_reducible assumption) | assumption)
                                have q212 : x72_4 < (t209.length : Int) := of_decide_eq_true (by first | (with_reducible assumption) | assumption)
                                obtain ⟨ad212, e212, hx212_0, hx212_1⟩ := at_T40 (Kd.R_reads' HO_70.out).2.2 x72_4 p212 q212
                                cases e212
                                replace p212 := eq_true p212
                                replace q212 := eq_true q212
                                go_wp2_with (first | ((with_reducible refine gate_dst (N := 14) rfl ?_); refine box_event ?hg (N := 14) ?hd (cs := #[.int .u8 0, .int .u8 0]) (t := 40) ?hr ?_; (case hd => rfl); (case hg => rfl); (case hr => first | (go_simp; done) | (go_simp; rfl)); intro gb213 hg w123 hbox hb; have n0_ := Aside0.mk (Kd.R_below (Kd.R_elderB (by (with_reducible repeat (first | apply Kd.R_alloc | apply Kd.R_drewN | apply Kd.R_drew)); exact HO_70.out) gb213 (Nat.le_of_eq hg.symm)) hb); have n1_ := Aside0.mk (blk_below (g := gb172) (o := .cells #[.int .u8 a0_0, .bool a0_1, .int .u8 a0_2, .int .u8 a0_3, .int .u8 a0_4, .int .u8 a0_5] 38 (0, 0)) (by (with_reducible repeat (first | refine blk_drewN ?_ _ | refine blk_drew ?_ | refine blk_alloc ?_ _)); exact BK172.out) hb); have n2_ := Aside0.mk (blk_below (g := gb173) (o := .cells #[.int .u8 a1_0, .bool a1_1, .int .u8 a1_2, .int .u8 a1_3, .int .u8 a1_4, .int .u8 a1_5] 38 (0, 0)) (by (with_reducible repeat (first | refine blk_drewN ?_ _ | refine blk_drew ?_ | refine blk_alloc ?_ _)); exact BK173.out) hb); have n3_ := Aside0.mk (blk_below (g := gb195) (o := .cells #[.int .u8 x196000_2, .bool x196001_2, .int .u8 x196002_2, .int .u8 x196003_2, .int .u8 x196004_2, .int .u8 x196005_2] 38 (0, 0)) (by (with_reducible repeat (first | refine blk_drewN ?_ _ | refine blk_drew ?_ | refine blk_alloc ?_ _)); exact BK195.out) hb); have n4_ := Aside0.mk (blk_below (g := gb206) (o := .cells #[.int .u8 a0_0, .bool a0_1, .int .u8 x207002_76, .int .u8 a0_3, .int .u8 a0_4, .int .u8 a0_5] 38 (0, 0)) (by (with_reducible repeat (first | refine blk_drewN ?_ _ | refine blk_drew ?_ | refine blk_alloc ?_ _)); exact BK206.out) hb); have n5_ := Aside0.mk (blk_below (g := gb208) (o := .cells #[.int .u8 x209000_4, .bool x209001_4, .int .u8 x209002_4, .int .u8 x209003_4, .int .u8 x209004_4, .int .u8 x209005_4] 38 (0, 0)) (by (with_reducible repeat (first | refine blk_drewN ?_ _ | refine blk_drew ?_ | refine blk_alloc ?_ _)); exact BK208.out) hb); have n6_ := Aside0.mk (below_step (by repeat (first | (with_reducible first | exact HB.out | apply below_alloc | apply pw_below_drewN | apply below_drew1 | refine below_set ?_ GE172.out | refine below_set ?_ GE173.out | refine below_set ?_ GE195.out | refine below_set ?_ GE206.out | refine below_set ?_ GE208.out) | exact HB.out)) hb); have n7_ := Aside0.mk (hbox); have n8_ := Aside0.mk ((by rw [hg]; exact (below_size (by repeat (first | (with_reducible first | exact HB.out | apply below_alloc | apply pw_below_drewN | apply below_drew1 | refine below_set ?_ GE172.out | refine below_set ?_ GE173.out | refine below_set ?_ GE195.out | refine below_set ?_ GE206.out | refine below_set ?_ GE208.out) | exact HB.out))) : w.heap.size ≤ gb213)); have n9_ := Aside0.mk ((by rw [hg]; exact (below_size (by repeat (first | (with_reducible first | exact HB.out | apply below_alloc | apply pw_below_drewN | apply below_drew1 | refine below_set ?_ GE172.out | refine below_set ?_ GE173.out | refine below_set ?_ GE195.out | refine below_set ?_ GE206.out | refine below_set ?_ GE208.out) | exact HB.out))) : w.heap.size ≤ gb213)); have n10_ := Aside0.mk ((by rw [hg]; exact Nat.ne_of_lt (blk_lt (g := gb172) (o := .cells #[.int .u8 a0_0, .bool a0_1, .int .u8 a0_2, .int .u8 a0_3, .int .u8 a0_4, .int .u8 a0_5] 38 (0, 0)) (by (with_reducible repeat (first | refine blk_drewN ?_ _ | refine blk_drew ?_ | refine blk_alloc ?_ _)); exact BK172.out)) : gb172 ≠ gb213)); have n11_ := Aside0.mk ((by rw [hg]; exact Nat.ne_of_gt (blk_lt (g := gb172) (o := .cells #[.int .u8 a0_0, .bool a0_1, .int .u8 a0_2, .int .u8 a0_3, .int .u8 a0_4, .int .u8 a0_5] 38 (0, 0)) (by (with_reducible repeat (first | refine blk_drewN ?_ _ | refine blk_drew ?_ | refine blk_alloc ?_ _)); exact BK172.out)) : gb213 ≠ gb172)); have n12_ := Aside0.mk ((by rw [hg]; exact Nat.ne_of_lt (blk_lt (g := gb173) (o := .cells #[.int .u8 a1_0, .bool a1_1, .int .u8 a1_2, .int .u8 a1_3, .int .u8 a1_4, .int .u8 a1_5] 38 (0, 0)) (by (with_reducible repeat (first | refine blk_drewN ?_ _ | refine blk_drew ?_ | refine blk_alloc ?_ _)); exact BK173.out)) : gb173 ≠ gb213)); have n13_ := Aside0.mk ((by rw [hg]; exact Nat.ne_of_gt (blk_lt (g := gb173) (o := .cells #[.int .u8 a1_0, .bool a1_1, .int .u8 a1_2, .int .u8 a1_3, .int .u8 a1_4, .int .u8 a1_5] 38 (0, 0)) (by (with_reducible repeat (first | refine blk_drewN ?_ _ | refine blk_drew ?_ | refine blk_alloc ?_ _)); exact BK173.out)) : gb213 ≠ gb173)); have n14_ := Aside0.mk ((by rw [hg]; exact Nat.ne_of_lt (blk_lt (g := gb195) (o := .cells #[.int .u8 x196000_2, .bool x196001_2, .int .u8 x196002_2, .int .u8 x196003_2, .int .u8 x196004_2, .int .u8 x196005_2] 38 (0, 0)) (by (with_reducible repeat (first | refine blk_drewN ?_ _ | refine blk_drew ?_ | refine blk_alloc ?_ _)); exact BK195.out)) : gb195 ≠ gb213)); have n15_ := Aside0.mk ((by rw [hg]; exact Nat.ne_of_gt (blk_lt (g := gb195) (o := .cells #[.int .u8 x196000_2, .bool x196001_2, .int .u8 x196002_2, .int .u8 x196003_2, .int .u8 x196004_2, .int .u8 x196005_2] 38 (0, 0)) (by (with_reducible repeat (first | refine blk_drewN ?_ _ | refine blk_drew ?_ | refine blk_alloc ?_ _)); exact BK195.out)) : gb213 ≠ gb195)); have n16_ := Aside0.mk ((by rw [hg]; exact Nat.ne_of_lt (blk_lt (g := gb206) (o := .cells #[.int .u8 a0_0, .bool a0_1, .int .u8 x207002_76, .int .u8 a0_3, .int .u8 a0_4, .int .u8 a0_5] 38 (0, 0)) (by (with_reducible repeat (first | refine blk_drewN ?_ _ | refine blk_drew ?_ | refine blk_alloc ?_ _)); exact BK206.out)) : gb206 ≠ gb213)); have n17_ := Aside0.mk ((by rw [hg]; exact Nat.ne_of_gt (blk_lt (g := gb206) (o := .cells #[.int .u8 a0_0, .bool a0_1, .int .u8 x207002_76, .int .u8 a0_3, .int .u8 a0_4, .int .u8 a0_5] 38 (0, 0)) (by (with_reducible repeat (first | refine blk_drewN ?_ _ | refine blk_drew ?_ | refine blk_alloc ?_ _)); exact BK206.out)) : gb213 ≠ gb206)); have n18_ := Aside0.mk ((by rw [hg]; exact Nat.ne_of_lt (blk_lt (g := gb208) (o := .cells #[.int .u8 x209000_4, .bool x209001_4, .int .u8 x209002_4, .int .u8 x209003_4, .int .u8 x209004_4, .int .u8 x209005_4] 38 (0, 0)) (by (with_reducible repeat (first | refine blk_drewN ?_ _ | refine blk_drew ?_ | refine blk_alloc ?_ _)); exact BK208.out)) : gb208 ≠ gb213)); have n19_ := Aside0.mk ((by rw [hg]; exact Nat.ne_of_gt (blk_lt (g := gb208) (o := .cells #[.int .u8 x209000_4, .bool x209001_4, .int .u8 x209002_4, .int .u8 x209003_4, .int .u8 x209004_4, .int .u8 x209005_4] 38 (0, 0)) (by (with_reducible repeat (first | refine blk_drewN ?_ _ | refine blk_drew ?_ | refine blk_alloc ?_ _)); exact BK208.out)) : gb213 ≠ gb208)); clear HO_70; clear BK172; clear BK173; clear BK195; clear BK206; clear BK208; clear HB; have HO_70 := n0_; have BK172 := n1_; have BK173 := n2_; have BK195 := n3_; have BK206 := n4_; have BK208 := n5_; have HB := n6_; have BK213 := n7_; have GW213 := n8_; have GE213 := n9_; have NB172_213 := n10_; have NB213_172 := n11_; have NB173_213 := n12_; have NB213_173 := n13_; have NB195_213 := n14_; have NB213_195 := n15_; have NB206_213 := n16_; have NB213_206 := n17_; have NB208_213 := n18_; have NB213_208 := n19_; clear n0_ n1_ n2_ n3_ n4_ n5_ n6_ n7_ n8_ n9_ n10_ n11_ n12_ n13_ n14_ n15_ n16_ n17_ n18_ n19_; clear hb hbox hg; have hnb124 := NB213_172.out; have hnc124 := NB172_213.out; have hnb125 := NB213_173.out; have hnc125 := NB173_213.out; have hnb126 := NB213_195.out; have hnc126 := NB195_213.out; have hnb127 := NB213_206.out; have hnc127 := NB206_213.out; have hnb128 := NB213_208.out; have hnc128 := NB208_213.out; have hcz129_0 : w123.cell? ⟨gb213, 0, none⟩ = some (.int .u8 0) := (blk_cell BK213.out 0).trans rfl; have hcz129_1 : w123.cell? ⟨gb213, 1, none⟩ = some (.int .u8 0) := (blk_cell BK213.out 1).trans rfl; have hfz129_0 := blk_frozen BK213.out 0; have hfz129_1 := blk_frozen BK213.out 1; have hnb130 := NB208_172.out; have hnc130 := NB172_208.out; have hnb131 := NB208_173.out; have hnc131 := NB173_208.out; have hnb132 := NB208_195.out; have hnc132 := NB195_208.out; have hnb133 := NB208_206.out; have hnc133 := NB206_208.out; have hcz134_0 : w123.cell? ⟨gb208, 0, none⟩ = some (.int .u8 x209000_4) := (blk_cell BK208.out 0).trans rfl; have hcz134_1 : w123.cell? ⟨gb208, 1, none⟩ = some (.bool x209001_4) := (blk_cell BK208.out 1).trans rfl; have hcz134_2 : w123.cell? ⟨gb208, 2, none⟩ = some (.int .u8 x209002_4) := (blk_cell BK208.out 2).trans rfl; have hcz134_3 : w123.cell? ⟨gb208, 3, none⟩ = some (.int .u8 x209003_4) := (blk_cell BK208.out 3).trans rfl; have hcz134_4 : w123.cell? ⟨gb208, 4, none⟩ = some (.int .u8 x209004_4) := (blk_cell BK208.out 4).trans rfl; have hcz134_5 : w123.cell? ⟨gb208, 5, none⟩ = some (.int .u8 x209005_4) := (blk_cell BK208.out 5).trans rfl; have hfz134_0 := blk_frozen BK208.out 0; have hfz134_1 := blk_frozen BK208.out 1; have hfz134_2 := blk_frozen BK208.out 2; have hfz134_3 := blk_frozen BK208.out 3; have hfz134_4 := blk_frozen BK208.out 4; have hfz134_5 := blk_frozen BK208.out 5) | ((with_reducible refine gate_callee (f := 18) rfl ?_); refine goesL_ (some 79) rfl rfl Try.func18 (by kernel_rfl) rfl #[.agg #[.int .u8 ((rd_T40 t209 x72_4).f0), .int .u8 ((rd_T40 t209 x72_4).f1)], .agg #[.int .u8 x209000_4, .bool x209001_4, .int .u8 x209002_4, .int .u8 x209003_4, .int .u8 x209004_4, .int .u8 x209005_4]] rfl (by (try simp only [List.map_toArray, List.map_cons, List.map_nil]); first | done | rfl | (simp only [List.length_drop, List.length_take]; rfl)) ?_; (with_reducible refine (attr_Pair_Apply.calls ((rd_T40 t209 x72_4).f0) ((rd_T40 t209 x72_4).f1) x209000_4 x209001_4 x209002_4 x209003_4 x209004_4 x209005_4 t214 t215 t216 t217 t218 t219 t220 _ A121.out).mono ?_); rintro e w135 ⟨rfl, hb⟩; refine ⟨_, rfl, ?_⟩; have n0_ := Aside0.mk (Kd.R_below (by (with_reducible repeat (first | apply Kd.R_alloc | apply Kd.R_drewN | apply Kd.R_drew)); exact (Kd.R_mono (Kd.R_far (p := ⟨gb213, 1, none⟩) (Kd.R_far (p := ⟨gb213, 0, none⟩) (Kd.R_mono HO_70.out (fun k_ hk => (⟨hk, hk.2⟩ : _ ∧ k_ ≠ gb213))) (fun _ hk => hk.2) (.int .u8 ((rd_T40 t209 x72_4).f0))) (fun _ hk => hk.2) (.int .u8 ((rd_T40 t209 x72_4).f1))) (fun _ h_ => h_.1))) hb); have n1_ := Aside0.mk (blk_below (g := gb172) (o := .cells #[.int .u8 a0_0, .bool a0_1, .int .u8 a0_2, .int .u8 a0_3, .int .u8 a0_4, .int .u8 a0_5] 38 (0, 0)) (by (with_reducible repeat (first | refine blk_drewN ?_ _ | refine blk_drew ?_ | refine blk_alloc ?_ _)); refine blk_far ?_ NB172_213.out _; (with_reducible repeat (first | refine blk_drewN ?_ _ | refine blk_drew ?_ | refine blk_alloc ?_ _)); refine blk_far ?_ NB172_213.out _; (with_reducible repeat (first | refine blk_drewN ?_ _ | refine blk_drew ?_ | refine blk_alloc ?_ _)); exact BK172.out) hb); have n2_ := Aside0.mk (blk_below (g := gb173) (o := .cells #[.int .u8 a1_0, .bool a1_1, .int .u8 a1_2, .int .u8 a1_3, .int .u8 a1_4, .int .u8 a1_5] 38 (0, 0)) (by (with_reducible repeat (first | refine blk_drewN ?_ _ | refine blk_drew ?_ | refine blk_alloc ?_ _)); refine blk_far ?_ NB173_213.out _; (with_reducible repeat (first | refine blk_drewN ?_ _ | refine blk_drew ?_ | refine blk_alloc ?_ _)); refine blk_far ?_ NB173_213.out _; (with_reducible repeat (first | refine blk_drewN ?_ _ | refine blk_drew ?_ | refine blk_alloc ?_ _)); exact BK173.out) hb); have n3_ := Aside0.mk (blk_below (g := gb195) (o := .cells #[.int .u8 x196000_2, .bool x196001_2, .int .u8 x196002_2, .int .u8 x196003_2, .int .u8 x196004_2, .int .u8 x196005_2] 38 (0, 0)) (by (with_reducible repeat (first | refine blk_drewN ?_ _ | refine blk_drew ?_ | refine blk_alloc ?_ _)); refine blk_far ?_ NB195_213.out _; (with_reducible repeat (first | refine blk_drewN ?_ _ | refine blk_drew ?_ | refine blk_alloc ?_ _)); refine blk_far ?_ NB195_213.out _; (with_reducible repeat (first | refine blk_drewN ?_ _ | refine blk_drew ?_ | refine blk_alloc ?_ _)); exact BK195.out) hb); have n4_ := Aside0.mk (blk_below (g := gb206) (o := .cells #[.int .u8 a0_0, .bool a0_1, .int .u8 x207002_76, .int .u8 a0_3, .int .u8 a0_4, .int .u8 a0_5] 38 (0, 0)) (by (with_reducible repeat (first | refine blk_drewN ?_ _ | refine blk_drew ?_ | refine blk_alloc ?_ _)); refine blk_far ?_ NB206_213.out _; (with_reducible repeat (first | refine blk_drewN ?_ _ | refine blk_drew ?_ | refine blk_alloc ?_ _)); refine blk_far ?_ NB206_213.out _; (with_reducible repeat (first | refine blk_drewN ?_ _ | refine blk_drew ?_ | refine blk_alloc ?_ _)); exact BK206.out) hb); have n5_ := Aside0.mk (blk_below (g := gb208) (o := .cells #[.int .u8 x209000_4, .bool x209001_4, .int .u8 x209002_4, .int .u8 x209003_4, .int .u8 x209004_4, .int .u8 x209005_4] 38 (0, 0)) (by (with_reducible repeat (first | refine blk_drewN ?_ _ | refine blk_drew ?_ | refine blk_alloc ?_ _)); refine blk_far ?_ NB208_213.out _; (with_reducible repeat (first | refine blk_drewN ?_ _ | refine blk_drew ?_ | refine blk_alloc ?_ _)); refine blk_far ?_ NB208_213.out _; (with_reducible repeat (first | refine blk_drewN ?_ _ | refine blk_drew ?_ | refine blk_alloc ?_ _)); exact BK208.out) hb); have n6_ := Aside0.mk (blk_below (g := gb213) (o := .cells #[.int .u8 ((rd_T40 t209 x72_4).f0), .int .u8 ((rd_T40 t209 x72_4).f1)] 40 (0, 0)) (by (with_reducible repeat (first | refine blk_drewN ?_ _ | refine blk_drew ?_ | refine blk_alloc ?_ _)); refine blk_put (cs := #[.int .u8 ((rd_T40 t209 x72_4).f0), .int .u8 0]) ?_ 1 _ rfl; (with_reducible repeat (first | refine blk_drewN ?_ _ | refine blk_drew ?_ | refine blk_alloc ?_ _)); refine blk_put (cs := #[.int .u8 0, .int .u8 0]) ?_ 0 _ rfl; (with_reducible repeat (first | refine blk_drewN ?_ _ | refine blk_drew ?_ | refine blk_alloc ?_ _)); exact BK213.out) hb); have n7_ := Aside0.mk (below_step (by repeat (first | (with_reducible first | exact HB.out | apply below_alloc | apply pw_below_drewN | apply below_drew1 | refine below_set ?_ GE172.out | refine below_set ?_ GE173.out | refine below_set ?_ GE195.out | refine below_set ?_ GE206.out | refine below_set ?_ GE208.out | refine below_set ?_ GE213.out) | exact HB.out)) hb); clear HO_70; clear BK172; clear BK173; clear BK195; clear BK206; clear BK208; clear BK213; clear HB; have HO_70 := n0_; have BK172 := n1_; have BK173 := n2_; have BK195 := n3_; have BK206 := n4_; have BK208 := n5_; have BK213 := n6_; have HB := n7_; clear n0_ n1_ n2_ n3_ n4_ n5_ n6_ n7_; (try clear hb); (try clear hb2); (try clear hk); (try clear hi)) | ((with_reducible refine gate_dst (N := 15) rfl ?_); refine box_event ?hg (N := 15) ?hd (cs := #[.int .u8 0, .bool false, .int .u8 0, .int .u8 0, .int .u8 0, .int .u8 0]) (t := 38) ?hr ?_; (case hd => rfl); (case hg => rfl); (case hr => first | (go_simp; done) | (go_simp; rfl)); intro gb221 hg w136 hbox hb; have n0_ := Aside0.mk (Kd.R_below (by (with_reducible repeat (first | apply Kd.R_alloc | apply Kd.R_drewN | apply Kd.R_drew)); exact HO_70.out) hb); have n1_ := Aside0.mk (blk_below (g := gb172) (o := .cells #[.int .u8 a0_0, .bool a0_1, .int .u8 a0_2, .int .u8 a0_3, .int .u8 a0_4, .int .u8 a0_5] 38 (0, 0)) (by (with_reducible repeat (first | refine blk_drewN ?_ _ | refine blk_drew ?_ | refine blk_alloc ?_ _)); exact BK172.out) hb); have n2_ := Aside0.mk (blk_below (g := gb173) (o := .cells #[.int .u8 a1_0, .bool a1_1, .int .u8 a1_2, .int .u8 a1_3, .int .u8 a1_4, .int .u8 a1_5] 38 (0, 0)) (by (with_reducible repeat (first | refine blk_drewN ?_ _ | refine blk_drew ?_ | refine blk_alloc ?_ _)); exact BK173.out) hb); have n3_ := Aside0.mk (blk_below (g := gb195) (o := .cells #[.int .u8 x196000_2, .bool x196001_2, .int .u8 x196002_2, .int .u8 x196003_2, .int .u8 x196004_2, .int .u8 x196005_2] 38 (0, 0)) (by (with_reducible repeat (first | refine blk_drewN ?_ _ | refine blk_drew ?_ | refine blk_alloc ?_ _)); exact BK195.out) hb); have n4_ := Aside0.mk (blk_below (g := gb206) (o := .cells #[.int .u8 a0_0, .bool a0_1, .int .u8 x207002_76, .int .u8 a0_3, .int .u8 a0_4, .int .u8 a0_5] 38 (0, 0)) (by (with_reducible repeat (first | refine blk_drewN ?_ _ | refine blk_drew ?_ | refine blk_alloc ?_ _)); exact BK206.out) hb); have n5_ := Aside0.mk (blk_below (g := gb208) (o := .cells #[.int .u8 x209000_4, .bool x209001_4, .int .u8 x209002_4, .int .u8 x209003_4, .int .u8 x209004_4, .int .u8 x209005_4] 38 (0, 0)) (by (with_reducible repeat (first | refine blk_drewN ?_ _ | refine blk_drew ?_ | refine blk_alloc ?_ _)); exact BK208.out) hb); have n6_ := Aside0.mk (blk_below (g := gb213) (o := .cells #[.int .u8 ((rd_T40 t209 x72_4).f0), .int .u8 ((rd_T40 t209 x72_4).f1)] 40 (0, 0)) (by (with_reducible repeat (first | refine blk_drewN ?_ _ | refine blk_drew ?_ | refine blk_alloc ?_ _)); exact BK213.out) hb); have n7_ := Aside0.mk (below_step (by repeat (first | (with_reducible first | exact HB.out | apply below_alloc | apply pw_below_drewN | apply below_drew1 | refine below_set ?_ GE172.out | refine below_set ?_ GE173.out | refine below_set ?_ GE195.out | refine below_set ?_ GE206.out | refine below_set ?_ GE208.out | refine below_set ?_ GE213.out) | exact HB.out)) hb); have n8_ := Aside0.mk (hbox); have n9_ := Aside0.mk ((by rw [hg]; exact (below_size (by repeat (first | (with_reducible first | exact HB.out | apply below_alloc | apply pw_below_drewN | apply below_drew1 | refine below_set ?_ GE172.out | refine below_set ?_ GE173.out | refine below_set ?_ GE195.out | refine below_set ?_ GE206.out | refine below_set ?_ GE208.out | refine below_set ?_ GE213.out) | exact HB.out))) : w.heap.size ≤ gb221)); have n10_ := Aside0.mk ((by rw [hg]; exact (below_size (by repeat (first | (with_reducible first | exact HB.out | apply below_alloc | apply pw_below_drewN | apply below_drew1 | refine below_set ?_ GE172.out | refine below_set ?_ GE173.out | refine below_set ?_ GE195.out | refine below_set ?_ GE206.out | refine below_set ?_ GE208.out | refine below_set ?_ GE213.out) | exact HB.out))) : w.heap.size ≤ gb221)); have n11_ := Aside0.mk ((by rw [hg]; exact Nat.ne_of_lt (blk_lt (g := gb172) (o := .cells #[.int .u8 a0_0, .bool a0_1, .int .u8 a0_2, .int .u8 a0_3, .int .u8 a0_4, .int .u8 a0_5] 38 (0, 0)) (by (with_reducible repeat (first | refine blk_drewN ?_ _ | refine blk_drew ?_ | refine blk_alloc ?_ _)); exact BK172.out)) : gb172 ≠ gb221)); have n12_ := Aside0.mk ((by rw [hg]; exact Nat.ne_of_gt (blk_lt (g := gb172) (o := .cells #[.int .u8 a0_0, .bool a0_1, .int .u8 a0_2, .int .u8 a0_3, .int .u8 a0_4, .int .u8 a0_5] 38 (0, 0)) (by (with_reducible repeat (first | refine blk_drewN ?_ _ | refine blk_drew ?_ | refine blk_alloc ?_ _)); exact BK172.out)) : gb221 ≠ gb172)); have n13_ := Aside0.mk ((by rw [hg]; exact Nat.ne_of_lt (blk_lt (g := gb173) (o := .cells #[.int .u8 a1_0, .bool a1_1, .int .u8 a1_2, .int .u8 a1_3, .int .u8 a1_4, .int .u8 a1_5] 38 (0, 0)) (by (with_reducible repeat (first | refine blk_drewN ?_ _ | refine blk_drew ?_ | refine blk_alloc ?_ _)); exact BK173.out)) : gb173 ≠ gb221)); have n14_ := Aside0.mk ((by rw [hg]; exact Nat.ne_of_gt (blk_lt (g := gb173) (o := .cells #[.int .u8 a1_0, .bool a1_1, .int .u8 a1_2, .int .u8 a1_3, .int .u8 a1_4, .int .u8 a1_5] 38 (0, 0)) (by (with_reducible repeat (first | refine blk_drewN ?_ _ | refine blk_drew ?_ | refine blk_alloc ?_ _)); exact BK173.out)) : gb221 ≠ gb173)); have n15_ := Aside0.mk ((by rw [hg]; exact Nat.ne_of_lt (blk_lt (g := gb195) (o := .cells #[.int .u8 x196000_2, .bool x196001_2, .int .u8 x196002_2, .int .u8 x196003_2, .int .u8 x196004_2, .int .u8 x196005_2] 38 (0, 0)) (by (with_reducible repeat (first | refine blk_drewN ?_ _ | refine blk_drew ?_ | refine blk_alloc ?_ _)); exact BK195.out)) : gb195 ≠ gb221)); have n16_ := Aside0.mk ((by rw [hg]; exact Nat.ne_of_gt (blk_lt (g := gb195) (o := .cells #[.int .u8 x196000_2, .bool x196001_2, .int .u8 x196002_2, .int .u8 x196003_2, .int .u8 x196004_2, .int .u8 x196005_2] 38 (0, 0)) (by (with_reducible repeat (first | refine blk_drewN ?_ _ | refine blk_drew ?_ | refine blk_alloc ?_ _)); exact BK195.out)) : gb221 ≠ gb195)); have n17_ := Aside0.mk ((by rw [hg]; exact Nat.ne_of_lt (blk_lt (g := gb206) (o := .cells #[.int .u8 a0_0, .bool a0_1, .int .u8 x207002_76, .int .u8 a0_3, .int .u8 a0_4, .int .u8 a0_5] 38 (0, 0)) (by (with_reducible repeat (first | refine blk_drewN ?_ _ | refine blk_drew ?_ | refine blk_alloc ?_ _)); exact BK206.out)) : gb206 ≠ gb221)); have n18_ := Aside0.mk ((by rw [hg]; exact Nat.ne_of_gt (blk_lt (g := gb206) (o := .cells #[.int .u8 a0_0, .bool a0_1, .int .u8 x207002_76, .int .u8 a0_3, .int .u8 a0_4, .int .u8 a0_5] 38 (0, 0)) (by (with_reducible repeat (first | refine blk_drewN ?_ _ | refine blk_drew ?_ | refine blk_alloc ?_ _)); exact BK206.out)) : gb221 ≠ gb206)); have n19_ := Aside0.mk ((by rw [hg]; exact Nat.ne_of_lt (blk_lt (g := gb208) (o := .cells #[.int .u8 x209000_4, .bool x209001_4, .int .u8 x209002_4, .int .u8 x209003_4, .int .u8 x209004_4, .int .u8 x209005_4] 38 (0, 0)) (by (with_reducible repeat (first | refine blk_drewN ?_ _ | refine blk_drew ?_ | refine blk_alloc ?_ _)); exact BK208.out)) : gb208 ≠ gb221)); have n20_ := Aside0.mk ((by rw [hg]; exact Nat.ne_of_gt (blk_lt (g := gb208) (o := .cells #[.int .u8 x209000_4, .bool x209001_4, .int .u8 x209002_4, .int .u8 x209003_4, .int .u8 x209004_4, .int .u8 x209005_4] 38 (0, 0)) (by (with_reducible repeat (first | refine blk_drewN ?_ _ | refine blk_drew ?_ | refine blk_alloc ?_ _)); exact BK208.out)) : gb221 ≠ gb208)); have n21_ := Aside0.mk ((by rw [hg]; exact Nat.ne_of_lt (blk_lt (g := gb213) (o := .cells #[.int .u8 ((rd_T40 t209 x72_4).f0), .int .u8 ((rd_T40 t209 x72_4).f1)] 40 (0, 0)) (by (with_reducible repeat (first | refine blk_drewN ?_ _ | refine blk_drew ?_ | refine blk_alloc ?_ _)); exact BK213.out)) : gb213 ≠ gb221)); have n22_ := Aside0.mk ((by rw [hg]; exact Nat.ne_of_gt (blk_lt (g := gb213) (o := .cells #[.int .u8 ((rd_T40 t209 x72_4).f0), .int .u8 ((rd_T40 t209 x72_4).f1)] 40 (0, 0)) (by (with_reducible repeat (first | refine blk_drewN ?_ _ | refine blk_drew ?_ | refine blk_alloc ?_ _)); exact BK213.out)) : gb221 ≠ gb213)); clear HO_70; clear BK172; clear BK173; clear BK195; clear BK206; clear BK208; clear BK213; clear HB; have HO_70 := n0_; have BK172 := n1_; have BK173 := n2_; have BK195 := n3_; have BK206 := n4_; have BK208 := n5_; have BK213 := n6_; have HB := n7_; have BK221 := n8_; have GW221 := n9_; have GE221 := n10_; have NB172_221 := n11_; have NB221_172 := n12_; have NB173_221 := n13_; have NB221_173 := n14_; have NB195_221 := n15_; have NB221_195 := n16_; have NB206_221 := n17_; have NB221_206 := n18_; have NB208_221 := n19_; have NB221_208 := n20_; have NB213_221 := n21_; have NB221_213 := n22_; clear n0_ n1_ n2_ n3_ n4_ n5_ n6_ n7_ n8_ n9_ n10_ n11_ n12_ n13_ n14_ n15_ n16_ n17_ n18_ n19_ n20_ n21_ n22_; clear hb hbox hg; have hnb137 := NB221_172.out; have hnc137 := NB172_221.out; have hnb138 := NB221_173.out; have hnc138 := NB173_221.out; have hnb139 := NB221_195.out; have hnc139 := NB195_221.out; have hnb140 := NB221_206.out; have hnc140 := NB206_221.out; have hnb141 := NB221_208.out; have hnc141 := NB208_221.out; have hnb142 := NB221_213.out; have hnc142 := NB213_221.out; have hcz143_0 : w136.cell? ⟨gb221, 0, none⟩ = some (.int .u8 0) := (blk_cell BK221.out 0).trans rfl; have hcz143_1 : w136.cell? ⟨gb221, 1, none⟩ = some (.bool false) := (blk_cell BK221.out 1).trans rfl; have hcz143_2 : w136.cell? ⟨gb221, 2, none⟩ = some (.int .u8 0) := (blk_cell BK221.out 2).trans rfl; have hcz143_3 : w136.cell? ⟨gb221, 3, none⟩ = some (.int .u8 0) := (blk_cell BK221.out 3).trans rfl; have hcz143_4 : w136.cell? ⟨gb221, 4, none⟩ = some (.int .u8 0) := (blk_cell BK221.out 4).trans rfl; have hcz143_5 : w136.cell? ⟨gb221, 5, none⟩ = some (.int .u8 0) := (blk_cell BK221.out 5).trans rfl; have hfz143_0 := blk_frozen BK221.out 0; have hfz143_1 := blk_frozen BK221.out 1; have hfz143_2 := blk_frozen BK221.out 2; have hfz143_3 := blk_frozen BK221.out 3; have hfz143_4 := blk_frozen BK221.out 4; have hfz143_5 := blk_frozen BK221.out 5; have hcz144_0 : w136.cell? ⟨gb208, 0, none⟩ = some (.int .u8 x209000_4) := (blk_cell BK208.out 0).trans rfl; have hcz144_1 : w136.cell? ⟨gb208, 1, none⟩ = some (.bool x209001_4) := (blk_cell BK208.out 1).trans rfl; have hcz144_2 : w136.cell? ⟨gb208, 2, none⟩ = some (.int .u8 x209002_4) := (blk_cell BK208.out 2).trans rfl; have hcz144_3 : w136.cell? ⟨gb208, 3, none⟩ = some (.int .u8 x209003_4) := (blk_cell BK208.out 3).trans rfl; have hcz144_4 : w136.cell? ⟨gb208, 4, none⟩ = some (.int .u8 x209004_4) := (blk_cell BK208.out 4).trans rfl; have hcz144_5 : w136.cell? ⟨gb208, 5, none⟩ = some (.int .u8 x209005_4) := (blk_cell BK208.out 5).trans rfl; have hfz144_0 := blk_frozen BK208.out 0; have hfz144_1 := blk_frozen BK208.out 1; have hfz144_2 := blk_frozen BK208.out 2; have hfz144_3 := blk_frozen BK208.out 3; have hfz144_4 := blk_frozen BK208.out 4; have hfz144_5 := blk_frozen BK208.out 5))
                                go_roundg k4
                                case measure => have := HJ5.out; have := HK2.out; have := HJ76.out; have := HK4.out; omega
                                case rel => exact ⟨(wrap64 (x72_4 + 1)), (t214), (t215), (t216), (t217), (t218), (t219), (by first | rfl | (simp; done) | (simp [*]; done)), H', ⟨by have := HJ5.out; have := HK2.out; have := HJ76.out; have := HK4.out; omega⟩, ⟨by (with_reducible repeat (first | apply Kd.R_alloc | apply Kd.R_drewN | apply Kd.R_drew)); exact Kd.R_mono (Kd.R_far (p := ⟨gb208, 5, none⟩) (Kd.R_far (p := ⟨gb208, 4, none⟩) (Kd.R_far (p := ⟨gb208, 3, none⟩) (Kd.R_far (p := ⟨gb208, 2, none⟩) (Kd.R_far (p := ⟨gb208, 1, none⟩) (Kd.R_far (p := ⟨gb208, 0, none⟩) (Kd.R_far (p := ⟨gb221, 5, none⟩) (Kd.R_far (p := ⟨gb221, 4, none⟩) (Kd.R_far (p := ⟨gb221, 3, none⟩) (Kd.R_far (p := ⟨gb221, 2, none⟩) (Kd.R_far (p := ⟨gb221, 1, none⟩) (Kd.R_far (p := ⟨gb221, 0, none⟩) (Kd.R_types (Kd.R_types HO_70.out BK221.out (by decide)) BK208.out (by decide)) (fun _ hk => hk.1.2) (.int .u8 t214)) (fun _ hk => hk.1.2) (.bool t215)) (fun _ hk => hk.1.2) (.int .u8 t216)) (fun _ hk => hk.1.2) (.int .u8 t217)) (fun _ hk => hk.1.2) (.int .u8 t218)) (fun _ hk => hk.1.2) (.int .u8 t219)) (fun _ hk => hk.2) (.int .u8 t214)) (fun _ hk => hk.2) (.bool t215)) (fun _ hk => hk.2) (.int .u8 t216)) (fun _ hk => hk.2) (.int .u8 t217)) (fun _ hk => hk.2) (.int .u8 t218)) (fun _ hk => hk.2) (.int .u8 t219)) (fun _ hk => trivial)⟩, ⟨by (with_reducible repeat (first | refine blk_drewN ?_ _ | refine blk_drew ?_ | refine blk_alloc ?_ _)); refine blk_far ?_ NB172_208.out _; (with_reducible repeat (first | refine blk_drewN ?_ _ | refine blk_drew ?_ | refine blk_alloc ?_ _)); refine blk_far ?_ NB172_208.out _; (with_reducible repeat (first | refine blk_drewN ?_ _ | refine blk_drew ?_ | refine blk_alloc ?_ _)); refine blk_far ?_ NB172_208.out _; (with_reducible repeat (first | refine blk_drewN ?_ _ | refine blk_drew ?_ | refine blk_alloc ?_ _)); refine blk_far ?_ NB172_208.out _; (with_reducible repeat (first | refine blk_drewN ?_ _ | refine blk_drew ?_ | refine blk_alloc ?_ _)); refine blk_far ?_ NB172_208.out _; (with_reducible repeat (first | refine blk_drewN ?_ _ | refine blk_drew ?_ | refine blk_alloc ?_ _)); refine blk_far ?_ NB172_208.out _; (with_reducible repeat (first | refine blk_drewN ?_ _ | refine blk_drew ?_ | refine blk_alloc ?_ _)); refine blk_far ?_ NB172_221.out _; (with_reducible repeat (first | refine blk_drewN ?_ _ | refine blk_drew ?_ | refine blk_alloc ?_ _)); refine blk_far ?_ NB172_221.out _; (with_reducible repeat (first | refine blk_drewN ?_ _ | refine blk_drew ?_ | refine blk_alloc ?_ _)); refine blk_far ?_ NB172_221.out _; (with_reducible repeat (first | refine blk_drewN ?_ _ | refine blk_drew ?_ | refine blk_alloc ?_ _)); refine blk_far ?_ NB172_221.out _; (with_reducible repeat (first | refine blk_drewN ?_ _ | refine blk_drew ?_ | refine blk_alloc ?_ _)); refine blk_far ?_ NB172_221.out _; (with_reducible repeat (first | refine blk_drewN ?_ _ | refine blk_drew ?_ | refine blk_alloc ?_ _)); refine blk_far ?_ NB172_221.out _; (with_reducible repeat (first | refine blk_drewN ?_ _ | refine blk_drew ?_ | refine blk_alloc ?_ _)); exact BK172.out⟩, ⟨by (with_reducible repeat (first | refine blk_drewN ?_ _ | refine blk_drew ?_ | refine blk_alloc ?_ _)); refine blk_far ?_ NB173_208.out _; (with_reducible repeat (first | refine blk_drewN ?_ _ | refine blk_drew ?_ | refine blk_alloc ?_ _)); refine blk_far ?_ NB173_208.out _; (with_reducible repeat (first | refine blk_drewN ?_ _ | refine blk_drew ?_ | refine blk_alloc ?_ _)); refine blk_far ?_ NB173_208.out _; (with_reducible repeat (first | refine blk_drewN ?_ _ | refine blk_drew ?_ | refine blk_alloc ?_ _)); refine blk_far ?_ NB173_208.out _; (with_reducible repeat (first | refine blk_drewN ?_ _ | refine blk_drew ?_ | refine blk_alloc ?_ _)); refine blk_far ?_ NB173_208.out _; (with_reducible repeat (first | refine blk_drewN ?_ _ | refine blk_drew ?_ | refine blk_alloc ?_ _)); refine blk_far ?_ NB173_208.out _; (with_reducible repeat (first | refine blk_drewN ?_ _ | refine blk_drew ?_ | refine blk_alloc ?_ _)); refine blk_far ?_ NB173_221.out _; (with_reducible repeat (first | refine blk_drewN ?_ _ | refine blk_drew ?_ | refine blk_alloc ?_ _)); refine blk_far ?_ NB173_221.out _; (with_reducible repeat (first | refine blk_drewN ?_ _ | refine blk_drew ?_ | refine blk_alloc ?_ _)); refine blk_far ?_ NB173_221.out _; (with_reducible repeat (first | refine blk_drewN ?_ _ | refine blk_drew ?_ | refine blk_alloc ?_ _)); refine blk_far ?_ NB173_221.out _; (with_reducible repeat (first | refine blk_drewN ?_ _ | refine blk_drew ?_ | refine blk_alloc ?_ _)); refine blk_far ?_ NB173_221.out _; (with_reducible repeat (first | refine blk_drewN ?_ _ | refine blk_drew ?_ | refine blk_alloc ?_ _)); refine blk_far ?_ NB173_221.out _; (with_reducible repeat (first | refine blk_drewN ?_ _ | refine blk_drew ?_ | refine blk_alloc ?_ _)); exact BK173.out⟩, ⟨by (with_reducible repeat (first | refine blk_drewN ?_ _ | refine blk_drew ?_ | refine blk_alloc ?_ _)); refine blk_far ?_ NB195_208.out _; (with_reducible repeat (first | refine blk_drewN ?_ _ | refine blk_drew ?_ | refine blk_alloc ?_ _)); refine blk_far ?_ NB195_208.out _; (with_reducible repeat (first | refine blk_drewN ?_ _ | refine blk_drew ?_ | refine blk_alloc ?_ _)); refine blk_far ?_ NB195_208.out _; (with_reducible repeat (first | refine blk_drewN ?_ _ | refine blk_drew ?_ | refine blk_alloc ?_ _)); refine blk_far ?_ NB195_208.out _; (with_reducible repeat (first | refine blk_drewN ?_ _ | refine blk_drew ?_ | refine blk_alloc ?_ _)); refine blk_far ?_ NB195_208.out _; (with_reducible repeat (first | refine blk_drewN ?_ _ | refine blk_drew ?_ | refine blk_alloc ?_ _)); refine blk_far ?_ NB195_208.out _; (with_reducible repeat (first | refine blk_drewN ?_ _ | refine blk_drew ?_ | refine blk_alloc ?_ _)); refine blk_far ?_ NB195_221.out _; (with_reducible repeat (first | refine blk_drewN ?_ _ | refine blk_drew ?_ | refine blk_alloc ?_ _)); refine blk_far ?_ NB195_221.out _; (with_reducible repeat (first | refine blk_drewN ?_ _ | refine blk_drew ?_ | refine blk_alloc ?_ _)); refine blk_far ?_ NB195_221.out _; (with_reducible repeat (first | refine blk_drewN ?_ _ | refine blk_drew ?_ | refine blk_alloc ?_ _)); refine blk_far ?_ NB195_221.out _; (with_reducible repeat (first | refine blk_drewN ?_ _ | refine blk_drew ?_ | refine blk_alloc ?_ _)); refine blk_far ?_ NB195_221.out _; (with_reducible repeat (first | refine blk_drewN ?_ _ | refine blk_drew ?_ | refine blk_alloc ?_ _)); refine blk_far ?_ NB195_221.out _; (with_reducible repeat (first | refine blk_drewN ?_ _ | refine blk_drew ?_ | refine blk_alloc ?_ _)); exact BK195.out⟩, ⟨by (with_reducible repeat (first | refine blk_drewN ?_ _ | refine blk_drew ?_ | refine blk_alloc ?_ _)); refine blk_far ?_ NB206_208.out _; (with_reducible repeat (first | refine blk_drewN ?_ _ | refine blk_drew ?_ | refine blk_alloc ?_ _)); refine blk_far ?_ NB206_208.out _; (with_reducible repeat (first | refine blk_drewN ?_ _ | refine blk_drew ?_ | refine blk_alloc ?_ _)); refine blk_far ?_ NB206_208.out _; (with_reducible repeat (first | refine blk_drewN ?_ _ | refine blk_drew ?_ | refine blk_alloc ?_ _)); refine blk_far ?_ NB206_208.out _; (with_reducible repeat (first | refine blk_drewN ?_ _ | refine blk_drew ?_ | refine blk_alloc ?_ _)); refine blk_far ?_ NB206_208.out _; (with_reducible repeat (first | refine blk_drewN ?_ _ | refine blk_drew ?_ | refine blk_alloc ?_ _)); refine blk_far ?_ NB206_208.out _; (with_reducible repeat (first | refine blk_drewN ?_ _ | refine blk_drew ?_ | refine blk_alloc ?_ _)); refine blk_far ?_ NB206_221.out _; (with_reducible repeat (first | refine blk_drewN ?_ _ | refine blk_drew ?_ | refine blk_alloc ?_ _)); refine blk_far ?_ NB206_221.out _; (with_reducible repeat (first | refine blk_drewN ?_ _ | refine blk_drew ?_ | refine blk_alloc ?_ _)); refine blk_far ?_ NB206_221.out _; (with_reducible repeat (first | refine blk_drewN ?_ _ | refine blk_drew ?_ | refine blk_alloc ?_ _)); refine blk_far ?_ NB206_221.out _; (with_reducible repeat (first | refine blk_drewN ?_ _ | refine blk_drew ?_ | refine blk_alloc ?_ _)); refine blk_far ?_ NB206_221.out _; (with_reducible repeat (first | refine blk_drewN ?_ _ | refine blk_drew ?_ | refine blk_alloc ?_ _)); refine blk_far ?_ NB206_221.out _; (with_reducible repeat (first | refine blk_drewN ?_ _ | refine blk_drew ?_ | refine blk_alloc ?_ _)); exact BK206.out⟩, ⟨by (with_reducible repeat (first | refine blk_drewN ?_ _ | refine blk_drew ?_ | refine blk_alloc ?_ _)); refine blk_put (cs := #[.int .u8 t214, .bool t215, .int .u8 t216, .int .u8 t217, .int .u8 t218, .int .u8 x209005_4]) ?_ 5 _ rfl; (with_reducible repeat (first | refine blk_drewN ?_ _ | refine blk_drew ?_ | refine blk_alloc ?_ _)); refine blk_put (cs := #[.int .u8 t214, .bool t215, .int .u8 t216, .int .u8 t217, .int .u8 x209004_4, .int .u8 x209005_4]) ?_ 4 _ rfl; (with_reducible repeat (first | refine blk_drewN ?_ _ | refine blk_drew ?_ | refine blk_alloc ?_ _)); refine blk_put (cs := #[.int .u8 t214, .bool t215, .int .u8 t216, .int .u8 x209003_4, .int .u8 x209004_4, .int .u8 x209005_4]) ?_ 3 _ rfl; (with_reducible repeat (first | refine blk_drewN ?_ _ | refine blk_drew ?_ | refine blk_alloc ?_ _)); refine blk_put (cs := #[.int .u8 t214, .bool t215, .int .u8 x209002_4, .int .u8 x209003_4, .int .u8 x209004_4, .int .u8 x209005_4]) ?_ 2 _ rfl; (with_reducible repeat (first | refine blk_drewN ?_ _ | refine blk_drew ?_ | refine blk_alloc ?_ _)); refine blk_put (cs := #[.int .u8 t214, .bool x209001_4, .int .u8 x209002_4, .int .u8 x209003_4, .int .u8 x209004_4, .int .u8 x209005_4]) ?_ 1 _ rfl; (with_reducible repeat (first | refine blk_drewN ?_ _ | refine blk_drew ?_ | refine blk_alloc ?_ _)); refine blk_put (cs := #[.int .u8 x209000_4, .bool x209001_4, .int .u8 x209002_4, .int .u8 x209003_4, .int .u8 x209004_4, .int .u8 x209005_4]) ?_ 0 _ rfl; (with_reducible repeat (first | refine blk_drewN ?_ _ | refine blk_drew ?_ | refine blk_alloc ?_ _)); refine blk_far ?_ NB208_221.out _; (with_reducible repeat (first | refine blk_drewN ?_ _ | refine blk_drew ?_ | refine blk_alloc ?_ _)); refine blk_far ?_ NB208_221.out _; (with_reducible repeat (first | refine blk_drewN ?_ _ | refine blk_drew ?_ | refine blk_alloc ?_ _)); refine blk_far ?_ NB208_221.out _; (with_reducible repeat (first | refine blk_drewN ?_ _ | refine blk_drew ?_ | refine blk_alloc ?_ _)); refine blk_far ?_ NB208_221.out _; (with_reducible repeat (first | refine blk_drewN ?_ _ | refine blk_drew ?_ | refine blk_alloc ?_ _)); refine blk_far ?_ NB208_221.out _; (with_reducible repeat (first | refine blk_drewN ?_ _ | refine blk_drew ?_ | refine blk_alloc ?_ _)); refine blk_far ?_ NB208_221.out _; (with_reducible repeat (first | refine blk_drewN ?_ _ | refine blk_drew ?_ | refine blk_alloc ?_ _)); exact BK208.out⟩, ⟨by repeat (first | (with_reducible first | exact HB.out | apply below_alloc | apply pw_below_drewN | apply below_drew1 | refine below_set ?_ GE172.out | refine below_set ?_ GE173.out | refine below_set ?_ GE195.out | refine below_set ?_ GE206.out | refine below_set ?_ GE208.out | refine below_set ?_ GE213.out | refine below_set ?_ GE221.out) | exact HB.out)⟩⟩
                              · rw [if_neg c122] at H
                                have c122b0 : (t220 == 0) = false := beq_eq_false_iff_ne.mpr c122
                                have c122b1 : (t220 != 0) = true := bne_iff_ne.mpr c122
                                obtain rfl := Option.some.inj H
                                have p212 : 0 ≤ (x72_4 : Int) := of_decide_eq_true (by first | (with_reducible assumption) | assumption)
                                have q212 : x72_4 < (t209.length : Int) := of_decide_eq_true (by first | (with_reducible assumption) | assumption)
                                obtain ⟨ad212, e212, hx212_0, hx212_1⟩ := at_T40 (Kd.R_reads' HO_70.out).2.2 x72_4 p212 q212
                                cases e212
                                replace p212 := eq_true p212
                                replace q212 := eq_true q212
                                go_wp2_with (first | ((with_reducible refine gate_dst (N := 14) rfl ?_); refine box_event ?hg (N := 14) ?hd (cs := #[.int .u8 0, .int .u8 0]) (t := 40) ?hr ?_; (case hd => rfl); (case hg => rfl); (case hr => first | (go_simp; done) | (go_simp; rfl)); intro gb213 hg w145 hbox hb; have n0_ := Aside0.mk (Kd.R_below (Kd.R_elderB (by (with_reducible repeat (first | apply Kd.R_alloc | apply Kd.R_drewN | apply Kd.R_drew)); exact HO_70.out) gb213 (Nat.le_of_eq hg.symm)) hb); have n1_ := Aside0.mk (blk_below (g := gb172) (o := .cells #[.int .u8 a0_0, .bool a0_1, .int .u8 a0_2, .int .u8 a0_3, .int .u8 a0_4, .int .u8 a0_5] 38 (0, 0)) (by (with_reducible repeat (first | refine blk_drewN ?_ _ | refine blk_drew ?_ | refine blk_alloc ?_ _)); exact BK172.out) hb); have n2_ := Aside0.mk (blk_below (g := gb173) (o := .cells #[.int .u8 a1_0, .bool a1_1, .int .u8 a1_2, .int .u8 a1_3, .int .u8 a1_4, .int .u8 a1_5] 38 (0, 0)) (by (with_reducible repeat (first | refine blk_drewN ?_ _ | refine blk_drew ?_ | refine blk_alloc ?_ _)); exact BK173.out) hb); have n3_ := Aside0.mk (blk_below (g := gb195) (o := .cells #[.int .u8 x196000_2, .bool x196001_2, .int .u8 x196002_2, .int .u8 x196003_2, .int .u8 x196004_2, .int .u8 x196005_2] 38 (0, 0)) (by (with_reducible repeat (first | refine blk_drewN ?_ _ | refine blk_drew ?_ | refine blk_alloc ?_ _)); exact BK195.out) hb); have n4_ := Aside0.mk (blk_below (g := gb206) (o := .cells #[.int .u8 a0_0, .bool a0_1, .int .u8 x207002_76, .int .u8 a0_3, .int .u8 a0_4, .int .u8 a0_5] 38 (0, 0)) (by (with_reducible repeat (first | refine blk_drewN ?_ _ | refine blk_drew ?_ | refine blk_alloc ?_ _)); exact BK206.out) hb); have n5_ := Aside0.mk (blk_below (g := gb208) (o := .cells #[.int .u8 x209000_4, .bool x209001_4, .int .u8 x209002_4, .int .u8 x209003_4, .int .u8 x209004_4, .int .u8 x209005_4] 38 (0, 0)) (by (with_reducible repeat (first | refine blk_drewN ?_ _ | refine blk_drew ?_ | refine blk_alloc ?_ _)); exact BK208.out) hb); have n6_ := Aside0.mk (below_step (by repeat (first | (with_reducible first | exact HB.out | apply below_alloc | apply pw_below_drewN | apply below_drew1 | refine below_set ?_ GE172.out | refine below_set ?_ GE173.out | refine below_set ?_ GE195.out | refine below_set ?_ GE206.out | refine below_set ?_ GE208.out) | exact HB.out)) hb); have n7_ := Aside0.mk (hbox); have n8_ := Aside0.mk ((by rw [hg]; exact (below_size (by repeat (first | (with_reducible first | exact HB.out | apply below_alloc | apply pw_below_drewN | apply below_drew1 | refine below_set ?_ GE172.out | refine below_set ?_ GE173.out | refine below_set ?_ GE195.out | refine below_set ?_ GE206.out | refine below_set ?_ GE208.out) | exact HB.out))) : w.heap.size ≤ gb213)); have n9_ := Aside0.mk ((by rw [hg]; exact (below_size (by repeat (first | (with_reducible first | exact HB.out | apply below_alloc | apply pw_below_drewN | apply below_drew1 | refine below_set ?_ GE172.out | refine below_set ?_ GE173.out | refine below_set ?_ GE195.out | refine below_set ?_ GE206.out | refine below_set ?_ GE208.out) | exact HB.out))) : w.heap.size ≤ gb213)); have n10_ := Aside0.mk ((by rw [hg]; exact Nat.ne_of_lt (blk_lt (g := gb172) (o := .cells #[.int .u8 a0_0, .bool a0_1, .int .u8 a0_2, .int .u8 a0_3, .int .u8 a0_4, .int .u8 a0_5] 38 (0, 0)) (by (with_reducible repeat (first | refine blk_drewN ?_ _ | refine blk_drew ?_ | refine blk_alloc ?_ _)); exact BK172.out)) : gb172 ≠ gb213)); have n11_ := Aside0.mk ((by rw [hg]; exact Nat.ne_of_gt (blk_lt (g := gb172) (o := .cells #[.int .u8 a0_0, .bool a0_1, .int .u8 a0_2, .int .u8 a0_3, .int .u8 a0_4, .int .u8 a0_5] 38 (0, 0)) (by (with_reducible repeat (first | refine blk_drewN ?_ _ | refine blk_drew ?_ | refine blk_alloc ?_ _)); exact BK172.out)) : gb213 ≠ gb172)); have n12_ := Aside0.mk ((by rw [hg]; exact Nat.ne_of_lt (blk_lt (g := gb173) (o := .cells #[.int .u8 a1_0, .bool a1_1, .int .u8 a1_2, .int .u8 a1_3, .int .u8 a1_4, .int .u8 a1_5] 38 (0, 0)) (by (with_reducible repeat (first | refine blk_drewN ?_ _ | refine blk_drew ?_ | refine blk_alloc ?_ _)); exact BK173.out)) : gb173 ≠ gb213)); have n13_ := Aside0.mk ((by rw [hg]; exact Nat.ne_of_gt (blk_lt (g := gb173) (o := .cells #[.int .u8 a1_0, .bool a1_1, .int .u8 a1_2, .int .u8 a1_3, .int .u8 a1_4, .int .u8 a1_5] 38 (0, 0)) (by (with_reducible repeat (first | refine blk_drewN ?_ _ | refine blk_drew ?_ | refine blk_alloc ?_ _)); exact BK173.out)) : gb213 ≠ gb173)); have n14_ := Aside0.mk ((by rw [hg]; exact Nat.ne_of_lt (blk_lt (g := gb195) (o := .cells #[.int .u8 x196000_2, .bool x196001_2, .int .u8 x196002_2, .int .u8 x196003_2, .int .u8 x196004_2, .int .u8 x196005_2] 38 (0, 0)) (by (with_reducible repeat (first | refine blk_drewN ?_ _ | refine blk_drew ?_ | refine blk_alloc ?_ _)); exact BK195.out)) : gb195 ≠ gb213)); have n15_ := Aside0.mk ((by rw [hg]; exact Nat.ne_of_gt (blk_lt (g := gb195) (o := .cells #[.int .u8 x196000_2, .bool x196001_2, .int .u8 x196002_2, .int .u8 x196003_2, .int .u8 x196004_2, .int .u8 x196005_2] 38 (0, 0)) (by (with_reducible repeat (first | refine blk_drewN ?_ _ | refine blk_drew ?_ | refine blk_alloc ?_ _)); exact BK195.out)) : gb213 ≠ gb195)); have n16_ := Aside0.mk ((by rw [hg]; exact Nat.ne_of_lt (blk_lt (g := gb206) (o := .cells #[.int .u8 a0_0, .bool a0_1, .int .u8 x207002_76, .int .u8 a0_3, .int .u8 a0_4, .int .u8 a0_5] 38 (0, 0)) (by (with_reducible repeat (first | refine blk_drewN ?_ _ | refine blk_drew ?_ | refine blk_alloc ?_ _)); exact BK206.out)) : gb206 ≠ gb213)); have n17_ := Aside0.mk ((by rw [hg]; exact Nat.ne_of_gt (blk_lt (g := gb206) (o := .cells #[.int .u8 a0_0, .bool a0_1, .int .u8 x207002_76, .int .u8 a0_3, .int .u8 a0_4, .int .u8 a0_5] 38 (0, 0)) (by (with_reducible repeat (first | refine blk_drewN ?_ _ | refine blk_drew ?_ | refine blk_alloc ?_ _)); exact BK206.out)) : gb213 ≠ gb206)); have n18_ := Aside0.mk ((by rw [hg]; exact Nat.ne_of_lt (blk_lt (g := gb208) (o := .cells #[.int .u8 x209000_4, .bool x209001_4, .int .u8 x209002_4, .int .u8 x209003_4, .int .u8 x209004_4, .int .u8 x209005_4] 38 (0, 0)) (by (with_reducible repeat (first | refine blk_drewN ?_ _ | refine blk_drew ?_ | refine blk_alloc ?_ _)); exact BK208.out)) : gb208 ≠ gb213)); have n19_ := Aside0.mk ((by rw [hg]; exact Nat.ne_of_gt (blk_lt (g := gb208) (o := .cells #[.int .u8 x209000_4, .bool x209001_4, .int .u8 x209002_4, .int .u8 x209003_4, .int .u8 x209004_4, .int .u8 x209005_4] 38 (0, 0)) (by (with_reducible repeat (first | refine blk_drewN ?_ _ | refine blk_drew ?_ | refine blk_alloc ?_ _)); exact BK208.out)) : gb213 ≠ gb208)); clear HO_70; clear BK172; clear BK173; clear BK195; clear BK206; clear BK208; clear HB; have HO_70 := n0_; have BK172 := n1_; have BK173 := n2_; have BK195 := n3_; have BK206 := n4_; have BK208 := n5_; have HB := n6_; have BK213 := n7_; have GW213 := n8_; have GE213 := n9_; have NB172_213 := n10_; have NB213_172 := n11_; have NB173_213 := n12_; have NB213_173 := n13_; have NB195_213 := n14_; have NB213_195 := n15_; have NB206_213 := n16_; have NB213_206 := n17_; have NB208_213 := n18_; have NB213_208 := n19_; clear n0_ n1_ n2_ n3_ n4_ n5_ n6_ n7_ n8_ n9_ n10_ n11_ n12_ n13_ n14_ n15_ n16_ n17_ n18_ n19_; clear hb hbox hg; have hnb146 := NB213_172.out; have hnc146 := NB172_213.out; have hnb147 := NB213_173.out; have hnc147 := NB173_213.out; have hnb148 := NB213_195.out; have hnc148 := NB195_213.out; have hnb149 := NB213_206.out; have hnc149 := NB206_213.out; have hnb150 := NB213_208.out; have hnc150 := NB208_213.out; have hcz151_0 : w145.cell? ⟨gb213, 0, none⟩ = some (.int .u8 0) := (blk_cell BK213.out 0).trans rfl; have hcz151_1 : w145.cell? ⟨gb213, 1, none⟩ = some (.int .u8 0) := (blk_cell BK213.out 1).trans rfl; have hfz151_0 := blk_frozen BK213.out 0; have hfz151_1 := blk_frozen BK213.out 1; have hnb152 := NB208_172.out; have hnc152 := NB172_208.out; have hnb153 := NB208_173.out; have hnc153 := NB173_208.out; have hnb154 := NB208_195.out; have hnc154 := NB195_208.out; have hnb155 := NB208_206.out; have hnc155 := NB206_208.out; have hcz156_0 : w145.cell? ⟨gb208, 0, none⟩ = some (.int .u8 x209000_4) := (blk_cell BK208.out 0).trans rfl; have hcz156_1 : w145.cell? ⟨gb208, 1, none⟩ = some (.bool x209001_4) := (blk_cell BK208.out 1).trans rfl; have hcz156_2 : w145.cell? ⟨gb208, 2, none⟩ = some (.int .u8 x209002_4) := (blk_cell BK208.out 2).trans rfl; have hcz156_3 : w145.cell? ⟨gb208, 3, none⟩ = some (.int .u8 x209003_4) := (blk_cell BK208.out 3).trans rfl; have hcz156_4 : w145.cell? ⟨gb208, 4, none⟩ = some (.int .u8 x209004_4) := (blk_cell BK208.out 4).trans rfl; have hcz156_5 : w145.cell? ⟨gb208, 5, none⟩ = some (.int .u8 x209005_4) := (blk_cell BK208.out 5).trans rfl; have hfz156_0 := blk_frozen BK208.out 0; have hfz156_1 := blk_frozen BK208.out 1; have hfz156_2 := blk_frozen BK208.out 2; have hfz156_3 := blk_frozen BK208.out 3; have hfz156_4 := blk_frozen BK208.out 4; have hfz156_5 := blk_frozen BK208.out 5) | ((with_reducible refine gate_callee (f := 18) rfl ?_); refine goesL_ (some 79) rfl rfl Try.func18 (by kernel_rfl) rfl #[.agg #[.int .u8 ((rd_T40 t209 x72_4).f0), .int .u8 ((rd_T40 t209 x72_4).f1)], .agg #[.int .u8 x209000_4, .bool x209001_4, .int .u8 x209002_4, .int .u8 x209003_4, .int .u8 x209004_4, .int .u8 x209005_4]] rfl (by (try simp only [List.map_toArray, List.map_cons, List.map_nil]); first | done | rfl | (simp only [List.length_drop, List.length_take]; rfl)) ?_; (with_reducible refine (attr_Pair_Apply.calls ((rd_T40 t209 x72_4).f0) ((rd_T40 t209 x72_4).f1) x209000_4 x209001_4 x209002_4 x209003_4 x209004_4 x209005_4 t214 t215 t216 t217 t218 t219 t220 _ A121.out).mono ?_); rintro e w157 ⟨rfl, hb⟩; refine ⟨_, rfl, ?_⟩; have n0_ := Aside0.mk (Kd.R_below (by (with_reducible repeat (first | apply Kd.R_alloc | apply Kd.R_drewN | apply Kd.R_drew)); exact (Kd.R_mono (Kd.R_far (p := ⟨gb213, 1, none⟩) (Kd.R_far (p := ⟨gb213, 0, none⟩) (Kd.R_mono HO_70.out (fun k_ hk => (⟨hk, hk.2⟩ : _ ∧ k_ ≠ gb213))) (fun _ hk => hk.2) (.int .u8 ((rd_T40 t209 x72_4).f0))) (fun _ hk => hk.2) (.int .u8 ((rd_T40 t209 x72_4).f1))) (fun _ h_ => h_.1))) hb); have n1_ := Aside0.mk (blk_below (g := gb172) (o := .cells #[.int .u8 a0_0, .bool a0_1, .int .u8 a0_2, .int .u8 a0_3, .int .u8 a0_4, .int .u8 a0_5] 38 (0, 0)) (by (with_reducible repeat (first | refine blk_drewN ?_ _ | refine blk_drew ?_ | refine blk_alloc ?_ _)); refine blk_far ?_ NB172_213.out _; (with_reducible repeat (first | refine blk_drewN ?_ _ | refine blk_drew ?_ | refine blk_alloc ?_ _)); refine blk_far ?_ NB172_213.out _; (with_reducible repeat (first | refine blk_drewN ?_ _ | refine blk_drew ?_ | refine blk_alloc ?_ _)); exact BK172.out) hb); have n2_ := Aside0.mk (blk_below (g := gb173) (o := .cells #[.int .u8 a1_0, .bool a1_1, .int .u8 a1_2, .int .u8 a1_3, .int .u8 a1_4, .int .u8 a1_5] 38 (0, 0)) (by (with_reducible repeat (first | refine blk_drewN ?_ _ | refine blk_drew ?_ | refine blk_alloc ?_ _)); refine blk_far ?_ NB173_213.out _; (with_reducible repeat (first | refine blk_drewN ?_ _ | refine blk_drew ?_ | refine blk_alloc ?_ _)); refine blk_far ?_ NB173_213.out _; (with_reducible repeat (first | refine blk_drewN ?_ _ | refine blk_drew ?_ | refine blk_alloc ?_ _)); exact BK173.out) hb); have n3_ := Aside0.mk (blk_below (g := gb195) (o := .cells #[.int .u8 x196000_2, .bool x196001_2, .int .u8 x196002_2, .int .u8 x196003_2, .int .u8 x196004_2, .int .u8 x196005_2] 38 (0, 0)) (by (with_reducible repeat (first | refine blk_drewN ?_ _ | refine blk_drew ?_ | refine blk_alloc ?_ _)); refine blk_far ?_ NB195_213.out _; (with_reducible repeat (first | refine blk_drewN ?_ _ | refine blk_drew ?_ | refine blk_alloc ?_ _)); refine blk_far ?_ NB195_213.out _; (with_reducible repeat (first | refine blk_drewN ?_ _ | refine blk_drew ?_ | refine blk_alloc ?_ _)); exact BK195.out) hb); have n4_ := Aside0.mk (blk_below (g := gb206) (o := .cells #[.int .u8 a0_0, .bool a0_1, .int .u8 x207002_76, .int .u8 a0_3, .int .u8 a0_4, .int .u8 a0_5] 38 (0, 0)) (by (with_reducible repeat (first | refine blk_drewN ?_ _ | refine blk_drew ?_ | refine blk_alloc ?_ _)); refine blk_far ?_ NB206_213.out _; (with_reducible repeat (first | refine blk_drewN ?_ _ | refine blk_drew ?_ | refine blk_alloc ?_ _)); refine blk_far ?_ NB206_213.out _; (with_reducible repeat (first | refine blk_drewN ?_ _ | refine blk_drew ?_ | refine blk_alloc ?_ _)); exact BK206.out) hb); have n5_ := Aside0.mk (blk_below (g := gb208) (o := .cells #[.int .u8 x209000_4, .bool x209001_4, .int .u8 x209002_4, .int .u8 x209003_4, .int .u8 x209004_4, .int .u8 x209005_4] 38 (0, 0)) (by (with_reducible repeat (first | refine blk_drewN ?_ _ | refine blk_drew ?_ | refine blk_alloc ?_ _)); refine blk_far ?_ NB208_213.out _; (with_reducible repeat (first | refine blk_drewN ?_ _ | refine blk_drew ?_ | refine blk_alloc ?_ _)); refine blk_far ?_ NB208_213.out _; (with_reducible repeat (first | refine blk_drewN ?_ _ | refine blk_drew ?_ | refine blk_alloc ?_ _)); exact BK208.out) hb); have n6_ := Aside0.mk (blk_below (g := gb213) (o := .cells #[.int .u8 ((rd_T40 t209 x72_4).f0), .int .u8 ((rd_T40 t209 x72_4).f1)] 40 (0, 0)) (by (with_reducible repeat (first | refine blk_drewN ?_ _ | refine blk_drew ?_ | refine blk_alloc ?_ _)); refine blk_put (cs := #[.int .u8 ((rd_T40 t209 x72_4).f0), .int .u8 0]) ?_ 1 _ rfl; (with_reducible repeat (first | refine blk_drewN ?_ _ | refine blk_drew ?_ | refine blk_alloc ?_ _)); refine blk_put (cs := #[.int .u8 0, .int .u8 0]) ?_ 0 _ rfl; (with_reducible repeat (first | refine blk_drewN ?_ _ | refine blk_drew ?_ | refine blk_alloc ?_ _)); exact BK213.out) hb); have n7_ := Aside0.mk (below_step (by repeat (first | (with_reducible first | exact HB.out | apply below_alloc | apply pw_below_drewN | apply below_drew1 | refine below_set ?_ GE172.out | refine below_set ?_ GE173.out | refine below_set ?_ GE195.out | refine below_set ?_ GE206.out | refine below_set ?_ GE208.out | refine below_set ?_ GE213.out) | exact HB.out)) hb); clear HO_70; clear BK172; clear BK173; clear BK195; clear BK206; clear BK208; clear BK213; clear HB; have HO_70 := n0_; have BK172 := n1_; have BK173 := n2_; have BK195 := n3_; have BK206 := n4_; have BK208 := n5_; have BK213 := n6_; have HB := n7_; clear n0_ n1_ n2_ n3_ n4_ n5_ n6_ n7_; (try clear hb); (try clear hb2); (try clear hk); (try clear hi)) | ((with_reducible refine gate_dst (N := 15) rfl ?_); refine box_event ?hg (N := 15) ?hd (cs := #[.int .u8 0, .bool false, .int .u8 0, .int .u8 0, .int .u8 0, .int .u8 0]) (t := 38) ?hr ?_; (case hd => rfl); (case hg => rfl); (case hr => first | (go_simp; done) | (go_simp; rfl)); intro gb221 hg w158 hbox hb; have n0_ := Aside0.mk (Kd.R_below (by (with_reducible repeat (first | apply Kd.R_alloc | apply Kd.R_drewN | apply Kd.R_drew)); exact HO_70.out) hb); have n1_ := Aside0.mk (blk_below (g := gb172) (o := .cells #[.int .u8 a0_0, .bool a0_1, .int .u8 a0_2, .int .u8 a0_3, .int .u8 a0_4, .int .u8 a0_5] 38 (0, 0)) (by (with_reducible repeat (first | refine blk_drewN ?_ _ | refine blk_drew ?_ | refine blk_alloc ?_ _)); exact BK172.out) hb); have n2_ := Aside0.mk (blk_below (g := gb173) (o := .cells #[.int .u8 a1_0, .bool a1_1, .int .u8 a1_2, .int .u8 a1_3, .int .u8 a1_4, .int .u8 a1_5] 38 (0, 0)) (by (with_reducible repeat (first | refine blk_drewN ?_ _ | refine blk_drew ?_ | refine blk_alloc ?_ _)); exact BK173.out) hb); have n3_ := Aside0.mk (blk_below (g := gb195) (o := .cells #[.int .u8 x196000_2, .bool x196001_2, .int .u8 x196002_2, .int .u8 x196003_2, .int .u8 x196004_2, .int .u8 x196005_2] 38 (0, 0)) (by (with_reducible repeat (first | refine blk_drewN ?_ _ | refine blk_drew ?_ | refine blk_alloc ?_ _)); exact BK195.out) hb); have n4_ := Aside0.mk (blk_below (g := gb206) (o := .cells #[.int .u8 a0_0, .bool a0_1, .int .u8 x207002_76, .int .u8 a0_3, .int .u8 a0_4, .int .u8 a0_5] 38 (0, 0)) (by (with_reducible repeat (first | refine blk_drewN ?_ _ | refine blk_drew ?_ | refine blk_alloc ?_ _)); exact BK206.out) hb); have n5_ := Aside0.mk (blk_below (g := gb208) (o := .cells #[.int .u8 x209000_4, .bool x209001_4, .int .u8 x209002_4, .int .u8 x209003_4, .int .u8 x209004_4, .int .u8 x209005_4] 38 (0, 0)) (by (with_reducible repeat (first | refine blk_drewN ?_ _ | refine blk_drew ?_ | refine blk_alloc ?_ _)); exact BK208.out) hb); have n6_ := Aside0.mk (blk_below (g := gb213) (o := .cells #[.int .u8 ((rd_T40 t209 x72_4).f0), .int .u8 ((rd_T40 t209 x72_4).f1)] 40 (0, 0)) (by (with_reducible repeat (first | refine blk_drewN ?_ _ | refine blk_drew ?_ | refine blk_alloc ?_ _)); exact BK213.out) hb); have n7_ := Aside0.mk (below_step (by repeat (first | (with_reducible first | exact HB.out | apply below_alloc | apply pw_below_drewN | apply below_drew1 | refine below_set ?_ GE172.out | refine below_set ?_ GE173.out | refine below_set ?_ GE195.out | refine below_set ?_ GE206.out | refine below_set ?_ GE208.out | refine below_set ?_ GE213.out) | exact HB.out)) hb); have n8_ := Aside0.mk (hbox); have n9_ := Aside0.mk ((by rw [hg]; exact (below_size (by repeat (first | (with_reducible first | exact HB.out | apply below_alloc | apply pw_below_drewN | apply below_drew1 | refine below_set ?_ GE172.out | refine below_set ?_ GE173.out | refine below_set ?_ GE195.out | refine below_set ?_ GE206.out | refine below_set ?_ GE208.out | refine below_set ?_ GE213.out) | exact HB.out))) : w.heap.size ≤ gb221)); have n10_ := Aside0.mk ((by rw [hg]; exact (below_size (by repeat (first | (with_reducible first | exact HB.out | apply below_alloc | apply pw_below_drewN | apply below_drew1 | refine below_set ?_ GE172.out | refine below_set ?_ GE173.out | refine below_set ?_ GE195.out | refine below_set ?_ GE206.out | refine below_set ?_ GE208.out | refine below_set ?_ GE213.out) | exact HB.out))) : w.heap.size ≤ gb221)); have n11_ := Aside0.mk ((by rw [hg]; exact Nat.ne_of_lt (blk_lt (g := gb172) (o := .cells #[.int .u8 a0_0, .bool a0_1, .int .u8 a0_2, .int .u8 a0_3, .int .u8 a0_4, .int .u8 a0_5] 38 (0, 0)) (by (with_reducible repeat (first | refine blk_drewN ?_ _ | refine blk_drew ?_ | refine blk_alloc ?_ _)); exact BK172.out)) : gb172 ≠ gb221)); have n12_ := Aside0.mk ((by rw [hg]; exact Nat.ne_of_gt (blk_lt (g := gb172) (o := .cells #[.int .u8 a0_0, .bool a0_1, .int .u8 a0_2, .int .u8 a0_3, .int .u8 a0_4, .int .u8 a0_5] 38 (0, 0)) (by (with_reducible repeat (first | refine blk_drewN ?_ _ | refine blk_drew ?_ | refine blk_alloc ?_ _)); exact BK172.out)) : gb221 ≠ gb172)); have n13_ := Aside0.mk ((by rw [hg]; exact Nat.ne_of_lt (blk_lt (g := gb173) (o := .cells #[.int .u8 a1_0, .bool a1_1, .int .u8 a1_2, .int .u8 a1_3, .int .u8 a1_4, .int .u8 a1_5] 38 (0, 0)) (by (with_reducible repeat (first | refine blk_drewN ?_ _ | refine blk_drew ?_ | refine blk_alloc ?_ _)); exact BK173.out)) : gb173 ≠ gb221)); have n14_ := Aside0.mk ((by rw [hg]; exact Nat.ne_of_gt (blk_lt (g := gb173) (o := .cells #[.int .u8 a1_0, .bool a1_1, .int .u8 a1_2, .int .u8 a1_3, .int .u8 a1_4, .int .u8 a1_5] 38 (0, 0)) (by (with_reducible repeat (first | refine blk_drewN ?_ _ | refine blk_drew ?_ | refine blk_alloc ?_ _)); exact BK173.out)) : gb221 ≠ gb173)); have n15_ := Aside0.mk ((by rw [hg]; exact Nat.ne_of_lt (blk_lt (g := gb195) (o := .cells #[.int .u8 x196000_2, .bool x196001_2, .int .u8 x196002_2, .int .u8 x196003_2, .int .u8 x196004_2, .int .u8 x196005_2] 38 (0, 0)) (by (with_reducible repeat (first | refine blk_drewN ?_ _ | refine blk_drew ?_ | refine blk_alloc ?_ _)); exact BK195.out)) : gb195 ≠ gb221)); have n16_ := Aside0.mk ((by rw [hg]; exact Nat.ne_of_gt (blk_lt (g := gb195) (o := .cells #[.int .u8 x196000_2, .bool x196001_2, .int .u8 x196002_2, .int .u8 x196003_2, .int .u8 x196004_2, .int .u8 x196005_2] 38 (0, 0)) (by (with_reducible repeat (first | refine blk_drewN ?_ _ | refine blk_drew ?_ | refine blk_alloc ?_ _)); exact BK195.out)) : gb221 ≠ gb195)); have n17_ := Aside0.mk ((by rw [hg]; exact Nat.ne_of_lt (blk_lt (g := gb206) (o := .cells #[.int .u8 a0_0, .bool a0_1, .int .u8 x207002_76, .int .u8 a0_3, .int .u8 a0_4, .int .u8 a0_5] 38 (0, 0)) (by (with_reducible repeat (first | refine blk_drewN ?_ _ | refine blk_drew ?_ | refine blk_alloc ?_ _)); exact BK206.out)) : gb206 ≠ gb221)); have n18_ := Aside0.mk ((by rw [hg]; exact Nat.ne_of_gt (blk_lt (g := gb206) (o := .cells #[.int .u8 a0_0, .bool a0_1, .int .u8 x207002_76, .int .u8 a0_3, .int .u8 a0_4, .int .u8 a0_5] 38 (0, 0)) (by (with_reducible repeat (first | refine blk_drewN ?_ _ | refine blk_drew ?_ | refine blk_alloc ?_ _)); exact BK206.out)) : gb221 ≠ gb206)); have n19_ := Aside0.mk ((by rw [hg]; exact Nat.ne_of_lt (blk_lt (g := gb208) (o := .cells #[.int .u8 x209000_4, .bool x209001_4, .int .u8 x209002_4, .int .u8 x209003_4, .int .u8 x209004_4, .int .u8 x209005_4] 38 (0, 0)) (by (with_reducible repeat (first | refine blk_drewN ?_ _ | refine blk_drew ?_ | refine blk_alloc ?_ _)); exact BK208.out)) : gb208 ≠ gb221)); have n20_ := Aside0.mk ((by rw [hg]; exact Nat.ne_of_gt (blk_lt (g := gb208) (o := .cells #[.int .u8 x209000_4, .bool x209001_4, .int .u8 x209002_4, .int .u8 x209003_4, .int .u8 x209004_4, .int .u8 x209005_4] 38 (0, 0)) (by (with_reducible repeat (first | refine blk_drewN ?_ _ | refine blk_drew ?_ | refine blk_alloc ?_ _)); exact BK208.out)) : gb221 ≠ gb208)); have n21_ := Aside0.mk ((by rw [hg]; exact Nat.ne_of_lt (blk_lt (g := gb213) (o := .cells #[.int .u8 ((rd_T40 t209 x72_4).f0), .int .u8 ((rd_T40 t209 x72_4).f1)] 40 (0, 0)) (by (with_reducible repeat (first | refine blk_drewN ?_ _ | refine blk_drew ?_ | refine blk_alloc ?_ _)); exact BK213.out)) : gb213 ≠ gb221)); have n22_ := Aside0.mk ((by rw [hg]; exact Nat.ne_of_gt (blk_lt (g := gb213) (o := .cells #[.int .u8 ((rd_T40 t209 x72_4).f0), .int .u8 ((rd_T40 t209 x72_4).f1)] 40 (0, 0)) (by (with_reducible repeat (first | refine blk_drewN ?_ _ | refine blk_drew ?_ | refine blk_alloc ?_ _)); exact BK213.out)) : gb221 ≠ gb213)); clear HO_70; clear BK172; clear BK173; clear BK195; clear BK206; clear BK208; clear BK213; clear HB; have HO_70 := n0_; have BK172 := n1_; have BK173 := n2_; have BK195 := n3_; have BK206 := n4_; have BK208 := n5_; have BK213 := n6_; have HB := n7_; have BK221 := n8_; have GW221 := n9_; have GE221 := n10_; have NB172_221 := n11_; have NB221_172 := n12_; have NB173_221 := n13_; have NB221_173 := n14_; have NB195_221 := n15_; have NB221_195 := n16_; have NB206_221 := n17_; have NB221_206 := n18_; have NB208_221 := n19_; have NB221_208 := n20_; have NB213_221 := n21_; have NB221_213 := n22_; clear n0_ n1_ n2_ n3_ n4_ n5_ n6_ n7_ n8_ n9_ n10_ n11_ n12_ n13_ n14_ n15_ n16_ n17_ n18_ n19_ n20_ n21_ n22_; clear hb hbox hg; have hnb159 := NB221_172.out; have hnc159 := NB172_221.out; have hnb160 := NB221_173.out; have hnc160 := NB173_221.out; have hnb161 := NB221_195.out; have hnc161 := NB195_221.out; have hnb162 := NB221_206.out; have hnc162 := NB206_221.out; have hnb163 := NB221_208.out; have hnc163 := NB208_221.out; have hnb164 := NB221_213.out; have hnc164 := NB213_221.out; have hcz165_0 : w158.cell? ⟨gb221, 0, none⟩ = some (.int .u8 0) := (blk_cell BK221.out 0).trans rfl; have hcz165_1 : w158.cell? ⟨gb221, 1, none⟩ = some (.bool false) := (blk_cell BK221.out 1).trans rfl; have hcz165_2 : w158.cell? ⟨gb221, 2, none⟩ = some (.int .u8 0) := (blk_cell BK221.out 2).trans rfl; have hcz165_3 : w158.cell? ⟨gb221, 3, none⟩ = some (.int .u8 0) := (blk_cell BK221.out 3).trans rfl; have hcz165_4 : w158.cell? ⟨gb221, 4, none⟩ = some (.int .u8 0) := (blk_cell BK221.out 4).trans rfl; have hcz165_5 : w158.cell? ⟨gb221, 5, none⟩ = some (.int .u8 0) := (blk_cell BK221.out 5).trans rfl; have hfz165_0 := blk_frozen BK221.out 0; have hfz165_1 := blk_frozen BK221.out 1; have hfz165_2 := blk_frozen BK221.out 2; have hfz165_3 := blk_frozen BK221.out 3; have hfz165_4 := blk_frozen BK221.out 4; have hfz165_5 := blk_frozen BK221.out 5; have hnb166 := NB195_172.out; have hnc166 := NB172_195.out; have hnb167 := NB195_173.out; have hnc167 := NB173_195.out; have hnb168 := NB195_206.out; have hnc168 := NB206_195.out; have hcz169_0 : w158.cell? ⟨gb195, 0, none⟩ = some (.int .u8 x196000_2) := (blk_cell BK195.out 0).trans rfl; have hcz169_1 : w158.cell? ⟨gb195, 1, none⟩ = some (.bool x196001_2) := (blk_cell BK195.out 1).trans rfl; have hcz169_2 : w158.cell? ⟨gb195, 2, none⟩ = some (.int .u8 x196002_2) := (blk_cell BK195.out 2).trans rfl; have hcz169_3 : w158.cell? ⟨gb195, 3, none⟩ = some (.int .u8 x196003_2) := (blk_cell BK195.out 3).trans rfl; have hcz169_4 : w158.cell? ⟨gb195, 4, none⟩ = some (.int .u8 x196004_2) := (blk_cell BK195.out 4).trans rfl; have hcz169_5 : w158.cell? ⟨gb195, 5, none⟩ = some (.int .u8 x196005_2) := (blk_cell BK195.out 5).trans rfl; have hfz169_0 := blk_frozen BK195.out 0; have hfz169_1 := blk_frozen BK195.out 1; have hfz169_2 := blk_frozen BK195.out 2; have hfz169_3 := blk_frozen BK195.out 3; have hfz169_4 := blk_frozen BK195.out 4; have hfz169_5 := blk_frozen BK195.out 5; have hnb170 := NB206_172.out; have hnc170 := NB172_206.out; have hnb171 := NB206_173.out; have hnc171 := NB173_206.out; have hcz172_0 : w158.cell? ⟨gb206, 0, none⟩ = some (.int .u8 a0_0) := (blk_cell BK206.out 0).trans rfl; have hcz172_1 : w158.cell? ⟨gb206, 1, none⟩ = some (.bool a0_1) := (blk_cell BK206.out 1).trans rfl; have hcz172_2 : w158.cell? ⟨gb206, 2, none⟩ = some (.int .u8 x207002_76) := (blk_cell BK206.out 2).trans rfl; have hcz172_3 : w158.cell? ⟨gb206, 3, none⟩ = some (.int .u8 a0_3) := (blk_cell BK206.out 3).trans rfl; have hcz172_4 : w158.cell? ⟨gb206, 4, none⟩ = some (.int .u8 a0_4) := (blk_cell BK206.out 4).trans rfl; have hcz172_5 : w158.cell? ⟨gb206, 5, none⟩ = some (.int .u8 a0_5) := (blk_cell BK206.out 5).trans rfl; have hfz172_0 := blk_frozen BK206.out 0; have hfz172_1 := blk_frozen BK206.out 1; have hfz172_2 := blk_frozen BK206.out 2; have hfz172_3 := blk_frozen BK206.out 3; have hfz172_4 := blk_frozen BK206.out 4; have hfz172_5 := blk_frozen BK206.out 5))
                                go_ret
                                exact ⟨by first | rfl | (simp [errW_none, errW_some] <;> rfl) | (simp [*, errW_none, errW_some] <;> rfl), by repeat (first | (with_reducible first | exact HB.out | apply below_alloc | apply pw_below_drewN | apply below_drew1 | refine below_set ?_ GE172.out | refine below_set ?_ GE173.out | refine below_set ?_ GE195.out | refine below_set ?_ GE206.out | refine below_set ?_ GE208.out | refine below_set ?_ GE213.out | refine below_set ?_ GE221.out) | exact HB.out)⟩
                            · rw [if_neg c120] at H
                              exact absurd H (by simp)
                          · rw [if_neg c119] at H
                            exact absurd H (by simp)
                        · rw [if_neg c118] at H
                          have c118b0 : decide (x72_4 < (t209.length : Int)) = false := decide_eq_false c118
                          clear c118
                          by_cases c173 : (x196000_2 == a0_0 && (x196001_2 == a0_1 && (x196002_2 == x207002_76 && (x196003_2 == a0_3 && (x196004_2 == a0_4 && (x196005_2 == a0_5)))))) = true
                          · rw [if_pos c173] at H
                            have c173b0 : (x196000_2 == a0_0 && (x196001_2 == a0_1 && (x196002_2 == x207002_76 && (x196003_2 == a0_3 && (x196004_2 == a0_4 && (x196005_2 == a0_5)))))) = true := c173
                            (try (have c173b1 : decide (x196000_2 = a0_0 && (x196001_2 == a0_1 && (x196002_2 == x207002_76 && (x196003_2 == a0_3 && (x196004_2 == a0_4 && (x196005_2 == a0_5)))))) = true := by simpa using c173))
                            (try (have c173b2 : (x196000_2 == a0_0 && (x196001_2 == a0_1 && (x196002_2 == x207002_76 && (x196003_2 == a0_3 && (x196004_2 == a0_4 && (x196005_2 == a0_5)))))) = true := by simpa using c173))
                            clear c173
                            by_cases c174 : x209003_4 = a1_3
                            · rw [if_pos c174] at H
                              have c174b0 : (x209003_4 == a1_3) = true := beq_iff_eq.mpr c174
                              have c174b1 : (x209003_4 != a1_3) = false := bne_eq_false_iff_eq.mpr c174
                              clear c174
                              by_cases c175 : x209004_4 = a1_4
                              · rw [if_pos c175] at H
                                have c175b0 : (x209004_4 == a1_4) = true := beq_iff_eq.mpr c175
                                have c175b1 : (x209004_4 != a1_4) = false := bne_eq_false_iff_eq.mpr c175
                                clear c175
                                obtain rfl := Option.some.inj H
                                have hnb176 := NB195_172.out
                                have hnc176 := NB172_195.out
                                have hnb177 := NB195_173.out
                                have hnc177 := NB173_195.out
                                have hnb178 := NB195_206.out
                                have hnc178 := NB206_195.out
                                have hnb179 := NB195_208.out
                                have hnc179 := NB208_195.out
                                have hcz180_0 : wr.cell? ⟨gb195, 0, none⟩ = some (.int .u8 x196000_2) := (blk_cell BK195.out 0).trans rfl
                                have hcz180_1 : wr.cell? ⟨gb195, 1, none⟩ = some (.bool x196001_2) := (blk_cell BK195.out 1).trans rfl
                                have hcz180_2 : wr.cell? ⟨gb195, 2, none⟩ = some (.int .u8 x196002_2) := (blk_cell BK195.out 2).trans rfl
                                have hcz180_3 : wr.cell? ⟨gb195, 3, none⟩ = some (.int .u8 x196003_2) := (blk_cell BK195.out 3).trans rfl
                                have hcz180_4 : wr.cell? ⟨gb195, 4, none⟩ = some (.int .u8 x196004_2) := (blk_cell BK195.out 4).trans rfl
                                have hcz180_5 : wr.cell? ⟨gb195, 5, none⟩ = some (.int .u8 x196005_2) := (blk_cell BK195.out 5).trans rfl
                                have hfz180_0 := blk_frozen BK195.out 0
                                have hfz180_1 := blk_frozen BK195.out 1
                                have hfz180_2 := blk_frozen BK195.out 2
                                have hfz180_3 := blk_frozen BK195.out 3
                                have hfz180_4 := blk_frozen BK195.out 4
                                have hfz180_5 := blk_frozen BK195.out 5
                                have hnb181 := NB206_172.out
                                have hnc181 := NB172_206.out
                                have hnb182 := NB206_173.out
                                have hnc182 := NB173_206.out
                                have hnb183 := NB206_208.out
                                have hnc183 := NB208_206.out
                                have hcz184_0 : wr.cell? ⟨gb206, 0, none⟩ = some (.int .u8 a0_0) := (blk_cell BK206.out 0).trans rfl
                                have hcz184_1 : wr.cell? ⟨gb206, 1, none⟩ = some (.bool a0_1) := (blk_cell BK206.out 1).trans rfl
                                have hcz184_2 : wr.cell? ⟨gb206, 2, none⟩ = some (.int .u8 x207002_76) := (blk_cell BK206.out 2).trans rfl
                                have hcz184_3 : wr.cell? ⟨gb206, 3, none⟩ = some (.int .u8 a0_3) := (blk_cell BK206.out 3).trans rfl
                                have hcz184_4 : wr.cell? ⟨gb206, 4, none⟩ = some (.int .u8 a0_4) := (blk_cell BK206.out 4).trans rfl
                                have hcz184_5 : wr.cell? ⟨gb206, 5, none⟩ = some (.int .u8 a0_5) := (blk_cell BK206.out 5).trans rfl
                                have hfz184_0 := blk_frozen BK206.out 0
                                have hfz184_1 := blk_frozen BK206.out 1
                                have hfz184_2 := blk_frozen BK206.out 2
                                have hfz184_3 := blk_frozen BK206.out 3
                                have hfz184_4 := blk_frozen BK206.out 4
                                have hfz184_5 := blk_frozen BK206.out 5
                                have hnb185 := NB208_172.out
                                have hnc185 := NB172_208.out
                                have hnb186 := NB208_173.out
                                have hnc186 := NB173_208.out
                                have hcz187_0 : wr.cell? ⟨gb208, 0, none⟩ = some (.int .u8 x209000_4) := (blk_cell BK208.out 0).trans rfl
                                have hcz187_1 : wr.cell? ⟨gb208, 1, none⟩ = some (.bool x209001_4) := (blk_cell BK208.out 1).trans rfl
                                have hcz187_2 : wr.cell? ⟨gb208, 2, none⟩ = some (.int .u8 x209002_4) := (blk_cell BK208.out 2).trans rfl
                                have hcz187_3 : wr.cell? ⟨gb208, 3, none⟩ = some (.int .u8 x209003_4) := (blk_cell BK208.out 3).trans rfl
                                have hcz187_4 : wr.cell? ⟨gb208, 4, none⟩ = some (.int .u8 x209004_4) := (blk_cell BK208.out 4).trans rfl
                                have hcz187_5 : wr.cell? ⟨gb208, 5, none⟩ = some (.int .u8 x209005_4) := (blk_cell BK208.out 5).trans rfl
                                have hfz187_0 := blk_frozen BK208.out 0
                                have hfz187_1 := blk_frozen BK208.out 1
                                have hfz187_2 := blk_frozen BK208.out 2
                                have hfz187_3 := blk_frozen BK208.out 3
                                have hfz187_4 := blk_frozen BK208.out 4
                                have hfz187_5 := blk_frozen BK208.out 5
                                have hnb188 := NB173_172.out
                                have hnc188 := NB172_173.out
                                have hcz189_0 : wr.cell? ⟨gb173, 0, none⟩ = some (.int .u8 a1_0) := (blk_cell BK173.out 0).trans rfl
                                have hcz189_1 : wr.cell? ⟨gb173, 1, none⟩ = some (.bool a1_1) := (blk_cell BK173.out 1).trans rfl
                                have hcz189_2 : wr.cell? ⟨gb173, 2, none⟩ = some (.int .u8 a1_2) := (blk_cell BK173.out 2).trans rfl
                                have hcz189_3 : wr.cell? ⟨gb173, 3, none⟩ = some (.int .u8 a1_3) := (blk_cell BK173.out 3).trans rfl
                                have hcz189_4 : wr.cell? ⟨gb173, 4, none⟩ = some (.int .u8 a1_4) := (blk_cell BK173.out 4).trans rfl
                                have hcz189_5 : wr.cell? ⟨gb173, 5, none⟩ = some (.int .u8 a1_5) := (blk_cell BK173.out 5).trans rfl
                                have hfz189_0 := blk_frozen BK173.out 0
                                have hfz189_1 := blk_frozen BK173.out 1
                                have hfz189_2 := blk_frozen BK173.out 2
                                have hfz189_3 := blk_frozen BK173.out 3
                                have hfz189_4 := blk_frozen BK173.out 4
                                have hfz189_5 := blk_frozen BK173.out 5
                                go_wp2
                                go_ret
                                exact ⟨by first | rfl | (simp [errW_none, errW_some] <;> rfl) | (simp [*, errW_none, errW_some] <;> rfl), by repeat (first | (with_reducible first | exact HB.out | apply below_alloc | apply pw_below_drewN | apply below_drew1 | refine below_set ?_ GE172.out | refine below_set ?_ GE173.out | refine below_set ?_ GE195.out | refine below_set ?_ GE206.out | refine below_set ?_ GE208.out) | exact HB.out)⟩
                              · rw [if_neg c175] at H
                                exact absurd H (by simp)
                            · rw [if_neg c174] at H
                              exact absurd H (by simp)
                          · rw [if_neg c173] at H
                            exact absurd H (by simp)
  · replace c4 := Bool.eq_false_iff.mpr c4
    subst c4
    have H1 : (none) = some r := by rw [if_neg (show ¬ (false = true) by decide)] at H; exact H
    clear H
    have H := H1
    clear H1
    exact absurd H (by simp)

end Go.Proofs.Ytfdhchgemplnoaa.PMk
