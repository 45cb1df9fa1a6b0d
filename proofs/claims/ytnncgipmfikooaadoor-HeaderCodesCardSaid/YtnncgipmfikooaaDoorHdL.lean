/- What the row lists of the package variable 'names' gives: its cells (strings), for the walks. -/
import Derived.Test.YtnncgipmfikooaaDoorRows
import Derived.Test.YtnncgipmfikooaaDoorHdA
import Derived.Lib.LaidTab
import Derived.ChangeArms
namespace Go.Proofs.YtnncgipmfikooaaDoor.Laid
open Go.Lib

/-- An array of strings that reads as a list of strings holds them, cell for cell. -/
theorem cells_of_strings {H : Type} {enc : TypeId × Value → H} {P : Program} {w : World} {base : Nat} {sp : Nat → Bool} {held : Bool} {fuel : Nat} {t e : TypeId} {n : Nat} {cs : List Value} {zs : List ByteArray} {p : List MemPlace}
    (ht : P.underlying t = some (.array n e)) (he : P.underlying e = some .string) (hce : P.cellsOf e = 1) (hct : P.cellsOf t = n)
    (h : DataW.trod enc P w base sp held fuel t cs = some (.agg (zs.map fun z => .lit (.string z.data.toList)), p)) : cs = zs.map fun z => Value.string z := by
  cases fuel with
  | zero => simp [DataW.trod] at h
  | succ fuel =>
    simp only [DataW.trod, ht, hce, hct, Nat.mul_one] at h
    split at h
    · rename_i hl
      obtain ⟨xs, hm, hx⟩ := Option.map_eq_some_iff.1 h
      have hxs : xs.map (·.1) = zs.map fun z => (DataW.lit (.string z.data.toList) : DataW H) := by
        have := congrArg Prod.fst hx
        simpa using this
      have hxl : xs.length = n := by simpa using mapM_length hm
      have hzl : zs.length = n := by
        have := congrArg List.length hxs
        simp at this
        omega
      apply List.ext_getElem?
      intro i
      by_cases hi : i < n
      · obtain ⟨b, hb, hf⟩ := mapM_at hm i i (by simp [hi])
        obtain ⟨z, hc, rfl, _⟩ := DataW.trod_string he hf
        have h1 : cs[i]? = some (.string z) := by
          have := congrArg (·[0]?) hc
          simpa [List.getElem?_take, List.getElem?_drop] using this
        have h2 : (xs.map (·.1))[i]? = some (DataW.lit (.string z.data.toList) : DataW H) := by simp [hb]
        rw [hxs] at h2
        simp only [List.getElem?_map, Option.map_eq_some_iff, DataW.lit.injEq, Lit.string.injEq] at h2
        obtain ⟨z', hz', hd⟩ := h2
        have : z' = z := by cases z'; cases z; simp only [ByteArray.mk.injEq]; exact Array.toList_inj.1 hd
        subst this
        simp [h1, hz']
      · rw [List.getElem?_eq_none (by omega), List.getElem?_eq_none (by simp; omega)]
    · cases h

def nine : List ByteArray := [⟨#[51, 50, 55, 48, 45, 68, 65, 84, 65]⟩, ⟨#[83, 67, 83, 45, 68, 65, 84, 65]⟩, ⟨#[82, 69, 83, 80, 79, 78, 83, 69]⟩, ⟨#[66, 73, 78, 68, 45, 73, 77, 65, 71, 69]⟩, ⟨#[85, 78, 66, 73, 78, 68]⟩, ⟨#[78, 86, 84, 45, 68, 65, 84, 65]⟩, ⟨#[82, 69, 81, 85, 69, 83, 84]⟩, ⟨#[83, 83, 67, 80, 45, 76, 85, 45, 68, 65, 84, 65]⟩, ⟨#[80, 82, 73, 78, 84, 45, 69, 79, 74]⟩]
theorem gNames : Tryd.prog.globalNamed "vitrine/header.names" = some 0 := by kernel_rfl
theorem gNamesType : (Tryd.prog.globals[0]?).map (·.type) = some 56 := by kernel_rfl
theorem cells56 : Tryd.prog.cellsOf 56 = 9 := by kernel_rfl
theorem cells9 : Tryd.prog.cellsOf 9 = 1 := by kernel_rfl
theorem gl {W : World} (h : laidMetH Tryd.prog [("vitrine/header.names", Rows.laid_vitrine_header_names)] W) : PHd.GL W := by
  have h' : laidMet Tryd.prog [("vitrine/header.names", (.agg (nine.map fun z => .lit (.string z.data.toList)) : DataW Unit))] W := h
  obtain ⟨ps, ⟨g', t', cs, fuel, p, q, hg', ht', hvar, hd, _, _⟩, _⟩ := h'
  obtain rfl := Option.some.inj (gNames.symm.trans hg')
  obtain rfl := Option.some.inj (gNamesType.symm.trans ht')
  have hc := cells_of_strings Tryd.underlying56 Tryd.underlying9 cells9 cells56 hd
  have hv : W.var? Tryd.prog "vitrine/header.names" = some (nine.map fun z => Value.string z).toArray := by rw [hvar, ← hc]
  have one : ∀ (i : Nat) (z : ByteArray), nine[i]? = some z → W.cell? ⟨0, i, none⟩ = some (.string z) := by
    intro i z hz
    have := World.var?_cell gNames hv i
    rw [this]; simp [hz]
  exact ⟨one 0 _ rfl, one 1 _ rfl, one 2 _ rfl, one 3 _ rfl, one 4 _ rfl, one 5 _ rfl, one 6 _ rfl, one 7 _ rfl, one 8 _ rfl⟩
end Go.Proofs.YtnncgipmfikooaaDoor.Laid
