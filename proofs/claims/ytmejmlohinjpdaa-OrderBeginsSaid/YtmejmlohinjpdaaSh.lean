/- order.scanner.op whole; order.All. -/
import Derived.Test.YtmejmlohinjpdaaSg
import Derived.Deep.LoopGhost
import Derived.Deep.QuietTactic
import Derived.BigQuiet
namespace Go.Proofs.Ytmejmlohinjpdaa.Sc
open Go.RowKit Go.Proofs.YtmejmlohinjpdaaW.PrintWords Go.Proofs.YtmejmlohinjpdaaW.PrintLast Go.Proofs.YtmejmlohinjpdaaW.PrintMore Go.Proofs.Ytmejmlohinjpdaa.POr
set_option linter.unusedVariables false
set_option linter.unusedSimpArgs false
theorem isO_cases (b : Int) (h : isO b = true) : b = 5 ∨ b = 8 ∨ b = 17 ∨ b = 18 ∨ b = 19 ∨ b = 29 ∨ b = 40 ∨ b = 41 ∨ b = 44 ∨ b = 60 := by
  simpa [isO, or_assoc] using h
theorem op_of (g : Nat) (p : List Int) (hp : Bytes p) (hl : p.length ≤ 100000) (h0 : 0 < p.length) (w0 w : World) (hI : SS w0 w g p 0) (hB : Below w0.heap.size w0 w) :
    Calls Try.prog 15 #[.pointer (some ⟨g, 0, none⟩)] w (OpPost w0 w g (opF p)) := by
  match p, h0 with
  | b :: q, _ =>
    have hq : Bytes q := fun x hx => hp x (by simp [hx])
    have hql : q.length ≤ 100000 := by simp at hl; omega
    have hb : rd (b :: q) 0 = b := rfl
    by_cases hn : isO b = false
    · have e : opF (b :: q) = (⟨0, 0, 0, false, 0, [], (b :: q).take (lead (b :: q))⟩, (b :: q).drop (lead (b :: q)), 0) := by unfold opF; rw [hb, if_pos hn]
      rw [e]
      exact op_text g (b :: q) hp hl (by simp) hn w0 w hI hB
    · rcases isO_cases b (by simpa using hn) with rfl | rfl | rfl | rfl | rfl | rfl | rfl | rfl | rfl | rfl
      · exact op_5 g q hq hql w0 w hI hB
      · exact op_8 g q hq hql w0 w hI hB
      · exact op_17 g q hq hql w0 w hI hB
      · exact op_18 g q hq hql w0 w hI hB
      · exact op_19 g q hq hql w0 w hI hB
      · exact op_29 g q hq hql w0 w hI hB
      · exact op_40 g q hq hql w0 w hI hB
      · exact op_41 g q hq hql w0 w hI hB
      · exact op_44 g q hq hql w0 w hI hB
      · exact op_60 g q hq hql w0 w hI hB
/-- What is left is a part of what there was. -/
def Part (r q : List Int) : Prop := r.length ≤ q.length ∧ ∀ x ∈ r, x ∈ q
theorem Part.refl (q : List Int) : Part q q := ⟨Nat.le_refl _, fun _ h => h⟩
theorem Part.drop (q : List Int) (n : Nat) : Part (q.drop n) q := ⟨by rw [List.length_drop]; omega, fun _ h => List.mem_of_mem_drop h⟩
theorem Part.nil (q : List Int) : Part [] q := ⟨Nat.zero_le _, fun _ h => by cases h⟩
theorem Part.trans {a b c : List Int} (h : Part a b) (k : Part b c) : Part a c := ⟨Nat.le_trans h.1 k.1, fun x hx => k.2 x (h.2 x hx)⟩
theorem addrF_part (q : List Int) : Part (addrF q).2.1 q := by
  unfold addrF
  split
  · exact Part.nil q
  · exact Part.drop q 2
theorem charF_part (q : List Int) (c : Int) : Part (charF q c).2.1 q := by
  cases q with
  | nil => exact Part.refl _
  | cons b r => exact ⟨by simp [charF], fun x hx => by simp [charF] at hx; simp [hx]⟩
theorem graphF_part (q : List Int) : Part (graphF q).2 q := by
  cases q with
  | nil => exact Part.refl _
  | cons b r =>
    simp only [graphF]
    split
    · exact ⟨by simp, fun x hx => by simp [hx]⟩
    · exact Part.refl _
theorem sfF_part (q : List Int) : Part (sfF q).2.1 q := by
  cases q with
  | nil => exact Part.refl _
  | cons b r => exact ⟨by simp [sfF], fun x hx => by simp [sfF] at hx; simp [hx]⟩
theorem pairF_part (q : List Int) : Part (pairF q).2.1 q := by
  match q with
  | [] => exact Part.nil _
  | [a] => exact Part.nil _
  | a :: b :: r => exact ⟨by simp [pairF]; omega, fun x hx => by simp [pairF] at hx; simp [hx]⟩
theorem pairsF_part (q : List Int) : Part (pairsF q).2.1 q := by
  unfold pairsF
  split
  · exact Part.drop _ _
  · exact Part.refl _
theorem opF_part (b : Int) (q : List Int) : (opF (b :: q)).2.1.length ≤ q.length ∧ ∀ x ∈ (opF (b :: q)).2.1, x ∈ b :: q := by
  have up : ∀ r, Part r q → r.length ≤ q.length ∧ ∀ x ∈ r, x ∈ b :: q := fun r h => ⟨h.1, fun x hx => List.mem_cons_of_mem _ (h.2 x hx)⟩
  have hb : rd (b :: q) 0 = b := rfl
  have hd : (b :: q).drop 1 = q := rfl
  unfold opF
  rw [hb, hd]
  split
  · rename_i h
    have hl : 1 ≤ lead (b :: q) := by unfold lead; rw [if_neg (by simp [h])]; omega
    exact ⟨by rw [List.length_drop]; simp; omega, fun _ h => List.mem_of_mem_drop h⟩
  split
  · exact up _ (addrF_part q)
  split
  · exact up _ ((charF_part _ _).trans ((graphF_part _).trans (addrF_part q)))
  split
  · exact up _ (sfF_part q)
  split
  · exact up _ (pairF_part q)
  split
  · exact up _ (pairsF_part q)
  split
  · exact up _ (charF_part q 0)
  · exact up _ (Part.refl q)
/-- All: the orders and texts, how many bytes are left where it stops, and the error. -/
noncomputable def allF : Nat → List Int → List OpR × Nat × Int
  | 0, p => ([], p.length, 0)
  | n + 1, p => if p.length = 0 then ([], 0, 0) else if (opF p).2.2 = 0 then ((opF p).1 :: (allF n (opF p).2.1).1, (allF n (opF p).2.1).2) else ([], p.length, (opF p).2.2)
def k35 : Kd OpR := Kd.iso (Kd.pair (Kd.int .i64) (Kd.pair (Kd.int .i64) (Kd.pair (Kd.int .u8) (Kd.pair Kd.bool (Kd.pair (Kd.int .u8) (Kd.pair (Kd.slice 50 k50) (Kd.slice 5 (Kd.int .u8)))))))) (fun x : OpR => (x.kind, x.addr, x.ch, x.graph, x.fa, x.pairs, x.text))
theorem k35_mkM {w : World} {base : Nat} {ok : Nat → Prop} {x : OpR} {vp vt : Value} (hp : Kd.R k50 50 w base ok vp x.pairs) (ht : Kd.R (Kd.int .u8) 5 w base ok vt x.text) :
    k35.M w base ok x [.int .i64 x.kind, .int .i64 x.addr, .int .u8 x.ch, .bool x.graph, .int .u8 x.fa, vp, vt] :=
  ⟨[.int .i64 x.kind], _, rfl, rfl, [.int .i64 x.addr], _, rfl, rfl, [.int .u8 x.ch], _, rfl, rfl, [.bool x.graph], _, rfl, rfl, [.int .u8 x.fa], _, rfl, rfl, [vp], [vt], rfl, ⟨vp, rfl, hp⟩, ⟨vt, rfl, ht⟩⟩
theorem k35_open {w : World} {x : OpR} {cs : List Value} (h : k35.K w x cs) : ∃ A c B d, cs = [.int .i64 x.kind, .int .i64 x.addr, .int .u8 x.ch, .bool x.graph, .int .u8 x.fa, .slice A x.pairs.length c, .slice B x.text.length d] ∧ x.pairs.length ≤ c ∧ Kd.C k50 w A x.pairs.length x.pairs ∧ x.text.length ≤ d ∧ Kd.C (Kd.int .u8) w B x.text.length x.text := by
  obtain ⟨_, _, rfl, rfl, _, _, rfl, rfl, _, _, rfl, rfl, _, _, rfl, rfl, _, _, rfl, rfl, _, _, rfl, ⟨A, c, rfl, h1, h2⟩, ⟨B, d, rfl, h3, h4⟩⟩ := h
  exact ⟨A, c, B, d, rfl, h1, h2, h3, h4⟩
theorem info35 : (Try.prog.info? 35).map (fun i => (i.zero, i.size, i.bytes)) = some (some (.agg #[.int .i64 0, .int .i64 0, .int .u8 0, .bool false, .int .u8 0, .slice none 0 0, .slice none 0 0]), 7, 72) := by kernel_rfl
end Go.Proofs.Ytmejmlohinjpdaa.Sc
