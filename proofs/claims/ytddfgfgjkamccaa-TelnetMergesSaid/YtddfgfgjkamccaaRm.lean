/- telnet: back, Same, Merge, in plain Lean. -/
import Derived.Test.YtddfgfgjkamccaaRl
import Derived.Test.YtddfgfgjkamccaaPTex3
import Derived.Test.YtddfgfgjkamccaaPTex4
namespace Go.Proofs.Ytddfgfgjkamccaa.Tn
open Go Go.RowKit Go.Proofs.YtddfgfgjkamccaaW.PrintWords Go.Proofs.YtddfgfgjkamccaaW.PrintLast Go.Proofs.YtddfgfgjkamccaaW.PrintMore Go.Proofs.Ytddfgfgjkamccaa.PTe
set_option linter.unusedVariables false
set_option linter.unusedSimpArgs false
def cv (e : S36) : S35 := ⟨e.f0, e.f1, e.f2, e.f3, e.f4, e.f5⟩
def vc (e : S35) : S36 := ⟨e.f0, e.f1, e.f2, e.f3, e.f4, e.f5⟩
theorem w1n (j : Nat) (h : j ≤ 1000000) : wrap64 ((j : Int) + 1) = ((j + 1 : Nat) : Int) := (wrap_in _ (by omega) (by omega)).trans (by omega)
theorem back_l0 (l : List S36) (hl : l.length ≤ 1000000) : ∀ (k j : Nat) (out : List S35), j ≤ l.length → out.length ≤ j → l.length - j < k →
    vitrinelaw06_back.l0 k out l (l.length : Int) (j : Int) = some (out ++ (l.drop j).map cv) := by
  intro k
  induction k with
  | zero => intro j out h1 h2 h3; omega
  | succ k ih =>
    intro j out h1 h2 h3
    unfold vitrinelaw06_back.l0
    by_cases d : j < l.length
    · have hA : out.length < 2932031007402 := by omega
      rw [if_pos (show (j : Int) < (l.length : Int) by omega), if_pos (show (0 : Int) ≤ (j : Int) by omega), if_pos (show (j : Int) < (l.length : Int) by omega), if_pos hA, w1n j (by omega), ih (j + 1) _ (by omega) (by simp; omega) (by omega)]
      have hr : rd_T36 l (j : Int) = l[j] := by
        unfold rd_T36
        rw [Int.toNat_natCast, List.getD_eq_getElem?_getD, List.getElem?_eq_getElem d]; rfl
      rw [List.drop_eq_getElem_cons d, hr, List.map_cons, List.append_assoc]
      rfl
    · rw [if_neg (by omega), List.drop_eq_nil_of_le (by omega)]
      simp
theorem back_eq (l : List S36) (hl : l.length ≤ 1000000) : vitrinelaw06_back.f (l.length + 1) l = some (l.map cv) := by
  unfold vitrinelaw06_back.f
  have := back_l0 l hl (l.length + 1) 0 [] (by omega) (by simp) (by omega)
  simpa using this
theorem same_l0 (l : List S35) (hl : l.length ≤ 1000000) : ∀ (k j : Nat), j ≤ l.length → l.length - j < k → vitrineref06_Same.l0 k l l (l.length : Int) (j : Int) = some true := by
  intro k
  induction k with
  | zero => intro j h1 h3; omega
  | succ k ih =>
    intro j h1 h3
    unfold vitrineref06_Same.l0
    by_cases d : j < l.length
    · have hs : vitrineref01_Same.f (rd_T35 l (j : Int)).f3 (rd_T35 l (j : Int)).f3 = some true := by unfold vitrineref01_Same.f; simp
      rw [if_pos (show (j : Int) < (l.length : Int) by omega), if_pos (show (0 : Int) ≤ (j : Int) by omega), if_pos (show (j : Int) < (l.length : Int) by omega), if_pos (show (j : Int) < (l.length : Int) by omega), if_pos rfl, if_pos rfl, if_pos rfl, hs, Option.bind_some, if_pos rfl, w1n j (by omega), ih (j + 1) (by omega) (by omega)]
      simp
    · rw [if_neg (by omega)]
theorem same_eq (l : List S35) (hl : l.length ≤ 1000000) : vitrineref06_Same.f (l.length + 1) l l = some true := by
  unfold vitrineref06_Same.f
  rw [if_pos rfl]
  exact same_l0 l hl (l.length + 1) 0 (by omega) (by omega)
/-- What the law puts together itself. -/
def wntF (out : List S35) (e : S35) : List S35 := if e.f0 ≠ 0 then out ++ [e] else if e.f3 = [] then out else if 0 < out.length ∧ (lastD out).f0 = 0 then out.set (out.length - 1) { lastD out with f3 := (lastD out).f3 ++ e.f3 } else out ++ [⟨0, 0, 0, e.f3, false, false⟩]
theorem cv_vc (e : S35) : cv (vc e) = e := rfl
theorem last_map (out : List S36) : lastD (out.map cv) = cv (last36 out) := by
  unfold lastD last36 rd_T35 rd_T36
  rw [Int.toNat_natCast, Int.toNat_natCast, List.getD_eq_getElem?_getD, List.getD_eq_getElem?_getD, List.length_map, List.getElem?_map]
  cases out[out.length - 1]? <;> rfl
theorem mrgF_cv (out : List S36) (e : S36) : (mrgF out e).map cv = wntF (out.map cv) (cv e) := by
  unfold mrgF wntF
  rw [last_map, List.length_map]
  by_cases c0 : e.f0 ≠ 0
  · rw [if_pos c0, if_pos (show (cv e).f0 ≠ 0 from c0)]; simp
  · rw [if_neg c0, if_neg (show ¬ (cv e).f0 ≠ 0 from c0)]
    by_cases c1 : e.f3 = []
    · rw [if_pos c1, if_pos (show (cv e).f3 = [] from c1)]
    · rw [if_neg c1, if_neg (show ¬ (cv e).f3 = [] from c1)]
      by_cases c2 : 0 < out.length ∧ (last36 out).f0 = 0
      · rw [if_pos c2, if_pos (show 0 < out.length ∧ (cv (last36 out)).f0 = 0 from c2), List.map_set]; rfl
      · rw [if_neg c2, if_neg (show ¬ (0 < out.length ∧ (cv (last36 out)).f0 = 0) from c2)]; simp [cv]
theorem merge_cv : ∀ (l : List S36) (out : List S36), (l.foldl mrgF out).map cv = (l.map cv).foldl wntF (out.map cv)
  | [], out => rfl
  | e :: l, out => by rw [List.foldl_cons, merge_cv l, mrgF_cv]; rfl
/-- A list as Merge leaves it: data are not empty, hold nothing else, and no two follow one another. -/
def Nf : List S36 → Prop
  | [] => True
  | e :: l => (e.f0 = 0 → e.f3 ≠ [] ∧ e.f1 = 0 ∧ e.f2 = 0 ∧ e.f4 = false ∧ e.f5 = false ∧ ∀ x, l.head? = some x → x.f0 ≠ 0) ∧ Nf l
theorem Nf_snoc : ∀ {l : List S36} {e : S36}, Nf l → (e.f0 = 0 → e.f3 ≠ [] ∧ e.f1 = 0 ∧ e.f2 = 0 ∧ e.f4 = false ∧ e.f5 = false) → (∀ x, l.getLast? = some x → x.f0 = 0 → e.f0 ≠ 0) → Nf (l ++ [e])
  | [], e, _, he, _ => ⟨fun h => ⟨(he h).1, (he h).2.1, (he h).2.2.1, (he h).2.2.2.1, (he h).2.2.2.2, fun x hx => by simp at hx⟩, trivial⟩
  | [a], e, h, he, hl => by
    refine ⟨fun h0 => ?_, Nf_snoc (l := []) trivial he (fun x hx => by simp at hx)⟩
    obtain ⟨h1, h2, h3, h4, h5, _⟩ := h.1 h0
    exact ⟨h1, h2, h3, h4, h5, fun x hx => by simp at hx; subst hx; exact hl a rfl h0⟩
  | a :: b :: l, e, h, he, hl => by
    refine ⟨fun h0 => ?_, Nf_snoc (l := b :: l) h.2 he (fun x hx => hl x (by simpa using hx))⟩
    obtain ⟨h1, h2, h3, h4, h5, h6⟩ := h.1 h0
    exact ⟨h1, h2, h3, h4, h5, fun x hx => h6 x (by simpa using hx)⟩
theorem last_of (out : List S36) (a : S36) : last36 (out ++ [a]) = a := by
  unfold last36 rd_T36
  rw [Int.toNat_natCast, List.getD_eq_getElem?_getD]
  simp
theorem set_last (out : List S36) (a b : S36) : (out ++ [a]).set ((out ++ [a]).length - 1) b = out ++ [b] := by
  rw [List.length_append, List.length_singleton, Nat.add_sub_cancel, List.set_append_right _ _ (Nat.le_refl _), Nat.sub_self]; rfl
theorem Nf_split : ∀ {l m : List S36}, Nf (l ++ m) → Nf l ∧ Nf m
  | [], m, h => ⟨trivial, h⟩
  | a :: l, m, h => by
    obtain ⟨h1, h2⟩ := Nf_split (l := l) (m := m) h.2
    refine ⟨⟨fun h0 => ?_, h1⟩, h2⟩
    obtain ⟨k1, k2, k3, k4, k5, k6⟩ := h.1 h0
    refine ⟨k1, k2, k3, k4, k5, fun x hx => k6 x ?_⟩
    cases l with
    | nil => simp at hx
    | cons b l => simpa using hx
theorem Nf_mrgF {out : List S36} (h : Nf out) (e : S36) : Nf (mrgF out e) := by
  unfold mrgF
  split
  · rename_i c0
    exact Nf_snoc h (fun h0 => absurd h0 c0) (fun _ _ _ => c0)
  · rename_i c0
    split
    · exact h
    · rename_i c1
      split
      · rename_i c2
        obtain ⟨pre, a, rfl⟩ : ∃ pre a, out = pre ++ [a] := by
          rcases List.eq_nil_or_concat out with h1 | ⟨p, a, h1⟩
          · rw [h1] at c2; simp at c2
          · exact ⟨p, a, by simpa using h1⟩
        rw [set_last, last_of]
        rw [last_of] at c2
        have ha := (Nf_split h).2.1 c2.2
        refine Nf_snoc (Nf_split h).1 (fun _ => ⟨by simp [ha.1], ha.2.1, ha.2.2.1, ha.2.2.2.1, ha.2.2.2.2.1⟩) (fun x hx h0 => ?_)
        intro h00
        obtain ⟨p2, rfl⟩ : ∃ p2, pre = p2 ++ [x] := by
          rcases List.eq_nil_or_concat pre with h1 | ⟨p, y, h1⟩
          · rw [h1] at hx; simp at hx
          · rw [h1] at hx; simp at hx; subst hx; exact ⟨p, by simpa using h1⟩
        rw [List.append_assoc] at h
        have := ((Nf_split h).2.1 h0).2.2.2.2.2 a (by simp)
        exact this c2.2
      · rename_i c2
        refine Nf_snoc h (fun _ => ⟨c1, rfl, rfl, rfl, rfl⟩) (fun x hx h0 => ?_)
        exfalso
        apply c2
        obtain ⟨p2, rfl⟩ : ∃ p2, out = p2 ++ [x] := by
          rcases List.eq_nil_or_concat out with h1 | ⟨p, y, h1⟩
          · rw [h1] at hx; simp at hx
          · rw [h1] at hx; simp at hx; subst hx; exact ⟨p, by simpa using h1⟩
        exact ⟨by simp, by rw [last_of]; exact h0⟩
theorem Nf_fold : ∀ (l : List S36) (out : List S36), Nf out → Nf (l.foldl mrgF out)
  | [], out, h => h
  | e :: l, out, h => Nf_fold l _ (Nf_mrgF h e)
theorem mrg_same : ∀ (l out : List S36), Nf (out ++ l) → l.foldl mrgF out = out ++ l
  | [], out, h => by simp
  | e :: l, out, h => by
    have hm : mrgF out e = out ++ [e] := by
      unfold mrgF
      by_cases c0 : e.f0 ≠ 0
      · rw [if_pos c0]
      · have c0' : e.f0 = 0 := by simpa using c0
        obtain ⟨k1, k2, k3, k4, k5, k6⟩ := (Nf_split h).2.1 c0'
        rw [if_neg c0, if_neg k1, if_neg]
        · cases e; simp at *; simp [*]
        · rintro ⟨h1, h2⟩
          obtain ⟨pre, a, rfl⟩ : ∃ pre a, out = pre ++ [a] := by
            rcases List.eq_nil_or_concat out with h3 | ⟨p, a, h3⟩
            · rw [h3] at h1; simp at h1
            · exact ⟨p, a, by simpa using h3⟩
          rw [last_of] at h2
          rw [List.append_assoc] at h
          exact ((Nf_split h).2.1 h2).2.2.2.2.2 e (by simp) c0'
    rw [List.foldl_cons, hm, mrg_same l (out ++ [e]) (by simpa using h)]
    simp
theorem merge_merge (l : List S36) : mergeL (mergeL l) = mergeL l := by
  exact mrg_same (mergeL l) [] (Nf_fold l [] trivial)
end Go.Proofs.Ytddfgfgjkamccaa.Tn
