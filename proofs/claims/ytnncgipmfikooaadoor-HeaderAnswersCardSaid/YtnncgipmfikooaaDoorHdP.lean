/- Header: the laws' plain functions answer true. -/
import Derived.Test.YtnncgipmfikooaaDoorPHdx6
import Derived.Test.YtnncgipmfikooaaDoorPHdx8
import Derived.Test.YtnncgipmfikooaaDoorPHdx10
import Derived.Laws.BitsLemmas
namespace Go.Proofs.YtnncgipmfikooaaDoor.Plain
open Go.RowKit Go.Proofs.YtnncgipmfikooaaDoor.PHd Go.Proofs.YtnncgipmfikooaaDoorW.PrintWords Go.Proofs.YtnncgipmfikooaaDoorW.PrintLast
set_option linter.unusedSimpArgs false
set_option linter.unusedVariables false

theorem byte_of (x : Int) (h : (Lit.int .u8 x).wf = true) : 0 ≤ x ∧ x ≤ 255 := by
  have := h
  simp [Lit.wf, IntKind.wrap, IntKind.bits, IntKind.signed, IntKind.min, IntKind.max] at this
  omega
theorem word_of (x : Int) (h : (Lit.int .u16 x).wf = true) : 0 ≤ x ∧ x ≤ 65535 := by
  have := h
  simp [Lit.wf, IntKind.wrap, IntKind.bits, IntKind.signed, IntKind.min, IntKind.max] at this
  omega
theorem wrap_in (x : Int) (h0 : -9223372036854775808 ≤ x) (h1 : x ≤ 9223372036854775807) : wrap64 x = x := by unfold wrap64; omega
theorem wrap16 (n : Int) : IntKind.u16.wrap n = n % 65536 := by simp [IntKind.wrap, IntKind.bits, IntKind.signed]
theorem wraps16 (n : Int) (h₀ : 0 ≤ n) (h₁ : n < 2 ^ 16) : IntKind.u16.wrap n = n := by rw [wrap16]; omega
theorem same_is (l : List Int) : vitrineref01_Same.f l l = some true := by simp [vitrineref01_Same.f]
theorem join16 (x y : Int) (hx : 0 ≤ x) (hx1 : x ≤ 255) (hy : 0 ≤ y) (hy1 : y ≤ 255) : Go.bits .or .u16 (IntKind.u16.wrap ((IntKind.u16.wrap x) * 256)) (IntKind.u16.wrap y) = x * 256 + y := by
  rw [wraps16 x hx (by omega), wraps16 y hy (by omega), wraps16 (x * 256) (by omega) (by omega)]
  have h1 : x * 256 % 2 ^ 8 = 0 := by rw [show (2 : Int) ^ 8 = 256 from by decide]; omega
  have h2 : x * 256 < 2 ^ 16 := by rw [show (2 : Int) ^ 16 = 65536 from by decide]; omega
  have h3 : y < 2 ^ 8 := by rw [show (2 : Int) ^ 8 = 256 from by decide]; omega
  have h4 : y < 2 ^ 16 := by rw [show (2 : Int) ^ 16 = 65536 from by decide]; omega
  exact bits_join .u16 16 (Nat.le_refl _) wraps16 8 (x * 256) y (by omega) h1 h2 hy h3 h4
theorem plus16 (x y : Int) (hx : 0 ≤ x) (hx1 : x ≤ 255) (hy : 0 ≤ y) (hy1 : y ≤ 255) : IntKind.u16.wrap ((IntKind.u16.wrap (256 * (IntKind.u16.wrap x))) + (IntKind.u16.wrap y)) = x * 256 + y := by
  rw [wraps16 x hx (by omega), wraps16 y hy (by omega), wraps16 (256 * x) (by omega) (by omega), wraps16 _ (by omega) (by omega)]; omega
theorem awake_is (k : Nat) (hk : 3 ≤ k) : vitrinelaw09_awake.f k = some true := by
  have h : vitrinelaw09_awake.f 3 = some true := by decide +kernel
  exact at_rounds vitrinelaw09_awake.mono hk h
theorem hi_is (s : Int) (h0 : 0 ≤ s) (h1 : s ≤ 65535) : (IntKind.u16.wrap (Int.tdiv s 256)) % 256 = (s / 256) % 256 := by
  rw [Int.tdiv_eq_ediv_of_nonneg h0, wraps16 _ (by omega) (by omega)]
theorem lo_is (s : Int) (h0 : 0 ≤ s) (h1 : s ≤ 65535) : (Int.tmod s 256) % 256 = s % 256 := by
  rw [Int.tmod_eq_emod_of_nonneg h0]; omega

/-! ### Bytes, Parse -/
def okh (t r : Int) : Bool := decide (t ≤ 8) && decide (r ≤ 2) && !(decide (t = 2) && decide (r = 2))
theorem right_is (t q r s : Int) (h0 : 0 ≤ t) (h1 : t ≤ 255) : header_Header_right.f t q r s = some (okh t r) := by
  unfold header_Header_right.f okh
  rw [wrap_in t (by omega) (by omega)]
  by_cases h : t = 2
  · subst h
    rw [if_pos rfl, if_pos (by omega)]
    congr 1
    rw [Bool.eq_iff_iff]; simp; omega
  · rw [if_neg h]
    by_cases c : t < 9
    · rw [if_pos c]; congr 1; rw [Bool.eq_iff_iff]; simp [h]; omega
    · rw [if_neg c]; congr 1; rw [Bool.eq_iff_iff]; simp; omega
def five (t q r s : Int) : List Int := [t, q, r, (s / 256) % 256, s % 256]
theorem bytes_is (t q r s : Int) (h0 : 0 ≤ t) (h1 : t ≤ 255) : header_Header_Bytes.f t q r s = some (if okh t r = true then (five t q r s, 0) else ([], 1)) := by
  unfold header_Header_Bytes.f
  rw [right_is t q r s h0 h1, Option.bind_some]
  cases okh t r <;> rfl
theorem refbytes_is (t q r s : Int) (hs : 0 ≤ s) (hs1 : s ≤ 65535) : vitrineref09_Bytes.f t q r s = some (if okh t r = true then (five t q r s, 0) else ([], 1)) := by
  unfold vitrineref09_Bytes.f okh five
  rw [hi_is s hs hs1, lo_is s hs hs1]
  by_cases c : t > 8
  · rw [if_pos c, if_neg (by simp; omega)]
  · rw [if_neg c]
    by_cases d : r > 2
    · rw [if_pos d, if_neg (by simp; omega)]
    · rw [if_neg d]
      by_cases e : t = 2
      · rw [if_pos e]
        by_cases f : r = 2
        · rw [if_pos f, if_neg (by simp [e, f])]
        · rw [if_neg f, if_pos (by simp [e, f]; omega)]
      · rw [if_neg e, if_pos (by simp [e]; omega)]
theorem copy_is (l : List Int) (hl : l.length ≤ 100000) : vitrineref01_Copy.f l = some l := by
  unfold vitrineref01_Copy.f
  rw [Option.bind_some, if_pos (by simp; omega)]; rfl
theorem clone_is (l : List Int) (hl : l.length ≤ 100000) : bytes_Clone.f l = some l := by
  unfold bytes_Clone.f
  rw [Option.bind_some, if_pos (by simp; omega)]; rfl
theorem cut_is (l : List Int) : vitrineref01_Cut.f l 30 = some (l.take 30) := by
  unfold vitrineref01_Cut.f
  by_cases c : (l.length : Int) > 30
  · rw [if_pos c, if_pos (by omega), if_pos (by omega)]
    rw [show ((30 : Int).toNat) = 30 from rfl, copy_is _ (by rw [List.length_take]; omega)]; rfl
  · rw [if_neg c, copy_is l (by omega), List.take_of_length_le (by omega)]; rfl
theorem rd_mem (l : List Int) (hb : ∀ x ∈ l, 0 ≤ x ∧ x ≤ 255) (i : Nat) (h : i < l.length) : 0 ≤ rd l (i : Int) ∧ rd l (i : Int) ≤ 255 := by
  have : rd l (i : Int) = l[i] := by unfold rd; simp [List.getD_eq_getElem?_getD, h]
  rw [this]; exact hb _ (List.getElem_mem h)
/-- What a beginning reads as. -/
def parsed (l : List Int) : Int × Int × Int × Int × List Int × Int :=
  if l.length < 5 then (0, 0, 0, 0, [], 2) else if okh (rd l 0) (rd l 2) = true then (rd l 0, rd l 1, rd l 2, rd l 3 * 256 + rd l 4, l.drop 5, 0) else (0, 0, 0, 0, [], 1)
theorem parse_is (l : List Int) (hl : l.length ≤ 100000) (hb : ∀ x ∈ l, 0 ≤ x ∧ x ≤ 255) : header_Parse.f l = some (parsed l) := by
  unfold header_Parse.f parsed
  by_cases c : l.length < 5
  · rw [if_pos (by omega), if_pos c]
  · have r0 : 0 ≤ rd l 0 ∧ rd l 0 ≤ 255 := rd_mem l hb 0 (by omega)
    have r3 : 0 ≤ rd l 3 ∧ rd l 3 ≤ 255 := rd_mem l hb 3 (by omega)
    have r4 : 0 ≤ rd l 4 ∧ rd l 4 ≤ 255 := rd_mem l hb 4 (by omega)
    rw [if_neg (by omega), if_pos (by omega), if_pos (by omega), if_pos (by omega), if_pos (by omega), if_pos (by omega), if_neg c, right_is _ _ _ _ r0.1 r0.2, Option.bind_some]
    have hj := join16 (rd l 3) (rd l 4) r3.1 r3.2 r4.1 r4.2
    cases okh (rd l 0) (rd l 2)
    · rfl
    · rw [if_pos rfl, if_pos rfl, if_pos (by omega), clone_is _ (by rw [List.length_drop]; omega), Option.bind_some, hj]
theorem refparse_is (l : List Int) (hl : l.length ≤ 100000) (hb : ∀ x ∈ l, 0 ≤ x ∧ x ≤ 255) : vitrineref09_Parse.f l = some (parsed l) := by
  unfold vitrineref09_Parse.f parsed
  by_cases c : l.length < 5
  · rw [if_pos (by omega), if_pos c]
  · have r3 : 0 ≤ rd l 3 ∧ rd l 3 ≤ 255 := rd_mem l hb 3 (by omega)
    have r4 : 0 ≤ rd l 4 ∧ rd l 4 ≤ 255 := rd_mem l hb 4 (by omega)
    have hj := plus16 (rd l 3) (rd l 4) r3.1 r3.2 r4.1 r4.2
    rw [if_neg (by omega), if_pos (by omega), if_pos (by omega), if_pos (by omega), if_pos (by omega), if_pos (by omega), if_neg c, hj, refbytes_is _ _ _ _ (by omega) (by omega), Option.bind_some]
    cases okh (rd l 0) (rd l 2)
    · rfl
    · simp only [if_true]
      rw [if_pos (by omega), copy_is _ (by rw [List.length_drop]; omega), Option.bind_some]
theorem parsed_five (t q r s : Int) (p : List Int) (h : okh t r = true) (hs : 0 ≤ s) (hs1 : s ≤ 65535) : parsed (five t q r s ++ p) = (t, q, r, s, p, 0) := by
  have e : ∀ i : Nat, rd (five t q r s ++ p) (i : Int) = (five t q r s ++ p).getD i 0 := fun i => rfl
  unfold parsed
  rw [if_neg (by simp [five])]
  have e0 : rd (five t q r s ++ p) 0 = t := rfl
  have e1 : rd (five t q r s ++ p) 1 = q := rfl
  have e2 : rd (five t q r s ++ p) 2 = r := rfl
  have e3 : rd (five t q r s ++ p) 3 = (s / 256) % 256 := rfl
  have e4 : rd (five t q r s ++ p) 4 = s % 256 := rfl
  have e5 : (five t q r s ++ p).drop 5 = p := rfl
  rw [e0, e1, e2, e3, e4, e5, if_pos h, show (s / 256) % 256 * 256 + s % 256 = s by omega]

/-! ### Flip only writes its own copy -/
theorem flip_l0 (n : Nat) (d : Nat) : ∀ (k j : Nat) (l : List Int), l.length = n → n ≤ 100000 → j + d = n → d < k → ∃ l', vitrineref01_Flip.l0 k l (n : Int) (j : Int) = some l' := by
  induction d with
  | zero =>
    intro k j l hl hn hj hk
    obtain ⟨k, rfl⟩ : ∃ m, k = m + 1 := ⟨k - 1, by omega⟩
    simp only [vitrineref01_Flip.l0]
    rw [if_neg (by omega)]
    exact ⟨_, rfl⟩
  | succ d ih =>
    intro k j l hl hn hj hk
    obtain ⟨k, rfl⟩ : ∃ m, k = m + 1 := ⟨k - 1, by omega⟩
    simp only [vitrineref01_Flip.l0]
    rw [if_pos (by omega), if_pos (by omega), if_pos (by omega), wrap_in _ (by omega) (by omega), show (j : Int) + 1 = ((j + 1 : Nat) : Int) from by omega]
    exact ih k (j + 1) _ (by simp [hl]) hn (by omega) (by omega)
theorem flip_is (l : List Int) (hl : l.length ≤ 100000) (k : Nat) (hk : l.length < k) : ∃ l', vitrineref01_Flip.f k l = some l' := by
  unfold vitrineref01_Flip.f
  exact flip_l0 l.length l.length k 0 l rfl hl (by omega) hk

/-! ### HeaderCodes -/
theorem codes_j1 (l : List Int) (hl : l.length ≤ 40) (hb : ∀ x ∈ l, 0 ≤ x ∧ x ≤ 255) (k : Nat) (hk : 50 ≤ k) : vitrinelaw09_HeaderCodes.j1 k l = some true := by
  obtain ⟨k, rfl⟩ : ∃ m, k = m + 1 := ⟨k - 1, by omega⟩
  simp only [vitrinelaw09_HeaderCodes.j1]
  obtain ⟨l', hf⟩ := flip_is l (by omega) k (by omega)
  rw [copy_is l (by omega), Option.bind_some, parse_is l (by omega) hb, Option.bind_some, refparse_is l (by omega) hb, Option.bind_some, hf, Option.bind_some, same_is]
  simp
theorem codes (t q r s : Int) (l : List Int) (ht : 0 ≤ t ∧ t ≤ 255) (hq : 0 ≤ q ∧ q ≤ 255) (hr : 0 ≤ r ∧ r ≤ 255) (hs : 0 ≤ s ∧ s ≤ 65535) (hb : ∀ x ∈ l, 0 ≤ x ∧ x ≤ 255) (k : Nat) (hk : 100 ≤ k) : vitrinelaw09_HeaderCodes.f k t q r s l = some true := by
  unfold vitrinelaw09_HeaderCodes.f
  rw [awake_is k (by omega), Option.bind_some, if_pos rfl, bytes_is t q r s ht.1 ht.2, Option.bind_some, refbytes_is t q r s hs.1 hs.2, Option.bind_some, same_is, Option.bind_some, if_pos rfl]
  obtain ⟨k, rfl⟩ : ∃ m, k = m + 1 := ⟨k - 1, by omega⟩
  simp only [vitrinelaw09_HeaderCodes.j0]
  have hb' : ∀ x ∈ l.take 30, 0 ≤ x ∧ x ≤ 255 := fun x hx => hb x (List.mem_of_mem_take hx)
  have hl' : (l.take 30).length ≤ 30 := by rw [List.length_take]; omega
  rw [if_neg (by simp), cut_is l, Option.bind_some]
  generalize l.take 30 = p at *
  have h1 := codes_j1 p (by omega) hb' k (by omega)
  cases hok : okh t r
  · simp [h1]
  · simp only [if_true]
    have hall : ∀ x ∈ five t q r s ++ p, 0 ≤ x ∧ x ≤ 255 := by
      intro x hx
      rcases List.mem_append.1 hx with hx | hx
      · simp only [five, List.mem_cons, List.not_mem_nil, or_false] at hx
        rcases hx with rfl | rfl | rfl | rfl | rfl <;> omega
      · exact hb' x hx
    have hlen : (five t q r s ++ p).length ≤ 40 := by rw [List.length_append]; simp [five]; omega
    rw [if_pos (by rw [List.length_append] at hlen; omega), parse_is _ (by omega) hall, parsed_five t q r s p hok hs.1 hs.2, Option.bind_some, same_is]
    simp [h1]

/-! ### answers -/
def code (e : Int) : Int := if e = 11 then 0 else if e = 6 ∨ e = 8 then 1 else if e = 3 ∨ e = 7 then 3 else 2
theorem code_is (e : Int) (k : Nat) (hk : 1 ≤ k) : header_Code.f k e = some (code e) := by
  obtain ⟨k, rfl⟩ : ∃ m, k = m + 1 := ⟨k - 1, by omega⟩
  unfold header_Code.f code
  simp only [header_Code.j0]
  by_cases a : e = 11
  · simp [a]
  · by_cases b : e = 6
    · simp [b]
    · by_cases c : e = 8
      · simp [c]
      · by_cases d : e = 3
        · simp [d]
        · by_cases f : e = 7
          · simp [f]
          · simp [a, b, c, d, f]
theorem refcode_is (e : Int) (k : Nat) (hk : 1 ≤ k) : vitrineref09_Code.f k e = some (code e) := by
  obtain ⟨k, rfl⟩ : ∃ m, k = m + 1 := ⟨k - 1, by omega⟩
  unfold vitrineref09_Code.f code
  simp only [vitrineref09_Code.j0]
  by_cases a : e = 11
  · simp [a]
  · by_cases b : e = 6
    · simp [b]
    · by_cases c : e = 8
      · simp [c]
      · by_cases d : e = 3
        · simp [d]
        · by_cases f : e = 7
          · simp [f]
          · simp [a, b, c, d, f]
theorem code_range (e : Int) : 0 ≤ code e ∧ code e ≤ 3 := by
  unfold code
  by_cases a : e = 11
  · rw [if_pos a]; omega
  · rw [if_neg a]
    by_cases b : e = 6 ∨ e = 8
    · rw [if_pos b]; omega
    · rw [if_neg b]
      by_cases c : e = 3 ∨ e = 7
      · rw [if_pos c]; omega
      · rw [if_neg c]; omega
def resp (s b c : Int) : List Int := [2, 0, b, (s / 256) % 256, s % 256, c]
theorem resp_is (s : Int) (g : Bool) (c : Int) (hs : 0 ≤ s) (hs1 : s ≤ 65535) : vitrineref09_Response.f s g c = some (resp s (if g = true then 0 else 1) (if g = true then 0 else c)) := by
  unfold vitrineref09_Response.f
  rw [refbytes_is 2 0 0 s hs hs1, show okh 2 0 = true from rfl, if_pos rfl, Option.bind_some]
  cases g
  · rw [if_neg (by simp)]; rfl
  · rw [if_pos rfl]; rfl
def ans (t r s e : Int) : List Int := if t = 2 ∨ t = 6 ∨ ¬ (r = 1 ∨ r = 2) then [] else if e = 0 then (if r = 2 then resp s 0 0 else []) else resp s 1 (code e)
theorem ans_is (t q r s e : Int) (hr : 0 ≤ r) (k : Nat) (hk : 2 ≤ k) : header_Answer.f k t q r s e = some (ans t r s e, decide (ans t r s e ≠ [])) := by
  obtain ⟨k, rfl⟩ : ∃ m, k = m + 1 := ⟨k - 1, by omega⟩
  unfold header_Answer.f ans
  simp only [header_Answer.j0]
  by_cases a : t = 2
  · simp [a]
  · by_cases b : t = 6
    · simp [b]
    · by_cases c : r = 0
      · simp [a, b, c]
      · rw [if_neg a, if_neg b, if_neg c]
        by_cases d : r > 2
        · rw [if_pos (by simpa using d), if_pos (show t = 2 ∨ t = 6 ∨ ¬ (r = 1 ∨ r = 2) by omega)]; simp
        · rw [if_neg (by simpa using d), if_neg (show ¬ (t = 2 ∨ t = 6 ∨ ¬ (r = 1 ∨ r = 2)) by omega)]
          by_cases f : e = 0
          · rw [if_pos f, if_pos f]
            by_cases g : r = 2
            · rw [if_pos g, if_pos g]; simp [header_Positive.f, header_answer.f, resp]
            · rw [if_neg g, if_neg g]; simp
          · rw [if_neg f, if_neg f, code_is e k (by omega)]; simp [header_answer.f, resp]
theorem refans_is (t q r s e : Int) (hs : 0 ≤ s) (hs1 : s ≤ 65535) (k : Nat) (hk : 6 ≤ k) : vitrineref09_Answer.f k t q r s e = some (ans t r s e) := by
  obtain ⟨k, rfl⟩ : ∃ m, k = m + 3 := ⟨k - 3, by omega⟩
  unfold vitrineref09_Answer.f ans
  by_cases a : t = 2
  · simp [a, vitrineref09_Answer.j0]
  · by_cases b : t = 6
    · simp [b, vitrineref09_Answer.j0]
    · rw [if_neg a]
      simp only [vitrineref09_Answer.j0]
      rw [if_neg (by simpa using b)]
      by_cases g : r = 2
      · rw [if_pos g]
        simp only [vitrineref09_Answer.j1, vitrineref09_Answer.j2]
        by_cases f : e = 0
        · rw [if_pos (by simpa using f), resp_is s true 0 hs hs1]; simp [a, b, g, f]
        · rw [if_neg (by simpa using f), if_neg (by omega), if_pos g, if_pos (by simpa using f), refcode_is e k (by omega), Option.bind_some, resp_is s false _ hs hs1]; simp [a, b, g, f]
      · rw [if_neg g]
        simp only [vitrineref09_Answer.j1, vitrineref09_Answer.j2]
        rw [if_neg (by simp)]
        by_cases h : r = 1
        · rw [if_pos h]
          by_cases f : e = 0
          · rw [if_neg (by simpa using f)]; simp [a, b, g, f]
          · rw [if_pos (by simpa using f), refcode_is e k (by omega), Option.bind_some, resp_is s false _ hs hs1]; simp [a, b, g, h, f]
        · rw [if_neg h, if_neg g, if_neg (by simp)]; simp [a, b, g, h]
theorem parsed_resp (s b c : Int) (hb : b = 0 ∨ b = 1) (hs : 0 ≤ s) (hs1 : s ≤ 65535) : parsed (resp s b c) = (2, 0, b, s, [c], 0) :=
  parsed_five 2 0 b s [c] (by rcases hb with rfl | rfl <;> rfl) hs hs1
theorem answers (t q r s e : Int) (hr : 0 ≤ r) (hs : 0 ≤ s) (hs1 : s ≤ 65535) (k : Nat) (hk : 100 ≤ k) : vitrinelaw09_HeaderAnswers.f k t q r s e = some true := by
  unfold vitrinelaw09_HeaderAnswers.f
  rw [awake_is k (by omega), Option.bind_some, if_pos rfl, ans_is t q r s e hr k (by omega), Option.bind_some, refans_is t q r s e hs hs1 k (by omega), Option.bind_some, same_is, Option.bind_some, if_pos rfl,
    code_is e k (by omega), Option.bind_some, refcode_is e k (by omega), Option.bind_some]
  have hn : ((decide (ans t r s e ≠ [])) != decide (((ans t r s e).length : Int) > 0)) = false := by
    cases ans t r s e with
    | nil => simp
    | cons x l => simp
  rw [if_neg (by simp only [hn]; simp)]
  obtain ⟨k, rfl⟩ : ∃ m, k = m + 1 := ⟨k - 1, by omega⟩
  simp only [vitrinelaw09_HeaderAnswers.j0]
  rw [if_neg (by simp)]
  have hres : ∀ b c : Int, (b = 0 ∨ b = 1) → (0 ≤ c ∧ c ≤ 3) → ((b == 0) == (e == 0)) = true → ((header_Parse.f (resp s b c)).bind fun bt191 => (if bt191.2.2.2.2.2 = 0 then (if bt191.1 = 2 then (if bt191.2.2.2.1 = s then (if (bt191.2.2.2.2.1.length : Int) = 1 then (some ((bt191.2.2.1 == 0) == (e == 0))) else (none)) else (none)) else (none)) else (none))) = some true := by
    intro b c hb hc he
    have hall : ∀ x ∈ resp s b c, 0 ≤ x ∧ x ≤ 255 := by
      intro x hx
      simp only [resp, List.mem_cons, List.not_mem_nil, or_false] at hx
      rcases hx with rfl | rfl | rfl | rfl | rfl | rfl <;> omega
    rw [parse_is _ (by simp [resp]) hall, parsed_resp s b c hb hs hs1, Option.bind_some]
    simp [he]
  unfold ans
  by_cases a : t = 2 ∨ t = 6 ∨ ¬ (r = 1 ∨ r = 2)
  · rw [if_pos a]; simp
  · rw [if_neg a]
    by_cases f : e = 0
    · rw [if_pos f]
      by_cases g : r = 2
      · rw [if_pos g, if_pos (by simp [resp])]
        exact hres 0 0 (.inl rfl) (by omega) (by simp [f])
      · rw [if_neg g]; simp
    · rw [if_neg f, if_pos (by simp [resp])]
      exact hres 1 (code e) (.inr rfl) (code_range e) (by simp [f])

/-! ### responses -/
theorem names_all : ∀ n : Fin 256, (header_Name.f (n.val : Int)).isSome = true ∧ (header_Name.f (n.val : Int)).map (·.toList) = (vitrineref09_Name.f (n.val : Int)).map (·.toList) := by decide +kernel
theorem names_are (t : Int) (h0 : 0 ≤ t) (h1 : t ≤ 255) : ∃ x y, header_Name.f t = some x ∧ vitrineref09_Name.f t = some y ∧ x.toList = y.toList := by
  obtain ⟨n, rfl⟩ := Int.eq_ofNat_of_zero_le h0
  obtain ⟨ha, hb⟩ := names_all ⟨n, by omega⟩
  simp only at ha hb
  cases hx : header_Name.f (n : Int) with
  | none => rw [hx] at ha; cases ha
  | some x =>
    cases hy : vitrineref09_Name.f (n : Int) with
    | none => rw [hx, hy] at hb; cases hb
    | some y => rw [hx, hy] at hb; exact ⟨x, y, rfl, rfl, Option.some.inj hb⟩
theorem responses_j1 (s t y : Int) (hs : 0 ≤ s) (hs1 : s ≤ 65535) (h0 : 0 ≤ t) (h1 : t ≤ 255) (hy : y = if s < 32767 then s + 1 else 0) (k : Nat) (hk : 1 ≤ k) : vitrinelaw09_HeaderResponses.j1 k s t y = some true := by
  obtain ⟨k, rfl⟩ : ∃ m, k = m + 1 := ⟨k - 1, by omega⟩
  obtain ⟨x, z, hx, hz, hxz⟩ := names_are t h0 h1
  simp only [vitrinelaw09_HeaderResponses.j1]
  rw [show header_Positive.f s = some (resp s 0 0) from rfl, Option.bind_some, resp_is s true 0 hs hs1, Option.bind_some, if_pos rfl, if_pos rfl, same_is, Option.bind_some, if_pos rfl, hx, Option.bind_some, hz, Option.bind_some, if_pos hxz]
  unfold header_Next.f
  rw [hy]
  by_cases c : s ≥ 32767
  · rw [if_pos c, if_neg (by omega)]; rfl
  · rw [if_neg c, if_pos (by omega), Option.bind_some, wraps16 _ (by omega) (by omega)]; simp
theorem responses_j0 (s t : Int) (hs : 0 ≤ s) (hs1 : s ≤ 65535) (h0 : 0 ≤ t) (h1 : t ≤ 255) (k : Nat) (hk : 2 ≤ k) : vitrinelaw09_HeaderResponses.j0 k s t false = some true := by
  obtain ⟨k, rfl⟩ : ∃ m, k = m + 1 := ⟨k - 1, by omega⟩
  simp only [vitrinelaw09_HeaderResponses.j0]
  rw [if_neg (by simp)]
  by_cases c : s < 32767
  · rw [if_pos c, wraps16 _ (by omega) (by omega)]; exact responses_j1 s t _ hs hs1 h0 h1 (by rw [if_pos c]) k (by omega)
  · rw [if_neg c]; exact responses_j1 s t _ hs hs1 h0 h1 (by rw [if_neg c]) k (by omega)
theorem responses (s c t : Int) (hs : 0 ≤ s) (hs1 : s ≤ 65535) (h0 : 0 ≤ t) (h1 : t ≤ 255) (k : Nat) (hk : 10 ≤ k) : vitrinelaw09_HeaderResponses.f k s c t = some true := by
  unfold vitrinelaw09_HeaderResponses.f header_Negative.f
  rw [awake_is k (by omega), Option.bind_some, if_pos rfl]
  by_cases d : c > 3
  · rw [if_pos d, Option.bind_some, if_neg (by omega), if_pos d, if_pos rfl]
    exact responses_j0 s t hs hs1 h0 h1 k (by omega)
  · rw [if_neg d, show header_answer.f s 1 c = some (resp s 1 c) from rfl, Option.bind_some, Option.bind_some, if_pos (by omega), if_pos rfl, resp_is s false c hs hs1, Option.bind_some]
    simp only [Bool.false_eq_true, if_false]
    rw [same_is, Option.bind_some, if_pos rfl, if_neg d]
    exact responses_j0 s t hs hs1 h0 h1 k (by omega)

/-! ### the walks -/
theorem walkAnswers (t q r s e : Int) (W : World) (ht : (Lit.int .u8 t).wf = true) (hq : (Lit.int .u8 q).wf = true) (hr : (Lit.int .u8 r).wf = true) (hs : (Lit.int .u16 s).wf = true) (he : (Lit.int .i64 e).wf = true) (hGL : GL W) :
    Calls Tryd.prog 3 #[.agg #[.int .u8 t, .int .u8 q, .int .u8 r, .int .u16 s], .int .i64 e] W fun e' W' => e' = .returned (.bool true) ∧ Below W.heap.size W W' :=
  vitrinelaw09_HeaderAnswers.calls 1000 t q r s e true W hGL (answers t q r s e (byte_of r hr).1 (word_of s hs).1 (word_of s hs).2 1000 (by decide))
theorem walkCodes (t q r s : Int) (A : Option Addr) (c : Nat) (l : List Int) (W : World) (ht : (Lit.int .u8 t).wf = true) (hq : (Lit.int .u8 q).wf = true) (hr : (Lit.int .u8 r).wf = true) (hs : (Lit.int .u16 s).wf = true)
    (hC : Kd.C (Kd.int .u8) W A l.length l) (hc : l.length ≤ c) (ok : l.length ≤ maxLen ∧ ∀ x ∈ l, (Lit.int .u8 x).wf = true) (hGL : GL W) :
    Calls Tryd.prog 4 #[.agg #[.int .u8 t, .int .u8 q, .int .u8 r, .int .u16 s], .slice A l.length c] W fun e' W' => e' = .returned (.bool true) ∧ Below W.heap.size W W' :=
  vitrinelaw09_HeaderCodes.calls 1000 t q r s A c l true W hC hc hGL (codes t q r s l (byte_of t ht) (byte_of q hq) (byte_of r hr) (word_of s hs) (fun x hx => byte_of x (ok.2 x hx)) 1000 (by decide))
theorem walkResponses (s c t : Int) (W : World) (hs : (Lit.int .u16 s).wf = true) (hc : (Lit.int .u8 c).wf = true) (ht : (Lit.int .u8 t).wf = true) (hGL : GL W) :
    Calls Tryd.prog 5 #[.int .u16 s, .int .u8 c, .int .u8 t] W fun e' W' => e' = .returned (.bool true) ∧ Below W.heap.size W W' :=
  vitrinelaw09_HeaderResponses.calls 1000 s c t true W hGL (responses s c t (word_of s hs).1 (word_of s hs).2 (byte_of t ht).1 (byte_of t ht).2 1000 (by decide))
end Go.Proofs.YtnncgipmfikooaaDoor.Plain
