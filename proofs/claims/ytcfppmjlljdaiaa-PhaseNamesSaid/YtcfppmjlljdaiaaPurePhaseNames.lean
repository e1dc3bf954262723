/- Names and words of any numbers, and the event of any word, are what the document says: for every number and every text, with no condition. -/
import Derived.Test.YtcfppmjlljdaiaaPrint11
import Derived.Test.YtcfppmjlljdaiaaPhaseL
namespace Go.Proofs.Ytcfppmjlljdaiaa.Pure
open Go.RowKit Go.Proofs.Ytcfppmjlljdaiaa.Print Go.Proofs.YtcfppmjlljdaiaaW.PrintWords Go.Proofs.YtcfppmjlljdaiaaW.PrintLast Go.Proofs.YtcfppmjlljdaiaaW.PrintMore PhaseL

def wordsL : List ByteArray := (phase_words.f).getD []
def wd (i : Int) : List UInt8 := (rdOf ByteArray.empty wordsL i).toList
/-- The first word, from number i on, that s is; -1: none. -/
def fnd (s : List UInt8) : Nat → Int → Int
  | 0, _ => -1
  | d + 1, i => if s = wd i then i else fnd s d (i + 1)
theorem fnd_some (s : List UInt8) (d : Nat) : ∀ i, 0 ≤ i → fnd s d i = -1 ∨ 0 ≤ fnd s d i := by
  induction d with
  | zero => intro i _; exact .inl rfl
  | succ d ih =>
    intro i h
    simp only [fnd]
    split
    · exact .inr h
    · exact ih (i + 1) (by omega)
theorem wrap_k {i : Int} (h0 : 0 ≤ i) (h1 : i ≤ 1000) : wrap64 (i + 1) = i + 1 := by
  unfold wrap64
  omega
theorem words_len : wordsL.length = 9 := by decide +kernel
theorem index_eq (s : ByteArray) (d : Nat) : ∀ (k : Nat) (i : Int), 0 ≤ i → i + d = 9 → d < k → slices_Index_string_string.l0 k wordsL s 9 i = some (fnd s.toList d i) := by
  have hl := words_len
  induction d with
  | zero =>
    intro k i h0 h1 hk
    obtain ⟨k, rfl⟩ : ∃ m, k = m + 1 := ⟨k - 1, by omega⟩
    rw [slices_Index_string_string.l0, if_neg (by omega)]
    rfl
  | succ d ih =>
    intro k i h0 h1 hk
    obtain ⟨k, rfl⟩ : ∃ m, k = m + 1 := ⟨k - 1, by omega⟩
    rw [slices_Index_string_string.l0, if_pos (by omega), if_pos h0, if_pos (by omega)]
    simp only [fnd]
    by_cases c : s.toList = wd i
    · have c' : s.toList = (rdOf ByteArray.empty wordsL i).toList := c
      rw [if_pos c', if_pos c]
    · have c' : ¬ s.toList = (rdOf ByteArray.empty wordsL i).toList := c
      rw [if_neg c', if_neg c, wrap_k h0 (by omega)]
      exact ih k (i + 1) (by omega) (by omega) (by omega)
theorem of_eq (s : ByteArray) (k : Nat) (hk : 10 ≤ k) : phase_Of.f k s = some (mx (fnd s.toList 9 0) 0, decide (fnd s.toList 9 0 ≥ 0)) := by
  unfold phase_Of.f
  have hw : phase_words.f = some wordsL := rfl
  rw [hw]
  simp only [Option.bind_some]
  unfold slices_Index_string_string.f
  have hl : ((wordsL.length : Nat) : Int) = 9 := by rw [words_len]; rfl
  rw [hl, index_eq s 9 k 0 (by omega) (by omega) (by omega)]
  rfl
theorem refword_in (i : Int) (h0 : 0 ≤ i) (h1 : i < 9) : pacesetterref11_Word.f i = some (rdOf ByteArray.empty wordsL i) := by
  have hw : phase_words.f = some wordsL := rfl
  unfold pacesetterref11_Word.f
  rw [if_neg (by omega), if_neg (by omega)]
  have hw2 := hw
  unfold phase_words.f at hw2
  rw [hw2]
  simp only [Option.bind_some]
  have hl := words_len
  rw [if_pos h0, if_pos (by omega)]
theorem refof_l (s : ByteArray) (d : Nat) : ∀ (k : Nat) (i : Int), 0 ≤ i → i + d = 9 → d < k → pacesetterref11_Of.l0 k s i = some (if fnd s.toList d i = -1 then (0, false) else (fnd s.toList d i, true)) := by
  induction d with
  | zero =>
    intro k i h0 h1 hk
    obtain ⟨k, rfl⟩ : ∃ m, k = m + 1 := ⟨k - 1, by omega⟩
    rw [pacesetterref11_Of.l0, if_neg (by omega)]
    rfl
  | succ d ih =>
    intro k i h0 h1 hk
    obtain ⟨k, rfl⟩ : ∃ m, k = m + 1 := ⟨k - 1, by omega⟩
    rw [pacesetterref11_Of.l0, if_pos (by omega), refword_in i h0 (by omega)]
    simp only [Option.bind_some]
    by_cases c : s.toList = wd i
    · have c' : (rdOf ByteArray.empty wordsL i).toList = s.toList := c.symm
      have e : fnd s.toList (d + 1) i = i := by simp only [fnd]; rw [if_pos c]
      rw [if_pos c', e, if_neg (by omega)]
    · have c' : ¬ (rdOf ByteArray.empty wordsL i).toList = s.toList := fun e => c e.symm
      have e : fnd s.toList (d + 1) i = fnd s.toList d (i + 1) := by simp only [fnd]; rw [if_neg c]
      rw [if_neg c', e, wrap_k h0 (by omega)]
      exact ih k (i + 1) (by omega) (by omega) (by omega)
theorem refof_eq (s : ByteArray) (k : Nat) (hk : 10 ≤ k) : pacesetterref11_Of.f k s = some (mx (fnd s.toList 9 0) 0, decide (fnd s.toList 9 0 ≥ 0)) := by
  unfold pacesetterref11_Of.f
  rw [refof_l s 9 k 0 (by omega) (by omega) (by omega)]
  rcases fnd_some s.toList 9 0 (by omega) with h | h
  · rw [if_pos h, h]
    rfl
  · rw [if_neg (by omega)]
    unfold mx
    rw [if_neg (by omega)]
    simp [h]

/-- What the law asks of a number alone. -/
def tail (a0 : Int) : Option Bool :=
  (phase_Word.f a0).bind fun t196 => (phase_Of.f 40 t196).bind fun bt197 => (phase_Name.f a0).bind fun t199 => (pacesetterref11_Name.f a0).bind fun t200 =>
    if t199.toList = t200.toList then (phase_Word.f a0).bind fun t201 => (pacesetterref11_Word.f a0).bind fun t202 =>
      if t201.toList = t202.toList then (phase_Word.f a0).bind fun t203 => (if t203.toList = ([] : List UInt8) then (some true) else (if bt197.1 = a0 then (some bt197.2) else (some false))) else some false
    else some false
theorem tail_in : ∀ m : Nat, m < 9 → tail (m : Int) = some true := by decide +kernel
theorem of_empty : phase_Of.f 40 (⟨#[]⟩ : ByteArray) = some (0, false) := by decide +kernel
theorem name_out (a : Int) (h : a < 0 ∨ 6 ≤ a) : phase_Name.f a = some (⟨#[]⟩ : ByteArray) := by
  unfold phase_Name.f Hand.nameF
  rw [if_neg (by omega)]
theorem tail_eq (a : Int) : tail a = some true := by
  by_cases h : 0 ≤ a ∧ a < 9
  · obtain ⟨h0, h1⟩ := h
    obtain ⟨n, rfl⟩ := Int.eq_ofNat_of_zero_le h0
    exact tail_in n (by omega)
  · have hw : phase_Word.f a = some (⟨#[]⟩ : ByteArray) := by
      unfold phase_Word.f
      by_cases c : a < 0
      · rw [if_pos c]
      · rw [if_neg c, if_pos (by omega)]
    have hrw : pacesetterref11_Word.f a = some (⟨#[]⟩ : ByteArray) := by
      unfold pacesetterref11_Word.f
      by_cases c : a < 0
      · rw [if_pos c]
      · rw [if_neg c, if_pos (by omega)]
    have hrn : pacesetterref11_Name.f a = some (⟨#[]⟩ : ByteArray) := by
      unfold pacesetterref11_Name.f
      by_cases c : a < 0
      · rw [if_pos c]
      · rw [if_neg c, if_pos (by omega)]
    unfold tail
    rw [hw, hrw, hrn, name_out a (by omega)]
    have he : (⟨#[]⟩ : ByteArray).toList = [] := by decide +kernel
    simp only [Option.bind_some, of_empty, if_true]
    rw [if_pos he]

theorem PhaseNames : pacesetterlaw11_PhaseNames.Pure := by
  intro a0 a1 _ _
  refine ⟨40, ?_⟩
  unfold pacesetterlaw11_PhaseNames.f
  rw [lives_ge 40 (by omega)]
  simp only [Option.bind_some, if_true]
  have hm : 0 ≤ mn (a1.size : Int) 20 ∧ mn (a1.size : Int) 20 ≤ a1.size := by unfold mn; split <;> omega
  rw [if_pos hm.1, if_pos hm.2]
  generalize a1.extract 0 (mn (a1.size : Int) 20).toNat = s
  rw [of_eq s 40 (by omega), refof_eq s 40 (by omega)]
  simp only [Option.bind_some, if_true, beq_self_eq_true]
  exact tail_eq a0
end Go.Proofs.Ytcfppmjlljdaiaa.Pure
