/- All events from one phase to another: the program's list and the document's. -/
import Derived.Test.YtcfppmjlljdaiaaPrint9
import Derived.Test.YtcfppmjlljdaiaaPhaseL
namespace Go.Proofs.Ytcfppmjlljdaiaa.PhaseN
open Go.RowKit Go.Proofs.Ytcfppmjlljdaiaa.Print Go.Proofs.YtcfppmjlljdaiaaW.PrintWords Go.Proofs.YtcfppmjlljdaiaaW.PrintLast PhaseL

def spec (p tq : Int) : Nat → Int → List Int
  | 0, _ => []
  | d + 1, i => (if (nextF p i).2 = true ∧ (nextF p i).1 = tq then [i] else []) ++ spec p tq d (i + 1)

theorem wrap_nine {i : Int} (h0 : 0 ≤ i) (h1 : i ≤ 100) : wrap64 (i + 1) = i + 1 := by
  unfold wrap64
  omega

theorem btw (p tq : Int) (d : Nat) : ∀ (k : Nat) (i : Int) (acc : List Int), 0 ≤ i → i + d = 9 → acc.length + d ≤ 100 → d + 1 < k →
    phase_Between.l0 k p tq acc i = some (acc ++ spec p tq d i) := by
  induction d with
  | zero =>
    intro k i acc h0 h1 h2 hk
    obtain ⟨k, rfl⟩ : ∃ m, k = m + 1 := ⟨k - 1, by omega⟩
    simp only [phase_Between.l0, spec]
    rw [if_neg (by omega), List.append_nil]
  | succ d ih =>
    intro k i acc h0 h1 h2 hk
    obtain ⟨k, rfl⟩ : ∃ m, k = m + 2 := ⟨k - 2, by omega⟩
    rw [phase_Between.l0, if_pos (by omega), next_eq k p i]
    simp only [Option.bind_some, spec]
    rw [wrap_nine h0 (by omega)]
    by_cases c1 : (nextF p i).2 = true
    · by_cases c2 : (nextF p i).1 = tq
      · rw [if_pos c1, if_pos c2, if_pos (by omega), if_pos ⟨c1, c2⟩, ih (k + 1) (i + 1) (acc ++ [i]) (by omega) (by omega) (by simp; omega) (by omega)]
        simp
      · rw [if_pos c1, if_neg c2, if_neg (by simp [c2]), ih (k + 1) (i + 1) acc (by omega) (by omega) (by omega) (by omega)]
        simp
    · rw [if_neg c1, if_neg (by simp [c1]), ih (k + 1) (i + 1) acc (by omega) (by omega) (by omega) (by omega)]
      simp

theorem refbtw (p tq : Int) (d : Nat) : ∀ (k : Nat) (i : Int) (acc : List Int), 0 ≤ i → i + d = 9 → acc.length + d ≤ 100 → d + 1 < k →
    pacesetterref11_Between.l0 k p tq acc i = some (acc ++ spec p tq d i) := by
  induction d with
  | zero =>
    intro k i acc h0 h1 h2 hk
    obtain ⟨k, rfl⟩ : ∃ m, k = m + 1 := ⟨k - 1, by omega⟩
    simp only [pacesetterref11_Between.l0, spec]
    rw [if_neg (by omega), List.append_nil]
  | succ d ih =>
    intro k i acc h0 h1 h2 hk
    obtain ⟨k, rfl⟩ : ∃ m, k = m + 2 := ⟨k - 2, by omega⟩
    rw [pacesetterref11_Between.l0, if_pos (by omega), refnext_eq k p i]
    simp only [Option.bind_some, spec]
    rw [wrap_nine h0 (by omega)]
    by_cases c1 : (nextF p i).2 = true
    · by_cases c2 : (nextF p i).1 = tq
      · rw [if_pos c1, if_pos c2, if_pos (by omega), if_pos ⟨c1, c2⟩, ih (k + 1) (i + 1) (acc ++ [i]) (by omega) (by omega) (by simp; omega) (by omega)]
        simp
      · rw [if_pos c1, if_neg c2, if_neg (by simp [c2]), ih (k + 1) (i + 1) acc (by omega) (by omega) (by omega) (by omega)]
        simp
    · rw [if_neg c1, if_neg (by simp [c1]), ih (k + 1) (i + 1) acc (by omega) (by omega) (by omega) (by omega)]
      simp

theorem spec_len (p tq : Int) (d : Nat) : ∀ i, (spec p tq d i).length ≤ d := by
  induction d with
  | zero => intro i; simp [spec]
  | succ d ih =>
    intro i
    have := ih (i + 1)
    simp only [spec, List.length_append]
    split <;> simp <;> omega

theorem same (l : List Int) (hl : l.length ≤ 50) (d : Nat) : ∀ (k : Nat) (i : Int), 0 ≤ i → i + d = l.length → d < k → pacesetterref01_Same.l0 k l l i = some true := by
  induction d with
  | zero =>
    intro k i h0 h1 hk
    obtain ⟨k, rfl⟩ : ∃ m, k = m + 1 := ⟨k - 1, by omega⟩
    rw [pacesetterref01_Same.l0, if_neg (by omega)]
  | succ d ih =>
    intro k i h0 h1 hk
    obtain ⟨k, rfl⟩ : ∃ m, k = m + 1 := ⟨k - 1, by omega⟩
    rw [pacesetterref01_Same.l0, if_pos (by omega), if_pos h0, if_pos (by omega), if_pos rfl, wrap_nine h0 (by omega)]
    exact ih k (i + 1) (by omega) (by omega) (by omega)
end Go.Proofs.Ytcfppmjlljdaiaa.PhaseN
