/- What the phases' functions answer: plain lemmas over the printed functions. -/
import Derived.Test.YtcfppmjlljdaiaaPrint2
import Derived.Test.YtcfppmjlljdaiaaPrint3
namespace Go.Proofs.Ytcfppmjlljdaiaa.PhaseL
open Go.RowKit Go.Proofs.Ytcfppmjlljdaiaa.Print Go.Proofs.YtcfppmjlljdaiaaW.PrintWords Go.Proofs.YtcfppmjlljdaiaaW.PrintLast

/-- Where an event leads, and whether it did anything. -/
def nextF (p e : Int) : Int × Bool :=
  if 0 ≤ p ∧ p < 6 ∧ 0 ≤ e ∧ e < 9 then (if Hand.leadF p e = -1 then (p, false) else (Hand.leadF p e, true)) else (p, false)

theorem next_eq (k : Nat) (p e : Int) : phase_Next.f (k + 1) p e = some (nextF p e) := by
  unfold phase_Next.f phase_in.f nextF
  by_cases h0 : 0 ≤ p
  · by_cases h1 : p < 6
    · by_cases h2 : 0 ≤ e
      · by_cases h3 : e < 9
        · have h2' : ¬ e < 0 := by omega
          have h3' : ¬ e ≥ 9 := by omega
          simp only [ge_iff_le, h0, if_true, Option.bind_some, h1, decide_true, h2', if_false, phase_Next.j0, phase_lead.f, h2, h3]
          have hd : decide (9 ≤ e) = false := by simp; omega
          simp only [hd, Bool.false_eq_true, if_false, and_self, if_true]
          split <;> rfl
        · have h2' : ¬ e < 0 := by omega
          simp [h0, h1, h2', phase_Next.j0, show 9 ≤ e by omega, h3]
      · simp [h0, h1, show e < 0 by omega, phase_Next.j0, h2]
    · simp [h0, h1, phase_Next.j0]
  · simp [h0, phase_Next.j0]

theorem refnext_in : ∀ n : Nat, n < 6 → ∀ m : Nat, m < 9 → pacesetterref11_Next.f 1 (n : Int) (m : Int) = some (nextF n m) := by decide +kernel

theorem refnext_eq (k : Nat) (p e : Int) : pacesetterref11_Next.f (k + 1) p e = some (nextF p e) := by
  have key : pacesetterref11_Next.f 1 p e = some (nextF p e) := by
    by_cases h : 0 ≤ p ∧ p < 6 ∧ 0 ≤ e ∧ e < 9
    · obtain ⟨h0, h1, h2, h3⟩ := h
      obtain ⟨n, rfl⟩ := Int.eq_ofNat_of_zero_le h0
      obtain ⟨m, rfl⟩ := Int.eq_ofNat_of_zero_le h2
      exact refnext_in n (by omega) m (by omega)
    · have hn : nextF p e = (p, false) := by unfold nextF; rw [if_neg h]
      rw [hn]
      unfold pacesetterref11_Next.f
      simp only [pacesetterref11_Next.j0]
      have hp : ¬ (0 ≤ e ∧ e < 9) ∨ (p ≠ 0 ∧ p ≠ 1 ∧ p ≠ 2 ∧ p ≠ 3 ∧ p ≠ 4 ∧ p ≠ 5) := by omega
      rcases hp with hp | ⟨a0, a1, a2, a3, a4, a5⟩
      · have b0 : e ≠ 0 := by omega
        have b1 : e ≠ 1 := by omega
        have b2 : e ≠ 2 := by omega
        have b3 : e ≠ 3 := by omega
        have b4 : e ≠ 4 := by omega
        have b5 : e ≠ 5 := by omega
        have b6 : e ≠ 6 := by omega
        have b7 : e ≠ 7 := by omega
        have b8 : e ≠ 8 := by omega
        simp [b0, b1, b2, b3, b4, b5, b6, b7, b8]
      · simp [a0, a1, a2, a3, a4, a5]
  induction k with
  | zero => exact key
  | succ k ih => exact pacesetterref11_Next.mono p e (k + 1) _ ih

theorem lives_20 : pacesetterlaw11_lives.f 20 = some true := by decide +kernel
theorem lives_ge (k : Nat) (h : 20 ≤ k) : pacesetterlaw11_lives.f k = some true := at_rounds pacesetterlaw11_lives.mono h lives_20
theorem nextF_out {p e : Int} (h : ¬ (0 ≤ p ∧ p < 6 ∧ 0 ≤ e ∧ e < 9)) : nextF p e = (p, false) := by
  unfold nextF
  rw [if_neg h]
end Go.Proofs.Ytcfppmjlljdaiaa.PhaseL
