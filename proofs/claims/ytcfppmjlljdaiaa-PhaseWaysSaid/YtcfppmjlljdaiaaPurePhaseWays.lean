/- To RollingBack, Complete, RolledBack and Paused lead just the events that the document names: for every phase and every event, with no condition. -/
import Derived.Test.YtcfppmjlljdaiaaPrint5
import Derived.Test.YtcfppmjlljdaiaaPhaseL
namespace Go.Proofs.Ytcfppmjlljdaiaa.Pure
open Go.RowKit Go.Proofs.Ytcfppmjlljdaiaa.Print Go.Proofs.YtcfppmjlljdaiaaW.PrintWords Go.Proofs.YtcfppmjlljdaiaaW.PrintLast PhaseL

theorem ways_in : ∀ n : Nat, n < 6 → ∀ m : Nat, m < 9 → pacesetterlaw11_PhaseWays.f 20 (n : Int) (m : Int) = some true := by decide +kernel
theorem PhaseWays : pacesetterlaw11_PhaseWays.Pure := by
  intro p e _ _
  refine ⟨20, ?_⟩
  by_cases h : 0 ≤ p ∧ p < 6 ∧ 0 ≤ e ∧ e < 9
  · obtain ⟨h0, h1, h2, h3⟩ := h
    obtain ⟨n, rfl⟩ := Int.eq_ofNat_of_zero_le h0
    obtain ⟨m, rfl⟩ := Int.eq_ofNat_of_zero_le h2
    exact ways_in n (by omega) m (by omega)
  · unfold pacesetterlaw11_PhaseWays.f
    rw [lives_20, next_eq 19, nextF_out h]
    simp
end Go.Proofs.Ytcfppmjlljdaiaa.Pure
