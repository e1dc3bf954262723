/- Where any event leads from any phase, and all events that lead somewhere, are what the document says: for all three numbers, with no condition. -/
import Derived.Test.YtcfppmjlljdaiaaPrint9
import Derived.Test.YtcfppmjlljdaiaaPhaseN
namespace Go.Proofs.Ytcfppmjlljdaiaa.Pure
open Go.RowKit Go.Proofs.Ytcfppmjlljdaiaa.Print Go.Proofs.YtcfppmjlljdaiaaW.PrintWords Go.Proofs.YtcfppmjlljdaiaaW.PrintLast PhaseL PhaseN

theorem PhaseNext : pacesetterlaw11_PhaseNext.Pure := by
  intro p e tq _ _ _
  refine ⟨60, ?_⟩
  unfold pacesetterlaw11_PhaseNext.f
  rw [lives_ge 60 (by omega), next_eq 59, refnext_eq 59]
  simp only [Option.bind_some, if_true, beq_self_eq_true]
  unfold phase_Between.f pacesetterref11_Between.f
  rw [btw p tq 9 60 0 [] (by omega) (by omega) (by simp) (by omega), refbtw p tq 9 60 0 [] (by omega) (by omega) (by simp) (by omega)]
  simp only [Option.bind_some, List.nil_append]
  unfold pacesetterref01_Same.f
  have hl := spec_len p tq 9 0
  rw [if_pos rfl, same _ (by omega) (spec p tq 9 0).length 60 0 (by omega) (by omega) (by omega)]
  rfl
end Go.Proofs.Ytcfppmjlljdaiaa.Pure
