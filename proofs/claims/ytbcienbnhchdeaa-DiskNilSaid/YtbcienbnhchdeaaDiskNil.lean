/- A disk that isn't there: the law's contract. -/
import Derived.Test.YtbcienbnhchdeaaDiskL
namespace Go.Proofs.Ytbcienbnhchdeaa.Hand
open Go Go.RowKit Go.Proofs.YtbcienbnhchdeaaW.PrintWords Go.Proofs.YtbcienbnhchdeaaW.PrintMore
set_option linter.unusedVariables false
set_option linter.unusedSimpArgs false

set_option maxRecDepth 100000 in
set_option maxHeartbeats 1000000 in
theorem diskNil_any (A : Option Addr) (len c : Nat) (n : Int) (w : World) : Calls Try.prog 14 #[.slice A len c, .int .i64 n] w fun e w' => e = .returned (.bool true) ∧ Below w.heap.size w w' := by
  go_enter Try.func14, Try.ntmps14
  go_wp2_with (first
    | (go_at_call 36; refine (lives5_any _).mono ?_; rintro e w1 ⟨rfl, hb⟩; have HB := Aside0.mk hb; clear hb)
    | (go_at_call 38; refine (write_nil _ _ _).mono ?_; rintro e w2 ⟨rfl, rfl⟩)
    | (go_at_call 39; refine sync_nil.mono ?_; rintro e w2 ⟨rfl, rfl⟩)
    | (go_at_call 40; refine (crash_nil _).mono ?_; rintro e w2 ⟨rfl, rfl⟩)
    | (go_at_call 57; refine (cut_nil _).mono ?_; rintro e w2 ⟨rfl, rfl⟩)
    | (go_at_call 49; refine (swap_nil _ _ _).mono ?_; rintro e w2 ⟨rfl, rfl⟩)
    | (go_at_call 41; refine all_nil.mono ?_; rintro e w2 ⟨rfl, rfl⟩)
    | (go_at_call 43; refine len_nil.mono ?_; rintro e w2 ⟨rfl, rfl⟩)
    | (go_at_call 42; refine safe_nil.mono ?_; rintro e w2 ⟨rfl, rfl⟩)
    | (go_at_call 59; refine room_nil.mono ?_; rintro e w2 ⟨rfl, rfl⟩))
  go_ret
  exact ⟨rfl, HB.out⟩
end Go.Proofs.Ytbcienbnhchdeaa.Hand
