/- WindowNil, by hand. -/
import Derived.Test.YtdpdjchblajbbaaHandW
namespace Go.Proofs.Ytdpdjchblajbbaa.Hand
open Go Go.RowKit Go.Proofs.YtdpdjchblajbbaaW.PrintLast Go.Proofs.YtdpdjchblajbbaaW.PrintWords Go.Proofs.YtdpdjchblajbbaaW.PrintMore
set_option linter.unusedVariables false
set_option linter.unusedSimpArgs false
attribute [local go_sem] max2_int min2_int max_two min_two
set_option maxRecDepth 100000 in
set_option maxHeartbeats 1000000 in
theorem windowNil_any (now : Int) (good : Bool) (w : World) : Calls Try.prog 7 #[.int .i64 now, .bool good] w fun e w' => e = .returned (.bool true) ∧ Below w.heap.size w w' := by
  have heq := fun W => eql_fl W 29 (a := 0) (b := 0) (by omega) (by omega)
  rw [tl_zero] at heq
  go_enter Try.func7, Try.ntmps7
  go_wp2_with (first
    | (go_at_call 8; refine (lives_any _).mono ?_; rintro e w1 ⟨rfl, hb⟩; have HB := Aside0.mk hb; clear hb)
    | (go_at_call 12; refine (note_nil now good).mono ?_; rintro e w2 ⟨rfl, rfl⟩)
    | (go_at_call 10; refine tally_nil.mono ?_; rintro e w2 ⟨rfl, rfl⟩)
    | (go_at_call 13; refine (verdict_nil now now).mono ?_; rintro e w3 ⟨rfl, n1, hw⟩; have HB1 := Aside0.mk (hw ▸ pw_below_drewN HB.out n1 : Below w.heap.size w w3); clear hw HB)
    | (go_at_call 11; refine (over_nil now).mono ?_; rintro e w4 ⟨rfl, n2, hw⟩; have HB2 := Aside0.mk (hw ▸ pw_below_drewN HB1.out n2 : Below w.heap.size w w4); clear hw HB1)
    | (go_at_call 28; refine since_nil.mono ?_; rintro e w2 ⟨rfl, rfl⟩)
    | (go_at_call 26; refine (left_nil now).mono ?_; rintro e w2 ⟨rfl, rfl⟩)
    | (go_at_call 9; refine (new_any now 1 _).mono ?_; rintro e w5 ⟨rfl, _, hb⟩; have HB3 := Aside0.mk (below_step HB2.out hb); clear hb HB2)
    | (go_at_call 14; refine (merge_nil _).mono ?_; rintro e w6 ⟨rfl, n3, hw⟩; have HB4 := Aside0.mk (hw ▸ pw_below_drewN HB3.out n3 : Below w.heap.size w w6); clear hw HB3))
  go_ret
  exact ⟨rfl, HB4.out⟩
end Go.Proofs.Ytdpdjchblajbbaa.Hand
