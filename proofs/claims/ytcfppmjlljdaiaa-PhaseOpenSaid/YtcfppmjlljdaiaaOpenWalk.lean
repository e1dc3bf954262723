/- The law PhaseOpen, walked: for every phase and every event it returns true and writes nothing that was there. -/
import Derived.Test.YtcfppmjlljdaiaaPrint4
import Derived.Test.YtcfppmjlljdaiaaPrint6
import Derived.Test.YtcfppmjlljdaiaaPhaseL
namespace Go.Proofs.Ytcfppmjlljdaiaa.OpenWalk
open Go.RowKit Go.Proofs.Ytcfppmjlljdaiaa.Print Go.Proofs.YtcfppmjlljdaiaaW.PrintWords Go.Proofs.YtcfppmjlljdaiaaW.PrintLast Go.Proofs.YtcfppmjlljdaiaaW.PrintMore PhaseL
set_option linter.unusedVariables false

set_option maxHeartbeats 1000000 in
set_option maxRecDepth 100000 in
theorem at_0_0  (w : World)  :
    Calls Try.prog 5 #[.int .i64 (0), .int .i64 (0)] w fun x w' => x = .returned (.bool true) ∧ Below w.heap.size w w' := by
  have HB := Aside0.mk (Below.refl w.heap.size w)
  have HO := Aside0.mk (show phase_Over.f (0) = some false from by decide +kernel)
  have HP := Aside0.mk (show phase_Open.f (0) = some false from by decide +kernel)
  have HN := Aside0.mk (show phase_Next.f 20 (0) (0) = some (1, true) from by decide +kernel)
  have HS := Aside0.mk (show Hand.nameF (0) = (⟨#[105, 100, 108, 101]⟩ : ByteArray) from by decide +kernel)
  have HQ := Aside0.mk (show phase_Open.f (1) = some true from by decide +kernel)
  go_enter Try.func5, Try.ntmps5
  go_wp2_with (first | (go_at_call 8; refine (pacesetterlaw11_lives.calls 20 true _ lives_20).mono ?_; rintro x_ w_ ⟨rfl, hb⟩; have n0_ := Aside0.mk (below_step (by repeat (first | (with_reducible first | exact HB.out | apply below_alloc | apply pw_below_drewN | apply below_drew1) | exact HB.out)) hb); clear HB; have HB := n0_; clear n0_; clear hb) | (go_at_call 13; refine (phase_Over.calls (0) false _ HO.out).mono ?_; rintro x_ w_ ⟨rfl, ⟨nd_, rfl⟩⟩) | (go_at_call 11; refine (phase_Next.calls 20 (0) (0) (1) true _ HN.out).mono ?_; rintro x_ w_ ⟨rfl, hb⟩; have n0_ := Aside0.mk (below_step (by repeat (first | (with_reducible first | exact HB.out | apply below_alloc | apply pw_below_drewN | apply below_drew1) | exact HB.out)) hb); clear HB; have HB := n0_; clear n0_; clear hb) | (go_at_call 14; refine (Hand.name_any _ (0)).mono ?_; rw [HS.out]; rintro x_ w_ ⟨rfl, hb⟩; have n0_ := Aside0.mk (below_step (by repeat (first | (with_reducible first | exact HB.out | apply below_alloc | apply pw_below_drewN | apply below_drew1) | exact HB.out)) hb); clear HB; have HB := n0_; clear n0_; clear hb) | (go_at_call 12; first | ((with_reducible refine (phase_Open.calls (0) false _ HP.out).mono ?_); rintro x_ w_ ⟨rfl, ⟨nd_, rfl⟩⟩) | ((with_reducible refine (phase_Open.calls (1) true _ HQ.out).mono ?_); rintro x_ w_ ⟨rfl, ⟨nd_, rfl⟩⟩)))
  all_goals (go_ret; exact ⟨rfl, by repeat (first | (with_reducible first | exact HB.out | apply below_alloc | apply pw_below_drewN | apply below_drew1) | exact HB.out)⟩)

set_option maxHeartbeats 1000000 in
set_option maxRecDepth 100000 in
theorem no_0 (e : Int) (w : World) (hn : phase_Next.f 20 0 e = some (0, false)) (he : e ≠ 0) :
    Calls Try.prog 5 #[.int .i64 (0), .int .i64 (e)] w fun x w' => x = .returned (.bool true) ∧ Below w.heap.size w w' := by
  have HB := Aside0.mk (Below.refl w.heap.size w)
  have h1 : (e == 0) = false := beq_eq_false_iff_ne.2 he
  have h2 : (e != 0) = true := bne_iff_ne.2 he
  have HO := Aside0.mk (show phase_Over.f (0) = some false from by decide +kernel)
  have HP := Aside0.mk (show phase_Open.f (0) = some false from by decide +kernel)
  have HN := Aside0.mk (show phase_Next.f 20 (0) (e) = some (0, false) from hn)
  have HS := Aside0.mk (show Hand.nameF (0) = (⟨#[105, 100, 108, 101]⟩ : ByteArray) from by decide +kernel)
  clear hn he
  go_enter Try.func5, Try.ntmps5
  go_wp2_with (first | (go_at_call 8; refine (pacesetterlaw11_lives.calls 20 true _ lives_20).mono ?_; rintro x_ w_ ⟨rfl, hb⟩; have n0_ := Aside0.mk (below_step (by repeat (first | (with_reducible first | exact HB.out | apply below_alloc | apply pw_below_drewN | apply below_drew1) | exact HB.out)) hb); clear HB; have HB := n0_; clear n0_; clear hb) | (go_at_call 13; refine (phase_Over.calls (0) false _ HO.out).mono ?_; rintro x_ w_ ⟨rfl, ⟨nd_, rfl⟩⟩) | (go_at_call 11; refine (phase_Next.calls 20 (0) (e) (0) false _ HN.out).mono ?_; rintro x_ w_ ⟨rfl, hb⟩; have n0_ := Aside0.mk (below_step (by repeat (first | (with_reducible first | exact HB.out | apply below_alloc | apply pw_below_drewN | apply below_drew1) | exact HB.out)) hb); clear HB; have HB := n0_; clear n0_; clear hb) | (go_at_call 14; refine (Hand.name_any _ (0)).mono ?_; rw [HS.out]; rintro x_ w_ ⟨rfl, hb⟩; have n0_ := Aside0.mk (below_step (by repeat (first | (with_reducible first | exact HB.out | apply below_alloc | apply pw_below_drewN | apply below_drew1) | exact HB.out)) hb); clear HB; have HB := n0_; clear n0_; clear hb) | (go_at_call 12; first | ((with_reducible refine (phase_Open.calls (0) false _ HP.out).mono ?_); rintro x_ w_ ⟨rfl, ⟨nd_, rfl⟩⟩)))
  all_goals (go_ret; exact ⟨rfl, by repeat (first | (with_reducible first | exact HB.out | apply below_alloc | apply pw_below_drewN | apply below_drew1) | exact HB.out)⟩)

set_option maxHeartbeats 1000000 in
set_option maxRecDepth 100000 in
theorem at_1_1  (w : World)  :
    Calls Try.prog 5 #[.int .i64 (1), .int .i64 (1)] w fun x w' => x = .returned (.bool true) ∧ Below w.heap.size w w' := by
  have HB := Aside0.mk (Below.refl w.heap.size w)
  have HO := Aside0.mk (show phase_Over.f (1) = some false from by decide +kernel)
  have HP := Aside0.mk (show phase_Open.f (1) = some true from by decide +kernel)
  have HN := Aside0.mk (show phase_Next.f 20 (1) (1) = some (2, true) from by decide +kernel)
  have HS := Aside0.mk (show Hand.nameF (1) = (⟨#[114, 117, 110, 110, 105, 110, 103]⟩ : ByteArray) from by decide +kernel)
  have HQ := Aside0.mk (show phase_Open.f (2) = some true from by decide +kernel)
  go_enter Try.func5, Try.ntmps5
  go_wp2_with (first | (go_at_call 8; refine (pacesetterlaw11_lives.calls 20 true _ lives_20).mono ?_; rintro x_ w_ ⟨rfl, hb⟩; have n0_ := Aside0.mk (below_step (by repeat (first | (with_reducible first | exact HB.out | apply below_alloc | apply pw_below_drewN | apply below_drew1) | exact HB.out)) hb); clear HB; have HB := n0_; clear n0_; clear hb) | (go_at_call 13; refine (phase_Over.calls (1) false _ HO.out).mono ?_; rintro x_ w_ ⟨rfl, ⟨nd_, rfl⟩⟩) | (go_at_call 11; refine (phase_Next.calls 20 (1) (1) (2) true _ HN.out).mono ?_; rintro x_ w_ ⟨rfl, hb⟩; have n0_ := Aside0.mk (below_step (by repeat (first | (with_reducible first | exact HB.out | apply below_alloc | apply pw_below_drewN | apply below_drew1) | exact HB.out)) hb); clear HB; have HB := n0_; clear n0_; clear hb) | (go_at_call 14; refine (Hand.name_any _ (1)).mono ?_; rw [HS.out]; rintro x_ w_ ⟨rfl, hb⟩; have n0_ := Aside0.mk (below_step (by repeat (first | (with_reducible first | exact HB.out | apply below_alloc | apply pw_below_drewN | apply below_drew1) | exact HB.out)) hb); clear HB; have HB := n0_; clear n0_; clear hb) | (go_at_call 12; first | ((with_reducible refine (phase_Open.calls (1) true _ HP.out).mono ?_); rintro x_ w_ ⟨rfl, ⟨nd_, rfl⟩⟩) | ((with_reducible refine (phase_Open.calls (2) true _ HQ.out).mono ?_); rintro x_ w_ ⟨rfl, ⟨nd_, rfl⟩⟩)))
  all_goals (go_ret; exact ⟨rfl, by repeat (first | (with_reducible first | exact HB.out | apply below_alloc | apply pw_below_drewN | apply below_drew1) | exact HB.out)⟩)

set_option maxHeartbeats 1000000 in
set_option maxRecDepth 100000 in
theorem at_1_3  (w : World)  :
    Calls Try.prog 5 #[.int .i64 (1), .int .i64 (3)] w fun x w' => x = .returned (.bool true) ∧ Below w.heap.size w w' := by
  have HB := Aside0.mk (Below.refl w.heap.size w)
  have HO := Aside0.mk (show phase_Over.f (1) = some false from by decide +kernel)
  have HP := Aside0.mk (show phase_Open.f (1) = some true from by decide +kernel)
  have HN := Aside0.mk (show phase_Next.f 20 (1) (3) = some (1, true) from by decide +kernel)
  have HS := Aside0.mk (show Hand.nameF (1) = (⟨#[114, 117, 110, 110, 105, 110, 103]⟩ : ByteArray) from by decide +kernel)
  have HQ := Aside0.mk (show phase_Open.f (1) = some true from by decide +kernel)
  go_enter Try.func5, Try.ntmps5
  go_wp2_with (first | (go_at_call 8; refine (pacesetterlaw11_lives.calls 20 true _ lives_20).mono ?_; rintro x_ w_ ⟨rfl, hb⟩; have n0_ := Aside0.mk (below_step (by repeat (first | (with_reducible first | exact HB.out | apply below_alloc | apply pw_below_drewN | apply below_drew1) | exact HB.out)) hb); clear HB; have HB := n0_; clear n0_; clear hb) | (go_at_call 13; refine (phase_Over.calls (1) false _ HO.out).mono ?_; rintro x_ w_ ⟨rfl, ⟨nd_, rfl⟩⟩) | (go_at_call 11; refine (phase_Next.calls 20 (1) (3) (1) true _ HN.out).mono ?_; rintro x_ w_ ⟨rfl, hb⟩; have n0_ := Aside0.mk (below_step (by repeat (first | (with_reducible first | exact HB.out | apply below_alloc | apply pw_below_drewN | apply below_drew1) | exact HB.out)) hb); clear HB; have HB := n0_; clear n0_; clear hb) | (go_at_call 14; refine (Hand.name_any _ (1)).mono ?_; rw [HS.out]; rintro x_ w_ ⟨rfl, hb⟩; have n0_ := Aside0.mk (below_step (by repeat (first | (with_reducible first | exact HB.out | apply below_alloc | apply pw_below_drewN | apply below_drew1) | exact HB.out)) hb); clear HB; have HB := n0_; clear n0_; clear hb) | (go_at_call 12; first | ((with_reducible refine (phase_Open.calls (1) true _ HP.out).mono ?_); rintro x_ w_ ⟨rfl, ⟨nd_, rfl⟩⟩) | ((with_reducible refine (phase_Open.calls (1) true _ HQ.out).mono ?_); rintro x_ w_ ⟨rfl, ⟨nd_, rfl⟩⟩)))
  all_goals (go_ret; exact ⟨rfl, by repeat (first | (with_reducible first | exact HB.out | apply below_alloc | apply pw_below_drewN | apply below_drew1) | exact HB.out)⟩)

set_option maxHeartbeats 1000000 in
set_option maxRecDepth 100000 in
theorem at_1_4  (w : World)  :
    Calls Try.prog 5 #[.int .i64 (1), .int .i64 (4)] w fun x w' => x = .returned (.bool true) ∧ Below w.heap.size w w' := by
  have HB := Aside0.mk (Below.refl w.heap.size w)
  have HO := Aside0.mk (show phase_Over.f (1) = some false from by decide +kernel)
  have HP := Aside0.mk (show phase_Open.f (1) = some true from by decide +kernel)
  have HN := Aside0.mk (show phase_Next.f 20 (1) (4) = some (4, true) from by decide +kernel)
  have HS := Aside0.mk (show Hand.nameF (1) = (⟨#[114, 117, 110, 110, 105, 110, 103]⟩ : ByteArray) from by decide +kernel)
  have HQ := Aside0.mk (show phase_Open.f (4) = some true from by decide +kernel)
  go_enter Try.func5, Try.ntmps5
  go_wp2_with (first | (go_at_call 8; refine (pacesetterlaw11_lives.calls 20 true _ lives_20).mono ?_; rintro x_ w_ ⟨rfl, hb⟩; have n0_ := Aside0.mk (below_step (by repeat (first | (with_reducible first | exact HB.out | apply below_alloc | apply pw_below_drewN | apply below_drew1) | exact HB.out)) hb); clear HB; have HB := n0_; clear n0_; clear hb) | (go_at_call 13; refine (phase_Over.calls (1) false _ HO.out).mono ?_; rintro x_ w_ ⟨rfl, ⟨nd_, rfl⟩⟩) | (go_at_call 11; refine (phase_Next.calls 20 (1) (4) (4) true _ HN.out).mono ?_; rintro x_ w_ ⟨rfl, hb⟩; have n0_ := Aside0.mk (below_step (by repeat (first | (with_reducible first | exact HB.out | apply below_alloc | apply pw_below_drewN | apply below_drew1) | exact HB.out)) hb); clear HB; have HB := n0_; clear n0_; clear hb) | (go_at_call 14; refine (Hand.name_any _ (1)).mono ?_; rw [HS.out]; rintro x_ w_ ⟨rfl, hb⟩; have n0_ := Aside0.mk (below_step (by repeat (first | (with_reducible first | exact HB.out | apply below_alloc | apply pw_below_drewN | apply below_drew1) | exact HB.out)) hb); clear HB; have HB := n0_; clear n0_; clear hb) | (go_at_call 12; first | ((with_reducible refine (phase_Open.calls (1) true _ HP.out).mono ?_); rintro x_ w_ ⟨rfl, ⟨nd_, rfl⟩⟩) | ((with_reducible refine (phase_Open.calls (4) true _ HQ.out).mono ?_); rintro x_ w_ ⟨rfl, ⟨nd_, rfl⟩⟩)))
  all_goals (go_ret; exact ⟨rfl, by repeat (first | (with_reducible first | exact HB.out | apply below_alloc | apply pw_below_drewN | apply below_drew1) | exact HB.out)⟩)

set_option maxHeartbeats 1000000 in
set_option maxRecDepth 100000 in
theorem at_1_5  (w : World)  :
    Calls Try.prog 5 #[.int .i64 (1), .int .i64 (5)] w fun x w' => x = .returned (.bool true) ∧ Below w.heap.size w w' := by
  have HB := Aside0.mk (Below.refl w.heap.size w)
  have HO := Aside0.mk (show phase_Over.f (1) = some false from by decide +kernel)
  have HP := Aside0.mk (show phase_Open.f (1) = some true from by decide +kernel)
  have HN := Aside0.mk (show phase_Next.f 20 (1) (5) = some (4, true) from by decide +kernel)
  have HS := Aside0.mk (show Hand.nameF (1) = (⟨#[114, 117, 110, 110, 105, 110, 103]⟩ : ByteArray) from by decide +kernel)
  have HQ := Aside0.mk (show phase_Open.f (4) = some true from by decide +kernel)
  go_enter Try.func5, Try.ntmps5
  go_wp2_with (first | (go_at_call 8; refine (pacesetterlaw11_lives.calls 20 true _ lives_20).mono ?_; rintro x_ w_ ⟨rfl, hb⟩; have n0_ := Aside0.mk (below_step (by repeat (first | (with_reducible first | exact HB.out | apply below_alloc | apply pw_below_drewN | apply below_drew1) | exact HB.out)) hb); clear HB; have HB := n0_; clear n0_; clear hb) | (go_at_call 13; refine (phase_Over.calls (1) false _ HO.out).mono ?_; rintro x_ w_ ⟨rfl, ⟨nd_, rfl⟩⟩) | (go_at_call 11; refine (phase_Next.calls 20 (1) (5) (4) true _ HN.out).mono ?_; rintro x_ w_ ⟨rfl, hb⟩; have n0_ := Aside0.mk (below_step (by repeat (first | (with_reducible first | exact HB.out | apply below_alloc | apply pw_below_drewN | apply below_drew1) | exact HB.out)) hb); clear HB; have HB := n0_; clear n0_; clear hb) | (go_at_call 14; refine (Hand.name_any _ (1)).mono ?_; rw [HS.out]; rintro x_ w_ ⟨rfl, hb⟩; have n0_ := Aside0.mk (below_step (by repeat (first | (with_reducible first | exact HB.out | apply below_alloc | apply pw_below_drewN | apply below_drew1) | exact HB.out)) hb); clear HB; have HB := n0_; clear n0_; clear hb) | (go_at_call 12; first | ((with_reducible refine (phase_Open.calls (1) true _ HP.out).mono ?_); rintro x_ w_ ⟨rfl, ⟨nd_, rfl⟩⟩) | ((with_reducible refine (phase_Open.calls (4) true _ HQ.out).mono ?_); rintro x_ w_ ⟨rfl, ⟨nd_, rfl⟩⟩)))
  all_goals (go_ret; exact ⟨rfl, by repeat (first | (with_reducible first | exact HB.out | apply below_alloc | apply pw_below_drewN | apply below_drew1) | exact HB.out)⟩)

set_option maxHeartbeats 1000000 in
set_option maxRecDepth 100000 in
theorem at_1_6  (w : World)  :
    Calls Try.prog 5 #[.int .i64 (1), .int .i64 (6)] w fun x w' => x = .returned (.bool true) ∧ Below w.heap.size w w' := by
  have HB := Aside0.mk (Below.refl w.heap.size w)
  have HO := Aside0.mk (show phase_Over.f (1) = some false from by decide +kernel)
  have HP := Aside0.mk (show phase_Open.f (1) = some true from by decide +kernel)
  have HN := Aside0.mk (show phase_Next.f 20 (1) (6) = some (4, true) from by decide +kernel)
  have HS := Aside0.mk (show Hand.nameF (1) = (⟨#[114, 117, 110, 110, 105, 110, 103]⟩ : ByteArray) from by decide +kernel)
  have HQ := Aside0.mk (show phase_Open.f (4) = some true from by decide +kernel)
  go_enter Try.func5, Try.ntmps5
  go_wp2_with (first | (go_at_call 8; refine (pacesetterlaw11_lives.calls 20 true _ lives_20).mono ?_; rintro x_ w_ ⟨rfl, hb⟩; have n0_ := Aside0.mk (below_step (by repeat (first | (with_reducible first | exact HB.out | apply below_alloc | apply pw_below_drewN | apply below_drew1) | exact HB.out)) hb); clear HB; have HB := n0_; clear n0_; clear hb) | (go_at_call 13; refine (phase_Over.calls (1) false _ HO.out).mono ?_; rintro x_ w_ ⟨rfl, ⟨nd_, rfl⟩⟩) | (go_at_call 11; refine (phase_Next.calls 20 (1) (6) (4) true _ HN.out).mono ?_; rintro x_ w_ ⟨rfl, hb⟩; have n0_ := Aside0.mk (below_step (by repeat (first | (with_reducible first | exact HB.out | apply below_alloc | apply pw_below_drewN | apply below_drew1) | exact HB.out)) hb); clear HB; have HB := n0_; clear n0_; clear hb) | (go_at_call 14; refine (Hand.name_any _ (1)).mono ?_; rw [HS.out]; rintro x_ w_ ⟨rfl, hb⟩; have n0_ := Aside0.mk (below_step (by repeat (first | (with_reducible first | exact HB.out | apply below_alloc | apply pw_below_drewN | apply below_drew1) | exact HB.out)) hb); clear HB; have HB := n0_; clear n0_; clear hb) | (go_at_call 12; first | ((with_reducible refine (phase_Open.calls (1) true _ HP.out).mono ?_); rintro x_ w_ ⟨rfl, ⟨nd_, rfl⟩⟩) | ((with_reducible refine (phase_Open.calls (4) true _ HQ.out).mono ?_); rintro x_ w_ ⟨rfl, ⟨nd_, rfl⟩⟩)))
  all_goals (go_ret; exact ⟨rfl, by repeat (first | (with_reducible first | exact HB.out | apply below_alloc | apply pw_below_drewN | apply below_drew1) | exact HB.out)⟩)

set_option maxHeartbeats 1000000 in
set_option maxRecDepth 100000 in
theorem at_1_7  (w : World)  :
    Calls Try.prog 5 #[.int .i64 (1), .int .i64 (7)] w fun x w' => x = .returned (.bool true) ∧ Below w.heap.size w w' := by
  have HB := Aside0.mk (Below.refl w.heap.size w)
  have HO := Aside0.mk (show phase_Over.f (1) = some false from by decide +kernel)
  have HP := Aside0.mk (show phase_Open.f (1) = some true from by decide +kernel)
  have HN := Aside0.mk (show phase_Next.f 20 (1) (7) = some (3, true) from by decide +kernel)
  have HS := Aside0.mk (show Hand.nameF (1) = (⟨#[114, 117, 110, 110, 105, 110, 103]⟩ : ByteArray) from by decide +kernel)
  have HQ := Aside0.mk (show phase_Open.f (3) = some false from by decide +kernel)
  go_enter Try.func5, Try.ntmps5
  go_wp2_with (first | (go_at_call 8; refine (pacesetterlaw11_lives.calls 20 true _ lives_20).mono ?_; rintro x_ w_ ⟨rfl, hb⟩; have n0_ := Aside0.mk (below_step (by repeat (first | (with_reducible first | exact HB.out | apply below_alloc | apply pw_below_drewN | apply below_drew1) | exact HB.out)) hb); clear HB; have HB := n0_; clear n0_; clear hb) | (go_at_call 13; refine (phase_Over.calls (1) false _ HO.out).mono ?_; rintro x_ w_ ⟨rfl, ⟨nd_, rfl⟩⟩) | (go_at_call 11; refine (phase_Next.calls 20 (1) (7) (3) true _ HN.out).mono ?_; rintro x_ w_ ⟨rfl, hb⟩; have n0_ := Aside0.mk (below_step (by repeat (first | (with_reducible first | exact HB.out | apply below_alloc | apply pw_below_drewN | apply below_drew1) | exact HB.out)) hb); clear HB; have HB := n0_; clear n0_; clear hb) | (go_at_call 14; refine (Hand.name_any _ (1)).mono ?_; rw [HS.out]; rintro x_ w_ ⟨rfl, hb⟩; have n0_ := Aside0.mk (below_step (by repeat (first | (with_reducible first | exact HB.out | apply below_alloc | apply pw_below_drewN | apply below_drew1) | exact HB.out)) hb); clear HB; have HB := n0_; clear n0_; clear hb) | (go_at_call 12; first | ((with_reducible refine (phase_Open.calls (1) true _ HP.out).mono ?_); rintro x_ w_ ⟨rfl, ⟨nd_, rfl⟩⟩) | ((with_reducible refine (phase_Open.calls (3) false _ HQ.out).mono ?_); rintro x_ w_ ⟨rfl, ⟨nd_, rfl⟩⟩)))
  all_goals (go_ret; exact ⟨rfl, by repeat (first | (with_reducible first | exact HB.out | apply below_alloc | apply pw_below_drewN | apply below_drew1) | exact HB.out)⟩)

set_option maxHeartbeats 1000000 in
set_option maxRecDepth 100000 in
theorem no_1 (e : Int) (w : World) (hn : phase_Next.f 20 1 e = some (1, false)) (he : e ≠ 0) :
    Calls Try.prog 5 #[.int .i64 (1), .int .i64 (e)] w fun x w' => x = .returned (.bool true) ∧ Below w.heap.size w w' := by
  have HB := Aside0.mk (Below.refl w.heap.size w)
  have h1 : (e == 0) = false := beq_eq_false_iff_ne.2 he
  have h2 : (e != 0) = true := bne_iff_ne.2 he
  have HO := Aside0.mk (show phase_Over.f (1) = some false from by decide +kernel)
  have HP := Aside0.mk (show phase_Open.f (1) = some true from by decide +kernel)
  have HN := Aside0.mk (show phase_Next.f 20 (1) (e) = some (1, false) from hn)
  have HS := Aside0.mk (show Hand.nameF (1) = (⟨#[114, 117, 110, 110, 105, 110, 103]⟩ : ByteArray) from by decide +kernel)
  clear hn he
  go_enter Try.func5, Try.ntmps5
  go_wp2_with (first | (go_at_call 8; refine (pacesetterlaw11_lives.calls 20 true _ lives_20).mono ?_; rintro x_ w_ ⟨rfl, hb⟩; have n0_ := Aside0.mk (below_step (by repeat (first | (with_reducible first | exact HB.out | apply below_alloc | apply pw_below_drewN | apply below_drew1) | exact HB.out)) hb); clear HB; have HB := n0_; clear n0_; clear hb) | (go_at_call 13; refine (phase_Over.calls (1) false _ HO.out).mono ?_; rintro x_ w_ ⟨rfl, ⟨nd_, rfl⟩⟩) | (go_at_call 11; refine (phase_Next.calls 20 (1) (e) (1) false _ HN.out).mono ?_; rintro x_ w_ ⟨rfl, hb⟩; have n0_ := Aside0.mk (below_step (by repeat (first | (with_reducible first | exact HB.out | apply below_alloc | apply pw_below_drewN | apply below_drew1) | exact HB.out)) hb); clear HB; have HB := n0_; clear n0_; clear hb) | (go_at_call 14; refine (Hand.name_any _ (1)).mono ?_; rw [HS.out]; rintro x_ w_ ⟨rfl, hb⟩; have n0_ := Aside0.mk (below_step (by repeat (first | (with_reducible first | exact HB.out | apply below_alloc | apply pw_below_drewN | apply below_drew1) | exact HB.out)) hb); clear HB; have HB := n0_; clear n0_; clear hb) | (go_at_call 12; first | ((with_reducible refine (phase_Open.calls (1) true _ HP.out).mono ?_); rintro x_ w_ ⟨rfl, ⟨nd_, rfl⟩⟩)))
  all_goals (go_ret; exact ⟨rfl, by repeat (first | (with_reducible first | exact HB.out | apply below_alloc | apply pw_below_drewN | apply below_drew1) | exact HB.out)⟩)

set_option maxHeartbeats 1000000 in
set_option maxRecDepth 100000 in
theorem no_1_0  (w : World)  :
    Calls Try.prog 5 #[.int .i64 (1), .int .i64 (0)] w fun x w' => x = .returned (.bool true) ∧ Below w.heap.size w w' := by
  have HB := Aside0.mk (Below.refl w.heap.size w)
  have HO := Aside0.mk (show phase_Over.f (1) = some false from by decide +kernel)
  have HP := Aside0.mk (show phase_Open.f (1) = some true from by decide +kernel)
  have HN := Aside0.mk (show phase_Next.f 20 (1) (0) = some (1, false) from by decide +kernel)
  have HS := Aside0.mk (show Hand.nameF (1) = (⟨#[114, 117, 110, 110, 105, 110, 103]⟩ : ByteArray) from by decide +kernel)
  go_enter Try.func5, Try.ntmps5
  go_wp2_with (first | (go_at_call 8; refine (pacesetterlaw11_lives.calls 20 true _ lives_20).mono ?_; rintro x_ w_ ⟨rfl, hb⟩; have n0_ := Aside0.mk (below_step (by repeat (first | (with_reducible first | exact HB.out | apply below_alloc | apply pw_below_drewN | apply below_drew1) | exact HB.out)) hb); clear HB; have HB := n0_; clear n0_; clear hb) | (go_at_call 13; refine (phase_Over.calls (1) false _ HO.out).mono ?_; rintro x_ w_ ⟨rfl, ⟨nd_, rfl⟩⟩) | (go_at_call 11; refine (phase_Next.calls 20 (1) (0) (1) false _ HN.out).mono ?_; rintro x_ w_ ⟨rfl, hb⟩; have n0_ := Aside0.mk (below_step (by repeat (first | (with_reducible first | exact HB.out | apply below_alloc | apply pw_below_drewN | apply below_drew1) | exact HB.out)) hb); clear HB; have HB := n0_; clear n0_; clear hb) | (go_at_call 14; refine (Hand.name_any _ (1)).mono ?_; rw [HS.out]; rintro x_ w_ ⟨rfl, hb⟩; have n0_ := Aside0.mk (below_step (by repeat (first | (with_reducible first | exact HB.out | apply below_alloc | apply pw_below_drewN | apply below_drew1) | exact HB.out)) hb); clear HB; have HB := n0_; clear n0_; clear hb) | (go_at_call 12; first | ((with_reducible refine (phase_Open.calls (1) true _ HP.out).mono ?_); rintro x_ w_ ⟨rfl, ⟨nd_, rfl⟩⟩)))
  all_goals (go_ret; exact ⟨rfl, by repeat (first | (with_reducible first | exact HB.out | apply below_alloc | apply pw_below_drewN | apply below_drew1) | exact HB.out)⟩)

set_option maxHeartbeats 1000000 in
set_option maxRecDepth 100000 in
theorem at_2_2  (w : World)  :
    Calls Try.prog 5 #[.int .i64 (2), .int .i64 (2)] w fun x w' => x = .returned (.bool true) ∧ Below w.heap.size w w' := by
  have HB := Aside0.mk (Below.refl w.heap.size w)
  have HO := Aside0.mk (show phase_Over.f (2) = some false from by decide +kernel)
  have HP := Aside0.mk (show phase_Open.f (2) = some true from by decide +kernel)
  have HN := Aside0.mk (show phase_Next.f 20 (2) (2) = some (1, true) from by decide +kernel)
  have HS := Aside0.mk (show Hand.nameF (2) = (⟨#[112, 97, 117, 115, 101, 100]⟩ : ByteArray) from by decide +kernel)
  have HQ := Aside0.mk (show phase_Open.f (1) = some true from by decide +kernel)
  go_enter Try.func5, Try.ntmps5
  go_wp2_with (first | (go_at_call 8; refine (pacesetterlaw11_lives.calls 20 true _ lives_20).mono ?_; rintro x_ w_ ⟨rfl, hb⟩; have n0_ := Aside0.mk (below_step (by repeat (first | (with_reducible first | exact HB.out | apply below_alloc | apply pw_below_drewN | apply below_drew1) | exact HB.out)) hb); clear HB; have HB := n0_; clear n0_; clear hb) | (go_at_call 13; refine (phase_Over.calls (2) false _ HO.out).mono ?_; rintro x_ w_ ⟨rfl, ⟨nd_, rfl⟩⟩) | (go_at_call 11; refine (phase_Next.calls 20 (2) (2) (1) true _ HN.out).mono ?_; rintro x_ w_ ⟨rfl, hb⟩; have n0_ := Aside0.mk (below_step (by repeat (first | (with_reducible first | exact HB.out | apply below_alloc | apply pw_below_drewN | apply below_drew1) | exact HB.out)) hb); clear HB; have HB := n0_; clear n0_; clear hb) | (go_at_call 14; refine (Hand.name_any _ (2)).mono ?_; rw [HS.out]; rintro x_ w_ ⟨rfl, hb⟩; have n0_ := Aside0.mk (below_step (by repeat (first | (with_reducible first | exact HB.out | apply below_alloc | apply pw_below_drewN | apply below_drew1) | exact HB.out)) hb); clear HB; have HB := n0_; clear n0_; clear hb) | (go_at_call 12; first | ((with_reducible refine (phase_Open.calls (2) true _ HP.out).mono ?_); rintro x_ w_ ⟨rfl, ⟨nd_, rfl⟩⟩) | ((with_reducible refine (phase_Open.calls (1) true _ HQ.out).mono ?_); rintro x_ w_ ⟨rfl, ⟨nd_, rfl⟩⟩)))
  all_goals (go_ret; exact ⟨rfl, by repeat (first | (with_reducible first | exact HB.out | apply below_alloc | apply pw_below_drewN | apply below_drew1) | exact HB.out)⟩)

set_option maxHeartbeats 1000000 in
set_option maxRecDepth 100000 in
theorem at_2_6  (w : World)  :
    Calls Try.prog 5 #[.int .i64 (2), .int .i64 (6)] w fun x w' => x = .returned (.bool true) ∧ Below w.heap.size w w' := by
  have HB := Aside0.mk (Below.refl w.heap.size w)
  have HO := Aside0.mk (show phase_Over.f (2) = some false from by decide +kernel)
  have HP := Aside0.mk (show phase_Open.f (2) = some true from by decide +kernel)
  have HN := Aside0.mk (show phase_Next.f 20 (2) (6) = some (4, true) from by decide +kernel)
  have HS := Aside0.mk (show Hand.nameF (2) = (⟨#[112, 97, 117, 115, 101, 100]⟩ : ByteArray) from by decide +kernel)
  have HQ := Aside0.mk (show phase_Open.f (4) = some true from by decide +kernel)
  go_enter Try.func5, Try.ntmps5
  go_wp2_with (first | (go_at_call 8; refine (pacesetterlaw11_lives.calls 20 true _ lives_20).mono ?_; rintro x_ w_ ⟨rfl, hb⟩; have n0_ := Aside0.mk (below_step (by repeat (first | (with_reducible first | exact HB.out | apply below_alloc | apply pw_below_drewN | apply below_drew1) | exact HB.out)) hb); clear HB; have HB := n0_; clear n0_; clear hb) | (go_at_call 13; refine (phase_Over.calls (2) false _ HO.out).mono ?_; rintro x_ w_ ⟨rfl, ⟨nd_, rfl⟩⟩) | (go_at_call 11; refine (phase_Next.calls 20 (2) (6) (4) true _ HN.out).mono ?_; rintro x_ w_ ⟨rfl, hb⟩; have n0_ := Aside0.mk (below_step (by repeat (first | (with_reducible first | exact HB.out | apply below_alloc | apply pw_below_drewN | apply below_drew1) | exact HB.out)) hb); clear HB; have HB := n0_; clear n0_; clear hb) | (go_at_call 14; refine (Hand.name_any _ (2)).mono ?_; rw [HS.out]; rintro x_ w_ ⟨rfl, hb⟩; have n0_ := Aside0.mk (below_step (by repeat (first | (with_reducible first | exact HB.out | apply below_alloc | apply pw_below_drewN | apply below_drew1) | exact HB.out)) hb); clear HB; have HB := n0_; clear n0_; clear hb) | (go_at_call 12; first | ((with_reducible refine (phase_Open.calls (2) true _ HP.out).mono ?_); rintro x_ w_ ⟨rfl, ⟨nd_, rfl⟩⟩) | ((with_reducible refine (phase_Open.calls (4) true _ HQ.out).mono ?_); rintro x_ w_ ⟨rfl, ⟨nd_, rfl⟩⟩)))
  all_goals (go_ret; exact ⟨rfl, by repeat (first | (with_reducible first | exact HB.out | apply below_alloc | apply pw_below_drewN | apply below_drew1) | exact HB.out)⟩)

set_option maxHeartbeats 1000000 in
set_option maxRecDepth 100000 in
theorem no_2 (e : Int) (w : World) (hn : phase_Next.f 20 2 e = some (2, false)) (he : e ≠ 0) :
    Calls Try.prog 5 #[.int .i64 (2), .int .i64 (e)] w fun x w' => x = .returned (.bool true) ∧ Below w.heap.size w w' := by
  have HB := Aside0.mk (Below.refl w.heap.size w)
  have h1 : (e == 0) = false := beq_eq_false_iff_ne.2 he
  have h2 : (e != 0) = true := bne_iff_ne.2 he
  have HO := Aside0.mk (show phase_Over.f (2) = some false from by decide +kernel)
  have HP := Aside0.mk (show phase_Open.f (2) = some true from by decide +kernel)
  have HN := Aside0.mk (show phase_Next.f 20 (2) (e) = some (2, false) from hn)
  have HS := Aside0.mk (show Hand.nameF (2) = (⟨#[112, 97, 117, 115, 101, 100]⟩ : ByteArray) from by decide +kernel)
  clear hn he
  go_enter Try.func5, Try.ntmps5
  go_wp2_with (first | (go_at_call 8; refine (pacesetterlaw11_lives.calls 20 true _ lives_20).mono ?_; rintro x_ w_ ⟨rfl, hb⟩; have n0_ := Aside0.mk (below_step (by repeat (first | (with_reducible first | exact HB.out | apply below_alloc | apply pw_below_drewN | apply below_drew1) | exact HB.out)) hb); clear HB; have HB := n0_; clear n0_; clear hb) | (go_at_call 13; refine (phase_Over.calls (2) false _ HO.out).mono ?_; rintro x_ w_ ⟨rfl, ⟨nd_, rfl⟩⟩) | (go_at_call 11; refine (phase_Next.calls 20 (2) (e) (2) false _ HN.out).mono ?_; rintro x_ w_ ⟨rfl, hb⟩; have n0_ := Aside0.mk (below_step (by repeat (first | (with_reducible first | exact HB.out | apply below_alloc | apply pw_below_drewN | apply below_drew1) | exact HB.out)) hb); clear HB; have HB := n0_; clear n0_; clear hb) | (go_at_call 14; refine (Hand.name_any _ (2)).mono ?_; rw [HS.out]; rintro x_ w_ ⟨rfl, hb⟩; have n0_ := Aside0.mk (below_step (by repeat (first | (with_reducible first | exact HB.out | apply below_alloc | apply pw_below_drewN | apply below_drew1) | exact HB.out)) hb); clear HB; have HB := n0_; clear n0_; clear hb) | (go_at_call 12; first | ((with_reducible refine (phase_Open.calls (2) true _ HP.out).mono ?_); rintro x_ w_ ⟨rfl, ⟨nd_, rfl⟩⟩)))
  all_goals (go_ret; exact ⟨rfl, by repeat (first | (with_reducible first | exact HB.out | apply below_alloc | apply pw_below_drewN | apply below_drew1) | exact HB.out)⟩)

set_option maxHeartbeats 1000000 in
set_option maxRecDepth 100000 in
theorem no_2_0  (w : World)  :
    Calls Try.prog 5 #[.int .i64 (2), .int .i64 (0)] w fun x w' => x = .returned (.bool true) ∧ Below w.heap.size w w' := by
  have HB := Aside0.mk (Below.refl w.heap.size w)
  have HO := Aside0.mk (show phase_Over.f (2) = some false from by decide +kernel)
  have HP := Aside0.mk (show phase_Open.f (2) = some true from by decide +kernel)
  have HN := Aside0.mk (show phase_Next.f 20 (2) (0) = some (2, false) from by decide +kernel)
  have HS := Aside0.mk (show Hand.nameF (2) = (⟨#[112, 97, 117, 115, 101, 100]⟩ : ByteArray) from by decide +kernel)
  go_enter Try.func5, Try.ntmps5
  go_wp2_with (first | (go_at_call 8; refine (pacesetterlaw11_lives.calls 20 true _ lives_20).mono ?_; rintro x_ w_ ⟨rfl, hb⟩; have n0_ := Aside0.mk (below_step (by repeat (first | (with_reducible first | exact HB.out | apply below_alloc | apply pw_below_drewN | apply below_drew1) | exact HB.out)) hb); clear HB; have HB := n0_; clear n0_; clear hb) | (go_at_call 13; refine (phase_Over.calls (2) false _ HO.out).mono ?_; rintro x_ w_ ⟨rfl, ⟨nd_, rfl⟩⟩) | (go_at_call 11; refine (phase_Next.calls 20 (2) (0) (2) false _ HN.out).mono ?_; rintro x_ w_ ⟨rfl, hb⟩; have n0_ := Aside0.mk (below_step (by repeat (first | (with_reducible first | exact HB.out | apply below_alloc | apply pw_below_drewN | apply below_drew1) | exact HB.out)) hb); clear HB; have HB := n0_; clear n0_; clear hb) | (go_at_call 14; refine (Hand.name_any _ (2)).mono ?_; rw [HS.out]; rintro x_ w_ ⟨rfl, hb⟩; have n0_ := Aside0.mk (below_step (by repeat (first | (with_reducible first | exact HB.out | apply below_alloc | apply pw_below_drewN | apply below_drew1) | exact HB.out)) hb); clear HB; have HB := n0_; clear n0_; clear hb) | (go_at_call 12; first | ((with_reducible refine (phase_Open.calls (2) true _ HP.out).mono ?_); rintro x_ w_ ⟨rfl, ⟨nd_, rfl⟩⟩)))
  all_goals (go_ret; exact ⟨rfl, by repeat (first | (with_reducible first | exact HB.out | apply below_alloc | apply pw_below_drewN | apply below_drew1) | exact HB.out)⟩)

set_option maxHeartbeats 1000000 in
set_option maxRecDepth 100000 in
theorem at_3_0  (w : World)  :
    Calls Try.prog 5 #[.int .i64 (3), .int .i64 (0)] w fun x w' => x = .returned (.bool true) ∧ Below w.heap.size w w' := by
  have HB := Aside0.mk (Below.refl w.heap.size w)
  have HO := Aside0.mk (show phase_Over.f (3) = some true from by decide +kernel)
  have HP := Aside0.mk (show phase_Open.f (3) = some false from by decide +kernel)
  have HN := Aside0.mk (show phase_Next.f 20 (3) (0) = some (1, true) from by decide +kernel)
  have HS := Aside0.mk (show Hand.nameF (3) = (⟨#[99, 111, 109, 112, 108, 101, 116, 101]⟩ : ByteArray) from by decide +kernel)
  have HQ := Aside0.mk (show phase_Open.f (1) = some true from by decide +kernel)
  go_enter Try.func5, Try.ntmps5
  go_wp2_with (first | (go_at_call 8; refine (pacesetterlaw11_lives.calls 20 true _ lives_20).mono ?_; rintro x_ w_ ⟨rfl, hb⟩; have n0_ := Aside0.mk (below_step (by repeat (first | (with_reducible first | exact HB.out | apply below_alloc | apply pw_below_drewN | apply below_drew1) | exact HB.out)) hb); clear HB; have HB := n0_; clear n0_; clear hb) | (go_at_call 13; refine (phase_Over.calls (3) true _ HO.out).mono ?_; rintro x_ w_ ⟨rfl, ⟨nd_, rfl⟩⟩) | (go_at_call 11; refine (phase_Next.calls 20 (3) (0) (1) true _ HN.out).mono ?_; rintro x_ w_ ⟨rfl, hb⟩; have n0_ := Aside0.mk (below_step (by repeat (first | (with_reducible first | exact HB.out | apply below_alloc | apply pw_below_drewN | apply below_drew1) | exact HB.out)) hb); clear HB; have HB := n0_; clear n0_; clear hb) | (go_at_call 14; refine (Hand.name_any _ (3)).mono ?_; rw [HS.out]; rintro x_ w_ ⟨rfl, hb⟩; have n0_ := Aside0.mk (below_step (by repeat (first | (with_reducible first | exact HB.out | apply below_alloc | apply pw_below_drewN | apply below_drew1) | exact HB.out)) hb); clear HB; have HB := n0_; clear n0_; clear hb) | (go_at_call 12; first | ((with_reducible refine (phase_Open.calls (3) false _ HP.out).mono ?_); rintro x_ w_ ⟨rfl, ⟨nd_, rfl⟩⟩) | ((with_reducible refine (phase_Open.calls (1) true _ HQ.out).mono ?_); rintro x_ w_ ⟨rfl, ⟨nd_, rfl⟩⟩)))
  all_goals (go_ret; exact ⟨rfl, by repeat (first | (with_reducible first | exact HB.out | apply below_alloc | apply pw_below_drewN | apply below_drew1) | exact HB.out)⟩)

set_option maxHeartbeats 1000000 in
set_option maxRecDepth 100000 in
theorem no_3 (e : Int) (w : World) (hn : phase_Next.f 20 3 e = some (3, false)) (he : e ≠ 0) :
    Calls Try.prog 5 #[.int .i64 (3), .int .i64 (e)] w fun x w' => x = .returned (.bool true) ∧ Below w.heap.size w w' := by
  have HB := Aside0.mk (Below.refl w.heap.size w)
  have h1 : (e == 0) = false := beq_eq_false_iff_ne.2 he
  have h2 : (e != 0) = true := bne_iff_ne.2 he
  have HO := Aside0.mk (show phase_Over.f (3) = some true from by decide +kernel)
  have HP := Aside0.mk (show phase_Open.f (3) = some false from by decide +kernel)
  have HN := Aside0.mk (show phase_Next.f 20 (3) (e) = some (3, false) from hn)
  have HS := Aside0.mk (show Hand.nameF (3) = (⟨#[99, 111, 109, 112, 108, 101, 116, 101]⟩ : ByteArray) from by decide +kernel)
  clear hn he
  go_enter Try.func5, Try.ntmps5
  go_wp2_with (first | (go_at_call 8; refine (pacesetterlaw11_lives.calls 20 true _ lives_20).mono ?_; rintro x_ w_ ⟨rfl, hb⟩; have n0_ := Aside0.mk (below_step (by repeat (first | (with_reducible first | exact HB.out | apply below_alloc | apply pw_below_drewN | apply below_drew1) | exact HB.out)) hb); clear HB; have HB := n0_; clear n0_; clear hb) | (go_at_call 13; refine (phase_Over.calls (3) true _ HO.out).mono ?_; rintro x_ w_ ⟨rfl, ⟨nd_, rfl⟩⟩) | (go_at_call 11; refine (phase_Next.calls 20 (3) (e) (3) false _ HN.out).mono ?_; rintro x_ w_ ⟨rfl, hb⟩; have n0_ := Aside0.mk (below_step (by repeat (first | (with_reducible first | exact HB.out | apply below_alloc | apply pw_below_drewN | apply below_drew1) | exact HB.out)) hb); clear HB; have HB := n0_; clear n0_; clear hb) | (go_at_call 14; refine (Hand.name_any _ (3)).mono ?_; rw [HS.out]; rintro x_ w_ ⟨rfl, hb⟩; have n0_ := Aside0.mk (below_step (by repeat (first | (with_reducible first | exact HB.out | apply below_alloc | apply pw_below_drewN | apply below_drew1) | exact HB.out)) hb); clear HB; have HB := n0_; clear n0_; clear hb) | (go_at_call 12; first | ((with_reducible refine (phase_Open.calls (3) false _ HP.out).mono ?_); rintro x_ w_ ⟨rfl, ⟨nd_, rfl⟩⟩)))
  all_goals (go_ret; exact ⟨rfl, by repeat (first | (with_reducible first | exact HB.out | apply below_alloc | apply pw_below_drewN | apply below_drew1) | exact HB.out)⟩)

set_option maxHeartbeats 1000000 in
set_option maxRecDepth 100000 in
theorem at_4_8  (w : World)  :
    Calls Try.prog 5 #[.int .i64 (4), .int .i64 (8)] w fun x w' => x = .returned (.bool true) ∧ Below w.heap.size w w' := by
  have HB := Aside0.mk (Below.refl w.heap.size w)
  have HO := Aside0.mk (show phase_Over.f (4) = some false from by decide +kernel)
  have HP := Aside0.mk (show phase_Open.f (4) = some true from by decide +kernel)
  have HN := Aside0.mk (show phase_Next.f 20 (4) (8) = some (5, true) from by decide +kernel)
  have HS := Aside0.mk (show Hand.nameF (4) = (⟨#[114, 111, 108, 108, 105, 110, 103, 45, 98, 97, 99, 107]⟩ : ByteArray) from by decide +kernel)
  have HQ := Aside0.mk (show phase_Open.f (5) = some false from by decide +kernel)
  go_enter Try.func5, Try.ntmps5
  go_wp2_with (first | (go_at_call 8; refine (pacesetterlaw11_lives.calls 20 true _ lives_20).mono ?_; rintro x_ w_ ⟨rfl, hb⟩; have n0_ := Aside0.mk (below_step (by repeat (first | (with_reducible first | exact HB.out | apply below_alloc | apply pw_below_drewN | apply below_drew1) | exact HB.out)) hb); clear HB; have HB := n0_; clear n0_; clear hb) | (go_at_call 13; refine (phase_Over.calls (4) false _ HO.out).mono ?_; rintro x_ w_ ⟨rfl, ⟨nd_, rfl⟩⟩) | (go_at_call 11; refine (phase_Next.calls 20 (4) (8) (5) true _ HN.out).mono ?_; rintro x_ w_ ⟨rfl, hb⟩; have n0_ := Aside0.mk (below_step (by repeat (first | (with_reducible first | exact HB.out | apply below_alloc | apply pw_below_drewN | apply below_drew1) | exact HB.out)) hb); clear HB; have HB := n0_; clear n0_; clear hb) | (go_at_call 14; refine (Hand.name_any _ (4)).mono ?_; rw [HS.out]; rintro x_ w_ ⟨rfl, hb⟩; have n0_ := Aside0.mk (below_step (by repeat (first | (with_reducible first | exact HB.out | apply below_alloc | apply pw_below_drewN | apply below_drew1) | exact HB.out)) hb); clear HB; have HB := n0_; clear n0_; clear hb) | (go_at_call 12; first | ((with_reducible refine (phase_Open.calls (4) true _ HP.out).mono ?_); rintro x_ w_ ⟨rfl, ⟨nd_, rfl⟩⟩) | ((with_reducible refine (phase_Open.calls (5) false _ HQ.out).mono ?_); rintro x_ w_ ⟨rfl, ⟨nd_, rfl⟩⟩)))
  all_goals (go_ret; exact ⟨rfl, by repeat (first | (with_reducible first | exact HB.out | apply below_alloc | apply pw_below_drewN | apply below_drew1) | exact HB.out)⟩)

set_option maxHeartbeats 1000000 in
set_option maxRecDepth 100000 in
theorem no_4 (e : Int) (w : World) (hn : phase_Next.f 20 4 e = some (4, false)) (he : e ≠ 0) :
    Calls Try.prog 5 #[.int .i64 (4), .int .i64 (e)] w fun x w' => x = .returned (.bool true) ∧ Below w.heap.size w w' := by
  have HB := Aside0.mk (Below.refl w.heap.size w)
  have h1 : (e == 0) = false := beq_eq_false_iff_ne.2 he
  have h2 : (e != 0) = true := bne_iff_ne.2 he
  have HO := Aside0.mk (show phase_Over.f (4) = some false from by decide +kernel)
  have HP := Aside0.mk (show phase_Open.f (4) = some true from by decide +kernel)
  have HN := Aside0.mk (show phase_Next.f 20 (4) (e) = some (4, false) from hn)
  have HS := Aside0.mk (show Hand.nameF (4) = (⟨#[114, 111, 108, 108, 105, 110, 103, 45, 98, 97, 99, 107]⟩ : ByteArray) from by decide +kernel)
  clear hn he
  go_enter Try.func5, Try.ntmps5
  go_wp2_with (first | (go_at_call 8; refine (pacesetterlaw11_lives.calls 20 true _ lives_20).mono ?_; rintro x_ w_ ⟨rfl, hb⟩; have n0_ := Aside0.mk (below_step (by repeat (first | (with_reducible first | exact HB.out | apply below_alloc | apply pw_below_drewN | apply below_drew1) | exact HB.out)) hb); clear HB; have HB := n0_; clear n0_; clear hb) | (go_at_call 13; refine (phase_Over.calls (4) false _ HO.out).mono ?_; rintro x_ w_ ⟨rfl, ⟨nd_, rfl⟩⟩) | (go_at_call 11; refine (phase_Next.calls 20 (4) (e) (4) false _ HN.out).mono ?_; rintro x_ w_ ⟨rfl, hb⟩; have n0_ := Aside0.mk (below_step (by repeat (first | (with_reducible first | exact HB.out | apply below_alloc | apply pw_below_drewN | apply below_drew1) | exact HB.out)) hb); clear HB; have HB := n0_; clear n0_; clear hb) | (go_at_call 14; refine (Hand.name_any _ (4)).mono ?_; rw [HS.out]; rintro x_ w_ ⟨rfl, hb⟩; have n0_ := Aside0.mk (below_step (by repeat (first | (with_reducible first | exact HB.out | apply below_alloc | apply pw_below_drewN | apply below_drew1) | exact HB.out)) hb); clear HB; have HB := n0_; clear n0_; clear hb) | (go_at_call 12; first | ((with_reducible refine (phase_Open.calls (4) true _ HP.out).mono ?_); rintro x_ w_ ⟨rfl, ⟨nd_, rfl⟩⟩)))
  all_goals (go_ret; exact ⟨rfl, by repeat (first | (with_reducible first | exact HB.out | apply below_alloc | apply pw_below_drewN | apply below_drew1) | exact HB.out)⟩)

set_option maxHeartbeats 1000000 in
set_option maxRecDepth 100000 in
theorem no_4_0  (w : World)  :
    Calls Try.prog 5 #[.int .i64 (4), .int .i64 (0)] w fun x w' => x = .returned (.bool true) ∧ Below w.heap.size w w' := by
  have HB := Aside0.mk (Below.refl w.heap.size w)
  have HO := Aside0.mk (show phase_Over.f (4) = some false from by decide +kernel)
  have HP := Aside0.mk (show phase_Open.f (4) = some true from by decide +kernel)
  have HN := Aside0.mk (show phase_Next.f 20 (4) (0) = some (4, false) from by decide +kernel)
  have HS := Aside0.mk (show Hand.nameF (4) = (⟨#[114, 111, 108, 108, 105, 110, 103, 45, 98, 97, 99, 107]⟩ : ByteArray) from by decide +kernel)
  go_enter Try.func5, Try.ntmps5
  go_wp2_with (first | (go_at_call 8; refine (pacesetterlaw11_lives.calls 20 true _ lives_20).mono ?_; rintro x_ w_ ⟨rfl, hb⟩; have n0_ := Aside0.mk (below_step (by repeat (first | (with_reducible first | exact HB.out | apply below_alloc | apply pw_below_drewN | apply below_drew1) | exact HB.out)) hb); clear HB; have HB := n0_; clear n0_; clear hb) | (go_at_call 13; refine (phase_Over.calls (4) false _ HO.out).mono ?_; rintro x_ w_ ⟨rfl, ⟨nd_, rfl⟩⟩) | (go_at_call 11; refine (phase_Next.calls 20 (4) (0) (4) false _ HN.out).mono ?_; rintro x_ w_ ⟨rfl, hb⟩; have n0_ := Aside0.mk (below_step (by repeat (first | (with_reducible first | exact HB.out | apply below_alloc | apply pw_below_drewN | apply below_drew1) | exact HB.out)) hb); clear HB; have HB := n0_; clear n0_; clear hb) | (go_at_call 14; refine (Hand.name_any _ (4)).mono ?_; rw [HS.out]; rintro x_ w_ ⟨rfl, hb⟩; have n0_ := Aside0.mk (below_step (by repeat (first | (with_reducible first | exact HB.out | apply below_alloc | apply pw_below_drewN | apply below_drew1) | exact HB.out)) hb); clear HB; have HB := n0_; clear n0_; clear hb) | (go_at_call 12; first | ((with_reducible refine (phase_Open.calls (4) true _ HP.out).mono ?_); rintro x_ w_ ⟨rfl, ⟨nd_, rfl⟩⟩)))
  all_goals (go_ret; exact ⟨rfl, by repeat (first | (with_reducible first | exact HB.out | apply below_alloc | apply pw_below_drewN | apply below_drew1) | exact HB.out)⟩)

set_option maxHeartbeats 1000000 in
set_option maxRecDepth 100000 in
theorem at_5_0  (w : World)  :
    Calls Try.prog 5 #[.int .i64 (5), .int .i64 (0)] w fun x w' => x = .returned (.bool true) ∧ Below w.heap.size w w' := by
  have HB := Aside0.mk (Below.refl w.heap.size w)
  have HO := Aside0.mk (show phase_Over.f (5) = some true from by decide +kernel)
  have HP := Aside0.mk (show phase_Open.f (5) = some false from by decide +kernel)
  have HN := Aside0.mk (show phase_Next.f 20 (5) (0) = some (1, true) from by decide +kernel)
  have HS := Aside0.mk (show Hand.nameF (5) = (⟨#[114, 111, 108, 108, 101, 100, 45, 98, 97, 99, 107]⟩ : ByteArray) from by decide +kernel)
  have HQ := Aside0.mk (show phase_Open.f (1) = some true from by decide +kernel)
  go_enter Try.func5, Try.ntmps5
  go_wp2_with (first | (go_at_call 8; refine (pacesetterlaw11_lives.calls 20 true _ lives_20).mono ?_; rintro x_ w_ ⟨rfl, hb⟩; have n0_ := Aside0.mk (below_step (by repeat (first | (with_reducible first | exact HB.out | apply below_alloc | apply pw_below_drewN | apply below_drew1) | exact HB.out)) hb); clear HB; have HB := n0_; clear n0_; clear hb) | (go_at_call 13; refine (phase_Over.calls (5) true _ HO.out).mono ?_; rintro x_ w_ ⟨rfl, ⟨nd_, rfl⟩⟩) | (go_at_call 11; refine (phase_Next.calls 20 (5) (0) (1) true _ HN.out).mono ?_; rintro x_ w_ ⟨rfl, hb⟩; have n0_ := Aside0.mk (below_step (by repeat (first | (with_reducible first | exact HB.out | apply below_alloc | apply pw_below_drewN | apply below_drew1) | exact HB.out)) hb); clear HB; have HB := n0_; clear n0_; clear hb) | (go_at_call 14; refine (Hand.name_any _ (5)).mono ?_; rw [HS.out]; rintro x_ w_ ⟨rfl, hb⟩; have n0_ := Aside0.mk (below_step (by repeat (first | (with_reducible first | exact HB.out | apply below_alloc | apply pw_below_drewN | apply below_drew1) | exact HB.out)) hb); clear HB; have HB := n0_; clear n0_; clear hb) | (go_at_call 12; first | ((with_reducible refine (phase_Open.calls (5) false _ HP.out).mono ?_); rintro x_ w_ ⟨rfl, ⟨nd_, rfl⟩⟩) | ((with_reducible refine (phase_Open.calls (1) true _ HQ.out).mono ?_); rintro x_ w_ ⟨rfl, ⟨nd_, rfl⟩⟩)))
  all_goals (go_ret; exact ⟨rfl, by repeat (first | (with_reducible first | exact HB.out | apply below_alloc | apply pw_below_drewN | apply below_drew1) | exact HB.out)⟩)

set_option maxHeartbeats 1000000 in
set_option maxRecDepth 100000 in
theorem no_5 (e : Int) (w : World) (hn : phase_Next.f 20 5 e = some (5, false)) (he : e ≠ 0) :
    Calls Try.prog 5 #[.int .i64 (5), .int .i64 (e)] w fun x w' => x = .returned (.bool true) ∧ Below w.heap.size w w' := by
  have HB := Aside0.mk (Below.refl w.heap.size w)
  have h1 : (e == 0) = false := beq_eq_false_iff_ne.2 he
  have h2 : (e != 0) = true := bne_iff_ne.2 he
  have HO := Aside0.mk (show phase_Over.f (5) = some true from by decide +kernel)
  have HP := Aside0.mk (show phase_Open.f (5) = some false from by decide +kernel)
  have HN := Aside0.mk (show phase_Next.f 20 (5) (e) = some (5, false) from hn)
  have HS := Aside0.mk (show Hand.nameF (5) = (⟨#[114, 111, 108, 108, 101, 100, 45, 98, 97, 99, 107]⟩ : ByteArray) from by decide +kernel)
  clear hn he
  go_enter Try.func5, Try.ntmps5
  go_wp2_with (first | (go_at_call 8; refine (pacesetterlaw11_lives.calls 20 true _ lives_20).mono ?_; rintro x_ w_ ⟨rfl, hb⟩; have n0_ := Aside0.mk (below_step (by repeat (first | (with_reducible first | exact HB.out | apply below_alloc | apply pw_below_drewN | apply below_drew1) | exact HB.out)) hb); clear HB; have HB := n0_; clear n0_; clear hb) | (go_at_call 13; refine (phase_Over.calls (5) true _ HO.out).mono ?_; rintro x_ w_ ⟨rfl, ⟨nd_, rfl⟩⟩) | (go_at_call 11; refine (phase_Next.calls 20 (5) (e) (5) false _ HN.out).mono ?_; rintro x_ w_ ⟨rfl, hb⟩; have n0_ := Aside0.mk (below_step (by repeat (first | (with_reducible first | exact HB.out | apply below_alloc | apply pw_below_drewN | apply below_drew1) | exact HB.out)) hb); clear HB; have HB := n0_; clear n0_; clear hb) | (go_at_call 14; refine (Hand.name_any _ (5)).mono ?_; rw [HS.out]; rintro x_ w_ ⟨rfl, hb⟩; have n0_ := Aside0.mk (below_step (by repeat (first | (with_reducible first | exact HB.out | apply below_alloc | apply pw_below_drewN | apply below_drew1) | exact HB.out)) hb); clear HB; have HB := n0_; clear n0_; clear hb) | (go_at_call 12; first | ((with_reducible refine (phase_Open.calls (5) false _ HP.out).mono ?_); rintro x_ w_ ⟨rfl, ⟨nd_, rfl⟩⟩)))
  all_goals (go_ret; exact ⟨rfl, by repeat (first | (with_reducible first | exact HB.out | apply below_alloc | apply pw_below_drewN | apply below_drew1) | exact HB.out)⟩)

set_option maxHeartbeats 1000000 in
set_option maxRecDepth 100000 in
theorem out_lo (p e : Int) (w : World) (hp : p < 0) (he : e ≠ 0) :
    Calls Try.prog 5 #[.int .i64 (p), .int .i64 (e)] w fun x w' => x = .returned (.bool true) ∧ Below w.heap.size w w' := by
  have HB := Aside0.mk (Below.refl w.heap.size w)
  have g1 : ¬ 0 ≤ p := by omega
  have g3 : (p == 0) = false := beq_eq_false_iff_ne.2 (by omega)
  have h1 : (e == 0) = false := beq_eq_false_iff_ne.2 he
  have h2 : (e != 0) = true := bne_iff_ne.2 he
  have HO := Aside0.mk (show phase_Over.f (p) = some false from by unfold phase_Over.f; rw [if_neg (by omega)]; simp; omega)
  have HP := Aside0.mk (show phase_Open.f (p) = some false from by unfold phase_Open.f; rw [if_neg (by omega), if_neg (by omega)]; simp; omega)
  have HN := Aside0.mk (show phase_Next.f 20 (p) (e) = some (p, false) from by rw [next_eq 19, nextF_out (by omega)])
  have HS := Aside0.mk (show Hand.nameF (p) = (⟨#[]⟩ : ByteArray) from by unfold Hand.nameF; rw [if_neg (by omega)])
  clear he
  go_enter Try.func5, Try.ntmps5
  go_wp2_with (first | (go_at_call 8; refine (pacesetterlaw11_lives.calls 20 true _ lives_20).mono ?_; rintro x_ w_ ⟨rfl, hb⟩; have n0_ := Aside0.mk (below_step (by repeat (first | (with_reducible first | exact HB.out | apply below_alloc | apply pw_below_drewN | apply below_drew1) | exact HB.out)) hb); clear HB; have HB := n0_; clear n0_; clear hb) | (go_at_call 13; refine (phase_Over.calls (p) false _ HO.out).mono ?_; rintro x_ w_ ⟨rfl, ⟨nd_, rfl⟩⟩) | (go_at_call 11; refine (phase_Next.calls 20 (p) (e) (p) false _ HN.out).mono ?_; rintro x_ w_ ⟨rfl, hb⟩; have n0_ := Aside0.mk (below_step (by repeat (first | (with_reducible first | exact HB.out | apply below_alloc | apply pw_below_drewN | apply below_drew1) | exact HB.out)) hb); clear HB; have HB := n0_; clear n0_; clear hb) | (go_at_call 14; refine (Hand.name_any _ (p)).mono ?_; rw [HS.out]; rintro x_ w_ ⟨rfl, hb⟩; have n0_ := Aside0.mk (below_step (by repeat (first | (with_reducible first | exact HB.out | apply below_alloc | apply pw_below_drewN | apply below_drew1) | exact HB.out)) hb); clear HB; have HB := n0_; clear n0_; clear hb) | (go_at_call 12; first | ((with_reducible refine (phase_Open.calls (p) false _ HP.out).mono ?_); rintro x_ w_ ⟨rfl, ⟨nd_, rfl⟩⟩)))
  all_goals (go_ret; exact ⟨rfl, by repeat (first | (with_reducible first | exact HB.out | apply below_alloc | apply pw_below_drewN | apply below_drew1) | exact HB.out)⟩)

set_option maxHeartbeats 1000000 in
set_option maxRecDepth 100000 in
theorem out_lo_0 (p : Int) (w : World) (hp : p < 0) :
    Calls Try.prog 5 #[.int .i64 (p), .int .i64 (0)] w fun x w' => x = .returned (.bool true) ∧ Below w.heap.size w w' := by
  have HB := Aside0.mk (Below.refl w.heap.size w)
  have g1 : ¬ 0 ≤ p := by omega
  have g3 : (p == 0) = false := beq_eq_false_iff_ne.2 (by omega)
  have HO := Aside0.mk (show phase_Over.f (p) = some false from by unfold phase_Over.f; rw [if_neg (by omega)]; simp; omega)
  have HP := Aside0.mk (show phase_Open.f (p) = some false from by unfold phase_Open.f; rw [if_neg (by omega), if_neg (by omega)]; simp; omega)
  have HN := Aside0.mk (show phase_Next.f 20 (p) (0) = some (p, false) from by rw [next_eq 19, nextF_out (by omega)])
  have HS := Aside0.mk (show Hand.nameF (p) = (⟨#[]⟩ : ByteArray) from by unfold Hand.nameF; rw [if_neg (by omega)])
  go_enter Try.func5, Try.ntmps5
  go_wp2_with (first | (go_at_call 8; refine (pacesetterlaw11_lives.calls 20 true _ lives_20).mono ?_; rintro x_ w_ ⟨rfl, hb⟩; have n0_ := Aside0.mk (below_step (by repeat (first | (with_reducible first | exact HB.out | apply below_alloc | apply pw_below_drewN | apply below_drew1) | exact HB.out)) hb); clear HB; have HB := n0_; clear n0_; clear hb) | (go_at_call 13; refine (phase_Over.calls (p) false _ HO.out).mono ?_; rintro x_ w_ ⟨rfl, ⟨nd_, rfl⟩⟩) | (go_at_call 11; refine (phase_Next.calls 20 (p) (0) (p) false _ HN.out).mono ?_; rintro x_ w_ ⟨rfl, hb⟩; have n0_ := Aside0.mk (below_step (by repeat (first | (with_reducible first | exact HB.out | apply below_alloc | apply pw_below_drewN | apply below_drew1) | exact HB.out)) hb); clear HB; have HB := n0_; clear n0_; clear hb) | (go_at_call 14; refine (Hand.name_any _ (p)).mono ?_; rw [HS.out]; rintro x_ w_ ⟨rfl, hb⟩; have n0_ := Aside0.mk (below_step (by repeat (first | (with_reducible first | exact HB.out | apply below_alloc | apply pw_below_drewN | apply below_drew1) | exact HB.out)) hb); clear HB; have HB := n0_; clear n0_; clear hb) | (go_at_call 12; first | ((with_reducible refine (phase_Open.calls (p) false _ HP.out).mono ?_); rintro x_ w_ ⟨rfl, ⟨nd_, rfl⟩⟩)))
  all_goals (go_ret; exact ⟨rfl, by repeat (first | (with_reducible first | exact HB.out | apply below_alloc | apply pw_below_drewN | apply below_drew1) | exact HB.out)⟩)

set_option maxHeartbeats 1000000 in
set_option maxRecDepth 100000 in
theorem out_hi (p e : Int) (w : World) (hp : 5 < p) (he : e ≠ 0) :
    Calls Try.prog 5 #[.int .i64 (p), .int .i64 (e)] w fun x w' => x = .returned (.bool true) ∧ Below w.heap.size w w' := by
  have HB := Aside0.mk (Below.refl w.heap.size w)
  have g1 : 0 ≤ p := by omega
  have g2 : ¬ p ≤ 5 := by omega
  have g3 : (p == 0) = false := beq_eq_false_iff_ne.2 (by omega)
  have h1 : (e == 0) = false := beq_eq_false_iff_ne.2 he
  have h2 : (e != 0) = true := bne_iff_ne.2 he
  have HO := Aside0.mk (show phase_Over.f (p) = some false from by unfold phase_Over.f; rw [if_neg (by omega)]; simp; omega)
  have HP := Aside0.mk (show phase_Open.f (p) = some false from by unfold phase_Open.f; rw [if_neg (by omega), if_neg (by omega)]; simp; omega)
  have HN := Aside0.mk (show phase_Next.f 20 (p) (e) = some (p, false) from by rw [next_eq 19, nextF_out (by omega)])
  have HS := Aside0.mk (show Hand.nameF (p) = (⟨#[]⟩ : ByteArray) from by unfold Hand.nameF; rw [if_neg (by omega)])
  clear he
  go_enter Try.func5, Try.ntmps5
  go_wp2_with (first | (go_at_call 8; refine (pacesetterlaw11_lives.calls 20 true _ lives_20).mono ?_; rintro x_ w_ ⟨rfl, hb⟩; have n0_ := Aside0.mk (below_step (by repeat (first | (with_reducible first | exact HB.out | apply below_alloc | apply pw_below_drewN | apply below_drew1) | exact HB.out)) hb); clear HB; have HB := n0_; clear n0_; clear hb) | (go_at_call 13; refine (phase_Over.calls (p) false _ HO.out).mono ?_; rintro x_ w_ ⟨rfl, ⟨nd_, rfl⟩⟩) | (go_at_call 11; refine (phase_Next.calls 20 (p) (e) (p) false _ HN.out).mono ?_; rintro x_ w_ ⟨rfl, hb⟩; have n0_ := Aside0.mk (below_step (by repeat (first | (with_reducible first | exact HB.out | apply below_alloc | apply pw_below_drewN | apply below_drew1) | exact HB.out)) hb); clear HB; have HB := n0_; clear n0_; clear hb) | (go_at_call 14; refine (Hand.name_any _ (p)).mono ?_; rw [HS.out]; rintro x_ w_ ⟨rfl, hb⟩; have n0_ := Aside0.mk (below_step (by repeat (first | (with_reducible first | exact HB.out | apply below_alloc | apply pw_below_drewN | apply below_drew1) | exact HB.out)) hb); clear HB; have HB := n0_; clear n0_; clear hb) | (go_at_call 12; first | ((with_reducible refine (phase_Open.calls (p) false _ HP.out).mono ?_); rintro x_ w_ ⟨rfl, ⟨nd_, rfl⟩⟩)))
  all_goals (go_ret; exact ⟨rfl, by repeat (first | (with_reducible first | exact HB.out | apply below_alloc | apply pw_below_drewN | apply below_drew1) | exact HB.out)⟩)

set_option maxHeartbeats 1000000 in
set_option maxRecDepth 100000 in
theorem out_hi_0 (p : Int) (w : World) (hp : 5 < p) :
    Calls Try.prog 5 #[.int .i64 (p), .int .i64 (0)] w fun x w' => x = .returned (.bool true) ∧ Below w.heap.size w w' := by
  have HB := Aside0.mk (Below.refl w.heap.size w)
  have g1 : 0 ≤ p := by omega
  have g2 : ¬ p ≤ 5 := by omega
  have g3 : (p == 0) = false := beq_eq_false_iff_ne.2 (by omega)
  have HO := Aside0.mk (show phase_Over.f (p) = some false from by unfold phase_Over.f; rw [if_neg (by omega)]; simp; omega)
  have HP := Aside0.mk (show phase_Open.f (p) = some false from by unfold phase_Open.f; rw [if_neg (by omega), if_neg (by omega)]; simp; omega)
  have HN := Aside0.mk (show phase_Next.f 20 (p) (0) = some (p, false) from by rw [next_eq 19, nextF_out (by omega)])
  have HS := Aside0.mk (show Hand.nameF (p) = (⟨#[]⟩ : ByteArray) from by unfold Hand.nameF; rw [if_neg (by omega)])
  go_enter Try.func5, Try.ntmps5
  go_wp2_with (first | (go_at_call 8; refine (pacesetterlaw11_lives.calls 20 true _ lives_20).mono ?_; rintro x_ w_ ⟨rfl, hb⟩; have n0_ := Aside0.mk (below_step (by repeat (first | (with_reducible first | exact HB.out | apply below_alloc | apply pw_below_drewN | apply below_drew1) | exact HB.out)) hb); clear HB; have HB := n0_; clear n0_; clear hb) | (go_at_call 13; refine (phase_Over.calls (p) false _ HO.out).mono ?_; rintro x_ w_ ⟨rfl, ⟨nd_, rfl⟩⟩) | (go_at_call 11; refine (phase_Next.calls 20 (p) (0) (p) false _ HN.out).mono ?_; rintro x_ w_ ⟨rfl, hb⟩; have n0_ := Aside0.mk (below_step (by repeat (first | (with_reducible first | exact HB.out | apply below_alloc | apply pw_below_drewN | apply below_drew1) | exact HB.out)) hb); clear HB; have HB := n0_; clear n0_; clear hb) | (go_at_call 14; refine (Hand.name_any _ (p)).mono ?_; rw [HS.out]; rintro x_ w_ ⟨rfl, hb⟩; have n0_ := Aside0.mk (below_step (by repeat (first | (with_reducible first | exact HB.out | apply below_alloc | apply pw_below_drewN | apply below_drew1) | exact HB.out)) hb); clear HB; have HB := n0_; clear n0_; clear hb) | (go_at_call 12; first | ((with_reducible refine (phase_Open.calls (p) false _ HP.out).mono ?_); rintro x_ w_ ⟨rfl, ⟨nd_, rfl⟩⟩)))
  all_goals (go_ret; exact ⟨rfl, by repeat (first | (with_reducible first | exact HB.out | apply below_alloc | apply pw_below_drewN | apply below_drew1) | exact HB.out)⟩)

theorem negs : ∀ n : Nat, n < 6 → ∀ m : Nat, m < 9 → (nextF n m).2 = false → nextF n m = ((n : Int), false) := by decide +kernel
theorem open_any (p e : Int) (w : World) : Calls Try.prog 5 #[.int .i64 p, .int .i64 e] w fun x w' => x = .returned (.bool true) ∧ Below w.heap.size w w' := by
  by_cases hl : p < 0
  · by_cases he : e = 0
    · subst he; exact out_lo_0 p w hl
    · exact out_lo p e w hl he
  by_cases hh : 5 < p
  · by_cases he : e = 0
    · subst he; exact out_hi_0 p w hh
    · exact out_hi p e w hh he
  obtain ⟨n, rfl⟩ := Int.eq_ofNat_of_zero_le (show 0 ≤ p by omega)
  have hn : n < 6 := by omega
  by_cases hy : (nextF n e).2 = true
  · have hr : 0 ≤ e ∧ e < 9 := by
      by_cases c : 0 ≤ e ∧ e < 9
      · exact c
      · rw [nextF_out (by omega)] at hy; simp at hy
    obtain ⟨m, rfl⟩ := Int.eq_ofNat_of_zero_le hr.1
    have hm : m = 0 ∨ m = 1 ∨ m = 2 ∨ m = 3 ∨ m = 4 ∨ m = 5 ∨ m = 6 ∨ m = 7 ∨ m = 8 := by omega
    have hc : n = 0 ∨ n = 1 ∨ n = 2 ∨ n = 3 ∨ n = 4 ∨ n = 5 := by omega
    rcases hc with rfl | rfl | rfl | rfl | rfl | rfl <;> rcases hm with rfl | rfl | rfl | rfl | rfl | rfl | rfl | rfl | rfl
    · exact at_0_0 w
    · exact absurd hy (by decide +kernel)
    · exact absurd hy (by decide +kernel)
    · exact absurd hy (by decide +kernel)
    · exact absurd hy (by decide +kernel)
    · exact absurd hy (by decide +kernel)
    · exact absurd hy (by decide +kernel)
    · exact absurd hy (by decide +kernel)
    · exact absurd hy (by decide +kernel)
    · exact absurd hy (by decide +kernel)
    · exact at_1_1 w
    · exact absurd hy (by decide +kernel)
    · exact at_1_3 w
    · exact at_1_4 w
    · exact at_1_5 w
    · exact at_1_6 w
    · exact at_1_7 w
    · exact absurd hy (by decide +kernel)
    · exact absurd hy (by decide +kernel)
    · exact absurd hy (by decide +kernel)
    · exact at_2_2 w
    · exact absurd hy (by decide +kernel)
    · exact absurd hy (by decide +kernel)
    · exact absurd hy (by decide +kernel)
    · exact at_2_6 w
    · exact absurd hy (by decide +kernel)
    · exact absurd hy (by decide +kernel)
    · exact at_3_0 w
    · exact absurd hy (by decide +kernel)
    · exact absurd hy (by decide +kernel)
    · exact absurd hy (by decide +kernel)
    · exact absurd hy (by decide +kernel)
    · exact absurd hy (by decide +kernel)
    · exact absurd hy (by decide +kernel)
    · exact absurd hy (by decide +kernel)
    · exact absurd hy (by decide +kernel)
    · exact absurd hy (by decide +kernel)
    · exact absurd hy (by decide +kernel)
    · exact absurd hy (by decide +kernel)
    · exact absurd hy (by decide +kernel)
    · exact absurd hy (by decide +kernel)
    · exact absurd hy (by decide +kernel)
    · exact absurd hy (by decide +kernel)
    · exact absurd hy (by decide +kernel)
    · exact at_4_8 w
    · exact at_5_0 w
    · exact absurd hy (by decide +kernel)
    · exact absurd hy (by decide +kernel)
    · exact absurd hy (by decide +kernel)
    · exact absurd hy (by decide +kernel)
    · exact absurd hy (by decide +kernel)
    · exact absurd hy (by decide +kernel)
    · exact absurd hy (by decide +kernel)
    · exact absurd hy (by decide +kernel)
  · have hq : nextF n e = ((n : Int), false) := by
      by_cases c : 0 ≤ e ∧ e < 9
      · obtain ⟨m, rfl⟩ := Int.eq_ofNat_of_zero_le c.1
        exact negs n hn m (by omega) (by simpa using hy)
      · exact nextF_out (by omega)
    have hk : phase_Next.f 20 n e = some ((n : Int), false) := by rw [next_eq 19, hq]
    clear hq hy
    have hc : n = 0 ∨ n = 1 ∨ n = 2 ∨ n = 3 ∨ n = 4 ∨ n = 5 := by omega
    by_cases he : e = 0
    · subst he
      rcases hc with rfl | rfl | rfl | rfl | rfl | rfl
      · exact absurd hk (by decide +kernel)
      · exact no_1_0 w
      · exact no_2_0 w
      · exact absurd hk (by decide +kernel)
      · exact no_4_0 w
      · exact absurd hk (by decide +kernel)
    · rcases hc with rfl | rfl | rfl | rfl | rfl | rfl
      · exact no_0 e w hk he
      · exact no_1 e w hk he
      · exact no_2 e w hk he
      · exact no_3 e w hk he
      · exact no_4 e w hk he
      · exact no_5 e w hk he
end Go.Proofs.Ytcfppmjlljdaiaa.OpenWalk
