-- Printed by a program of this session (wip/patch_print.py over the kit's print); Lean checks it.
import Derived.Test.YtcfppmjlljdaiaaPrint0
namespace Go.Proofs.Ytcfppmjlljdaiaa.Print
open Go.RowKit Go.Proofs.YtcfppmjlljdaiaaW.PrintWords Go.Proofs.YtcfppmjlljdaiaaW.PrintLast Go.Proofs.YtcfppmjlljdaiaaW.PrintMore
attribute [local go_sem] max2_int min2_int max_two min_two max_three min_three max_four min_four   -- for this text's walks alone
set_option linter.unusedVariables false
set_option linter.unusedSimpArgs false

/-! ### pacesetterref11_Next: function 15 -/
def pacesetterref11_Next.j0 : Nat → Int → Int → Bool → Option (Int × Bool)
  | 0, _, _, _ => none
  | k + 1, x0, x6, x31 => if x31 = true then (if x0 = 1 then (some (4, true)) else (some (x0, false))) else (if x6 = 6 then (if x0 = 1 then (some (4, true)) else (if x0 = 2 then (some (4, true)) else (some (x0, false)))) else (if x6 = 7 then (if x0 = 1 then (some (3, true)) else (some (x0, false))) else (if x6 = 8 then (if x0 = 4 then (some (5, true)) else (some (x0, false))) else (some (x0, false)))))
def pacesetterref11_Next.f (k : Nat) (a0 : Int) (a1 : Int) : Option (Int × Bool) := if a1 = 0 then (if a0 = 0 then (some (1, true)) else (if a0 = 3 then (some (1, true)) else (if a0 = 5 then (some (1, true)) else (some (a0, false))))) else (if a1 = 1 then (if a0 = 1 then (some (2, true)) else (some (a0, false))) else (if a1 = 2 then (if a0 = 2 then (some (1, true)) else (some (a0, false))) else (if a1 = 3 then (if a0 = 1 then (some (1, true)) else (some (a0, false))) else (if a1 = 4 then (pacesetterref11_Next.j0 k a0 a1 (a1 == 4)) else (pacesetterref11_Next.j0 k a0 a1 (a1 == 5))))))
theorem pacesetterref11_Next.mono_l : ∀ k, (∀ y0 y1 y2, LeO (pacesetterref11_Next.j0 k y0 y1 y2) (pacesetterref11_Next.j0 (k + 1) y0 y1 y2))
  | 0 => fun _ _ _ r h => by simp [pacesetterref11_Next.j0] at h
  | k + 1 => by
    have ih0 := pacesetterref11_Next.mono_l k
    · intro y0 y1 y2
      unfold pacesetterref11_Next.j0
      repeat' first
      | (with_reducible exact ih0 _ _ _)
      | (with_reducible exact LeO.refl _)
      | (with_reducible exact LeO.none _)
      | (with_reducible refine LeO.ite ?_ ?_)
      | (with_reducible refine LeO.bind ?_ (fun _ => ?_))
      | exact ih0 _ _ _
      | exact LeO.none _
      | refine LeO.ite ?_ ?_
      | refine LeO.bind ?_ (fun _ => ?_)
theorem pacesetterref11_Next.mono : ∀ a0 a1 k, LeO (pacesetterref11_Next.f k a0 a1) (pacesetterref11_Next.f (k + 1) a0 a1) := by
  intro a0 a1 k
  have ih0 := pacesetterref11_Next.mono_l k
  unfold pacesetterref11_Next.f
  repeat' first
      | (with_reducible exact ih0 _ _ _)
      | (with_reducible exact LeO.refl _)
      | (with_reducible exact LeO.none _)
      | (with_reducible refine LeO.ite ?_ ?_)
      | (with_reducible refine LeO.bind ?_ (fun _ => ?_))
      | exact ih0 _ _ _
      | exact LeO.none _
      | refine LeO.ite ?_ ?_
      | refine LeO.bind ?_ (fun _ => ?_)
set_option maxHeartbeats 8000000 in
set_option maxRecDepth 100000 in
theorem pacesetterref11_Next.calls (k : Nat) (a0 : Int) (a1 : Int) (r1 : Int) (r2 : Bool) (w : World) (h : pacesetterref11_Next.f k a0 a1 = some (r1, r2)) :
    Calls Try.prog 15 #[.int .i64 a0, .int .i64 a1] w fun e w' => e = .returned (.tuple #[.int .i64 r1, .bool r2]) ∧ Drawn0 w w' := by
  have H : (if a1 = 0 then (if a0 = 0 then (some (1, true)) else (if a0 = 3 then (some (1, true)) else (if a0 = 5 then (some (1, true)) else (some (a0, false))))) else (if a1 = 1 then (if a0 = 1 then (some (2, true)) else (some (a0, false))) else (if a1 = 2 then (if a0 = 2 then (some (1, true)) else (some (a0, false))) else (if a1 = 3 then (if a0 = 1 then (some (1, true)) else (some (a0, false))) else (if a1 = 4 then (pacesetterref11_Next.j0 k a0 a1 (a1 == 4)) else (pacesetterref11_Next.j0 k a0 a1 (a1 == 5))))))) = some (r1, r2) := h
  clear h
  by_cases c3 : a1 = 0
  · rw [if_pos c3] at H
    have c3b0 : (a1 == 0) = true := beq_iff_eq.mpr c3
    have c3b1 : (a1 != 0) = false := bne_eq_false_iff_eq.mpr c3
    clear c3
    by_cases c4 : a0 = 0
    · rw [if_pos c4] at H
      have c4b0 : (a0 == 0) = true := beq_iff_eq.mpr c4
      have c4b1 : (a0 != 0) = false := bne_eq_false_iff_eq.mpr c4
      clear c4
      simp only [Option.some.injEq, Prod.mk.injEq] at H
      obtain ⟨rfl, rfl⟩ := H
      go_enter Try.func15, Try.ntmps15
      go_wp2
      go_ret2
      exact ⟨by first | rfl | (simp; done) | (simp [*]; done), by repeat (first | exact Drawn0.refl _ | apply Drawn0.step)⟩
    · rw [if_neg c4] at H
      have c4b0 : (a0 == 0) = false := beq_eq_false_iff_ne.mpr c4
      have c4b1 : (a0 != 0) = true := bne_iff_ne.mpr c4
      by_cases c5 : a0 = 3
      · rw [if_pos c5] at H
        have c5b0 : (a0 == 3) = true := beq_iff_eq.mpr c5
        have c5b1 : (a0 != 3) = false := bne_eq_false_iff_eq.mpr c5
        clear c5
        simp only [Option.some.injEq, Prod.mk.injEq] at H
        obtain ⟨rfl, rfl⟩ := H
        go_enter Try.func15, Try.ntmps15
        go_wp2
        go_ret2
        exact ⟨by first | rfl | (simp; done) | (simp [*]; done), by repeat (first | exact Drawn0.refl _ | apply Drawn0.step)⟩
      · rw [if_neg c5] at H
        have c5b0 : (a0 == 3) = false := beq_eq_false_iff_ne.mpr c5
        have c5b1 : (a0 != 3) = true := bne_iff_ne.mpr c5
        by_cases c6 : a0 = 5
        · rw [if_pos c6] at H
          have c6b0 : (a0 == 5) = true := beq_iff_eq.mpr c6
          have c6b1 : (a0 != 5) = false := bne_eq_false_iff_eq.mpr c6
          clear c6
          simp only [Option.some.injEq, Prod.mk.injEq] at H
          obtain ⟨rfl, rfl⟩ := H
          go_enter Try.func15, Try.ntmps15
          go_wp2
          go_ret2
          exact ⟨by first | rfl | (simp; done) | (simp [*]; done), by repeat (first | exact Drawn0.refl _ | apply Drawn0.step)⟩
        · rw [if_neg c6] at H
          have c6b0 : (a0 == 5) = false := beq_eq_false_iff_ne.mpr c6
          have c6b1 : (a0 != 5) = true := bne_iff_ne.mpr c6
          simp only [Option.some.injEq, Prod.mk.injEq] at H
          obtain ⟨rfl, rfl⟩ := H
          go_enter Try.func15, Try.ntmps15
          go_wp2
          go_ret2
          exact ⟨by first | rfl | (simp; done) | (simp [*]; done), by repeat (first | exact Drawn0.refl _ | apply Drawn0.step)⟩
  · rw [if_neg c3] at H
    have c3b0 : (a1 == 0) = false := beq_eq_false_iff_ne.mpr c3
    have c3b1 : (a1 != 0) = true := bne_iff_ne.mpr c3
    by_cases c7 : a1 = 1
    · rw [if_pos c7] at H
      have c7b0 : (a1 == 1) = true := beq_iff_eq.mpr c7
      have c7b1 : (a1 != 1) = false := bne_eq_false_iff_eq.mpr c7
      clear c7
      by_cases c8 : a0 = 1
      · rw [if_pos c8] at H
        have c8b0 : (a0 == 1) = true := beq_iff_eq.mpr c8
        have c8b1 : (a0 != 1) = false := bne_eq_false_iff_eq.mpr c8
        clear c8
        simp only [Option.some.injEq, Prod.mk.injEq] at H
        obtain ⟨rfl, rfl⟩ := H
        go_enter Try.func15, Try.ntmps15
        go_wp2
        go_ret2
        exact ⟨by first | rfl | (simp; done) | (simp [*]; done), by repeat (first | exact Drawn0.refl _ | apply Drawn0.step)⟩
      · rw [if_neg c8] at H
        have c8b0 : (a0 == 1) = false := beq_eq_false_iff_ne.mpr c8
        have c8b1 : (a0 != 1) = true := bne_iff_ne.mpr c8
        simp only [Option.some.injEq, Prod.mk.injEq] at H
        obtain ⟨rfl, rfl⟩ := H
        go_enter Try.func15, Try.ntmps15
        go_wp2
        go_ret2
        exact ⟨by first | rfl | (simp; done) | (simp [*]; done), by repeat (first | exact Drawn0.refl _ | apply Drawn0.step)⟩
    · rw [if_neg c7] at H
      have c7b0 : (a1 == 1) = false := beq_eq_false_iff_ne.mpr c7
      have c7b1 : (a1 != 1) = true := bne_iff_ne.mpr c7
      by_cases c9 : a1 = 2
      · rw [if_pos c9] at H
        have c9b0 : (a1 == 2) = true := beq_iff_eq.mpr c9
        have c9b1 : (a1 != 2) = false := bne_eq_false_iff_eq.mpr c9
        clear c9
        by_cases c10 : a0 = 2
        · rw [if_pos c10] at H
          have c10b0 : (a0 == 2) = true := beq_iff_eq.mpr c10
          have c10b1 : (a0 != 2) = false := bne_eq_false_iff_eq.mpr c10
          clear c10
          simp only [Option.some.injEq, Prod.mk.injEq] at H
          obtain ⟨rfl, rfl⟩ := H
          go_enter Try.func15, Try.ntmps15
          go_wp2
          go_ret2
          exact ⟨by first | rfl | (simp; done) | (simp [*]; done), by repeat (first | exact Drawn0.refl _ | apply Drawn0.step)⟩
        · rw [if_neg c10] at H
          have c10b0 : (a0 == 2) = false := beq_eq_false_iff_ne.mpr c10
          have c10b1 : (a0 != 2) = true := bne_iff_ne.mpr c10
          simp only [Option.some.injEq, Prod.mk.injEq] at H
          obtain ⟨rfl, rfl⟩ := H
          go_enter Try.func15, Try.ntmps15
          go_wp2
          go_ret2
          exact ⟨by first | rfl | (simp; done) | (simp [*]; done), by repeat (first | exact Drawn0.refl _ | apply Drawn0.step)⟩
      · rw [if_neg c9] at H
        have c9b0 : (a1 == 2) = false := beq_eq_false_iff_ne.mpr c9
        have c9b1 : (a1 != 2) = true := bne_iff_ne.mpr c9
        by_cases c11 : a1 = 3
        · rw [if_pos c11] at H
          have c11b0 : (a1 == 3) = true := beq_iff_eq.mpr c11
          have c11b1 : (a1 != 3) = false := bne_eq_false_iff_eq.mpr c11
          clear c11
          by_cases c12 : a0 = 1
          · rw [if_pos c12] at H
            have c12b0 : (a0 == 1) = true := beq_iff_eq.mpr c12
            have c12b1 : (a0 != 1) = false := bne_eq_false_iff_eq.mpr c12
            clear c12
            simp only [Option.some.injEq, Prod.mk.injEq] at H
            obtain ⟨rfl, rfl⟩ := H
            go_enter Try.func15, Try.ntmps15
            go_wp2
            go_ret2
            exact ⟨by first | rfl | (simp; done) | (simp [*]; done), by repeat (first | exact Drawn0.refl _ | apply Drawn0.step)⟩
          · rw [if_neg c12] at H
            have c12b0 : (a0 == 1) = false := beq_eq_false_iff_ne.mpr c12
            have c12b1 : (a0 != 1) = true := bne_iff_ne.mpr c12
            simp only [Option.some.injEq, Prod.mk.injEq] at H
            obtain ⟨rfl, rfl⟩ := H
            go_enter Try.func15, Try.ntmps15
            go_wp2
            go_ret2
            exact ⟨by first | rfl | (simp; done) | (simp [*]; done), by repeat (first | exact Drawn0.refl _ | apply Drawn0.step)⟩
        · rw [if_neg c11] at H
          have c11b0 : (a1 == 3) = false := beq_eq_false_iff_ne.mpr c11
          have c11b1 : (a1 != 3) = true := bne_iff_ne.mpr c11
          have HC13 := Aside0.mk H
          clear H
          go_enter Try.func15, Try.ntmps15
          go_upto_if 31 with (fail)
          go_cut [31] (fun v31 wc => ∃ (kq : Nat) (x31_12 : Bool), v31 = .bool x31_12 ∧ Aside0 (pacesetterref11_Next.j0 kq a0 a1 x31_12 = some (r1, r2)) ∧ Aside0 (kq ≤ k) ∧ Drawn0 w wc)
          case first =>
            have H := HC13.out
            clear HC13
            by_cases c14 : a1 = 4
            · rw [if_pos c14] at H
              have c14b0 : (a1 == 4) = true := beq_iff_eq.mpr c14
              have c14b1 : (a1 != 4) = false := bne_eq_false_iff_eq.mpr c14
              clear c14
              (first | rw [c14b0] | (simp only [i64_w, i32_w]; rw [c14b0]) | skip)
              have H' := Aside0.mk H
              clear H
              go_wp2
              go_meet
              case rel => exact ⟨_, ((a1 == 4)), (by first | rfl | (simp; done) | (simp [*]; done)), H', ⟨by first | omega | exact Nat.le_refl _⟩, by repeat (first | exact Drawn0.refl _ | apply Drawn0.step)⟩
            · rw [if_neg c14] at H
              have c14b0 : (a1 == 4) = false := beq_eq_false_iff_ne.mpr c14
              have c14b1 : (a1 != 4) = true := bne_iff_ne.mpr c14
              (first | rw [c14b0] | (simp only [i64_w, i32_w]; rw [c14b0]) | skip)
              have H' := Aside0.mk H
              clear H
              go_wp2
              go_meet
              case rel => exact ⟨_, ((a1 == 5)), (by first | rfl | (simp; done) | (simp [*]; done)), H', ⟨by first | omega | exact Nat.le_refl _⟩, by repeat (first | exact Drawn0.refl _ | apply Drawn0.step)⟩
          case rest =>
            clear HC13
            try clear c1
            try clear p2
            try clear c3
            try clear c3b0
            try clear c3b1
            try clear c4
            try clear c4b0
            try clear c4b1
            try clear c5
            try clear c5b0
            try clear c5b1
            try clear c6
            try clear c6b0
            try clear c6b1
            try clear c7
            try clear c7b0
            try clear c7b1
            try clear c8
            try clear c8b0
            try clear c8b1
            try clear c9
            try clear c9b0
            try clear c9b1
            try clear c10
            try clear c10b0
            try clear c10b1
            try clear c11
            try clear c11b0
            try clear c11b1
            try clear c12
            try clear c12b0
            try clear c12b1
            try clear c14
            try clear c14b0
            try clear c14b1
            obtain ⟨kq, x31_12, rfl, HA, HJ12, ⟨mc12, rfl⟩⟩ := hcut
            cases kq with
            | zero => exact absurd HA.out (by simp [pacesetterref11_Next.j0])
            | succ kj12 =>
              have H := HA.out
              clear HA
              simp only [pacesetterref11_Next.j0] at H
              by_cases c15 : x31_12 = true
              · subst c15
                have H1 : (if a0 = 1 then (some (4, true)) else (some (a0, false))) = some (r1, r2) := by rw [if_pos rfl] at H; exact H
                clear H
                have H := H1
                clear H1
                by_cases c16 : a0 = 1
                · rw [if_pos c16] at H
                  have c16b0 : (a0 == 1) = true := beq_iff_eq.mpr c16
                  have c16b1 : (a0 != 1) = false := bne_eq_false_iff_eq.mpr c16
                  clear c16
                  simp only [Option.some.injEq, Prod.mk.injEq] at H
                  obtain ⟨rfl, rfl⟩ := H
                  go_wp2
                  go_ret2
                  exact ⟨by first | rfl | (simp; done) | (simp [*]; done), by repeat (first | exact Drawn0.refl _ | apply Drawn0.step)⟩
                · rw [if_neg c16] at H
                  have c16b0 : (a0 == 1) = false := beq_eq_false_iff_ne.mpr c16
                  have c16b1 : (a0 != 1) = true := bne_iff_ne.mpr c16
                  simp only [Option.some.injEq, Prod.mk.injEq] at H
                  obtain ⟨rfl, rfl⟩ := H
                  go_wp2
                  go_ret2
                  exact ⟨by first | rfl | (simp; done) | (simp [*]; done), by repeat (first | exact Drawn0.refl _ | apply Drawn0.step)⟩
              · replace c15 := Bool.eq_false_iff.mpr c15
                subst c15
                have H1 : (if a1 = 6 then (if a0 = 1 then (some (4, true)) else (if a0 = 2 then (some (4, true)) else (some (a0, false)))) else (if a1 = 7 then (if a0 = 1 then (some (3, true)) else (some (a0, false))) else (if a1 = 8 then (if a0 = 4 then (some (5, true)) else (some (a0, false))) else (some (a0, false))))) = some (r1, r2) := by rw [if_neg (show ¬ (false = true) by decide)] at H; exact H
                clear H
                have H := H1
                clear H1
                by_cases c17 : a1 = 6
                · rw [if_pos c17] at H
                  have c17b0 : (a1 == 6) = true := beq_iff_eq.mpr c17
                  have c17b1 : (a1 != 6) = false := bne_eq_false_iff_eq.mpr c17
                  clear c17
                  by_cases c18 : a0 = 1
                  · rw [if_pos c18] at H
                    have c18b0 : (a0 == 1) = true := beq_iff_eq.mpr c18
                    have c18b1 : (a0 != 1) = false := bne_eq_false_iff_eq.mpr c18
                    clear c18
                    simp only [Option.some.injEq, Prod.mk.injEq] at H
                    obtain ⟨rfl, rfl⟩ := H
                    go_wp2
                    go_ret2
                    exact ⟨by first | rfl | (simp; done) | (simp [*]; done), by repeat (first | exact Drawn0.refl _ | apply Drawn0.step)⟩
                  · rw [if_neg c18] at H
                    have c18b0 : (a0 == 1) = false := beq_eq_false_iff_ne.mpr c18
                    have c18b1 : (a0 != 1) = true := bne_iff_ne.mpr c18
                    by_cases c19 : a0 = 2
                    · rw [if_pos c19] at H
                      have c19b0 : (a0 == 2) = true := beq_iff_eq.mpr c19
                      have c19b1 : (a0 != 2) = false := bne_eq_false_iff_eq.mpr c19
                      clear c19
                      simp only [Option.some.injEq, Prod.mk.injEq] at H
                      obtain ⟨rfl, rfl⟩ := H
                      go_wp2
                      go_ret2
                      exact ⟨by first | rfl | (simp; done) | (simp [*]; done), by repeat (first | exact Drawn0.refl _ | apply Drawn0.step)⟩
                    · rw [if_neg c19] at H
                      have c19b0 : (a0 == 2) = false := beq_eq_false_iff_ne.mpr c19
                      have c19b1 : (a0 != 2) = true := bne_iff_ne.mpr c19
                      simp only [Option.some.injEq, Prod.mk.injEq] at H
                      obtain ⟨rfl, rfl⟩ := H
                      go_wp2
                      go_ret2
                      exact ⟨by first | rfl | (simp; done) | (simp [*]; done), by repeat (first | exact Drawn0.refl _ | apply Drawn0.step)⟩
                · rw [if_neg c17] at H
                  have c17b0 : (a1 == 6) = false := beq_eq_false_iff_ne.mpr c17
                  have c17b1 : (a1 != 6) = true := bne_iff_ne.mpr c17
                  by_cases c20 : a1 = 7
                  · rw [if_pos c20] at H
                    have c20b0 : (a1 == 7) = true := beq_iff_eq.mpr c20
                    have c20b1 : (a1 != 7) = false := bne_eq_false_iff_eq.mpr c20
                    clear c20
                    by_cases c21 : a0 = 1
                    · rw [if_pos c21] at H
                      have c21b0 : (a0 == 1) = true := beq_iff_eq.mpr c21
                      have c21b1 : (a0 != 1) = false := bne_eq_false_iff_eq.mpr c21
                      clear c21
                      simp only [Option.some.injEq, Prod.mk.injEq] at H
                      obtain ⟨rfl, rfl⟩ := H
                      go_wp2
                      go_ret2
                      exact ⟨by first | rfl | (simp; done) | (simp [*]; done), by repeat (first | exact Drawn0.refl _ | apply Drawn0.step)⟩
                    · rw [if_neg c21] at H
                      have c21b0 : (a0 == 1) = false := beq_eq_false_iff_ne.mpr c21
                      have c21b1 : (a0 != 1) = true := bne_iff_ne.mpr c21
                      simp only [Option.some.injEq, Prod.mk.injEq] at H
                      obtain ⟨rfl, rfl⟩ := H
                      go_wp2
                      go_ret2
                      exact ⟨by first | rfl | (simp; done) | (simp [*]; done), by repeat (first | exact Drawn0.refl _ | apply Drawn0.step)⟩
                  · rw [if_neg c20] at H
                    have c20b0 : (a1 == 7) = false := beq_eq_false_iff_ne.mpr c20
                    have c20b1 : (a1 != 7) = true := bne_iff_ne.mpr c20
                    by_cases c22 : a1 = 8
                    · rw [if_pos c22] at H
                      have c22b0 : (a1 == 8) = true := beq_iff_eq.mpr c22
                      have c22b1 : (a1 != 8) = false := bne_eq_false_iff_eq.mpr c22
                      clear c22
                      by_cases c23 : a0 = 4
                      · rw [if_pos c23] at H
                        have c23b0 : (a0 == 4) = true := beq_iff_eq.mpr c23
                        have c23b1 : (a0 != 4) = false := bne_eq_false_iff_eq.mpr c23
                        clear c23
                        simp only [Option.some.injEq, Prod.mk.injEq] at H
                        obtain ⟨rfl, rfl⟩ := H
                        go_wp2
                        go_ret2
                        exact ⟨by first | rfl | (simp; done) | (simp [*]; done), by repeat (first | exact Drawn0.refl _ | apply Drawn0.step)⟩
                      · rw [if_neg c23] at H
                        have c23b0 : (a0 == 4) = false := beq_eq_false_iff_ne.mpr c23
                        have c23b1 : (a0 != 4) = true := bne_iff_ne.mpr c23
                        simp only [Option.some.injEq, Prod.mk.injEq] at H
                        obtain ⟨rfl, rfl⟩ := H
                        go_wp2
                        go_ret2
                        exact ⟨by first | rfl | (simp; done) | (simp [*]; done), by repeat (first | exact Drawn0.refl _ | apply Drawn0.step)⟩
                    · rw [if_neg c22] at H
                      have c22b0 : (a1 == 8) = false := beq_eq_false_iff_ne.mpr c22
                      have c22b1 : (a1 != 8) = true := bne_iff_ne.mpr c22
                      simp only [Option.some.injEq, Prod.mk.injEq] at H
                      obtain ⟨rfl, rfl⟩ := H
                      go_wp2
                      go_ret2
                      exact ⟨by first | rfl | (simp; done) | (simp [*]; done), by repeat (first | exact Drawn0.refl _ | apply Drawn0.step)⟩

end Go.Proofs.Ytcfppmjlljdaiaa.Print
