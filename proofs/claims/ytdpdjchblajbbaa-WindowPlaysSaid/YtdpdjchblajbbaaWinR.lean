/- The second reading's window (pacesetterref17), by hand. -/
import Derived.Test.YtdpdjchblajbbaaWinS
namespace Go.Proofs.Ytdpdjchblajbbaa.Hand
open Go Go.RowKit Go.Proofs.YtdpdjchblajbbaaW.PrintLast Go.Proofs.YtdpdjchblajbbaaW.PrintWords Go.Proofs.YtdpdjchblajbbaaW.PrintMore
set_option linter.unusedVariables false
set_option linter.unusedSimpArgs false
attribute [local go_sem] max2_int min2_int max_two min_two guard_tl
set_option maxRecDepth 100000 in
theorem refNew_any (x y : Int) (w : World) : Calls Try.prog 19 #[.int .i64 x, .int .i64 y] w fun e w' => e = .returned (.agg #[.int .i64 (sinceOf x), .int .i64 (spanOf y), .int .i64 0, .int .i64 0]) ∧ Below w.heap.size w w' := by
  obtain ⟨M, hM⟩ : ∃ M : Int, (if x < 0 then 0 else x) = M := ⟨_, rfl⟩
  obtain ⟨N, hN⟩ : ∃ N : Int, (if y < 1 then 1 else y) = N := ⟨_, rfl⟩
  have h1 := since_mm x
  have h2 := span_mm y
  rw [hM] at h1
  rw [hN] at h2
  go_enter Try.func19, Try.ntmps19
  go_wp2
  exact bodyPost_ret (v := .agg #[.int .i64 (sinceOf x), .int .i64 (spanOf y), .int .i64 0, .int .i64 0]) (by simp [results, Try.results19, go_sem]) rfl ⟨rfl, below_alloc (Below.refl _ _) _⟩
/-- What bounds a window's numbers. -/
structure Num (since span : Int) (a b : Nat) : Prop where
  s0 : 0 ≤ since
  s1 : since ≤ 1099511627776
  p0 : 1 ≤ span
  p1 : span ≤ 1048576
  a1 : a ≤ 100000
  b1 : b ≤ 100000
section
variable {since span : Int} {a b : Nat}
set_option maxRecDepth 100000 in
theorem refOver_any (h : Num since span a b) (now : Int) (w : World) : Calls Try.prog 25 #[.agg #[.int .i64 since, .int .i64 span, .int .i64 (a : Int), .int .i64 (b : Int)], .int .i64 now] w fun e w' => e = .returned (.bool (decide (since + span ≤ now))) ∧ Below w.heap.size w w' := by
  obtain ⟨s0, s1, p0, p1, a1, b1⟩ := h
  go_enter Try.func25, Try.ntmps25
  go_wp2
  go_ret
  exact ⟨rfl, below_alloc (Below.refl _ _) _⟩
set_option maxRecDepth 100000 in
theorem refVerdict_any (h : Num since span a b) (now most : Int) (w : World) : Calls Try.prog 24 #[.agg #[.int .i64 since, .int .i64 span, .int .i64 (a : Int), .int .i64 (b : Int)], .int .i64 now, .int .i64 most] w fun e w' => e = .returned (.int .i64 (if (if most < 0 then 0 else most) < (b : Int) then 2 else if since + span ≤ now then 1 else 0)) ∧ Below w.heap.size w w' := by
  have H := Aside0.mk h
  obtain ⟨x, hx⟩ : ∃ x : Int, (if most < 0 then 0 else most) = x := ⟨_, rfl⟩
  rw [hx]
  obtain ⟨s0, s1, p0, p1, a1, b1⟩ := h
  by_cases h1 : x < (b : Int)
  · rw [if_pos h1]
    go_enter Try.func24, Try.ntmps24
    go_wp2
    go_ret
    exact ⟨rfl, below_alloc (Below.refl _ _) _⟩
  · rw [if_neg h1]
    by_cases h2 : since + span ≤ now
    · rw [if_pos h2]
      have hd : decide (since + span ≤ now) = true := decide_eq_true h2
      go_enter Try.func24, Try.ntmps24
      go_wp2_with (go_at_call 25; refine (refOver_any H.out now _).mono ?_; rintro e w1 ⟨rfl, hb⟩; have HB := Aside0.mk hb; clear hb)
      go_ret
      exact ⟨rfl, below_step (below_alloc (Below.refl _ _) _) HB.out⟩
    · rw [if_neg h2]
      have hd : decide (since + span ≤ now) = false := decide_eq_false h2
      go_enter Try.func24, Try.ntmps24
      go_wp2_with (go_at_call 25; refine (refOver_any H.out now _).mono ?_; rintro e w1 ⟨rfl, hb⟩; have HB := Aside0.mk hb; clear hb)
      go_ret
      exact ⟨rfl, below_step (below_alloc (Below.refl _ _) _) HB.out⟩
set_option maxRecDepth 100000 in
theorem refLeft_any (h : Num since span a b) (now : Int) (w : World) : Calls Try.prog 27 #[.agg #[.int .i64 since, .int .i64 span, .int .i64 (a : Int), .int .i64 (b : Int)], .int .i64 now] w fun e w' => e = .returned (.int .i64 (if since + span ≤ now then 0 else if now < since then span else since + span - now)) ∧ Below w.heap.size w w' := by
  have H := Aside0.mk h
  obtain ⟨s0, s1, p0, p1, a1, b1⟩ := h
  by_cases h2 : since + span ≤ now
  · rw [if_pos h2]
    have hd : decide (since + span ≤ now) = true := decide_eq_true h2
    go_enter Try.func27, Try.ntmps27
    go_wp2_with (go_at_call 25; refine (refOver_any H.out now _).mono ?_; rintro e w1 ⟨rfl, hb⟩; have HB := Aside0.mk hb; clear hb)
    go_ret
    exact ⟨rfl, below_step (below_alloc (Below.refl _ _) _) HB.out⟩
  · rw [if_neg h2]
    have hd : decide (since + span ≤ now) = false := decide_eq_false h2
    by_cases h3 : now < since
    · rw [if_pos h3]
      go_enter Try.func27, Try.ntmps27
      go_wp2_with (go_at_call 25; refine (refOver_any H.out now _).mono ?_; rintro e w1 ⟨rfl, hb⟩; have HB := Aside0.mk hb; have hc := fun i => hb.cell (p := ⟨w.heap.size, i, none⟩) (by simp); clear hb)
      go_ret
      exact ⟨rfl, below_step (below_alloc (Below.refl _ _) _) HB.out⟩
    · rw [if_neg h3]
      go_enter Try.func27, Try.ntmps27
      go_wp2_with (go_at_call 25; refine (refOver_any H.out now _).mono ?_; rintro e w1 ⟨rfl, hb⟩; have HB := Aside0.mk hb; have hc := fun i => hb.cell (p := ⟨w.heap.size, i, none⟩) (by simp); clear hb)
      go_ret
      exact ⟨rfl, below_step (below_alloc (Below.refl _ _) _) HB.out⟩
set_option maxRecDepth 100000 in
theorem refOf_any (ha : a < 161) (hb : b < 161) (w : World) : Calls Try.prog 23 #[.int .i64 (a : Int), .int .i64 (b : Int)] w fun e w' => e = .returned (tl a b) ∧ w = w' := by
  unfold tl
  have e1 := t_of a
  have e2 := t_of b
  go_enter Try.func23, Try.ntmps23
  go_wp2
  go_ret
  exact ⟨rfl, rfl⟩
set_option maxRecDepth 100000 in
theorem kind_any (z : S28) (w : World) : Calls Try.prog 20 #[.agg #[.int .i64 z.f0, .int .i64 z.f1, .int .i64 z.f2, .bool z.f3]] w fun e w' => e = .returned (.int .i64 (wrap64 (Int.tmod (IntKind.u64.wrap z.f0) 3))) ∧ Below w.heap.size w w' := by
  go_enter Try.func20, Try.ntmps20
  go_wp2
  go_ret
  exact ⟨rfl, below_alloc (Below.refl _ _) _⟩
set_option maxRecDepth 100000 in
theorem refNote_any (h : Num since span a b) (now : Int) (good : Bool) (w : World) : Calls Try.prog 21 #[.agg #[.int .i64 since, .int .i64 span, .int .i64 (a : Int), .int .i64 (b : Int)], .int .i64 now, .bool good] w fun e w' =>
    e = .returned (.tuple #[.agg #[.int .i64 since, .int .i64 span, .int .i64 ((a + incG since span now good : Nat) : Int), .int .i64 ((b + incB since span now good : Nat) : Int)], .bool (decide (since ≤ now ∧ now < since + span))]) ∧ Below w.heap.size w w' := by
  have H := Aside0.mk h
  obtain ⟨s0, s1, p0, p1, a1, b1⟩ := h
  by_cases h1 : now < since
  · have e1 : incG since span now good = 0 := if_neg (by omega)
    have e2 : incB since span now good = 0 := if_neg (by omega)
    have e3 : decide (since ≤ now ∧ now < since + span) = false := decide_eq_false (by omega)
    rw [e1, e2, e3, Nat.add_zero, Nat.add_zero]
    clear e1 e2 e3
    go_enter Try.func21, Try.ntmps21
    go_wp2
    exact bodyPost_ret (v := .tuple #[.agg #[.int .i64 since, .int .i64 span, .int .i64 (a : Int), .int .i64 (b : Int)], .bool false]) (by simp [results, Try.results21, go_sem]) rfl ⟨rfl, below_alloc (below_alloc (Below.refl _ _) _) _⟩
  · by_cases h2 : since + span ≤ now
    · have e1 : incG since span now good = 0 := if_neg (by omega)
      have e2 : incB since span now good = 0 := if_neg (by omega)
      have e3 : decide (since ≤ now ∧ now < since + span) = false := decide_eq_false (by omega)
      have hd : decide (since + span ≤ now) = true := decide_eq_true h2
      rw [e1, e2, e3, Nat.add_zero, Nat.add_zero]
      clear e1 e2 e3
      go_enter Try.func21, Try.ntmps21
      go_wp2_with (go_at_call 25; refine (refOver_any H.out now _).mono ?_; rintro e w1 ⟨rfl, hb⟩; have HB := Aside0.mk hb; have hc := fun i => hb.cell (p := ⟨w.heap.size, i, none⟩) (by simp <;> omega); have hc2 := fun i => hb.cell (p := ⟨w.heap.size + 1, i, none⟩) (by simp <;> omega); have hf2 := fun i => hb.frozen (p := ⟨w.heap.size + 1, i, none⟩) (by simp <;> omega); have hz := hb.size; clear hb)
      exact bodyPost_ret (v := .tuple #[.agg #[.int .i64 since, .int .i64 span, .int .i64 (a : Int), .int .i64 (b : Int)], .bool false]) (by simp [results, Try.results21, go_sem, hc, hc2, hf2, hz]) rfl ⟨rfl, (((((below_step (below_alloc (below_alloc (Below.refl _ _) _) _) HB.out).setCell (by simp) _).setCell (by simp) _).setCell (by simp) _).setCell (by simp) _)⟩
    · have e3 : decide (since ≤ now ∧ now < since + span) = true := decide_eq_true (by omega)
      have hd : decide (since + span ≤ now) = false := decide_eq_false h2
      rw [e3]
      clear e3
      have e1 : incG since span now good = oneG good := if_pos (by omega)
      have e2 : incB since span now good = oneB good := if_pos (by omega)
      rw [e1, e2]
      clear e1 e2
      cases good
      · show Calls Try.prog 21 _ w fun e w' => e = .returned (.tuple #[.agg #[.int .i64 since, .int .i64 span, .int .i64 (a : Int), .int .i64 ((b + 1 : Nat) : Int)], .bool true]) ∧ Below w.heap.size w w'
        have HC := Aside0.mk (show ((b : Nat) : Int) + 1 = ((b + 1 : Nat) : Int) by omega)
        go_enter Try.func21, Try.ntmps21
        go_wp2_with (go_at_call 25; refine (refOver_any H.out now _).mono ?_; rintro e w1 ⟨rfl, hb⟩; have HB := Aside0.mk hb; have hc := fun i => hb.cell (p := ⟨w.heap.size, i, none⟩) (by simp <;> omega); have hf := fun i => hb.frozen (p := ⟨w.heap.size, i, none⟩) (by simp <;> omega); have hc2 := fun i => hb.cell (p := ⟨w.heap.size + 1, i, none⟩) (by simp <;> omega); have hf2 := fun i => hb.frozen (p := ⟨w.heap.size + 1, i, none⟩) (by simp <;> omega); have hz := hb.size; clear hb)
        have hlt1 : w.heap.size < w1.heap.size := by simp at hz; omega
        have hlt2 : w.heap.size + 1 < w1.heap.size := by simp at hz; omega
        rw [HC.out]
        exact bodyPost_ret (v := .tuple #[.agg #[.int .i64 since, .int .i64 span, .int .i64 (a : Int), .int .i64 ((b + 1 : Nat) : Int)], .bool true]) (by simp [results, Try.results21, go_sem, hc, hc2, hf, hf2, hlt1, hlt2]) rfl ⟨rfl, ((((((below_step (below_alloc (below_alloc (Below.refl _ _) _) _) HB.out).setCell (by simp) _).setCell (by simp) _).setCell (by simp) _).setCell (by simp) _).setCell (by simp) _)⟩
      · show Calls Try.prog 21 _ w fun e w' => e = .returned (.tuple #[.agg #[.int .i64 since, .int .i64 span, .int .i64 ((a + 1 : Nat) : Int), .int .i64 (b : Int)], .bool true]) ∧ Below w.heap.size w w'
        have HC := Aside0.mk (show ((a : Nat) : Int) + 1 = ((a + 1 : Nat) : Int) by omega)
        go_enter Try.func21, Try.ntmps21
        go_wp2_with (go_at_call 25; refine (refOver_any H.out now _).mono ?_; rintro e w1 ⟨rfl, hb⟩; have HB := Aside0.mk hb; have hc := fun i => hb.cell (p := ⟨w.heap.size, i, none⟩) (by simp <;> omega); have hf := fun i => hb.frozen (p := ⟨w.heap.size, i, none⟩) (by simp <;> omega); have hc2 := fun i => hb.cell (p := ⟨w.heap.size + 1, i, none⟩) (by simp <;> omega); have hf2 := fun i => hb.frozen (p := ⟨w.heap.size + 1, i, none⟩) (by simp <;> omega); have hz := hb.size; clear hb)
        have hlt1 : w.heap.size < w1.heap.size := by simp at hz; omega
        have hlt2 : w.heap.size + 1 < w1.heap.size := by simp at hz; omega
        rw [HC.out]
        exact bodyPost_ret (v := .tuple #[.agg #[.int .i64 since, .int .i64 span, .int .i64 ((a + 1 : Nat) : Int), .int .i64 (b : Int)], .bool true]) (by simp [results, Try.results21, go_sem, hc, hc2, hf, hf2, hlt1, hlt2]) rfl ⟨rfl, ((((((below_step (below_alloc (below_alloc (Below.refl _ _) _) _) HB.out).setCell (by simp) _).setCell (by simp) _).setCell (by simp) _).setCell (by simp) _).setCell (by simp) _)⟩
variable {since' span' : Int} {c d : Nat}
set_option maxRecDepth 100000 in
theorem refMerge_yes (h : Num since span a b) (h' : Num since span c d) (w : World) : Calls Try.prog 22 #[.agg #[.int .i64 since, .int .i64 span, .int .i64 (a : Int), .int .i64 (b : Int)], .agg #[.int .i64 since, .int .i64 span, .int .i64 (c : Int), .int .i64 (d : Int)]] w fun e w' =>
    e = .returned (.tuple #[.agg #[.int .i64 since, .int .i64 span, .int .i64 ((a + c : Nat) : Int), .int .i64 ((b + d : Nat) : Int)], .bool true]) ∧ Below w.heap.size w w' := by
  obtain ⟨s0, s1, p0, p1, a1, b1⟩ := h
  obtain ⟨_, _, _, _, c1, d1⟩ := h'
  have HA := Aside0.mk (show (a : Int) + (c : Int) = ((a + c : Nat) : Int) by omega)
  have HB := Aside0.mk (show (b : Int) + (d : Int) = ((b + d : Nat) : Int) by omega)
  go_enter Try.func22, Try.ntmps22
  go_wp2
  rw [HA.out, HB.out]
  exact bodyPost_ret (v := .tuple #[.agg #[.int .i64 since, .int .i64 span, .int .i64 ((a + c : Nat) : Int), .int .i64 ((b + d : Nat) : Int)], .bool true]) (by simp [results, Try.results22, go_sem]) rfl ⟨rfl, below_alloc (below_alloc (below_alloc (Below.refl _ _) _) _) _⟩
set_option maxRecDepth 100000 in
theorem refMerge_no (h : Num since span a b) (h' : Num since' span' c d) (hn : since ≠ since' ∨ span ≠ span') (w : World) : Calls Try.prog 22 #[.agg #[.int .i64 since, .int .i64 span, .int .i64 (a : Int), .int .i64 (b : Int)], .agg #[.int .i64 since', .int .i64 span', .int .i64 (c : Int), .int .i64 (d : Int)]] w fun e w' =>
    e = .returned (.tuple #[.agg #[.int .i64 since, .int .i64 span, .int .i64 (a : Int), .int .i64 (b : Int)], .bool false]) ∧ Below w.heap.size w w' := by
  obtain ⟨s0, s1, p0, p1, a1, b1⟩ := h
  obtain ⟨_, _, _, _, c1, d1⟩ := h'
  by_cases h1 : since = since'
  · subst h1
    have h2 : (span == span') = false := beq_eq_false_iff_ne.mpr (by rcases hn with h | h; exact absurd rfl h; exact h)
    clear hn
    go_enter Try.func22, Try.ntmps22
    go_wp2
    exact bodyPost_ret (v := .tuple #[.agg #[.int .i64 since, .int .i64 span, .int .i64 (a : Int), .int .i64 (b : Int)], .bool false]) (by simp [results, Try.results22, go_sem]) rfl ⟨rfl, below_alloc (below_alloc (below_alloc (Below.refl _ _) _) _) _⟩
  · have h2 : (since == since') = false := beq_eq_false_iff_ne.mpr h1
    clear hn
    go_enter Try.func22, Try.ntmps22
    go_wp2
    exact bodyPost_ret (v := .tuple #[.agg #[.int .i64 since, .int .i64 span, .int .i64 (a : Int), .int .i64 (b : Int)], .bool false]) (by simp [results, Try.results22, go_sem]) rfl ⟨rfl, below_alloc (below_alloc (below_alloc (Below.refl _ _) _) _) _⟩
end
end Go.Proofs.Ytdpdjchblajbbaa.Hand
