/- A window in memory, and what its methods do. -/
import Derived.Test.YtdpdjchblajbbaaHandF
import Derived.Outline
import Derived.StillTailTactics
import Derived.BigQuiet
namespace Go.Proofs.Ytdpdjchblajbbaa.Hand
open Go Go.RowKit Go.Proofs.YtdpdjchblajbbaaW.PrintLast Go.Proofs.YtdpdjchblajbbaaW.PrintWords Go.Proofs.YtdpdjchblajbbaaW.PrintMore
set_option linter.unusedVariables false
set_option linter.unusedSimpArgs false
attribute [local go_sem] max2_int min2_int max_two min_two
theorem run_store_complex (P : Program) (w : World) (a : Addr) (m : Mode) (k : FloatKind) (x y : Nat) : (store a (.complex k x y) m).run P w = stored P w a (.complex k x y) m := run_store P w a _ m rfl

/-- w' is w but for the blocks of S, and for what is new. -/
structure Moved (w w' : World) (S : Nat → Prop) : Prop where
  os : w'.os = w.os
  tape : w'.tape = w.tape
  output : w'.output = w.output
  kept : Kept w w' S
namespace Moved
variable {w w1 w2 : World} {S S' : Nat → Prop}
theorem refl (w : World) (S : Nat → Prop) : Moved w w S := ⟨rfl, rfl, rfl, Kept.refl w S⟩
theorem of_below (h : Below w.heap.size w w1) (S : Nat → Prop) : Moved w w1 S := ⟨h.os, h.tape, h.output, Kept.of_below h S⟩
theorem mono (h : Moved w w1 S) (hs : ∀ k, S k → S' k) : Moved w w1 S' := ⟨h.os, h.tape, h.output, h.kept.mono hs⟩
theorem trans (h : Moved w w1 S) (k : Moved w1 w2 S') (hs : ∀ k, S' k → S k ∨ w.heap.size ≤ k) : Moved w w2 S := ⟨k.os.trans h.os, k.tape.trans h.tape, k.output.trans h.output, h.kept.then_ k.kept hs⟩
theorem below (h : Moved w w1 S) (hb : Below w1.heap.size w1 w2) : Moved w w2 S := h.trans (of_below hb (fun _ => False)) (fun _ hk => hk.elim)
theorem size (h : Moved w w1 S) : w.heap.size ≤ w1.heap.size := h.kept.1
theorem toBelow (h : Moved w w1 S) {B : Nat} (hB : B ≤ w.heap.size) (hs : ∀ k, S k → B ≤ k) : Below B w w1 :=
  ⟨h.os, h.tape, h.output, h.size, fun i hi => h.kept.2 i (by omega) (fun hk => by have := hs i hk; omega)⟩
theorem setCell (h : Moved w w1 S) {p : Addr} (hp : S p.block ∨ w.heap.size ≤ p.block) (u : Value) : Moved w (w1.setCell p u) S := ⟨h.os, h.tape, h.output, h.kept.setCell hp u⟩
theorem drewN (h : Moved w w1 S) (n : Nat) : Moved w (w1.drewN n) S := ⟨h.os, h.tape, h.output, h.kept⟩
theorem drew (h : Moved w w1 S) : Moved w w1.drew S := ⟨h.os, h.tape, h.output, h.kept⟩
theorem from_below {w0 : World} {B : Nat} (h : Below B w0 w) (k : Moved w w1 S) (hs : ∀ k, S k → B ≤ k) (hB : B ≤ w.heap.size) : Below B w0 w1 :=
  let h2 := k.toBelow hB hs
  ⟨h2.os.trans h.os, h2.tape.trans h.tape, h2.output.trans h.output, Nat.le_trans h.size h2.size, fun i hi => (h2.block i hi).trans (h.block i hi)⟩
end Moved

/-- The window at block g: its begin, its span, its counts. -/
structure WinAt (w : World) (g : Nat) (since span : Int) (a b : Nat) : Prop where
  cells : w.heap[g]? = some (.cells #[.int .i64 since, .int .i64 span, tl a b] 58 (0, 0))
  s0 : 0 ≤ since
  s1 : since ≤ 1099511627776
  p0 : 1 ≤ span
  p1 : span ≤ 1048576
section
variable {w w1 : World} {g : Nat} {since span : Int} {a b : Nat}
theorem WinAt.lt (h : WinAt w g since span a b) : g < w.heap.size := blk_lt h.cells
theorem WinAt.step (h : WinAt w g since span a b) (hg : w1.heap[g]? = w.heap[g]?) : WinAt w1 g since span a b := ⟨hg.trans h.cells, h.s0, h.s1, h.p0, h.p1⟩
theorem WinAt.below (h : WinAt w g since span a b) (hb : Below w.heap.size w w1) : WinAt w1 g since span a b := h.step (hb.block g h.lt)
theorem WinAt.drewN (h : WinAt w g since span a b) (n : Nat) : WinAt (w.drewN n) g since span a b := h.step rfl
theorem WinAt.moved (h : WinAt w g since span a b) {S : Nat → Prop} (hk : Moved w w1 S) (hg : ¬ S g) : WinAt w1 g since span a b := h.step (hk.kept.2 g h.lt hg)
/-- The cells, as the walk asks for them. -/
theorem win_cells {x y z : Value} (h : w.heap[g]? = some (.cells #[x, y, z] 58 (0, 0))) :
    w.cell? ⟨g, 0, none⟩ = some x ∧ w.cell? ⟨g, 1, none⟩ = some y ∧ w.cell? ⟨g, 2, none⟩ = some z ∧ (∀ i, w.frozen? ⟨g, i, none⟩ = false) :=
  ⟨by rw [blk_cell h]; rfl, by rw [blk_cell h]; rfl, by rw [blk_cell h]; rfl, fun i => blk_frozen h i⟩
theorem WinAt.stored {a' b' : Nat} (h : WinAt w g since span a b) : WinAt (w.setCell ⟨g, 2, none⟩ (tl a' b')) g since span a' b' :=
  ⟨blk_set h.cells 2 (tl a' b'), h.s0, h.s1, h.p0, h.p1⟩
end
/-- What New makes of its begin and its span. -/
def sinceOf (n : Int) : Int := if n < 0 then 0 else if 1099511627776 < n then 1099511627776 else n
def spanOf (n : Int) : Int := if n < 1 then 1 else if 1048576 < n then 1048576 else n
theorem sinceOf_in (n : Int) : 0 ≤ sinceOf n ∧ sinceOf n ≤ 1099511627776 := by unfold sinceOf; split; omega; split <;> omega
theorem spanOf_in (n : Int) : 1 ≤ spanOf n ∧ spanOf n ≤ 1048576 := by unfold spanOf; split; omega; split <;> omega
theorem since_mm (n : Int) : (if (1099511627776 : Int) < (if n < 0 then 0 else n) then (1099511627776 : Int) else (if n < 0 then 0 else n)) = sinceOf n := by
  unfold sinceOf; split <;> split <;> omega
theorem span_mm (n : Int) : (if (1048576 : Int) < (if n < 1 then 1 else n) then (1048576 : Int) else (if n < 1 then 1 else n)) = spanOf n := by
  unfold spanOf; split <;> split <;> omega
theorem tl_zero : tl 0 0 = .complex .f64 0 0 := by unfold tl; rw [t_zero]
set_option maxRecDepth 100000 in
theorem new_any (x y : Int) (w : World) : Calls Try.prog 9 #[.int .i64 x, .int .i64 y] w fun e w' => e = .returned (.pointer (some ⟨w.heap.size, 0, none⟩)) ∧ WinAt w' w.heap.size (sinceOf x) (spanOf y) 0 0 ∧ Below w.heap.size w w' := by
  have key : ∀ p q, p = sinceOf x → q = spanOf y → WinAt (w.alloc (.cells #[.int .i64 p, .int .i64 q, .complex .f64 0 0] 58)) w.heap.size (sinceOf x) (spanOf y) 0 0 := by
    rintro p q rfl rfl
    refine ⟨?_, (sinceOf_in x).1, (sinceOf_in x).2, (spanOf_in y).1, (spanOf_in y).2⟩
    rw [heap_alloc_new, tl_zero]
  have K := Aside0.mk key
  clear key
  go_enter Try.func9, Try.ntmps9
  go_wp2
  all_goals
    go_ret
    refine ⟨rfl, K.out _ _ ?_ ?_, (Below.refl _ _).alloc (Nat.le_refl _) _⟩
    · unfold sinceOf; (repeat split) <;> omega
    · unfold spanOf; (repeat split) <;> omega
section
variable {w : World} {g : Nat} {since span : Int} {a b : Nat}
set_option maxRecDepth 100000 in
theorem tally_at (h : WinAt w g since span a b) : Calls Try.prog 10 #[.pointer (some ⟨g, 0, none⟩)] w fun e w' => e = .returned (tl a b) ∧ w = w' := by
  obtain ⟨c0, c1, c2, fr⟩ := win_cells h.cells
  clear h fr
  generalize tl a b = t at *
  go_enter Try.func10, Try.ntmps10
  go_wp2
  go_ret
  exact ⟨rfl, rfl⟩
set_option maxRecDepth 100000 in
theorem since_at (h : WinAt w g since span a b) : Calls Try.prog 28 #[.pointer (some ⟨g, 0, none⟩)] w fun e w' => e = .returned (.int .i64 since) ∧ w = w' := by
  obtain ⟨c0, c1, c2, fr⟩ := win_cells h.cells
  clear h fr
  go_enter Try.func28, Try.ntmps28
  go_wp2
  go_ret
  exact ⟨rfl, rfl⟩
set_option maxRecDepth 100000 in
theorem over_at (h : WinAt w g since span a b) (now : Int) : Calls Try.prog 11 #[.pointer (some ⟨g, 0, none⟩), .int .i64 now] w fun e w' => e = .returned (.bool (decide (since + span ≤ now))) ∧ ∃ n, w' = w.drewN n := by
  obtain ⟨c0, c1, c2, fr⟩ := win_cells h.cells
  have e1 : IntKind.i64.wrap (since + span) = since + span := IntWalk.i64_in _ (by have := h.s0; have := h.s1; have := h.p0; have := h.p1; omega)
  clear h fr c2
  go_enter Try.func11, Try.ntmps11
  go_wp2
  go_quiet (fail)
  go_wp2
  go_ret
  exact ⟨rfl, _, rfl⟩
set_option maxRecDepth 100000 in
theorem left_at (h : WinAt w g since span a b) (now : Int) : Calls Try.prog 26 #[.pointer (some ⟨g, 0, none⟩), .int .i64 now] w fun e w' => e = .returned (.int .i64 (if since + span ≤ now then 0 else if now < since then span else since + span - now)) ∧ ∃ n, w' = w.drewN n := by
  have H := Aside0.mk h
  obtain ⟨c0, c1, c2, fr⟩ := win_cells h.cells
  have e1 : IntKind.i64.wrap (since + span) = since + span := IntWalk.i64_in _ (by have := h.s0; have := h.s1; have := h.p0; have := h.p1; omega)
  have hs0 := h.s0; have hs1 := h.s1; have hp0 := h.p0; have hp1 := h.p1
  clear h fr c2
  by_cases h1 : since + span ≤ now
  · have hd : decide (since + span ≤ now) = true := decide_eq_true h1
    rw [if_pos h1]
    go_enter Try.func26, Try.ntmps26
    go_wp2_with (go_at_call 11; refine (over_at H.out now).mono ?_; rintro e w1 ⟨rfl, n, rfl⟩)
    go_ret
    exact ⟨rfl, _, rfl⟩
  · have hd : decide (since + span ≤ now) = false := decide_eq_false h1
    rw [if_neg h1]
    by_cases h2 : now < since
    · have hm : (if now < since then since else now) = since := if_pos h2
      have e2 : IntKind.i64.wrap (since + span - since) = span := by rw [IntWalk.i64_in _ (by omega)]; omega
      rw [if_pos h2]
      go_enter Try.func26, Try.ntmps26
      go_wp2_with (go_at_call 11; refine (over_at H.out now).mono ?_; rintro e w1 ⟨rfl, n, rfl⟩)
      go_quiet (fail)
      go_wp2
      go_ret
      exact ⟨rfl, _, World.drewN_drewN _ _ _⟩
    · have hm : (if now < since then since else now) = now := if_neg h2
      have e2 : IntKind.i64.wrap (since + span - now) = since + span - now := IntWalk.i64_in _ (by omega)
      rw [if_neg h2]
      go_enter Try.func26, Try.ntmps26
      go_wp2_with (go_at_call 11; refine (over_at H.out now).mono ?_; rintro e w1 ⟨rfl, n, rfl⟩)
      go_quiet (fail)
      go_wp2
      go_ret
      exact ⟨rfl, _, World.drewN_drewN _ _ _⟩
set_option maxRecDepth 100000 in
theorem verdict_at (h : WinAt w g since span a b) (ha : a < 161) (hb : b < 161) (now most : Int) : Calls Try.prog 13 #[.pointer (some ⟨g, 0, none⟩), .int .i64 now, .int .i64 most] w fun e w' => e = .returned (.int .i64 (if (if most < 0 then 0 else most) < (b : Int) then 2 else if since + span ≤ now then 1 else 0)) ∧ ∃ n, w' = w.drewN n := by
  have H := Aside0.mk h
  have B := Aside0.mk (bad_fl a b w ha hb)
  have key : ∀ x : Int, (if most < 0 then 0 else most) = x → Calls Try.prog 13 #[.pointer (some ⟨g, 0, none⟩), .int .i64 now, .int .i64 most] w fun e w' => e = .returned (.int .i64 (if x < (b : Int) then 2 else if since + span ≤ now then 1 else 0)) ∧ ∃ n, w' = w.drewN n := by
    intro x hx
    by_cases h1 : x < (b : Int)
    · rw [if_pos h1]
      go_enter Try.func13, Try.ntmps13
      go_wp2_with (first
        | (go_at_call 10; refine (tally_at H.out).mono ?_; rintro e w1 ⟨rfl, rfl⟩)
        | (go_at_call 18; refine B.out.mono ?_; rintro e w1 ⟨rfl, rfl⟩))
      go_ret
      exact ⟨rfl, 0, rfl⟩
    · rw [if_neg h1]
      by_cases h2 : since + span ≤ now
      · have hd : decide (since + span ≤ now) = true := decide_eq_true h2
        rw [if_pos h2]
        go_enter Try.func13, Try.ntmps13
        go_wp2_with (first
          | (go_at_call 10; refine (tally_at H.out).mono ?_; rintro e w1 ⟨rfl, rfl⟩)
          | (go_at_call 18; refine B.out.mono ?_; rintro e w1 ⟨rfl, rfl⟩)
          | (go_at_call 11; refine (over_at H.out now).mono ?_; rintro e w1 ⟨rfl, n, rfl⟩))
        go_ret
        exact ⟨rfl, n, rfl⟩
      · have hd : decide (since + span ≤ now) = false := decide_eq_false h2
        rw [if_neg h2]
        go_enter Try.func13, Try.ntmps13
        go_wp2_with (first
          | (go_at_call 10; refine (tally_at H.out).mono ?_; rintro e w1 ⟨rfl, rfl⟩)
          | (go_at_call 18; refine B.out.mono ?_; rintro e w1 ⟨rfl, rfl⟩)
          | (go_at_call 11; refine (over_at H.out now).mono ?_; rintro e w1 ⟨rfl, n, rfl⟩))
        go_ret
        exact ⟨rfl, n, rfl⟩
  exact key _ rfl
set_option maxRecDepth 100000 in
/-- Before it begins, or when it is over, nothing is noted. -/
theorem note_not (h : WinAt w g since span a b) (now : Int) (good : Bool) (hn : now < since ∨ since + span ≤ now) : Calls Try.prog 12 #[.pointer (some ⟨g, 0, none⟩), .int .i64 now, .bool good] w fun e w' => e = .returned (.bool false) ∧ ∃ n, w' = w.drewN n := by
  have H := Aside0.mk h
  obtain ⟨c0, c1, c2, fr⟩ := win_cells h.cells
  clear h fr c2 c1
  by_cases h1 : now < since
  · clear hn
    go_enter Try.func12, Try.ntmps12
    go_wp2
    go_ret
    exact ⟨rfl, 0, rfl⟩
  · have hd : decide (since + span ≤ now) = true := decide_eq_true (by omega)
    clear hn
    go_enter Try.func12, Try.ntmps12
    go_wp2_with (go_at_call 11; refine (over_at H.out now).mono ?_; rintro e w1 ⟨rfl, n, rfl⟩)
    go_ret
    exact ⟨rfl, n, rfl⟩
set_option maxRecDepth 100000 in
set_option maxHeartbeats 1000000 in
theorem note_at (h : WinAt w g since span a b) (ha : a < 119) (hb : b < 119) (now : Int) (good : Bool) (h1 : since ≤ now) (h2 : now < since + span) : Calls Try.prog 12 #[.pointer (some ⟨g, 0, none⟩), .int .i64 now, .bool good] w fun e w' =>
    e = .returned (.bool true) ∧ WinAt w' g since span (a + oneG good) (b + oneB good) ∧ Moved w w' (· = g) := by
  have H := Aside0.mk h
  obtain ⟨c0, c1, c2, fr⟩ := win_cells h.cells
  have h3 : ¬ now < since := by omega
  have hd : decide (since + span ≤ now) = false := decide_eq_false (by omega)
  have lg : oneG good < 2 := by cases good <;> decide
  have lb : oneB good < 2 := by cases good <;> decide
  have hadd := fun W => sum_fl W 29 (t_add1 a (by omega) _ lg) (t_add1 b (by omega) _ lb)
  have hcut := fun W => cut_fl (a + oneG good) (b + oneB good) W (by omega) (by omega)
  have ONE := Aside0.mk (fun W => one_fl good W)
  obtain ⟨X, Y, hXY⟩ : ∃ X Y, tl (a + oneG good) (b + oneB good) = .complex .f64 X Y := ⟨_, _, rfl⟩
  rw [hXY] at hadd hcut
  have CUT := Aside0.mk hcut
  have HXY := Aside0.mk hXY
  have hst := fun W : World => run_store_complex Try.prog W ⟨g, 2, none⟩ .plain .f64 X Y
  generalize tl a b = t0 at c2 hadd
  generalize tl (oneG good) (oneB good) = t1 at hadd ONE
  have C2 := Aside0.mk c2
  have f2 := fr 2
  have F2 := Aside0.mk (fr 2)
  clear h fr c1 h1 lg lb ha hb hcut hXY
  go_enter Try.func12, Try.ntmps12
  go_wp2_with (go_at_call 11; refine (over_at H.out now).mono ?_; rintro e w1 ⟨rfl, n, rfl⟩)
  refine start_ (n := 12) (S := fun w' => w'.cell? ⟨g, 2, none⟩ = some t0 ∧ w'.frozen? ⟨g, 2, none⟩ = false) (ds := [11]) #[false, false, false, false, false, false, false, false, false, false, false, false] (by kernel_rfl) rfl rfl ⟨C2.out, F2.out⟩ (fun hHeld => ?_)
  refine pure_ (i := 0) (N := some 22) (v := ?_) (a' := ?_) #[true, false, false, false, false, false, false, false, false, false, false, false] rfl rfl (by kernel_rfl) (fun _ _ _ h => h) (Or.inl ⟨by rfl, ?_⟩) ?_ ?_
  rotate_left
  · intro w'
    go_simp
    with_reducible rfl
  rotate_left
  · simp only [Act.put, List.setIfInBounds_toArray, List.set_cons_zero, List.set_cons_succ, i64_w, i32_w]
    rfl
  refine pure_ (i := 1) (N := some 23) (v := ?_) (a' := ?_) #[true, true, false, false, false, false, false, false, false, false, false, false] rfl rfl (by kernel_rfl) (fun _ _ _ h => h) (Or.inl ⟨by rfl, ?_⟩) ?_ ?_
  rotate_left
  · intro w'
    go_simp
    with_reducible rfl
  rotate_left
  · simp only [Act.put, List.setIfInBounds_toArray, List.set_cons_zero, List.set_cons_succ, i64_w, i32_w]
    rfl
  refine pure_ (i := 2) (N := some 24) (v := ?_) (a' := ?_) #[true, true, true, false, false, false, false, false, false, false, false, false] rfl rfl (by kernel_rfl) (fun _ _ _ h => h) (Or.inl ⟨by rfl, ?_⟩) ?_ ?_
  rotate_left
  · intro w'
    go_simp
    with_reducible rfl
  rotate_left
  · simp only [Act.put, List.setIfInBounds_toArray, List.set_cons_zero, List.set_cons_succ, i64_w, i32_w]
    rfl
  refine pure_ (i := 3) (N := some 25) (v := ?_) (a' := ?_) #[true, true, true, true, false, false, false, false, false, false, false, false] rfl rfl (by kernel_rfl) (fun _ _ _ h => h) (Or.inl ⟨by rfl, ?_⟩) ?_ ?_
  rotate_left
  · intro w'
    go_simp
    with_reducible rfl
  rotate_left
  · simp only [Act.put, List.setIfInBounds_toArray, List.set_cons_zero, List.set_cons_succ, i64_w, i32_w]
    rfl
  refine pure_ (i := 5) (N := some 27) (v := ?_) (a' := ?_) #[true, true, true, true, false, true, false, false, false, false, false, false] rfl rfl (by kernel_rfl) (fun _ _ _ h => h) (Or.inl ⟨by rfl, ?_⟩) ?_ ?_
  rotate_left
  · intro w'
    go_simp
    with_reducible rfl
  rotate_left
  · simp only [Act.put, List.setIfInBounds_toArray, List.set_cons_zero, List.set_cons_succ, i64_w, i32_w]
    rfl
  refine take_ (i := 4) (N := some 26) (v := ?_) (a' := ?_) #[true, true, true, true, true, true, false, false, false, false, false, false] rfl rfl (by kernel_rfl) (fun _ _ _ h => h) (Or.inl ⟨by rfl, ?_⟩) hHeld ?_ ?_
  rotate_left
  · rintro w' ⟨s0, s1⟩
    go_simp
    with_reducible rfl
  rotate_left
  · simp only [Act.put, List.setIfInBounds_toArray, List.set_cons_zero, List.set_cons_succ, i64_w, i32_w]
    rfl
  refine one_ (i := 6) (N := some 28) #[true, true, true, true, true, true, true, false, false, false, false, false] rfl rfl (by kernel_rfl) (by decide) (fun K hK => ?_)
  refine goes_ Try.func15 (by kernel_rfl) rfl #[.bool good] (by rfl) rfl rfl (by simp only [List.map_toArray, List.map_cons, List.map_nil]; rfl) ?_
  with_reducible refine (ONE.out _).mono ?_
  rintro e w8 ⟨rfl, rfl⟩
  refine ⟨_, rfl, ?_⟩
  refine hK.out _ _ ⟨C2.out, F2.out⟩ (fun hHeld => ?_)
  clear hK K
  refine norm_ (a' := ?_) ?_ ?_
  rotate_left
  · show Act.put _ (some 28) _ = _
    simp only [Act.put, List.setIfInBounds_toArray, List.set_cons_zero, List.set_cons_succ, i64_w, i32_w]
    rfl
  refine pure_ (i := 7) (N := some 29) (v := ?_) (a' := ?_) #[true, true, true, true, true, true, true, true, false, false, false, false] rfl rfl (by kernel_rfl) (fun _ _ _ h => h) (Or.inl ⟨by rfl, ?_⟩) ?_ ?_
  rotate_left
  · intro w'
    go_simp
    with_reducible rfl
  rotate_left
  · simp only [Act.put, List.setIfInBounds_toArray, List.set_cons_zero, List.set_cons_succ, i64_w, i32_w]
    rfl
  refine one_ (i := 8) (N := some 30) #[true, true, true, true, true, true, true, true, true, false, false, false] rfl rfl (by kernel_rfl) (by decide) (fun K hK => ?_)
  refine goes_ Try.func29 (by kernel_rfl) rfl #[.complex .f64 X Y] (by rfl) rfl rfl (by simp only [List.map_toArray, List.map_cons, List.map_nil]; rfl) ?_
  with_reducible refine (CUT.out _).mono ?_
  rintro e w8 ⟨rfl, rfl⟩
  refine ⟨_, rfl, ?_⟩
  refine hK.out _ _ ⟨C2.out, F2.out⟩ (fun hHeld => ?_)
  clear hK K
  refine norm_ (a' := ?_) ?_ ?_
  rotate_left
  · show Act.put _ (some 30) _ = _
    simp only [Act.put, List.setIfInBounds_toArray, List.set_cons_zero, List.set_cons_succ, i64_w, i32_w]
    rfl
  refine pure_ (i := 9) (N := some 31) (v := ?_) (a' := ?_) #[true, true, true, true, true, true, true, true, true, true, false, false] rfl rfl (by kernel_rfl) (fun _ _ _ h => h) (Or.inl ⟨by rfl, ?_⟩) ?_ ?_
  rotate_left
  · intro w'
    go_simp
    with_reducible rfl
  rotate_left
  · simp only [Act.put, List.setIfInBounds_toArray, List.set_cons_zero, List.set_cons_succ, i64_w, i32_w]
    rfl
  refine pure_ (i := 10) (N := some 32) (v := ?_) (a' := ?_) #[true, true, true, true, true, true, true, true, true, true, true, false] rfl rfl (by kernel_rfl) (fun _ _ _ h => h) (Or.inl ⟨by rfl, ?_⟩) ?_ ?_
  rotate_left
  · intro w'
    go_simp
    with_reducible rfl
  rotate_left
  · simp only [Act.put, List.setIfInBounds_toArray, List.set_cons_zero, List.set_cons_succ, i64_w, i32_w]
    rfl
  refine last_ (i := 11) (N := none) #[true, true, true, true, true, true, true, true, true, true, true, true] rfl rfl (by kernel_rfl) (by decide) (fun K hK => ?_)
  refine skip_ (w1 := ?_) (by rfl) rfl ?_ ?_
  rotate_left
  · go_simp
    rfl
  refine hK.out _ _ ?_
  clear hK K
  refine done_ (by kernel_rfl) ?_
  go_wp2
  go_ret
  refine ⟨rfl, ?_, ((Moved.refl w (· = g)).drewN (n + 1)).setCell (.inl rfl) _⟩
  rw [← HXY.out]
  exact (H.out.drewN (n + 1)).stored
variable {g' : Nat} {since' span' : Int} {c d : Nat}
set_option maxRecDepth 100000 in
set_option maxHeartbeats 1000000 in
theorem merge_at (h : WinAt w g since span a b) (h' : WinAt w g' since span c d) (ha : FloatKind.f64.format.add (fl a) (fl c) = some (fl (a + c))) (hb : FloatKind.f64.format.add (fl b) (fl d) = some (fl (b + d))) (hac : a + c < 161) (hbd : b + d < 161) :
    Calls Try.prog 14 #[.pointer (some ⟨g, 0, none⟩), .pointer (some ⟨g', 0, none⟩)] w fun e w' => e = .returned (.bool true) ∧ WinAt w' g since span (a + c) (b + d) ∧ Moved w w' (· = g) := by
  have H := Aside0.mk h
  obtain ⟨c0, c1, c2, fr⟩ := win_cells h.cells
  obtain ⟨d0, d1, d2, _⟩ := win_cells h'.cells
  have hadd := fun W => sum_fl W 29 ha hb
  have hcut := fun W => cut_fl (a + c) (b + d) W hac hbd
  obtain ⟨X, Y, hXY⟩ : ∃ X Y, tl (a + c) (b + d) = .complex .f64 X Y := ⟨_, _, rfl⟩
  rw [hXY] at hadd hcut
  have CUT := Aside0.mk hcut
  have HXY := Aside0.mk hXY
  have hst := fun W : World => run_store_complex Try.prog W ⟨g, 2, none⟩ .plain .f64 X Y
  generalize tl a b = t0 at c2 hadd
  generalize tl c d = t1 at d2 hadd
  have C2 := Aside0.mk c2
  have D2 := Aside0.mk d2
  have f2 := fr 2
  have F2 := Aside0.mk (fr 2)
  clear h h' fr ha hb hcut hXY
  go_enter Try.func14, Try.ntmps14
  go_wp2
  go_quiet (fail)
  go_wp2
  refine start_ (n := 14) (S := fun w' => w'.cell? ⟨g, 2, none⟩ = some t0 ∧ w'.cell? ⟨g', 2, none⟩ = some t1) (ds := [13]) #[false, false, false, false, false, false, false, false, false, false, false, false, false, false] (by kernel_rfl) rfl rfl ⟨C2.out, D2.out⟩ (fun hHeld => ?_)
  refine pure_ (i := 0) (N := some 33) (v := ?_) (a' := ?_) #[true, false, false, false, false, false, false, false, false, false, false, false, false, false] rfl rfl (by kernel_rfl) (fun _ _ _ h => h) (Or.inl ⟨by rfl, ?_⟩) ?_ ?_
  rotate_left
  · intro w'
    go_simp
    with_reducible rfl
  rotate_left
  · simp only [Act.put, List.setIfInBounds_toArray, List.set_cons_zero, List.set_cons_succ, i64_w, i32_w]
    rfl
  refine pure_ (i := 1) (N := some 34) (v := ?_) (a' := ?_) #[true, true, false, false, false, false, false, false, false, false, false, false, false, false] rfl rfl (by kernel_rfl) (fun _ _ _ h => h) (Or.inl ⟨by rfl, ?_⟩) ?_ ?_
  rotate_left
  · intro w'
    go_simp
    with_reducible rfl
  rotate_left
  · simp only [Act.put, List.setIfInBounds_toArray, List.set_cons_zero, List.set_cons_succ, i64_w, i32_w]
    rfl
  refine pure_ (i := 2) (N := some 35) (v := ?_) (a' := ?_) #[true, true, true, false, false, false, false, false, false, false, false, false, false, false] rfl rfl (by kernel_rfl) (fun _ _ _ h => h) (Or.inl ⟨by rfl, ?_⟩) ?_ ?_
  rotate_left
  · intro w'
    go_simp
    with_reducible rfl
  rotate_left
  · simp only [Act.put, List.setIfInBounds_toArray, List.set_cons_zero, List.set_cons_succ, i64_w, i32_w]
    rfl
  refine pure_ (i := 3) (N := some 36) (v := ?_) (a' := ?_) #[true, true, true, true, false, false, false, false, false, false, false, false, false, false] rfl rfl (by kernel_rfl) (fun _ _ _ h => h) (Or.inl ⟨by rfl, ?_⟩) ?_ ?_
  rotate_left
  · intro w'
    go_simp
    with_reducible rfl
  rotate_left
  · simp only [Act.put, List.setIfInBounds_toArray, List.set_cons_zero, List.set_cons_succ, i64_w, i32_w]
    rfl
  refine pure_ (i := 5) (N := some 38) (v := ?_) (a' := ?_) #[true, true, true, true, false, true, false, false, false, false, false, false, false, false] rfl rfl (by kernel_rfl) (fun _ _ _ h => h) (Or.inl ⟨by rfl, ?_⟩) ?_ ?_
  rotate_left
  · intro w'
    go_simp
    with_reducible rfl
  rotate_left
  · simp only [Act.put, List.setIfInBounds_toArray, List.set_cons_zero, List.set_cons_succ, i64_w, i32_w]
    rfl
  refine pure_ (i := 6) (N := some 39) (v := ?_) (a' := ?_) #[true, true, true, true, false, true, true, false, false, false, false, false, false, false] rfl rfl (by kernel_rfl) (fun _ _ _ h => h) (Or.inl ⟨by rfl, ?_⟩) ?_ ?_
  rotate_left
  · intro w'
    go_simp
    with_reducible rfl
  rotate_left
  · simp only [Act.put, List.setIfInBounds_toArray, List.set_cons_zero, List.set_cons_succ, i64_w, i32_w]
    rfl
  refine pure_ (i := 7) (N := some 40) (v := ?_) (a' := ?_) #[true, true, true, true, false, true, true, true, false, false, false, false, false, false] rfl rfl (by kernel_rfl) (fun _ _ _ h => h) (Or.inl ⟨by rfl, ?_⟩) ?_ ?_
  rotate_left
  · intro w'
    go_simp
    with_reducible rfl
  rotate_left
  · simp only [Act.put, List.setIfInBounds_toArray, List.set_cons_zero, List.set_cons_succ, i64_w, i32_w]
    rfl
  refine take_ (i := 4) (N := some 37) (v := ?_) (a' := ?_) #[true, true, true, true, true, true, true, true, false, false, false, false, false, false] rfl rfl (by kernel_rfl) (fun _ _ _ h => h) (Or.inl ⟨by rfl, ?_⟩) hHeld ?_ ?_
  rotate_left
  · rintro w' ⟨s0, s1⟩
    go_simp
    with_reducible rfl
  rotate_left
  · simp only [Act.put, List.setIfInBounds_toArray, List.set_cons_zero, List.set_cons_succ, i64_w, i32_w]
    rfl
  refine take_ (i := 8) (N := some 41) (v := ?_) (a' := ?_) #[true, true, true, true, true, true, true, true, true, false, false, false, false, false] rfl rfl (by kernel_rfl) (fun _ _ _ h => h) (Or.inl ⟨by rfl, ?_⟩) hHeld ?_ ?_
  rotate_left
  · rintro w' ⟨s0, s1⟩
    go_simp
    with_reducible rfl
  rotate_left
  · simp only [Act.put, List.setIfInBounds_toArray, List.set_cons_zero, List.set_cons_succ, i64_w, i32_w]
    rfl
  refine pure_ (i := 9) (N := some 42) (v := ?_) (a' := ?_) #[true, true, true, true, true, true, true, true, true, true, false, false, false, false] rfl rfl (by kernel_rfl) (fun _ _ _ h => h) (Or.inl ⟨by rfl, ?_⟩) ?_ ?_
  rotate_left
  · intro w'
    go_simp
    with_reducible rfl
  rotate_left
  · simp only [Act.put, List.setIfInBounds_toArray, List.set_cons_zero, List.set_cons_succ, i64_w, i32_w]
    rfl
  refine one_ (i := 10) (N := some 43) #[true, true, true, true, true, true, true, true, true, true, true, false, false, false] rfl rfl (by kernel_rfl) (by decide) (fun K hK => ?_)
  refine goes_ Try.func29 (by kernel_rfl) rfl #[.complex .f64 X Y] (by rfl) rfl rfl (by simp only [List.map_toArray, List.map_cons, List.map_nil]; rfl) ?_
  with_reducible refine (CUT.out _).mono ?_
  rintro e w8 ⟨rfl, rfl⟩
  refine ⟨_, rfl, ?_⟩
  refine hK.out _ _ ⟨C2.out, D2.out⟩ (fun hHeld => ?_)
  clear hK K
  refine norm_ (a' := ?_) ?_ ?_
  rotate_left
  · show Act.put _ (some 43) _ = _
    simp only [Act.put, List.setIfInBounds_toArray, List.set_cons_zero, List.set_cons_succ, i64_w, i32_w]
    rfl
  refine pure_ (i := 11) (N := some 44) (v := ?_) (a' := ?_) #[true, true, true, true, true, true, true, true, true, true, true, true, false, false] rfl rfl (by kernel_rfl) (fun _ _ _ h => h) (Or.inl ⟨by rfl, ?_⟩) ?_ ?_
  rotate_left
  · intro w'
    go_simp
    with_reducible rfl
  rotate_left
  · simp only [Act.put, List.setIfInBounds_toArray, List.set_cons_zero, List.set_cons_succ, i64_w, i32_w]
    rfl
  refine pure_ (i := 12) (N := some 45) (v := ?_) (a' := ?_) #[true, true, true, true, true, true, true, true, true, true, true, true, true, false] rfl rfl (by kernel_rfl) (fun _ _ _ h => h) (Or.inl ⟨by rfl, ?_⟩) ?_ ?_
  rotate_left
  · intro w'
    go_simp
    with_reducible rfl
  rotate_left
  · simp only [Act.put, List.setIfInBounds_toArray, List.set_cons_zero, List.set_cons_succ, i64_w, i32_w]
    rfl
  refine last_ (i := 13) (N := none) #[true, true, true, true, true, true, true, true, true, true, true, true, true, true] rfl rfl (by kernel_rfl) (by decide) (fun K hK => ?_)
  refine skip_ (w1 := ?_) (by rfl) rfl ?_ ?_
  rotate_left
  · go_simp
    rfl
  refine hK.out _ _ ?_
  clear hK K
  refine done_ (by kernel_rfl) ?_
  go_wp2
  go_ret
  refine ⟨rfl, ?_, ((Moved.refl w (· = g)).drewN (nq + 1)).setCell (.inl rfl) _⟩
  rw [← HXY.out]
  exact (H.out.drewN (nq + 1)).stored
set_option maxRecDepth 100000 in
theorem merge_not (h : WinAt w g since span a b) (h' : WinAt w g' since' span' c d) (hn : since ≠ since' ∨ span ≠ span') :
    Calls Try.prog 14 #[.pointer (some ⟨g, 0, none⟩), .pointer (some ⟨g', 0, none⟩)] w fun e w' => e = .returned (.bool false) ∧ ∃ n, w' = w.drewN n := by
  obtain ⟨c0, c1, c2, _⟩ := win_cells h.cells
  obtain ⟨d0, d1, d2, _⟩ := win_cells h'.cells
  clear h h' c2 d2
  by_cases h1 : since = since'
  · subst h1
    have h2 : (span == span') = false := beq_eq_false_iff_ne.mpr (by rcases hn with h | h; exact absurd rfl h; exact h)
    clear hn
    go_enter Try.func14, Try.ntmps14
    go_wp2
    go_quiet (fail)
    go_wp2
    go_ret
    exact ⟨rfl, _, rfl⟩
  · have h2 : (since == since') = false := beq_eq_false_iff_ne.mpr h1
    clear hn
    go_enter Try.func14, Try.ntmps14
    go_wp2
    go_quiet (fail)
    go_wp2
    go_ret
    exact ⟨rfl, _, rfl⟩
set_option maxRecDepth 100000 in
theorem merge_none : Calls Try.prog 14 #[.pointer (some ⟨g, 0, none⟩), .pointer none] w fun e w' => e = .returned (.bool false) ∧ ∃ n, w' = w.drewN n := by
  go_enter Try.func14, Try.ntmps14
  go_wp2
  go_quiet (fail)
  go_wp2
  go_ret
  exact ⟨rfl, _, rfl⟩
set_option maxRecDepth 100000 in
theorem merge_nil (p : Value) : Calls Try.prog 14 #[.pointer none, p] w fun e w' => e = .returned (.bool false) ∧ ∃ n, w' = w.drewN n := by
  go_enter Try.func14, Try.ntmps14
  go_wp2
  go_quiet (fail)
  go_wp2
  go_ret
  exact ⟨rfl, _, rfl⟩
theorem tally_nil : Calls Try.prog 10 #[.pointer none] w fun e w' => e = .returned (.complex .f64 0 0) ∧ w = w' := by
  go_enter Try.func10, Try.ntmps10
  go_wp2
  go_ret
  exact ⟨rfl, rfl⟩
theorem since_nil : Calls Try.prog 28 #[.pointer none] w fun e w' => e = .returned (.int .i64 0) ∧ w = w' := by
  go_enter Try.func28, Try.ntmps28
  go_wp2
  go_ret
  exact ⟨rfl, rfl⟩
theorem over_nil (now : Int) : Calls Try.prog 11 #[.pointer none, .int .i64 now] w fun e w' => e = .returned (.bool false) ∧ ∃ n, w' = w.drewN n := by
  go_enter Try.func11, Try.ntmps11
  go_wp2
  go_quiet (fail)
  go_wp2
  go_ret
  exact ⟨rfl, _, rfl⟩
theorem note_nil (now : Int) (good : Bool) : Calls Try.prog 12 #[.pointer none, .int .i64 now, .bool good] w fun e w' => e = .returned (.bool false) ∧ w = w' := by
  go_enter Try.func12, Try.ntmps12
  go_wp2
  go_ret
  exact ⟨rfl, rfl⟩
theorem left_nil (now : Int) : Calls Try.prog 26 #[.pointer none, .int .i64 now] w fun e w' => e = .returned (.int .i64 0) ∧ w = w' := by
  go_enter Try.func26, Try.ntmps26
  go_wp2
  go_ret
  exact ⟨rfl, rfl⟩
theorem verdict_nil (now most : Int) : Calls Try.prog 13 #[.pointer none, .int .i64 now, .int .i64 most] w fun e w' => e = .returned (.int .i64 0) ∧ ∃ n, w' = w.drewN n := by
  have B : Calls Try.prog 18 #[.complex .f64 0 0] w fun e w' => e = .returned (.int .i64 0) ∧ w = w' := by
    have := bad_fl 0 0 w (by omega) (by omega)
    rw [tl_zero] at this
    exact this
  have HB := Aside0.mk B
  clear B
  obtain ⟨x, hx, hx0⟩ : ∃ x, (if most < 0 then 0 else most) = x ∧ 0 ≤ x := ⟨_, rfl, by split <;> omega⟩
  go_enter Try.func13, Try.ntmps13
  go_wp2_with (first
    | (go_at_call 10; refine tally_nil.mono ?_; rintro e w1 ⟨rfl, rfl⟩)
    | (go_at_call 18; refine HB.out.mono ?_; rintro e w1 ⟨rfl, rfl⟩)
    | (go_at_call 11; refine (over_nil now).mono ?_; rintro e w1 ⟨rfl, n, rfl⟩))
  go_ret
  exact ⟨rfl, n, rfl⟩
end
set_option maxRecDepth 100000 in
set_option maxHeartbeats 1000000 in
/-- The document's example. -/
theorem lives_any (w : World) : Calls Try.prog 8 #[] w fun e w' => e = .returned (.bool true) ∧ Below w.heap.size w w' := by
  have NEW := Aside0.mk (fun W => show Calls Try.prog 9 #[.int .i64 10, .int .i64 5] W fun e w' => e = .returned (.pointer (some ⟨W.heap.size, 0, none⟩)) ∧ WinAt w' W.heap.size 10 5 0 0 ∧ Below W.heap.size W w' from new_any 10 5 W)
  have N1 := Aside0.mk (fun W g (h : WinAt W g 10 5 0 0) => show Calls Try.prog 12 #[.pointer (some ⟨g, 0, none⟩), .int .i64 10, .bool true] W fun e w' => e = .returned (.bool true) ∧ WinAt w' g 10 5 1 0 ∧ Moved W w' (· = g) from note_at h (by omega) (by omega) 10 true (by omega) (by omega))
  have N2 := Aside0.mk (fun W g (h : WinAt W g 10 5 1 0) => show Calls Try.prog 12 #[.pointer (some ⟨g, 0, none⟩), .int .i64 11, .bool true] W fun e w' => e = .returned (.bool true) ∧ WinAt w' g 10 5 2 0 ∧ Moved W w' (· = g) from note_at h (by omega) (by omega) 11 true (by omega) (by omega))
  have N3 := Aside0.mk (fun W g (h : WinAt W g 10 5 2 0) => show Calls Try.prog 12 #[.pointer (some ⟨g, 0, none⟩), .int .i64 12, .bool false] W fun e w' => e = .returned (.bool true) ∧ WinAt w' g 10 5 2 1 ∧ Moved W w' (· = g) from note_at h (by omega) (by omega) 12 false (by omega) (by omega))
  have N4 := Aside0.mk (fun W g (h : WinAt W g 10 5 2 1) => note_not h 15 true (.inr (by omega)))
  have V1 := Aside0.mk (fun W g (h : WinAt W g 10 5 2 1) => show Calls Try.prog 13 #[.pointer (some ⟨g, 0, none⟩), .int .i64 15, .int .i64 1] W fun e w' => e = .returned (.int .i64 1) ∧ ∃ n, w' = W.drewN n from verdict_at h (by omega) (by omega) 15 1)
  have V2 := Aside0.mk (fun W g (h : WinAt W g 10 5 2 1) => show Calls Try.prog 13 #[.pointer (some ⟨g, 0, none⟩), .int .i64 14, .int .i64 1] W fun e w' => e = .returned (.int .i64 0) ∧ ∃ n, w' = W.drewN n from verdict_at h (by omega) (by omega) 14 1)
  have V3 := Aside0.mk (fun W g (h : WinAt W g 10 5 2 1) => show Calls Try.prog 13 #[.pointer (some ⟨g, 0, none⟩), .int .i64 14, .int .i64 0] W fun e w' => e = .returned (.int .i64 2) ∧ ∃ n, w' = W.drewN n from verdict_at h (by omega) (by omega) 14 0)
  have heq := fun W => eql_fl W 29 (a := 2) (b := 1) (by omega) (by omega)
  have htl : tl 2 1 = .complex .f64 4611686018427387904 4607182418800017408 := by unfold tl; rw [t_two, t_one]
  have T := Aside0.mk (fun W g (h : WinAt W g 10 5 2 1) => tally_at h)
  rw [htl] at heq T
  clear htl
  go_enter Try.func8, Try.ntmps8
  go_wp2_with (first
    | (go_at_call 9; refine (NEW.out _).mono ?_; rintro e w1 ⟨rfl, hg, hb⟩; have HG := Aside0.mk hg; have HB := Aside0.mk hb; clear hg hb NEW)
    | (go_at_call 12; refine (N1.out _ _ HG.out).mono ?_; rintro e w2 ⟨rfl, hg, hm⟩; have HG1 := Aside0.mk hg; have HB1 := Aside0.mk (Moved.from_below HB.out hm (fun k hk => by omega) (below_size HB.out)); clear hg hm HG HB N1)
    | (go_at_call 12; refine (N2.out _ _ HG1.out).mono ?_; rintro e w3 ⟨rfl, hg, hm⟩; have HG2 := Aside0.mk hg; have HB2 := Aside0.mk (Moved.from_below HB1.out hm (fun k hk => by omega) (below_size HB1.out)); clear hg hm HG1 HB1 N2)
    | (go_at_call 12; refine (N3.out _ _ HG2.out).mono ?_; rintro e w4 ⟨rfl, hg, hm⟩; have HG3 := Aside0.mk hg; have HB3 := Aside0.mk (Moved.from_below HB2.out hm (fun k hk => by omega) (below_size HB2.out)); clear hg hm HG2 HB2 N3)
    | (go_at_call 12; refine (N4.out _ _ HG3.out).mono ?_; rintro e w5 ⟨rfl, n, hw⟩; have HG4 := Aside0.mk (hw ▸ HG3.out.drewN n : WinAt w5 _ _ _ _ _); have HB4 := Aside0.mk (hw ▸ pw_below_drewN HB3.out n : Below w.heap.size w w5); clear hw; clear HG3 HB3 N4)
    | (go_at_call 10; refine (T.out _ _ HG4.out).mono ?_; rintro e w6 ⟨rfl, rfl⟩; clear T)
    | (go_at_call 13; refine (V1.out _ _ HG4.out).mono ?_; rintro e w7 ⟨rfl, n1, hw⟩; have HG5 := Aside0.mk (hw ▸ HG4.out.drewN n1 : WinAt w7 _ _ _ _ _); have HB5 := Aside0.mk (hw ▸ pw_below_drewN HB4.out n1 : Below w.heap.size w w7); clear hw; clear HG4 HB4 V1)
    | (go_at_call 13; refine (V2.out _ _ HG5.out).mono ?_; rintro e w8 ⟨rfl, n2, hw⟩; have HG6 := Aside0.mk (hw ▸ HG5.out.drewN n2 : WinAt w8 _ _ _ _ _); have HB6 := Aside0.mk (hw ▸ pw_below_drewN HB5.out n2 : Below w.heap.size w w8); clear hw; clear HG5 HB5 V2)
    | (go_at_call 13; refine (V3.out _ _ HG6.out).mono ?_; rintro e w9 ⟨rfl, n3, hw⟩; have HB7 := Aside0.mk (hw ▸ pw_below_drewN HB6.out n3 : Below w.heap.size w w9); clear hw; clear HG6 HB6 V3))
  go_ret
  exact ⟨rfl, HB7.out⟩
end Go.Proofs.Ytdpdjchblajbbaa.Hand
