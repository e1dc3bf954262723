/- Rows of ones: plain facts, and their append. -/
import Derived.Test.YtdpdjchblajbbaaWinT
namespace Go.Proofs.Ytdpdjchblajbbaa.Hand
open Go Go.RowKit Go.Proofs.YtdpdjchblajbbaaW.PrintLast Go.Proofs.YtdpdjchblajbbaaW.PrintWords Go.Proofs.YtdpdjchblajbbaaW.PrintMore
set_option linter.unusedVariables false
set_option linter.unusedSimpArgs false
attribute [local go_sem] max2_int min2_int max_two min_two
/-- The first n of a row, as min tells it. -/
theorem min_len {α : Type} (l : List α) (n : Nat) : (if (n : Int) < (l.length : Int) then (n : Int) else (l.length : Int)) = (((l.take n).length : Nat) : Int) := by
  rw [List.length_take]; split <;> omega
def ones (l : List Bool) : List (Nat × Nat) := l.map fun g => (oneG g, oneB g)
/-- A row of tallies that grows. -/
structure Ones (W0 wr : World) (v : Value) (xs : List (Nat × Nat)) : Prop where
  row : Kd.R kT 29 wr W0.heap.size (fun _ => True) v xs
  below : Below W0.heap.size W0 wr
theorem flag_at {w : World} {A : Option Addr} {l : List Bool} (h : Kd.C Kd.bool w A l.length l) {n : Nat} (hn : n < l.length) : ∃ ad, A = some ad ∧ w.cell? (ad.add n) = some (.bool (l.getD n false)) := by
  have h1 := ReadsOf.at_ (Kd.reads_of_C (enc := Value.bool) (d := false) (h1 := fun _ => rfl) h) (n : Int) (by omega) (by omega)
  rw [Int.toNat_natCast] at h1
  exact h1
theorem ones_take {l : List Bool} {n : Nat} (hn : n < l.length) : ones (l.take (n + 1)) = ones (l.take n) ++ [(oneG (l.getD n false), oneB (l.getD n false))] := by
  unfold ones
  rw [List.take_succ_eq_append_getElem hn, List.map_append]
  simp [List.getD_eq_getElem?_getD, hn]
theorem sG_snoc (xs : List (Nat × Nat)) (p : Nat × Nat) : sG (xs ++ [p]) = sG xs + p.1 := by unfold sG; simp
theorem sB_snoc (xs : List (Nat × Nat)) (p : Nat × Nat) : sB (xs ++ [p]) = sB xs + p.2 := by unfold sB; simp
theorem ones_sum : ∀ l : List Bool, sG (ones l) + sB (ones l) = l.length
  | [] => rfl
  | g :: l => by
    have h := ones_sum l
    unfold sG sB ones at *
    simp only [List.map_cons, List.sum_cons, List.length_cons]
    have e : oneG g + oneB g = 1 := by cases g <;> rfl
    omega
theorem ones_len (l : List Bool) : (ones l).length = l.length := by unfold ones; simp
theorem ones_append (l m : List Bool) : ones (l ++ m) = ones l ++ ones m := by unfold ones; simp
theorem sG_append (xs ys : List (Nat × Nat)) : sG (xs ++ ys) = sG xs + sG ys := by unfold sG; simp
theorem sB_append (xs ys : List (Nat × Nat)) : sB (xs ++ ys) = sB xs + sB ys := by unfold sB; simp
theorem ones_at (l : List Bool) {n : Nat} (hn : n < l.length) : (ones l).getD n (0, 0) = (oneG (l.getD n false), oneB (l.getD n false)) := by
  unfold ones
  simp [List.getD_eq_getElem?_getD, hn]
theorem adds_ones (l : List Bool) (hl : l.length ≤ 110) : Adds (ones l) := by
  intro n hn
  rw [ones_len] at hn
  have e : (ones l).take n = ones (l.take n) := by unfold ones; rw [List.map_take]
  have h := ones_sum (l.take n)
  rw [List.length_take] at h
  rw [e, ones_at l hn]
  have lg : oneG (l.getD n false) < 2 := by cases l.getD n false <;> decide
  have lb : oneB (l.getD n false) < 2 := by cases l.getD n false <;> decide
  refine ⟨t_add1 _ (by omega) _ lg, t_add1 _ (by omega) _ lb, ?_, ?_⟩
  · simp only; omega
  · simp only; omega
theorem t_add51 : ∀ a, a < 51 → ∀ b, b < 51 → FloatKind.f64.format.add (fl a) (fl b) = some (fl (a + b)) := by decide +kernel
theorem adds_two (a b c d : Nat) (ha : a < 51) (hb : b < 51) (hc : c < 51) (hd : d < 51) : Adds [(a, b), (c, d)] := by
  intro n hn
  match n, hn with
  | 0, _ =>
    have h1 := t_add51 0 (by omega) a ha
    have h2 := t_add51 0 (by omega) b hb
    exact ⟨h1, h2, by show 0 + a < 161; omega, by show 0 + b < 161; omega⟩
  | 1, _ =>
    have h1 := t_add51 a ha c hc
    have h2 := t_add51 b hb d hd
    have e1 : sG (([(a, b), (c, d)] : List (Nat × Nat)).take 1) = a := by simp [sG]
    have e2 : sB (([(a, b), (c, d)] : List (Nat × Nat)).take 1) = b := by simp [sB]
    rw [e1, e2]
    exact ⟨h1, h2, by show a + c < 161; omega, by show b + d < 161; omega⟩
/-- Two tallies in a new row. -/
theorem two_C (W : World) (p q : Nat × Nat) {u v : Value} (hu : tlp p = u) (hv : tlp q = v) : Kd.C kT (W.alloc (.cells #[u, v] 29)) (some ⟨W.heap.size, 0, none⟩) 2 [p, q] := by
  subst hu hv
  refine Kd.C_of_reads (enc := tlp) (d := ((0, 0) : Nat × Nat)) (h1 := fun _ => rfl) ⟨rfl, by omega, fun _ => ⟨_, rfl, fun j hj => ?_⟩⟩
  match j, hj with
  | 0, _ => exact (blk_cell (heap_alloc_new W _) 0).trans rfl
  | 1, _ => exact (blk_cell (heap_alloc_new W _) 1).trans rfl
end Go.Proofs.Ytdpdjchblajbbaa.Hand
