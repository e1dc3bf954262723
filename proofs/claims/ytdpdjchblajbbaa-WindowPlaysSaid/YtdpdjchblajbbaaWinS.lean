/- The steps of a script, and a row of bools: what came in, opened; a note, whatever it is. -/
import Derived.Test.YtdpdjchblajbbaaHandW
import Derived.ProofKit
import Derived.OpenShut
import Derived.Deep.Slices
namespace Go.Proofs.Ytdpdjchblajbbaa.Hand
open Go Go.RowKit Go.Deep Go.ChangeShapes Go.Proofs.YtdpdjchblajbbaaW.PrintLast Go.Proofs.YtdpdjchblajbbaaW.PrintWords Go.Proofs.YtdpdjchblajbbaaW.PrintMore
set_option linter.unusedVariables false
set_option linter.unusedSimpArgs false

structure S28 where
  f0 : Int
  f1 : Int
  f2 : Int
  f3 : Bool
def z28 : S28 := ⟨0, 0, 0, false⟩
def k28 : Kd S28 := Kd.iso (Kd.pair (Kd.int .i64) (Kd.pair (Kd.int .i64) (Kd.pair (Kd.int .i64) Kd.bool))) (fun x : S28 => (x.f0, x.f1, x.f2, x.f3))
theorem k28_open {w : World} {x : S28} {cs : List Value} (h : k28.K w x cs) : cs = [.int .i64 x.f0, .int .i64 x.f1, .int .i64 x.f2, .bool x.f3] := by
  obtain ⟨_, _, rfl, rfl, ⟨_, _, rfl, rfl, ⟨_, _, rfl, rfl, rfl⟩⟩⟩ := h
  rfl
theorem k28_mk (w : World) (x : S28) : k28.K w x [.int .i64 x.f0, .int .i64 x.f1, .int .i64 x.f2, .bool x.f3] := ⟨[.int .i64 x.f0], [.int .i64 x.f1, .int .i64 x.f2, .bool x.f3], rfl, rfl, ⟨[.int .i64 x.f1], [.int .i64 x.f2, .bool x.f3], rfl, rfl, ⟨[.int .i64 x.f2], [.bool x.f3], rfl, rfl, rfl⟩⟩⟩
def rd28 (xs : List S28) (n : Nat) : S28 := xs.getD n z28
theorem at_step {w : World} {A : Option Addr} {m : Nat} {l : List S28} (h : Kd.C k28 w A m l) {n : Nat} (hn : n < m) : ∃ ad, A = some ad ∧
    w.cell? (ad.add (n * 4)) = some (.int .i64 (rd28 l n).f0) ∧ w.cell? ⟨(ad.add (n * 4)).block, (ad.add (n * 4)).off + 1, none⟩ = some (.int .i64 (rd28 l n).f1) ∧ w.cell? ⟨(ad.add (n * 4)).block, (ad.add (n * 4)).off + 2, none⟩ = some (.int .i64 (rd28 l n).f2) ∧ w.cell? ⟨(ad.add (n * 4)).block, (ad.add (n * 4)).off + 3, none⟩ = some (.bool (rd28 l n).f3) := by
  obtain ⟨ad, c, e, _, hK, hc0⟩ := Kd.C_get h z28 (n : Int) (by omega) (by omega)
  rw [Int.toNat_natCast] at hc0 hK
  have hc : ∀ j u, c[j]? = some u → w.cell? (ad.add (n * 4 + j)) = some u := hc0
  obtain rfl := k28_open hK
  exact ⟨ad, e, hc 0 _ rfl, by rw [← add_field _ _ 1 (by omega)]; exact hc 1 _ rfl, by rw [← add_field _ _ 2 (by omega)]; exact hc 2 _ rfl, by rw [← add_field _ _ 3 (by omega)]; exact hc 3 _ rfl⟩
instance inh28 : Inhabited S28 := ⟨z28⟩
def okS (z : S28) : Prop := (Lit.int .i64 z.f1).wf = true
theorem cells28 : Try.prog.cellsOf 28 = 4 := by kernel_rfl
theorem cells3 : Try.prog.cellsOf 3 = 1 := by kernel_rfl
theorem cells4 : Try.prog.cellsOf 4 = 1 := by kernel_rfl
set_option maxRecDepth 100000 in
/-- One step, opened. -/
theorem open_step {H : Type} {enc : TypeId × Value → H} {w : World} {base : Nat} {held : Bool} {fuel : Nat} {cs : List Value} {x : DataW H × List MemPlace}
    (h : DataW.trod enc Try.prog w base (fun _ => true) held fuel 28 cs = some x) : ∃ z : S28, k28.K w z cs ∧ okS z := by
  obtain ⟨xs, m, _, _, hl, hxs, hall⟩ := DataW.trod_struct Try.underlying28 h
  have hl4 : cs.length = 4 := hl.trans cells28
  have h0 := hall 0 _ rfl
  have h1 := hall 1 _ rfl
  have h2 := hall 2 _ rfl
  have h3 := hall 3 _ rfl
  have hxl : xs.length = 4 := hxs
  rw [List.getElem?_eq_getElem (by omega)] at h0 h1 h2 h3
  obtain ⟨a, ha, _, _⟩ := DataW.trod_int Try.underlying3 h0
  obtain ⟨b, hb, _, wb⟩ := DataW.trod_int Try.underlying3 h1
  obtain ⟨c, hc, _, _⟩ := DataW.trod_int Try.underlying3 h2
  obtain ⟨d, hd, _⟩ := DataW.trod_bool Try.underlying4 h3
  match cs, hl4 with
  | [p, q, r, s], _ =>
    have ep : p = .int .i64 a := by
      have e : ([p, q, r, s].drop 0).take (Try.prog.cellsOf 3) = [p] := by rw [cells3]; rfl
      exact (List.cons.inj (e.symm.trans ha)).1
    have eq : q = .int .i64 b := by
      have e : ([p, q, r, s].drop 1).take (Try.prog.cellsOf 3) = [q] := by rw [cells3]; rfl
      exact (List.cons.inj (e.symm.trans hb)).1
    have er : r = .int .i64 c := by
      have e : ([p, q, r, s].drop 2).take (Try.prog.cellsOf 3) = [r] := by rw [cells3]; rfl
      exact (List.cons.inj (e.symm.trans hc)).1
    have es : s = .bool d := by
      have e : ([p, q, r, s].drop 3).take (Try.prog.cellsOf 4) = [s] := by rw [cells4]; rfl
      exact (List.cons.inj (e.symm.trans hd)).1
    subst ep eq er es
    exact ⟨⟨a, b, c, d⟩, k28_mk w _, wb⟩
theorem open_steps {H : Type} {enc : TypeId × Value → H} {w : World} {base : Nat} {held : Bool} {fuel : Nat} {a : Option Addr} {len cap : Nat} {x : DataW H × List MemPlace}
    (h : DataW.trod enc Try.prog w base (fun _ => true) held fuel 22 (Value.slice a len cap).cells.toList = some x) :
    ∃ zs : List S28, zs.length = len ∧ len ≤ cap ∧ Kd.C k28 w a len zs ∧ ∀ z ∈ zs, okS z := by
  rcases open_slice Try.underlying22 h with ⟨hcs, _⟩ | ⟨ad, l, c, m, n, D, Pl, hcs, _, hl, hm, hmm, _, hi⟩
  · simp [Value.cells] at hcs
    obtain ⟨rfl, rfl, rfl⟩ := hcs
    exact ⟨[], rfl, Nat.le_refl _, Kd.C_nil _ _, by simp⟩
  · simp [Value.cells] at hcs
    obtain ⟨rfl, rfl, rfl⟩ := hcs
    have hml : maxLen ≤ 9223372036854775807 := by decide
    have hmc : m = cap := by simpa using hmm
    obtain ⟨Z, hZ⟩ := choose_lt (α := S28) (n := len) (p := fun i z => okS z ∧ ∃ cs, cs.length = 4 ∧ k28.K w z cs ∧ ∀ j u, cs[j]? = some u → w.cell? (ad.add (i * 4 + j)) = some u) (fun i hlt => by
      obtain ⟨cs', h1, h2⟩ := hi i (by omega)
      rw [cells28] at h1
      obtain ⟨_, hlen, hcell⟩ := World.cells?_some h1
      obtain ⟨z, hz1, hz2⟩ := open_step h2
      refine ⟨z, hz2, cs', hlen, hz1, fun j u hu => ?_⟩
      have hj : j < 4 := by
        have := (List.getElem?_eq_some_iff.1 hu).1
        omega
      rw [← Go.Deep.add_add, hcell j hj, hu])
    have hlz : ((List.range len).map Z).length = len := by simp
    refine ⟨(List.range len).map Z, hlz, hl, ⟨hlz, by omega, fun _ => ⟨ad, rfl, fun j p hj => ?_⟩⟩, ?_⟩
    · have hjl : j < len := by
        have := (List.getElem?_eq_some_iff.1 hj).1
        omega
      have hp : Z j = p := by
        rw [List.getElem?_map, List.getElem?_range hjl] at hj
        simpa using hj
      subst hp
      obtain ⟨_, cs, h1, h2, h3⟩ := hZ j hjl
      exact ⟨cs, h1, h2, h3⟩
    · intro z hz
      obtain ⟨i, hi', rfl⟩ := List.mem_map.1 hz
      exact (hZ i (List.mem_range.1 hi')).1
theorem guard_tl (op : BinOp) (t : TypeId) (x y : Operand) (a b c d : Nat) : eqGuard op t x y (tl a b) (tl c d) = pure () := by cases op <;> rfl
/-- What a note adds. -/
def incG (since span now : Int) (good : Bool) : Nat := if since ≤ now ∧ now < since + span then oneG good else 0
def incB (since span now : Int) (good : Bool) : Nat := if since ≤ now ∧ now < since + span then oneB good else 0
theorem inc_le (since span now : Int) (good : Bool) : incG since span now good + incB since span now good ≤ 1 := by
  unfold incG incB
  split
  · cases good <;> decide
  · decide
theorem note_any {w : World} {g : Nat} {since span : Int} {a b : Nat} (h : WinAt w g since span a b) (ha : a < 119) (hb : b < 119) (now : Int) (good : Bool) : Calls Try.prog 12 #[.pointer (some ⟨g, 0, none⟩), .int .i64 now, .bool good] w fun e w' =>
    e = .returned (.bool (decide (since ≤ now ∧ now < since + span))) ∧ WinAt w' g since span (a + incG since span now good) (b + incB since span now good) ∧ Moved w w' (· = g) := by
  by_cases hc : since ≤ now ∧ now < since + span
  · have e1 : incG since span now good = oneG good := if_pos hc
    have e2 : incB since span now good = oneB good := if_pos hc
    rw [e1, e2, decide_eq_true hc]
    exact note_at h ha hb now good hc.1 hc.2
  · have e1 : incG since span now good = 0 := if_neg hc
    have e2 : incB since span now good = 0 := if_neg hc
    rw [e1, e2, decide_eq_false hc]
    refine (note_not h now good (by omega)).mono fun e w' ⟨he, n, hw⟩ => ⟨he, ?_, ?_⟩
    · rw [hw]; exact h.drewN n
    · rw [hw]; exact (Moved.refl w (· = g)).drewN n
end Go.Proofs.Ytdpdjchblajbbaa.Hand
