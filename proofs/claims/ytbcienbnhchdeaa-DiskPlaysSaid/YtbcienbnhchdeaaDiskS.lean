/- The steps of a script: the first ones; what came in, opened. -/
import Derived.Test.YtbcienbnhchdeaaPrD2
import Derived.Test.YtbcienbnhchdeaaPrD3
import Derived.Test.YtbcienbnhchdeaaHandP
namespace Go.Proofs.Ytbcienbnhchdeaa.Hand
open Go Go.RowKit Go.Deep Go.ChangeShapes Go.Proofs.YtbcienbnhchdeaaW.PrintWords Go.Proofs.YtbcienbnhchdeaaW.PrintMore PrD
set_option linter.unusedVariables false

def okS5 (z : S52) : Prop := okB z.f2 = true
def cut5 (z : S52) : S52 := ⟨z.f0, z.f1, z.f2.take 40⟩
def early5 (l : List S52) : List S52 := (l.take 80).map cut5
theorem early5_ok {l : List S52} (h : ∀ z ∈ l, okS5 z) : ∀ z ∈ early5 l, okB z.f2 = true ∧ z.f2.length ≤ 40 := by
  intro z hz
  obtain ⟨y, hy, rfl⟩ := List.mem_map.1 hz
  have h1 := h y (List.mem_of_mem_take hy)
  refine ⟨?_, by show (y.f2.take 40).length ≤ 40; rw [List.length_take]; omega⟩
  unfold okS5 okB at h1
  show okB (y.f2.take 40) = true
  unfold okB
  rw [List.all_eq_true] at h1 ⊢
  exact fun x hx => h1 x (List.mem_of_mem_take hx)
theorem early5_len (l : List S52) : (early5 l).length ≤ 80 := by
  unfold early5
  rw [List.length_map, List.length_take]
  omega
theorem early5_l0 {l : List S52} (hl : l.length ≤ 9223372036854775807) : ∀ (m n k : Nat), n + m = min l.length 80 → m + 1 ≤ k →
    pacesetterlaw05_early.l0 k l ((l.take n).map cut5) (n : Int) = some (early5 l) := by
  intro m
  induction m with
  | zero =>
    intro n k hn hk
    obtain ⟨k, rfl⟩ : ∃ j, k = j + 1 := ⟨k - 1, by omega⟩
    have e : (l.take n).map cut5 = early5 l := by
      unfold early5
      congr 1
      by_cases h : l.length ≤ 80
      · rw [List.take_of_length_le (by omega), List.take_of_length_le (by omega)]
      · congr 1
        omega
    rw [pacesetterlaw05_early.l0, e]
    by_cases c : (n : Int) < (l.length : Int)
    · rw [if_pos c, if_neg (by omega)]
    · rw [if_neg c]
  | succ m ih =>
    intro n k hn hk
    obtain ⟨k, rfl⟩ : ∃ j, k = j + 1 := ⟨k - 1, by omega⟩
    have hlt : n < l.length := by omega
    have hx : rd_T52 l (n : Int) = l[n] := by
      unfold rd_T52
      rw [Int.toNat_natCast, List.getD_eq_getElem?_getD, List.getElem?_eq_getElem hlt]
      rfl
    have hmn : mn ((l[n].f2).length : Int) 40 = ((min (l[n].f2).length 40 : Nat) : Int) := by unfold mn; split <;> omega
    have hw : wrap64 ((n : Int) + 1) = ((n + 1 : Nat) : Int) := by unfold wrap64; omega
    have c1 : (n : Int) < (l.length : Int) := by omega
    have c2 : (n : Int) < 80 := by omega
    have c3 : (0 : Int) ≤ (n : Int) := by omega
    have c4 : (0 : Int) ≤ ((min (l[n].f2).length 40 : Nat) : Int) := by omega
    have c5 : ((min (l[n].f2).length 40 : Nat) : Int) ≤ ((l[n].f2).length : Int) := by omega
    have c6 : ((l.take n).map cut5).length < 3518437208883 := by rw [List.length_map, List.length_take]; omega
    have ht : (l[n].f2).take (min (l[n].f2).length 40) = (l[n].f2).take 40 := by
      by_cases h : (l[n].f2).length ≤ 40
      · rw [List.take_of_length_le (by omega), List.take_of_length_le (by omega)]
      · congr 1
        omega
    rw [pacesetterlaw05_early.l0, if_pos c1, if_pos c2, if_pos c3, hx, hmn, if_pos c4, if_pos c5, if_pos c6, Int.toNat_natCast, ht, hw]
    have e : (l.take n).map cut5 ++ [(⟨l[n].f0, l[n].f1, (l[n].f2).take 40⟩ : S52)] = (l.take (n + 1)).map cut5 := by
      rw [List.take_succ_eq_append_getElem hlt, List.map_append]
      rfl
    rw [e]
    exact ih (n + 1) k (by omega) (by omega)
theorem early5_f {l : List S52} (hl : l.length ≤ 9223372036854775807) : pacesetterlaw05_early.f 81 l = some (early5 l) := by
  unfold pacesetterlaw05_early.f
  exact early5_l0 hl (min l.length 80) 0 81 (by omega) (by omega)
theorem early5_any (P : Nat → Prop) (A : Option Addr) (c : Nat) (l : List S52) (w : World) (h : Kd.V k52 52 w w.heap.size P (.slice A l.length c) l) :
    Calls Try.prog 51 #[.slice A l.length c] w fun e w' => ∃ A' c', e = .returned (.slice A' (early5 l).length c') ∧ Kd.V k52 52 w' 0 (fun k => (P k ∨ w.heap.size ≤ k) ∧ k < w'.heap.size) (.slice A' (early5 l).length c') (early5 l) ∧ Below w.heap.size w w' := by
  refine (pacesetterlaw05_early.calls 81 P A c l (early5 l) w h (early5_f (Kd.V_reads' h).2.2.2.1)).mono fun e w' ⟨v, he, hN, hb⟩ => ?_
  have hV := Kd.V_bound (Kd.N_V (base' := 0) hN)
  obtain ⟨A', c', rfl⟩ := Kd.V_slice hV
  exact ⟨A', c', he, hV, hb⟩
theorem heap52 : Kd.Heap k52 := Kd.heap_iso _ (Kd.heap_pair (Kd.heap_int _) (Kd.heap_pair (Kd.heap_int _) (Kd.heap_slice 5 (Kd.heap_int _))))
/-- A script that came in. -/
theorem steps_V {w : World} {A : Option Addr} {c : Nat} {l : List S52} (h : Kd.C k52 w A l.length l) (hc : l.length ≤ c) : Kd.V k52 52 w w.heap.size (fun k => k < w.heap.size) (.slice A l.length c) l :=
  Kd.V_mk hc (Kd.C_F heap52 h)
/-- A step of a script, read: its cells, and its bytes. -/
theorem step_at {w : World} {ok : Nat → Prop} {A : Option Addr} {c : Nat} {l : List S52} (h : Kd.V k52 52 w 0 ok (.slice A l.length c) l) {n : Nat} (hn : n < l.length) :
    ∃ ad A2 c2, A = some ad ∧ w.cell? (ad.add (n * 3)) = some (.int .i64 (l[n]'hn).f0) ∧ w.cell? (ad.add (n * 3 + 1)) = some (.int .i64 (l[n]'hn).f1) ∧ w.cell? (ad.add (n * 3 + 2)) = some (.slice A2 (l[n]'hn).f2.length c2) ∧ (l[n]'hn).f2.length ≤ c2 ∧ Kd.C (Kd.int .u8) w A2 (l[n]'hn).f2.length (l[n]'hn).f2 := by
  have hC := (Kd.V_reads' h).2.2
  obtain ⟨ad, e, hc⟩ := hC.2.2 (by omega)
  obtain ⟨cs, hl, hK, hcell⟩ := hc n (l[n]'hn) (List.getElem?_eq_getElem hn)
  obtain ⟨A2, c2, rfl, h1, h2⟩ := k52_open hK
  have h3 : k52.sz = 3 := rfl
  rw [h3] at hcell
  exact ⟨ad, A2, c2, e, hcell 0 _ rfl, hcell 1 _ rfl, hcell 2 _ rfl, h1, h2⟩
theorem add_add (a : Addr) (i j : Nat) : (a.add i).add j = a.add (i + j) := Go.Deep.add_add a i j
instance inh52 : Inhabited S52 := ⟨z52⟩
theorem cells52 : Try.prog.cellsOf 52 = 3 := by kernel_rfl
theorem cells22 : Try.prog.cellsOf 22 = 1 := by kernel_rfl
theorem cells3 : Try.prog.cellsOf 3 = 1 := by kernel_rfl
set_option maxRecDepth 100000 in
/-- One step, opened. -/
theorem open_step5 {H : Type} {enc : TypeId × Value → H} {w : World} {base : Nat} {held : Bool} {fuel : Nat} {cs : List Value} {x : DataW H × List MemPlace}
    (h : DataW.trod enc Try.prog w base (fun _ => true) held fuel 52 cs = some x) : ∃ z : S52, k52.K w z cs ∧ okS5 z := by
  obtain ⟨xs, m, _, _, hl, hxs, hall⟩ := DataW.trod_struct Try.underlying52 h
  have hl3 : cs.length = 3 := hl.trans cells52
  have h0 := hall 0 _ rfl
  have h1 := hall 1 _ rfl
  have h2 := hall 2 _ rfl
  have hxl : xs.length = 3 := hxs
  rw [List.getElem?_eq_getElem (by omega)] at h0 h1 h2
  obtain ⟨a, ha, _, _⟩ := DataW.trod_int Try.underlying3 h0
  obtain ⟨b, hb, _, _⟩ := DataW.trod_int Try.underlying3 h1
  match cs, hl3 with
  | [p, q, r], _ =>
    have e2 : ([p, q, r].drop 2).take (Try.prog.cellsOf 22) = [r] := by rw [cells22]; rfl
    have h2' : DataW.trod enc Try.prog w base (fun _ => true) held m 22 [r] = some xs[2] := by rw [← e2]; exact h2
    have hr : ∃ A n c, r = .slice A n c := by
      rcases open_ints Try.underlying22 Try.underlying5 (by kernel_rfl) h2' with ⟨hcs, _⟩ | ⟨ad, l, c, zs, hcs, _⟩
      · exact ⟨_, _, _, (List.cons.inj hcs).1⟩
      · exact ⟨_, _, _, (List.cons.inj hcs).1⟩
    obtain ⟨A2, n2, c2, rfl⟩ := hr
    obtain ⟨zs, hz1, hz2, hz3, hz4⟩ := open_bytes (a := A2) (len := n2) (cap := c2) h2'
    subst hz1
    have ep : p = .int .i64 a := by
      have e : ([p, q, Value.slice A2 zs.length c2].drop 0).take (Try.prog.cellsOf 3) = [p] := by rw [cells3]; rfl
      exact (List.cons.inj (e.symm.trans ha)).1
    have eq : q = .int .i64 b := by
      have e : ([p, q, Value.slice A2 zs.length c2].drop 1).take (Try.prog.cellsOf 3) = [q] := by rw [cells3]; rfl
      exact (List.cons.inj (e.symm.trans hb)).1
    subst ep eq
    exact ⟨⟨a, b, zs⟩, ⟨[.int .i64 a], [.int .i64 b, .slice A2 zs.length c2], rfl, rfl, ⟨[.int .i64 b], [.slice A2 zs.length c2], rfl, rfl, ⟨A2, c2, rfl, hz2, hz3⟩⟩⟩, hz4⟩
theorem open_steps5 {H : Type} {enc : TypeId × Value → H} {w : World} {base : Nat} {held : Bool} {fuel : Nat} {a : Option Addr} {len cap : Nat} {x : DataW H × List MemPlace}
    (h : DataW.trod enc Try.prog w base (fun _ => true) held fuel 46 (Value.slice a len cap).cells.toList = some x) :
    ∃ zs : List S52, zs.length = len ∧ len ≤ cap ∧ Kd.C k52 w a len zs ∧ ∀ z ∈ zs, okS5 z := by
  rcases open_slice Try.underlying46 h with ⟨hcs, _⟩ | ⟨ad, l, c, m, n, D, Pl, hcs, _, hl, hm, hmm, _, hi⟩
  · simp [Value.cells] at hcs
    obtain ⟨rfl, rfl, rfl⟩ := hcs
    exact ⟨[], rfl, Nat.le_refl _, Kd.C_nil _ _, by simp⟩
  · simp [Value.cells] at hcs
    obtain ⟨rfl, rfl, rfl⟩ := hcs
    have hml : maxLen ≤ 9223372036854775807 := by decide
    have hmc : m = cap := by simpa using hmm
    obtain ⟨Z, hZ⟩ := choose_lt (α := S52) (n := len) (p := fun i z => okS5 z ∧ ∃ cs, cs.length = 3 ∧ k52.K w z cs ∧ ∀ j u, cs[j]? = some u → w.cell? (ad.add (i * 3 + j)) = some u) (fun i hlt => by
      obtain ⟨cs', h1, h2⟩ := hi i (by omega)
      rw [cells52] at h1
      obtain ⟨_, hlen, hcell⟩ := World.cells?_some h1
      obtain ⟨z, hz1, hz2⟩ := open_step5 h2
      refine ⟨z, hz2, cs', hlen, hz1, fun j u hu => ?_⟩
      have hj : j < 3 := by
        have := (List.getElem?_eq_some_iff.1 hu).1
        omega
      rw [← add_add, hcell j hj, hu])
    have hlz : ((List.range len).map Z).length = len := by simp
    refine ⟨(List.range len).map Z, hlz, hl, ⟨hlz, by omega, fun _ => ⟨ad, rfl, fun j p hj => ?_⟩⟩, ?_⟩
    · have hjl : j < len := by
        have := (List.getElem?_eq_some_iff.1 hj).1
        omega
      have hp : Z j = p := by
        rw [List.getElem?_map, List.getElem?_range hjl] at hj
        simpa using hj
      subst hp
      obtain ⟨_, cs, h1, h2, h3⟩ := hZ j hjl
      exact ⟨cs, h1, h2, h3⟩
    · intro z hz
      obtain ⟨i, hi', rfl⟩ := List.mem_map.1 hz
      exact (hZ i (List.mem_range.1 hi')).1
end Go.Proofs.Ytbcienbnhchdeaa.Hand
