/- A row of bytes of the call's own whose capacity may be less than its block: read, cut, appended to. -/
import Derived.Test.YtbcienbnhchdeaaHandC
import Derived.Test.YtbcienbnhchdeaaWKept
import Derived.Test.YtbcienbnhchdeaaWMore
namespace Go.Proofs.Ytbcienbnhchdeaa.Hand
open Go Go.RowKit Go.Proofs.YtbcienbnhchdeaaW.PrintWords
set_option linter.unusedVariables false

/-- v is nil and empty, or it begins a block of bytes (ok) in which it may write up to its capacity. -/
def BRow (w : World) (ok : Nat → Prop) (v : Value) (xs : List Int) : Prop :=
  (v = .slice none 0 0 ∧ xs = []) ∨ ∃ k cap cur, v = .slice (some ⟨k, 0, none⟩) xs.length cap ∧ ok k ∧ w.heap[k]? = some (.cells cur 5 (0, 0)) ∧ xs.length ≤ cap ∧ cap ≤ cur.size ∧ cap ≤ maxLen ∧ cur.toList.take xs.length = xs.map (Value.int .u8)

section
variable {w w1 : World} {ok ok' : Nat → Prop} {v : Value} {xs : List Int}
theorem B_nil (w : World) (ok : Nat → Prop) : BRow w ok (.slice none 0 0) [] := .inl ⟨rfl, rfl⟩
theorem B_mono (h : BRow w ok v xs) (hok : ∀ k, ok k → ok' k) : BRow w ok' v xs := by
  rcases h with h | ⟨k, cap, cur, h1, h2, h3⟩
  · exact .inl h
  · exact .inr ⟨k, cap, cur, h1, hok k h2, h3⟩
theorem B_bound (h : BRow w ok v xs) : BRow w (fun k => ok k ∧ k < w.heap.size ∧ ∃ cells, w.heap[k]? = some (.cells cells 5 (0, 0))) v xs := by
  rcases h with h | ⟨k, cap, cur, h1, h2, h3, h4⟩
  · exact .inl h
  · exact .inr ⟨k, cap, cur, h1, ⟨h2, blk_lt h3, cur, h3⟩, h3, h4⟩
theorem B_move (h : BRow w ok v xs) (hm : ∀ k, ok k → w1.heap[k]? = w.heap[k]?) : BRow w1 ok v xs := by
  rcases h with h | ⟨k, cap, cur, h1, h2, h3, h4⟩
  · exact .inl h
  · exact .inr ⟨k, cap, cur, h1, h2, (hm k h2).trans h3, h4⟩
theorem B_step (h : BRow w ok v xs) (hm : ∀ k, ok k → k < w.heap.size → w1.heap[k]? = w.heap[k]?) : BRow w1 ok v xs :=
  B_mono (B_move (B_bound h) (fun k hk => hm k hk.1 hk.2.1)) (fun k hk => hk.1)
theorem B_below (h : BRow w ok v xs) (hb : Below w.heap.size w w1) : BRow w1 ok v xs := B_step h (fun k _ hk => hb.block k hk)
theorem B_alloc (h : BRow w ok v xs) (o : Obj) : BRow (w.alloc o) ok v xs := B_below h (below_alloc (Below.refl _ _) o)
theorem B_kept (h : BRow w ok v xs) {S : Nat → Prop} (hk : Kept w w1 S) (hne : ∀ k, ok k → ¬ S k) : BRow w1 ok v xs := B_step h (fun k ho hlt => hk.2 k hlt (hne k ho))
theorem B_ok (h : BRow w ok v xs) : ∀ k, v.ownBlock = some k → ok k ∧ k < w.heap.size ∧ ∃ cells, w.heap[k]? = some (.cells cells 5 (0, 0)) := by
  intro k hk
  rcases h with ⟨rfl, _⟩ | ⟨k', cap, cur, rfl, h2, h3, h4⟩
  · simp [Value.ownBlock] at hk
  · obtain rfl : k' = k := by simpa [Value.ownBlock] using hk
    exact ⟨h2, blk_lt h3, cur, h3⟩
/-- Told of its own block alone. -/
theorem B_tight (h : BRow w ok v xs) : BRow w (fun k => v.ownBlock = some k) v xs := by
  rcases h with ⟨rfl, rfl⟩ | ⟨k', cap, cur, rfl, h2, h3⟩
  · exact B_nil _ _
  · exact .inr ⟨k', cap, cur, rfl, by simp [Value.ownBlock], h3⟩
/-- A store into a block of another type. -/
theorem B_set (h : BRow w ok v xs) {g t : Nat} {cells : Array Value} (hb : w.heap[g]? = some (.cells cells t (0, 0))) (ht : 5 ≠ t) (j : Nat) (u : Value) : BRow (w.setCell ⟨g, j, none⟩ u) ok v xs := by
  refine B_step (B_bound h) (fun k hk _ => ?_) |> fun h' => B_mono h' (fun k hk => hk.1)
  obtain ⟨_, _, c, hc⟩ := hk
  exact Below.heap_setCell w _ u k (fun e => blk_ne hc hb ht e)
theorem B_C (h : BRow w ok v xs) : ∃ A c, v = .slice A xs.length c ∧ xs.length ≤ c ∧ Kd.C (Kd.int .u8) w A xs.length xs := by
  rcases h with ⟨rfl, rfl⟩ | ⟨k, cap, cur, rfl, h2, h3, h4, h5, h6, h7⟩
  · exact ⟨none, 0, rfl, Nat.le_refl _, Kd.C_nil _ _⟩
  · refine ⟨_, cap, rfl, h4, rfl, ?_, fun hn => ⟨_, rfl, fun j p hj => ⟨[.int .u8 p], rfl, rfl, fun i u hu => ?_⟩⟩⟩
    · simp only [maxLen] at h6
      omega
    · match i, hu with
      | 0, hu =>
        obtain rfl : Value.int .u8 p = u := by simpa using hu
        have hjl : j < xs.length := (List.getElem?_eq_some_iff.1 hj).1
        have e : j * (Kd.int .u8).sz + 0 = j := by show j * 1 + 0 = j; omega
        rw [e, add_plain, cell_of_row w k _ cur 5 (0, 0) h3]
        have h8 : (cur.toList.take xs.length)[j]? = some (Value.int .u8 p) := by rw [h7, List.getElem?_map, hj]; rfl
        rw [List.getElem?_take_of_lt hjl] at h8
        simpa using h8
theorem B_C' {A : Option Addr} {n c : Nat} (h : BRow w ok (.slice A n c) xs) : n = xs.length ∧ n ≤ c ∧ Kd.C (Kd.int .u8) w A xs.length xs := by
  obtain ⟨A', c', e, hl, hC⟩ := B_C h
  injection e with e1 e2 e3
  subst e1; subst e2; subst e3
  exact ⟨rfl, hl, hC⟩
/-- 'xs[:m:m]'. -/
theorem B_cut {A : Option Addr} {n c m : Nat} (h : BRow w ok (.slice A n c) xs) (hm : m ≤ xs.length) : BRow w ok (.slice A m m) (xs.take m) := by
  rcases h with ⟨e, rfl⟩ | ⟨k, cap, cur, e, h2, h3, h4, h5, h6, h7⟩
  · injection e with e1 e2 e3
    subst e1; subst e2; subst e3
    obtain rfl : m = 0 := by simpa using hm
    exact .inl ⟨rfl, rfl⟩
  · injection e with e1 e2 e3
    subst e1; subst e2; subst e3
    have hl : (xs.take m).length = m := by rw [List.length_take]; omega
    refine .inr ⟨k, m, cur, by rw [hl], h2, h3, by omega, by omega, by omega, ?_⟩
    rw [hl, List.map_take, ← h7, List.take_take, Nat.min_eq_left hm]
theorem B_of_R {base : Nat} (h : Kd.R (Kd.int .u8) 5 w base ok v xs) : BRow w (fun k => ok k ∧ base ≤ k) v xs := by
  have ho := Kd.own_of_R h
  have hok := h.1
  rcases ho.2 with ⟨rfl, hn⟩ | ⟨g, cap, cur, rfl, hb, hg, hnc, hcm, hcs, ht⟩
  · exact .inl ⟨rfl, List.eq_nil_of_length_eq_zero hn⟩
  · refine .inr ⟨g, cap, cur, rfl, ⟨hok g (by simp [Value.ownBlock]), hb⟩, hg, hnc, by omega, hcm, ?_⟩
    rw [Nat.mul_one] at ht
    exact ht
end

section
variable {P : Program}
/-- append(v, ys...). -/
theorem B_run (w : World) (t ty : TypeId) (i : TypeInfo) (ht : P.underlying t = some (.slice 5)) (hi : P.info? 5 = some i) (hz : i.zero = some (.int .u8 0)) (hsz : i.size = 1) (hby : i.bytes = 1)
    (ok : Nat → Prop) (v : Value) (xs ys : List Int) (A : Option Addr) (c : Nat) (h : BRow w ok v xs) (hr : Kd.C (Kd.int .u8) w A ys.length ys) (hok : ∀ k, w.heap.size ≤ k → ok k) (hl : xs.length + ys.length ≤ 140737488355328) :
    ∃ v1 w1, (Builtin.append_ #[t, t] ty #[v, .slice A ys.length c]).run P w = .ok v1 w1 ∧ BRow w1 ok v1 (xs ++ ys) ∧ w.grownBy w1 v.ownBlock ∧ (v1.ownBlock = v.ownBlock ∨ ∃ b, v1.ownBlock = some b ∧ w.heap.size ≤ b) := by
  have hR : ReadsOf (Value.int .u8) (0 : Int) w A ys.length ys := Kd.reads_of_C hr
  have hone : ∀ u ∈ ys.map (Value.int .u8), u.oneCell' = true := by
    intro u hu
    obtain ⟨q, _, rfl⟩ := List.mem_map.1 hu
    rfl
  have hm63 : (140737488355328 : Nat) ≤ maxLen := by simp [maxLen]
  have grown : ∀ (v' : Value) (w' : World), w'.ownsRow w.heap.size 5 1 v' (xs.length + ys.length) (xs.map (Value.int .u8) ++ ys.map (Value.int .u8)) → BRow w' ok v' (xs ++ ys) := by
    intro v' w' ho
    rcases ho.2 with ⟨rfl, hn⟩ | ⟨g, cap, cur, rfl, hb, hg, hnc, hcm, hcs, htk⟩
    · exact .inl ⟨rfl, List.eq_nil_of_length_eq_zero (by rw [List.length_append]; omega)⟩
    · refine .inr ⟨g, cap, cur, by rw [List.length_append], hok g hb, hg, by rw [List.length_append]; exact hnc, by omega, hcm, ?_⟩
      rw [List.length_append, ← Nat.mul_one (xs.length + ys.length), htk, List.map_append]
  cases A with
  | none =>
    obtain rfl : ys = [] := by
      rcases Nat.eq_zero_or_pos ys.length with h0 | h0
      · exact List.eq_nil_of_length_eq_zero h0
      · obtain ⟨ad, e, _⟩ := hr.2.2 h0
        cases e
    refine ⟨v, w, ?_, by rw [List.append_nil]; exact h, World.grownBy.refl w _, .inl rfl⟩
    rcases h with ⟨rfl, rfl⟩ | ⟨g, cap, cur, rfl, _, _, hnc, _⟩
    · simp [Builtin.append_, run_underlying ht, sizeOf, typeInfo, hi, Builtin.lenOf, Builtin.firstCells]
    · simp [Builtin.append_, run_underlying ht, sizeOf, typeInfo, hi, Builtin.lenOf, Builtin.firstCells, hnc, storeCells]
  | some ad =>
    have hcells : ∀ j u, (ys.map (Value.int .u8))[j]? = some u → w.cell? (ad.add j) = some u := by
      intro j u hu
      have hj : j < ys.length := by
        rcases Nat.lt_or_ge j ys.length with h | h
        · exact h
        · simp [List.getElem?_eq_none h] at hu
      obtain ⟨ad', h', hc⟩ := hR.2.2 (by omega)
      injection h' with h'
      subst h'
      rw [List.getElem?_map, List.getElem?_eq_getElem hj] at hu
      rw [hc j hj, ← hu]
      simp [List.getD_eq_getElem?_getD, List.getElem?_eq_getElem hj]
    rcases h with ⟨rfl, rfl⟩ | ⟨g, cap, cur, rfl, h2, h3, h4, h5, h6, h7⟩
    · obtain ⟨v1, w1, hr1, ho, hg, _, hat⟩ := run_append_own_at (P := P) w w.heap.size t ty 5 i (.int .u8 0) 1 1 ht hi hz hsz hby rfl (by omega) (.slice none 0 0) 0 [] ⟨rfl, .inl ⟨rfl, rfl⟩⟩ ad ys.length c (ys.map (Value.int .u8)) (by simp) hcells hone (by simp at hl; omega) (by simpa using hl) (Nat.le_refl _)
      refine ⟨v1, w1, hr1, grown v1 w1 (by simpa using ho), hg, ?_⟩
      rcases hat with hat | hat
      · exact .inl hat
      · exact .inr ⟨_, hat, Nat.le_refl _⟩
    · by_cases hroom : xs.length + ys.length ≤ cap
      · have hr1 := run_append_room (P := P) w t ty 5 i ht hi g xs.length cap cur h3 ad ys.length c (ys.map (Value.int .u8)) (by rw [hsz]; simp) hcells hone hroom (by rw [hsz]; simp; omega)
        refine ⟨_, _, hr1, ?_, ⟨rfl, rfl, rfl, by simp, fun k _ hk => setRow_other w g k _ (fun e => hk (by simp [Value.ownBlock, e]))⟩, .inl rfl⟩
        refine .inr ⟨g, cap, _, by rw [List.length_append], h2, setRow_heap w g cur _ 5 _ h3, by rw [List.length_append]; exact hroom, ?_, h6, ?_⟩
        · rw [hsz]
          simp only [List.size_toArray, List.length_append, List.length_take, List.length_drop, Array.length_toList, List.length_map]
          omega
        · rw [hsz, Nat.mul_one, h7, List.map_append]
          exact List.take_left' (by simp)
      · have holds : ∀ j u, (xs.map (Value.int .u8))[j]? = some u → w.cell? ((⟨g, 0, none⟩ : Addr).add j) = some u := by
          intro j u hu
          have hj : j < xs.length := by
            rcases Nat.lt_or_ge j xs.length with h | h
            · exact h
            · simp [List.getElem?_eq_none h] at hu
          rw [add_plain, cell_of_row w g _ cur 5 (0, 0) h3]
          rw [← h7, List.getElem?_take_of_lt hj] at hu
          simpa using hu
        obtain ⟨v1, w1, hr1, ho, hg⟩ := run_append_arg_grows (P := P) (w := w) t ty 5 i (.int .u8 0) 1 1 ht hi hz hsz hby rfl (by omega) ⟨g, 0, none⟩ xs.length cap (xs.map (Value.int .u8)) (by simp) holds ad ys.length c (ys.map (Value.int .u8)) (by simp) hcells (by omega) (by omega) (by simpa using hl)
        refine ⟨v1, w1, hr1, grown v1 w1 ho, ⟨hg.os, hg.tape, hg.output, hg.size, fun k hk _ => hg.block k hk (by simp)⟩, ?_⟩
        obtain ⟨g', cap', he, hb, _⟩ := ho.form (by omega)
        exact .inr ⟨g', by rw [he]; simp [Value.ownBlock], hb⟩
end
end Go.Proofs.Ytbcienbnhchdeaa.Hand
