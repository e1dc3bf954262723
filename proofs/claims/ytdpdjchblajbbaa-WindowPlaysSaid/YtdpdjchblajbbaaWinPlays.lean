/- WindowPlays, by hand. -/
import Derived.Test.YtdpdjchblajbbaaWinR
import Derived.Deep.DeepCutAuto
import Derived.Deep.CutBlock
namespace Go.Proofs.Ytdpdjchblajbbaa.Hand
open Go Go.RowKit Go.Proofs.YtdpdjchblajbbaaW.PrintLast Go.Proofs.YtdpdjchblajbbaaW.PrintWords Go.Proofs.YtdpdjchblajbbaaW.PrintMore
set_option linter.unusedVariables false
set_option linter.unusedSimpArgs false
attribute [local go_sem] max2_int min2_int max_two min_two guard_tl
/-- A number of a small row. -/
theorem rem_small (a : Int) (m : Int) (h0 : 0 < m) (h1 : m ≤ 100000) : ∃ r : Nat, (r : Int) < m ∧ wrap64 (Int.tmod (IntKind.u64.wrap a) m) = (r : Int) := by
  have h0' : 0 ≤ IntKind.u64.wrap a := by rw [IntKind.wrap_u64]; omega
  have h1' : Int.tmod (IntKind.u64.wrap a) m = IntKind.u64.wrap a % m := Int.tmod_eq_emod_of_nonneg h0'
  have h2 : 0 ≤ IntKind.u64.wrap a % m := Int.emod_nonneg _ (by omega)
  have h3 : IntKind.u64.wrap a % m < m := Int.emod_lt_of_pos _ h0
  exact ⟨(IntKind.u64.wrap a % m).toNat, by omega, by rw [h1']; unfold wrap64; omega⟩
/-- A second reading's window in memory. -/
def RefAt (w : World) (R : Nat) (since span : Int) (a b : Nat) : Prop := w.heap[R]? = some (.cells #[.int .i64 since, .int .i64 span, .int .i64 (a : Int), .int .i64 (b : Int)] 45 (0, 0))
section
variable {w wr w1 : World} {g R : Nat} {since span : Int} {a b a' b' : Nat}
/-- Four cells stored anew. -/
def put4 (w : World) (R : Nat) (p q r s : Value) : World := (((w.setCell ⟨R, 0, none⟩ p).setCell ⟨R, 1, none⟩ q).setCell ⟨R, 2, none⟩ r).setCell ⟨R, 3, none⟩ s
theorem put4_heap {p q r s p' q' r' s' : Value} (h : w.heap[R]? = some (.cells #[p, q, r, s] 45 (0, 0))) : (put4 w R p' q' r' s').heap[R]? = some (.cells #[p', q', r', s'] 45 (0, 0)) :=
  blk_set (blk_set (blk_set (blk_set h 0 p') 1 q') 2 r') 3 s'
theorem put4_moved (p q r s : Value) : Moved w (put4 w R p q r s) (· = R) :=
  ((((Moved.refl w (· = R)).setCell (p := ⟨R, 0, none⟩) (.inl rfl) p).setCell (p := ⟨R, 1, none⟩) (.inl rfl) q).setCell (p := ⟨R, 2, none⟩) (.inl rfl) r).setCell (p := ⟨R, 3, none⟩) (.inl rfl) s
theorem alloc_at {n : Nat} {w0 W : World} (h : Below n w0 W) (o : Obj) : Aside0 ((W.alloc o).heap[W.heap.size]? = some o) := Aside0.mk (heap_alloc_new W o)
theorem blk_alloc {W : World} {k : Nat} {x : Obj} (h : W.heap[k]? = some x) (o : Obj) : (W.alloc o).heap[k]? = some x := ((below_alloc (Below.refl _ _) o).block k (by have := (Array.getElem?_eq_some_iff.1 h).1; exact this)).trans h
theorem blk_below {W W1 : World} {k : Nat} {x : Obj} (h : W.heap[k]? = some x) (hb : Below W.heap.size W W1) : W1.heap[k]? = some x := (hb.block k (by have := (Array.getElem?_eq_some_iff.1 h).1; exact this)).trans h
theorem blk_moved {W W1 : World} {k : Nat} {x : Obj} (h : W.heap[k]? = some x) {S : Nat → Prop} (hm : Moved W W1 S) (hk : ¬ S k) : W1.heap[k]? = some x := (hm.kept.2 k (by have := (Array.getElem?_eq_some_iff.1 h).1; exact this) hk).trans h
/-- A window beside its second reading. -/
structure WPlay (w wr : World) (g R : Nat) (since span : Int) (a b : Nat) : Prop where
  d : WinAt wr g since span a b
  r : wr.heap[R]? = some (.cells #[.int .i64 since, .int .i64 span, .int .i64 (a : Int), .int .i64 (b : Int)] 45 (0, 0))
  hg : w.heap.size ≤ g
  hR : w.heap.size ≤ R
  below : Below w.heap.size w wr
theorem WPlay.num (h : WPlay w wr g R since span a b) (ha : a ≤ 100000) (hb : b ≤ 100000) : Num since span a b := ⟨h.d.s0, h.d.s1, h.d.p0, h.d.p1, ha, hb⟩
theorem ne_gR {W : World} {p q r s : Value} (d : WinAt W g since span a b) (hr : W.heap[R]? = some (.cells #[p, q, r, s] 45 (0, 0))) : ¬ g = R := fun e => by subst e; exact blk_ne d.cells hr (by decide) rfl
theorem ne_blk {W : World} {k k' t t' : Nat} {c c' : Array Value} (h : W.heap[k]? = some (.cells c t (0, 0))) (h' : W.heap[k']? = some (.cells c' t' (0, 0))) (ht : t ≠ t') : ¬ k = k' := fun e => by subst e; exact blk_ne h h' ht rfl
theorem WPlay.made {p q r s : Value} (d : WinAt wr g since span a b) (hr : wr.heap[R]? = some (.cells #[p, q, r, s] 45 (0, 0))) (hg : w.heap.size ≤ g) (hR : w.heap.size ≤ R) (hb : Below w.heap.size w wr) :
    WPlay w (put4 wr R (.int .i64 since) (.int .i64 span) (.int .i64 (a : Int)) (.int .i64 (b : Int))) g R since span a b :=
  ⟨d.moved (put4_moved _ _ _ _) (ne_gR d hr), put4_heap hr, hg, hR, Moved.from_below hb (put4_moved _ _ _ _) (fun k hk => by omega) hb.size⟩
end
set_option maxRecDepth 100000 in
set_option maxHeartbeats 4000000 in
theorem windowPlays_any (x y mo : Int) (A0 : Option Addr) (c0 : Nat) (l0 : List S28) (w : World) (h0 : Kd.C k28 w A0 l0.length l0) (hc0 : l0.length ≤ c0) :
    Calls Try.prog 6 #[.agg #[.int .i64 x, .int .i64 y], .slice A0 l0.length c0, .int .i64 mo] w fun e w' => e = .returned (.bool true) ∧ Below w.heap.size w w' := by
  have H0 := Aside0.mk h0
  have hl0 := h0.2.1
  clear h0
  go_enter Try.func6, Try.ntmps6
  go_upto_region 3 with (first
    | (go_at_call 8; refine (lives_any _).mono ?_; rintro e w1 ⟨rfl, hb⟩; have HB := Aside0.mk (below_step (below_alloc (Below.refl _ _) _) hb); have p0 := (hb.block w.heap.size (by simp)).trans (heap_alloc_new w _); have P0 := Aside0.mk p0; clear hb p0))
  refine start_ (n := 13) (S := fun w' => Below w1.heap.size w1 w' ∧ w'.cell? ⟨w.heap.size, 0, none⟩ = some (.int .i64 x) ∧ w'.cell? ⟨w.heap.size, 1, none⟩ = some (.int .i64 y) ∧ w'.heap[w.heap.size]? = some (Obj.cells #[.int .i64 x, .int .i64 y] 43)) (ds := [12]) #[false, false, false, false, false, false, false, false, false, false, false, false, false] (by kernel_rfl) rfl rfl ⟨(below_drew (Below.refl _ _)), ((blk_cell P0.out 0).trans rfl), ((blk_cell P0.out 1).trans rfl), P0.out⟩ (fun hHeld => ?_)
  refine pure_ (i := 0) (N := some 22) (v := ?_) (a' := ?_) #[true, false, false, false, false, false, false, false, false, false, false, false, false] rfl rfl (by kernel_rfl) (fun _ _ _ h => h) (Or.inl ⟨by rfl, ?_⟩) ?_ ?_
  rotate_left
  · intro w'
    go_simp
    with_reducible rfl
  rotate_left
  · simp only [Act.put, List.setIfInBounds_toArray, List.set_cons_zero, List.set_cons_succ, i64_w, i32_w]
    rfl
  refine pure_ (i := 2) (N := some 24) (v := ?_) (a' := ?_) #[true, false, true, false, false, false, false, false, false, false, false, false, false] rfl rfl (by kernel_rfl) (fun _ _ _ h => h) (Or.inl ⟨by rfl, ?_⟩) ?_ ?_
  rotate_left
  · intro w'
    go_simp
    with_reducible rfl
  rotate_left
  · simp only [Act.put, List.setIfInBounds_toArray, List.set_cons_zero, List.set_cons_succ, i64_w, i32_w]
    rfl
  refine pure_ (i := 5) (N := some 27) (v := ?_) (a' := ?_) #[true, false, true, false, false, true, false, false, false, false, false, false, false] rfl rfl (by kernel_rfl) (fun _ _ _ h => h) (Or.inl ⟨by rfl, ?_⟩) ?_ ?_
  rotate_left
  · intro w'
    go_simp
    with_reducible rfl
  rotate_left
  · simp only [Act.put, List.setIfInBounds_toArray, List.set_cons_zero, List.set_cons_succ, i64_w, i32_w]
    rfl
  refine pure_ (i := 7) (N := some 29) (v := ?_) (a' := ?_) #[true, false, true, false, false, true, false, true, false, false, false, false, false] rfl rfl (by kernel_rfl) (fun _ _ _ h => h) (Or.inl ⟨by rfl, ?_⟩) ?_ ?_
  rotate_left
  · intro w'
    go_simp
    with_reducible rfl
  rotate_left
  · simp only [Act.put, List.setIfInBounds_toArray, List.set_cons_zero, List.set_cons_succ, i64_w, i32_w]
    rfl
  refine take_ (i := 1) (N := some 23) (v := ?_) (a' := ?_) #[true, true, true, false, false, true, false, true, false, false, false, false, false] rfl rfl (by kernel_rfl) (fun _ _ _ h => h) (Or.inl ⟨by rfl, ?_⟩) hHeld ?_ ?_
  rotate_left
  · rintro w' ⟨s0, s1, s2, s3⟩
    go_simp
    with_reducible rfl
  rotate_left
  · simp only [Act.put, List.setIfInBounds_toArray, List.set_cons_zero, List.set_cons_succ, i64_w, i32_w]
    rfl
  refine take_ (i := 3) (N := some 25) (v := ?_) (a' := ?_) #[true, true, true, true, false, true, false, true, false, false, false, false, false] rfl rfl (by kernel_rfl) (fun _ _ _ h => h) (Or.inl ⟨by rfl, ?_⟩) hHeld ?_ ?_
  rotate_left
  · rintro w' ⟨s0, s1, s2, s3⟩
    go_simp
    with_reducible rfl
  rotate_left
  · simp only [Act.put, List.setIfInBounds_toArray, List.set_cons_zero, List.set_cons_succ, i64_w, i32_w]
    rfl
  refine take_ (i := 6) (N := some 28) (v := ?_) (a' := ?_) #[true, true, true, true, false, true, true, true, false, false, false, false, false] rfl rfl (by kernel_rfl) (fun _ _ _ h => h) (Or.inl ⟨by rfl, ?_⟩) hHeld ?_ ?_
  rotate_left
  · rintro w' ⟨s0, s1, s2, s3⟩
    go_simp
    with_reducible rfl
  rotate_left
  · simp only [Act.put, List.setIfInBounds_toArray, List.set_cons_zero, List.set_cons_succ, i64_w, i32_w]
    rfl
  refine take_ (i := 8) (N := some 30) (v := ?_) (a' := ?_) #[true, true, true, true, false, true, true, true, true, false, false, false, false] rfl rfl (by kernel_rfl) (fun _ _ _ h => h) (Or.inl ⟨by rfl, ?_⟩) hHeld ?_ ?_
  rotate_left
  · rintro w' ⟨s0, s1, s2, s3⟩
    go_simp
    with_reducible rfl
  rotate_left
  · simp only [Act.put, List.setIfInBounds_toArray, List.set_cons_zero, List.set_cons_succ, i64_w, i32_w]
    rfl
  refine join_ (σ := (Nat × Nat)) 2 #[true, true, true, true, true, true, true, true, true, true, true, false, false] (fun s => [(26, .pointer (some ⟨s.1, 0, none⟩)), (31, .agg #[.int .i64 (sinceOf x), .int .i64 (spanOf y), .int .i64 0, .int .i64 0]), (8, .pointer (some ⟨s.2, 0, none⟩))]) (fun s w' => WinAt w' s.1 (sinceOf x) (spanOf y) 0 0 ∧ w'.heap[s.2]? = some (Obj.cells #[.int .i64 0, .int .i64 0, .int .i64 0, .int .i64 0] 45 (0, 0)) ∧ Below w1.heap.size w1 w' ∧ w1.heap.size ≤ s.1 ∧ w1.heap.size ≤ s.2 ∧ w'.heap[w.heap.size]? = some (Obj.cells #[.int .i64 x, .int .i64 y] 43)) ?_ ?_
  rotate_left
  · intro hCont
    refine two_ (i := 4) (j := 10) (Ni := some 26) (Nj := some 8) #[true, true, true, true, true, true, true, true, true, false, false, false, false] #[true, true, true, true, false, true, true, true, true, false, true, false, false] rfl rfl rfl rfl (by kernel_rfl) (by decide) (by decide) (fun K hK => ?_) (fun K hK => ?_)
    · skip
      refine goes_ Try.func9 (by kernel_rfl) rfl #[.int .i64 x, .int .i64 y] (by rfl) rfl rfl (by simp only [List.map_toArray, List.map_cons, List.map_nil]; rfl) ?_
      with_reducible refine (new_any x y _).mono ?_
      rintro e w8 ⟨rfl, hg, hb⟩
      refine ⟨_, rfl, ?_⟩
      have HG := Aside0.mk hg
      have LG := Aside0.mk (below_size hHeld.1)
      (try (have n_ := Aside0.mk (blk_below HR.out hb); clear HR; have HR := n_; clear n_))
      have hP := blk_below hHeld.2.2.2 hb
      refine hK.out _ _ ⟨below_step hHeld.1 hb, (blk_cell hP 0).trans rfl, (blk_cell hP 1).trans rfl, hP⟩ (fun hHeld => ?_)
      clear hK K
      refine norm_ (a' := ?_) ?_ ?_
      rotate_left
      · show Act.put _ (some 26) _ = _
        simp only [Act.put, List.setIfInBounds_toArray, List.set_cons_zero, List.set_cons_succ, i64_w, i32_w]
        rfl
      refine two_ (i := 9) (j := 10) (Ni := some 31) (Nj := some 8) #[true, true, true, true, true, true, true, true, true, true, false, false, false] #[true, true, true, true, true, true, true, true, true, false, true, false, false] rfl rfl rfl rfl (by kernel_rfl) (by decide) (by decide) (fun K hK => ?_) (fun K hK => ?_)
      · skip
        refine goes_ Try.func19 (by kernel_rfl) rfl #[.int .i64 x, .int .i64 y] (by rfl) rfl rfl (by simp only [List.map_toArray, List.map_cons, List.map_nil]; rfl) ?_
        with_reducible refine (refNew_any x y _).mono ?_
        rintro e w9 ⟨rfl, hb⟩
        refine ⟨_, rfl, ?_⟩
        (try (have n_ := Aside0.mk (HG.out.below hb); clear HG; have HG := n_; clear n_))
        (try (have n_ := Aside0.mk (blk_below HR.out hb); clear HR; have HR := n_; clear n_))
        have hP := blk_below hHeld.2.2.2 hb
        refine hK.out _ _ ⟨below_step hHeld.1 hb, (blk_cell hP 0).trans rfl, (blk_cell hP 1).trans rfl, hP⟩ (fun hHeld => ?_)
        clear hK K
        refine norm_ (a' := ?_) ?_ ?_
        rotate_left
        · show Act.put _ (some 31) _ = _
          simp only [Act.put, List.setIfInBounds_toArray, List.set_cons_zero, List.set_cons_succ, i64_w, i32_w]
          rfl
        refine one_ (i := 10) (N := some 8) #[true, true, true, true, true, true, true, true, true, true, true, false, false] rfl rfl (by kernel_rfl) (by decide) (fun K hK => ?_)
        refine value_ (w1 := ?_) (v := ?_) (by rfl) rfl ?_ ?_
        rotate_left 2
        · go_simp
          constructor
          · rfl
          · rfl
        have HR := alloc_at hHeld.1 (Obj.cells #[.int .i64 0, .int .i64 0, .int .i64 0, .int .i64 0] 45)
        have LR := Aside0.mk (below_size hHeld.1)
        (try (have n_ := Aside0.mk (HG.out.below (below_alloc (Below.refl _ _) (Obj.cells #[.int .i64 0, .int .i64 0, .int .i64 0, .int .i64 0] 45))); clear HG; have HG := n_; clear n_))
        have hP := blk_alloc hHeld.2.2.2 (Obj.cells #[.int .i64 0, .int .i64 0, .int .i64 0, .int .i64 0] 45)
        refine hK.out _ _ ⟨below_alloc hHeld.1 _, (blk_cell hP 0).trans rfl, (blk_cell hP 1).trans rfl, hP⟩ (fun hHeld => ?_)
        clear hK K
        refine norm_ (a' := ?_) ?_ ?_
        rotate_left
        · show Act.put _ (some 8) _ = _
          simp only [Act.put, List.setIfInBounds_toArray, List.set_cons_zero, List.set_cons_succ, i64_w, i32_w]
          rfl
        exact norm_ (by first | (simp only [putAll, Act.put, List.setIfInBounds_toArray, List.set_cons_zero, List.set_cons_succ]; done) | (simp only [putAll, Act.put, List.setIfInBounds_toArray, List.set_cons_zero, List.set_cons_succ]; rfl)) (hCont (_, _) _ ⟨HG.out, HR.out, hHeld.1, LG.out, LR.out, hHeld.2.2.2⟩)
      · skip
        refine value_ (w1 := ?_) (v := ?_) (by rfl) rfl ?_ ?_
        rotate_left 2
        · go_simp
          constructor
          · rfl
          · rfl
        have HR := alloc_at hHeld.1 (Obj.cells #[.int .i64 0, .int .i64 0, .int .i64 0, .int .i64 0] 45)
        have LR := Aside0.mk (below_size hHeld.1)
        (try (have n_ := Aside0.mk (HG.out.below (below_alloc (Below.refl _ _) (Obj.cells #[.int .i64 0, .int .i64 0, .int .i64 0, .int .i64 0] 45))); clear HG; have HG := n_; clear n_))
        have hP := blk_alloc hHeld.2.2.2 (Obj.cells #[.int .i64 0, .int .i64 0, .int .i64 0, .int .i64 0] 45)
        refine hK.out _ _ ⟨below_alloc hHeld.1 _, (blk_cell hP 0).trans rfl, (blk_cell hP 1).trans rfl, hP⟩ (fun hHeld => ?_)
        clear hK K
        refine norm_ (a' := ?_) ?_ ?_
        rotate_left
        · show Act.put _ (some 8) _ = _
          simp only [Act.put, List.setIfInBounds_toArray, List.set_cons_zero, List.set_cons_succ, i64_w, i32_w]
          rfl
        refine one_ (i := 9) (N := some 31) #[true, true, true, true, true, true, true, true, true, true, true, false, false] rfl rfl (by kernel_rfl) (by decide) (fun K hK => ?_)
        refine goes_ Try.func19 (by kernel_rfl) rfl #[.int .i64 x, .int .i64 y] (by rfl) rfl rfl (by simp only [List.map_toArray, List.map_cons, List.map_nil]; rfl) ?_
        with_reducible refine (refNew_any x y _).mono ?_
        rintro e w9 ⟨rfl, hb⟩
        refine ⟨_, rfl, ?_⟩
        (try (have n_ := Aside0.mk (HG.out.below hb); clear HG; have HG := n_; clear n_))
        (try (have n_ := Aside0.mk (blk_below HR.out hb); clear HR; have HR := n_; clear n_))
        have hP := blk_below hHeld.2.2.2 hb
        refine hK.out _ _ ⟨below_step hHeld.1 hb, (blk_cell hP 0).trans rfl, (blk_cell hP 1).trans rfl, hP⟩ (fun hHeld => ?_)
        clear hK K
        refine norm_ (a' := ?_) ?_ ?_
        rotate_left
        · show Act.put _ (some 31) _ = _
          simp only [Act.put, List.setIfInBounds_toArray, List.set_cons_zero, List.set_cons_succ, i64_w, i32_w]
          rfl
        exact norm_ (by first | (simp only [putAll, Act.put, List.setIfInBounds_toArray, List.set_cons_zero, List.set_cons_succ]; done) | (simp only [putAll, Act.put, List.setIfInBounds_toArray, List.set_cons_zero, List.set_cons_succ]; rfl)) (hCont (_, _) _ ⟨HG.out, HR.out, hHeld.1, LG.out, LR.out, hHeld.2.2.2⟩)
    · skip
      refine value_ (w1 := ?_) (v := ?_) (by rfl) rfl ?_ ?_
      rotate_left 2
      · go_simp
        constructor
        · rfl
        · rfl
      have HR := alloc_at hHeld.1 (Obj.cells #[.int .i64 0, .int .i64 0, .int .i64 0, .int .i64 0] 45)
      have LR := Aside0.mk (below_size hHeld.1)
      (try (have n_ := Aside0.mk (HG.out.below (below_alloc (Below.refl _ _) (Obj.cells #[.int .i64 0, .int .i64 0, .int .i64 0, .int .i64 0] 45))); clear HG; have HG := n_; clear n_))
      have hP := blk_alloc hHeld.2.2.2 (Obj.cells #[.int .i64 0, .int .i64 0, .int .i64 0, .int .i64 0] 45)
      refine hK.out _ _ ⟨below_alloc hHeld.1 _, (blk_cell hP 0).trans rfl, (blk_cell hP 1).trans rfl, hP⟩ (fun hHeld => ?_)
      clear hK K
      refine norm_ (a' := ?_) ?_ ?_
      rotate_left
      · show Act.put _ (some 8) _ = _
        simp only [Act.put, List.setIfInBounds_toArray, List.set_cons_zero, List.set_cons_succ, i64_w, i32_w]
        rfl
      refine one_ (i := 4) (N := some 26) #[true, true, true, true, true, true, true, true, true, false, true, false, false] rfl rfl (by kernel_rfl) (by decide) (fun K hK => ?_)
      refine goes_ Try.func9 (by kernel_rfl) rfl #[.int .i64 x, .int .i64 y] (by rfl) rfl rfl (by simp only [List.map_toArray, List.map_cons, List.map_nil]; rfl) ?_
      with_reducible refine (new_any x y _).mono ?_
      rintro e w8 ⟨rfl, hg, hb⟩
      refine ⟨_, rfl, ?_⟩
      have HG := Aside0.mk hg
      have LG := Aside0.mk (below_size hHeld.1)
      (try (have n_ := Aside0.mk (blk_below HR.out hb); clear HR; have HR := n_; clear n_))
      have hP := blk_below hHeld.2.2.2 hb
      refine hK.out _ _ ⟨below_step hHeld.1 hb, (blk_cell hP 0).trans rfl, (blk_cell hP 1).trans rfl, hP⟩ (fun hHeld => ?_)
      clear hK K
      refine norm_ (a' := ?_) ?_ ?_
      rotate_left
      · show Act.put _ (some 26) _ = _
        simp only [Act.put, List.setIfInBounds_toArray, List.set_cons_zero, List.set_cons_succ, i64_w, i32_w]
        rfl
      refine one_ (i := 9) (N := some 31) #[true, true, true, true, true, true, true, true, true, true, true, false, false] rfl rfl (by kernel_rfl) (by decide) (fun K hK => ?_)
      refine goes_ Try.func19 (by kernel_rfl) rfl #[.int .i64 x, .int .i64 y] (by rfl) rfl rfl (by simp only [List.map_toArray, List.map_cons, List.map_nil]; rfl) ?_
      with_reducible refine (refNew_any x y _).mono ?_
      rintro e w9 ⟨rfl, hb⟩
      refine ⟨_, rfl, ?_⟩
      (try (have n_ := Aside0.mk (HG.out.below hb); clear HG; have HG := n_; clear n_))
      (try (have n_ := Aside0.mk (blk_below HR.out hb); clear HR; have HR := n_; clear n_))
      have hP := blk_below hHeld.2.2.2 hb
      refine hK.out _ _ ⟨below_step hHeld.1 hb, (blk_cell hP 0).trans rfl, (blk_cell hP 1).trans rfl, hP⟩ (fun hHeld => ?_)
      clear hK K
      refine norm_ (a' := ?_) ?_ ?_
      rotate_left
      · show Act.put _ (some 31) _ = _
        simp only [Act.put, List.setIfInBounds_toArray, List.set_cons_zero, List.set_cons_succ, i64_w, i32_w]
        rfl
      exact norm_ (by first | (simp only [putAll, Act.put, List.setIfInBounds_toArray, List.set_cons_zero, List.set_cons_succ]; done) | (simp only [putAll, Act.put, List.setIfInBounds_toArray, List.set_cons_zero, List.set_cons_succ]; rfl)) (hCont (_, _) _ ⟨HG.out, HR.out, hHeld.1, LG.out, LR.out, hHeld.2.2.2⟩)
  rintro ⟨g, R⟩ w5 ⟨hg, hr, hb, l1, l2, hP⟩
  have hHeld : Below w1.heap.size w1 w5 ∧ w5.cell? ⟨w.heap.size, 0, none⟩ = some (.int .i64 x) ∧ w5.cell? ⟨w.heap.size, 1, none⟩ = some (.int .i64 y) ∧ w5.heap[w.heap.size]? = some (Obj.cells #[.int .i64 x, .int .i64 y] 43) := ⟨hb, (blk_cell hP 0).trans rfl, (blk_cell hP 1).trans rfl, hP⟩
  have HX := Lib.hid (WPlay.made (w := w) (a := 0) (b := 0) hg hr (Nat.le_trans HB.out.size l1) (Nat.le_trans HB.out.size l2) (below_step HB.out hb))
  have q0 : w5.cell? ⟨R, 0, none⟩ = some (.int .i64 0) := (blk_cell hr 0).trans rfl
  have q1 : w5.cell? ⟨R, 1, none⟩ = some (.int .i64 0) := (blk_cell hr 1).trans rfl
  have q2 : w5.cell? ⟨R, 2, none⟩ = some (.int .i64 0) := (blk_cell hr 2).trans rfl
  have q3 : w5.cell? ⟨R, 3, none⟩ = some (.int .i64 0) := (blk_cell hr 3).trans rfl
  have f0 : ∀ i, w5.frozen? ⟨R, i, none⟩ = false := fun i => blk_frozen hr i
  have pl := blk_lt hr
  clear hg hr hb l1 l2 hP
  refine norm_ (a' := ?_) ?_ ?_
  rotate_left
  · simp only [putAll, Act.put, List.setIfInBounds_toArray, List.set_cons_zero, List.set_cons_succ]
    rfl
  refine pure_ (i := 11) (N := some 7) (v := ?_) (a' := ?_) #[true, true, true, true, true, true, true, true, true, true, true, true, false] rfl rfl (by kernel_rfl) (fun _ _ _ h => h) (Or.inl ⟨by rfl, ?_⟩) ?_ ?_
  rotate_left
  · intro w'
    go_simp
    with_reducible rfl
  rotate_left
  · simp only [Act.put, List.setIfInBounds_toArray, List.set_cons_zero, List.set_cons_succ, i64_w, i32_w]
    rfl
  refine last_ (i := 12) (N := none) #[true, true, true, true, true, true, true, true, true, true, true, true, true] rfl rfl (by kernel_rfl) (by decide) (fun K hK => ?_)
  refine skip_ (w1 := ?_) (by rfl) rfl ?_ ?_
  rotate_left
  · go_simp
    rfl
  refine hK.out _ _ ?_
  clear hK K
  refine done_ (by kernel_rfl) ?_
  clear q0 q1 q2 q3 f0 pl P0 HB
  generalize sinceOf x = since at *
  generalize spanOf y = span at *
  go_wp2_with fail
  go_loopw [9] (fun i wr => ∃ n : Nat, n ≤ l0.length ∧ n ≤ 80 ∧ i = .int .i64 (n : Int) ∧ Hid (∃ a b, a + b ≤ n ∧ WPlay w wr g R since span a b)) (fun i _ => l0.length - (intOf i).toNat)
  case atStart => exact ⟨0, by omega, by omega, rfl, Lib.hid ⟨0, 0, by omega, HX.out⟩⟩
  case round =>
    obtain ⟨n, hn, hn2, rfl, HC⟩ := hrel
    clear HX
    obtain ⟨a, b, hab, hx⟩ := HC.out
    have HY := Aside0.mk hx
    clear hx HC
    by_cases hlt : n < l0.length
    · by_cases h80 : n < 80
      · obtain ⟨ad, rfl, e0, e1, e2, e3⟩ := at_step (Kd.C_below H0.out HY.out.below) hlt
        generalize rd28 l0 n = z at *
        go_upto_block 2 with (first | (go_at_call 20; refine (kind_any z _).mono ?_; rintro e w6 ⟨rfl, hb⟩; have HB6 := Aside0.mk hb; clear hb))
        have D := Aside0.mk HY.out.d
        have F := Aside0.mk HY.out.r
        have BL := Aside0.mk HY.out.below
        have LB_g := Aside0.mk HY.out.hg
        have LB_R := Aside0.mk HY.out.hR
        have NUM := Aside0.mk (HY.out.num (by omega) (by omega))
        have SS := Aside0.mk (blk_below (heap_alloc_new wr (Obj.cells #[.int .i64 z.f0, .int .i64 z.f1, .int .i64 z.f2, .bool z.f3] 28)) HB6.out)
        have hb6 := below_step (below_alloc (Below.refl _ _) _) HB6.out
        (try (have n_ := Aside0.mk (D.out.below hb6); clear D; have D := n_; clear n_)); (try (have n_ := Aside0.mk (D2.out.below hb6); clear D2; have D2 := n_; clear n_)); (try (have n_ := Aside0.mk (blk_below F.out hb6); clear F; have F := n_; clear n_)); (try (have n_ := Aside0.mk (blk_below F2.out hb6); clear F2; have F2 := n_; clear n_)); (try (have n_ := Aside0.mk (blk_below SS.out hb6); clear SS; have SS := n_; clear n_)); (try (have n_ := Aside0.mk (below_step BL.out hb6); clear BL; have BL := n_; clear n_))
        have NE_SS_g := Aside0.mk (ne_blk SS.out D.out.cells (by decide))
        have NE_SS_R := Aside0.mk (ne_blk SS.out F.out (by decide))
        have NE_F_g := Aside0.mk (fun e => ne_gR D.out F.out e.symm : ¬ R = g)
        have NE_D_R := Aside0.mk (ne_gR D.out F.out)
        clear hb6 HB6 HY e0 e1 e2 e3
        generalize wr.heap.size = S at *
        obtain ⟨K, hK3, hK⟩ := rem_small z.f0 3 (by omega) (by omega)
        rw [hK]
        clear hK
        go_cut [11] (fun s11 wx => s11 = .bool true ∧ Hid (∃ a b, a + b ≤ n + 1 ∧ WPlay w wx g R since span a b ∧ wx.heap[S]? = some (.cells #[.int .i64 z.f0, .int .i64 z.f1, .int .i64 z.f2, .bool z.f3] 28 (0, 0))))
        case first =>
          (try clear cF0 cF1 cF2 cF3 cFf cFl); (try clear cS0 cS1 cS2 cS3 cSl); (try clear cG0 cG1 cG2 cG3 cGl); (try (have cF0 := (blk_cell F.out 0).trans rfl; have cF1 := (blk_cell F.out 1).trans rfl; have cF2 := (blk_cell F.out 2).trans rfl; have cF3 := (blk_cell F.out 3).trans rfl; have cFl := blk_lt F.out; have cFf : ∀ i, _ = false := fun i => blk_frozen F.out i)); (try (have cS0 := (blk_cell SS.out 0).trans rfl; have cS1 := (blk_cell SS.out 1).trans rfl; have cS2 := (blk_cell SS.out 2).trans rfl; have cS3 := (blk_cell SS.out 3).trans rfl; have cSl := blk_lt SS.out)); (try (have cG0 := (blk_cell F2.out 0).trans rfl; have cG1 := (blk_cell F2.out 1).trans rfl; have cG2 := (blk_cell F2.out 2).trans rfl; have cG3 := (blk_cell F2.out 3).trans rfl; have cGl := blk_lt F2.out; have cGf : ∀ i, _ = false := fun i => blk_frozen F2.out i))
          have hSR : S ≠ R := NE_SS_R.out
          have hRS : R ≠ S := fun e => NE_SS_R.out e.symm
          have hinc := inc_le since span z.f1 z.f3
          obtain ⟨a', ha'⟩ : ∃ a', a + incG since span z.f1 z.f3 = a' := ⟨_, rfl⟩
          obtain ⟨b', hb'⟩ : ∃ b', b + incB since span z.f1 z.f3 = b' := ⟨_, rfl⟩
          obtain ⟨V, hV⟩ : ∃ V, decide (since ≤ z.f1 ∧ z.f1 < since + span) = V := ⟨_, rfl⟩
          have HAB := Aside0.mk (show a' + b' ≤ n + 1 by omega)
          rcases (by omega : K = 0 ∨ K = 1 ∨ K = 2) with rfl | rfl | rfl
          · have RN := Aside0.mk (fun W => show Calls Try.prog 21 #[.agg #[.int .i64 since, .int .i64 span, .int .i64 (a : Int), .int .i64 (b : Int)], .int .i64 z.f1, .bool z.f3] W fun e w' => e = .returned (.tuple #[.agg #[.int .i64 since, .int .i64 span, .int .i64 (a' : Int), .int .i64 (b' : Int)], .bool V]) ∧ Below W.heap.size W w' by
              have h := refNote_any NUM.out z.f1 z.f3 W
              rw [ha', hb', hV] at h
              exact h)
            have NT := Aside0.mk (fun W (h : WinAt W g since span a b) => show Calls Try.prog 12 #[.pointer (some ⟨g, 0, none⟩), .int .i64 z.f1, .bool z.f3] W fun e w' => e = .returned (.bool V) ∧ WinAt w' g since span a' b' ∧ Moved W w' (· = g) by
              have h := note_any h (by omega) (by omega) z.f1 z.f3
              rw [ha', hb', hV] at h
              exact h)
            clear hinc ha' hb' hV
            go_wp2_with (first
              | (go_at_call 21; refine (RN.out _).mono ?_; rintro e w7 ⟨rfl, hb⟩; (try (have n_ := Aside0.mk (D.out.below hb); clear D; have D := n_; clear n_)); (try (have n_ := Aside0.mk (D2.out.below hb); clear D2; have D2 := n_; clear n_)); (try (have n_ := Aside0.mk (blk_below F.out hb); clear F; have F := n_; clear n_)); (try (have n_ := Aside0.mk (blk_below F2.out hb); clear F2; have F2 := n_; clear n_)); (try (have n_ := Aside0.mk (blk_below SS.out hb); clear SS; have SS := n_; clear n_)); (try (have n_ := Aside0.mk (below_step BL.out hb); clear BL; have BL := n_; clear n_)); clear hb; (try clear cF0 cF1 cF2 cF3 cFf cFl); (try clear cS0 cS1 cS2 cS3 cSl); (try clear cG0 cG1 cG2 cG3 cGl); (try (have cF0 := (blk_cell F.out 0).trans rfl; have cF1 := (blk_cell F.out 1).trans rfl; have cF2 := (blk_cell F.out 2).trans rfl; have cF3 := (blk_cell F.out 3).trans rfl; have cFl := blk_lt F.out; have cFf : ∀ i, _ = false := fun i => blk_frozen F.out i)); (try (have cS0 := (blk_cell SS.out 0).trans rfl; have cS1 := (blk_cell SS.out 1).trans rfl; have cS2 := (blk_cell SS.out 2).trans rfl; have cS3 := (blk_cell SS.out 3).trans rfl; have cSl := blk_lt SS.out)); (try (have cG0 := (blk_cell F2.out 0).trans rfl; have cG1 := (blk_cell F2.out 1).trans rfl; have cG2 := (blk_cell F2.out 2).trans rfl; have cG3 := (blk_cell F2.out 3).trans rfl; have cGl := blk_lt F2.out; have cGf : ∀ i, _ = false := fun i => blk_frozen F2.out i)))
              | (go_at_call 12; refine (NT.out _ ((D.out.moved (put4_moved _ _ _ _) NE_D_R.out).below (below_alloc (Below.refl _ _) _))).mono ?_; rintro e w8 ⟨rfl, hg, hm⟩; have D8 := Aside0.mk hg; have F8 := Aside0.mk (blk_moved (blk_alloc (put4_heap F.out) _) hm NE_F_g.out); have S8 := Aside0.mk (blk_moved (blk_alloc (blk_moved SS.out (put4_moved _ _ _ _) NE_SS_R.out) _) hm NE_SS_g.out); have B8 := Aside0.mk (Moved.from_below (below_alloc (Moved.from_below BL.out (put4_moved _ _ _ _) (fun k hk => by subst hk; exact LB_R.out) BL.out.size) _) hm (fun k hk => by subst hk; exact LB_g.out) (below_alloc (Moved.from_below BL.out (put4_moved _ _ _ _) (fun k hk => by subst hk; exact LB_R.out) BL.out.size) _).size); clear hg hm))
            go_meet
            exact ⟨rfl, Lib.hid ⟨a', b', HAB.out, ⟨D8.out, F8.out, LB_g.out, LB_R.out, B8.out⟩, S8.out⟩⟩
          · have RN := Aside0.mk (fun W => show Calls Try.prog 21 #[.agg #[.int .i64 since, .int .i64 span, .int .i64 (a : Int), .int .i64 (b : Int)], .int .i64 z.f1, .bool z.f3] W fun e w' => e = .returned (.tuple #[.agg #[.int .i64 since, .int .i64 span, .int .i64 (a' : Int), .int .i64 (b' : Int)], .bool V]) ∧ Below W.heap.size W w' by
              have h := refNote_any NUM.out z.f1 z.f3 W
              rw [ha', hb', hV] at h
              exact h)
            have NT := Aside0.mk (fun W (h : WinAt W g since span a b) => show Calls Try.prog 12 #[.pointer (some ⟨g, 0, none⟩), .int .i64 z.f1, .bool z.f3] W fun e w' => e = .returned (.bool V) ∧ WinAt w' g since span a' b' ∧ Moved W w' (· = g) by
              have h := note_any h (by omega) (by omega) z.f1 z.f3
              rw [ha', hb', hV] at h
              exact h)
            clear hinc ha' hb' hV
            go_wp2_with (first
              | (go_at_call 21; refine (RN.out _).mono ?_; rintro e w7 ⟨rfl, hb⟩; (try (have n_ := Aside0.mk (D.out.below hb); clear D; have D := n_; clear n_)); (try (have n_ := Aside0.mk (D2.out.below hb); clear D2; have D2 := n_; clear n_)); (try (have n_ := Aside0.mk (blk_below F.out hb); clear F; have F := n_; clear n_)); (try (have n_ := Aside0.mk (blk_below F2.out hb); clear F2; have F2 := n_; clear n_)); (try (have n_ := Aside0.mk (blk_below SS.out hb); clear SS; have SS := n_; clear n_)); (try (have n_ := Aside0.mk (below_step BL.out hb); clear BL; have BL := n_; clear n_)); clear hb; (try clear cF0 cF1 cF2 cF3 cFf cFl); (try clear cS0 cS1 cS2 cS3 cSl); (try clear cG0 cG1 cG2 cG3 cGl); (try (have cF0 := (blk_cell F.out 0).trans rfl; have cF1 := (blk_cell F.out 1).trans rfl; have cF2 := (blk_cell F.out 2).trans rfl; have cF3 := (blk_cell F.out 3).trans rfl; have cFl := blk_lt F.out; have cFf : ∀ i, _ = false := fun i => blk_frozen F.out i)); (try (have cS0 := (blk_cell SS.out 0).trans rfl; have cS1 := (blk_cell SS.out 1).trans rfl; have cS2 := (blk_cell SS.out 2).trans rfl; have cS3 := (blk_cell SS.out 3).trans rfl; have cSl := blk_lt SS.out)); (try (have cG0 := (blk_cell F2.out 0).trans rfl; have cG1 := (blk_cell F2.out 1).trans rfl; have cG2 := (blk_cell F2.out 2).trans rfl; have cG3 := (blk_cell F2.out 3).trans rfl; have cGl := blk_lt F2.out; have cGf : ∀ i, _ = false := fun i => blk_frozen F2.out i)))
              | (go_at_call 12; refine (NT.out _ ((D.out.moved (put4_moved _ _ _ _) NE_D_R.out).below (below_alloc (Below.refl _ _) _))).mono ?_; rintro e w8 ⟨rfl, hg, hm⟩; have D8 := Aside0.mk hg; have F8 := Aside0.mk (blk_moved (blk_alloc (put4_heap F.out) _) hm NE_F_g.out); have S8 := Aside0.mk (blk_moved (blk_alloc (blk_moved SS.out (put4_moved _ _ _ _) NE_SS_R.out) _) hm NE_SS_g.out); have B8 := Aside0.mk (Moved.from_below (below_alloc (Moved.from_below BL.out (put4_moved _ _ _ _) (fun k hk => by subst hk; exact LB_R.out) BL.out.size) _) hm (fun k hk => by subst hk; exact LB_g.out) (below_alloc (Moved.from_below BL.out (put4_moved _ _ _ _) (fun k hk => by subst hk; exact LB_R.out) BL.out.size) _).size); clear hg hm))
            go_meet
            exact ⟨rfl, Lib.hid ⟨a', b', HAB.out, ⟨D8.out, F8.out, LB_g.out, LB_R.out, B8.out⟩, S8.out⟩⟩
          · clear ha' hb' hV HAB hinc
            clear a' b' V
            obtain ⟨since2, hs2⟩ : ∃ s, sinceOf z.f1 = s := ⟨_, rfl⟩
            obtain ⟨span2, hp2⟩ : ∃ s, spanOf z.f2 = s := ⟨_, rfl⟩
            have hsi := sinceOf_in z.f1
            have hsp := spanOf_in z.f2
            rw [hs2] at hsi
            rw [hp2] at hsp
            have NUM0 := Aside0.mk (show Num since2 span2 0 0 from ⟨hsi.1, hsi.2, hsp.1, hsp.2, by omega, by omega⟩)
            have hinc := inc_le since2 span2 z.f1 z.f3
            obtain ⟨c, hc⟩ : ∃ c, 0 + incG since2 span2 z.f1 z.f3 = c := ⟨_, rfl⟩
            obtain ⟨d, hd⟩ : ∃ d, 0 + incB since2 span2 z.f1 z.f3 = d := ⟨_, rfl⟩
            obtain ⟨V, hV⟩ : ∃ V, decide (since2 ≤ z.f1 ∧ z.f1 < since2 + span2) = V := ⟨_, rfl⟩
            have NEW := Aside0.mk (fun W => show Calls Try.prog 9 #[.int .i64 z.f1, .int .i64 z.f2] W fun e w' => e = .returned (.pointer (some ⟨W.heap.size, 0, none⟩)) ∧ WinAt w' W.heap.size since2 span2 0 0 ∧ Below W.heap.size W w' by
              have h := new_any z.f1 z.f2 W
              rw [hs2, hp2] at h
              exact h)
            have RNEW := Aside0.mk (fun W => show Calls Try.prog 19 #[.int .i64 z.f1, .int .i64 z.f2] W fun e w' => e = .returned (.agg #[.int .i64 since2, .int .i64 span2, .int .i64 0, .int .i64 0]) ∧ Below W.heap.size W w' by
              have h := refNew_any z.f1 z.f2 W
              rw [hs2, hp2] at h
              exact h)
            have RN := Aside0.mk (fun W => show Calls Try.prog 21 #[.agg #[.int .i64 since2, .int .i64 span2, .int .i64 0, .int .i64 0], .int .i64 z.f1, .bool z.f3] W fun e w' => e = .returned (.tuple #[.agg #[.int .i64 since2, .int .i64 span2, .int .i64 (c : Int), .int .i64 (d : Int)], .bool V]) ∧ Below W.heap.size W w' by
              have h := refNote_any NUM0.out z.f1 z.f3 W
              rw [hc, hd, hV] at h
              exact h)
            have NT := Aside0.mk (fun W g2 (h : WinAt W g2 since2 span2 0 0) => show Calls Try.prog 12 #[.pointer (some ⟨g2, 0, none⟩), .int .i64 z.f1, .bool z.f3] W fun e w' => e = .returned (.bool V) ∧ WinAt w' g2 since2 span2 c d ∧ Moved W w' (· = g2) by
              have h := note_any h (by omega) (by omega) z.f1 z.f3
              rw [hc, hd, hV] at h
              exact h)
            have NUM2 := Aside0.mk (show Num since2 span2 c d from ⟨hsi.1, hsi.2, hsp.1, hsp.2, by omega, by omega⟩)
            obtain ⟨a', b', V2, mg, mr, hab2⟩ : ∃ (a' b' : Nat) (V2 : Bool), (∀ W, Calls Try.prog 22 #[.agg #[.int .i64 since, .int .i64 span, .int .i64 (a : Int), .int .i64 (b : Int)], .agg #[.int .i64 since2, .int .i64 span2, .int .i64 (c : Int), .int .i64 (d : Int)]] W fun e w' => e = .returned (.tuple #[.agg #[.int .i64 since, .int .i64 span, .int .i64 (a' : Int), .int .i64 (b' : Int)], .bool V2]) ∧ Below W.heap.size W w') ∧
                (∀ W g2, WinAt W g since span a b → WinAt W g2 since2 span2 c d → Calls Try.prog 14 #[.pointer (some ⟨g, 0, none⟩), .pointer (some ⟨g2, 0, none⟩)] W fun e w' => e = .returned (.bool V2) ∧ WinAt w' g since span a' b' ∧ Moved W w' (· = g)) ∧ a' + b' ≤ n + 1 := by
              by_cases h : since = since2 ∧ span = span2
              · obtain ⟨h1, h2⟩ := h
                subst h1 h2
                exact ⟨a + c, b + d, true, fun W => refMerge_yes NUM.out NUM2.out W, fun W g2 k k' => merge_at k k' (t_add1 a (by omega) c (by omega)) (t_add1 b (by omega) d (by omega)) (by omega) (by omega), by omega⟩
              · have h1 : since ≠ since2 ∨ span ≠ span2 := by
                  by_cases h2 : since = since2
                  · exact .inr (fun e => h ⟨h2, e⟩)
                  · exact .inl h2
                exact ⟨a, b, false, fun W => refMerge_no NUM.out NUM2.out h1 W, fun W g2 k k' => (merge_not k k' h1).mono fun e w' ⟨he, n, hw⟩ => ⟨he, by rw [hw]; exact k.drewN n, by rw [hw]; exact (Moved.refl W (· = g)).drewN n⟩, by omega⟩
            have MG := Aside0.mk mg
            have MR := Aside0.mk mr
            clear mg mr hs2 hp2 hsi hsp hc hd hV hinc
            go_wp2_with fail
            refine start_ (n := 13) (S := fun w' => Below w6.heap.size w6 w' ∧ w'.cell? ⟨S, 1, none⟩ = some (.int .i64 z.f1) ∧ w'.cell? ⟨S, 2, none⟩ = some (.int .i64 z.f2) ∧ w'.heap[S]? = some (Obj.cells #[.int .i64 z.f0, .int .i64 z.f1, .int .i64 z.f2, .bool z.f3] 28 (0, 0))) (ds := [12]) #[false, false, false, false, false, false, false, false, false, false, false, false, false] (by kernel_rfl) rfl rfl ⟨(below_drew (Below.refl _ _)), ((blk_cell SS.out 1).trans rfl), ((blk_cell SS.out 2).trans rfl), SS.out⟩ (fun hHeld => ?_)
            refine pure_ (i := 0) (N := some 71) (v := ?_) (a' := ?_) #[true, false, false, false, false, false, false, false, false, false, false, false, false] rfl rfl (by kernel_rfl) (fun _ _ _ h => h) (Or.inl ⟨by rfl, ?_⟩) ?_ ?_
            rotate_left
            · intro w'
              go_simp
              with_reducible rfl
            rotate_left
            · simp only [Act.put, List.setIfInBounds_toArray, List.set_cons_zero, List.set_cons_succ, i64_w, i32_w]
              rfl
            refine pure_ (i := 2) (N := some 73) (v := ?_) (a' := ?_) #[true, false, true, false, false, false, false, false, false, false, false, false, false] rfl rfl (by kernel_rfl) (fun _ _ _ h => h) (Or.inl ⟨by rfl, ?_⟩) ?_ ?_
            rotate_left
            · intro w'
              go_simp
              with_reducible rfl
            rotate_left
            · simp only [Act.put, List.setIfInBounds_toArray, List.set_cons_zero, List.set_cons_succ, i64_w, i32_w]
              rfl
            refine pure_ (i := 5) (N := some 76) (v := ?_) (a' := ?_) #[true, false, true, false, false, true, false, false, false, false, false, false, false] rfl rfl (by kernel_rfl) (fun _ _ _ h => h) (Or.inl ⟨by rfl, ?_⟩) ?_ ?_
            rotate_left
            · intro w'
              go_simp
              with_reducible rfl
            rotate_left
            · simp only [Act.put, List.setIfInBounds_toArray, List.set_cons_zero, List.set_cons_succ, i64_w, i32_w]
              rfl
            refine pure_ (i := 7) (N := some 78) (v := ?_) (a' := ?_) #[true, false, true, false, false, true, false, true, false, false, false, false, false] rfl rfl (by kernel_rfl) (fun _ _ _ h => h) (Or.inl ⟨by rfl, ?_⟩) ?_ ?_
            rotate_left
            · intro w'
              go_simp
              with_reducible rfl
            rotate_left
            · simp only [Act.put, List.setIfInBounds_toArray, List.set_cons_zero, List.set_cons_succ, i64_w, i32_w]
              rfl
            refine take_ (i := 1) (N := some 72) (v := ?_) (a' := ?_) #[true, true, true, false, false, true, false, true, false, false, false, false, false] rfl rfl (by kernel_rfl) (fun _ _ _ h => h) (Or.inl ⟨by rfl, ?_⟩) hHeld ?_ ?_
            rotate_left
            · rintro w' ⟨s0, s1, s2, s3⟩
              go_simp
              with_reducible rfl
            rotate_left
            · simp only [Act.put, List.setIfInBounds_toArray, List.set_cons_zero, List.set_cons_succ, i64_w, i32_w]
              rfl
            refine take_ (i := 3) (N := some 74) (v := ?_) (a' := ?_) #[true, true, true, true, false, true, false, true, false, false, false, false, false] rfl rfl (by kernel_rfl) (fun _ _ _ h => h) (Or.inl ⟨by rfl, ?_⟩) hHeld ?_ ?_
            rotate_left
            · rintro w' ⟨s0, s1, s2, s3⟩
              go_simp
              with_reducible rfl
            rotate_left
            · simp only [Act.put, List.setIfInBounds_toArray, List.set_cons_zero, List.set_cons_succ, i64_w, i32_w]
              rfl
            refine take_ (i := 6) (N := some 77) (v := ?_) (a' := ?_) #[true, true, true, true, false, true, true, true, false, false, false, false, false] rfl rfl (by kernel_rfl) (fun _ _ _ h => h) (Or.inl ⟨by rfl, ?_⟩) hHeld ?_ ?_
            rotate_left
            · rintro w' ⟨s0, s1, s2, s3⟩
              go_simp
              with_reducible rfl
            rotate_left
            · simp only [Act.put, List.setIfInBounds_toArray, List.set_cons_zero, List.set_cons_succ, i64_w, i32_w]
              rfl
            refine take_ (i := 8) (N := some 79) (v := ?_) (a' := ?_) #[true, true, true, true, false, true, true, true, true, false, false, false, false] rfl rfl (by kernel_rfl) (fun _ _ _ h => h) (Or.inl ⟨by rfl, ?_⟩) hHeld ?_ ?_
            rotate_left
            · rintro w' ⟨s0, s1, s2, s3⟩
              go_simp
              with_reducible rfl
            rotate_left
            · simp only [Act.put, List.setIfInBounds_toArray, List.set_cons_zero, List.set_cons_succ, i64_w, i32_w]
              rfl
            refine join_ (σ := (Nat × Nat)) 2 #[true, true, true, true, true, true, true, true, true, true, true, false, false] (fun s => [(75, .pointer (some ⟨s.1, 0, none⟩)), (80, .agg #[.int .i64 since2, .int .i64 span2, .int .i64 0, .int .i64 0]), (15, .pointer (some ⟨s.2, 0, none⟩))]) (fun s w' => WinAt w' s.1 since2 span2 0 0 ∧ w'.heap[s.2]? = some (Obj.cells #[.int .i64 0, .int .i64 0, .int .i64 0, .int .i64 0] 45 (0, 0)) ∧ Below w6.heap.size w6 w' ∧ w6.heap.size ≤ s.1 ∧ w6.heap.size ≤ s.2 ∧ w'.heap[S]? = some (Obj.cells #[.int .i64 z.f0, .int .i64 z.f1, .int .i64 z.f2, .bool z.f3] 28 (0, 0))) ?_ ?_
            rotate_left
            · intro hCont
              refine two_ (i := 4) (j := 10) (Ni := some 75) (Nj := some 15) #[true, true, true, true, true, true, true, true, true, false, false, false, false] #[true, true, true, true, false, true, true, true, true, false, true, false, false] rfl rfl rfl rfl (by kernel_rfl) (by decide) (by decide) (fun K hK => ?_) (fun K hK => ?_)
              · skip
                refine goes_ Try.func9 (by kernel_rfl) rfl #[.int .i64 z.f1, .int .i64 z.f2] (by rfl) rfl rfl (by simp only [List.map_toArray, List.map_cons, List.map_nil]; rfl) ?_
                with_reducible refine (NEW.out _).mono ?_
                rintro e w8 ⟨rfl, hg, hb⟩
                refine ⟨_, rfl, ?_⟩
                have HG := Aside0.mk hg
                have LG := Aside0.mk (below_size hHeld.1)
                (try (have n_ := Aside0.mk (blk_below HR.out hb); clear HR; have HR := n_; clear n_))
                have hP := blk_below hHeld.2.2.2 hb
                refine hK.out _ _ ⟨below_step hHeld.1 hb, (blk_cell hP 1).trans rfl, (blk_cell hP 2).trans rfl, hP⟩ (fun hHeld => ?_)
                clear hK K
                refine norm_ (a' := ?_) ?_ ?_
                rotate_left
                · show Act.put _ (some 75) _ = _
                  simp only [Act.put, List.setIfInBounds_toArray, List.set_cons_zero, List.set_cons_succ, i64_w, i32_w]
                  rfl
                refine two_ (i := 9) (j := 10) (Ni := some 80) (Nj := some 15) #[true, true, true, true, true, true, true, true, true, true, false, false, false] #[true, true, true, true, true, true, true, true, true, false, true, false, false] rfl rfl rfl rfl (by kernel_rfl) (by decide) (by decide) (fun K hK => ?_) (fun K hK => ?_)
                · skip
                  refine goes_ Try.func19 (by kernel_rfl) rfl #[.int .i64 z.f1, .int .i64 z.f2] (by rfl) rfl rfl (by simp only [List.map_toArray, List.map_cons, List.map_nil]; rfl) ?_
                  with_reducible refine (RNEW.out _).mono ?_
                  rintro e w9 ⟨rfl, hb⟩
                  refine ⟨_, rfl, ?_⟩
                  (try (have n_ := Aside0.mk (HG.out.below hb); clear HG; have HG := n_; clear n_))
                  (try (have n_ := Aside0.mk (blk_below HR.out hb); clear HR; have HR := n_; clear n_))
                  have hP := blk_below hHeld.2.2.2 hb
                  refine hK.out _ _ ⟨below_step hHeld.1 hb, (blk_cell hP 1).trans rfl, (blk_cell hP 2).trans rfl, hP⟩ (fun hHeld => ?_)
                  clear hK K
                  refine norm_ (a' := ?_) ?_ ?_
                  rotate_left
                  · show Act.put _ (some 80) _ = _
                    simp only [Act.put, List.setIfInBounds_toArray, List.set_cons_zero, List.set_cons_succ, i64_w, i32_w]
                    rfl
                  refine one_ (i := 10) (N := some 15) #[true, true, true, true, true, true, true, true, true, true, true, false, false] rfl rfl (by kernel_rfl) (by decide) (fun K hK => ?_)
                  refine value_ (w1 := ?_) (v := ?_) (by rfl) rfl ?_ ?_
                  rotate_left 2
                  · go_simp
                    constructor
                    · rfl
                    · rfl
                  have HR := alloc_at hHeld.1 (Obj.cells #[.int .i64 0, .int .i64 0, .int .i64 0, .int .i64 0] 45)
                  have LR := Aside0.mk (below_size hHeld.1)
                  (try (have n_ := Aside0.mk (HG.out.below (below_alloc (Below.refl _ _) (Obj.cells #[.int .i64 0, .int .i64 0, .int .i64 0, .int .i64 0] 45))); clear HG; have HG := n_; clear n_))
                  have hP := blk_alloc hHeld.2.2.2 (Obj.cells #[.int .i64 0, .int .i64 0, .int .i64 0, .int .i64 0] 45)
                  refine hK.out _ _ ⟨below_alloc hHeld.1 _, (blk_cell hP 1).trans rfl, (blk_cell hP 2).trans rfl, hP⟩ (fun hHeld => ?_)
                  clear hK K
                  refine norm_ (a' := ?_) ?_ ?_
                  rotate_left
                  · show Act.put _ (some 15) _ = _
                    simp only [Act.put, List.setIfInBounds_toArray, List.set_cons_zero, List.set_cons_succ, i64_w, i32_w]
                    rfl
                  exact norm_ (by first | (simp only [putAll, Act.put, List.setIfInBounds_toArray, List.set_cons_zero, List.set_cons_succ]; done) | (simp only [putAll, Act.put, List.setIfInBounds_toArray, List.set_cons_zero, List.set_cons_succ]; rfl)) (hCont (_, _) _ ⟨HG.out, HR.out, hHeld.1, LG.out, LR.out, hHeld.2.2.2⟩)
                · skip
                  refine value_ (w1 := ?_) (v := ?_) (by rfl) rfl ?_ ?_
                  rotate_left 2
                  · go_simp
                    constructor
                    · rfl
                    · rfl
                  have HR := alloc_at hHeld.1 (Obj.cells #[.int .i64 0, .int .i64 0, .int .i64 0, .int .i64 0] 45)
                  have LR := Aside0.mk (below_size hHeld.1)
                  (try (have n_ := Aside0.mk (HG.out.below (below_alloc (Below.refl _ _) (Obj.cells #[.int .i64 0, .int .i64 0, .int .i64 0, .int .i64 0] 45))); clear HG; have HG := n_; clear n_))
                  have hP := blk_alloc hHeld.2.2.2 (Obj.cells #[.int .i64 0, .int .i64 0, .int .i64 0, .int .i64 0] 45)
                  refine hK.out _ _ ⟨below_alloc hHeld.1 _, (blk_cell hP 1).trans rfl, (blk_cell hP 2).trans rfl, hP⟩ (fun hHeld => ?_)
                  clear hK K
                  refine norm_ (a' := ?_) ?_ ?_
                  rotate_left
                  · show Act.put _ (some 15) _ = _
                    simp only [Act.put, List.setIfInBounds_toArray, List.set_cons_zero, List.set_cons_succ, i64_w, i32_w]
                    rfl
                  refine one_ (i := 9) (N := some 80) #[true, true, true, true, true, true, true, true, true, true, true, false, false] rfl rfl (by kernel_rfl) (by decide) (fun K hK => ?_)
                  refine goes_ Try.func19 (by kernel_rfl) rfl #[.int .i64 z.f1, .int .i64 z.f2] (by rfl) rfl rfl (by simp only [List.map_toArray, List.map_cons, List.map_nil]; rfl) ?_
                  with_reducible refine (RNEW.out _).mono ?_
                  rintro e w9 ⟨rfl, hb⟩
                  refine ⟨_, rfl, ?_⟩
                  (try (have n_ := Aside0.mk (HG.out.below hb); clear HG; have HG := n_; clear n_))
                  (try (have n_ := Aside0.mk (blk_below HR.out hb); clear HR; have HR := n_; clear n_))
                  have hP := blk_below hHeld.2.2.2 hb
                  refine hK.out _ _ ⟨below_step hHeld.1 hb, (blk_cell hP 1).trans rfl, (blk_cell hP 2).trans rfl, hP⟩ (fun hHeld => ?_)
                  clear hK K
                  refine norm_ (a' := ?_) ?_ ?_
                  rotate_left
                  · show Act.put _ (some 80) _ = _
                    simp only [Act.put, List.setIfInBounds_toArray, List.set_cons_zero, List.set_cons_succ, i64_w, i32_w]
                    rfl
                  exact norm_ (by first | (simp only [putAll, Act.put, List.setIfInBounds_toArray, List.set_cons_zero, List.set_cons_succ]; done) | (simp only [putAll, Act.put, List.setIfInBounds_toArray, List.set_cons_zero, List.set_cons_succ]; rfl)) (hCont (_, _) _ ⟨HG.out, HR.out, hHeld.1, LG.out, LR.out, hHeld.2.2.2⟩)
              · skip
                refine value_ (w1 := ?_) (v := ?_) (by rfl) rfl ?_ ?_
                rotate_left 2
                · go_simp
                  constructor
                  · rfl
                  · rfl
                have HR := alloc_at hHeld.1 (Obj.cells #[.int .i64 0, .int .i64 0, .int .i64 0, .int .i64 0] 45)
                have LR := Aside0.mk (below_size hHeld.1)
                (try (have n_ := Aside0.mk (HG.out.below (below_alloc (Below.refl _ _) (Obj.cells #[.int .i64 0, .int .i64 0, .int .i64 0, .int .i64 0] 45))); clear HG; have HG := n_; clear n_))
                have hP := blk_alloc hHeld.2.2.2 (Obj.cells #[.int .i64 0, .int .i64 0, .int .i64 0, .int .i64 0] 45)
                refine hK.out _ _ ⟨below_alloc hHeld.1 _, (blk_cell hP 1).trans rfl, (blk_cell hP 2).trans rfl, hP⟩ (fun hHeld => ?_)
                clear hK K
                refine norm_ (a' := ?_) ?_ ?_
                rotate_left
                · show Act.put _ (some 15) _ = _
                  simp only [Act.put, List.setIfInBounds_toArray, List.set_cons_zero, List.set_cons_succ, i64_w, i32_w]
                  rfl
                refine one_ (i := 4) (N := some 75) #[true, true, true, true, true, true, true, true, true, false, true, false, false] rfl rfl (by kernel_rfl) (by decide) (fun K hK => ?_)
                refine goes_ Try.func9 (by kernel_rfl) rfl #[.int .i64 z.f1, .int .i64 z.f2] (by rfl) rfl rfl (by simp only [List.map_toArray, List.map_cons, List.map_nil]; rfl) ?_
                with_reducible refine (NEW.out _).mono ?_
                rintro e w8 ⟨rfl, hg, hb⟩
                refine ⟨_, rfl, ?_⟩
                have HG := Aside0.mk hg
                have LG := Aside0.mk (below_size hHeld.1)
                (try (have n_ := Aside0.mk (blk_below HR.out hb); clear HR; have HR := n_; clear n_))
                have hP := blk_below hHeld.2.2.2 hb
                refine hK.out _ _ ⟨below_step hHeld.1 hb, (blk_cell hP 1).trans rfl, (blk_cell hP 2).trans rfl, hP⟩ (fun hHeld => ?_)
                clear hK K
                refine norm_ (a' := ?_) ?_ ?_
                rotate_left
                · show Act.put _ (some 75) _ = _
                  simp only [Act.put, List.setIfInBounds_toArray, List.set_cons_zero, List.set_cons_succ, i64_w, i32_w]
                  rfl
                refine one_ (i := 9) (N := some 80) #[true, true, true, true, true, true, true, true, true, true, true, false, false] rfl rfl (by kernel_rfl) (by decide) (fun K hK => ?_)
                refine goes_ Try.func19 (by kernel_rfl) rfl #[.int .i64 z.f1, .int .i64 z.f2] (by rfl) rfl rfl (by simp only [List.map_toArray, List.map_cons, List.map_nil]; rfl) ?_
                with_reducible refine (RNEW.out _).mono ?_
                rintro e w9 ⟨rfl, hb⟩
                refine ⟨_, rfl, ?_⟩
                (try (have n_ := Aside0.mk (HG.out.below hb); clear HG; have HG := n_; clear n_))
                (try (have n_ := Aside0.mk (blk_below HR.out hb); clear HR; have HR := n_; clear n_))
                have hP := blk_below hHeld.2.2.2 hb
                refine hK.out _ _ ⟨below_step hHeld.1 hb, (blk_cell hP 1).trans rfl, (blk_cell hP 2).trans rfl, hP⟩ (fun hHeld => ?_)
                clear hK K
                refine norm_ (a' := ?_) ?_ ?_
                rotate_left
                · show Act.put _ (some 80) _ = _
                  simp only [Act.put, List.setIfInBounds_toArray, List.set_cons_zero, List.set_cons_succ, i64_w, i32_w]
                  rfl
                exact norm_ (by first | (simp only [putAll, Act.put, List.setIfInBounds_toArray, List.set_cons_zero, List.set_cons_succ]; done) | (simp only [putAll, Act.put, List.setIfInBounds_toArray, List.set_cons_zero, List.set_cons_succ]; rfl)) (hCont (_, _) _ ⟨HG.out, HR.out, hHeld.1, LG.out, LR.out, hHeld.2.2.2⟩)
            rintro ⟨g2, R2⟩ w10 ⟨hg, hr, hb, l1, l2, hP⟩
            have hHeld : Below w6.heap.size w6 w10 ∧ w10.cell? ⟨S, 1, none⟩ = some (.int .i64 z.f1) ∧ w10.cell? ⟨S, 2, none⟩ = some (.int .i64 z.f2) ∧ w10.heap[S]? = some (Obj.cells #[.int .i64 z.f0, .int .i64 z.f1, .int .i64 z.f2, .bool z.f3] 28 (0, 0)) := ⟨hb, (blk_cell hP 1).trans rfl, (blk_cell hP 2).trans rfl, hP⟩
            have NE_D_g2 := Aside0.mk (Nat.ne_of_lt (Nat.lt_of_lt_of_le D.out.lt l1) : ¬ g = g2)
            have NE_F_R2 := Aside0.mk (Nat.ne_of_lt (Nat.lt_of_lt_of_le (blk_lt F.out) l2) : ¬ R = R2)
            have LB_g2 := Aside0.mk (Nat.le_trans BL.out.size l1)
            have LB_R2 := Aside0.mk (Nat.le_trans BL.out.size l2)
            (try (have n_ := Aside0.mk (D.out.below hb); clear D; have D := n_; clear n_)); (try (have n_ := Aside0.mk (D2.out.below hb); clear D2; have D2 := n_; clear n_)); (try (have n_ := Aside0.mk (blk_below F.out hb); clear F; have F := n_; clear n_)); (try (have n_ := Aside0.mk (blk_below F2.out hb); clear F2; have F2 := n_; clear n_)); (try (have n_ := Aside0.mk (blk_below SS.out hb); clear SS; have SS := n_; clear n_)); (try (have n_ := Aside0.mk (below_step BL.out hb); clear BL; have BL := n_; clear n_))
            have D2 := Aside0.mk hg
            have F2 := Aside0.mk hr
            (try clear cF0 cF1 cF2 cF3 cFf cFl); (try clear cS0 cS1 cS2 cS3 cSl); (try clear cG0 cG1 cG2 cG3 cGl); (try (have cF0 := (blk_cell F.out 0).trans rfl; have cF1 := (blk_cell F.out 1).trans rfl; have cF2 := (blk_cell F.out 2).trans rfl; have cF3 := (blk_cell F.out 3).trans rfl; have cFl := blk_lt F.out; have cFf : ∀ i, _ = false := fun i => blk_frozen F.out i)); (try (have cS0 := (blk_cell SS.out 0).trans rfl; have cS1 := (blk_cell SS.out 1).trans rfl; have cS2 := (blk_cell SS.out 2).trans rfl; have cS3 := (blk_cell SS.out 3).trans rfl; have cSl := blk_lt SS.out)); (try (have cG0 := (blk_cell F2.out 0).trans rfl; have cG1 := (blk_cell F2.out 1).trans rfl; have cG2 := (blk_cell F2.out 2).trans rfl; have cG3 := (blk_cell F2.out 3).trans rfl; have cGl := blk_lt F2.out; have cGf : ∀ i, _ = false := fun i => blk_frozen F2.out i))
            clear hg hr hb l1 l2 hP
            refine norm_ (a' := ?_) ?_ ?_
            rotate_left
            · simp only [putAll, Act.put, List.setIfInBounds_toArray, List.set_cons_zero, List.set_cons_succ]
              rfl
            refine pure_ (i := 11) (N := some 14) (v := ?_) (a' := ?_) #[true, true, true, true, true, true, true, true, true, true, true, true, false] rfl rfl (by kernel_rfl) (fun _ _ _ h => h) (Or.inl ⟨by rfl, ?_⟩) ?_ ?_
            rotate_left
            · intro w'
              go_simp
              with_reducible rfl
            rotate_left
            · simp only [Act.put, List.setIfInBounds_toArray, List.set_cons_zero, List.set_cons_succ, i64_w, i32_w]
              rfl
            refine last_ (i := 12) (N := none) #[true, true, true, true, true, true, true, true, true, true, true, true, true] rfl rfl (by kernel_rfl) (by decide) (fun K hK => ?_)
            refine skip_ (w1 := ?_) (by rfl) rfl ?_ ?_
            rotate_left
            · go_simp
              rfl
            refine hK.out _ _ ?_
            clear hK K
            refine done_ (by kernel_rfl) ?_
            have hSR2 : S ≠ R2 := ne_blk SS.out F2.out (by decide)
            have hRS2 : R2 ≠ S := fun e => hSR2 e.symm
            have hRR : R ≠ R2 := NE_F_R2.out
            have hRR' : R2 ≠ R := fun e => NE_F_R2.out e.symm
            have NE_D_R2 := Aside0.mk (ne_gR D.out F2.out)
            have NE_D2_R2 := Aside0.mk (ne_gR D2.out F2.out)
            have NE_D2_R := Aside0.mk (ne_gR D2.out F.out)
            have NE_F2_R := Aside0.mk (fun e => NE_F_R2.out e.symm : ¬ R2 = R)
            have NE_SS_R2 := Aside0.mk (ne_blk SS.out F2.out (by decide))
            have NE_SS_g2 := Aside0.mk (ne_blk SS.out D2.out.cells (by decide))
            have NE_F_g2 := Aside0.mk (fun e => ne_gR D2.out F.out e.symm : ¬ R = g2)
            have NE_F2_g2 := Aside0.mk (fun e => ne_gR D2.out F2.out e.symm : ¬ R2 = g2)
            have NE_F2_g := Aside0.mk (fun e => ne_gR D.out F2.out e.symm : ¬ R2 = g)
            have NE_D2_g := Aside0.mk (fun e => NE_D_g2.out e.symm : ¬ g2 = g)
            have hm0 := put4_moved (w := w10) (R := R2) (.int .i64 since2) (.int .i64 span2) (.int .i64 0) (.int .i64 0)
            (try (have n_ := Aside0.mk (D.out.moved hm0 (NE_D_R2.out)); clear D; have D := n_; clear n_)); (try (have n_ := Aside0.mk (D2.out.moved hm0 (NE_D2_R2.out)); clear D2; have D2 := n_; clear n_)); (try (have n_ := Aside0.mk (blk_moved F.out hm0 (NE_F_R2.out)); clear F; have F := n_; clear n_)); (try (have n_ := Aside0.mk (blk_moved F2.out hm0 (NE_F2_R2.out)); clear F2; have F2 := n_; clear n_)); (try (have n_ := Aside0.mk (blk_moved SS.out hm0 (NE_SS_R2.out)); clear SS; have SS := n_; clear n_)); (try (have n_ := Aside0.mk (Moved.from_below BL.out hm0 (fun k hk => by subst hk; exact LB_R2.out) BL.out.size); clear BL; have BL := n_; clear n_))
            have n_ := Aside0.mk (put4_heap (p' := .int .i64 since2) (q' := .int .i64 span2) (r' := .int .i64 0) (s' := .int .i64 0) F2.out)
            clear F2 hm0
            have F2 := n_
            clear n_
            go_wp2_with (first
              | (go_at_call 12; refine (NT.out _ _ D2.out).mono ?_; rintro e w8 ⟨rfl, hg, hm⟩; (try (have n_ := Aside0.mk (D.out.moved hm (NE_D_g2.out)); clear D; have D := n_; clear n_)); (try (have n_ := Aside0.mk (D2.out.moved hm (NE_D2_g2.out)); clear D2; have D2 := n_; clear n_)); (try (have n_ := Aside0.mk (blk_moved F.out hm (NE_F_g2.out)); clear F; have F := n_; clear n_)); (try (have n_ := Aside0.mk (blk_moved F2.out hm (NE_F2_g2.out)); clear F2; have F2 := n_; clear n_)); (try (have n_ := Aside0.mk (blk_moved SS.out hm (NE_SS_g2.out)); clear SS; have SS := n_; clear n_)); (try (have n_ := Aside0.mk (Moved.from_below BL.out hm (fun k hk => by subst hk; exact LB_g2.out) BL.out.size); clear BL; have BL := n_; clear n_)); clear D2; have D2 := Aside0.mk hg; clear hg hm; (try clear cF0 cF1 cF2 cF3 cFf cFl); (try clear cS0 cS1 cS2 cS3 cSl); (try clear cG0 cG1 cG2 cG3 cGl); (try (have cF0 := (blk_cell F.out 0).trans rfl; have cF1 := (blk_cell F.out 1).trans rfl; have cF2 := (blk_cell F.out 2).trans rfl; have cF3 := (blk_cell F.out 3).trans rfl; have cFl := blk_lt F.out; have cFf : ∀ i, _ = false := fun i => blk_frozen F.out i)); (try (have cS0 := (blk_cell SS.out 0).trans rfl; have cS1 := (blk_cell SS.out 1).trans rfl; have cS2 := (blk_cell SS.out 2).trans rfl; have cS3 := (blk_cell SS.out 3).trans rfl; have cSl := blk_lt SS.out)); (try (have cG0 := (blk_cell F2.out 0).trans rfl; have cG1 := (blk_cell F2.out 1).trans rfl; have cG2 := (blk_cell F2.out 2).trans rfl; have cG3 := (blk_cell F2.out 3).trans rfl; have cGl := blk_lt F2.out; have cGf : ∀ i, _ = false := fun i => blk_frozen F2.out i)))
              | (go_at_call 21; refine (RN.out _).mono ?_; rintro e w11 ⟨rfl, hb⟩; (try (have n_ := Aside0.mk (D.out.below hb); clear D; have D := n_; clear n_)); (try (have n_ := Aside0.mk (D2.out.below hb); clear D2; have D2 := n_; clear n_)); (try (have n_ := Aside0.mk (blk_below F.out hb); clear F; have F := n_; clear n_)); (try (have n_ := Aside0.mk (blk_below F2.out hb); clear F2; have F2 := n_; clear n_)); (try (have n_ := Aside0.mk (blk_below SS.out hb); clear SS; have SS := n_; clear n_)); (try (have n_ := Aside0.mk (below_step BL.out hb); clear BL; have BL := n_; clear n_)); clear hb; (try clear cF0 cF1 cF2 cF3 cFf cFl); (try clear cS0 cS1 cS2 cS3 cSl); (try clear cG0 cG1 cG2 cG3 cGl); (try (have cF0 := (blk_cell F.out 0).trans rfl; have cF1 := (blk_cell F.out 1).trans rfl; have cF2 := (blk_cell F.out 2).trans rfl; have cF3 := (blk_cell F.out 3).trans rfl; have cFl := blk_lt F.out; have cFf : ∀ i, _ = false := fun i => blk_frozen F.out i)); (try (have cS0 := (blk_cell SS.out 0).trans rfl; have cS1 := (blk_cell SS.out 1).trans rfl; have cS2 := (blk_cell SS.out 2).trans rfl; have cS3 := (blk_cell SS.out 3).trans rfl; have cSl := blk_lt SS.out)); (try (have cG0 := (blk_cell F2.out 0).trans rfl; have cG1 := (blk_cell F2.out 1).trans rfl; have cG2 := (blk_cell F2.out 2).trans rfl; have cG3 := (blk_cell F2.out 3).trans rfl; have cGl := blk_lt F2.out; have cGf : ∀ i, _ = false := fun i => blk_frozen F2.out i)))
              | (go_at_call 22; refine (MG.out _).mono ?_; rintro e w12 ⟨rfl, hb0⟩; have hb := below_step (below_alloc (Below.refl _ _) _) hb0; clear hb0; (try (have n_ := Aside0.mk (D.out.below hb); clear D; have D := n_; clear n_)); (try (have n_ := Aside0.mk (D2.out.below hb); clear D2; have D2 := n_; clear n_)); (try (have n_ := Aside0.mk (blk_below F.out hb); clear F; have F := n_; clear n_)); (try (have n_ := Aside0.mk (blk_below F2.out hb); clear F2; have F2 := n_; clear n_)); (try (have n_ := Aside0.mk (blk_below SS.out hb); clear SS; have SS := n_; clear n_)); (try (have n_ := Aside0.mk (below_step BL.out hb); clear BL; have BL := n_; clear n_)); clear hb; (try clear cF0 cF1 cF2 cF3 cFf cFl); (try clear cS0 cS1 cS2 cS3 cSl); (try clear cG0 cG1 cG2 cG3 cGl); (try (have cF0 := (blk_cell F.out 0).trans rfl; have cF1 := (blk_cell F.out 1).trans rfl; have cF2 := (blk_cell F.out 2).trans rfl; have cF3 := (blk_cell F.out 3).trans rfl; have cFl := blk_lt F.out; have cFf : ∀ i, _ = false := fun i => blk_frozen F.out i)); (try (have cS0 := (blk_cell SS.out 0).trans rfl; have cS1 := (blk_cell SS.out 1).trans rfl; have cS2 := (blk_cell SS.out 2).trans rfl; have cS3 := (blk_cell SS.out 3).trans rfl; have cSl := blk_lt SS.out)); (try (have cG0 := (blk_cell F2.out 0).trans rfl; have cG1 := (blk_cell F2.out 1).trans rfl; have cG2 := (blk_cell F2.out 2).trans rfl; have cG3 := (blk_cell F2.out 3).trans rfl; have cGl := blk_lt F2.out; have cGf : ∀ i, _ = false := fun i => blk_frozen F2.out i)))
              | (go_at_call 14; refine (MR.out _ _ ((D.out.moved (put4_moved _ _ _ _) NE_D_R.out).below (below_alloc (Below.refl _ _) _)) ((D2.out.moved (put4_moved _ _ _ _) NE_D2_R.out).below (below_alloc (Below.refl _ _) _))).mono ?_; rintro e w13 ⟨rfl, hg, hm⟩; have D8 := Aside0.mk hg; have F8 := Aside0.mk (blk_moved (blk_alloc (put4_heap F.out) _) hm NE_F_g.out); have S8 := Aside0.mk (blk_moved (blk_alloc (blk_moved SS.out (put4_moved _ _ _ _) NE_SS_R.out) _) hm NE_SS_g.out); have B8 := Aside0.mk (Moved.from_below (below_alloc (Moved.from_below BL.out (put4_moved _ _ _ _) (fun k hk => by subst hk; exact LB_R.out) BL.out.size) _) hm (fun k hk => by subst hk; exact LB_g.out) (below_alloc (Moved.from_below BL.out (put4_moved _ _ _ _) (fun k hk => by subst hk; exact LB_R.out) BL.out.size) _).size); clear hg hm))
            go_meet
            exact ⟨rfl, Lib.hid ⟨a', b', hab2, ⟨D8.out, F8.out, LB_g.out, LB_R.out, B8.out⟩, S8.out⟩⟩
        case rest =>
          obtain ⟨rfl, hp⟩ := hcut
          clear D F BL SS NUM
          obtain ⟨a, b, hab, hx, hs⟩ := hp.out
          have D := Aside0.mk hx.d
          have F := Aside0.mk hx.r
          have BL := Aside0.mk hx.below
          have SS := Aside0.mk hs
          have NUM := Aside0.mk (hx.num (by omega) (by omega))
          clear hx hs hp
          obtain ⟨VV, hVV⟩ : ∃ V : Int, (if (if mo < 0 then 0 else mo) < (b : Int) then 2 else if since + span ≤ z.f1 then 1 else 0) = V := ⟨_, rfl⟩
          obtain ⟨OO, hOO⟩ : ∃ V : Bool, decide (since + span ≤ z.f1) = V := ⟨_, rfl⟩
          obtain ⟨LL, hLL⟩ : ∃ V : Int, (if since + span ≤ z.f1 then 0 else if z.f1 < since then span else since + span - z.f1) = V := ⟨_, rfl⟩
          have VD := Aside0.mk (fun W (h : WinAt W g since span a b) => show Calls Try.prog 13 #[.pointer (some ⟨g, 0, none⟩), .int .i64 z.f1, .int .i64 mo] W fun e w' => e = .returned (.int .i64 VV) ∧ ∃ n, w' = W.drewN n by
            have h := verdict_at h (by omega) (by omega) z.f1 mo
            rw [hVV] at h
            exact h)
          have RV := Aside0.mk (fun W => show Calls Try.prog 24 #[.agg #[.int .i64 since, .int .i64 span, .int .i64 (a : Int), .int .i64 (b : Int)], .int .i64 z.f1, .int .i64 mo] W fun e w' => e = .returned (.int .i64 VV) ∧ Below W.heap.size W w' by
            have h := refVerdict_any NUM.out z.f1 mo W
            rw [hVV] at h
            exact h)
          have OV := Aside0.mk (fun W (h : WinAt W g since span a b) => show Calls Try.prog 11 #[.pointer (some ⟨g, 0, none⟩), .int .i64 z.f1] W fun e w' => e = .returned (.bool OO) ∧ ∃ n, w' = W.drewN n by
            have h := over_at h z.f1
            rw [hOO] at h
            exact h)
          have RO := Aside0.mk (fun W => show Calls Try.prog 25 #[.agg #[.int .i64 since, .int .i64 span, .int .i64 (a : Int), .int .i64 (b : Int)], .int .i64 z.f1] W fun e w' => e = .returned (.bool OO) ∧ Below W.heap.size W w' by
            have h := refOver_any NUM.out z.f1 W
            rw [hOO] at h
            exact h)
          have LF := Aside0.mk (fun W (h : WinAt W g since span a b) => show Calls Try.prog 26 #[.pointer (some ⟨g, 0, none⟩), .int .i64 z.f1] W fun e w' => e = .returned (.int .i64 LL) ∧ ∃ n, w' = W.drewN n by
            have h := left_at h z.f1
            rw [hLL] at h
            exact h)
          have RL := Aside0.mk (fun W => show Calls Try.prog 27 #[.agg #[.int .i64 since, .int .i64 span, .int .i64 (a : Int), .int .i64 (b : Int)], .int .i64 z.f1] W fun e w' => e = .returned (.int .i64 LL) ∧ Below W.heap.size W w' by
            have h := refLeft_any NUM.out z.f1 W
            rw [hLL] at h
            exact h)
          have OFF := Aside0.mk (fun W => refOf_any (a := a) (b := b) (by omega) (by omega) W)
          have hne := fun W => neq_fl W 29 (a := a) (b := b) (by omega) (by omega)
          clear hVV hOO hLL
          go_wp2_with fail
          (try (have n_ := Aside0.mk (D.out.below (below_drew (Below.refl _ _))); clear D; have D := n_; clear n_)); (try (have n_ := Aside0.mk (D2.out.below (below_drew (Below.refl _ _))); clear D2; have D2 := n_; clear n_)); (try (have n_ := Aside0.mk (blk_below F.out (below_drew (Below.refl _ _))); clear F; have F := n_; clear n_)); (try (have n_ := Aside0.mk (blk_below F2.out (below_drew (Below.refl _ _))); clear F2; have F2 := n_; clear n_)); (try (have n_ := Aside0.mk (blk_below SS.out (below_drew (Below.refl _ _))); clear SS; have SS := n_; clear n_)); (try (have n_ := Aside0.mk (below_step BL.out (below_drew (Below.refl _ _))); clear BL; have BL := n_; clear n_))
          refine start_ (n := 54) (S := fun w' => w'.cell? ⟨R, 0, none⟩ = some (.int .i64 since) ∧ w'.cell? ⟨R, 1, none⟩ = some (.int .i64 span) ∧ w'.cell? ⟨R, 2, none⟩ = some (.int .i64 (a : Int)) ∧ w'.cell? ⟨R, 3, none⟩ = some (.int .i64 (b : Int)) ∧ w'.cell? ⟨S, 1, none⟩ = some (.int .i64 z.f1)) (ds := []) #[false, false, false, false, false, false, false, false, false, false, false, false, false, false, false, false, false, false, false, false, false, false, false, false, false, false, false, false, false, false, false, false, false, false, false, false, false, false, false, false, false, false, false, false, false, false, false, false, false, false, false, false, false, false] (by kernel_rfl) rfl rfl ⟨(blk_cell F.out 0).trans rfl, (blk_cell F.out 1).trans rfl, (blk_cell F.out 2).trans rfl, (blk_cell F.out 3).trans rfl, (blk_cell SS.out 1).trans rfl⟩ (fun hHeld => ?_)
          refine pure_ (i := 0) (N := some 108) (v := ?_) (a' := ?_) #[true, false, false, false, false, false, false, false, false, false, false, false, false, false, false, false, false, false, false, false, false, false, false, false, false, false, false, false, false, false, false, false, false, false, false, false, false, false, false, false, false, false, false, false, false, false, false, false, false, false, false, false, false, false] rfl rfl (by kernel_rfl) (fun _ _ _ h => h) (Or.inl ⟨by rfl, ?_⟩) ?_ ?_
          rotate_left
          · intro w'
            go_simp
            with_reducible rfl
          rotate_left
          · simp only [Act.put, List.setIfInBounds_toArray, List.set_cons_zero, List.set_cons_succ, i64_w, i32_w]
            rfl
          refine pure_ (i := 1) (N := some 109) (v := ?_) (a' := ?_) #[true, true, false, false, false, false, false, false, false, false, false, false, false, false, false, false, false, false, false, false, false, false, false, false, false, false, false, false, false, false, false, false, false, false, false, false, false, false, false, false, false, false, false, false, false, false, false, false, false, false, false, false, false, false] rfl rfl (by kernel_rfl) (fun _ _ _ h => h) (Or.inl ⟨by rfl, ?_⟩) ?_ ?_
          rotate_left
          · intro w'
            go_simp
            with_reducible rfl
          rotate_left
          · simp only [Act.put, List.setIfInBounds_toArray, List.set_cons_zero, List.set_cons_succ, i64_w, i32_w]
            rfl
          refine pure_ (i := 2) (N := some 110) (v := ?_) (a' := ?_) #[true, true, true, false, false, false, false, false, false, false, false, false, false, false, false, false, false, false, false, false, false, false, false, false, false, false, false, false, false, false, false, false, false, false, false, false, false, false, false, false, false, false, false, false, false, false, false, false, false, false, false, false, false, false] rfl rfl (by kernel_rfl) (fun _ _ _ h => h) (Or.inl ⟨by rfl, ?_⟩) ?_ ?_
          rotate_left
          · intro w'
            go_simp
            with_reducible rfl
          rotate_left
          · simp only [Act.put, List.setIfInBounds_toArray, List.set_cons_zero, List.set_cons_succ, i64_w, i32_w]
            rfl
          refine pure_ (i := 3) (N := some 111) (v := ?_) (a' := ?_) #[true, true, true, true, false, false, false, false, false, false, false, false, false, false, false, false, false, false, false, false, false, false, false, false, false, false, false, false, false, false, false, false, false, false, false, false, false, false, false, false, false, false, false, false, false, false, false, false, false, false, false, false, false, false] rfl rfl (by kernel_rfl) (fun _ _ _ h => h) (Or.inl ⟨by rfl, ?_⟩) ?_ ?_
          rotate_left
          · intro w'
            go_simp
            with_reducible rfl
          rotate_left
          · simp only [Act.put, List.setIfInBounds_toArray, List.set_cons_zero, List.set_cons_succ, i64_w, i32_w]
            rfl
          refine pure_ (i := 5) (N := some 113) (v := ?_) (a' := ?_) #[true, true, true, true, false, true, false, false, false, false, false, false, false, false, false, false, false, false, false, false, false, false, false, false, false, false, false, false, false, false, false, false, false, false, false, false, false, false, false, false, false, false, false, false, false, false, false, false, false, false, false, false, false, false] rfl rfl (by kernel_rfl) (fun _ _ _ h => h) (Or.inl ⟨by rfl, ?_⟩) ?_ ?_
          rotate_left
          · intro w'
            go_simp
            with_reducible rfl
          rotate_left
          · simp only [Act.put, List.setIfInBounds_toArray, List.set_cons_zero, List.set_cons_succ, i64_w, i32_w]
            rfl
          refine pure_ (i := 7) (N := some 115) (v := ?_) (a' := ?_) #[true, true, true, true, false, true, false, true, false, false, false, false, false, false, false, false, false, false, false, false, false, false, false, false, false, false, false, false, false, false, false, false, false, false, false, false, false, false, false, false, false, false, false, false, false, false, false, false, false, false, false, false, false, false] rfl rfl (by kernel_rfl) (fun _ _ _ h => h) (Or.inl ⟨by rfl, ?_⟩) ?_ ?_
          rotate_left
          · intro w'
            go_simp
            with_reducible rfl
          rotate_left
          · simp only [Act.put, List.setIfInBounds_toArray, List.set_cons_zero, List.set_cons_succ, i64_w, i32_w]
            rfl
          refine take_ (i := 6) (N := some 114) (v := ?_) (a' := ?_) #[true, true, true, true, false, true, true, true, false, false, false, false, false, false, false, false, false, false, false, false, false, false, false, false, false, false, false, false, false, false, false, false, false, false, false, false, false, false, false, false, false, false, false, false, false, false, false, false, false, false, false, false, false, false] rfl rfl (by kernel_rfl) (fun _ _ _ h => h) (Or.inl ⟨by rfl, ?_⟩) hHeld ?_ ?_
          rotate_left
          · rintro w' ⟨s0, s1, s2, s3, s4⟩
            go_simp
            with_reducible rfl
          rotate_left
          · simp only [Act.put, List.setIfInBounds_toArray, List.set_cons_zero, List.set_cons_succ, i64_w, i32_w]
            rfl
          refine take_ (i := 8) (N := some 116) (v := ?_) (a' := ?_) #[true, true, true, true, false, true, true, true, true, false, false, false, false, false, false, false, false, false, false, false, false, false, false, false, false, false, false, false, false, false, false, false, false, false, false, false, false, false, false, false, false, false, false, false, false, false, false, false, false, false, false, false, false, false] rfl rfl (by kernel_rfl) (fun _ _ _ h => h) (Or.inl ⟨by rfl, ?_⟩) hHeld ?_ ?_
          rotate_left
          · rintro w' ⟨s0, s1, s2, s3, s4⟩
            go_simp
            with_reducible rfl
          rotate_left
          · simp only [Act.put, List.setIfInBounds_toArray, List.set_cons_zero, List.set_cons_succ, i64_w, i32_w]
            rfl
          refine one_ (i := 4) (N := some 112) #[true, true, true, true, true, true, true, true, true, false, false, false, false, false, false, false, false, false, false, false, false, false, false, false, false, false, false, false, false, false, false, false, false, false, false, false, false, false, false, false, false, false, false, false, false, false, false, false, false, false, false, false, false, false] rfl rfl (by kernel_rfl) (by decide) (fun K hK => ?_)
          refine goes_ Try.func10 (by kernel_rfl) rfl #[.pointer (some ⟨g, 0, none⟩)] (by rfl) rfl rfl (by simp only [List.map_toArray, List.map_cons, List.map_nil]; rfl) ?_
          with_reducible refine (tally_at D.out).mono ?_
          rintro e w8 ⟨rfl, rfl⟩
          refine ⟨_, rfl, ?_⟩
          refine hK.out _ _ ⟨(blk_cell F.out 0).trans rfl, (blk_cell F.out 1).trans rfl, (blk_cell F.out 2).trans rfl, (blk_cell F.out 3).trans rfl, (blk_cell SS.out 1).trans rfl⟩ (fun hHeld => ?_)
          clear hK K
          refine norm_ (a' := ?_) ?_ ?_
          rotate_left
          · show Act.put _ (some 112) _ = _
            simp only [Act.put, List.setIfInBounds_toArray, List.set_cons_zero, List.set_cons_succ, i64_w, i32_w]
            rfl
          refine one_ (i := 9) (N := some 117) #[true, true, true, true, true, true, true, true, true, true, false, false, false, false, false, false, false, false, false, false, false, false, false, false, false, false, false, false, false, false, false, false, false, false, false, false, false, false, false, false, false, false, false, false, false, false, false, false, false, false, false, false, false, false] rfl rfl (by kernel_rfl) (by decide) (fun K hK => ?_)
          refine goes_ Try.func23 (by kernel_rfl) rfl #[.int .i64 (a : Int), .int .i64 (b : Int)] (by rfl) rfl rfl (by simp only [List.map_toArray, List.map_cons, List.map_nil]; rfl) ?_
          with_reducible refine (OFF.out _).mono ?_
          rintro e w9 ⟨rfl, rfl⟩
          refine ⟨_, rfl, ?_⟩
          refine hK.out _ _ ⟨(blk_cell F.out 0).trans rfl, (blk_cell F.out 1).trans rfl, (blk_cell F.out 2).trans rfl, (blk_cell F.out 3).trans rfl, (blk_cell SS.out 1).trans rfl⟩ (fun hHeld => ?_)
          clear hK K
          refine norm_ (a' := ?_) ?_ ?_
          rotate_left
          · show Act.put _ (some 117) _ = _
            simp only [Act.put, List.setIfInBounds_toArray, List.set_cons_zero, List.set_cons_succ, i64_w, i32_w]
            rfl
          refine pure_ (i := 10) (N := some 118) (v := ?_) (a' := ?_) #[true, true, true, true, true, true, true, true, true, true, true, false, false, false, false, false, false, false, false, false, false, false, false, false, false, false, false, false, false, false, false, false, false, false, false, false, false, false, false, false, false, false, false, false, false, false, false, false, false, false, false, false, false, false] rfl rfl (by kernel_rfl) (fun _ _ _ h => h) (Or.inl ⟨by rfl, ?_⟩) ?_ ?_
          rotate_left
          · intro w'
            go_simp
            with_reducible rfl
          rotate_left
          · simp only [Act.put, List.setIfInBounds_toArray, List.set_cons_zero, List.set_cons_succ, i64_w, i32_w]
            rfl
          refine pure_ (i := 11) (N := some 119) (v := ?_) (a' := ?_) #[true, true, true, true, true, true, true, true, true, true, true, true, false, false, false, false, false, false, false, false, false, false, false, false, false, false, false, false, false, false, false, false, false, false, false, false, false, false, false, false, false, false, false, false, false, false, false, false, false, false, false, false, false, false] rfl rfl (by kernel_rfl) (fun _ _ _ h => h) (Or.inl ⟨by rfl, ?_⟩) ?_ ?_
          rotate_left
          · intro w'
            go_simp
            with_reducible rfl
          rotate_left
          · simp only [Act.put, List.setIfInBounds_toArray, List.set_cons_zero, List.set_cons_succ, i64_w, i32_w]
            rfl
          refine pure_ (i := 12) (N := some 120) (v := ?_) (a' := ?_) #[true, true, true, true, true, true, true, true, true, true, true, true, true, false, false, false, false, false, false, false, false, false, false, false, false, false, false, false, false, false, false, false, false, false, false, false, false, false, false, false, false, false, false, false, false, false, false, false, false, false, false, false, false, false] rfl rfl (by kernel_rfl) (fun _ _ _ h => h) (Or.inl ⟨by rfl, ?_⟩) ?_ ?_
          rotate_left
          · intro w'
            go_simp
            with_reducible rfl
          rotate_left
          · simp only [Act.put, List.setIfInBounds_toArray, List.set_cons_zero, List.set_cons_succ, i64_w, i32_w]
            rfl
          refine pure_ (i := 13) (N := some 121) (v := ?_) (a' := ?_) #[true, true, true, true, true, true, true, true, true, true, true, true, true, true, false, false, false, false, false, false, false, false, false, false, false, false, false, false, false, false, false, false, false, false, false, false, false, false, false, false, false, false, false, false, false, false, false, false, false, false, false, false, false, false] rfl rfl (by kernel_rfl) (fun _ _ _ h => h) (Or.inl ⟨by rfl, ?_⟩) ?_ ?_
          rotate_left
          · intro w'
            go_simp
            with_reducible rfl
          rotate_left
          · simp only [Act.put, List.setIfInBounds_toArray, List.set_cons_zero, List.set_cons_succ, i64_w, i32_w]
            rfl
          refine pure_ (i := 14) (N := some 122) (v := ?_) (a' := ?_) #[true, true, true, true, true, true, true, true, true, true, true, true, true, true, true, false, false, false, false, false, false, false, false, false, false, false, false, false, false, false, false, false, false, false, false, false, false, false, false, false, false, false, false, false, false, false, false, false, false, false, false, false, false, false] rfl rfl (by kernel_rfl) (fun _ _ _ h => h) (Or.inl ⟨by rfl, ?_⟩) ?_ ?_
          rotate_left
          · intro w'
            go_simp
            with_reducible rfl
          rotate_left
          · simp only [Act.put, List.setIfInBounds_toArray, List.set_cons_zero, List.set_cons_succ, i64_w, i32_w]
            rfl
          refine pure_ (i := 16) (N := some 124) (v := ?_) (a' := ?_) #[true, true, true, true, true, true, true, true, true, true, true, true, true, true, true, false, true, false, false, false, false, false, false, false, false, false, false, false, false, false, false, false, false, false, false, false, false, false, false, false, false, false, false, false, false, false, false, false, false, false, false, false, false, false] rfl rfl (by kernel_rfl) (fun _ _ _ h => h) (Or.inl ⟨by rfl, ?_⟩) ?_ ?_
          rotate_left
          · intro w'
            go_simp
            with_reducible rfl
          rotate_left
          · simp only [Act.put, List.setIfInBounds_toArray, List.set_cons_zero, List.set_cons_succ, i64_w, i32_w]
            rfl
          refine pure_ (i := 19) (N := some 127) (v := ?_) (a' := ?_) #[true, true, true, true, true, true, true, true, true, true, true, true, true, true, true, false, true, false, false, true, false, false, false, false, false, false, false, false, false, false, false, false, false, false, false, false, false, false, false, false, false, false, false, false, false, false, false, false, false, false, false, false, false, false] rfl rfl (by kernel_rfl) (fun _ _ _ h => h) (Or.inl ⟨by rfl, ?_⟩) ?_ ?_
          rotate_left
          · intro w'
            go_simp
            with_reducible rfl
          rotate_left
          · simp only [Act.put, List.setIfInBounds_toArray, List.set_cons_zero, List.set_cons_succ, i64_w, i32_w]
            rfl
          refine pure_ (i := 21) (N := some 129) (v := ?_) (a' := ?_) #[true, true, true, true, true, true, true, true, true, true, true, true, true, true, true, false, true, false, false, true, false, true, false, false, false, false, false, false, false, false, false, false, false, false, false, false, false, false, false, false, false, false, false, false, false, false, false, false, false, false, false, false, false, false] rfl rfl (by kernel_rfl) (fun _ _ _ h => h) (Or.inl ⟨by rfl, ?_⟩) ?_ ?_
          rotate_left
          · intro w'
            go_simp
            with_reducible rfl
          rotate_left
          · simp only [Act.put, List.setIfInBounds_toArray, List.set_cons_zero, List.set_cons_succ, i64_w, i32_w]
            rfl
          refine take_ (i := 15) (N := some 123) (v := ?_) (a' := ?_) #[true, true, true, true, true, true, true, true, true, true, true, true, true, true, true, true, true, false, false, true, false, true, false, false, false, false, false, false, false, false, false, false, false, false, false, false, false, false, false, false, false, false, false, false, false, false, false, false, false, false, false, false, false, false] rfl rfl (by kernel_rfl) (fun _ _ _ h => h) (Or.inl ⟨by rfl, ?_⟩) hHeld ?_ ?_
          rotate_left
          · rintro w' ⟨s0, s1, s2, s3, s4⟩
            go_simp
            with_reducible rfl
          rotate_left
          · simp only [Act.put, List.setIfInBounds_toArray, List.set_cons_zero, List.set_cons_succ, i64_w, i32_w]
            rfl
          refine take_ (i := 18) (N := some 126) (v := ?_) (a' := ?_) #[true, true, true, true, true, true, true, true, true, true, true, true, true, true, true, true, true, false, true, true, false, true, false, false, false, false, false, false, false, false, false, false, false, false, false, false, false, false, false, false, false, false, false, false, false, false, false, false, false, false, false, false, false, false] rfl rfl (by kernel_rfl) (fun _ _ _ h => h) (Or.inl ⟨by rfl, ?_⟩) hHeld ?_ ?_
          rotate_left
          · rintro w' ⟨s0, s1, s2, s3, s4⟩
            go_simp
            with_reducible rfl
          rotate_left
          · simp only [Act.put, List.setIfInBounds_toArray, List.set_cons_zero, List.set_cons_succ, i64_w, i32_w]
            rfl
          refine take_ (i := 20) (N := some 128) (v := ?_) (a' := ?_) #[true, true, true, true, true, true, true, true, true, true, true, true, true, true, true, true, true, false, true, true, true, true, false, false, false, false, false, false, false, false, false, false, false, false, false, false, false, false, false, false, false, false, false, false, false, false, false, false, false, false, false, false, false, false] rfl rfl (by kernel_rfl) (fun _ _ _ h => h) (Or.inl ⟨by rfl, ?_⟩) hHeld ?_ ?_
          rotate_left
          · rintro w' ⟨s0, s1, s2, s3, s4⟩
            go_simp
            with_reducible rfl
          rotate_left
          · simp only [Act.put, List.setIfInBounds_toArray, List.set_cons_zero, List.set_cons_succ, i64_w, i32_w]
            rfl
          refine one_ (i := 17) (N := some 125) #[true, true, true, true, true, true, true, true, true, true, true, true, true, true, true, true, true, true, true, true, true, true, false, false, false, false, false, false, false, false, false, false, false, false, false, false, false, false, false, false, false, false, false, false, false, false, false, false, false, false, false, false, false, false] rfl rfl (by kernel_rfl) (by decide) (fun K hK => ?_)
          refine goes_ Try.func13 (by kernel_rfl) rfl #[.pointer (some ⟨g, 0, none⟩), .int .i64 z.f1, .int .i64 mo] (by rfl) rfl rfl (by simp only [List.map_toArray, List.map_cons, List.map_nil]; rfl) ?_
          with_reducible refine (VD.out _ D.out).mono ?_
          rintro e w10 ⟨rfl, nd, rfl⟩
          refine ⟨_, rfl, ?_⟩
          (try (have n_ := Aside0.mk (D.out.below (pw_below_drewN (Below.refl _ _) nd)); clear D; have D := n_; clear n_)); (try (have n_ := Aside0.mk (D2.out.below (pw_below_drewN (Below.refl _ _) nd)); clear D2; have D2 := n_; clear n_)); (try (have n_ := Aside0.mk (blk_below F.out (pw_below_drewN (Below.refl _ _) nd)); clear F; have F := n_; clear n_)); (try (have n_ := Aside0.mk (blk_below F2.out (pw_below_drewN (Below.refl _ _) nd)); clear F2; have F2 := n_; clear n_)); (try (have n_ := Aside0.mk (blk_below SS.out (pw_below_drewN (Below.refl _ _) nd)); clear SS; have SS := n_; clear n_)); (try (have n_ := Aside0.mk (below_step BL.out (pw_below_drewN (Below.refl _ _) nd)); clear BL; have BL := n_; clear n_))
          refine hK.out _ _ ⟨(blk_cell F.out 0).trans rfl, (blk_cell F.out 1).trans rfl, (blk_cell F.out 2).trans rfl, (blk_cell F.out 3).trans rfl, (blk_cell SS.out 1).trans rfl⟩ (fun hHeld => ?_)
          clear hK K
          refine norm_ (a' := ?_) ?_ ?_
          rotate_left
          · show Act.put _ (some 125) _ = _
            simp only [Act.put, List.setIfInBounds_toArray, List.set_cons_zero, List.set_cons_succ, i64_w, i32_w]
            rfl
          refine one_ (i := 22) (N := some 130) #[true, true, true, true, true, true, true, true, true, true, true, true, true, true, true, true, true, true, true, true, true, true, true, false, false, false, false, false, false, false, false, false, false, false, false, false, false, false, false, false, false, false, false, false, false, false, false, false, false, false, false, false, false, false] rfl rfl (by kernel_rfl) (by decide) (fun K hK => ?_)
          refine goes_ Try.func24 (by kernel_rfl) rfl #[.agg #[.int .i64 since, .int .i64 span, .int .i64 (a : Int), .int .i64 (b : Int)], .int .i64 z.f1, .int .i64 mo] (by rfl) rfl rfl (by simp only [List.map_toArray, List.map_cons, List.map_nil]; rfl) ?_
          with_reducible refine (RV.out _).mono ?_
          rintro e w11 ⟨rfl, hb⟩
          refine ⟨_, rfl, ?_⟩
          (try (have n_ := Aside0.mk (D.out.below hb); clear D; have D := n_; clear n_)); (try (have n_ := Aside0.mk (D2.out.below hb); clear D2; have D2 := n_; clear n_)); (try (have n_ := Aside0.mk (blk_below F.out hb); clear F; have F := n_; clear n_)); (try (have n_ := Aside0.mk (blk_below F2.out hb); clear F2; have F2 := n_; clear n_)); (try (have n_ := Aside0.mk (blk_below SS.out hb); clear SS; have SS := n_; clear n_)); (try (have n_ := Aside0.mk (below_step BL.out hb); clear BL; have BL := n_; clear n_))
          clear hb
          refine hK.out _ _ ⟨(blk_cell F.out 0).trans rfl, (blk_cell F.out 1).trans rfl, (blk_cell F.out 2).trans rfl, (blk_cell F.out 3).trans rfl, (blk_cell SS.out 1).trans rfl⟩ (fun hHeld => ?_)
          clear hK K
          refine norm_ (a' := ?_) ?_ ?_
          rotate_left
          · show Act.put _ (some 130) _ = _
            simp only [Act.put, List.setIfInBounds_toArray, List.set_cons_zero, List.set_cons_succ, i64_w, i32_w]
            rfl
          refine pure_ (i := 23) (N := some 131) (v := ?_) (a' := ?_) #[true, true, true, true, true, true, true, true, true, true, true, true, true, true, true, true, true, true, true, true, true, true, true, true, false, false, false, false, false, false, false, false, false, false, false, false, false, false, false, false, false, false, false, false, false, false, false, false, false, false, false, false, false, false] rfl rfl (by kernel_rfl) (fun _ _ _ h => h) (Or.inl ⟨by rfl, ?_⟩) ?_ ?_
          rotate_left
          · intro w'
            go_simp
            with_reducible rfl
          rotate_left
          · simp only [Act.put, List.setIfInBounds_toArray, List.set_cons_zero, List.set_cons_succ, i64_w, i32_w]
            rfl
          refine pure_ (i := 24) (N := some 132) (v := ?_) (a' := ?_) #[true, true, true, true, true, true, true, true, true, true, true, true, true, true, true, true, true, true, true, true, true, true, true, true, true, false, false, false, false, false, false, false, false, false, false, false, false, false, false, false, false, false, false, false, false, false, false, false, false, false, false, false, false, false] rfl rfl (by kernel_rfl) (fun _ _ _ h => h) (Or.inl ⟨by rfl, ?_⟩) ?_ ?_
          rotate_left
          · intro w'
            go_simp
            with_reducible rfl
          rotate_left
          · simp only [Act.put, List.setIfInBounds_toArray, List.set_cons_zero, List.set_cons_succ, i64_w, i32_w]
            rfl
          refine pure_ (i := 25) (N := some 133) (v := ?_) (a' := ?_) #[true, true, true, true, true, true, true, true, true, true, true, true, true, true, true, true, true, true, true, true, true, true, true, true, true, true, false, false, false, false, false, false, false, false, false, false, false, false, false, false, false, false, false, false, false, false, false, false, false, false, false, false, false, false] rfl rfl (by kernel_rfl) (fun _ _ _ h => h) (Or.inl ⟨by rfl, ?_⟩) ?_ ?_
          rotate_left
          · intro w'
            go_simp
            with_reducible rfl
          rotate_left
          · simp only [Act.put, List.setIfInBounds_toArray, List.set_cons_zero, List.set_cons_succ, i64_w, i32_w]
            rfl
          refine pure_ (i := 26) (N := some 134) (v := ?_) (a' := ?_) #[true, true, true, true, true, true, true, true, true, true, true, true, true, true, true, true, true, true, true, true, true, true, true, true, true, true, true, false, false, false, false, false, false, false, false, false, false, false, false, false, false, false, false, false, false, false, false, false, false, false, false, false, false, false] rfl rfl (by kernel_rfl) (fun _ _ _ h => h) (Or.inl ⟨by rfl, ?_⟩) ?_ ?_
          rotate_left
          · intro w'
            go_simp
            with_reducible rfl
          rotate_left
          · simp only [Act.put, List.setIfInBounds_toArray, List.set_cons_zero, List.set_cons_succ, i64_w, i32_w]
            rfl
          refine pure_ (i := 27) (N := some 135) (v := ?_) (a' := ?_) #[true, true, true, true, true, true, true, true, true, true, true, true, true, true, true, true, true, true, true, true, true, true, true, true, true, true, true, true, false, false, false, false, false, false, false, false, false, false, false, false, false, false, false, false, false, false, false, false, false, false, false, false, false, false] rfl rfl (by kernel_rfl) (fun _ _ _ h => h) (Or.inl ⟨by rfl, ?_⟩) ?_ ?_
          rotate_left
          · intro w'
            go_simp
            with_reducible rfl
          rotate_left
          · simp only [Act.put, List.setIfInBounds_toArray, List.set_cons_zero, List.set_cons_succ, i64_w, i32_w]
            rfl
          refine pure_ (i := 31) (N := some 139) (v := ?_) (a' := ?_) #[true, true, true, true, true, true, true, true, true, true, true, true, true, true, true, true, true, true, true, true, true, true, true, true, true, true, true, true, false, false, false, true, false, false, false, false, false, false, false, false, false, false, false, false, false, false, false, false, false, false, false, false, false, false] rfl rfl (by kernel_rfl) (fun _ _ _ h => h) (Or.inl ⟨by rfl, ?_⟩) ?_ ?_
          rotate_left
          · intro w'
            go_simp
            with_reducible rfl
          rotate_left
          · simp only [Act.put, List.setIfInBounds_toArray, List.set_cons_zero, List.set_cons_succ, i64_w, i32_w]
            rfl
          refine take_ (i := 28) (N := some 136) (v := ?_) (a' := ?_) #[true, true, true, true, true, true, true, true, true, true, true, true, true, true, true, true, true, true, true, true, true, true, true, true, true, true, true, true, true, false, false, true, false, false, false, false, false, false, false, false, false, false, false, false, false, false, false, false, false, false, false, false, false, false] rfl rfl (by kernel_rfl) (fun _ _ _ h => h) (Or.inl ⟨by rfl, ?_⟩) hHeld ?_ ?_
          rotate_left
          · rintro w' ⟨s0, s1, s2, s3, s4⟩
            go_simp
            with_reducible rfl
          rotate_left
          · simp only [Act.put, List.setIfInBounds_toArray, List.set_cons_zero, List.set_cons_succ, i64_w, i32_w]
            rfl
          refine take_ (i := 30) (N := some 138) (v := ?_) (a' := ?_) #[true, true, true, true, true, true, true, true, true, true, true, true, true, true, true, true, true, true, true, true, true, true, true, true, true, true, true, true, true, false, true, true, false, false, false, false, false, false, false, false, false, false, false, false, false, false, false, false, false, false, false, false, false, false] rfl rfl (by kernel_rfl) (fun _ _ _ h => h) (Or.inl ⟨by rfl, ?_⟩) hHeld ?_ ?_
          rotate_left
          · rintro w' ⟨s0, s1, s2, s3, s4⟩
            go_simp
            with_reducible rfl
          rotate_left
          · simp only [Act.put, List.setIfInBounds_toArray, List.set_cons_zero, List.set_cons_succ, i64_w, i32_w]
            rfl
          refine take_ (i := 32) (N := some 140) (v := ?_) (a' := ?_) #[true, true, true, true, true, true, true, true, true, true, true, true, true, true, true, true, true, true, true, true, true, true, true, true, true, true, true, true, true, false, true, true, true, false, false, false, false, false, false, false, false, false, false, false, false, false, false, false, false, false, false, false, false, false] rfl rfl (by kernel_rfl) (fun _ _ _ h => h) (Or.inl ⟨by rfl, ?_⟩) hHeld ?_ ?_
          rotate_left
          · rintro w' ⟨s0, s1, s2, s3, s4⟩
            go_simp
            with_reducible rfl
          rotate_left
          · simp only [Act.put, List.setIfInBounds_toArray, List.set_cons_zero, List.set_cons_succ, i64_w, i32_w]
            rfl
          refine one_ (i := 29) (N := some 137) #[true, true, true, true, true, true, true, true, true, true, true, true, true, true, true, true, true, true, true, true, true, true, true, true, true, true, true, true, true, true, true, true, true, false, false, false, false, false, false, false, false, false, false, false, false, false, false, false, false, false, false, false, false, false] rfl rfl (by kernel_rfl) (by decide) (fun K hK => ?_)
          refine goes_ Try.func11 (by kernel_rfl) rfl #[.pointer (some ⟨g, 0, none⟩), .int .i64 z.f1] (by rfl) rfl rfl (by simp only [List.map_toArray, List.map_cons, List.map_nil]; rfl) ?_
          with_reducible refine (OV.out _ D.out).mono ?_
          rintro e w12 ⟨rfl, nd, rfl⟩
          refine ⟨_, rfl, ?_⟩
          (try (have n_ := Aside0.mk (D.out.below (pw_below_drewN (Below.refl _ _) nd)); clear D; have D := n_; clear n_)); (try (have n_ := Aside0.mk (D2.out.below (pw_below_drewN (Below.refl _ _) nd)); clear D2; have D2 := n_; clear n_)); (try (have n_ := Aside0.mk (blk_below F.out (pw_below_drewN (Below.refl _ _) nd)); clear F; have F := n_; clear n_)); (try (have n_ := Aside0.mk (blk_below F2.out (pw_below_drewN (Below.refl _ _) nd)); clear F2; have F2 := n_; clear n_)); (try (have n_ := Aside0.mk (blk_below SS.out (pw_below_drewN (Below.refl _ _) nd)); clear SS; have SS := n_; clear n_)); (try (have n_ := Aside0.mk (below_step BL.out (pw_below_drewN (Below.refl _ _) nd)); clear BL; have BL := n_; clear n_))
          refine hK.out _ _ ⟨(blk_cell F.out 0).trans rfl, (blk_cell F.out 1).trans rfl, (blk_cell F.out 2).trans rfl, (blk_cell F.out 3).trans rfl, (blk_cell SS.out 1).trans rfl⟩ (fun hHeld => ?_)
          clear hK K
          refine norm_ (a' := ?_) ?_ ?_
          rotate_left
          · show Act.put _ (some 137) _ = _
            simp only [Act.put, List.setIfInBounds_toArray, List.set_cons_zero, List.set_cons_succ, i64_w, i32_w]
            rfl
          refine one_ (i := 33) (N := some 141) #[true, true, true, true, true, true, true, true, true, true, true, true, true, true, true, true, true, true, true, true, true, true, true, true, true, true, true, true, true, true, true, true, true, true, false, false, false, false, false, false, false, false, false, false, false, false, false, false, false, false, false, false, false, false] rfl rfl (by kernel_rfl) (by decide) (fun K hK => ?_)
          refine goes_ Try.func25 (by kernel_rfl) rfl #[.agg #[.int .i64 since, .int .i64 span, .int .i64 (a : Int), .int .i64 (b : Int)], .int .i64 z.f1] (by rfl) rfl rfl (by simp only [List.map_toArray, List.map_cons, List.map_nil]; rfl) ?_
          with_reducible refine (RO.out _).mono ?_
          rintro e w13 ⟨rfl, hb⟩
          refine ⟨_, rfl, ?_⟩
          (try (have n_ := Aside0.mk (D.out.below hb); clear D; have D := n_; clear n_)); (try (have n_ := Aside0.mk (D2.out.below hb); clear D2; have D2 := n_; clear n_)); (try (have n_ := Aside0.mk (blk_below F.out hb); clear F; have F := n_; clear n_)); (try (have n_ := Aside0.mk (blk_below F2.out hb); clear F2; have F2 := n_; clear n_)); (try (have n_ := Aside0.mk (blk_below SS.out hb); clear SS; have SS := n_; clear n_)); (try (have n_ := Aside0.mk (below_step BL.out hb); clear BL; have BL := n_; clear n_))
          clear hb
          refine hK.out _ _ ⟨(blk_cell F.out 0).trans rfl, (blk_cell F.out 1).trans rfl, (blk_cell F.out 2).trans rfl, (blk_cell F.out 3).trans rfl, (blk_cell SS.out 1).trans rfl⟩ (fun hHeld => ?_)
          clear hK K
          refine norm_ (a' := ?_) ?_ ?_
          rotate_left
          · show Act.put _ (some 141) _ = _
            simp only [Act.put, List.setIfInBounds_toArray, List.set_cons_zero, List.set_cons_succ, i64_w, i32_w]
            rfl
          refine pure_ (i := 34) (N := some 142) (v := ?_) (a' := ?_) #[true, true, true, true, true, true, true, true, true, true, true, true, true, true, true, true, true, true, true, true, true, true, true, true, true, true, true, true, true, true, true, true, true, true, true, false, false, false, false, false, false, false, false, false, false, false, false, false, false, false, false, false, false, false] rfl rfl (by kernel_rfl) (fun _ _ _ h => h) (Or.inl ⟨by rfl, ?_⟩) ?_ ?_
          rotate_left
          · intro w'
            go_simp
            with_reducible rfl
          rotate_left
          · simp only [Act.put, List.setIfInBounds_toArray, List.set_cons_zero, List.set_cons_succ, i64_w, i32_w]
            rfl
          refine pure_ (i := 35) (N := some 143) (v := ?_) (a' := ?_) #[true, true, true, true, true, true, true, true, true, true, true, true, true, true, true, true, true, true, true, true, true, true, true, true, true, true, true, true, true, true, true, true, true, true, true, true, false, false, false, false, false, false, false, false, false, false, false, false, false, false, false, false, false, false] rfl rfl (by kernel_rfl) (fun _ _ _ h => h) (Or.inl ⟨by rfl, ?_⟩) ?_ ?_
          rotate_left
          · intro w'
            go_simp
            with_reducible rfl
          rotate_left
          · simp only [Act.put, List.setIfInBounds_toArray, List.set_cons_zero, List.set_cons_succ, i64_w, i32_w]
            rfl
          refine pure_ (i := 36) (N := some 144) (v := ?_) (a' := ?_) #[true, true, true, true, true, true, true, true, true, true, true, true, true, true, true, true, true, true, true, true, true, true, true, true, true, true, true, true, true, true, true, true, true, true, true, true, true, false, false, false, false, false, false, false, false, false, false, false, false, false, false, false, false, false] rfl rfl (by kernel_rfl) (fun _ _ _ h => h) (Or.inl ⟨by rfl, ?_⟩) ?_ ?_
          rotate_left
          · intro w'
            go_simp
            with_reducible rfl
          rotate_left
          · simp only [Act.put, List.setIfInBounds_toArray, List.set_cons_zero, List.set_cons_succ, i64_w, i32_w]
            rfl
          refine pure_ (i := 37) (N := some 145) (v := ?_) (a' := ?_) #[true, true, true, true, true, true, true, true, true, true, true, true, true, true, true, true, true, true, true, true, true, true, true, true, true, true, true, true, true, true, true, true, true, true, true, true, true, true, false, false, false, false, false, false, false, false, false, false, false, false, false, false, false, false] rfl rfl (by kernel_rfl) (fun _ _ _ h => h) (Or.inl ⟨by rfl, ?_⟩) ?_ ?_
          rotate_left
          · intro w'
            go_simp
            with_reducible rfl
          rotate_left
          · simp only [Act.put, List.setIfInBounds_toArray, List.set_cons_zero, List.set_cons_succ, i64_w, i32_w]
            rfl
          refine pure_ (i := 38) (N := some 146) (v := ?_) (a' := ?_) #[true, true, true, true, true, true, true, true, true, true, true, true, true, true, true, true, true, true, true, true, true, true, true, true, true, true, true, true, true, true, true, true, true, true, true, true, true, true, true, false, false, false, false, false, false, false, false, false, false, false, false, false, false, false] rfl rfl (by kernel_rfl) (fun _ _ _ h => h) (Or.inl ⟨by rfl, ?_⟩) ?_ ?_
          rotate_left
          · intro w'
            go_simp
            with_reducible rfl
          rotate_left
          · simp only [Act.put, List.setIfInBounds_toArray, List.set_cons_zero, List.set_cons_succ, i64_w, i32_w]
            rfl
          refine pure_ (i := 42) (N := some 150) (v := ?_) (a' := ?_) #[true, true, true, true, true, true, true, true, true, true, true, true, true, true, true, true, true, true, true, true, true, true, true, true, true, true, true, true, true, true, true, true, true, true, true, true, true, true, true, false, false, false, true, false, false, false, false, false, false, false, false, false, false, false] rfl rfl (by kernel_rfl) (fun _ _ _ h => h) (Or.inl ⟨by rfl, ?_⟩) ?_ ?_
          rotate_left
          · intro w'
            go_simp
            with_reducible rfl
          rotate_left
          · simp only [Act.put, List.setIfInBounds_toArray, List.set_cons_zero, List.set_cons_succ, i64_w, i32_w]
            rfl
          refine take_ (i := 39) (N := some 147) (v := ?_) (a' := ?_) #[true, true, true, true, true, true, true, true, true, true, true, true, true, true, true, true, true, true, true, true, true, true, true, true, true, true, true, true, true, true, true, true, true, true, true, true, true, true, true, true, false, false, true, false, false, false, false, false, false, false, false, false, false, false] rfl rfl (by kernel_rfl) (fun _ _ _ h => h) (Or.inl ⟨by rfl, ?_⟩) hHeld ?_ ?_
          rotate_left
          · rintro w' ⟨s0, s1, s2, s3, s4⟩
            go_simp
            with_reducible rfl
          rotate_left
          · simp only [Act.put, List.setIfInBounds_toArray, List.set_cons_zero, List.set_cons_succ, i64_w, i32_w]
            rfl
          refine take_ (i := 41) (N := some 149) (v := ?_) (a' := ?_) #[true, true, true, true, true, true, true, true, true, true, true, true, true, true, true, true, true, true, true, true, true, true, true, true, true, true, true, true, true, true, true, true, true, true, true, true, true, true, true, true, false, true, true, false, false, false, false, false, false, false, false, false, false, false] rfl rfl (by kernel_rfl) (fun _ _ _ h => h) (Or.inl ⟨by rfl, ?_⟩) hHeld ?_ ?_
          rotate_left
          · rintro w' ⟨s0, s1, s2, s3, s4⟩
            go_simp
            with_reducible rfl
          rotate_left
          · simp only [Act.put, List.setIfInBounds_toArray, List.set_cons_zero, List.set_cons_succ, i64_w, i32_w]
            rfl
          refine take_ (i := 43) (N := some 151) (v := ?_) (a' := ?_) #[true, true, true, true, true, true, true, true, true, true, true, true, true, true, true, true, true, true, true, true, true, true, true, true, true, true, true, true, true, true, true, true, true, true, true, true, true, true, true, true, false, true, true, true, false, false, false, false, false, false, false, false, false, false] rfl rfl (by kernel_rfl) (fun _ _ _ h => h) (Or.inl ⟨by rfl, ?_⟩) hHeld ?_ ?_
          rotate_left
          · rintro w' ⟨s0, s1, s2, s3, s4⟩
            go_simp
            with_reducible rfl
          rotate_left
          · simp only [Act.put, List.setIfInBounds_toArray, List.set_cons_zero, List.set_cons_succ, i64_w, i32_w]
            rfl
          refine one_ (i := 40) (N := some 148) #[true, true, true, true, true, true, true, true, true, true, true, true, true, true, true, true, true, true, true, true, true, true, true, true, true, true, true, true, true, true, true, true, true, true, true, true, true, true, true, true, true, true, true, true, false, false, false, false, false, false, false, false, false, false] rfl rfl (by kernel_rfl) (by decide) (fun K hK => ?_)
          refine goes_ Try.func26 (by kernel_rfl) rfl #[.pointer (some ⟨g, 0, none⟩), .int .i64 z.f1] (by rfl) rfl rfl (by simp only [List.map_toArray, List.map_cons, List.map_nil]; rfl) ?_
          with_reducible refine (LF.out _ D.out).mono ?_
          rintro e w14 ⟨rfl, nd, rfl⟩
          refine ⟨_, rfl, ?_⟩
          (try (have n_ := Aside0.mk (D.out.below (pw_below_drewN (Below.refl _ _) nd)); clear D; have D := n_; clear n_)); (try (have n_ := Aside0.mk (D2.out.below (pw_below_drewN (Below.refl _ _) nd)); clear D2; have D2 := n_; clear n_)); (try (have n_ := Aside0.mk (blk_below F.out (pw_below_drewN (Below.refl _ _) nd)); clear F; have F := n_; clear n_)); (try (have n_ := Aside0.mk (blk_below F2.out (pw_below_drewN (Below.refl _ _) nd)); clear F2; have F2 := n_; clear n_)); (try (have n_ := Aside0.mk (blk_below SS.out (pw_below_drewN (Below.refl _ _) nd)); clear SS; have SS := n_; clear n_)); (try (have n_ := Aside0.mk (below_step BL.out (pw_below_drewN (Below.refl _ _) nd)); clear BL; have BL := n_; clear n_))
          refine hK.out _ _ ⟨(blk_cell F.out 0).trans rfl, (blk_cell F.out 1).trans rfl, (blk_cell F.out 2).trans rfl, (blk_cell F.out 3).trans rfl, (blk_cell SS.out 1).trans rfl⟩ (fun hHeld => ?_)
          clear hK K
          refine norm_ (a' := ?_) ?_ ?_
          rotate_left
          · show Act.put _ (some 148) _ = _
            simp only [Act.put, List.setIfInBounds_toArray, List.set_cons_zero, List.set_cons_succ, i64_w, i32_w]
            rfl
          refine one_ (i := 44) (N := some 152) #[true, true, true, true, true, true, true, true, true, true, true, true, true, true, true, true, true, true, true, true, true, true, true, true, true, true, true, true, true, true, true, true, true, true, true, true, true, true, true, true, true, true, true, true, true, false, false, false, false, false, false, false, false, false] rfl rfl (by kernel_rfl) (by decide) (fun K hK => ?_)
          refine goes_ Try.func27 (by kernel_rfl) rfl #[.agg #[.int .i64 since, .int .i64 span, .int .i64 (a : Int), .int .i64 (b : Int)], .int .i64 z.f1] (by rfl) rfl rfl (by simp only [List.map_toArray, List.map_cons, List.map_nil]; rfl) ?_
          with_reducible refine (RL.out _).mono ?_
          rintro e w15 ⟨rfl, hb⟩
          refine ⟨_, rfl, ?_⟩
          (try (have n_ := Aside0.mk (D.out.below hb); clear D; have D := n_; clear n_)); (try (have n_ := Aside0.mk (D2.out.below hb); clear D2; have D2 := n_; clear n_)); (try (have n_ := Aside0.mk (blk_below F.out hb); clear F; have F := n_; clear n_)); (try (have n_ := Aside0.mk (blk_below F2.out hb); clear F2; have F2 := n_; clear n_)); (try (have n_ := Aside0.mk (blk_below SS.out hb); clear SS; have SS := n_; clear n_)); (try (have n_ := Aside0.mk (below_step BL.out hb); clear BL; have BL := n_; clear n_))
          clear hb
          refine hK.out _ _ ⟨(blk_cell F.out 0).trans rfl, (blk_cell F.out 1).trans rfl, (blk_cell F.out 2).trans rfl, (blk_cell F.out 3).trans rfl, (blk_cell SS.out 1).trans rfl⟩ (fun hHeld => ?_)
          clear hK K
          refine norm_ (a' := ?_) ?_ ?_
          rotate_left
          · show Act.put _ (some 152) _ = _
            simp only [Act.put, List.setIfInBounds_toArray, List.set_cons_zero, List.set_cons_succ, i64_w, i32_w]
            rfl
          refine pure_ (i := 45) (N := some 153) (v := ?_) (a' := ?_) #[true, true, true, true, true, true, true, true, true, true, true, true, true, true, true, true, true, true, true, true, true, true, true, true, true, true, true, true, true, true, true, true, true, true, true, true, true, true, true, true, true, true, true, true, true, true, false, false, false, false, false, false, false, false] rfl rfl (by kernel_rfl) (fun _ _ _ h => h) (Or.inl ⟨by rfl, ?_⟩) ?_ ?_
          rotate_left
          · intro w'
            go_simp
            with_reducible rfl
          rotate_left
          · simp only [Act.put, List.setIfInBounds_toArray, List.set_cons_zero, List.set_cons_succ, i64_w, i32_w]
            rfl
          refine pure_ (i := 46) (N := some 154) (v := ?_) (a' := ?_) #[true, true, true, true, true, true, true, true, true, true, true, true, true, true, true, true, true, true, true, true, true, true, true, true, true, true, true, true, true, true, true, true, true, true, true, true, true, true, true, true, true, true, true, true, true, true, true, false, false, false, false, false, false, false] rfl rfl (by kernel_rfl) (fun _ _ _ h => h) (Or.inl ⟨by rfl, ?_⟩) ?_ ?_
          rotate_left
          · intro w'
            go_simp
            with_reducible rfl
          rotate_left
          · simp only [Act.put, List.setIfInBounds_toArray, List.set_cons_zero, List.set_cons_succ, i64_w, i32_w]
            rfl
          refine pure_ (i := 47) (N := some 155) (v := ?_) (a' := ?_) #[true, true, true, true, true, true, true, true, true, true, true, true, true, true, true, true, true, true, true, true, true, true, true, true, true, true, true, true, true, true, true, true, true, true, true, true, true, true, true, true, true, true, true, true, true, true, true, true, false, false, false, false, false, false] rfl rfl (by kernel_rfl) (fun _ _ _ h => h) (Or.inl ⟨by rfl, ?_⟩) ?_ ?_
          rotate_left
          · intro w'
            go_simp
            with_reducible rfl
          rotate_left
          · simp only [Act.put, List.setIfInBounds_toArray, List.set_cons_zero, List.set_cons_succ, i64_w, i32_w]
            rfl
          refine pure_ (i := 48) (N := some 156) (v := ?_) (a' := ?_) #[true, true, true, true, true, true, true, true, true, true, true, true, true, true, true, true, true, true, true, true, true, true, true, true, true, true, true, true, true, true, true, true, true, true, true, true, true, true, true, true, true, true, true, true, true, true, true, true, true, false, false, false, false, false] rfl rfl (by kernel_rfl) (fun _ _ _ h => h) (Or.inl ⟨by rfl, ?_⟩) ?_ ?_
          rotate_left
          · intro w'
            go_simp
            with_reducible rfl
          rotate_left
          · simp only [Act.put, List.setIfInBounds_toArray, List.set_cons_zero, List.set_cons_succ, i64_w, i32_w]
            rfl
          refine pure_ (i := 50) (N := some 158) (v := ?_) (a' := ?_) #[true, true, true, true, true, true, true, true, true, true, true, true, true, true, true, true, true, true, true, true, true, true, true, true, true, true, true, true, true, true, true, true, true, true, true, true, true, true, true, true, true, true, true, true, true, true, true, true, true, false, true, false, false, false] rfl rfl (by kernel_rfl) (fun _ _ _ h => h) (Or.inl ⟨by rfl, ?_⟩) ?_ ?_
          rotate_left
          · intro w'
            go_simp
            with_reducible rfl
          rotate_left
          · simp only [Act.put, List.setIfInBounds_toArray, List.set_cons_zero, List.set_cons_succ, i64_w, i32_w]
            rfl
          refine take_ (i := 51) (N := some 159) (v := ?_) (a' := ?_) #[true, true, true, true, true, true, true, true, true, true, true, true, true, true, true, true, true, true, true, true, true, true, true, true, true, true, true, true, true, true, true, true, true, true, true, true, true, true, true, true, true, true, true, true, true, true, true, true, true, false, true, true, false, false] rfl rfl (by kernel_rfl) (fun _ _ _ h => h) (Or.inl ⟨by rfl, ?_⟩) hHeld ?_ ?_
          rotate_left
          · rintro w' ⟨s0, s1, s2, s3, s4⟩
            go_simp
            with_reducible rfl
          rotate_left
          · simp only [Act.put, List.setIfInBounds_toArray, List.set_cons_zero, List.set_cons_succ, i64_w, i32_w]
            rfl
          refine one_ (i := 49) (N := some 157) #[true, true, true, true, true, true, true, true, true, true, true, true, true, true, true, true, true, true, true, true, true, true, true, true, true, true, true, true, true, true, true, true, true, true, true, true, true, true, true, true, true, true, true, true, true, true, true, true, true, true, true, true, false, false] rfl rfl (by kernel_rfl) (by decide) (fun K hK => ?_)
          refine goes_ Try.func28 (by kernel_rfl) rfl #[.pointer (some ⟨g, 0, none⟩)] (by rfl) rfl rfl (by simp only [List.map_toArray, List.map_cons, List.map_nil]; rfl) ?_
          with_reducible refine (since_at D.out).mono ?_
          rintro e w16 ⟨rfl, rfl⟩
          refine ⟨_, rfl, ?_⟩
          refine hK.out _ _ ⟨(blk_cell F.out 0).trans rfl, (blk_cell F.out 1).trans rfl, (blk_cell F.out 2).trans rfl, (blk_cell F.out 3).trans rfl, (blk_cell SS.out 1).trans rfl⟩ (fun hHeld => ?_)
          clear hK K
          refine norm_ (a' := ?_) ?_ ?_
          rotate_left
          · show Act.put _ (some 157) _ = _
            simp only [Act.put, List.setIfInBounds_toArray, List.set_cons_zero, List.set_cons_succ, i64_w, i32_w]
            rfl
          refine pure_ (i := 52) (N := some 160) (v := ?_) (a' := ?_) #[true, true, true, true, true, true, true, true, true, true, true, true, true, true, true, true, true, true, true, true, true, true, true, true, true, true, true, true, true, true, true, true, true, true, true, true, true, true, true, true, true, true, true, true, true, true, true, true, true, true, true, true, true, false] rfl rfl (by kernel_rfl) (fun _ _ _ h => h) (Or.inl ⟨by rfl, ?_⟩) ?_ ?_
          rotate_left
          · intro w'
            go_simp
            with_reducible rfl
          rotate_left
          · simp only [Act.put, List.setIfInBounds_toArray, List.set_cons_zero, List.set_cons_succ, i64_w, i32_w]
            rfl
          refine pure_ (i := 53) (N := some 161) (v := ?_) (a' := ?_) #[true, true, true, true, true, true, true, true, true, true, true, true, true, true, true, true, true, true, true, true, true, true, true, true, true, true, true, true, true, true, true, true, true, true, true, true, true, true, true, true, true, true, true, true, true, true, true, true, true, true, true, true, true, true] rfl rfl (by kernel_rfl) (fun _ _ _ h => h) (Or.inl ⟨by rfl, ?_⟩) ?_ ?_
          rotate_left
          · intro w'
            go_simp
            with_reducible rfl
          rotate_left
          · simp only [Act.put, List.setIfInBounds_toArray, List.set_cons_zero, List.set_cons_succ, i64_w, i32_w]
            rfl
          refine done_ (by kernel_rfl) ?_
          go_wp2_with fail
          go_roundw
          case rel => exact ⟨n + 1, by omega, by omega, by go_num, Lib.hid ⟨a, b, hab, ⟨D.out, F.out, LB_g.out, LB_R.out, BL.out⟩⟩⟩
          case measure => simp [intOf]; omega
      · have HB := HY.out.below
        go_wp2_with fail
        go_ret
        exact ⟨rfl, HB⟩
    · have HB := HY.out.below
      go_wp2_with fail
      go_ret
      exact ⟨rfl, HB⟩
end Go.Proofs.Ytdpdjchblajbbaa.Hand
