/- A disk in memory, and what its methods do. -/
import Derived.Test.YtbcienbnhchdeaaHandD
import Derived.Outline
import Derived.StillTailTactics
namespace Go.Proofs.Ytbcienbnhchdeaa.Hand
open Go Go.RowKit Go.Proofs.YtbcienbnhchdeaaW.PrintWords Go.Proofs.YtbcienbnhchdeaaW.PrintMore
set_option linter.unusedVariables false
set_option linter.unusedSimpArgs false
attribute [local go_sem] max2_int min2_int max_two min_two

/-- w' is w but for the blocks of S, and for what is new. -/
structure Moved (w w' : World) (S : Nat → Prop) : Prop where
  os : w'.os = w.os
  tape : w'.tape = w.tape
  output : w'.output = w.output
  kept : Kept w w' S
namespace Moved
variable {w w1 w2 : World} {S S' : Nat → Prop}
theorem refl (w : World) (S : Nat → Prop) : Moved w w S := ⟨rfl, rfl, rfl, Kept.refl w S⟩
theorem of_below (h : Below w.heap.size w w1) (S : Nat → Prop) : Moved w w1 S := ⟨h.os, h.tape, h.output, Kept.of_below h S⟩
theorem mono (h : Moved w w1 S) (hs : ∀ k, S k → S' k) : Moved w w1 S' := ⟨h.os, h.tape, h.output, h.kept.mono hs⟩
theorem trans (h : Moved w w1 S) (k : Moved w1 w2 S') (hs : ∀ k, S' k → S k ∨ w.heap.size ≤ k) : Moved w w2 S := ⟨k.os.trans h.os, k.tape.trans h.tape, k.output.trans h.output, h.kept.then_ k.kept hs⟩
theorem below (h : Moved w w1 S) (hb : Below w1.heap.size w1 w2) : Moved w w2 S := h.trans (of_below hb (fun _ => False)) (fun _ hk => hk.elim)
theorem size (h : Moved w w1 S) : w.heap.size ≤ w1.heap.size := h.kept.1
theorem toBelow (h : Moved w w1 S) {B : Nat} (hB : B ≤ w.heap.size) (hs : ∀ k, S k → B ≤ k) : Below B w w1 :=
  ⟨h.os, h.tape, h.output, h.size, fun i hi => h.kept.2 i (by omega) (fun hk => by have := hs i hk; omega)⟩
theorem setCell (h : Moved w w1 S) {p : Addr} (hp : S p.block ∨ w.heap.size ≤ p.block) (u : Value) : Moved w (w1.setCell p u) S := ⟨h.os, h.tape, h.output, h.kept.setCell hp u⟩
theorem grown (h : Moved w w1 S) {row : Option Nat} (hg : w1.grownBy w2 row) (hr : ∀ k, row = some k → S k ∨ w.heap.size ≤ k) : Moved w w2 S := ⟨hg.os.trans h.os, hg.tape.trans h.tape, hg.output.trans h.output, Kept.of_grown hg h.kept hr⟩
theorem drewN (h : Moved w w1 S) (n : Nat) : Moved w (w1.drewN n) S := ⟨h.os, h.tape, h.output, h.kept⟩
theorem drew (h : Moved w w1 S) : Moved w w1.drew S := ⟨h.os, h.tape, h.output, h.kept⟩
theorem from_below {w0 : World} {B : Nat} (h : Below B w0 w) (k : Moved w w1 S) (hs : ∀ k, S k → B ≤ k) (hB : B ≤ w.heap.size) : Below B w0 w1 :=
  let h2 := k.toBelow hB hs
  ⟨h2.os.trans h.os, h2.tape.trans h.tape, h2.output.trans h.output, Nat.le_trans h.size h2.size, fun i hi => (h2.block i hi).trans (h.block i hi)⟩
end Moved

/-- The disk at block g: its room, how many are safe, its bytes; the block of its row is ok. -/
structure DiskAt (w : World) (g : Nat) (ok : Nat → Prop) (room safe : Nat) (bs : List Int) : Prop where
  cells : ∃ v, w.heap[g]? = some (.cells #[.int .i64 (room : Int), .int .i64 (safe : Int), v] 96 (0, 0)) ∧ BRow w ok v bs
  safeLe : safe ≤ bs.length
  roomLe : bs.length ≤ room
  most : room ≤ 1048576
  bytes : okB bs = true

/-- What a disk's method may turn. -/
def OfDisk (g : Nat) (ok : Nat → Prop) (k : Nat) : Prop := k = g ∨ ok k

section
variable {w w1 : World} {g : Nat} {ok ok' : Nat → Prop} {room safe : Nat} {bs : List Int}
theorem DiskAt.mono (h : DiskAt w g ok room safe bs) (hok : ∀ k, ok k → ok' k) : DiskAt w g ok' room safe bs := by
  obtain ⟨⟨v, h1, h2⟩, a, b, c, d⟩ := h
  exact ⟨⟨v, h1, B_mono h2 hok⟩, a, b, c, d⟩
theorem DiskAt.lt (h : DiskAt w g ok room safe bs) : g < w.heap.size := by
  obtain ⟨v, h1, h2⟩ := h.cells
  exact blk_lt h1
theorem DiskAt.step (h : DiskAt w g ok room safe bs) (hg : w1.heap[g]? = w.heap[g]?) (hm : ∀ k, ok k → k < w.heap.size → w1.heap[k]? = w.heap[k]?) : DiskAt w1 g ok room safe bs := by
  obtain ⟨⟨v, h1, h2⟩, a, b, c, d⟩ := h
  exact ⟨⟨v, hg.trans h1, B_step h2 hm⟩, a, b, c, d⟩
theorem DiskAt.below (h : DiskAt w g ok room safe bs) (hb : Below w.heap.size w w1) : DiskAt w1 g ok room safe bs := h.step (hb.block g h.lt) (fun k _ hk => hb.block k hk)
theorem DiskAt.kept (h : DiskAt w g ok room safe bs) {S : Nat → Prop} (hk : Kept w w1 S) (hg : ¬ S g) (hne : ∀ k, ok k → ¬ S k) : DiskAt w1 g ok room safe bs := h.step (hk.2 g h.lt hg) (fun k ho hlt => hk.2 k hlt (hne k ho))
/-- Told of its own blocks alone. -/
theorem DiskAt.bound (h : DiskAt w g ok room safe bs) : DiskAt w g (fun k => ok k ∧ k < w.heap.size) room safe bs := by
  obtain ⟨⟨v, h1, h2⟩, a, b, c, d⟩ := h
  exact ⟨⟨v, h1, B_mono (B_bound h2) (fun k hk => ⟨hk.1, hk.2.1⟩)⟩, a, b, c, d⟩
/-- The cells, as the walk asks for them. -/
theorem disk_cells {v : Value} {a b : Value} (h : w.heap[g]? = some (.cells #[a, b, v] 96 (0, 0))) :
    w.cell? ⟨g, 0, none⟩ = some a ∧ w.cell? ⟨g, 1, none⟩ = some b ∧ w.cell? ⟨g, 2, none⟩ = some v ∧ (∀ i, w.frozen? ⟨g, i, none⟩ = false) :=
  ⟨by rw [blk_cell h]; rfl, by rw [blk_cell h]; rfl, by rw [blk_cell h]; rfl, fun i => blk_frozen h i⟩
end

theorem okB_append2 {a b : List Int} (ha : okB a = true) (hb : okB b = true) : okB (a ++ b) = true := by
  simp only [okB, List.all_append, Bool.and_eq_true] at *
  exact ⟨ha, hb⟩
theorem B_ne {w : World} {ok : Nat → Prop} {v : Value} {xs : List Int} (h : BRow w ok v xs) {g t : Nat} {cells : Array Value} (hb : w.heap[g]? = some (.cells cells t (0, 0))) (ht : t ≠ 5) : some g ≠ v.ownBlock := by
  intro e
  obtain ⟨_, _, c, hc⟩ := B_ok h g e.symm
  exact blk_ne hb hc ht rfl
/-- The disk whose row was stored anew. -/
theorem DiskAt.stored {w1 : World} {g : Nat} {ok : Nat → Prop} {room safe : Nat} {xs : List Int} {v0 v1 : Value} (h1 : w1.heap[g]? = some (.cells #[.int .i64 (room : Int), .int .i64 (safe : Int), v0] 96 (0, 0))) (hB : BRow w1 ok v1 xs) (ha : safe ≤ xs.length) (hb : xs.length ≤ room) (hm : room ≤ 1048576) (hd : okB xs = true) :
    DiskAt (w1.setCell ⟨g, 2, none⟩ v1) g ok room safe xs := by
  have h2 := blk_set h1 2 v1
  exact ⟨⟨v1, h2, B_set hB h1 (by decide) 2 v1⟩, ha, hb, hm, hd⟩
def roomOf (n : Int) : Nat := if n < 0 then 0 else if 1048576 < n then 1048576 else n.toNat

set_option maxRecDepth 100000 in
theorem new_any (n : Int) (w : World) (ok : Nat → Prop) : Calls Try.prog 37 #[.int .i64 n] w fun e w' =>
    e = .returned (.pointer (some ⟨w.heap.size, 0, none⟩)) ∧ DiskAt w' w.heap.size ok (roomOf n) 0 [] ∧ Below w.heap.size w w' := by
  have key : ∀ m : Nat, m ≤ 1048576 → DiskAt (w.alloc (.cells #[.int .i64 (m : Int), .int .i64 0, .slice none 0 0] 96)) w.heap.size ok m 0 [] := fun m hm =>
    ⟨⟨_, heap_alloc_new w _, B_nil _ _⟩, Nat.le_refl _, Nat.zero_le _, hm, rfl⟩
  unfold roomOf
  by_cases h1 : n < 0
  · rw [if_pos h1]
    go_enter Try.func37, Try.ntmps37
    go_wp2
    go_ret
    exact ⟨rfl, key 0 (by omega), (Below.refl _ _).alloc (Nat.le_refl _) _⟩
  · rw [if_neg h1]
    by_cases h2 : 1048576 < n
    · rw [if_pos h2]
      go_enter Try.func37, Try.ntmps37
      go_wp2
      go_ret
      exact ⟨rfl, key 1048576 (by omega), (Below.refl _ _).alloc (Nat.le_refl _) _⟩
    · rw [if_neg h2]
      obtain ⟨m, rfl⟩ := Int.eq_ofNat_of_zero_le (by omega : 0 ≤ n)
      rw [Int.toNat_natCast]
      go_enter Try.func37, Try.ntmps37
      go_wp2
      go_ret
      exact ⟨rfl, key m (by omega), (Below.refl _ _).alloc (Nat.le_refl _) _⟩

section
variable {w : World} {g : Nat} {ok : Nat → Prop} {room safe : Nat} {bs : List Int}
set_option maxRecDepth 100000 in
theorem room_any (h : DiskAt w g ok room safe bs) : Calls Try.prog 59 #[.pointer (some ⟨g, 0, none⟩)] w fun e w' => e = .returned (.int .i64 ((room : Int) - (bs.length : Int))) ∧ ∃ n, w' = w.drewN n := by
  obtain ⟨⟨v, h1, h2⟩, a, b, c, d⟩ := h
  obtain ⟨A, k, rfl, hl, hC⟩ := B_C h2
  obtain ⟨c0, c1, c2, fr⟩ := disk_cells h1
  clear h2 hC d h1 fr
  go_enter Try.func59, Try.ntmps59
  go_wp2
  go_quiet (fail)
  go_wp2
  go_ret
  exact ⟨rfl, _, rfl⟩
set_option maxRecDepth 100000 in
theorem len_any (h : DiskAt w g ok room safe bs) : Calls Try.prog 43 #[.pointer (some ⟨g, 0, none⟩)] w fun e w' => e = .returned (.int .i64 (bs.length : Int)) ∧ w = w' := by
  obtain ⟨⟨v, h1, h2⟩, a, b, c, d⟩ := h
  obtain ⟨A, k, rfl, hl, hC⟩ := B_C h2
  obtain ⟨c0, c1, c2, fr⟩ := disk_cells h1
  clear h2 hC d h1 fr
  go_enter Try.func43, Try.ntmps43
  go_wp2
  go_ret
  exact ⟨rfl, rfl⟩
set_option maxRecDepth 100000 in
theorem safe_any (h : DiskAt w g ok room safe bs) : Calls Try.prog 42 #[.pointer (some ⟨g, 0, none⟩)] w fun e w' => e = .returned (.int .i64 (safe : Int)) ∧ w = w' := by
  obtain ⟨⟨v, h1, h2⟩, a, b, c, d⟩ := h
  obtain ⟨c0, c1, c2, fr⟩ := disk_cells h1
  clear h2 d h1 fr
  go_enter Try.func42, Try.ntmps42
  go_wp2
  go_ret
  exact ⟨rfl, rfl⟩
set_option maxRecDepth 100000 in
theorem all_any (h : DiskAt w g ok room safe bs) : Calls Try.prog 41 #[.pointer (some ⟨g, 0, none⟩)] w fun e w' => ∃ v, e = .returned v ∧ Kd.R (Kd.int .u8) 5 w' w.heap.size (fun _ => True) v bs ∧ Below w.heap.size w w' := by
  obtain ⟨⟨v, h1, h2⟩, a, b, c, d⟩ := h
  obtain ⟨A, k, rfl, hl, hC⟩ := B_C h2
  obtain ⟨c0, c1, c2, fr⟩ := disk_cells h1
  have HC := Aside0.mk hC
  clear h2 hC d h1 fr
  go_enter Try.func41, Try.ntmps41
  go_wp2_with (go_at_call 96; refine (clone_any A k bs w HC.out (by omega)).mono ?_; rintro e w1 ⟨v1, rfl, ho, hb⟩; have HO := Aside0.mk ho; have HB := Aside0.mk hb; clear ho hb)
  go_ret
  exact ⟨_, rfl, HO.out, HB.out⟩
end

section
variable {P : Program} {ops : Array Oper} {rest : List Oper} {o : Oper} {a : Act} {Q : Exit → Act → World → Prop}
/-- append(v, ys...), behind 'at_builtin'. -/
theorem B_append {W : World} (hgd : o.guard = none) (s x : Operand) (t : TypeId) (ho : o.op = .call { callee := .builtin .append, args := #[s, x], argTypes := #[t, t] })
    (ht : P.underlying t = some (.slice 5)) (hinfo : (P.info? 5).map (fun i => (i.zero, i.size, i.bytes)) = some (some (.int .u8 0), 1, 1))
    (ok : Nat → Prop) (v : Value) (xs ys : List Int) (A : Option Addr) (c : Nat) (hs : a.eval s = v) (hx : a.eval x = .slice A ys.length c) (h : BRow W ok v xs) (hr : Kd.C (Kd.int .u8) W A ys.length ys) (hok : ∀ k, W.heap.size ≤ k → ok k) (hl : xs.length + ys.length ≤ 140737488355328)
    (hK : ∀ v1 w1, BRow w1 ok v1 (xs ++ ys) → W.grownBy w1 v.ownBlock → (v1.ownBlock = v.ownBlock ∨ ∃ b, v1.ownBlock = some b ∧ W.heap.size ≤ b) → wpList P ops Q rest (a.put o.dst v1) w1) : wpList P ops Q (o :: rest) a W := by
  obtain ⟨i0, hi, hzz⟩ := Option.map_eq_some_iff.1 hinfo
  simp only [Prod.mk.injEq] at hzz
  obtain ⟨hz0, hz1, hz2⟩ := hzz
  obtain ⟨v1, w1, hrun, hB, hg, hat⟩ := B_run (P := P) W t o.type i0 ht hi hz0 hz1 hz2 ok v xs ys A c h hr hok hl
  refine wpList_plain hgd fun K hKK => ?_
  unfold Oper.wp execOp
  simp only [ho, resolve, invoke, builtin, Sem.run_bind, Sem.run_pure, Result.andThen_ok, List.map_toArray, List.map_cons, List.map_nil, hs, hx, hrun]
  exact hKK _ _ (hK v1 w1 hB hg hat)
end
section
variable {w : World} {g : Nat} {ok : Nat → Prop} {room safe : Nat} {bs : List Int}
set_option maxRecDepth 100000 in
theorem write_ok (h : DiskAt w g ok room safe bs) (hok : ∀ k, w.heap.size ≤ k → ok k) (A : Option Addr) (c : Nat) (l : List Int) (hr : Kd.C (Kd.int .u8) w A l.length l) (hb : okB l = true) (hfit : bs.length + l.length ≤ room) :
    Calls Try.prog 38 #[.pointer (some ⟨g, 0, none⟩), .slice A l.length c] w fun e w' => e = .returned (.int .i64 0) ∧ DiskAt w' g ok room safe (bs ++ l) ∧ Moved w w' (OfDisk g ok) := by
  have H := Aside0.mk h
  obtain ⟨⟨v, h1, h2⟩, ha, hb0, hm, hd⟩ := h
  obtain ⟨A', k, rfl, hl, hC⟩ := B_C h2
  have H1 := Aside0.mk h1
  have H2 := Aside0.mk h2
  have HNE := Aside0.mk (B_ne h2 h1 (by decide))
  have HR := Aside0.mk hr
  have HOK := Aside0.mk hok
  have HD := Aside0.mk (okB_append2 hd hb)
  have hle : (l.length : Int) ≤ (room : Int) - (bs.length : Int) := by omega
  clear h2 hC hd h1 hr hb hok
  go_enter Try.func38, Try.ntmps38
  go_wp2_with (first
    | (go_at_call 59; refine (room_any H.out).mono ?_; rintro e w1 ⟨rfl, n, rfl⟩; obtain ⟨c0, c1, c2, fr⟩ := disk_cells (show (w.drewN n).heap[g]? = _ from H1.out); have f2 := fr 2; clear fr)
    | (at_builtin; refine B_append rfl (.tmp 18) (.tmp 19) 22 rfl Try.underlying22 info5 ok (.slice A' bs.length k) bs l A c rfl rfl ?aB ?aR ?aO ?aL ?_; (case aB => exact H2.out); (case aR => exact HR.out); (case aO => exact HOK.out); (case aL => omega); intro v1 w1 hB hg hat; obtain ⟨A1, k1, rfl, _, _⟩ := B_C hB; rw [List.length_append] at hB; have HB := Aside0.mk hB; have h1' := blk_grown (w := w.drewN n) H1.out hg HNE.out; have HG := Aside0.mk hg; have HH := Aside0.mk h1'; obtain ⟨c0', c1', c2', fr'⟩ := disk_cells h1'; have f2' := fr' 2; clear fr' hB hg hat h1'))
  go_ret
  refine ⟨rfl, DiskAt.stored HH.out HB.out (by rw [List.length_append]; omega) (by rw [List.length_append]; omega) hm HD.out, ?_⟩
  exact (((Moved.refl w (OfDisk g ok)).drewN n).grown HG.out (fun k hk => .inl (.inr (B_ok H2.out k hk).1))).setCell (.inl (.inl rfl)) _
set_option maxRecDepth 100000 in
theorem write_full (h : DiskAt w g ok room safe bs) (A : Option Addr) (c : Nat) (l : List Int) (hl63 : l.length ≤ 9223372036854775807) (hfull : room < bs.length + l.length) :
    Calls Try.prog 38 #[.pointer (some ⟨g, 0, none⟩), .slice A l.length c] w fun e w' => e = .returned (.int .i64 4) ∧ ∃ n, w' = w.drewN n := by
  have H := Aside0.mk h
  obtain ⟨⟨v, h1, h2⟩, ha, hb0, hm, hd⟩ := h
  have hle : (room : Int) - (bs.length : Int) < (l.length : Int) := by omega
  clear h2 hd h1
  go_enter Try.func38, Try.ntmps38
  go_wp2_with (go_at_call 59; refine (room_any H.out).mono ?_; rintro e w1 ⟨rfl, n, rfl⟩)
  go_ret
  exact ⟨rfl, _, rfl⟩
/-- The disk whose count of safe bytes was stored anew. -/
theorem DiskAt.synced {w1 : World} {g : Nat} {ok : Nat → Prop} {room safe m : Nat} {xs : List Int} {v : Value} (h1 : w1.heap[g]? = some (.cells #[.int .i64 (room : Int), .int .i64 (safe : Int), v] 96 (0, 0))) (hB : BRow w1 ok v xs) (ha : m ≤ xs.length) (hb : xs.length ≤ room) (hm : room ≤ 1048576) (hd : okB xs = true) :
    DiskAt (w1.setCell ⟨g, 1, none⟩ (.int .i64 (m : Int))) g ok room m xs := by
  have h2 := blk_set h1 1 (.int .i64 (m : Int))
  exact ⟨⟨v, h2, B_set hB h1 (by decide) 1 _⟩, ha, hb, hm, hd⟩
set_option maxRecDepth 100000 in
theorem sync_any (h : DiskAt w g ok room safe bs) : Calls Try.prog 39 #[.pointer (some ⟨g, 0, none⟩)] w fun e w' => e = .returned (.int .i64 ((bs.length : Int) - (safe : Int))) ∧ DiskAt w' g ok room bs.length bs ∧ Moved w w' (OfDisk g ok) := by
  obtain ⟨⟨v, h1, h2⟩, a, b, c, d⟩ := h
  obtain ⟨A, k, rfl, hl, hC⟩ := B_C h2
  have H1 := Aside0.mk h1
  have H2 := Aside0.mk h2
  have HD := Aside0.mk d
  obtain ⟨c0, c1, c2, fr⟩ := disk_cells h1
  have f1 := fr 1
  clear h2 hC d h1 fr
  go_enter Try.func39, Try.ntmps39
  go_wp2
  go_quiet (fail)
  go_wp2
  go_ret
  exact ⟨rfl, DiskAt.synced (w1 := w.drewN _) H1.out H2.out (Nat.le_refl _) b c HD.out, ((Moved.refl w (OfDisk g ok)).drewN _).setCell (.inl (.inl rfl)) _⟩
/-- Both stored anew. -/
theorem DiskAt.both {w1 : World} {g : Nat} {ok : Nat → Prop} {room m : Nat} {xs : List Int} {u v0 v1 : Value} (h1 : w1.heap[g]? = some (.cells #[.int .i64 (room : Int), u, v0] 96 (0, 0))) (hB : BRow w1 ok v1 xs) (ha : m ≤ xs.length) (hb : xs.length ≤ room) (hm : room ≤ 1048576) (hd : okB xs = true) :
    DiskAt ((w1.setCell ⟨g, 2, none⟩ v1).setCell ⟨g, 1, none⟩ (.int .i64 (m : Int))) g ok room m xs := by
  have h2 := blk_set h1 2 v1
  have h3 := blk_set h2 1 (.int .i64 (m : Int))
  exact ⟨⟨v1, h3, B_set (B_set hB h1 (by decide) 2 v1) h2 (by decide) 1 _⟩, ha, hb, hm, hd⟩
theorem okB_take2 {l : List Int} (h : okB l = true) (n : Nat) : okB (l.take n) = true := by
  unfold okB at h ⊢
  rw [List.all_eq_true] at h ⊢
  exact fun x hx => h x (List.mem_of_mem_take hx)
set_option maxRecDepth 100000 in
theorem left_any (n : Nat) (h : DiskAt w g ok room safe bs) (hn : n ≤ bs.length) : Calls Try.prog 95 #[.pointer (some ⟨g, 0, none⟩), .int .i64 (n : Int)] w fun e w' =>
    e = .returned (.int .i64 ((bs.length : Int) - (n : Int))) ∧ DiskAt w' g ok room n (bs.take n) ∧ Moved w w' (OfDisk g ok) := by
  obtain ⟨⟨v, h1, h2⟩, a, b, c, d⟩ := h
  obtain ⟨A, k, rfl, hl, hC⟩ := B_C h2
  have H1 := Aside0.mk h1
  have H2 := Aside0.mk (B_cut h2 hn)
  have HD := Aside0.mk d
  obtain ⟨c0, c1, c2, fr⟩ := disk_cells h1
  have f1 := fr 1
  have f2 := fr 2
  clear h2 hC d h1 fr
  go_enter Try.func95, Try.ntmps95
  go_wp2
  go_ret
  exact ⟨rfl, DiskAt.both H1.out H2.out (by rw [List.length_take]; omega) (by rw [List.length_take]; omega) c (okB_take2 HD.out _), ((Moved.refl w (OfDisk g ok)).setCell (.inl (.inl rfl)) _).setCell (.inl (.inl rfl)) _⟩
set_option maxRecDepth 100000 in
theorem cut_ok (n : Nat) (h : DiskAt w g ok room safe bs) (hn : n ≤ bs.length) : Calls Try.prog 57 #[.pointer (some ⟨g, 0, none⟩), .int .i64 (n : Int)] w fun e w' =>
    e = .returned (.int .i64 0) ∧ DiskAt w' g ok room n (bs.take n) ∧ Moved w w' (OfDisk g ok) := by
  have H := Aside0.mk h
  have hb := h.roomLe
  have hm := h.most
  clear h
  go_enter Try.func57, Try.ntmps57
  go_wp2_with (first
    | (go_at_call 43; refine (len_any H.out).mono ?_; rintro e w1 ⟨rfl, rfl⟩)
    | (go_at_call 95; refine (left_any n H.out hn).mono ?_; rintro e w1 ⟨rfl, hd, hm'⟩; have HD := Aside0.mk hd; have HM := Aside0.mk hm'; clear hd hm'))
  go_ret
  exact ⟨rfl, HD.out, HM.out⟩
set_option maxRecDepth 100000 in
theorem cut_bad (n : Int) (h : DiskAt w g ok room safe bs) (hn : n < 0 ∨ (bs.length : Int) < n) : Calls Try.prog 57 #[.pointer (some ⟨g, 0, none⟩), .int .i64 n] w fun e w' =>
    e = .returned (.int .i64 1) ∧ w = w' := by
  have H := Aside0.mk h
  have hb := h.roomLe
  have hm := h.most
  clear h
  by_cases h0 : n < 0
  · clear hn
    go_enter Try.func57, Try.ntmps57
    go_wp2
    go_ret
    exact ⟨rfl, rfl⟩
  · have h1 : (bs.length : Int) < n := by omega
    clear hn
    go_enter Try.func57, Try.ntmps57
    go_wp2_with (go_at_call 43; refine (len_any H.out).mono ?_; rintro e w1 ⟨rfl, rfl⟩)
    go_ret
    exact ⟨rfl, rfl⟩
set_option maxRecDepth 100000 in
theorem swap_ok (h : DiskAt w g ok room safe bs) (hok : ∀ k, w.heap.size ≤ k → ok k) (A : Option Addr) (c : Nat) (l : List Int) (hr : Kd.C (Kd.int .u8) w A l.length l) (hb : okB l = true) (hfit : l.length ≤ room) :
    Calls Try.prog 49 #[.pointer (some ⟨g, 0, none⟩), .slice A l.length c] w fun e w' => e = .returned (.int .i64 0) ∧ DiskAt w' g ok room l.length l ∧ Moved w w' (OfDisk g ok) := by
  obtain ⟨⟨v, h1, h2⟩, ha, hb0, hm, hd⟩ := h
  obtain ⟨A', k, rfl, hl, hC⟩ := B_C h2
  have H1 := Aside0.mk h1
  have HR := Aside0.mk hr
  have HOK := Aside0.mk hok
  have HD := Aside0.mk hb
  have hle : (l.length : Int) ≤ (room : Int) := by omega
  obtain ⟨c0, c1, c2, fr⟩ := disk_cells h1
  clear h2 hC hd h1 hr hb hok fr
  go_enter Try.func49, Try.ntmps49
  go_wp2_with (go_at_call 96; refine (clone_any A c l w HR.out (by omega)).mono ?_; rintro e w1 ⟨v1, rfl, ho, hb⟩; have hB := B_of_R ho; obtain ⟨A1, k1, rfl, _, _⟩ := B_C hB; have h1' := (hb.block g (blk_lt H1.out)).trans H1.out; obtain ⟨c0', c1', c2', fr'⟩ := disk_cells h1'; have f1' := fr' 1; have f2' := fr' 2; have HB := Aside0.mk (B_mono hB (fun k hk => HOK.out k hk.2)); have HW := Aside0.mk hb; have HH := Aside0.mk h1'; clear fr' ho hb hB h1')
  go_ret
  exact ⟨rfl, DiskAt.both HH.out HB.out (Nat.le_refl _) hfit hm HD.out, (((Moved.of_below HW.out (OfDisk g ok))).setCell (.inl (.inl rfl)) _).setCell (.inl (.inl rfl)) _⟩
set_option maxRecDepth 100000 in
theorem swap_full (h : DiskAt w g ok room safe bs) (A : Option Addr) (c : Nat) (l : List Int) (hl63 : l.length ≤ 9223372036854775807) (hfull : room < l.length) :
    Calls Try.prog 49 #[.pointer (some ⟨g, 0, none⟩), .slice A l.length c] w fun e w' => e = .returned (.int .i64 4) ∧ w = w' := by
  obtain ⟨⟨v, h1, h2⟩, ha, hb0, hm, hd⟩ := h
  have hle : (room : Int) < (l.length : Int) := by omega
  obtain ⟨c0, c1, c2, fr⟩ := disk_cells h1
  clear h2 hd h1 fr
  go_enter Try.func49, Try.ntmps49
  go_wp2
  go_ret
  exact ⟨rfl, rfl⟩
/-- How many of m a crash keeps. -/
def keepOf (keep : Int) (m : Nat) : Nat := if keep < 0 then 0 else if (m : Int) < keep then m else keep.toNat
theorem keepOf_le (keep : Int) (m : Nat) : keepOf keep m ≤ m := by unfold keepOf; split <;> try split
                                                                   all_goals omega
theorem DiskAt.drewN (h : DiskAt w g ok room safe bs) (n : Nat) : DiskAt (w.drewN n) g ok room safe bs := ⟨h.cells, h.safeLe, h.roomLe, h.most, h.bytes⟩
theorem DiskAt.drew (h : DiskAt w g ok room safe bs) : DiskAt w.drew g ok room safe bs := ⟨h.cells, h.safeLe, h.roomLe, h.most, h.bytes⟩
theorem left_int (x : Int) (n : Nat) (hx : x = (n : Int)) (h : DiskAt w g ok room safe bs) (hn : n ≤ bs.length) : Calls Try.prog 95 #[.pointer (some ⟨g, 0, none⟩), .int .i64 x] w fun e w' =>
    e = .returned (.int .i64 ((bs.length : Int) - (n : Int))) ∧ DiskAt w' g ok room n (bs.take n) ∧ Moved w w' (OfDisk g ok) := by
  subst hx
  exact left_any n h hn
set_option maxRecDepth 100000 in
set_option maxHeartbeats 1000000 in
theorem crash_any (keep : Int) (h : DiskAt w g ok room safe bs) : Calls Try.prog 40 #[.pointer (some ⟨g, 0, none⟩), .int .i64 keep] w fun e w' =>
    e = .returned (.int .i64 ((bs.length : Int) - ((safe + keepOf keep (bs.length - safe) : Nat) : Int))) ∧ DiskAt w' g ok room (safe + keepOf keep (bs.length - safe)) (bs.take (safe + keepOf keep (bs.length - safe))) ∧ Moved w w' (OfDisk g ok) := by
  have H := Aside0.mk h
  obtain ⟨⟨v, h1, h2⟩, ha, hb0, hm, hd⟩ := h
  obtain ⟨A', k, rfl, hl, hC⟩ := B_C h2
  obtain ⟨c0, c1, c2, fr⟩ := disk_cells h1
  clear h2 hC hd h1 fr
  obtain ⟨m, hmm⟩ : ∃ m, bs.length - safe = m := ⟨_, rfl⟩
  rw [hmm]
  have e1 : IntKind.i64.wrap ((bs.length : Int) - (safe : Int)) = (m : Int) := by rw [IntWalk.i64_in _ (by omega)]; omega
  have m0 : ¬ (m : Int) < 0 := by omega
  have m1 : m ≤ bs.length - safe := by omega
  clear hmm
  by_cases k0 : keep < 0
  · have e : keepOf keep m = 0 := if_pos k0
    rw [e, Nat.add_zero]
    have e2 : IntKind.i64.wrap (safe : Int) = (safe : Int) := IntWalk.i64_in _ (by omega)
    clear e
    go_enter Try.func40, Try.ntmps40
    go_wp2
    go_still_tail 19, (by kernel_rfl)
    change wpList _ _ _ _ _ w.drew
    go_wp2_with (go_at_call 95; refine (left_any safe H.out.drew ha).mono ?_; rintro e w1 ⟨rfl, hd, hm'⟩; have HD := Aside0.mk hd; have HM := Aside0.mk hm'; clear hd hm')
    go_ret
    exact ⟨rfl, HD.out, ((Moved.refl w _).drew).trans HM.out (fun _ hk => .inl hk)⟩
  · by_cases k1 : (m : Int) < keep
    · have e : keepOf keep m = m := by unfold keepOf; rw [if_neg k0, if_pos k1]
      rw [e]
      have HX := Aside0.mk (show (safe : Int) + (m : Int) = ((safe + m : Nat) : Int) by omega)
      have HY := Aside0.mk (show safe + m ≤ bs.length by omega)
      have e2 : IntKind.i64.wrap ((safe : Int) + (m : Int)) = ((safe + m : Nat) : Int) := by rw [IntWalk.i64_in _ (by omega)]; omega
      clear e
      go_enter Try.func40, Try.ntmps40
      go_wp2
      go_still_tail 19, (by kernel_rfl)
      change wpList _ _ _ _ _ w.drew
      go_wp2_with (go_at_call 95; refine (left_int _ (safe + m) HX.out H.out.drew HY.out).mono ?_; rintro e w1 ⟨rfl, hd, hm'⟩; have HD := Aside0.mk hd; have HM := Aside0.mk hm'; clear hd hm')
      go_ret
      exact ⟨rfl, HD.out, ((Moved.refl w _).drew).trans HM.out (fun _ hk => .inl hk)⟩
    · obtain ⟨q, rfl⟩ := Int.eq_ofNat_of_zero_le (by omega : 0 ≤ keep)
      have e : keepOf (q : Int) m = q := by unfold keepOf; rw [if_neg k0, if_neg k1, Int.toNat_natCast]
      rw [e]
      have HX := Aside0.mk (show (safe : Int) + (q : Int) = ((safe + q : Nat) : Int) by omega)
      have HY := Aside0.mk (show safe + q ≤ bs.length by omega)
      have e2 : IntKind.i64.wrap ((safe : Int) + (q : Int)) = ((safe + q : Nat) : Int) := by rw [IntWalk.i64_in _ (by omega)]; omega
      clear e
      go_enter Try.func40, Try.ntmps40
      go_wp2
      go_still_tail 19, (by kernel_rfl)
      change wpList _ _ _ _ _ w.drew
      go_wp2_with (go_at_call 95; refine (left_int _ (safe + q) HX.out H.out.drew HY.out).mono ?_; rintro e w1 ⟨rfl, hd, hm'⟩; have HD := Aside0.mk hd; have HM := Aside0.mk hm'; clear hd hm')
      go_ret
      exact ⟨rfl, HD.out, ((Moved.refl w _).drew).trans HM.out (fun _ hk => .inl hk)⟩
end
section
variable {w : World}
theorem write_nil (A : Option Addr) (n c : Nat) : Calls Try.prog 38 #[.pointer none, .slice A n c] w fun e w' => e = .returned (.int .i64 1) ∧ w = w' := by
  go_enter Try.func38, Try.ntmps38
  go_wp2
  go_ret
  exact ⟨rfl, rfl⟩
theorem sync_nil : Calls Try.prog 39 #[.pointer none] w fun e w' => e = .returned (.int .i64 0) ∧ w = w' := by
  go_enter Try.func39, Try.ntmps39
  go_wp2
  go_ret
  exact ⟨rfl, rfl⟩
theorem crash_nil (k : Int) : Calls Try.prog 40 #[.pointer none, .int .i64 k] w fun e w' => e = .returned (.int .i64 0) ∧ w = w' := by
  go_enter Try.func40, Try.ntmps40
  go_wp2
  go_ret
  exact ⟨rfl, rfl⟩
theorem swap_nil (A : Option Addr) (n c : Nat) : Calls Try.prog 49 #[.pointer none, .slice A n c] w fun e w' => e = .returned (.int .i64 1) ∧ w = w' := by
  go_enter Try.func49, Try.ntmps49
  go_wp2
  go_ret
  exact ⟨rfl, rfl⟩
theorem all_nil : Calls Try.prog 41 #[.pointer none] w fun e w' => e = .returned (.slice none 0 0) ∧ w = w' := by
  go_enter Try.func41, Try.ntmps41
  go_wp2
  go_ret
  exact ⟨rfl, rfl⟩
theorem len_nil : Calls Try.prog 43 #[.pointer none] w fun e w' => e = .returned (.int .i64 0) ∧ w = w' := by
  go_enter Try.func43, Try.ntmps43
  go_wp2
  go_ret
  exact ⟨rfl, rfl⟩
theorem safe_nil : Calls Try.prog 42 #[.pointer none] w fun e w' => e = .returned (.int .i64 0) ∧ w = w' := by
  go_enter Try.func42, Try.ntmps42
  go_wp2
  go_ret
  exact ⟨rfl, rfl⟩
theorem room_nil : Calls Try.prog 59 #[.pointer none] w fun e w' => e = .returned (.int .i64 0) ∧ w = w' := by
  go_enter Try.func59, Try.ntmps59
  go_wp2
  go_ret
  exact ⟨rfl, rfl⟩
theorem cut_nil (n : Int) : Calls Try.prog 57 #[.pointer none, .int .i64 n] w fun e w' => e = .returned (.int .i64 1) ∧ w = w' := by
  by_cases h0 : n < 0
  · go_enter Try.func57, Try.ntmps57
    go_wp2
    go_ret
    exact ⟨rfl, rfl⟩
  · by_cases h1 : 0 < n
    all_goals
      go_enter Try.func57, Try.ntmps57
      go_wp2_with (go_at_call 43; refine len_nil.mono ?_; rintro e w1 ⟨rfl, rfl⟩)
      go_ret
      exact ⟨rfl, rfl⟩
end
end Go.Proofs.Ytbcienbnhchdeaa.Hand
