/- LawJournalPlays: the texts JPlayA, JEarly, JPlays, LawJournalPlays, joined: contracts of the functions that the statement reaches, and plain laws. -/
import Derived.Deep.DeepCutAuto
import Derived.Deep.CutBlock
import Derived.Test.YtbcienbnhchdeaaRows
import Derived.WalkKit
import Derived.ProofKit
import Derived.OpenShut
import Derived.ShutString
import Derived.ChangeOld
import Derived.Below
import Derived.SizedLaws
import Derived.Test.YtbcienbnhchdeaaJPlays0
import Derived.Test.YtbcienbnhchdeaaJPlays1
import Derived.Test.YtbcienbnhchdeaaJPlays2

/- A journal beside its second reading and a script. -/
namespace Go.Proofs.Ytbcienbnhchdeaa.Hand
open Go Go.RowKit Go.Proofs.YtbcienbnhchdeaaW.PrintLast Go.Proofs.YtbcienbnhchdeaaW.PrintWords Go.Proofs.YtbcienbnhchdeaaW.PrintMore Print FrameC FrameL FrameS FrameR JMath
set_option linter.unusedVariables false
set_option linter.unusedSimpArgs false
/-- The second reading's block. -/
abbrev refB (room : Nat) (l : List (List Int)) (s : Nat) : Obj := .cells #[.int .i64 (room : Int), .string (strOfNums (allF (l.take s))), .string (strOfNums (allF (l.drop s)))] 48 (0, 0)
structure PlayJ (w wr : World) (N gj g R room s n : Nat) (l : List (List Int)) (v : Value) (sc : List S87) : Prop where
  j : JAt N wr gj g room l s
  r : wr.heap[R]? = some (refB room l s)
  st : Kd.V k87 87 wr 0 (fun k => k < N ∧ k ≠ gj ∧ k ≠ g ∧ k ≠ R) v sc
  hN : w.heap.size ≤ N
  hgj : w.heap.size ≤ gj
  hg : w.heap.size ≤ g
  hR : w.heap.size ≤ R
  hR3 : R < N
  hRg : R ≠ g
  hRj : R ≠ gj
  below : Below w.heap.size w wr
  hs : N ≤ wr.heap.size
  few : (allF l).length ≤ 130 + 26 * n
section
variable {w wr w1 : World} {N gj g R room s s' n : Nat} {l l' : List (List Int)} {v : Value} {sc : List S87}
theorem PlayJ.next (h : PlayJ w wr N gj g R room s n l v sc) (hb : Below wr.heap.size wr w1) : PlayJ w w1 N gj g R room s n l v sc :=
  ⟨h.j.next hb, (hb.block R (blk_lt h.r)).trans h.r, Kd.V_below h.st hb, h.hN, h.hgj, h.hg, h.hR, h.hR3, h.hRg, h.hRj, below_step h.below hb, Nat.le_trans h.hs hb.size, h.few⟩
theorem PlayJ.drewN (h : PlayJ w wr N gj g R room s n l v sc) (m : Nat) : PlayJ w (wr.drewN m) N gj g R room s n l v sc :=
  h.next (pw_below_drewN (Below.refl _ _) m)
theorem PlayJ.more (h : PlayJ w wr N gj g R room s n l v sc) : PlayJ w wr N gj g R room s (n + 1) l v sc :=
  ⟨h.j, h.r, h.st, h.hN, h.hgj, h.hg, h.hR, h.hR3, h.hRg, h.hRj, h.below, h.hs, by have := h.few; omega⟩
/-- The cells of the second reading. -/
theorem PlayJ.cells (h : PlayJ w wr N gj g R room s n l v sc) : wr.cell? ⟨R, 0, none⟩ = some (.int .i64 (room : Int)) ∧ wr.cell? ⟨R, 1, none⟩ = some (.string (strOfNums (allF (l.take s)))) ∧ wr.cell? ⟨R, 2, none⟩ = some (.string (strOfNums (allF (l.drop s)))) ∧ wr.frozen? ⟨R, 0, none⟩ = false ∧ wr.frozen? ⟨R, 1, none⟩ = false ∧ wr.frozen? ⟨R, 2, none⟩ = false ∧ R < wr.heap.size :=
  ⟨(blk_cell h.r 0).trans rfl, (blk_cell h.r 1).trans rfl, (blk_cell h.r 2).trans rfl, blk_frozen h.r 0, blk_frozen h.r 1, blk_frozen h.r 2, blk_lt h.r⟩
/-- The second reading was stored anew (as l' and s'), and then the journal's method turned. -/
structure Ahead (w wr : World) (N gj g R room s n : Nat) (l l' : List (List Int)) (s' : Nat) (v : Value) (sc : List S87) : Prop where
  j : JAt N wr gj g room l s
  r : wr.heap[R]? = some (refB room l' s')
  st : Kd.V k87 87 wr 0 (fun k => k < N ∧ k ≠ gj ∧ k ≠ g ∧ k ≠ R) v sc
  hN : w.heap.size ≤ N
  hgj : w.heap.size ≤ gj
  hg : w.heap.size ≤ g
  hR : w.heap.size ≤ R
  hR3 : R < N
  hRg : R ≠ g
  hRj : R ≠ gj
  below : Below w.heap.size w wr
  hs : N ≤ wr.heap.size
  few : (allF l).length ≤ 130 + 26 * n
theorem Ahead.next (h : Ahead w wr N gj g R room s n l l' s' v sc) (hb : Below wr.heap.size wr w1) : Ahead w w1 N gj g R room s n l l' s' v sc :=
  ⟨h.j.next hb, (hb.block R (blk_lt h.r)).trans h.r, Kd.V_below h.st hb, h.hN, h.hgj, h.hg, h.hR, h.hR3, h.hRg, h.hRj, below_step h.below hb, Nat.le_trans h.hs hb.size, h.few⟩
theorem PlayJ.store (h : PlayJ w wr N gj g R room s n l v sc) (l' : List (List Int)) (s' : Nat) : Ahead w (((wr.setCell ⟨R, 0, none⟩ (.int .i64 (room : Int))).setCell ⟨R, 1, none⟩ (.string (strOfNums (allF (l'.take s'))))).setCell ⟨R, 2, none⟩ (.string (strOfNums (allF (l'.drop s'))))) N gj g R room s n l l' s' v sc := by
  have b0 := blk_set h.r 0 (.int .i64 (room : Int))
  have b1 := blk_set b0 1 (.string (strOfNums (allF (l'.take s'))))
  have b2 := blk_set b1 2 (.string (strOfNums (allF (l'.drop s'))))
  have m0 : Moved wr wr (fun k => k = R) := Moved.refl _ _
  have m1 := m0.setCell (p := ⟨R, 0, none⟩) (Or.inl rfl) (.int .i64 (room : Int))
  have m2 := m1.setCell (p := ⟨R, 1, none⟩) (Or.inl rfl) (.string (strOfNums (allF (l'.take s'))))
  have hm := m2.setCell (p := ⟨R, 2, none⟩) (Or.inl rfl) (.string (strOfNums (allF (l'.drop s'))))
  exact ⟨h.j.moved hm (fun e => h.hRj e.symm) (fun e => h.hRg e.symm) (fun k hk e => by have := h.hR3; omega), b2, Kd.V_kept h.st hm.kept (fun k hk e => hk.2.2.2 e), h.hN, h.hgj, h.hg, h.hR, h.hR3, h.hRg, h.hRj, Moved.from_below h.below hm (fun k hk => by have := h.hR; omega) h.below.size, Nat.le_trans h.hs hm.size, h.few⟩
theorem Ahead.moved (h : Ahead w wr N gj g R room s n l l' s' v sc) (hj : JAt N w1 gj g room l' s') (hm : Moved wr w1 (JSet N gj g)) (hf : (allF l').length ≤ 130 + 26 * (n + 1)) : PlayJ w w1 N gj g R room s' (n + 1) l' v sc :=
  ⟨hj, (hm.kept.2 R (blk_lt h.r) (fun hS => by have h1 := h.hRj; have h2 := h.hRg; have h3 := h.hR3; rcases hS with e | e | e <;> omega)).trans h.r, Kd.V_kept h.st hm.kept (fun k hk hS => by rcases hS with e | e | e <;> omega), h.hN, h.hgj, h.hg, h.hR, h.hR3, h.hRg, h.hRj,
    Moved.from_below h.below hm (fun k hk => by have h1 := h.hgj; have h2 := h.hg; have h3 := h.hN; rcases hk with e | e | e <;> omega) h.below.size, Nat.le_trans h.hs hm.size, hf⟩
/-- Where nothing turned. -/
theorem Ahead.same (h : Ahead w wr N gj g R room s n l l s v sc) (hb : Below wr.heap.size wr w1) : PlayJ w w1 N gj g R room s (n + 1) l v sc := by
  have k := h.next hb
  exact ⟨k.j, k.r, k.st, k.hN, k.hgj, k.hg, k.hR, k.hR3, k.hRg, k.hRj, k.below, k.hs, by have := k.few; omega⟩
end
/-- How the second reading's texts are called. -/
structure RefIs (l : List (List Int)) (s : Nat) (SA SB : ByteArray) : Prop where
  a : strOfNums (allF (l.take s)) = SA
  b : strOfNums (allF (l.drop s)) = SB
theorem ret_ref {room x : Int} {l : List (List Int)} {s : Nat} {SA SB : ByteArray} {e : Ending} (h : RefIs l s SA SB) (he : e = .returned (.tuple #[refD room l s, .int .i64 x])) : e = .returned (.tuple #[.agg #[.int .i64 room, .string SA, .string SB], .int .i64 x]) := by
  rw [he, ← h.a, ← h.b]
theorem PlayJ.storeR {w wr : World} {N gj g R room s n : Nat} {l : List (List Int)} {v : Value} {sc : List S87} (h : PlayJ w wr N gj g R room s n l v sc) {l' : List (List Int)} {s' : Nat} {SA SB : ByteArray} (hr : RefIs l' s' SA SB) : Ahead w (((wr.setCell ⟨R, 0, none⟩ (.int .i64 (room : Int))).setCell ⟨R, 1, none⟩ (.string SA)).setCell ⟨R, 2, none⟩ (.string SB)) N gj g R room s n l l' s' v sc := by
  rw [← hr.a, ← hr.b]
  exact h.store l' s'
theorem sync_ref {room s : Nat} {l : List (List Int)} (hs : s ≤ l.length) (h9 : (allF l).length ≤ 1048576) :
    ∃ y : Int, Aside0 (∀ W, Calls Try.prog 54 #[refD (room : Int) l s] W fun e w' => e = .returned (.tuple #[refD (room : Int) l l.length, .int .i64 y]) ∧ Below W.heap.size W w') := by
  refine ⟨((strOfNums (allF (l.drop s))).size : Int), Aside0.mk (fun W => ?_)⟩
  have h := ref_sync (room : Int) (strOfNums (allF (l.take s))) (strOfNums (allF (l.drop s))) (by rw [size_split]; exact h9) W
  rw [str_append, allF_split] at h
  unfold refD
  rw [List.take_length, List.drop_length]
  exact h
theorem crash_at {N : Nat} {w : World} {gj g room s m : Nat} {l : List (List Int)} (keep : Int) (h : JAt N w gj g room l s) (hN : N ≤ w.heap.size) (h9 : (allF l).length ≤ 900000) (hm : fit l (leftOf l s keep) = m) : Calls Try.prog 79 #[.pointer (some ⟨gj, 0, none⟩), .int .i64 keep] w fun e w' =>
    e = .returned (.int .i64 ((l.length : Int) - (m : Int))) ∧ JAt N w' gj g room (l.take m) m ∧ Moved w w' (JSet N gj g) := by
  have k := jcrash_any keep h hN h9
  rw [hm] at k
  exact k
end Go.Proofs.Ytbcienbnhchdeaa.Hand

/- early (86): the script's first steps, cut. UNDER WAY: the round is wanting. -/
namespace Go.Proofs.Ytbcienbnhchdeaa.Hand
open Go Go.RowKit Go.Proofs.YtbcienbnhchdeaaW.PrintLast Go.Proofs.YtbcienbnhchdeaaW.PrintWords Go.Proofs.YtbcienbnhchdeaaW.PrintMore Print
set_option linter.unusedVariables false
set_option linter.unusedSimpArgs false
attribute [local go_sem] max2_int min2_int max_two min_two
/-- A step, read, with what it leads to. -/
theorem step6_F {w : World} {b : Nat} {ok : Nat → Prop} {A : Option Addr} {c : Nat} {l : List S87} (h : Kd.V k87 87 w b ok (.slice A l.length c) l) {n : Nat} (hn : n < l.length) :
    ∃ ad A2 c2 A3 c3, A = some ad ∧ w.cell? (ad.add (n * 4)) = some (.int .i64 (l[n]'hn).f0) ∧ w.cell? (ad.add (n * 4 + 1)) = some (.int .i64 (l[n]'hn).f1) ∧ w.cell? (ad.add (n * 4 + 2)) = some (.slice A2 (l[n]'hn).f2.length c2) ∧ w.cell? (ad.add (n * 4 + 3)) = some (.slice A3 (l[n]'hn).f3.length c3) ∧ (l[n]'hn).f2.length ≤ c2 ∧ Kd.F (Kd.int .u8) w ok A2 (l[n]'hn).f2.length (l[n]'hn).f2 ∧ (l[n]'hn).f3.length ≤ c3 ∧ Kd.F KS w ok A3 (l[n]'hn).f3.length (l[n]'hn).f3 := by
  obtain ⟨ad, e, hc⟩ := (Kd.F_rows (Kd.V_F h)).2.2 (by omega)
  obtain ⟨cs, hl, hK, hcell⟩ := hc n (l[n]'hn) (List.getElem?_eq_getElem hn)
  obtain ⟨A2, c2, A3, c3, rfl, h1, h2, h3, h4⟩ := k87_openF hK
  have h5 : k87.sz = 4 := rfl
  rw [h5] at hcell
  exact ⟨ad, A2, c2, A3, c3, e, hcell 0 _ rfl, hcell 1 _ rfl, hcell 2 _ rfl, hcell 3 _ rfl, h1, h2, h3, h4⟩
/-- A row of a row, read, with what it leads to. -/
theorem row_F {w : World} {ok : Nat → Prop} {A : Option Addr} {L : List (List Int)} (h : Kd.F KS w ok A L.length L) {n : Nat} (hn : n < L.length) :
    ∃ ad Ai ci, A = some ad ∧ w.cell? (ad.add n) = some (.slice Ai (L[n]'hn).length ci) ∧ (L[n]'hn).length ≤ ci ∧ Kd.F (Kd.int .u8) w ok Ai (L[n]'hn).length (L[n]'hn) := by
  obtain ⟨ad, e, hc⟩ := (Kd.F_rows h).2.2 (by omega)
  obtain ⟨cs, hl, hK, hcell⟩ := hc n (L[n]'hn) (List.getElem?_eq_getElem hn)
  obtain ⟨Ai, ci, rfl, h1, h2⟩ := Kd.FK_slice_open hK
  have h5 : KS.sz = 1 := rfl
  rw [h5] at hcell
  have h6 := hcell 0 _ rfl
  rw [Nat.mul_one, Nat.add_zero] at h6
  exact ⟨ad, Ai, ci, e, h6, h1, h2⟩
/-- The first elements, with what they lead to. -/
theorem F_first20 {W : World} {ok : Nat → Prop} {A : Option Addr} {p : List Int} (h : Kd.F (Kd.int .u8) W ok A p.length p) : Kd.F (Kd.int .u8) W ok A (min p.length 20) (p.take 20) := by
  refine Kd.F_imp h (fun W' hC => ?_)
  have e : p.take 20 = p.take (min p.length 20) := by
    by_cases h : p.length ≤ 20
    · rw [List.take_of_length_le h, Nat.min_eq_left h, List.take_length]
    · rw [Nat.min_eq_right (by omega)]
  have k := C_first hC (min p.length 20) (by omega)
  rw [← e] at k
  have e2 : (p.take 20).length = min p.length 20 := by rw [List.length_take]; omega
  rw [← e2]
  exact k
theorem row20_FK {W : World} {ok : Nat → Prop} {A : Option Addr} {c : Nat} {p : List Int} (hc : min p.length 20 ≤ c) (h : Kd.F (Kd.int .u8) W ok A p.length p) : Kd.FK KS W ok (p.take 20) [.slice A (min p.length 20) c] := by
  have e : (p.take 20).length = min p.length 20 := by rw [List.length_take]; omega
  have k := F_first20 h
  have k2 := @Kd.FK_slice_mk _ (Kd.int .u8) 5 c ok W A (p.take 20) (by rw [e]; exact hc) (by rw [e]; exact k)
  rw [e] at k2
  exact k2
theorem cut_FK {W : World} {ok : Nat → Prop} (z : S87) {A2 A3 : Option Addr} {c2 c3 n2 n3 : Nat} (h2 : n2 = (cut6 z).f2.length) (l2 : n2 ≤ c2) (g2 : Kd.F (Kd.int .u8) W ok A2 n2 (cut6 z).f2) (h3 : n3 = (cut6 z).f3.length) (l3 : n3 ≤ c3) (g3 : Kd.F KS W ok A3 n3 (cut6 z).f3) :
    Kd.FK k87 W ok (cut6 z) [.int .i64 z.f0, .int .i64 z.f1, .slice A2 n2 c2, .slice A3 n3 c3] := by
  subst h2 h3
  exact k87_mkF W ok (cut6 z) l2 g2 l3 g3
theorem info87 : (Try.prog.info? 87).map (fun i => (i.zero, i.size, i.bytes)) = some (some (.agg #[.int .i64 0, .int .i64 0, .slice none 0 0, .slice none 0 0]), 4, 64) := by kernel_rfl
/-- A step's entries cut so far. -/
structure IRel (P : Nat → Prop) (w wb wq : World) (v : Value) (xs : List (List Int)) : Prop where
  row : Kd.N KS 22 wq wb.heap.size (fun k => (P k ∧ k < w.heap.size) ∨ wb.heap.size ≤ k) v xs
  below : Below wb.heap.size wb wq
/-- The steps cut so far. -/
structure ERel (P : Nat → Prop) (w wr : World) (v : Value) (xs : List S87) : Prop where
  row : Kd.N k87 87 wr w.heap.size (fun k => P k ∨ w.heap.size ≤ k) v xs
  below : Below w.heap.size w wr
set_option maxRecDepth 100000 in
set_option maxHeartbeats 2000000 in
theorem early6_any (P : Nat → Prop) (A : Option Addr) (c : Nat) (l : List S87) (w : World) (h : Kd.V k87 87 w w.heap.size P (.slice A l.length c) l) :
    Calls Try.prog 86 #[.slice A l.length c] w fun e w' => ∃ A' c', e = .returned (.slice A' (early6 l).length c') ∧ Kd.V k87 87 w' 0 (fun k => (P k ∨ w.heap.size ≤ k) ∧ k < w'.heap.size) (.slice A' (early6 l).length c') (early6 l) ∧ Below w.heap.size w w' := by
  have H := Aside0.mk (Kd.V_bound h)
  have hl63 : l.length ≤ 9223372036854775807 := (Kd.V_reads' h).2.2.2.1
  clear h
  have HM0 := Lib.hid (show ERel P w w (.slice none 0 0) ((l.take 0).map cut6) from ⟨Kd.N_nil _ _ _ _ _, Below.refl _ _⟩)
  go_enter Try.func86, Try.ntmps86
  go_wp2
  go_loopw [3, 4] (fun a i wr => ∃ (n : Nat), n ≤ l.length ∧ n ≤ 40 ∧ i = .int .i64 (n : Int) ∧ Hid (ERel P w wr a ((l.take n).map cut6))) (fun _ i _ => l.length - (intOf i).toNat)
  case atStart => exact ⟨0, by omega, by omega, rfl, HM0⟩
  case round =>
    obtain ⟨n, hn, hn4, rfl, HC⟩ := hrel
    clear HM0
    by_cases hlt : n < l.length ∧ n < 40
    · obtain ⟨wo, rfl⟩ : ∃ wo, wo = wr := ⟨_, rfl⟩
      obtain ⟨hl1, hl2⟩ := hlt
      obtain ⟨ad, A2, c2, A3, c3, rfl, k0, k1, k2, k3, m2, C2, m3, C3⟩ := step6_F (Kd.V_below H.out HC.out.below) hl1
      have HC2 := Aside0.mk C2
      have HC3 := Aside0.mk C3
      obtain ⟨z, hz⟩ : ∃ z, l[n]'hl1 = z := ⟨_, rfl⟩
      rw [hz] at k0 k1 k2 k3 m2 m3 HC2 HC3
      have HZ := Aside0.mk hz
      have hm0 : (if (20 : Int) < (z.f2.length : Int) then (20 : Int) else (z.f2.length : Int)) = ((min z.f2.length 20 : Nat) : Int) := min_first z.f2 20
      have hd1 : decide ((n : Int) < 40) = true := by simp; omega
      have j1 : wo.cell? ⟨(ad.add (n * 4)).block, (ad.add (n * 4)).off + 1, none⟩ = some (.int .i64 z.f1) := by rw [← add_field _ _ 1 (by omega)]; exact k1
      have j2 : wo.cell? ⟨(ad.add (n * 4)).block, (ad.add (n * 4)).off + 2, none⟩ = some (.slice A2 z.f2.length c2) := by rw [← add_field _ _ 2 (by omega)]; exact k2
      have j3 : wo.cell? ⟨(ad.add (n * 4)).block, (ad.add (n * 4)).off + 3, none⟩ = some (.slice A3 z.f3.length c3) := by rw [← add_field _ _ 3 (by omega)]; exact k3
      clear C2 C3 hz k1 k2 k3
      go_wp2
      have hbx := heap_alloc_new wo (.cells #[.int .i64 z.f0, .int .i64 z.f1, .slice A2 (min z.f2.length 20) c2, .slice A3 z.f3.length c3] 87)
      have hbw := below_alloc (Below.refl wo.heap.size wo) (.cells #[.int .i64 z.f0, .int .i64 z.f1, .slice A2 (min z.f2.length 20) c2, .slice A3 z.f3.length c3] 87)
      have HCB := Lib.hid (show ERel P w _ u3 ((l.take n).map cut6) from ⟨Kd.N_below HC.out.row hbw, below_step HC.out.below hbw⟩)
      have HBX := Aside0.mk hbx
      have HBW := Aside0.mk hbw
      clear hbx hbw
      have WLB := Aside0.mk (show w.heap.size ≤ (wo.alloc (.cells #[.int .i64 z.f0, .int .i64 z.f1, .slice A2 (min z.f2.length 20) c2, .slice A3 z.f3.length c3] 87)).heap.size by have := HCB.out.below.size; exact this)
      generalize wo.alloc (.cells #[.int .i64 z.f0, .int .i64 z.f1, .slice A2 (min z.f2.length 20) c2, .slice A3 z.f3.length c3] 87) = wb at *
      have HI0 := Lib.hid (show IRel P w wb wb (.slice none 0 0) ((z.f3.take 0).map (·.take 20)) from ⟨Kd.N_nil _ _ _ _ _, Below.refl _ _⟩)
      go_loopw [6, 7] (fun a i wq => ∃ (k : Nat), k ≤ z.f3.length ∧ k ≤ 5 ∧ i = .int .i64 (k : Int) ∧ Hid (IRel P w wb wq a ((z.f3.take k).map (·.take 20)))) (fun _ i _ => z.f3.length - (intOf i).toNat)
      case atStart => exact ⟨0, by omega, by omega, rfl, HI0⟩
      case round =>
        obtain ⟨k, hk, hk5, rfl, HI⟩ := hrel
        clear HI0
        have hb3 := blk_below HBX.out HI.out.below
        have x3 := (blk_cell hb3 3).trans (show _ = some (.slice A3 z.f3.length c3) from rfl)
        by_cases hkk : k < z.f3.length ∧ k < 5
        · obtain ⟨hk1, hk2⟩ := hkk
          have hd2 : decide ((k : Int) < 5) = true := by simp; omega
          have hd3 : decide ((k : Int) < (z.f3.length : Int)) = true := by simp; omega
          obtain ⟨ad3, Ai, ci, rfl, hrc, hci, hFi⟩ := row_F (Kd.F_below HC3.out (below_step HBW.out HI.out.below)) hk1
          have HFI := Aside0.mk hFi
          clear hFi
          obtain ⟨p, hpe⟩ : ∃ p, z.f3[k]'hk1 = p := ⟨_, rfl⟩
          have HPE := Aside0.mk hpe
          rw [hpe] at hrc hci HFI
          clear hpe
          have hm3 : (if (20 : Int) < (p.length : Int) then (20 : Int) else (p.length : Int)) = ((min p.length 20 : Nat) : Int) := min_first p 20
          go_wp2
          have hcc : min p.length 20 ≤ ci := by omega
          have RC := Aside0.mk hrc
          have X3 := Aside0.mk x3
          refine start_ (n := 17) (S := fun w' => w'.cell? ⟨wo.heap.size, 3, none⟩ = some (.slice (some ad3) z.f3.length c3) ∧ w'.cell? (ad3.add k) = some (.slice Ai p.length ci)) (ds := [15]) #[false, false, false, false, false, false, false, false, false, false, false, false, false, false, false, false, false] (by kernel_rfl) rfl rfl ⟨(pw_cell_below (below_drew (Below.refl _ _)) X3.out), (pw_cell_below (below_drew (Below.refl _ _)) RC.out)⟩ (fun hHeld => ?_)
          refine pure_ (i := 0) (N := some 41) (v := ?_) (a' := ?_) #[true, false, false, false, false, false, false, false, false, false, false, false, false, false, false, false, false] rfl rfl (by kernel_rfl) (fun _ _ _ h => h) (Or.inl ⟨by rfl, ?_⟩) ?_ ?_
          rotate_left
          · intro w'
            go_simp
            with_reducible rfl
          rotate_left
          · simp only [Act.put, List.setIfInBounds_toArray, List.set_cons_zero, List.set_cons_succ, i64_w, i32_w]
            rfl
          refine pure_ (i := 1) (N := some 42) (v := ?_) (a' := ?_) #[true, true, false, false, false, false, false, false, false, false, false, false, false, false, false, false, false] rfl rfl (by kernel_rfl) (fun _ _ _ h => h) (Or.inl ⟨by rfl, ?_⟩) ?_ ?_
          rotate_left
          · intro w'
            go_simp
            with_reducible rfl
          rotate_left
          · simp only [Act.put, List.setIfInBounds_toArray, List.set_cons_zero, List.set_cons_succ, i64_w, i32_w]
            rfl
          refine pure_ (i := 3) (N := some 44) (v := ?_) (a' := ?_) #[true, true, false, true, false, false, false, false, false, false, false, false, false, false, false, false, false] rfl rfl (by kernel_rfl) (fun _ _ _ h => h) (Or.inl ⟨by rfl, ?_⟩) ?_ ?_
          rotate_left
          · intro w'
            go_simp
            with_reducible rfl
          rotate_left
          · simp only [Act.put, List.setIfInBounds_toArray, List.set_cons_zero, List.set_cons_succ, i64_w, i32_w]
            rfl
          refine pure_ (i := 6) (N := some 47) (v := ?_) (a' := ?_) #[true, true, false, true, false, false, true, false, false, false, false, false, false, false, false, false, false] rfl rfl (by kernel_rfl) (fun _ _ _ h => h) (Or.inl ⟨by rfl, ?_⟩) ?_ ?_
          rotate_left
          · intro w'
            go_simp
            with_reducible rfl
          rotate_left
          · simp only [Act.put, List.setIfInBounds_toArray, List.set_cons_zero, List.set_cons_succ, i64_w, i32_w]
            rfl
          refine pure_ (i := 8) (N := some 49) (v := ?_) (a' := ?_) #[true, true, false, true, false, false, true, false, true, false, false, false, false, false, false, false, false] rfl rfl (by kernel_rfl) (fun _ _ _ h => h) (Or.inl ⟨by rfl, ?_⟩) ?_ ?_
          rotate_left
          · intro w'
            go_simp
            with_reducible rfl
          rotate_left
          · simp only [Act.put, List.setIfInBounds_toArray, List.set_cons_zero, List.set_cons_succ, i64_w, i32_w]
            rfl
          refine take_ (i := 2) (N := some 43) (v := ?_) (a' := ?_) #[true, true, true, true, false, false, true, false, true, false, false, false, false, false, false, false, false] rfl rfl (by kernel_rfl) (fun _ _ _ h => h) (Or.inl ⟨by rfl, ?_⟩) hHeld ?_ ?_
          rotate_left
          · rintro w' ⟨s0, s1⟩
            go_simp
            with_reducible rfl
          rotate_left
          · simp only [Act.put, List.setIfInBounds_toArray, List.set_cons_zero, List.set_cons_succ, i64_w, i32_w]
            rfl
          refine pure_ (i := 4) (N := some 45) (v := ?_) (a' := ?_) #[true, true, true, true, true, false, true, false, true, false, false, false, false, false, false, false, false] rfl rfl (by kernel_rfl) (fun _ _ _ h => h) (Or.inl ⟨by rfl, ?_⟩) ?_ ?_
          rotate_left
          · intro w'
            go_simp
            with_reducible rfl
          rotate_left
          · simp only [Act.put, List.setIfInBounds_toArray, List.set_cons_zero, List.set_cons_succ, i64_w, i32_w]
            rfl
          refine take_ (i := 5) (N := some 46) (v := ?_) (a' := ?_) #[true, true, true, true, true, true, true, false, true, false, false, false, false, false, false, false, false] rfl rfl (by kernel_rfl) (fun _ _ _ h => h) (Or.inl ⟨by rfl, ?_⟩) hHeld ?_ ?_
          rotate_left
          · rintro w' ⟨s0, s1⟩
            go_simp
            with_reducible rfl
          rotate_left
          · simp only [Act.put, List.setIfInBounds_toArray, List.set_cons_zero, List.set_cons_succ, i64_w, i32_w]
            rfl
          refine take_ (i := 7) (N := some 48) (v := ?_) (a' := ?_) #[true, true, true, true, true, true, true, true, true, false, false, false, false, false, false, false, false] rfl rfl (by kernel_rfl) (fun _ _ _ h => h) (Or.inl ⟨by rfl, ?_⟩) hHeld ?_ ?_
          rotate_left
          · rintro w' ⟨s0, s1⟩
            go_simp
            with_reducible rfl
          rotate_left
          · simp only [Act.put, List.setIfInBounds_toArray, List.set_cons_zero, List.set_cons_succ, i64_w, i32_w]
            rfl
          refine pure_ (i := 9) (N := some 50) (v := ?_) (a' := ?_) #[true, true, true, true, true, true, true, true, true, true, false, false, false, false, false, false, false] rfl rfl (by kernel_rfl) (fun _ _ _ h => h) (Or.inl ⟨by rfl, ?_⟩) ?_ ?_
          rotate_left
          · intro w'
            go_simp
            with_reducible rfl
          rotate_left
          · simp only [Act.put, List.setIfInBounds_toArray, List.set_cons_zero, List.set_cons_succ, i64_w, i32_w]
            rfl
          refine take_ (i := 10) (N := some 51) (v := ?_) (a' := ?_) #[true, true, true, true, true, true, true, true, true, true, true, false, false, false, false, false, false] rfl rfl (by kernel_rfl) (fun _ _ _ h => h) (Or.inl ⟨by rfl, ?_⟩) hHeld ?_ ?_
          rotate_left
          · rintro w' ⟨s0, s1⟩
            go_simp
            with_reducible rfl
          rotate_left
          · simp only [Act.put, List.setIfInBounds_toArray, List.set_cons_zero, List.set_cons_succ, i64_w, i32_w]
            rfl
          refine pure_ (i := 11) (N := some 52) (v := ?_) (a' := ?_) #[true, true, true, true, true, true, true, true, true, true, true, true, false, false, false, false, false] rfl rfl (by kernel_rfl) (fun _ _ _ h => h) (Or.inl ⟨by rfl, ?_⟩) ?_ ?_
          rotate_left
          · intro w'
            go_simp
            with_reducible rfl
          rotate_left
          · simp only [Act.put, List.setIfInBounds_toArray, List.set_cons_zero, List.set_cons_succ, i64_w, i32_w]
            rfl
          refine pure_ (i := 12) (N := some 53) (v := ?_) (a' := ?_) #[true, true, true, true, true, true, true, true, true, true, true, true, true, false, false, false, false] rfl rfl (by kernel_rfl) (fun _ _ _ h => h) (Or.inl ⟨by rfl, ?_⟩) ?_ ?_
          rotate_left
          · intro w'
            go_simp
            with_reducible rfl
          rotate_left
          · simp only [Act.put, List.setIfInBounds_toArray, List.set_cons_zero, List.set_cons_succ, i64_w, i32_w]
            rfl
          refine pure_ (i := 13) (N := some 54) (v := ?_) (a' := ?_) #[true, true, true, true, true, true, true, true, true, true, true, true, true, true, false, false, false] rfl rfl (by kernel_rfl) (fun _ _ _ h => h) (Or.inl ⟨by rfl, ?_⟩) ?_ ?_
          rotate_left
          · intro w'
            go_simp
            with_reducible rfl
          rotate_left
          · simp only [Act.put, List.setIfInBounds_toArray, List.set_cons_zero, List.set_cons_succ, i64_w, i32_w]
            rfl
          refine one_ (i := 14) (N := some 55) #[true, true, true, true, true, true, true, true, true, true, true, true, true, true, true, false, false] rfl rfl (by kernel_rfl) (by decide) (fun K hK => ?_)
          refine value_ (w1 := ?_) (v := ?_) (by rfl) rfl ?_ ?_
          rotate_left 2
          · go_simp
            constructor
            · rfl
            · rfl
          refine hK.out _ _ ⟨pw_cell_below (below_alloc (Below.refl _ _) _) hHeld.1, pw_cell_below (below_alloc (Below.refl _ _) _) hHeld.2⟩ (fun hHeld => ?_)
          clear hK K
          refine norm_ (a' := ?_) ?_ ?_
          rotate_left
          · show Act.put _ (some 55) _ = _
            simp only [Act.put, List.setIfInBounds_toArray, List.set_cons_zero, List.set_cons_succ, i64_w, i32_w]
            rfl
          refine last_ (i := 15) (N := some 56) #[true, true, true, true, true, true, true, true, true, true, true, true, true, true, true, true, false] rfl rfl (by kernel_rfl) (by decide) (fun K hK => ?_)
          refine Kd.N_append_step KS (w0 := wb) (W := wr.drew) wb.heap.size (by rfl) (.tmp 41) (.tmp 55) 65 22 (.slice none 0 0) 24 (by rfl) Try.underlying65 info22' rfl (by decide) (by omega) u6 ((z.f3.take k).map (·.take 20)) (p.take 20) [.slice Ai (min p.length 20) ci] (fun k => (P k ∧ k < w.heap.size) ∨ wb.heap.size ≤ k) (fun k => P k ∧ k < w.heap.size) (by rfl) (by rfl) ?aP ?aK ?aF ?aO ?aB ?aS ?aL ?_
          case aP => exact row20_FK hcc (by (with_reducible repeat (first | apply Kd.F_alloc | apply Kd.F_drewN | apply Kd.F_drew)); exact HFI.out)
          case aK => intro k' hk'; refine ⟨.inl hk', fun he => ?_⟩; have := Kd.N_base HI.out.row k' he.symm; have := WLB.out; omega
          case aF => intro k' hk'; have h1 := HI.out.below.size; simp at hk'; exact .inr (by omega)
          case aO => (with_reducible repeat (first | apply Kd.N_alloc | apply Kd.N_drewN | apply Kd.N_drew)); exact HI.out.row
          case aB => (repeat (first | (with_reducible first | apply below_alloc | apply pw_below_drewN | apply below_drew) )); exact HI.out.below
          case aS => have h1 := HI.out.below.size; simp; omega
          case aL => rw [List.length_map, List.length_take]; omega
          intro v1 w2 hr hb2 hg hat
          have HI2 := Lib.hid (show IRel P w wb w2 v1 ((z.f3.take k).map (·.take 20) ++ [p.take 20]) from ⟨hr, hb2⟩)
          clear hr hb2 hg hat
          refine hK.out _ _ ?_
          clear hK K
          refine norm_ (a' := ?_) ?_ ?_
          rotate_left
          · show Act.put _ (some 56) _ = _
            simp only [Act.put, List.setIfInBounds_toArray, List.set_cons_zero, List.set_cons_succ, i64_w, i32_w]
            rfl
          refine pure_ (i := 16) (N := some 6) (v := ?_) (a' := ?_) #[true, true, true, true, true, true, true, true, true, true, true, true, true, true, true, true, true] rfl rfl (by kernel_rfl) (fun _ _ _ h => h) (Or.inl ⟨by rfl, ?_⟩) ?_ ?_
          rotate_left
          · intro w'
            go_simp
            with_reducible rfl
          rotate_left
          · simp only [Act.put, List.setIfInBounds_toArray, List.set_cons_zero, List.set_cons_succ, i64_w, i32_w]
            rfl
          refine done_ (by kernel_rfl) ?_
          go_wp2
          go_roundw
          case rel => exact ⟨k + 1, by omega, by omega, by go_num, by have e : (z.f3.take (k + 1)).map (·.take 20) = (z.f3.take k).map (·.take 20) ++ [p.take 20] := (by rw [List.take_succ_eq_append_getElem hk1, List.map_append, HPE.out]; rfl); rw [e]; exact HI2⟩
          case measure => simp [intOf]; omega
        · have HX := Aside0.mk (show (z.f3.take k).map (·.take 20) = (cut6 z).f3 by
            show _ = (z.f3.take 5).map (·.take 20)
            by_cases h5 : k = 5
            · rw [h5]
            · rw [List.take_of_length_le (by omega), List.take_of_length_le (by omega)])
          obtain ⟨xs, hxs⟩ : ∃ xs, (z.f3.take k).map (·.take 20) = xs := ⟨_, rfl⟩
          rw [hxs] at HX HI
          clear hxs
          obtain ⟨A', c', rfl⟩ := Kd.N_slice HI.out.row
          have HCAP := Aside0.mk (Kd.N_reads' HI.out.row).2.1
          have E2 := Aside0.mk (show min z.f2.length 20 = (cut6 z).f2.length by show _ = (z.f2.take 20).length; rw [List.length_take]; omega)
          have E3 := Aside0.mk (show xs.length = (cut6 z).f3.length by rw [HX.out])
          have SZ := Aside0.mk (show w.heap.size ≤ wo.heap.size ∧ wo.heap.size < wb.heap.size ∧ wb.heap.size ≤ wr.heap.size from ⟨HC.out.below.size, blk_lt HBX.out, HI.out.below.size⟩)
          have f3 := blk_frozen hb3 3
          have x0 := (blk_cell hb3 0).trans (show _ = some (.int .i64 z.f0) from rfl)
          have x1 := (blk_cell hb3 1).trans (show _ = some (.int .i64 z.f1) from rfl)
          have x2 := (blk_cell hb3 2).trans (show _ = some (.slice A2 (min z.f2.length 20) c2) from rfl)
          have hbl := blk_lt hb3
          clear hb3
          by_cases h1 : k < z.f3.length
          · have h5 : k = 5 := by omega
            subst h5
            have hd3 : decide ((5 : Int) < (z.f3.length : Int)) = true := by simp; omega
            go_wp2_with (first
              | (at_builtin
                 refine Kd.N_append k87 (w0 := w) (W := wr.setCell ⟨wo.heap.size, 3, none⟩ (.slice A' xs.length c')) w.heap.size rfl (.tmp 59) (.tmp 61) 84 87 (.agg #[.int .i64 0, .int .i64 0, .slice none 0 0, .slice none 0 0]) 64 rfl Try.underlying84 info87 rfl (by decide) (by omega) u3 ((l.take n).map cut6) (cut6 z) [.int .i64 z.f0, .int .i64 z.f1, .slice A2 (min z.f2.length 20) c2, .slice A' xs.length c'] (fun k => P k ∨ w.heap.size ≤ k) (fun k => (P k ∧ k < w.heap.size) ∨ wb.heap.size ≤ k) rfl ?aX ?aP ?aK ?aF ?aO ?aB ?aS ?aL ?_
                 case aX => simp [Act.eval]
                 case aP => exact cut_FK z E2.out (by have := Nat.min_le_left z.f2.length 20; omega) (Kd.F_far (Kd.F_mono (F_first20 (Kd.F_below HC2.out (below_step HBW.out HI.out.below))) (fun k hk => .inl hk)) (fun k hk => by have := SZ.out; rcases hk with hk | hk <;> simp <;> omega) _) E3.out HCAP.out (by rw [← HX.out]; exact Kd.F_far (Kd.N_F HI.out.row) (fun k hk => by have := SZ.out; rcases hk with hk | hk <;> simp <;> omega) _)
                 case aK => intro k' hk'; refine ⟨by have := SZ.out; rcases hk' with hk | hk; exact .inl hk.1; exact .inr (by omega), fun he => ?_⟩; have h1 := Kd.N_base HC.out.row k' he.symm; have h2 := Kd.N_lt HC.out.row k' he.symm; have := SZ.out; rcases hk' with hk | hk <;> omega
                 case aF => intro k' hk'; have h1 := HI.out.below.size; have := SZ.out; simp at hk'; exact .inr (by omega)
                 case aO => exact Kd.N_mono (Kd.N_far (Kd.N_below (Kd.N_bound HC.out.row) (below_step HBW.out HI.out.below)) (fun k hk => by simp; omega) _) (fun k hk => hk.1)
                 case aB => exact Below.setCell (below_step HCB.out.below HI.out.below) (by have := SZ.out; show w.heap.size ≤ wo.heap.size; omega) _
                 case aS => have h1 := HI.out.below.size; have := SZ.out; simp; omega
                 case aL => rw [List.length_map, List.length_take]; omega
                 intro v1 w2 hr hb2 hg hat
                 have HC3' := Lib.hid (show ERel P w w2 v1 ((l.take n).map cut6 ++ [cut6 z]) from ⟨hr, hb2⟩)
                 clear hr hb2 hg hat))
            go_roundw
            case rel => exact ⟨n + 1, by omega, by omega, by go_num, by have e : (l.take (n + 1)).map cut6 = (l.take n).map cut6 ++ [cut6 z] := (by rw [List.take_succ_eq_append_getElem hl1, List.map_append, HZ.out]; rfl); rw [e]; exact HC3'⟩
            case measure => simp [intOf]; omega
          · have h5 : k = z.f3.length := by omega
            subst h5
            clear h1
            go_wp2_with (first
              | (at_builtin
                 refine Kd.N_append k87 (w0 := w) (W := wr.setCell ⟨wo.heap.size, 3, none⟩ (.slice A' xs.length c')) w.heap.size rfl (.tmp 59) (.tmp 61) 84 87 (.agg #[.int .i64 0, .int .i64 0, .slice none 0 0, .slice none 0 0]) 64 rfl Try.underlying84 info87 rfl (by decide) (by omega) u3 ((l.take n).map cut6) (cut6 z) [.int .i64 z.f0, .int .i64 z.f1, .slice A2 (min z.f2.length 20) c2, .slice A' xs.length c'] (fun k => P k ∨ w.heap.size ≤ k) (fun k => (P k ∧ k < w.heap.size) ∨ wb.heap.size ≤ k) rfl ?aX ?aP ?aK ?aF ?aO ?aB ?aS ?aL ?_
                 case aX => simp [Act.eval]
                 case aP => exact cut_FK z E2.out (by have := Nat.min_le_left z.f2.length 20; omega) (Kd.F_far (Kd.F_mono (F_first20 (Kd.F_below HC2.out (below_step HBW.out HI.out.below))) (fun k hk => .inl hk)) (fun k hk => by have := SZ.out; rcases hk with hk | hk <;> simp <;> omega) _) E3.out HCAP.out (by rw [← HX.out]; exact Kd.F_far (Kd.N_F HI.out.row) (fun k hk => by have := SZ.out; rcases hk with hk | hk <;> simp <;> omega) _)
                 case aK => intro k' hk'; refine ⟨by have := SZ.out; rcases hk' with hk | hk; exact .inl hk.1; exact .inr (by omega), fun he => ?_⟩; have h1 := Kd.N_base HC.out.row k' he.symm; have h2 := Kd.N_lt HC.out.row k' he.symm; have := SZ.out; rcases hk' with hk | hk <;> omega
                 case aF => intro k' hk'; have h1 := HI.out.below.size; have := SZ.out; simp at hk'; exact .inr (by omega)
                 case aO => exact Kd.N_mono (Kd.N_far (Kd.N_below (Kd.N_bound HC.out.row) (below_step HBW.out HI.out.below)) (fun k hk => by simp; omega) _) (fun k hk => hk.1)
                 case aB => exact Below.setCell (below_step HCB.out.below HI.out.below) (by have := SZ.out; show w.heap.size ≤ wo.heap.size; omega) _
                 case aS => have h1 := HI.out.below.size; have := SZ.out; simp; omega
                 case aL => rw [List.length_map, List.length_take]; omega
                 intro v1 w2 hr hb2 hg hat
                 have HC3' := Lib.hid (show ERel P w w2 v1 ((l.take n).map cut6 ++ [cut6 z]) from ⟨hr, hb2⟩)
                 clear hr hb2 hg hat))
            go_roundw
            case rel => exact ⟨n + 1, by omega, by omega, by go_num, by have e : (l.take (n + 1)).map cut6 = (l.take n).map cut6 ++ [cut6 z] := (by rw [List.take_succ_eq_append_getElem hl1, List.map_append, HZ.out]; rfl); rw [e]; exact HC3'⟩
            case measure => simp [intOf]; omega
    · have e : (l.take n).map cut6 = early6 l := by
        unfold early6
        congr 1
        by_cases h : n = 40
        · rw [h]
        · rw [List.take_of_length_le (by omega), List.take_of_length_le (by omega)]
      rw [e] at HC
      obtain ⟨A', c', rfl⟩ := Kd.N_slice HC.out.row
      have HV := Aside0.mk (Kd.V_bound (Kd.N_V (base' := 0) HC.out.row))
      have HB := Aside0.mk HC.out.below
      clear HC e
      by_cases h1 : n < l.length
      · have h40 : n = 40 := by omega
        subst h40
        go_wp2
        go_ret
        exact ⟨A', c', rfl, HV.out, HB.out⟩
      · obtain rfl : n = l.length := by omega
        clear hlt h1
        go_wp2
        go_ret
        exact ⟨A', c', rfl, HV.out, HB.out⟩
end Go.Proofs.Ytbcienbnhchdeaa.Hand

/- A journal, in whatever row: the law's contract. -/
namespace Go.Proofs.Ytbcienbnhchdeaa.Hand
open Go Go.RowKit Go.Proofs.YtbcienbnhchdeaaW.PrintLast Go.Proofs.YtbcienbnhchdeaaW.PrintWords Go.Proofs.YtbcienbnhchdeaaW.PrintMore Print FrameC FrameL FrameS FrameR JMath
set_option linter.unusedVariables false
set_option linter.unusedSimpArgs false
attribute [local go_sem] max2_int min2_int max_two min_two
/-- What is read lies elsewhere than the second reading's block. -/
theorem F_store {α : Type} {d : Kd α} {W : World} {ok : Nat → Prop} {A : Option Addr} {n : Nat} {xs : List α} {R : Nat} (h : Kd.F d W ok A n xs) (hR : ∀ k, ok k → k ≠ R) (u0 u1 u2 : Value) (o : Obj) : Kd.C d ((((W.setCell ⟨R, 0, none⟩ u0).setCell ⟨R, 1, none⟩ u1).setCell ⟨R, 2, none⟩ u2).alloc o) A n xs :=
  Kd.F_now (Kd.F_alloc (Kd.F_far (Kd.F_far (Kd.F_far h (p := ⟨R, 0, none⟩) hR u0) (p := ⟨R, 1, none⟩) hR u1) (p := ⟨R, 2, none⟩) hR u2) o)
/-- All entries may be, or there is a first one that may not. -/
theorem all_or_first {L : List (List Int)} (h : ∀ p ∈ L, okB p = true ∧ p.length ≤ 20) : (∀ q ∈ L, OkP q) ∨ ∃ (K : Nat) (hK : K < L.length), L[K]'hK = [] ∧ ∀ (n : Nat) (hn : n < L.length), n < K → OkP (L[n]'hn) := by
  induction L with
  | nil => exact .inl (by simp)
  | cons p L ih =>
    by_cases hp : p = []
    · exact .inr ⟨0, by simp, by simpa using hp, fun n hn h => by omega⟩
    · have hk : OkP p := ⟨(h p List.mem_cons_self).1, by cases p with | nil => exact absurd rfl hp | cons _ _ => simp, by have := (h p List.mem_cons_self).2; omega⟩
      rcases ih (fun q hq => h q (List.mem_cons_of_mem _ hq)) with hi | ⟨K, hK, h1, h2⟩
      · exact .inl (fun q hq => by rcases List.mem_cons.1 hq with rfl | hq; exact hk; exact hi q hq)
      · refine .inr ⟨K + 1, by simp; omega, by simpa using h1, fun n hn h => ?_⟩
        match n, h with
        | 0, _ => exact hk
        | n + 1, h => exact h2 n (by simpa using hn) (by omega)
theorem few_frames : ∀ {L : List (List Int)}, (∀ p ∈ L, p.length ≤ 20) → (allF L).length ≤ 26 * L.length
  | [], _ => by simp [allF_nil]
  | p :: L, h => by
    rw [allF_cons, List.length_append, frameOf_len]
    have h1 := h p List.mem_cons_self
    have h2 := few_frames (L := L) (fun q hq => h q (List.mem_cons_of_mem _ hq))
    simp only [List.length_cons]
    omega
set_option maxRecDepth 100000 in
set_option maxHeartbeats 40000000 in
theorem journalPlays_any (a : Int) (A0 : Option Addr) (c0 : Nat) (l0 : List S87) (w : World) (h0 : Kd.C k87 w A0 l0.length l0) (hc0 : l0.length ≤ c0) (ok0 : ∀ z ∈ l0, okS6 z) :
    Calls Try.prog 25 #[.int .i64 a, .slice A0 l0.length c0] w fun e w' => e = .returned (.bool true) ∧ Below w.heap.size w w' := by
  obtain ⟨room, hro⟩ : ∃ room, roomOf a = room := ⟨_, rfl⟩
  have hmost : room ≤ 1048576 := by rw [← hro]; unfold roomOf; split <;> (try split) <;> omega
  have hS := steps6_V h0 hc0
  have hE := early6_ok ok0
  have hel := hE.1
  have HS := Aside0.mk hS
  have HRO := Aside0.mk hro
  clear hS ok0 h0 hro
  obtain ⟨sc, hl⟩ : ∃ sc, early6 l0 = sc := ⟨_, rfl⟩
  rw [hl] at hE hel
  have HL := Aside0.mk hl
  have HE := Aside0.mk hE.2
  clear hl hE
  go_enter Try.func25, Try.ntmps25
  go_wp2_with (first
    | (go_at_call 73; refine (lives6_any _).mono ?_; rintro e w1 ⟨rfl, hb⟩; have HB := Aside0.mk hb; clear hb)
    | (go_at_call 37; refine (new_any _ _ (fun _ => False)).mono ?_; rintro e w2 ⟨rfl, hd, hb⟩; rw [HRO.out] at hd; have HD := Aside0.mk hd; have HN := Aside0.mk hd.lt; have HB2 := Aside0.mk (below_step HB.out hb); clear hd hb)
    | (go_at_call 74; refine (jOpen_fresh HD.out).mono ?_; rintro e w3 ⟨rfl, hj, hm⟩; have HJ := Aside0.mk hj; have HJL := Aside0.mk (blk_lt hj.j); have HB3 := Aside0.mk (show Below w.heap.size w w3 from Moved.from_below HB2.out hm (fun k hk => by subst hk; exact HB.out.size) HB2.out.size); clear hj hm HD)
    | (go_at_call 50; refine (ref_new _ _).mono ?_; rintro e w4 ⟨he, hb⟩; rw [HRO.out] at he; subst he; have HJ4 := Aside0.mk (HJ.out.below hb); have HS4 := Aside0.mk hb.size; have HB4 := Aside0.mk (below_step HB3.out hb); clear hb HJ)
    | (go_at_call 86; refine (early6_any (fun k => k < w.heap.size) A0 c0 l0 _ ?hv).mono ?_; (case hv => exact Kd.V_below HS.out (below_alloc HB4.out _)); rintro e w5 ⟨A3, c3, he, hV, hb⟩; rw [HL.out] at he hV; subst he; have HC := Lib.hid (show PlayJ w w5 w5.heap.size w2.heap.size w1.heap.size w4.heap.size room 0 0 [] (.slice A3 sc.length c3) sc from ⟨(HJ4.out.below (below_step (below_alloc (Below.refl _ _) _) hb)).at_ _, (hb.block _ (by simp)).trans (heap_alloc_new w4 _), Kd.V_mono hV (fun k hk => by have h1 := hk.1; have h2 := hk.2; have := HB.out.size; have := HN.out; have := HJL.out; have := HS4.out; have := HB2.out.size; have := HB4.out.size; simp at h1; exact ⟨h2, by omega, by omega, by omega⟩), (below_step (below_alloc HB4.out _) hb).size, HB2.out.size, HB.out.size, HB4.out.size, by have := hb.size; simp at this; omega, by have := HN.out; have := HJL.out; have := HS4.out; omega, by have := HN.out; have := HJL.out; have := HS4.out; omega, below_step (below_alloc HB4.out _) hb, Nat.le_refl _, by show (allF []).length ≤ 130 + 26 * 0; rw [allF_nil]; simp⟩); clear hV hb HJ4 HB4 HB3 HB2 HN HJL HS4))
  generalize w5.heap.size = N at *
  generalize w2.heap.size = gj at *
  generalize w1.heap.size = g at *
  generalize w4.heap.size = R at *
  go_loopw [8] (fun i wr => ∃ n : Nat, n ≤ sc.length ∧ i = .int .i64 (n : Int) ∧ Hid (∃ l s, PlayJ w wr N gj g R room s n l (.slice A3 sc.length c3) sc)) (fun i _ => sc.length - (intOf i).toNat)
  case atStart => exact ⟨0, by omega, rfl, Lib.hid ⟨[], 0, HC.out⟩⟩
  case round =>
    obtain ⟨n, hn, rfl, HC2⟩ := hrel
    clear HC
    obtain ⟨l, s, hx⟩ := HC2.out
    have HX := Lib.hid hx
    clear hx HC2
    by_cases hlt : n < sc.length
    · obtain ⟨ad, A2, c2, A4, c4, rfl, k0, k1, k2, k3, hl2, F2, hl3, F3⟩ := step6_F HX.out.st hlt
      have hsm := HE.out _ (List.getElem_mem hlt)
      obtain ⟨z, hz⟩ : ∃ z, sc[n]'hlt = z := ⟨_, rfl⟩
      rw [hz] at k0 k1 k2 k3 hl2 hl3 F2 F3 hsm
      clear hz
      have hx1 : wr.cell? ⟨(ad.add (n * 4)).block, (ad.add (n * 4)).off + 1, none⟩ = some (.int .i64 z.f1) := by rw [← add_field _ _ 1 (by omega)]; exact k1
      have hx2 : wr.cell? ⟨(ad.add (n * 4)).block, (ad.add (n * 4)).off + 2, none⟩ = some (.slice A2 z.f2.length c2) := by rw [← add_field _ _ 2 (by omega)]; exact k2
      have hx3 : wr.cell? ⟨(ad.add (n * 4)).block, (ad.add (n * 4)).off + 3, none⟩ = some (.slice A4 z.f3.length c4) := by rw [← add_field _ _ 3 (by omega)]; exact k3
      have hx0 := k0
      clear k0 k1 k2 k3
      obtain ⟨K, hK6, hK⟩ := small_rem z.f0 6 (by omega) (by omega)
      obtain ⟨k, hk⟩ : ∃ k : Int, (K : Int) = k := ⟨_, rfl⟩
      have HKI := Aside0.mk (show pacesetterlaw06_Step_kind.f z.f0 z.f1 z.f2 z.f3 = some k by unfold pacesetterlaw06_Step_kind.f; rw [hK, hk])
      have hk0 : 0 ≤ k := by omega
      rw [hk] at hK6
      have HF2 := Aside0.mk F2
      have HF3 := Aside0.mk F3
      have HSM := Aside0.mk hsm
      have hlz2 := hsm.len2
      have hlz3 := hsm.few3
      clear F2 F3 hK hsm hk
      go_upto_block 2 with (first | (go_at_call 87; refine (pacesetterlaw06_Step_kind.calls z.f0 z.f1 A2 c2 z.f2 A4 c4 z.f3 k _ (Kd.C_alloc (Kd.F_now HF2.out) _) hl2 (Kd.C_alloc (Kd.F_now HF3.out) _) hl3 HKI.out).mono ?_; rintro e w5 ⟨rfl, hb⟩; have HB5 := Aside0.mk hb; clear hb))
      have HX1 := Lib.hid (HX.out.next (below_step (below_alloc (Below.refl _ _) _) HB5.out))
      have HSB := Aside0.mk ((HB5.out.block wr.heap.size (by simp)).trans (heap_alloc_new wr _))
      have HF25 := Aside0.mk (Kd.F_below HF2.out (below_step (below_alloc (Below.refl _ _) _) HB5.out))
      have HF35 := Aside0.mk (Kd.F_below HF3.out (below_step (below_alloc (Below.refl _ _) _) HB5.out))
      have hSR : wr.heap.size ≠ R := by have := HX.out.hs; have := HX.out.hR3; omega
      have hRS : R ≠ wr.heap.size := hSR.symm
      have hfew := HX.out.few
      have hn40 : n < 40 := by omega
      clear HX HF2 HF3 HB5 hx0 hx1 hx2 hx3
      generalize wr.heap.size = S at *
      go_cut [10] (fun s9 wx => s9 = .bool true ∧ Hid (∃ l s, PlayJ w wx N gj g R room s (n + 1) l (.slice (some ad) sc.length c3) sc))
      case first =>
        obtain ⟨p0, p1, p2, q0, q1, q2, pl⟩ := HX1.out.cells
        have t1 := (blk_cell HSB.out 1).trans rfl
        have t2 := (blk_cell HSB.out 2).trans rfl
        have t3 := (blk_cell HSB.out 3).trans rfl
        have hsl := blk_lt HSB.out
        have hlk : ∀ q ∈ l, OkP q := HX1.out.j.okl
        have hss := HX1.out.j.sl
        have h9 : (allF l).length ≤ 2000 := by omega
        have HLK := Aside0.mk hlk
        have h2ok := HSM.out.ok2
        have H2OK := Aside0.mk h2ok
        have HNR := Aside0.mk (show ∀ k, k < N ∧ k ≠ gj ∧ k ≠ g ∧ k ≠ R → k ≠ R from fun k hk => hk.2.2.2)
        clear hlk h2ok
        rcases (by omega : k = 0 ∨ k = 1 ∨ k = 2 ∨ k = 3 ∨ k = 4 ∨ k = 5) with rfl | rfl | rfl | rfl | rfl | rfl
        · as_aux_lemma =>
          by_cases he0 : z.f2.length = 0
          · have HE0 := Aside0.mk he0
            have hl63 : z.f2.length ≤ 9223372036854775807 := by omega
            clear he0
            go_wp2_with (first | (go_at_call 88; refine (r6_append_no (room : Int) _ _ (Kd.F_now HF25.out) hl2 H2OK.out HE0.out).mono ?_; rintro e w6 ⟨he, hb⟩; subst he; have HX6 := Lib.hid (HX1.out.next hb); have hb6 := hb; obtain ⟨p0, p1, p2, q0, q1, q2, pl⟩ := HX6.out.cells; have hs6 := (hb.block S (blk_lt HSB.out)).trans HSB.out; have t1 := (blk_cell hs6 1).trans rfl; have t2 := (blk_cell hs6 2).trans rfl; have t3 := (blk_cell hs6 3).trans rfl; have hsl := blk_lt hs6; have HF26 := Aside0.mk (Kd.F_below HF25.out hb); have HF36 := Aside0.mk (Kd.F_below HF35.out hb); clear hb hb6 hs6 HSB HX1 HF25 HF35) | (go_at_call 75; refine (jappend_no 1 (.inl ⟨HE0.out, rfl⟩) hl63).mono ?_; rintro e w7 ⟨rfl, nd, rfl⟩; have HX7 := Lib.hid (((HX6.out.store l s).next (below_alloc (Below.refl _ _) (Obj.cells #[.int .i64 (room : Int), .string (strOfNums (allF (l.take s))), .string (strOfNums (allF (l.drop s)))] 48))).same (pw_below_drewN (Below.refl _ _) nd)); clear HX6))
            go_meet
            exact ⟨rfl, Lib.hid ⟨_, _, HX7.out⟩⟩
          · have hp : OkP z.f2 := ⟨H2OK.out, by omega, by omega⟩
            have HP := Aside0.mk hp
            clear hp
            by_cases hfit : (allF l).length + (z.f2.length + 6) ≤ room
            · have HF := Aside0.mk hfit
              have HW := Aside0.mk (show (allF (l ++ [z.f2])).length ≤ 130 + 26 * (n + 1) by rw [allF_snoc_len]; omega)
              clear hfit
              go_wp2_with (first | (go_at_call 88; refine (r6_append_ok (Kd.F_now HF25.out) hl2 HP.out hss hmost HF.out).mono ?_; rintro e w6 ⟨he, hb⟩; subst he; have HX6 := Lib.hid (HX1.out.next hb); have hb6 := hb; obtain ⟨p0, p1, p2, q0, q1, q2, pl⟩ := HX6.out.cells; have hs6 := (hb.block S (blk_lt HSB.out)).trans HSB.out; have t1 := (blk_cell hs6 1).trans rfl; have t2 := (blk_cell hs6 2).trans rfl; have t3 := (blk_cell hs6 3).trans rfl; have hsl := blk_lt hs6; have HF26 := Aside0.mk (Kd.F_below HF25.out hb); have HF36 := Aside0.mk (Kd.F_below HF35.out hb); clear hb hb6 hs6 HSB HX1 HF25 HF35) | (go_at_call 75; refine (jappend_ok ((HX6.out.store (l ++ [z.f2]) s).next (below_alloc (Below.refl _ _) _)).j (F_store HF26.out HNR.out _ _ _ _) hl2 HP.out HF.out ((HX6.out.store (l ++ [z.f2]) s).next (below_alloc (Below.refl _ _) _)).hs).mono ?_; rintro e w7 ⟨rfl, hj, hm⟩; have HX7 := Lib.hid (((HX6.out.store (l ++ [z.f2]) s).next (below_alloc (Below.refl _ _) _)).moved hj hm HW.out); clear HX6))
              go_meet
              exact ⟨rfl, Lib.hid ⟨_, _, HX7.out⟩⟩
            · have HF := Aside0.mk (show room < (allF l).length + (z.f2.length + 6) by omega)
              have h91 : (allF l).length ≤ 1048576 := by omega
              clear hfit
              go_wp2_with (first | (go_at_call 88; refine (r6_append_full (Kd.F_now HF25.out) hl2 HP.out h91 HF.out).mono ?_; rintro e w6 ⟨he, hb⟩; subst he; have HX6 := Lib.hid (HX1.out.next hb); have hb6 := hb; obtain ⟨p0, p1, p2, q0, q1, q2, pl⟩ := HX6.out.cells; have hs6 := (hb.block S (blk_lt HSB.out)).trans HSB.out; have t1 := (blk_cell hs6 1).trans rfl; have t2 := (blk_cell hs6 2).trans rfl; have t3 := (blk_cell hs6 3).trans rfl; have hsl := blk_lt hs6; have HF26 := Aside0.mk (Kd.F_below HF25.out hb); have HF36 := Aside0.mk (Kd.F_below HF35.out hb); clear hb hb6 hs6 HSB HX1 HF25 HF35) | (go_at_call 75; refine (jappend_full ((HX6.out.store l s).next (below_alloc (Below.refl _ _) _)).j (F_store HF26.out HNR.out _ _ _ _) hl2 HP.out HF.out).mono ?_; rintro e w7 ⟨rfl, hb⟩; have HX7 := Lib.hid (((HX6.out.store l s).next (below_alloc (Below.refl _ _) _)).same hb); clear HX6))
              go_meet
              exact ⟨rfl, Lib.hid ⟨_, _, HX7.out⟩⟩
        · as_aux_lemma =>
          by_cases he0 : z.f2.length = 0
          · have HE0 := Aside0.mk he0
            have hl63 : z.f2.length ≤ 9223372036854775807 := by omega
            clear he0
            go_wp2_with (first | (go_at_call 88; refine (r6_append_no (room : Int) _ _ (Kd.F_now HF25.out) hl2 H2OK.out HE0.out).mono ?_; rintro e w6 ⟨he, hb⟩; subst he; have HX6 := Lib.hid (HX1.out.next hb); have hb6 := hb; obtain ⟨p0, p1, p2, q0, q1, q2, pl⟩ := HX6.out.cells; have hs6 := (hb.block S (blk_lt HSB.out)).trans HSB.out; have t1 := (blk_cell hs6 1).trans rfl; have t2 := (blk_cell hs6 2).trans rfl; have t3 := (blk_cell hs6 3).trans rfl; have hsl := blk_lt hs6; have HF26 := Aside0.mk (Kd.F_below HF25.out hb); have HF36 := Aside0.mk (Kd.F_below HF35.out hb); clear hb hb6 hs6 HSB HX1 HF25 HF35) | (go_at_call 75; refine (jappend_no 1 (.inl ⟨HE0.out, rfl⟩) hl63).mono ?_; rintro e w7 ⟨rfl, nd, rfl⟩; have HX7 := Lib.hid (((HX6.out.store l s).next (below_alloc (Below.refl _ _) (Obj.cells #[.int .i64 (room : Int), .string (strOfNums (allF (l.take s))), .string (strOfNums (allF (l.drop s)))] 48))).same (pw_below_drewN (Below.refl _ _) nd)); clear HX6))
            go_meet
            exact ⟨rfl, Lib.hid ⟨_, _, HX7.out⟩⟩
          · have hp : OkP z.f2 := ⟨H2OK.out, by omega, by omega⟩
            have HP := Aside0.mk hp
            clear hp
            by_cases hfit : (allF l).length + (z.f2.length + 6) ≤ room
            · have HF := Aside0.mk hfit
              have HW := Aside0.mk (show (allF (l ++ [z.f2])).length ≤ 130 + 26 * (n + 1) by rw [allF_snoc_len]; omega)
              clear hfit
              go_wp2_with (first | (go_at_call 88; refine (r6_append_ok (Kd.F_now HF25.out) hl2 HP.out hss hmost HF.out).mono ?_; rintro e w6 ⟨he, hb⟩; subst he; have HX6 := Lib.hid (HX1.out.next hb); have hb6 := hb; obtain ⟨p0, p1, p2, q0, q1, q2, pl⟩ := HX6.out.cells; have hs6 := (hb.block S (blk_lt HSB.out)).trans HSB.out; have t1 := (blk_cell hs6 1).trans rfl; have t2 := (blk_cell hs6 2).trans rfl; have t3 := (blk_cell hs6 3).trans rfl; have hsl := blk_lt hs6; have HF26 := Aside0.mk (Kd.F_below HF25.out hb); have HF36 := Aside0.mk (Kd.F_below HF35.out hb); clear hb hb6 hs6 HSB HX1 HF25 HF35) | (go_at_call 75; refine (jappend_ok ((HX6.out.store (l ++ [z.f2]) s).next (below_alloc (Below.refl _ _) _)).j (F_store HF26.out HNR.out _ _ _ _) hl2 HP.out HF.out ((HX6.out.store (l ++ [z.f2]) s).next (below_alloc (Below.refl _ _) _)).hs).mono ?_; rintro e w7 ⟨rfl, hj, hm⟩; have HX7 := Lib.hid (((HX6.out.store (l ++ [z.f2]) s).next (below_alloc (Below.refl _ _) _)).moved hj hm HW.out); clear HX6))
              go_meet
              exact ⟨rfl, Lib.hid ⟨_, _, HX7.out⟩⟩
            · have HF := Aside0.mk (show room < (allF l).length + (z.f2.length + 6) by omega)
              have h91 : (allF l).length ≤ 1048576 := by omega
              clear hfit
              go_wp2_with (first | (go_at_call 88; refine (r6_append_full (Kd.F_now HF25.out) hl2 HP.out h91 HF.out).mono ?_; rintro e w6 ⟨he, hb⟩; subst he; have HX6 := Lib.hid (HX1.out.next hb); have hb6 := hb; obtain ⟨p0, p1, p2, q0, q1, q2, pl⟩ := HX6.out.cells; have hs6 := (hb.block S (blk_lt HSB.out)).trans HSB.out; have t1 := (blk_cell hs6 1).trans rfl; have t2 := (blk_cell hs6 2).trans rfl; have t3 := (blk_cell hs6 3).trans rfl; have hsl := blk_lt hs6; have HF26 := Aside0.mk (Kd.F_below HF25.out hb); have HF36 := Aside0.mk (Kd.F_below HF35.out hb); clear hb hb6 hs6 HSB HX1 HF25 HF35) | (go_at_call 75; refine (jappend_full ((HX6.out.store l s).next (below_alloc (Below.refl _ _) _)).j (F_store HF26.out HNR.out _ _ _ _) hl2 HP.out HF.out).mono ?_; rintro e w7 ⟨rfl, hb⟩; have HX7 := Lib.hid (((HX6.out.store l s).next (below_alloc (Below.refl _ _) _)).same hb); clear HX6))
              go_meet
              exact ⟨rfl, Lib.hid ⟨_, _, HX7.out⟩⟩
        · as_aux_lemma =>
          obtain ⟨SA, SB, HR⟩ : ∃ SA SB, RefIs l l.length SA SB := ⟨_, _, rfl, rfl⟩
          have hll : 7 * l.length ≤ (allF l).length := allF_len7 HLK.out
          have hw0 : IntKind.i64.wrap ((l.length : Int) - (s : Int)) = (l.length : Int) - (s : Int) := IntWalk.i64_in _ (by omega)
          have hw1 : wrap64 ((l.length : Int) - (s : Int)) = (l.length : Int) - (s : Int) := by unfold wrap64; omega
          have hq2 : (((l.length : Int) - (s : Int)) == ((l.length : Int) - (s : Int))) = true := beq_self_eq_true _
          have h91 : (allF l).length ≤ 1048576 := by omega
          go_wp2
          refine start_ (n := 7) (S := fun w' => PlayJ w w' N gj g R room s n l (.slice (some ad) sc.length c3) sc ∧ w'.cell? ⟨R, 0, none⟩ = some (.int .i64 (room : Int)) ∧ w'.cell? ⟨R, 1, none⟩ = some (.string (strOfNums (allF (l.take s)))) ∧ w'.cell? ⟨R, 2, none⟩ = some (.string (strOfNums (allF (l.drop s))))) (ds := []) #[false, false, false, false, false, false, false] (by kernel_rfl) rfl rfl ⟨(HX1.out.next (below_drew (Below.refl _ _))), (HX1.out.next (below_drew (Below.refl _ _))).cells.1, (HX1.out.next (below_drew (Below.refl _ _))).cells.2.1, (HX1.out.next (below_drew (Below.refl _ _))).cells.2.2.1⟩ (fun hHeld => ?_)
          refine take_ (i := 0) (N := some 66) (v := ?_) (a' := ?_) #[true, false, false, false, false, false, false] rfl rfl (by kernel_rfl) (fun _ _ _ h => h) (Or.inl ⟨by rfl, ?_⟩) hHeld ?_ ?_
          rotate_left
          · rintro w' ⟨s0, s1, s2, s3⟩
            go_simp
            with_reducible rfl
          rotate_left
          · simp only [Act.put, List.setIfInBounds_toArray, List.set_cons_zero, List.set_cons_succ, i64_w, i32_w]
            rfl
          refine take_ (i := 3) (N := some 69) (v := ?_) (a' := ?_) #[true, false, false, true, false, false, false] rfl rfl (by kernel_rfl) (fun _ _ _ h => h) (Or.inl ⟨by rfl, ?_⟩) hHeld ?_ ?_
          rotate_left
          · rintro w' ⟨s0, s1, s2, s3⟩
            go_simp
            with_reducible rfl
          rotate_left
          · simp only [Act.put, List.setIfInBounds_toArray, List.set_cons_zero, List.set_cons_succ, i64_w, i32_w]
            rfl
          refine one_ (i := 1) (N := some 67) #[true, true, false, true, false, false, false] rfl rfl (by kernel_rfl) (by decide) (fun K hK => ?_)
          refine goes_ Try.func82 (by kernel_rfl) rfl #[.agg #[.int .i64 (room : Int), .string (strOfNums (allF (l.take s))), .string (strOfNums (allF (l.drop s)))]] (by rfl) rfl rfl (by simp only [List.map_toArray, List.map_cons, List.map_nil]; rfl) ?_
          with_reducible refine (r6_all_of (room : Int) HLK.out h9 _).mono ?_
          rintro e w8 ⟨A8, c8, rfl, hc8, hC8, hb⟩
          refine ⟨_, rfl, ?_⟩
          have HX2 := Lib.hid (hHeld.1.next hb)
          clear hb hC8
          refine hK.out _ _ ⟨HX2.out, HX2.out.cells.1, HX2.out.cells.2.1, HX2.out.cells.2.2.1⟩ (fun hHeld => ?_)
          clear hK K
          refine norm_ (a' := ?_) ?_ ?_
          rotate_left
          · show Act.put _ (some 67) _ = _
            simp only [Act.put, List.setIfInBounds_toArray, List.set_cons_zero, List.set_cons_succ, i64_w, i32_w]
            rfl
          refine pure_ (i := 2) (N := some 68) (v := ?_) (a' := ?_) #[true, true, true, true, false, false, false] rfl rfl (by kernel_rfl) (fun _ _ _ h => h) (Or.inl ⟨by rfl, ?_⟩) ?_ ?_
          rotate_left
          · intro w'
            go_simp
            with_reducible rfl
          rotate_left
          · simp only [Act.put, List.setIfInBounds_toArray, List.set_cons_zero, List.set_cons_succ, i64_w, i32_w]
            rfl
          refine one_ (i := 4) (N := some 70) #[true, true, true, true, true, false, false] rfl rfl (by kernel_rfl) (by decide) (fun K hK => ?_)
          refine goes_ Try.func89 (by kernel_rfl) rfl #[.agg #[.int .i64 (room : Int), .string (strOfNums (allF (l.take s))), .string (strOfNums (allF (l.drop s)))]] (by rfl) rfl rfl (by simp only [List.map_toArray, List.map_cons, List.map_nil]; rfl) ?_
          with_reducible refine (r6_safe_of (room : Int) HLK.out hss h9 _).mono ?_
          rintro e w9 ⟨rfl, hb⟩
          refine ⟨_, rfl, ?_⟩
          have HX3 := Lib.hid (hHeld.1.next hb)
          clear hb
          refine hK.out _ _ ⟨HX3.out, HX3.out.cells.1, HX3.out.cells.2.1, HX3.out.cells.2.2.1⟩ (fun hHeld => ?_)
          clear hK K
          refine norm_ (a' := ?_) ?_ ?_
          rotate_left
          · show Act.put _ (some 70) _ = _
            simp only [Act.put, List.setIfInBounds_toArray, List.set_cons_zero, List.set_cons_succ, i64_w, i32_w]
            rfl
          refine pure_ (i := 5) (N := some 71) (v := ?_) (a' := ?_) #[true, true, true, true, true, true, false] rfl rfl (by kernel_rfl) (fun _ _ _ h => h) (Or.inl ⟨by rfl, ?_⟩) ?_ ?_
          rotate_left
          · intro w'
            go_simp
            with_reducible rfl
          rotate_left
          · simp only [Act.put, List.setIfInBounds_toArray, List.set_cons_zero, List.set_cons_succ, i64_w, i32_w]
            rfl
          refine pure_ (i := 6) (N := some 13) (v := ?_) (a' := ?_) #[true, true, true, true, true, true, true] rfl rfl (by kernel_rfl) (fun _ _ _ h => h) (Or.inl ⟨by rfl, ?_⟩) ?_ ?_
          rotate_left
          · intro w'
            go_simp
            with_reducible rfl
          rotate_left
          · simp only [Act.put, List.setIfInBounds_toArray, List.set_cons_zero, List.set_cons_succ, i64_w, i32_w]
            rfl
          refine done_ (by kernel_rfl) ?_
          have HX5 := Lib.hid hHeld.1
          clear hHeld p0 p1 p2 q0 q1 q2 pl t1 t2 t3 hsl
          obtain ⟨p0, p1, p2, q0, q1, q2, pl⟩ := HX5.out.cells
          obtain ⟨y, SY⟩ : ∃ y : Int, Aside0 (∀ W, Calls Try.prog 54 #[refD (room : Int) l s] W fun e w' => e = .returned (.tuple #[refD (room : Int) l l.length, .int .i64 y]) ∧ Below W.heap.size W w') := sync_ref hss h91
          go_wp2_with (first | (go_at_call 54; refine (SY.out _).mono ?_; rintro e w6 ⟨he, hb⟩; replace he := ret_ref HR he; subst he; have HX6 := Lib.hid (HX5.out.next hb); obtain ⟨p0, p1, p2, q0, q1, q2, pl⟩ := HX6.out.cells; clear hb HX5) | (go_at_call 76; refine (jsync_any ((HX6.out.storeR HR).next (below_alloc (Below.refl _ _) _)).j ((HX6.out.storeR HR).next (below_alloc (Below.refl _ _) _)).hs).mono ?_; rintro e w7 ⟨rfl, hj, hm⟩; have HX7 := Lib.hid (((HX6.out.storeR HR).next (below_alloc (Below.refl _ _) _)).moved hj hm (by have := hfew; omega)); clear HX6))
          go_meet
          exact ⟨rfl, Lib.hid ⟨_, _, HX7.out⟩⟩
        · as_aux_lemma =>
          obtain ⟨m, hm⟩ : ∃ m, fit l (leftOf l s z.f1) = m := ⟨_, rfl⟩
          have HM := Aside0.mk hm
          have h91 : (allF l).length ≤ 900000 := by omega
          have HW := Aside0.mk (show (allF (l.take m)).length ≤ 130 + 26 * (n + 1) by have := allF_take_le l m; omega)
          clear hm
          obtain ⟨SA, SB, HR⟩ : ∃ SA SB, RefIs (l.take m) m SA SB := ⟨_, _, rfl, rfl⟩
          go_wp2_with (first | (go_at_call 90; refine (r6_crash (room : Int) z.f1 HLK.out h9 HM.out _).mono ?_; rintro e w6 ⟨he, hb⟩; replace he := ret_ref HR he; subst he; have HX6 := Lib.hid (HX1.out.next hb); have hb6 := hb; obtain ⟨p0, p1, p2, q0, q1, q2, pl⟩ := HX6.out.cells; have hs6 := (hb.block S (blk_lt HSB.out)).trans HSB.out; have t1 := (blk_cell hs6 1).trans rfl; have t2 := (blk_cell hs6 2).trans rfl; have t3 := (blk_cell hs6 3).trans rfl; have hsl := blk_lt hs6; have HF26 := Aside0.mk (Kd.F_below HF25.out hb); have HF36 := Aside0.mk (Kd.F_below HF35.out hb); clear hb hb6 hs6 HSB HX1 HF25 HF35) | (go_at_call 79; refine (crash_at z.f1 ((HX6.out.storeR HR).next (below_alloc (Below.refl _ _) _)).j ((HX6.out.storeR HR).next (below_alloc (Below.refl _ _) _)).hs h91 HM.out).mono ?_; rintro e w7 ⟨rfl, hj, hm⟩; have HX7 := Lib.hid (((HX6.out.storeR HR).next (below_alloc (Below.refl _ _) _)).moved hj hm HW.out); clear HX6))
          go_meet
          exact ⟨rfl, Lib.hid ⟨_, _, HX7.out⟩⟩
        · as_aux_lemma =>
          by_cases he0 : z.f2.length = 0
          · have HE0 := Aside0.mk he0
            have hl63 : z.f2.length ≤ 9223372036854775807 := by omega
            have APP : Aside0 (∀ W, Below w5.heap.size w5 W → Calls Try.prog 88 #[refD (room : Int) l s, .slice A2 z.f2.length c2] W fun e w' => e = .returned (.tuple #[refD (room : Int) l s, .int .i64 1]) ∧ Below W.heap.size W w') := Aside0.mk (fun W hW => r6_append_no (room : Int) _ _ (Kd.F_now (Kd.F_below HF25.out hW)) hl2 H2OK.out he0)
            clear he0
            go_wp2_with (first | (go_at_call 91; refine (r6_torn_no (room : Int) z.f1 1 rfl z.f2.length c2 _ _ _ _ w5 APP).mono ?_; rintro e w6 ⟨he, hb⟩; subst he; have HX6 := Lib.hid (HX1.out.next hb); have hb6 := hb; obtain ⟨p0, p1, p2, q0, q1, q2, pl⟩ := HX6.out.cells; have hs6 := (hb.block S (blk_lt HSB.out)).trans HSB.out; have t1 := (blk_cell hs6 1).trans rfl; have t2 := (blk_cell hs6 2).trans rfl; have t3 := (blk_cell hs6 3).trans rfl; have hsl := blk_lt hs6; have HF26 := Aside0.mk (Kd.F_below HF25.out hb); have HF36 := Aside0.mk (Kd.F_below HF35.out hb); clear hb hb6 hs6 HSB HX1 HF25 HF35) | (go_at_call 83; refine (jtorn_no 1 z.f1 (.inl ⟨HE0.out, rfl⟩) hl63).mono ?_; rintro e w7 ⟨rfl, nd, rfl⟩; have HX7 := Lib.hid (((HX6.out.store l s).next (below_alloc (Below.refl _ _) (Obj.cells #[.int .i64 (room : Int), .string (strOfNums (allF (l.take s))), .string (strOfNums (allF (l.drop s)))] 48))).same (pw_below_drewN (Below.refl _ _) nd)); clear HX6))
            go_meet
            exact ⟨rfl, Lib.hid ⟨_, _, HX7.out⟩⟩
          · have hp : OkP z.f2 := ⟨H2OK.out, by omega, by omega⟩
            have HP := Aside0.mk hp
            clear hp
            by_cases hfit : (allF l).length + (z.f2.length + 6) ≤ room
            · have HF := Aside0.mk hfit
              obtain ⟨m, hm⟩ : ∃ m, fit (l ++ [z.f2]) ((allF l).length + keepOf z.f1 (z.f2.length + 6)) = m := ⟨_, rfl⟩
              have HM := Aside0.mk hm
              have hsn := allF_snoc_len l z.f2
              have h92 : (allF (l ++ [z.f2])).length ≤ 2000 := by omega
              have h91 : (allF l).length ≤ 890000 := by omega
              have HW := Aside0.mk (show (allF ((l ++ [z.f2]).take m)).length ≤ 130 + 26 * (n + 1) by have := allF_take_le (l ++ [z.f2]) m; omega)
              have H92 := Aside0.mk h92
              clear hfit hm hsn h92
              obtain ⟨SA, SB, HR⟩ : ∃ SA SB, RefIs ((l ++ [z.f2]).take m) m SA SB := ⟨_, _, rfl, rfl⟩
              go_wp2_with (first | (go_at_call 91; refine (r6_torn_ok z.f1 (Kd.F_now HF25.out) hl2 HP.out HLK.out hss hmost HF.out H92.out HM.out).mono ?_; rintro e w6 ⟨he, hb⟩; replace he := ret_ref HR he; subst he; have HX6 := Lib.hid (HX1.out.next hb); have hb6 := hb; obtain ⟨p0, p1, p2, q0, q1, q2, pl⟩ := HX6.out.cells; have hs6 := (hb.block S (blk_lt HSB.out)).trans HSB.out; have t1 := (blk_cell hs6 1).trans rfl; have t2 := (blk_cell hs6 2).trans rfl; have t3 := (blk_cell hs6 3).trans rfl; have hsl := blk_lt hs6; have HF26 := Aside0.mk (Kd.F_below HF25.out hb); have HF36 := Aside0.mk (Kd.F_below HF35.out hb); clear hb hb6 hs6 HSB HX1 HF25 HF35) | (go_at_call 83; refine (jtorn_ok z.f1 ((HX6.out.storeR HR).next (below_alloc (Below.refl _ _) _)).j (F_store HF26.out HNR.out _ _ _ _) hl2 HP.out HF.out ((HX6.out.storeR HR).next (below_alloc (Below.refl _ _) _)).hs h91 rfl HM.out).mono ?_; rintro e w7 ⟨rfl, hj, hm⟩; have HX7 := Lib.hid (((HX6.out.storeR HR).next (below_alloc (Below.refl _ _) _)).moved hj hm HW.out); clear HX6))
              go_meet
              exact ⟨rfl, Lib.hid ⟨_, _, HX7.out⟩⟩
            · have HF := Aside0.mk (show room < (allF l).length + (z.f2.length + 6) by omega)
              have h91 : (allF l).length ≤ 1048576 := by omega
              have APP : Aside0 (∀ W, Below w5.heap.size w5 W → Calls Try.prog 88 #[refD (room : Int) l s, .slice A2 z.f2.length c2] W fun e w' => e = .returned (.tuple #[refD (room : Int) l s, .int .i64 4]) ∧ Below W.heap.size W w') := Aside0.mk (fun W hW => r6_append_full (Kd.F_now (Kd.F_below HF25.out hW)) hl2 HP.out h91 HF.out)
              clear hfit
              go_wp2_with (first | (go_at_call 91; refine (r6_torn_no (room : Int) z.f1 4 rfl z.f2.length c2 _ _ _ _ w5 APP).mono ?_; rintro e w6 ⟨he, hb⟩; subst he; have HX6 := Lib.hid (HX1.out.next hb); have hb6 := hb; obtain ⟨p0, p1, p2, q0, q1, q2, pl⟩ := HX6.out.cells; have hs6 := (hb.block S (blk_lt HSB.out)).trans HSB.out; have t1 := (blk_cell hs6 1).trans rfl; have t2 := (blk_cell hs6 2).trans rfl; have t3 := (blk_cell hs6 3).trans rfl; have hsl := blk_lt hs6; have HF26 := Aside0.mk (Kd.F_below HF25.out hb); have HF36 := Aside0.mk (Kd.F_below HF35.out hb); clear hb hb6 hs6 HSB HX1 HF25 HF35) | (go_at_call 83; refine (jtorn_full z.f1 ((HX6.out.store l s).next (below_alloc (Below.refl _ _) _)).j (F_store HF26.out HNR.out _ _ _ _) hl2 HP.out HF.out).mono ?_; rintro e w7 ⟨rfl, hb⟩; have HX7 := Lib.hid (((HX6.out.store l s).next (below_alloc (Below.refl _ _) _)).same hb); clear HX6))
              go_meet
              exact ⟨rfl, Lib.hid ⟨_, _, HX7.out⟩⟩
        · as_aux_lemma =>
          by_cases hodd : z.f1.tmod 2 = 0
          · skip
            go_wp2_with fail
            go_meet
            exact ⟨rfl, Lib.hid ⟨_, _, HX1.out.more⟩⟩
          · have h3 := HSM.out.ok3
            have hfl := few_frames (fun p hp => (h3 p hp).2)
            have h93 : (allF z.f3).length ≤ 900000 := by omega
            rcases all_or_first h3 with hall | ⟨K, hKL, hKe, hKo⟩
            · have HALL := Aside0.mk hall
              clear h3 hall
              by_cases hfit : (allF z.f3).length ≤ room
              · have HF := Aside0.mk hfit
                have HW := Aside0.mk (show (allF z.f3).length ≤ 130 + 26 * (n + 1) by omega)
                clear hfit
                obtain ⟨SA, SB, HR⟩ : ∃ SA SB, RefIs z.f3 z.f3.length SA SB := ⟨_, _, rfl, rfl⟩
                go_wp2_with (first | (go_at_call 92; refine (r6_swap_ok (Kd.F_now HF35.out) hl3 HALL.out HF.out h93).mono ?_; rintro e w6 ⟨he, hb⟩; replace he := ret_ref HR he; subst he; have HX6 := Lib.hid (HX1.out.next hb); have hb6 := hb; obtain ⟨p0, p1, p2, q0, q1, q2, pl⟩ := HX6.out.cells; have hs6 := (hb.block S (blk_lt HSB.out)).trans HSB.out; have t1 := (blk_cell hs6 1).trans rfl; have t2 := (blk_cell hs6 2).trans rfl; have t3 := (blk_cell hs6 3).trans rfl; have hsl := blk_lt hs6; have HF26 := Aside0.mk (Kd.F_below HF25.out hb); have HF36 := Aside0.mk (Kd.F_below HF35.out hb); clear hb hb6 hs6 HSB HX1 HF25 HF35) | (go_at_call 85; refine (jswap_ok ((HX6.out.storeR HR).next (below_alloc (Below.refl _ _) _)).j (F_store HF36.out HNR.out _ _ _ _) hl3 HALL.out HF.out ((HX6.out.storeR HR).next (below_alloc (Below.refl _ _) _)).hs h93).mono ?_; rintro e w7 ⟨rfl, hj, hm⟩; have HX7 := Lib.hid (((HX6.out.storeR HR).next (below_alloc (Below.refl _ _) _)).moved hj hm HW.out); clear HX6))
                go_meet
                exact ⟨rfl, Lib.hid ⟨_, _, HX7.out⟩⟩
              · have HF := Aside0.mk (show room < (allF z.f3).length by omega)
                clear hfit
                go_wp2_with (first | (go_at_call 92; refine (r6_swap_full (Kd.F_now HF35.out) hl3 HALL.out HF.out h93).mono ?_; rintro e w6 ⟨he, hb⟩; subst he; have HX6 := Lib.hid (HX1.out.next hb); have hb6 := hb; obtain ⟨p0, p1, p2, q0, q1, q2, pl⟩ := HX6.out.cells; have hs6 := (hb.block S (blk_lt HSB.out)).trans HSB.out; have t1 := (blk_cell hs6 1).trans rfl; have t2 := (blk_cell hs6 2).trans rfl; have t3 := (blk_cell hs6 3).trans rfl; have hsl := blk_lt hs6; have HF26 := Aside0.mk (Kd.F_below HF25.out hb); have HF36 := Aside0.mk (Kd.F_below HF35.out hb); clear hb hb6 hs6 HSB HX1 HF25 HF35) | (go_at_call 85; refine (jswap_full ((HX6.out.store l s).next (below_alloc (Below.refl _ _) _)).j (F_store HF36.out HNR.out _ _ _ _) hl3 HALL.out HF.out h93).mono ?_; rintro e w7 ⟨rfl, hb⟩; have HX7 := Lib.hid (((HX6.out.store l s).next (below_alloc (Below.refl _ _) _)).same hb); clear HX6))
                go_meet
                exact ⟨rfl, Lib.hid ⟨_, _, HX7.out⟩⟩
            · have HKE := Aside0.mk hKe
              have HKZ := Aside0.mk (show (z.f3[K]'hKL).length = 0 by rw [hKe]; rfl)
              have HKO := Aside0.mk hKo
              clear h3 hKe hKo
              go_wp2_with (first | (go_at_call 92; refine (r6_swap_no (room : Int) _ _ (Kd.F_now HF35.out) hl3 K hKL HKE.out HKO.out h93).mono ?_; rintro e w6 ⟨he, hb⟩; subst he; have HX6 := Lib.hid (HX1.out.next hb); have hb6 := hb; obtain ⟨p0, p1, p2, q0, q1, q2, pl⟩ := HX6.out.cells; have hs6 := (hb.block S (blk_lt HSB.out)).trans HSB.out; have t1 := (blk_cell hs6 1).trans rfl; have t2 := (blk_cell hs6 2).trans rfl; have t3 := (blk_cell hs6 3).trans rfl; have hsl := blk_lt hs6; have HF26 := Aside0.mk (Kd.F_below HF25.out hb); have HF36 := Aside0.mk (Kd.F_below HF35.out hb); clear hb hb6 hs6 HSB HX1 HF25 HF35) | (go_at_call 85; refine (jswap_no (F_store HF36.out HNR.out _ _ _ _) hl3 K hKL HKZ.out HKO.out h93).mono ?_; rintro e w7 ⟨rfl, hb⟩; have HX7 := Lib.hid (((HX6.out.store l s).next (below_alloc (Below.refl _ _) _)).same hb); clear HX6))
              go_meet
              exact ⟨rfl, Lib.hid ⟨_, _, HX7.out⟩⟩
      case rest => as_aux_lemma =>
        obtain ⟨rfl, hp⟩ := hcut
        clear HX1 HSB HF25 HF35 hSR hRS hfew hl2 hl3 hlz2 hlz3 hk0 hK6 HKI HSM
        clear l s
        obtain ⟨l, s, hx⟩ := hp.out
        have HX1 := Lib.hid hx
        have hfew := hx.few
        have hss := hx.j.sl
        have HLK := Aside0.mk hx.j.okl
        have h9 : (allF l).length ≤ 2000 := by omega
        have hll : 7 * l.length ≤ (allF l).length := allF_len7 hx.j.okl
        have hroom := hx.j.small.1
        obtain ⟨p0, p1, p2, _, _, _, _⟩ := hx.cells
        obtain ⟨qa, hqa⟩ : ∃ q, (strOfNums (allF (l.take s))).size = q := ⟨_, rfl⟩
        obtain ⟨qb, hqb⟩ : ∃ q, (strOfNums (allF (l.drop s))).size = q := ⟨_, rfl⟩
        have hqq : qa + qb = (allF l).length := by rw [← hqa, ← hqb]; exact size_split l s
        have HQQ := Aside0.mk hqq
        clear hx hp
        go_wp2_with (go_at_call 82; refine (r6_all_of (room : Int) HLK.out h9 _).mono ?_; rintro e w8 ⟨A8, c8, rfl, hc8, hC8, hb⟩; have HC8 := Aside0.mk hC8; have HX2 := Lib.hid (HX1.out.next hb); clear hb hC8 HX1)
        have HKB := Aside0.mk (show ∀ p ∈ l, okB p = true from fun p hp => (HLK.out p hp).1)
        have ALLJ : Aside0 (∀ W, PlayJ w W N gj g R room s (n + 1) l (.slice (some ad) sc.length c3) sc → Calls Try.prog 80 #[.pointer (some ⟨gj, 0, none⟩)] W fun e w' => ∃ (A' : Option Addr) (c' : Nat), e = .returned (.slice A' l.length c') ∧ l.length ≤ c' ∧ Kd.C KS w' A' l.length l ∧ Below W.heap.size W w') := Aside0.mk (fun W h => ja_any h.j)
        have SAME : Aside0 (∀ W A c A' c', Kd.C KS W A l.length l → l.length ≤ c → Kd.C KS W A' l.length l → l.length ≤ c' → Calls Try.prog 69 #[.slice A l.length c, .slice A' l.length c'] W fun e w' => e = .returned (.bool true) ∧ Below W.heap.size W w') := Aside0.mk (fun W A c A' c' h1 h2 h3 h4 => (jsame_any A c l A' c' l W h1 h2 h3 h4 HKB.out HKB.out (by omega)).mono fun e w' ⟨he, hb⟩ => ⟨by rw [he]; simp, hb⟩)
        have LEN : Aside0 (∀ W, PlayJ w W N gj g R room s (n + 1) l (.slice (some ad) sc.length c3) sc → Calls Try.prog 78 #[.pointer (some ⟨gj, 0, none⟩)] W fun e w' => e = .returned (.int .i64 (l.length : Int)) ∧ W = w') := Aside0.mk (fun W h => jl_any h.j)
        have SAFE : Aside0 (∀ W, PlayJ w W N gj g R room s (n + 1) l (.slice (some ad) sc.length c3) sc → Calls Try.prog 77 #[.pointer (some ⟨gj, 0, none⟩)] W fun e w' => e = .returned (.int .i64 (s : Int)) ∧ W = w') := Aside0.mk (fun W h => js_any h.j)
        have SREF : Aside0 (∀ W, Calls Try.prog 89 #[refD (room : Int) l s] W fun e w' => e = .returned (.int .i64 (s : Int)) ∧ Below W.heap.size W w') := Aside0.mk (fun W => r6_safe_of (room : Int) HLK.out hss h9 W)
        have ROOM : Aside0 (∀ W, PlayJ w W N gj g R room s (n + 1) l (.slice (some ad) sc.length c3) sc → Calls Try.prog 84 #[.pointer (some ⟨gj, 0, none⟩)] W fun e w' => e = .returned (.int .i64 ((room : Int) - (qa : Int) - (qb : Int))) ∧ ∃ n, w' = W.drewN n) := Aside0.mk (fun W h => (jr_any h.j).mono fun e w' ⟨he, nd, hd⟩ => ⟨ret_i he (by have := HQQ.out; omega), nd, hd⟩)
        generalize l.length = ll at *
        have hw1 : IntKind.i64.wrap ((room : Int) - (qa : Int)) = (room : Int) - (qa : Int) := IntWalk.i64_in _ (by omega)
        have hw2 : IntKind.i64.wrap ((room : Int) - (qa : Int) - (qb : Int)) = (room : Int) - (qa : Int) - (qb : Int) := IntWalk.i64_in _ (by omega)
        have hq0 : ((ll : Int) == (ll : Int)) = true := beq_self_eq_true _
        have hq1 : ((s : Int) == (s : Int)) = true := beq_self_eq_true _
        have hq2 : (((room : Int) - (qa : Int) - (qb : Int)) == ((room : Int) - (qa : Int) - (qb : Int))) = true := beq_self_eq_true _
        clear p0 p1 p2
        refine start_ (n := 38) (S := fun w' => PlayJ w w' N gj g R room s (n + 1) l (.slice (some ad) sc.length c3) sc ∧ w'.cell? ⟨R, 0, none⟩ = some (.int .i64 (room : Int)) ∧ w'.cell? ⟨R, 1, none⟩ = some (.string (strOfNums (allF (l.take s)))) ∧ w'.cell? ⟨R, 2, none⟩ = some (.string (strOfNums (allF (l.drop s))))) (ds := []) #[false, false, false, false, false, false, false, false, false, false, false, false, false, false, false, false, false, false, false, false, false, false, false, false, false, false, false, false, false, false, false, false, false, false, false, false, false, false] (by kernel_rfl) rfl rfl ⟨(HX2.out.next (below_drew (Below.refl _ _))), (HX2.out.next (below_drew (Below.refl _ _))).cells.1, (HX2.out.next (below_drew (Below.refl _ _))).cells.2.1, (HX2.out.next (below_drew (Below.refl _ _))).cells.2.2.1⟩ (fun hHeld => ?_)
        refine pure_ (i := 0) (N := some 140) (v := ?_) (a' := ?_) #[true, false, false, false, false, false, false, false, false, false, false, false, false, false, false, false, false, false, false, false, false, false, false, false, false, false, false, false, false, false, false, false, false, false, false, false, false, false] rfl rfl (by kernel_rfl) (fun _ _ _ h => h) (Or.inl ⟨by rfl, ?_⟩) ?_ ?_
        rotate_left
        · intro w'
          go_simp
          with_reducible rfl
        rotate_left
        · simp only [Act.put, List.setIfInBounds_toArray, List.set_cons_zero, List.set_cons_succ, i64_w, i32_w]
          rfl
        refine pure_ (i := 1) (N := some 141) (v := ?_) (a' := ?_) #[true, true, false, false, false, false, false, false, false, false, false, false, false, false, false, false, false, false, false, false, false, false, false, false, false, false, false, false, false, false, false, false, false, false, false, false, false, false] rfl rfl (by kernel_rfl) (fun _ _ _ h => h) (Or.inl ⟨by rfl, ?_⟩) ?_ ?_
        rotate_left
        · intro w'
          go_simp
          with_reducible rfl
        rotate_left
        · simp only [Act.put, List.setIfInBounds_toArray, List.set_cons_zero, List.set_cons_succ, i64_w, i32_w]
          rfl
        refine pure_ (i := 2) (N := some 142) (v := ?_) (a' := ?_) #[true, true, true, false, false, false, false, false, false, false, false, false, false, false, false, false, false, false, false, false, false, false, false, false, false, false, false, false, false, false, false, false, false, false, false, false, false, false] rfl rfl (by kernel_rfl) (fun _ _ _ h => h) (Or.inl ⟨by rfl, ?_⟩) ?_ ?_
        rotate_left
        · intro w'
          go_simp
          with_reducible rfl
        rotate_left
        · simp only [Act.put, List.setIfInBounds_toArray, List.set_cons_zero, List.set_cons_succ, i64_w, i32_w]
          rfl
        refine pure_ (i := 3) (N := some 143) (v := ?_) (a' := ?_) #[true, true, true, true, false, false, false, false, false, false, false, false, false, false, false, false, false, false, false, false, false, false, false, false, false, false, false, false, false, false, false, false, false, false, false, false, false, false] rfl rfl (by kernel_rfl) (fun _ _ _ h => h) (Or.inl ⟨by rfl, ?_⟩) ?_ ?_
        rotate_left
        · intro w'
          go_simp
          with_reducible rfl
        rotate_left
        · simp only [Act.put, List.setIfInBounds_toArray, List.set_cons_zero, List.set_cons_succ, i64_w, i32_w]
          rfl
        refine pure_ (i := 5) (N := some 145) (v := ?_) (a' := ?_) #[true, true, true, true, false, true, false, false, false, false, false, false, false, false, false, false, false, false, false, false, false, false, false, false, false, false, false, false, false, false, false, false, false, false, false, false, false, false] rfl rfl (by kernel_rfl) (fun _ _ _ h => h) (Or.inl ⟨by rfl, ?_⟩) ?_ ?_
        rotate_left
        · intro w'
          go_simp
          with_reducible rfl
        rotate_left
        · simp only [Act.put, List.setIfInBounds_toArray, List.set_cons_zero, List.set_cons_succ, i64_w, i32_w]
          rfl
        refine one_ (i := 4) (N := some 144) #[true, true, true, true, true, true, false, false, false, false, false, false, false, false, false, false, false, false, false, false, false, false, false, false, false, false, false, false, false, false, false, false, false, false, false, false, false, false] rfl rfl (by kernel_rfl) (by decide) (fun K hK => ?_)
        refine goes_ Try.func80 (by kernel_rfl) rfl #[.pointer (some ⟨gj, 0, none⟩)] (by rfl) rfl rfl (by simp only [List.map_toArray, List.map_cons, List.map_nil]; rfl) ?_
        with_reducible refine (ALLJ.out _ hHeld.1).mono ?_
        rintro e wa ⟨Aa, ca, rfl, hca, hCa, hb⟩
        refine ⟨_, rfl, ?_⟩
        have HCa := Aside0.mk hCa
        have HC8a := Aside0.mk (Kd.C_below HC8.out (below_step (below_drew (Below.refl _ _)) hb))
        have HXa := Lib.hid (hHeld.1.next hb)
        clear hCa hb
        refine hK.out _ _ ⟨HXa.out, HXa.out.cells.1, HXa.out.cells.2.1, HXa.out.cells.2.2.1⟩ (fun hHeld => ?_)
        clear hK K
        refine norm_ (a' := ?_) ?_ ?_
        rotate_left
        · show Act.put _ (some 144) _ = _
          simp only [Act.put, List.setIfInBounds_toArray, List.set_cons_zero, List.set_cons_succ, i64_w, i32_w]
          rfl
        refine one_ (i := 6) (N := some 146) #[true, true, true, true, true, true, true, false, false, false, false, false, false, false, false, false, false, false, false, false, false, false, false, false, false, false, false, false, false, false, false, false, false, false, false, false, false, false] rfl rfl (by kernel_rfl) (by decide) (fun K hK => ?_)
        refine goes_ Try.func69 (by kernel_rfl) rfl #[.slice Aa ll ca, .slice A8 ll c8] (by rfl) rfl rfl (by simp only [List.map_toArray, List.map_cons, List.map_nil]; rfl) ?_
        with_reducible refine (SAME.out _ _ _ _ _ HCa.out hca HC8a.out hc8).mono ?_
        rintro e wb ⟨rfl, hb⟩
        refine ⟨_, rfl, ?_⟩
        have HXb := Lib.hid (hHeld.1.next hb)
        clear hb
        refine hK.out _ _ ⟨HXb.out, HXb.out.cells.1, HXb.out.cells.2.1, HXb.out.cells.2.2.1⟩ (fun hHeld => ?_)
        clear hK K
        refine norm_ (a' := ?_) ?_ ?_
        rotate_left
        · show Act.put _ (some 146) _ = _
          simp only [Act.put, List.setIfInBounds_toArray, List.set_cons_zero, List.set_cons_succ, i64_w, i32_w]
          rfl
        refine pure_ (i := 7) (N := some 147) (v := ?_) (a' := ?_) #[true, true, true, true, true, true, true, true, false, false, false, false, false, false, false, false, false, false, false, false, false, false, false, false, false, false, false, false, false, false, false, false, false, false, false, false, false, false] rfl rfl (by kernel_rfl) (fun _ _ _ h => h) (Or.inl ⟨by rfl, ?_⟩) ?_ ?_
        rotate_left
        · intro w'
          go_simp
          with_reducible rfl
        rotate_left
        · simp only [Act.put, List.setIfInBounds_toArray, List.set_cons_zero, List.set_cons_succ, i64_w, i32_w]
          rfl
        refine pure_ (i := 8) (N := some 148) (v := ?_) (a' := ?_) #[true, true, true, true, true, true, true, true, true, false, false, false, false, false, false, false, false, false, false, false, false, false, false, false, false, false, false, false, false, false, false, false, false, false, false, false, false, false] rfl rfl (by kernel_rfl) (fun _ _ _ h => h) (Or.inl ⟨by rfl, ?_⟩) ?_ ?_
        rotate_left
        · intro w'
          go_simp
          with_reducible rfl
        rotate_left
        · simp only [Act.put, List.setIfInBounds_toArray, List.set_cons_zero, List.set_cons_succ, i64_w, i32_w]
          rfl
        refine pure_ (i := 9) (N := some 149) (v := ?_) (a' := ?_) #[true, true, true, true, true, true, true, true, true, true, false, false, false, false, false, false, false, false, false, false, false, false, false, false, false, false, false, false, false, false, false, false, false, false, false, false, false, false] rfl rfl (by kernel_rfl) (fun _ _ _ h => h) (Or.inl ⟨by rfl, ?_⟩) ?_ ?_
        rotate_left
        · intro w'
          go_simp
          with_reducible rfl
        rotate_left
        · simp only [Act.put, List.setIfInBounds_toArray, List.set_cons_zero, List.set_cons_succ, i64_w, i32_w]
          rfl
        refine pure_ (i := 10) (N := some 150) (v := ?_) (a' := ?_) #[true, true, true, true, true, true, true, true, true, true, true, false, false, false, false, false, false, false, false, false, false, false, false, false, false, false, false, false, false, false, false, false, false, false, false, false, false, false] rfl rfl (by kernel_rfl) (fun _ _ _ h => h) (Or.inl ⟨by rfl, ?_⟩) ?_ ?_
        rotate_left
        · intro w'
          go_simp
          with_reducible rfl
        rotate_left
        · simp only [Act.put, List.setIfInBounds_toArray, List.set_cons_zero, List.set_cons_succ, i64_w, i32_w]
          rfl
        refine pure_ (i := 12) (N := some 152) (v := ?_) (a' := ?_) #[true, true, true, true, true, true, true, true, true, true, true, false, true, false, false, false, false, false, false, false, false, false, false, false, false, false, false, false, false, false, false, false, false, false, false, false, false, false] rfl rfl (by kernel_rfl) (fun _ _ _ h => h) (Or.inl ⟨by rfl, ?_⟩) ?_ ?_
        rotate_left
        · intro w'
          go_simp
          with_reducible rfl
        rotate_left
        · simp only [Act.put, List.setIfInBounds_toArray, List.set_cons_zero, List.set_cons_succ, i64_w, i32_w]
          rfl
        refine pure_ (i := 13) (N := some 153) (v := ?_) (a' := ?_) #[true, true, true, true, true, true, true, true, true, true, true, false, true, true, false, false, false, false, false, false, false, false, false, false, false, false, false, false, false, false, false, false, false, false, false, false, false, false] rfl rfl (by kernel_rfl) (fun _ _ _ h => h) (Or.inl ⟨by rfl, ?_⟩) ?_ ?_
        rotate_left
        · intro w'
          go_simp
          with_reducible rfl
        rotate_left
        · simp only [Act.put, List.setIfInBounds_toArray, List.set_cons_zero, List.set_cons_succ, i64_w, i32_w]
          rfl
        refine one_ (i := 11) (N := some 151) #[true, true, true, true, true, true, true, true, true, true, true, true, true, true, false, false, false, false, false, false, false, false, false, false, false, false, false, false, false, false, false, false, false, false, false, false, false, false] rfl rfl (by kernel_rfl) (by decide) (fun K hK => ?_)
        refine goes_ Try.func78 (by kernel_rfl) rfl #[.pointer (some ⟨gj, 0, none⟩)] (by rfl) rfl rfl (by simp only [List.map_toArray, List.map_cons, List.map_nil]; rfl) ?_
        with_reducible refine (LEN.out _ hHeld.1).mono ?_
        rintro e wc ⟨rfl, rfl⟩
        refine ⟨_, rfl, ?_⟩
        refine hK.out _ _ ⟨HXb.out, HXb.out.cells.1, HXb.out.cells.2.1, HXb.out.cells.2.2.1⟩ (fun hHeld => ?_)
        clear hK K
        refine norm_ (a' := ?_) ?_ ?_
        rotate_left
        · show Act.put _ (some 151) _ = _
          simp only [Act.put, List.setIfInBounds_toArray, List.set_cons_zero, List.set_cons_succ, i64_w, i32_w]
          rfl
        refine pure_ (i := 14) (N := some 154) (v := ?_) (a' := ?_) #[true, true, true, true, true, true, true, true, true, true, true, true, true, true, true, false, false, false, false, false, false, false, false, false, false, false, false, false, false, false, false, false, false, false, false, false, false, false] rfl rfl (by kernel_rfl) (fun _ _ _ h => h) (Or.inl ⟨by rfl, ?_⟩) ?_ ?_
        rotate_left
        · intro w'
          go_simp
          with_reducible rfl
        rotate_left
        · simp only [Act.put, List.setIfInBounds_toArray, List.set_cons_zero, List.set_cons_succ, i64_w, i32_w]
          rfl
        refine pure_ (i := 15) (N := some 155) (v := ?_) (a' := ?_) #[true, true, true, true, true, true, true, true, true, true, true, true, true, true, true, true, false, false, false, false, false, false, false, false, false, false, false, false, false, false, false, false, false, false, false, false, false, false] rfl rfl (by kernel_rfl) (fun _ _ _ h => h) (Or.inl ⟨by rfl, ?_⟩) ?_ ?_
        rotate_left
        · intro w'
          go_simp
          with_reducible rfl
        rotate_left
        · simp only [Act.put, List.setIfInBounds_toArray, List.set_cons_zero, List.set_cons_succ, i64_w, i32_w]
          rfl
        refine pure_ (i := 16) (N := some 156) (v := ?_) (a' := ?_) #[true, true, true, true, true, true, true, true, true, true, true, true, true, true, true, true, true, false, false, false, false, false, false, false, false, false, false, false, false, false, false, false, false, false, false, false, false, false] rfl rfl (by kernel_rfl) (fun _ _ _ h => h) (Or.inl ⟨by rfl, ?_⟩) ?_ ?_
        rotate_left
        · intro w'
          go_simp
          with_reducible rfl
        rotate_left
        · simp only [Act.put, List.setIfInBounds_toArray, List.set_cons_zero, List.set_cons_succ, i64_w, i32_w]
          rfl
        refine pure_ (i := 17) (N := some 157) (v := ?_) (a' := ?_) #[true, true, true, true, true, true, true, true, true, true, true, true, true, true, true, true, true, true, false, false, false, false, false, false, false, false, false, false, false, false, false, false, false, false, false, false, false, false] rfl rfl (by kernel_rfl) (fun _ _ _ h => h) (Or.inl ⟨by rfl, ?_⟩) ?_ ?_
        rotate_left
        · intro w'
          go_simp
          with_reducible rfl
        rotate_left
        · simp only [Act.put, List.setIfInBounds_toArray, List.set_cons_zero, List.set_cons_succ, i64_w, i32_w]
          rfl
        refine take_ (i := 19) (N := some 159) (v := ?_) (a' := ?_) #[true, true, true, true, true, true, true, true, true, true, true, true, true, true, true, true, true, true, false, true, false, false, false, false, false, false, false, false, false, false, false, false, false, false, false, false, false, false] rfl rfl (by kernel_rfl) (fun _ _ _ h => h) (Or.inl ⟨by rfl, ?_⟩) hHeld ?_ ?_
        rotate_left
        · rintro w' ⟨s0, s1, s2, s3⟩
          go_simp
          with_reducible rfl
        rotate_left
        · simp only [Act.put, List.setIfInBounds_toArray, List.set_cons_zero, List.set_cons_succ, i64_w, i32_w]
          rfl
        refine one_ (i := 18) (N := some 158) #[true, true, true, true, true, true, true, true, true, true, true, true, true, true, true, true, true, true, true, true, false, false, false, false, false, false, false, false, false, false, false, false, false, false, false, false, false, false] rfl rfl (by kernel_rfl) (by decide) (fun K hK => ?_)
        refine goes_ Try.func77 (by kernel_rfl) rfl #[.pointer (some ⟨gj, 0, none⟩)] (by rfl) rfl rfl (by simp only [List.map_toArray, List.map_cons, List.map_nil]; rfl) ?_
        with_reducible refine (SAFE.out _ hHeld.1).mono ?_
        rintro e wc ⟨rfl, rfl⟩
        refine ⟨_, rfl, ?_⟩
        refine hK.out _ _ ⟨HXb.out, HXb.out.cells.1, HXb.out.cells.2.1, HXb.out.cells.2.2.1⟩ (fun hHeld => ?_)
        clear hK K
        refine norm_ (a' := ?_) ?_ ?_
        rotate_left
        · show Act.put _ (some 158) _ = _
          simp only [Act.put, List.setIfInBounds_toArray, List.set_cons_zero, List.set_cons_succ, i64_w, i32_w]
          rfl
        refine one_ (i := 20) (N := some 160) #[true, true, true, true, true, true, true, true, true, true, true, true, true, true, true, true, true, true, true, true, true, false, false, false, false, false, false, false, false, false, false, false, false, false, false, false, false, false] rfl rfl (by kernel_rfl) (by decide) (fun K hK => ?_)
        refine goes_ Try.func89 (by kernel_rfl) rfl #[.agg #[.int .i64 (room : Int), .string (strOfNums (allF (l.take s))), .string (strOfNums (allF (l.drop s)))]] (by rfl) rfl rfl (by simp only [List.map_toArray, List.map_cons, List.map_nil]; rfl) ?_
        with_reducible refine (SREF.out _).mono ?_
        rintro e wd ⟨rfl, hb⟩
        refine ⟨_, rfl, ?_⟩
        have HXd := Lib.hid (hHeld.1.next hb)
        clear hb
        refine hK.out _ _ ⟨HXd.out, HXd.out.cells.1, HXd.out.cells.2.1, HXd.out.cells.2.2.1⟩ (fun hHeld => ?_)
        clear hK K
        refine norm_ (a' := ?_) ?_ ?_
        rotate_left
        · show Act.put _ (some 160) _ = _
          simp only [Act.put, List.setIfInBounds_toArray, List.set_cons_zero, List.set_cons_succ, i64_w, i32_w]
          rfl
        refine pure_ (i := 21) (N := some 161) (v := ?_) (a' := ?_) #[true, true, true, true, true, true, true, true, true, true, true, true, true, true, true, true, true, true, true, true, true, true, false, false, false, false, false, false, false, false, false, false, false, false, false, false, false, false] rfl rfl (by kernel_rfl) (fun _ _ _ h => h) (Or.inl ⟨by rfl, ?_⟩) ?_ ?_
        rotate_left
        · intro w'
          go_simp
          with_reducible rfl
        rotate_left
        · simp only [Act.put, List.setIfInBounds_toArray, List.set_cons_zero, List.set_cons_succ, i64_w, i32_w]
          rfl
        refine pure_ (i := 22) (N := some 162) (v := ?_) (a' := ?_) #[true, true, true, true, true, true, true, true, true, true, true, true, true, true, true, true, true, true, true, true, true, true, true, false, false, false, false, false, false, false, false, false, false, false, false, false, false, false] rfl rfl (by kernel_rfl) (fun _ _ _ h => h) (Or.inl ⟨by rfl, ?_⟩) ?_ ?_
        rotate_left
        · intro w'
          go_simp
          with_reducible rfl
        rotate_left
        · simp only [Act.put, List.setIfInBounds_toArray, List.set_cons_zero, List.set_cons_succ, i64_w, i32_w]
          rfl
        refine pure_ (i := 23) (N := some 163) (v := ?_) (a' := ?_) #[true, true, true, true, true, true, true, true, true, true, true, true, true, true, true, true, true, true, true, true, true, true, true, true, false, false, false, false, false, false, false, false, false, false, false, false, false, false] rfl rfl (by kernel_rfl) (fun _ _ _ h => h) (Or.inl ⟨by rfl, ?_⟩) ?_ ?_
        rotate_left
        · intro w'
          go_simp
          with_reducible rfl
        rotate_left
        · simp only [Act.put, List.setIfInBounds_toArray, List.set_cons_zero, List.set_cons_succ, i64_w, i32_w]
          rfl
        refine pure_ (i := 24) (N := some 164) (v := ?_) (a' := ?_) #[true, true, true, true, true, true, true, true, true, true, true, true, true, true, true, true, true, true, true, true, true, true, true, true, true, false, false, false, false, false, false, false, false, false, false, false, false, false] rfl rfl (by kernel_rfl) (fun _ _ _ h => h) (Or.inl ⟨by rfl, ?_⟩) ?_ ?_
        rotate_left
        · intro w'
          go_simp
          with_reducible rfl
        rotate_left
        · simp only [Act.put, List.setIfInBounds_toArray, List.set_cons_zero, List.set_cons_succ, i64_w, i32_w]
          rfl
        refine pure_ (i := 26) (N := some 166) (v := ?_) (a' := ?_) #[true, true, true, true, true, true, true, true, true, true, true, true, true, true, true, true, true, true, true, true, true, true, true, true, true, false, true, false, false, false, false, false, false, false, false, false, false, false] rfl rfl (by kernel_rfl) (fun _ _ _ h => h) (Or.inl ⟨by rfl, ?_⟩) ?_ ?_
        rotate_left
        · intro w'
          go_simp
          with_reducible rfl
        rotate_left
        · simp only [Act.put, List.setIfInBounds_toArray, List.set_cons_zero, List.set_cons_succ, i64_w, i32_w]
          rfl
        refine pure_ (i := 28) (N := some 168) (v := ?_) (a' := ?_) #[true, true, true, true, true, true, true, true, true, true, true, true, true, true, true, true, true, true, true, true, true, true, true, true, true, false, true, false, true, false, false, false, false, false, false, false, false, false] rfl rfl (by kernel_rfl) (fun _ _ _ h => h) (Or.inl ⟨by rfl, ?_⟩) ?_ ?_
        rotate_left
        · intro w'
          go_simp
          with_reducible rfl
        rotate_left
        · simp only [Act.put, List.setIfInBounds_toArray, List.set_cons_zero, List.set_cons_succ, i64_w, i32_w]
          rfl
        refine pure_ (i := 32) (N := some 172) (v := ?_) (a' := ?_) #[true, true, true, true, true, true, true, true, true, true, true, true, true, true, true, true, true, true, true, true, true, true, true, true, true, false, true, false, true, false, false, false, true, false, false, false, false, false] rfl rfl (by kernel_rfl) (fun _ _ _ h => h) (Or.inl ⟨by rfl, ?_⟩) ?_ ?_
        rotate_left
        · intro w'
          go_simp
          with_reducible rfl
        rotate_left
        · simp only [Act.put, List.setIfInBounds_toArray, List.set_cons_zero, List.set_cons_succ, i64_w, i32_w]
          rfl
        refine take_ (i := 27) (N := some 167) (v := ?_) (a' := ?_) #[true, true, true, true, true, true, true, true, true, true, true, true, true, true, true, true, true, true, true, true, true, true, true, true, true, false, true, true, true, false, false, false, true, false, false, false, false, false] rfl rfl (by kernel_rfl) (fun _ _ _ h => h) (Or.inl ⟨by rfl, ?_⟩) hHeld ?_ ?_
        rotate_left
        · rintro w' ⟨s0, s1, s2, s3⟩
          go_simp
          with_reducible rfl
        rotate_left
        · simp only [Act.put, List.setIfInBounds_toArray, List.set_cons_zero, List.set_cons_succ, i64_w, i32_w]
          rfl
        refine take_ (i := 29) (N := some 169) (v := ?_) (a' := ?_) #[true, true, true, true, true, true, true, true, true, true, true, true, true, true, true, true, true, true, true, true, true, true, true, true, true, false, true, true, true, true, false, false, true, false, false, false, false, false] rfl rfl (by kernel_rfl) (fun _ _ _ h => h) (Or.inl ⟨by rfl, ?_⟩) hHeld ?_ ?_
        rotate_left
        · rintro w' ⟨s0, s1, s2, s3⟩
          go_simp
          with_reducible rfl
        rotate_left
        · simp only [Act.put, List.setIfInBounds_toArray, List.set_cons_zero, List.set_cons_succ, i64_w, i32_w]
          rfl
        refine pure_ (i := 30) (N := some 170) (v := ?_) (a' := ?_) #[true, true, true, true, true, true, true, true, true, true, true, true, true, true, true, true, true, true, true, true, true, true, true, true, true, false, true, true, true, true, true, false, true, false, false, false, false, false] rfl rfl (by kernel_rfl) (fun _ _ _ h => h) (Or.inl ⟨by rfl, ?_⟩) ?_ ?_
        rotate_left
        · intro w'
          go_simp
          with_reducible rfl
        rotate_left
        · simp only [Act.put, List.setIfInBounds_toArray, List.set_cons_zero, List.set_cons_succ, i64_w, i32_w]
          rfl
        refine pure_ (i := 31) (N := some 171) (v := ?_) (a' := ?_) #[true, true, true, true, true, true, true, true, true, true, true, true, true, true, true, true, true, true, true, true, true, true, true, true, true, false, true, true, true, true, true, true, true, false, false, false, false, false] rfl rfl (by kernel_rfl) (fun _ _ _ h => h) (Or.inl ⟨by rfl, ?_⟩) ?_ ?_
        rotate_left
        · intro w'
          go_simp
          with_reducible rfl
        rotate_left
        · simp only [Act.put, List.setIfInBounds_toArray, List.set_cons_zero, List.set_cons_succ, i64_w, i32_w]
          rfl
        refine take_ (i := 33) (N := some 173) (v := ?_) (a' := ?_) #[true, true, true, true, true, true, true, true, true, true, true, true, true, true, true, true, true, true, true, true, true, true, true, true, true, false, true, true, true, true, true, true, true, true, false, false, false, false] rfl rfl (by kernel_rfl) (fun _ _ _ h => h) (Or.inl ⟨by rfl, ?_⟩) hHeld ?_ ?_
        rotate_left
        · rintro w' ⟨s0, s1, s2, s3⟩
          go_simp
          with_reducible rfl
        rotate_left
        · simp only [Act.put, List.setIfInBounds_toArray, List.set_cons_zero, List.set_cons_succ, i64_w, i32_w]
          rfl
        refine pure_ (i := 34) (N := some 174) (v := ?_) (a' := ?_) #[true, true, true, true, true, true, true, true, true, true, true, true, true, true, true, true, true, true, true, true, true, true, true, true, true, false, true, true, true, true, true, true, true, true, true, false, false, false] rfl rfl (by kernel_rfl) (fun _ _ _ h => h) (Or.inl ⟨by rfl, ?_⟩) ?_ ?_
        rotate_left
        · intro w'
          go_simp
          with_reducible rfl
        rotate_left
        · simp only [Act.put, List.setIfInBounds_toArray, List.set_cons_zero, List.set_cons_succ, i64_w, i32_w]
          rfl
        refine pure_ (i := 35) (N := some 175) (v := ?_) (a' := ?_) #[true, true, true, true, true, true, true, true, true, true, true, true, true, true, true, true, true, true, true, true, true, true, true, true, true, false, true, true, true, true, true, true, true, true, true, true, false, false] rfl rfl (by kernel_rfl) (fun _ _ _ h => h) (Or.inl ⟨by rfl, ?_⟩) ?_ ?_
        rotate_left
        · intro w'
          go_simp
          with_reducible rfl
        rotate_left
        · simp only [Act.put, List.setIfInBounds_toArray, List.set_cons_zero, List.set_cons_succ, i64_w, i32_w]
          rfl
        refine one_ (i := 25) (N := some 165) #[true, true, true, true, true, true, true, true, true, true, true, true, true, true, true, true, true, true, true, true, true, true, true, true, true, true, true, true, true, true, true, true, true, true, true, true, false, false] rfl rfl (by kernel_rfl) (by decide) (fun K hK => ?_)
        refine goes_ Try.func84 (by kernel_rfl) rfl #[.pointer (some ⟨gj, 0, none⟩)] (by rfl) rfl rfl (by simp only [List.map_toArray, List.map_cons, List.map_nil]; rfl) ?_
        with_reducible refine (ROOM.out _ hHeld.1).mono ?_
        rintro e we ⟨rfl, nd, rfl⟩
        refine ⟨_, rfl, ?_⟩
        have HXe := Lib.hid (HXd.out.drewN nd)
        refine hK.out _ _ ⟨HXe.out, HXe.out.cells.1, HXe.out.cells.2.1, HXe.out.cells.2.2.1⟩ (fun hHeld => ?_)
        clear hK K
        refine norm_ (a' := ?_) ?_ ?_
        rotate_left
        · show Act.put _ (some 165) _ = _
          simp only [Act.put, List.setIfInBounds_toArray, List.set_cons_zero, List.set_cons_succ, i64_w, i32_w]
          rfl
        refine pure_ (i := 36) (N := some 176) (v := ?_) (a' := ?_) #[true, true, true, true, true, true, true, true, true, true, true, true, true, true, true, true, true, true, true, true, true, true, true, true, true, true, true, true, true, true, true, true, true, true, true, true, true, false] rfl rfl (by kernel_rfl) (fun _ _ _ h => h) (Or.inl ⟨by rfl, ?_⟩) ?_ ?_
        rotate_left
        · intro w'
          go_simp
          with_reducible rfl
        rotate_left
        · simp only [Act.put, List.setIfInBounds_toArray, List.set_cons_zero, List.set_cons_succ, i64_w, i32_w]
          rfl
        refine pure_ (i := 37) (N := some 177) (v := ?_) (a' := ?_) #[true, true, true, true, true, true, true, true, true, true, true, true, true, true, true, true, true, true, true, true, true, true, true, true, true, true, true, true, true, true, true, true, true, true, true, true, true, true] rfl rfl (by kernel_rfl) (fun _ _ _ h => h) (Or.inl ⟨by rfl, ?_⟩) ?_ ?_
        rotate_left
        · intro w'
          go_simp
          with_reducible rfl
        rotate_left
        · simp only [Act.put, List.setIfInBounds_toArray, List.set_cons_zero, List.set_cons_succ, i64_w, i32_w]
          rfl
        refine done_ (by kernel_rfl) ?_
        go_wp2
        go_roundw
        case rel => exact ⟨n + 1, by omega, by go_num, Lib.hid ⟨_, _, HXe.out⟩⟩
        case measure => simp [intOf]; omega
    · obtain rfl : n = sc.length := by omega
      go_wp2
      go_ret
      exact ⟨rfl, HX.out.below⟩
end Go.Proofs.Ytbcienbnhchdeaa.Hand

/- The row of JournalPlays: what came in, opened; the law's contract; what came in, as it was. -/
namespace Go.Proofs.Ytbcienbnhchdeaa.journalPlays
open Go.ChangeShapes Go.WideShapes Go.ChangeAt Go.RowKit Go.Proofs.YtbcienbnhchdeaaW.PrintWords
set_option linter.unusedVariables false
theorem own : ownKnob Try.prog.godebug = none := by kernel_rfl
theorem laidOut : laidOutB Try.prog = true := by kernel_rfl
set_option maxRecDepth 100000 in
theorem lifted (os : Os) (started : os.Started) (H : Type) (enc : TypeId × Value → H) :
    ReturnsInHanded {} Try.checked os 25 .any (Rows.journalPlaysSpec.pre6 enc Try.prog Try.f25 Rows.journalPlaysRow.domain false) (Rows.journalPlaysSpec.post enc Try.prog Try.f25 false true false false) := by
  refine returnsInHanded_of_change_sized (C := Try.checked) own started (by kernel_rfl) Try.func25
    (ChangeSpec.witness6 (enc := enc) (C := Try.checked) false ⟨#[], #[.int .i64 0, .slice none 0 0], []⟩ 8 (by kernel_rfl) (by kernel_rfl) (by kernel_rfl) (by kernel_rfl)) ?_
  intro W base args ds gs before hval0 hW hcnd hsz0 _
  have hval : ∀ (j : Nat) t v, Try.f25.params[j]? = some t → args[j]? = some v → Value.okWide Try.prog W .any base t v := hval0
  have hW' := hW
  obtain ⟨p, q, hA0, hV, rfl, hfz, hnd⟩ := hW
  have hA : DataW.TrodAll enc Try.prog W 0 (fun _ => true) true Try.f25.params.toList args.toList ds p := hA0
  rw [Try.params25] at hA hval
  obtain ⟨v0, vs0, d0, ds0, p0, q0, hargs, rfl, rfl, h0, r0⟩ := trodAll_cons hA
  obtain ⟨v1, vs1, d1, ds1, p1, q1, rfl, rfl, rfl, h1, r1⟩ := trodAll_cons r0
  obtain ⟨rfl, rfl, rfl⟩ := trodAll_nil r1
  obtain rfl : args = #[v0, v1] := by cases args; simp_all
  obtain ⟨rfl, rfl⟩ := trodVars_none hV
  obtain ⟨a0, rfl, rfl, rfl, w0⟩ := open_int Try.underlying3 (hval 0 3 v0 rfl rfl) h0
  obtain ⟨a1, len1, cap1, rfl⟩ := okWide_slice Try.underlying84 (hval 1 84 v1 rfl rfl)
  have k1 := h1
  have lt1 : ∀ x ∈ p1, x.block < W.heap.size := by obtain ⟨m, hm⟩ := k1; exact DataW.trod_lt m _ _ _ hm
  obtain ⟨z1, hz1, hc1, hC1, ok1⟩ := (by obtain ⟨fuel, hf⟩ := h1; exact Hand.open_steps6 hf : ∃ zs : List Print.S87, zs.length = len1 ∧ len1 ≤ cap1 ∧ Kd.C Print.k87 W a1 len1 zs ∧ ∀ z ∈ zs, Hand.okS6 z)
  subst hz1
  clear hA0 hval0 hsz0
  refine (Hand.journalPlays_any a0 a1 cap1 z1 W hC1 hc1 ok1).mono fun e W' ⟨he, bel⟩ => ?_
  subst he
  exact ⟨_, rfl, _, _, _, [], _, [], hW', trodAll_mk1 (shut_bool Try.underlying4 _), (trodAll_cons_mk (shut_int Try.underlying3 w0) (trodAll_cons_mk (Below.trod laidOut (by kernel_rfl) (of_decide_eq_true (by kernel_rfl)) k1 bel lt1) trodAll_mk0)), rfl, bel.frame _, fun h => by cases h⟩
theorem over : Rows.journalPlaysRow.holds Try.pinned (OpenSpec.ofChange Rows.journalPlaysSpec) :=
  OpenClaim.holds_of_wide 25 Try.f25 rfl rfl rfl rfl rfl rfl rfl ⟨rfl, rfl, rfl, rfl, rfl⟩ rfl rfl rfl rfl rfl (by kernel_rfl) Try.func25 (by unfold joinedFacts; rw [Enter.enterP, Enter.liftsP, Enter.mkP]; kernel_rfl)
    (of_decide_eq_true (by kernel_rfl)) (by unfold Func.isWrapper; first | (rw [if_pos (by decide +kernel)]; kernel_rfl) | (rw [if_neg (by decide +kernel)]; exact ⟨rfl, rfl⟩))
    (fun os started H enc _ => lifted os started H enc)
theorem proved : Rows.JournalPlaysSaid := over
#print axioms proved
end Go.Proofs.Ytbcienbnhchdeaa.journalPlays
namespace Go.Proofs.Ytbcienbnhchdeaa
/-- The row, under a short name, for the claim. -/
theorem journalPlays_holds : Rows.JournalPlaysSaid := journalPlays.proved
end Go.Proofs.Ytbcienbnhchdeaa
