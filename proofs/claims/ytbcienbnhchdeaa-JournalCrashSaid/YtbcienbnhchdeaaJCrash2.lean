/- LawJournalCrash: the texts JHand, JLives, JLaws, JSwaps, JTorn, JCrash, HandO, HandP, LawJournalCrash, joined: contracts of the functions that the statement reaches, and plain laws. -/
import Derived.BigQuiet
import Derived.Deep.Matrix
import Derived.ProofKit
import Derived.OpenShut
import Derived.Deep.Slices
import Derived.Test.YtbcienbnhchdeaaRows
import Derived.WalkKit
import Derived.ShutString
import Derived.ChangeOld
import Derived.Below
import Derived.SizedLaws
import Derived.Test.YtbcienbnhchdeaaJCrash0
import Derived.Test.YtbcienbnhchdeaaJCrash1

/- A journal in memory, and what its methods do. -/
namespace Go.Proofs.Ytbcienbnhchdeaa.Hand
open Go Go.RowKit Go.Proofs.YtbcienbnhchdeaaW.PrintLast Go.Proofs.YtbcienbnhchdeaaW.PrintWords Go.Proofs.YtbcienbnhchdeaaW.PrintMore Print FrameC FrameL FrameS FrameR JMath
set_option linter.unusedVariables false
set_option linter.unusedSimpArgs false
attribute [local go_sem] max2_int min2_int max_two min_two
theorem KE_ne {t : Nat} (ht : t ≠ 22 ∧ t ≠ 5) : ∀ q, q ∈ 22 :: KS.E → q ≠ t := by
  intro q hq
  have hq2 : q = 22 ∨ q = 5 := by simpa [KS, Kd.slice, Kd.int, Kd.scalar] using hq
  rcases hq2 with rfl | rfl
  · exact fun e => ht.1 e.symm
  · exact fun e => ht.2 e.symm
theorem JCells.below {w w1 : World} {gj : Nat} {d v : Value} {s : Int} (h : JCells w gj d v s) (hb : Below w.heap.size w w1) : JCells w1 gj d v s := (hb.block gj (blk_lt h)).trans h
theorem JCells.moved {w w1 : World} {gj : Nat} {d v : Value} {s : Int} (h : JCells w gj d v s) {S : Nat → Prop} (hm : Moved w w1 S) (hk : ¬ S gj) : JCells w1 gj d v s := (hm.kept.2 gj (blk_lt h) hk).trans h
theorem JCells.put {w : World} {gj : Nat} {d v v1 : Value} {s : Int} (h : JCells w gj d v s) : JCells (w.setCell ⟨gj, 1, none⟩ v1) gj d v1 s := blk_set h 1 v1
theorem JCells.puts {w : World} {gj : Nat} {d v : Value} {s s1 : Int} (h : JCells w gj d v s) : JCells (w.setCell ⟨gj, 2, none⟩ (.int .i64 s1)) gj d v s1 := blk_set h 2 (.int .i64 s1)
theorem DiskAt.set {w : World} {g gj : Nat} {kd : Nat → Prop} {room safe : Nat} {bs : List Int} {d v : Value} {s : Int} (h : DiskAt w g kd room safe bs) (hj : JCells w gj d v s) (i : Nat) (u : Value) : DiskAt (w.setCell ⟨gj, i, none⟩ u) g kd room safe bs := by
  obtain ⟨⟨x, h1, h2⟩, a, b, c, e⟩ := h
  have hne : g ≠ gj := fun e => by subst e; exact blk_ne h1 hj (by decide) rfl
  exact ⟨⟨x, (Below.heap_setCell w ⟨gj, i, none⟩ u g hne).trans h1, B_set h2 hj (by decide) i u⟩, a, b, c, e⟩
section
variable {w : World} {gj g room dsafe : Nat} {kd : Nat → Prop} {bs : List Int} {v0 : Value} {s0 : Int}
set_option maxRecDepth 100000 in
set_option maxHeartbeats 1000000 in
theorem open_any (hj : JCells w gj (.pointer (some ⟨g, 0, none⟩)) v0 s0) (hd : DiskAt w g kd room dsafe bs) (hkd : ∀ k, kd k → k < w.heap.size ∧ k ≠ gj) {ps : List (List Int)} {n : Nat} {x : Int} (hs : frame_Scan.f bs = some (ps, (n : Int), x)) (hn : n ≤ bs.length) :
    Calls Try.prog 99 #[.pointer (some ⟨gj, 0, none⟩)] w fun e w' => e = .returned (.int .i64 ((bs.length : Int) - (n : Int))) ∧ ∃ v, JCells w' gj (.pointer (some ⟨g, 0, none⟩)) v (ps.length : Int) ∧ DiskAt w' g kd room n (bs.take n) ∧ Kd.R KS 22 w' w.heap.size (fun _ => True) v ps ∧ Moved w w' (fun k => k = gj ∨ OfDisk g kd k) := by
  have HJ := Aside0.mk hj
  have HD := Aside0.mk hd
  have HK := Aside0.mk hkd
  have HS := Aside0.mk hs
  have hbl := hd.roomLe
  have hbm := hd.most
  obtain ⟨c0, c1, c2, fr⟩ := j_cells hj
  clear hj hd hkd hs c1 c2 fr
  go_enter Try.func99, Try.ntmps99
  go_wp2_with (first
    | (go_at_call 41; refine (all_any HD.out).mono ?_; rintro e w1 ⟨v1, rfl, ho, hb⟩; obtain ⟨A1, k1, rfl, hl1, hC1⟩ := Kd.R_reads ho; have HC1 := Aside0.mk hC1; have HB1 := Aside0.mk hb; clear ho hb hC1)
    | (go_at_call 68; refine (frame_Scan.calls A1 k1 bs ps (n : Int) x w1 HC1.out hl1 HS.out).mono ?_; rintro e w2 ⟨v2, rfl, hS, hb⟩; obtain ⟨A2, k2, rfl⟩ := Kd.S_slice hS; have HR := Aside0.mk (show Kd.R KS 22 w2 w1.heap.size (fun _ => True) _ ps from Kd.S_R hS); have HB2 := Aside0.mk hb; have HJ2 := Aside0.mk ((HJ.out.below HB1.out).below hb); have HD2 := Aside0.mk ((HD.out.below HB1.out).below hb); obtain ⟨c0', c1', c2', fr'⟩ := j_cells HJ2.out; clear hS hb)
    | (go_at_call 43; refine (len_any HD2.out).mono ?_; rintro e w3 ⟨rfl, rfl⟩)
    | (go_at_call 57; refine (cut_ok n HD2.out hn).mono ?_; rintro e w4 ⟨rfl, hd, hm⟩; have HJ4 := Aside0.mk (HJ2.out.moved hm (fun hk => hk.elim (fun e => by obtain ⟨⟨u, h1, _⟩, _⟩ := HD2.out; subst e; exact blk_ne h1 HJ2.out (by decide) rfl) (fun hk => (HK.out _ hk).2 rfl))); have HD4 := Aside0.mk hd; have HM4 := Aside0.mk hm; clear hd hm; obtain ⟨p0, p1, p2, q0⟩ := j_cells HJ4.out))
  go_ret
  have hgl : g < w.heap.size := HD.out.lt
  have hs1 := HB1.out.size
  have R4 : Kd.R KS 22 w4 w.heap.size (fun _ => True) (.slice A2 ps.length k2) ps := by
    refine Kd.R_mono (Kd.R_lower (Kd.R_kept (Kd.R_bound HR.out) HM4.out.kept (fun k hk hS => ?_)) hs1) (fun _ _ => trivial)
    rcases hS with rfl | hS
    · have := hk.2.1; omega
    · have := (HK.out _ hS).1; have := hk.2.1; omega
  refine ⟨rfl, .slice A2 ps.length k2, HJ4.out.put.puts, (HD4.out.set HJ4.out 1 _).set HJ4.out.put 2 _, Kd.R_set (Kd.R_set R4 HJ4.out (KE_ne (by decide)) 1 _) HJ4.out.put (KE_ne (by decide)) 2 _, ?_⟩
  exact ((((Moved.of_below (below_step HB1.out HB2.out) (fun k => k = gj ∨ OfDisk g kd k)).trans HM4.out (fun k hk => .inl (.inr hk)))).setCell (.inl (.inl rfl)) _).setCell (.inl (.inl rfl)) _
end
/-- A journal: its disk at g, its entries, how many are safe; what its rows lie in lies from N on. -/
structure JAt (N : Nat) (w : World) (gj g room : Nat) (l : List (List Int)) (s : Nat) : Prop where
  ex : ∃ (v : Value) (kd : Nat → Prop), JCells w gj (.pointer (some ⟨g, 0, none⟩)) v (s : Int) ∧ DiskAt w g kd room (allF (l.take s)).length (allF l) ∧ Kd.R KS 22 w N (fun k => ¬ kd k) v l ∧ (∀ k, kd k → N ≤ k ∧ k < w.heap.size ∧ k ≠ gj)
  sl : s ≤ l.length
  okl : ∀ p ∈ l, OkP p
/-- What a journal's method may turn. -/
def JSet (N gj g : Nat) (k : Nat) : Prop := k = gj ∨ k = g ∨ N ≤ k
section
variable {N : Nat} {w w1 : World} {gj g room s : Nat} {l : List (List Int)}
theorem JAt.step (h : JAt N w gj g room l s) (hs : w.heap.size ≤ w1.heap.size) (hj : w1.heap[gj]? = w.heap[gj]?) (hg : w1.heap[g]? = w.heap[g]?) (hN : ∀ k, N ≤ k → k < w.heap.size → w1.heap[k]? = w.heap[k]?) : JAt N w1 gj g room l s := by
  obtain ⟨⟨v, kd, h1, h2, h3, h4⟩, h5, h6⟩ := h
  exact ⟨⟨v, kd, hj.trans h1, h2.step hg (fun k hk hlt => hN k (h4 k hk).1 hlt), Kd.R_mono (Kd.R_step (Kd.R_bound h3) (fun k hk hlt => hN k hk.2.1 hlt)) (fun k hk => hk.1), fun k hk => ⟨(h4 k hk).1, by have := (h4 k hk).2.1; omega, (h4 k hk).2.2⟩⟩, h5, h6⟩
theorem JAt.lt (h : JAt N w gj g room l s) : gj < w.heap.size ∧ g < w.heap.size := by
  obtain ⟨⟨v, kd, h1, h2, _⟩, _⟩ := h
  exact ⟨blk_lt h1, h2.lt⟩
theorem JAt.next (h : JAt N w gj g room l s) (hb : Below w.heap.size w w1) : JAt N w1 gj g room l s := h.step hb.size (hb.block gj h.lt.1) (hb.block g h.lt.2) (fun k _ hk => hb.block k hk)
theorem JAt.drewN (h : JAt N w gj g room l s) (n : Nat) : JAt N (w.drewN n) gj g room l s := h.next (pw_below_drewN (Below.refl _ _) n)
theorem JAt.moved (h : JAt N w gj g room l s) {S : Nat → Prop} (hm : Moved w w1 S) (h1 : ¬ S gj) (h2 : ¬ S g) (h3 : ∀ k, N ≤ k → ¬ S k) : JAt N w1 gj g room l s :=
  h.step hm.size (hm.kept.2 gj h.lt.1 h1) (hm.kept.2 g h.lt.2 h2) (fun k hk hlt => hm.kept.2 k hlt (h3 k hk))
theorem JAt.small (h : JAt N w gj g room l s) : (allF l).length ≤ room ∧ room ≤ 1048576 ∧ l.length ≤ 1048576 ∧ (∀ x ∈ l, x.length ≤ 1000000) := by
  obtain ⟨⟨v, kd, h1, h2, _⟩, _, h6⟩ := h
  have h7 := allF_len l
  have h8 := h2.roomLe
  have h9 := h2.most
  exact ⟨h8, h9, by omega, fun x hx => by have := (h6 x hx).2.2; omega⟩
theorem JSet.moved {S : Nat → Prop} (hm : Moved w w1 S) (hs : ∀ k, S k → k = gj ∨ k = g ∨ N ≤ k) : Moved w w1 (JSet N gj g) := hm.mono hs
set_option maxRecDepth 100000 in
theorem jl_any (h : JAt N w gj g room l s) : Calls Try.prog 78 #[.pointer (some ⟨gj, 0, none⟩)] w fun e w' => e = .returned (.int .i64 (l.length : Int)) ∧ w = w' := by
  obtain ⟨⟨v, kd, h1, _, h3, _⟩, _⟩ := h
  obtain ⟨A, c, rfl⟩ := Kd.R_slice h3
  exact jlen_any h1
set_option maxRecDepth 100000 in
theorem js_any (h : JAt N w gj g room l s) : Calls Try.prog 77 #[.pointer (some ⟨gj, 0, none⟩)] w fun e w' => e = .returned (.int .i64 (s : Int)) ∧ w = w' := by
  obtain ⟨⟨v, kd, h1, _, h3, _⟩, _⟩ := h
  obtain ⟨c0, c1, c2, fr⟩ := j_cells h1
  clear h1 h3 c0 c1 fr
  go_enter Try.func77, Try.ntmps77
  go_wp2
  go_ret
  exact ⟨rfl, rfl⟩
set_option maxRecDepth 100000 in
theorem jr_any (h : JAt N w gj g room l s) : Calls Try.prog 84 #[.pointer (some ⟨gj, 0, none⟩)] w fun e w' => e = .returned (.int .i64 ((room : Int) - ((allF l).length : Int))) ∧ ∃ n, w' = w.drewN n := by
  obtain ⟨⟨v, kd, h1, h2, _⟩, _⟩ := h
  obtain ⟨c0, c1, c2, fr⟩ := j_cells h1
  have H2 := Aside0.mk h2
  clear h1 h2 c1 c2 fr
  go_enter Try.func84, Try.ntmps84
  go_wp2_with (go_at_call 59; refine (room_any H2.out).mono ?_; rintro e w1 ⟨rfl, n, rfl⟩)
  go_ret
  exact ⟨rfl, n, rfl⟩
theorem ja_any (h : JAt N w gj g room l s) : Calls Try.prog 80 #[.pointer (some ⟨gj, 0, none⟩)] w fun e w' => ∃ (A' : Option Addr) (c' : Nat), e = .returned (.slice A' l.length c') ∧ l.length ≤ c' ∧ Kd.C KS w' A' l.length l ∧ Below w.heap.size w w' := by
  have hsm := h.small
  have hx := hsm.2.2.2
  obtain ⟨⟨v, kd, h1, h2, h3, _⟩, _, h6⟩ := h
  obtain ⟨A, c, rfl, hc, hC⟩ := Kd.R_reads h3
  by_cases hl : l.length ≤ 1000000
  · exact jall_any h1 hC hc hx hl
  · exfalso
    have h7 := allF_len7 h6
    omega
theorem jaF_any (h : JAt N w gj g room l s) : Calls Try.prog 80 #[.pointer (some ⟨gj, 0, none⟩)] w fun e w' => ∃ (A' : Option Addr) (c' : Nat), e = .returned (.slice A' l.length c') ∧ l.length ≤ c' ∧ Kd.F KS w' (fun k => w.heap.size ≤ k ∨ T5 w' k) A' l.length l ∧ Below w.heap.size w w' := by
  have hsm := h.small
  have hx := hsm.2.2.2
  obtain ⟨⟨v, kd, h1, h2, h3, _⟩, _, h6⟩ := h
  obtain ⟨A, c, rfl, hc, hC⟩ := Kd.R_reads h3
  by_cases hl : l.length ≤ 1000000
  · exact jallF_any h1 hC hc hx hl
  · exfalso
    have h7 := allF_len7 h6
    omega
theorem JAt.cells (h : JAt N w gj g room l s) : ∃ v, JCells w gj (.pointer (some ⟨g, 0, none⟩)) v (s : Int) := by
  obtain ⟨⟨v, kd, h1, _⟩, _⟩ := h
  exact ⟨v, h1⟩
theorem JAt.roomCall (h : JAt N w gj g room l s) : Calls Try.prog 59 #[.pointer (some ⟨g, 0, none⟩)] w fun e w' => e = .returned (.int .i64 ((room : Int) - ((allF l).length : Int))) ∧ ∃ n, w' = w.drewN n := by
  obtain ⟨⟨v, kd, _, h2, _⟩, _⟩ := h
  exact room_any h2
variable {A : Option Addr} {c : Nat} {p : List Int}
set_option maxRecDepth 100000 in
theorem jframe_ok (h : JAt N w gj g room l s) (hC : Kd.C (Kd.int .u8) w A p.length p) (hc : p.length ≤ c) (hp : OkP p) (hfit : (allF l).length + (p.length + 6) ≤ room) :
    Calls Try.prog 100 #[.pointer (some ⟨gj, 0, none⟩), .slice A p.length c] w fun e w' => ∃ (A' : Option Addr) (c' : Nat), e = .returned (.tuple #[.slice A' (frameOf p).length c', .int .i64 0]) ∧ Kd.R (Kd.int .u8) 5 w' w.heap.size (fun _ => True) (.slice A' (frameOf p).length c') (frameOf p) ∧ Below w.heap.size w w' := by
  have H := Aside0.mk h
  have HC := Aside0.mk hC
  have PUT : Aside0 (∀ W, Below w.heap.size w W → Calls Try.prog 62 #[.slice none 0 0, .slice A p.length c] W fun e w' => ∃ (A' : Option Addr) (c' : Nat), e = .returned (.tuple #[.slice A' (frameOf p).length c', .int .i64 0]) ∧ Kd.R (Kd.int .u8) 5 w' W.heap.size (fun _ => True) (.slice A' (frameOf p).length c') (frameOf p) ∧ Below W.heap.size W w') := Aside0.mk (fun W hW => by
    refine (put_fresh none A 0 c [] p W (Kd.C_nil _ _) (Nat.le_refl _) (by simp) (Kd.C_below hC hW) hc hp).mono ?_
    rintro e w' ⟨v, he, hR, hb⟩
    rw [List.nil_append] at hR
    obtain ⟨A', c', rfl⟩ := Kd.R_slice hR
    exact ⟨A', c', he, hR, hb⟩)
  have hfl := frameOf_len p
  have hp1 := hp.2.2
  have hsm := h.small
  have hle : ((frameOf p).length : Int) ≤ (room : Int) - ((allF l).length : Int) := by omega
  have hle2 : (frameOf p).length ≤ 1006 := by omega
  obtain ⟨v, hj⟩ := h.cells
  have HJ := Aside0.mk hj
  clear h hC hp hfit hfl hp1 hsm hj
  generalize (frameOf p).length = fl at *
  go_enter Try.func100, Try.ntmps100
  go_wp2_with (first
    | (go_at_call 62; refine (PUT.out _ (Below.refl _ _)).mono ?_; rintro e w1 ⟨A', c', rfl, h2, hb⟩; have HC1 := Aside0.mk h2; have HB := Aside0.mk hb; obtain ⟨c0, c1, c2, fr⟩ := j_cells (HJ.out.below hb); clear h2 hb c1 c2 fr)
    | (go_at_call 59; refine ((H.out.next HB.out).roomCall).mono ?_; rintro e w2 ⟨rfl, n, rfl⟩))
  go_ret2
  exact ⟨A', c', rfl, Kd.R_below HC1.out (pw_below_drewN (Below.refl _ _) n), pw_below_drewN HB.out n⟩
set_option maxRecDepth 100000 in
theorem jframe_full (h : JAt N w gj g room l s) (hC : Kd.C (Kd.int .u8) w A p.length p) (hc : p.length ≤ c) (hp : OkP p) (hfit : room < (allF l).length + (p.length + 6)) :
    Calls Try.prog 100 #[.pointer (some ⟨gj, 0, none⟩), .slice A p.length c] w fun e w' => ∃ b : Value, e = .returned (.tuple #[b, .int .i64 4]) ∧ Below w.heap.size w w' := by
  have H := Aside0.mk h
  have PUT : Aside0 (∀ W, Below w.heap.size w W → Calls Try.prog 62 #[.slice none 0 0, .slice A p.length c] W fun e w' => ∃ (A' : Option Addr) (c' : Nat), e = .returned (.tuple #[.slice A' (frameOf p).length c', .int .i64 0]) ∧ (frameOf p).length ≤ c' ∧ Kd.C (Kd.int .u8) w' A' (frameOf p).length (frameOf p) ∧ Below W.heap.size W w') := Aside0.mk (fun W hW => by
    refine (put_frame none A 0 c [] p W (Kd.C_nil _ _) (Nat.le_refl _) (by simp) (Kd.C_below hC hW) hc (by have := hp.2.2; omega) hp.1).mono ?_
    rintro e w' ⟨A', c', r, x, he, hr, h1, h2, h3⟩
    rw [if_neg (by have := hp.2.1; omega), if_neg (by have := hp.2.2; omega)] at hr
    injection hr with e1 e2
    subst e1 e2
    exact ⟨A', c', he, h1, h2, h3⟩)
  have hfl := frameOf_len p
  have hp1 := hp.2.2
  have hsm := h.small
  have hle : (room : Int) - ((allF l).length : Int) < ((frameOf p).length : Int) := by omega
  have hle2 : (frameOf p).length ≤ 1006 := by omega
  obtain ⟨v, hj⟩ := h.cells
  have HJ := Aside0.mk hj
  clear h hC hp hfit hfl hp1 hsm hj
  generalize (frameOf p).length = fl at *
  go_enter Try.func100, Try.ntmps100
  go_wp2_with (first
    | (go_at_call 62; refine (PUT.out _ (Below.refl _ _)).mono ?_; rintro e w1 ⟨A', c', rfl, h1, h2, hb⟩; have HB := Aside0.mk hb; obtain ⟨c0, c1, c2, fr⟩ := j_cells (HJ.out.below hb); clear h2 hb c1 c2 fr)
    | (go_at_call 59; refine ((H.out.next HB.out).roomCall).mono ?_; rintro e w2 ⟨rfl, n, rfl⟩))
  go_ret2
  exact ⟨_, rfl, pw_below_drewN HB.out n⟩
/-- What Put says to a payload that may not be. -/
theorem put_no (x : Int) (hx : (p.length = 0 ∧ x = 1) ∨ (1000 < p.length ∧ x = 12)) (hl63 : p.length ≤ 9223372036854775807) (w : World) (v0 : Value) (hv0 : ∃ A n c, v0 = .slice A n c) :
    Calls Try.prog 62 #[v0, .slice A p.length c] w fun e w' => e = .returned (.tuple #[v0, .int .i64 x]) ∧ ∃ n, w' = w.drewN n := by
  obtain ⟨A0, n0, c0, rfl⟩ := hv0
  rcases hx with ⟨h0, rfl⟩ | ⟨h0, rfl⟩
  · rw [h0]
    go_enter Try.func62, Try.ntmps62
    go_wp2
    go_ret2
    exact ⟨rfl, 0, rfl⟩
  · have h1 : ((p.length : Int) == 0) = false := by simp; intro e; subst e; simp at h0
    have SZ : Aside0 (∀ W, Calls Try.prog 64 #[.int .i64 (p.length : Int)] W fun e w' => e = .returned (.int .i64 0) ∧ ∃ n, w' = W.drewN n) := Aside0.mk (fun W => by
      refine (size_any p.length W).mono ?_
      rintro e w' ⟨he, hd⟩
      rw [if_neg (by omega)] at he
      exact ⟨he, by obtain ⟨n, hn⟩ := hd; exact ⟨n, hn⟩⟩)
    generalize p.length = q at *
    go_enter Try.func62, Try.ntmps62
    go_wp2_with (go_at_call 64; refine (SZ.out _).mono ?_; rintro e w1 ⟨rfl, n, rfl⟩)
    go_ret2
    exact ⟨rfl, n, rfl⟩
set_option maxRecDepth 100000 in
theorem jframe_no (x : Int) (hx : (p.length = 0 ∧ x = 1) ∨ (1000 < p.length ∧ x = 12)) (hl63 : p.length ≤ 9223372036854775807) :
    Calls Try.prog 100 #[.pointer (some ⟨gj, 0, none⟩), .slice A p.length c] w fun e w' => e = .returned (.tuple #[.slice none 0 0, .int .i64 x]) ∧ ∃ n, w' = w.drewN n := by
  have PUT := Aside0.mk (fun W => put_no (A := A) (c := c) x hx hl63 W (.slice none 0 0) ⟨_, _, _, rfl⟩)
  have hx0 : ((x : Int) == 0) = false := by rcases hx with ⟨_, rfl⟩ | ⟨_, rfl⟩ <;> rfl
  clear hx
  generalize p.length = q at *
  go_enter Try.func100, Try.ntmps100
  go_wp2_with (go_at_call 62; refine (PUT.out _).mono ?_; rintro e w1 ⟨rfl, n, rfl⟩)
  go_ret2
  exact ⟨rfl, n, rfl⟩
/-- A row whose footprint is not the disk's, behind what the disk's method turned. -/
theorem row_moved {W W1 : World} {kd kd' ok : Nat → Prop} {v : Value} {xs : List (List Int)} {rm sf : Nat} {bs : List Int} (h : Kd.R KS 22 W N (fun k => ¬ kd k) v xs) (hd : DiskAt W g kd' rm sf bs) (hm : Moved W W1 (OfDisk g ok)) (hok : ∀ k, ok k → kd k ∨ W.heap.size ≤ k) : Kd.R KS 22 W1 N (fun k => ¬ kd k ∧ k < W.heap.size) v xs := by
  obtain ⟨⟨u, h1, _⟩, _⟩ := hd
  refine Kd.R_mono (Kd.R_kept (Kd.R_bound h) hm.kept (fun k hk hS => ?_)) (fun k hk => ⟨hk.1, hk.2.2.1⟩)
  obtain ⟨hn, hb, hlt, q, hq, cs, hc⟩ := hk
  rcases hS with rfl | hS
  · have h2 := hc.symm.trans h1
    injection h2 with h2
    injection h2 with _ h2 _
    exact KE_ne (t := 96) (by decide) q hq h2
  · rcases hok k hS with h3 | h3
    · exact hn h3
    · omega
set_option maxRecDepth 100000 in
set_option maxHeartbeats 2000000 in
theorem jappend_ok (h : JAt N w gj g room l s) (hC : Kd.C (Kd.int .u8) w A p.length p) (hc : p.length ≤ c) (hp : OkP p) (hfit : (allF l).length + (p.length + 6) ≤ room) (hN : N ≤ w.heap.size) :
    Calls Try.prog 75 #[.pointer (some ⟨gj, 0, none⟩), .slice A p.length c] w fun e w' => e = .returned (.int .i64 0) ∧ JAt N w' gj g room (l ++ [p]) s ∧ Moved w w' (JSet N gj g) := by
  have H := Aside0.mk h
  have HC := Aside0.mk hC
  have HP := Aside0.mk hp
  have hpl : p.length ≤ 1000 := hp.2.2
  have FR := Aside0.mk (jframe_ok h hC hc hp hfit)
  have HF := Aside0.mk hfit
  have hsm := h.small
  have hl1 : l.length ≤ 1000000 := by have := allF_len7 h.okl; omega
  have HLE := Aside0.mk hfit
  obtain ⟨⟨v, kd, hj, hd, hr, hk⟩, hsl, hok⟩ := h
  obtain ⟨AL, cL, rfl⟩ := Kd.R_slice hr
  have HJ := Aside0.mk hj
  have HD := Aside0.mk hd
  have HR := Aside0.mk hr
  have HK := Aside0.mk hk
  have HOK := Aside0.mk hok
  clear hC hp hfit hsm hj hd hr hk hok
  generalize hfl : (frameOf p).length = fl at *
  have HFL := Aside0.mk hfl
  clear hfl
  go_enter Try.func75, Try.ntmps75
  go_wp2_with (go_at_call 100; refine FR.out.mono ?_; rintro e w1 ⟨A', c', rfl, h2, hb⟩; have HC1 := Aside0.mk h2; have HB := Aside0.mk hb; clear h2 hb)
  have HJ1 := Aside0.mk (HJ.out.below HB.out)
  have HR1 := Aside0.mk (Kd.R_below HR.out HB.out)
  have HCP := Aside0.mk (Kd.C_below HC.out HB.out)
  refine start_ (n := 12) (S := fun w' => JCells w' gj (.pointer (some ⟨g, 0, none⟩)) (.slice AL l.length cL) (s : Int) ∧ w'.cell? ⟨gj, 1, none⟩ = some (.slice AL l.length cL)) (ds := [11]) #[false, false, false, false, false, false, false, false, false, false, false, false] (by kernel_rfl) rfl rfl ⟨HJ1.out, (j_cells HJ1.out).2.1⟩ (fun hHeld => ?_)
  refine pure_ (i := 0) (N := some 16) (v := ?_) (a' := ?_) #[true, false, false, false, false, false, false, false, false, false, false, false] rfl rfl (by kernel_rfl) (fun _ _ _ h => h) (Or.inl ⟨by rfl, ?_⟩) ?_ ?_
  rotate_left
  · intro w'
    go_simp
    with_reducible rfl
  rotate_left
  · simp only [Act.put, List.setIfInBounds_toArray, List.set_cons_zero, List.set_cons_succ, i64_w, i32_w]
    rfl
  refine pure_ (i := 1) (N := some 17) (v := ?_) (a' := ?_) #[true, true, false, false, false, false, false, false, false, false, false, false] rfl rfl (by kernel_rfl) (fun _ _ _ h => h) (Or.inl ⟨by rfl, ?_⟩) ?_ ?_
  rotate_left
  · intro w'
    go_simp
    with_reducible rfl
  rotate_left
  · simp only [Act.put, List.setIfInBounds_toArray, List.set_cons_zero, List.set_cons_succ, i64_w, i32_w]
    rfl
  refine pure_ (i := 2) (N := some 18) (v := ?_) (a' := ?_) #[true, true, true, false, false, false, false, false, false, false, false, false] rfl rfl (by kernel_rfl) (fun _ _ _ h => h) (Or.inl ⟨by rfl, ?_⟩) ?_ ?_
  rotate_left
  · intro w'
    go_simp
    with_reducible rfl
  rotate_left
  · simp only [Act.put, List.setIfInBounds_toArray, List.set_cons_zero, List.set_cons_succ, i64_w, i32_w]
    rfl
  refine pure_ (i := 3) (N := some 19) (v := ?_) (a' := ?_) #[true, true, true, true, false, false, false, false, false, false, false, false] rfl rfl (by kernel_rfl) (fun _ _ _ h => h) (Or.inl ⟨by rfl, ?_⟩) ?_ ?_
  rotate_left
  · intro w'
    go_simp
    with_reducible rfl
  rotate_left
  · simp only [Act.put, List.setIfInBounds_toArray, List.set_cons_zero, List.set_cons_succ, i64_w, i32_w]
    rfl
  refine pure_ (i := 5) (N := some 21) (v := ?_) (a' := ?_) #[true, true, true, true, false, true, false, false, false, false, false, false] rfl rfl (by kernel_rfl) (fun _ _ _ h => h) (Or.inl ⟨by rfl, ?_⟩) ?_ ?_
  rotate_left
  · intro w'
    go_simp
    with_reducible rfl
  rotate_left
  · simp only [Act.put, List.setIfInBounds_toArray, List.set_cons_zero, List.set_cons_succ, i64_w, i32_w]
    rfl
  refine take_ (i := 4) (N := some 20) (v := ?_) (a' := ?_) #[true, true, true, true, true, true, false, false, false, false, false, false] rfl rfl (by kernel_rfl) (fun _ _ _ h => h) (Or.inl ⟨by rfl, ?_⟩) hHeld ?_ ?_
  rotate_left
  · rintro w' ⟨s0, s1⟩
    go_simp
    with_reducible rfl
  rotate_left
  · simp only [Act.put, List.setIfInBounds_toArray, List.set_cons_zero, List.set_cons_succ, i64_w, i32_w]
    rfl
  refine one_ (i := 6) (N := some 22) #[true, true, true, true, true, true, true, false, false, false, false, false] rfl rfl (by kernel_rfl) (by decide) (fun K hK => ?_)
  refine goes_ Try.func96 (by kernel_rfl) rfl #[.slice A p.length c] (by rfl) rfl rfl (by simp only [List.map_toArray, List.map_cons, List.map_nil]; rfl) ?_
  with_reducible refine (clone_any A c p w1.drew (Kd.C_below HCP.out (below_drew (Below.refl _ _))) (by omega)).mono ?_
  rintro e w3 ⟨v3, rfl, hR3, hb3⟩
  refine ⟨_, rfl, ?_⟩
  obtain ⟨A3, c3, rfl⟩ := Kd.R_slice hR3
  have HR3 := Aside0.mk hR3
  have HB3 := Aside0.mk (below_step (below_drew (Below.refl _ w1)) hb3)
  have hj3 := hHeld.1.below hb3
  clear hR3 hb3
  refine hK.out _ _ ⟨hj3, (j_cells hj3).2.1⟩ (fun hHeld => ?_)
  clear hK K
  refine norm_ (a' := ?_) ?_ ?_
  rotate_left
  · show Act.put _ (some 22) _ = _
    simp only [Act.put, List.setIfInBounds_toArray, List.set_cons_zero, List.set_cons_succ, i64_w, i32_w]
    rfl
  refine one_ (i := 7) (N := some 23) #[true, true, true, true, true, true, true, true, false, false, false, false] rfl rfl (by kernel_rfl) (by decide) (fun K hK => ?_)
  refine value_ (w1 := ?_) (v := ?_) (by rfl) rfl ?_ ?_
  rotate_left 2
  · go_simp
    constructor
    · rfl
    · rfl
  have hj4 := hHeld.1.below (below_alloc (Below.refl _ _) (.cells #[.slice A3 p.length c3] 22))
  refine hK.out _ _ ⟨hj4, (j_cells hj4).2.1⟩ (fun hHeld => ?_)
  clear hK K
  refine norm_ (a' := ?_) ?_ ?_
  rotate_left
  · show Act.put _ (some 23) _ = _
    simp only [Act.put, List.setIfInBounds_toArray, List.set_cons_zero, List.set_cons_succ, i64_w, i32_w]
    rfl
  refine one_ (i := 8) (N := some 24) #[true, true, true, true, true, true, true, true, true, false, false, false] rfl rfl (by kernel_rfl) (by decide) (fun K hK => ?_)
  have hs1 := HB.out.size
  have hs3 := HB3.out.size
  refine Kd.R_append_step KS (w0 := w3) (W := w3) N (by rfl) (.tmp 20) (.tmp 23) 65 22 (.slice none 0 0) 24 (by rfl) Try.underlying65 info22' rfl (by decide) (by omega) (.slice AL l.length cL) l p [.slice A3 p.length c3] (fun k => ¬ kd k) (fun k => w1.heap.size ≤ k) (by rfl) (by rfl) ?aP ?aK ?aF (Kd.R_below HR1.out HB3.out) (Below.refl _ _) (by omega) (by omega) ?_
  case aP => exact ⟨_, rfl, Kd.R_lower (Kd.R_mono (Kd.R_bound HR3.out) (fun k hk => hk.2.1)) (by show N ≤ w1.drew.heap.size; exact Nat.le_trans hN hs1)⟩
  case aK => exact fun k hk => ⟨fun hkd => by have := (HK.out k hkd).2.1; omega, fun e => by have := Kd.R_lt HR1.out k e.symm; omega⟩
  case aF => exact fun k hk hkd => by have := (HK.out k hkd).2.1; omega
  intro v4 w4 hr4 hb4 hg4 hat4
  obtain ⟨A4, c4, rfl⟩ := Kd.R_slice hr4
  have hj5 : JCells w4 gj (.pointer (some ⟨g, 0, none⟩)) (.slice AL l.length cL) (s : Int) := (hg4.block gj (blk_lt (HJ1.out.below HB3.out)) (fun e => by obtain ⟨cs, hcs⟩ := Kd.R_typed (Kd.R_below HR1.out HB3.out) gj e.symm; exact blk_ne hcs (HJ1.out.below HB3.out) (by decide) rfl)).trans (HJ1.out.below HB3.out)
  have HR4 := Aside0.mk hr4
  have HG4 := Aside0.mk hg4
  have HB4 := Aside0.mk hb4
  have q0 := (j_cells hj5).2.2.2 1
  clear hr4 hb4 hg4 hat4
  refine hK.out _ _ ⟨hj5, (j_cells hj5).2.1⟩ (fun hHeld => ?_)
  clear hK K
  refine norm_ (a' := ?_) ?_ ?_
  rotate_left
  · show Act.put _ (some 24) _ = _
    simp only [Act.put, List.setIfInBounds_toArray, List.set_cons_zero, List.set_cons_succ, i64_w, i32_w]
    rfl
  refine pure_ (i := 9) (N := some 25) (v := ?_) (a' := ?_) #[true, true, true, true, true, true, true, true, true, true, false, false] rfl rfl (by kernel_rfl) (fun _ _ _ h => h) (Or.inl ⟨by rfl, ?_⟩) ?_ ?_
  rotate_left
  · intro w'
    go_simp
    with_reducible rfl
  rotate_left
  · simp only [Act.put, List.setIfInBounds_toArray, List.set_cons_zero, List.set_cons_succ, i64_w, i32_w]
    rfl
  refine pure_ (i := 10) (N := some 26) (v := ?_) (a' := ?_) #[true, true, true, true, true, true, true, true, true, true, true, false] rfl rfl (by kernel_rfl) (fun _ _ _ h => h) (Or.inl ⟨by rfl, ?_⟩) ?_ ?_
  rotate_left
  · intro w'
    go_simp
    with_reducible rfl
  rotate_left
  · simp only [Act.put, List.setIfInBounds_toArray, List.set_cons_zero, List.set_cons_succ, i64_w, i32_w]
    rfl
  refine last_ (i := 11) (N := none) #[true, true, true, true, true, true, true, true, true, true, true, true] rfl rfl (by kernel_rfl) (by decide) (fun K hK => ?_)
  refine skip_ (w1 := ?_) (by rfl) rfl ?_ ?_
  rotate_left
  · go_simp
    rfl
  refine hK.out _ _ ?_
  clear hK K
  refine done_ (by kernel_rfl) ?_
  have hR3 := Kd.R_below HR1.out HB3.out
  have hgj : gj < w3.heap.size := blk_lt (HJ1.out.below HB3.out)
  have hown : ∀ k, (Value.slice AL l.length cL).ownBlock = some k → k < w.heap.size ∧ ¬ kd k := fun k hk => ⟨Kd.R_lt HR.out k hk, HR.out.1 k hk⟩
  have HJ5 := Aside0.mk hj5
  have HJ6 := Aside0.mk (hj5.put (v1 := .slice A4 (l.length + 1) c4))
  have hd3 := (HD.out.below HB.out).below HB3.out
  have hd4 : DiskAt w4 g kd room (allF (l.take s)).length (allF l) := hd3.step (HG4.out.block g hd3.lt (fun e => by obtain ⟨cs, hcs⟩ := Kd.R_typed hR3 g e.symm; obtain ⟨⟨u, h1, _⟩, _⟩ := hd3; exact blk_ne hcs h1 (by decide) rfl)) (fun k hk hlt => HG4.out.block k hlt (fun e => (hown k e.symm).2 hk))
  have HD5 := Aside0.mk ((hd4.set hj5 1 (.slice A4 (l.length + 1) c4)).mono (fun k hk => (.inl hk : kd k ∨ (w4.setCell ⟨gj, 1, none⟩ (.slice A4 (l.length + 1) c4)).heap.size ≤ k)))
  rw [List.length_append, List.length_singleton] at HR4
  have HR5 := Aside0.mk (Kd.R_set HR4.out hj5 (KE_ne (by decide)) 1 (.slice A4 (l.length + 1) c4))
  have hf3 := Kd.R_below HC1.out HB3.out
  have hf4 : Kd.R (Kd.int .u8) 5 w4 w.heap.size (fun _ => True) (.slice A' fl c') (frameOf p) := Kd.R_mono (Kd.R_step (Kd.R_bound hf3) (fun k hk hlt => HG4.out.block k hlt (fun e => by have := (hown k e.symm).1; have := hk.2.1; omega))) (fun _ _ => trivial)
  have hf5 := Kd.R_set hf4 hj5 (by simp [Kd.int, Kd.scalar]) 1 (.slice A4 (l.length + 1) c4)
  have HMV := Aside0.mk (show Moved w (w4.setCell ⟨gj, 1, none⟩ (.slice A4 (l.length + 1) c4)) (JSet N gj g) from (((Moved.of_below (below_step HB.out HB3.out) (JSet N gj g)).grown HG4.out (fun k hk => .inl (.inr (.inr (Kd.R_base HR.out k hk))))).setCell (.inl (.inl rfl)) _))
  have hsz5 : w.heap.size ≤ (w4.setCell ⟨gj, 1, none⟩ (.slice A4 (l.length + 1) c4)).heap.size := HMV.out.size
  generalize w4.setCell ⟨gj, 1, none⟩ (.slice A4 (l.length + 1) c4) = w5 at *
  obtain ⟨c0, c1, c2, fr⟩ := j_cells HJ6.out
  have WR : Aside0 (Calls Try.prog 38 #[.pointer (some ⟨g, 0, none⟩), .slice A' fl c'] w5 fun e w' => e = .returned (.int .i64 0) ∧ DiskAt w' g (fun k => kd k ∨ w5.heap.size ≤ k) room (allF (l.take s)).length (allF l ++ frameOf p) ∧ Moved w5 w' (OfDisk g (fun k => kd k ∨ w5.heap.size ≤ k))) := Aside0.mk (by
    have hC5 := (Kd.R_reads' hf5).2.2
    rw [← HFL.out]
    exact write_ok HD5.out (fun k hk => .inr hk) A' c' (frameOf p) hC5 (frameOf_ok HP.out.1) (by rw [frameOf_len]; exact HF.out))
  clear hR3 hgj hown hd3 hd4 hf3 hf4 hf5 hj5 HJ5 HG4 HB4 HB3 HR3 HC1 HB HJ1 HR1 HCP FR H c1 c2 fr
  go_wp2_with (go_at_call 38; refine WR.out.mono ?_; rintro e w6 ⟨rfl, hd, hm⟩; have HD6 := Aside0.mk hd; have HM6 := Aside0.mk hm; clear hd hm)
  go_ret
  have hlt5 := blk_lt HJ6.out
  have hsub : ∀ k, OfDisk g (fun k => kd k ∨ w5.heap.size ≤ k) k → JSet N gj g k := fun k hk => by
    rcases hk with rfl | hk | hk
    · exact .inr (.inl rfl)
    · exact .inr (.inr (HK.out k hk).1)
    · exact .inr (.inr (by omega))
  refine ⟨rfl, ⟨⟨.slice A4 (l.length + 1) c4, fun k => (kd k ∨ w5.heap.size ≤ k) ∧ k < w6.heap.size, HJ6.out.moved HM6.out (fun hk => ?_), ?_, ?_, fun k hk => ⟨?_, hk.2, ?_⟩⟩, by rw [List.length_append]; omega, ?_⟩, HMV.out.trans HM6.out (fun k hk => .inl (hsub k hk))⟩
  · rcases hk with e | hk | hk
    · obtain ⟨⟨u, h1, _⟩, _⟩ := HD5.out
      subst e
      exact blk_ne h1 HJ6.out (by decide) rfl
    · exact (HK.out _ hk).2.2 rfl
    · omega
  · have h := HD6.out.bound
    rw [List.take_append_of_le_length hsl, allF_append, allF_cons, allF_nil, List.append_nil]
    exact h
  · refine Kd.R_mono (row_moved HR5.out HD5.out HM6.out (fun k hk => hk)) (fun k hk hk2 => ?_)
    rcases hk2.1 with h | h
    · exact hk.1 h
    · have := hk.2; omega
  · rcases hk.1 with h | h
    · exact (HK.out k h).1
    · omega
  · rcases hk.1 with h | h
    · exact (HK.out k h).2.2
    · omega
  · intro q hq
    rcases List.mem_append.1 hq with h | h
    · exact HOK.out q h
    · rw [List.mem_singleton.1 h]; exact HP.out
set_option maxRecDepth 100000 in
theorem jappend_full (h : JAt N w gj g room l s) (hC : Kd.C (Kd.int .u8) w A p.length p) (hc : p.length ≤ c) (hp : OkP p) (hfit : room < (allF l).length + (p.length + 6)) :
    Calls Try.prog 75 #[.pointer (some ⟨gj, 0, none⟩), .slice A p.length c] w fun e w' => e = .returned (.int .i64 4) ∧ Below w.heap.size w w' := by
  have FR := Aside0.mk (jframe_full h hC hc hp hfit)
  clear h hC hp hfit
  go_enter Try.func75, Try.ntmps75
  go_wp2_with (go_at_call 100; refine FR.out.mono ?_; rintro e w1 ⟨b, rfl, hb⟩; have HB := Aside0.mk hb; clear hb)
  go_ret
  exact ⟨rfl, HB.out⟩
set_option maxRecDepth 100000 in
theorem jappend_no (x : Int) (hx : (p.length = 0 ∧ x = 1) ∨ (1000 < p.length ∧ x = 12)) (hl63 : p.length ≤ 9223372036854775807) :
    Calls Try.prog 75 #[.pointer (some ⟨gj, 0, none⟩), .slice A p.length c] w fun e w' => e = .returned (.int .i64 x) ∧ ∃ n, w' = w.drewN n := by
  have FR := Aside0.mk (jframe_no (gj := gj) (w := w) (A := A) (c := c) x hx hl63)
  have hx0 : ((x : Int) == 0) = false := by rcases hx with ⟨_, rfl⟩ | ⟨_, rfl⟩ <;> rfl
  have hx1 : ((x : Int) != 0) = true := by rcases hx with ⟨_, rfl⟩ | ⟨_, rfl⟩ <;> rfl
  clear hx
  generalize p.length = q at *
  go_enter Try.func75, Try.ntmps75
  go_wp2_with (go_at_call 100; refine FR.out.mono ?_; rintro e w1 ⟨rfl, n, rfl⟩)
  go_ret
  exact ⟨rfl, n, rfl⟩
theorem jtorn_no (x : Int) (keep : Int) (hx : (p.length = 0 ∧ x = 1) ∨ (1000 < p.length ∧ x = 12)) (hl63 : p.length ≤ 9223372036854775807) :
    Calls Try.prog 83 #[.pointer (some ⟨gj, 0, none⟩), .slice A p.length c, .int .i64 keep] w fun e w' => e = .returned (.int .i64 x) ∧ ∃ n, w' = w.drewN n := by
  have FR := Aside0.mk (jframe_no (gj := gj) (w := w) (A := A) (c := c) x hx hl63)
  have hx0 : ((x : Int) == 0) = false := by rcases hx with ⟨_, rfl⟩ | ⟨_, rfl⟩ <;> rfl
  have hx1 : ((x : Int) != 0) = true := by rcases hx with ⟨_, rfl⟩ | ⟨_, rfl⟩ <;> rfl
  clear hx
  generalize p.length = q at *
  go_enter Try.func83, Try.ntmps83
  go_wp2_with (go_at_call 100; refine FR.out.mono ?_; rintro e w1 ⟨rfl, n, rfl⟩)
  go_ret
  exact ⟨rfl, n, rfl⟩
theorem jtorn_full (keep : Int) (h : JAt N w gj g room l s) (hC : Kd.C (Kd.int .u8) w A p.length p) (hc : p.length ≤ c) (hp : OkP p) (hfit : room < (allF l).length + (p.length + 6)) :
    Calls Try.prog 83 #[.pointer (some ⟨gj, 0, none⟩), .slice A p.length c, .int .i64 keep] w fun e w' => e = .returned (.int .i64 4) ∧ Below w.heap.size w w' := by
  have FR := Aside0.mk (jframe_full h hC hc hp hfit)
  clear h hC hp hfit
  go_enter Try.func83, Try.ntmps83
  go_wp2_with (go_at_call 100; refine FR.out.mono ?_; rintro e w1 ⟨b, rfl, hb⟩; have HB := Aside0.mk hb; clear hb)
  go_ret
  exact ⟨rfl, HB.out⟩
/-- A disk's blocks, when all that is new is let in. -/
theorem dset_sub {kd : Nat → Prop} {W : World} (hk : ∀ k, kd k → N ≤ k) (hN : N ≤ W.heap.size) : ∀ k, OfDisk g kd k → JSet N gj g k := fun k h => by
  rcases h with rfl | h
  · exact .inr (.inl rfl)
  · exact .inr (.inr (hk k h))
theorem gj_off {W : World} {kd : Nat → Prop} {d v : Value} {sf : Int} {rm sg : Nat} {bs : List Int} (hj : JCells W gj d v sf) (hd : DiskAt W g kd rm sg bs) (hk : ∀ k, kd k → k ≠ gj) : ¬ OfDisk g kd gj := fun h => by
  rcases h with e | h
  · obtain ⟨⟨u, h1, _⟩, _⟩ := hd
    subst e
    exact blk_ne h1 hj (by decide) rfl
  · exact hk _ h rfl
set_option maxRecDepth 100000 in
theorem jsync_any (h : JAt N w gj g room l s) (hN : N ≤ w.heap.size) : Calls Try.prog 76 #[.pointer (some ⟨gj, 0, none⟩)] w fun e w' => e = .returned (.int .i64 ((l.length : Int) - (s : Int))) ∧ JAt N w' gj g room l l.length ∧ Moved w w' (JSet N gj g) := by
  have hsm := h.small
  obtain ⟨⟨v, kd, hj, hd, hr, hk⟩, hsl, hok⟩ := h
  obtain ⟨AL, cL, rfl⟩ := Kd.R_slice hr
  obtain ⟨c0, c1, c2, fr⟩ := j_cells hj
  have hlm := hsm.2.2.1
  have e1 : IntKind.i64.wrap ((l.length : Int) - (s : Int)) = (l.length : Int) - (s : Int) := IntWalk.i64_in _ (by omega)
  have HJ := Aside0.mk hj
  have HD := Aside0.mk hd
  have HR := Aside0.mk hr
  have HK := Aside0.mk hk
  have HOK := Aside0.mk hok
  clear hsm hj hd hr hk hok fr
  go_enter Try.func76, Try.ntmps76
  go_wp2
  go_quiet (fail)
  go_wp2_with (go_at_call 39; refine (sync_any (HD.out.drewN nq)).mono ?_; rintro e w2 ⟨rfl, hd, hm⟩; have HD2 := Aside0.mk hd; have HM2 := Aside0.mk (((Moved.refl w (OfDisk g kd)).drewN nq).trans hm (fun _ h => .inl h)); have hj2 := HJ.out.moved HM2.out (gj_off HJ.out HD.out (fun k h => (HK.out k h).2.2)); have HJ2 := Aside0.mk hj2; obtain ⟨p0, p1, p2, pf⟩ := j_cells hj2; clear hd hm hj2)
  go_ret
  refine ⟨rfl, ⟨⟨.slice AL l.length cL, kd, HJ2.out.puts, ?_, ?_, fun k hk => ?_⟩, Nat.le_refl _, HOK.out⟩, ((HM2.out.mono (dset_sub (fun k h => (HK.out k h).1) hN)).setCell (.inl (.inl rfl)) _)⟩
  · rw [List.take_length]
    exact HD2.out.set HJ2.out 2 _
  · exact Kd.R_set (Kd.R_mono (row_moved HR.out HD.out HM2.out (fun k hk => .inl hk)) (fun k hk => hk.1)) HJ2.out (KE_ne (by decide)) 2 _
  · have h := HK.out k hk
    have h2 := HM2.out.size
    exact ⟨h.1, by show k < (w2.heap.modify _ _).size; rw [Array.size_modify]; omega, h.2.2⟩
/-- A journal, opened. -/
theorem jopen_at {kd : Nat → Prop} {v0 : Value} {s0 : Int} {dsafe : Nat} {bs : List Int} (hj : JCells w gj (.pointer (some ⟨g, 0, none⟩)) v0 s0) (hd : DiskAt w g kd room dsafe bs) (hkd : ∀ k, kd k → N ≤ k ∧ k < w.heap.size ∧ k ≠ gj) (hN : N ≤ w.heap.size)
    {ps : List (List Int)} {n : Nat} {x : Int} (hs : frame_Scan.f bs = some (ps, (n : Int), x)) (hn : n ≤ bs.length) (ht : bs.take n = allF ps) (hok : ∀ p ∈ ps, OkP p) :
    Calls Try.prog 99 #[.pointer (some ⟨gj, 0, none⟩)] w fun e w' => e = .returned (.int .i64 ((bs.length : Int) - (n : Int))) ∧ JAt N w' gj g room ps ps.length ∧ Moved w w' (JSet N gj g) := by
  refine (open_any hj hd (fun k hk => (hkd k hk).2) hs hn).mono ?_
  rintro e w' ⟨he, v, h1, h2, h3, h4⟩
  have hnl : n = (allF ps).length := by rw [← ht, List.length_take]; omega
  refine ⟨he, ⟨⟨v, kd, h1, ?_, ?_, fun k hk => ⟨(hkd k hk).1, by have := (hkd k hk).2.1; have := h4.size; omega, (hkd k hk).2.2⟩⟩, Nat.le_refl _, hok⟩, h4.mono (fun k hk => ?_)⟩
  · rw [List.take_length, ← hnl, ← ht]
    exact h2
  · exact Kd.R_lower (Kd.R_mono (Kd.R_bound h3) (fun k hk hkk => by have := (hkd k hkk).2.1; have := hk.2.1; omega)) hN
  · rcases hk with rfl | rfl | hk
    · exact .inl rfl
    · exact .inr (.inl rfl)
    · exact .inr (.inr (hkd k hk).1)
/-- How many bytes a crash leaves. -/
def leftOf (l : List (List Int)) (s : Nat) (keep : Int) : Nat := (allF (l.take s)).length + keepOf keep ((allF l).length - (allF (l.take s)).length)
theorem leftOf_le (l : List (List Int)) (s : Nat) (keep : Int) : leftOf l s keep ≤ (allF l).length ∧ (allF (l.take s)).length ≤ leftOf l s keep := by
  have h1 := keepOf_le keep ((allF l).length - (allF (l.take s)).length)
  have h2 := allF_take_le l s
  unfold leftOf
  omega
set_option maxRecDepth 100000 in
theorem jcrash_any (keep : Int) (h : JAt N w gj g room l s) (hN : N ≤ w.heap.size) (h9 : (allF l).length ≤ 900000) : Calls Try.prog 79 #[.pointer (some ⟨gj, 0, none⟩), .int .i64 keep] w fun e w' =>
    e = .returned (.int .i64 ((l.length : Int) - (fit l (leftOf l s keep) : Int))) ∧ JAt N w' gj g room (l.take (fit l (leftOf l s keep))) (fit l (leftOf l s keep)) ∧ Moved w w' (JSet N gj g) := by
  have hsm := h.small
  have hlm := hsm.2.2.1
  have hq := leftOf_le l s keep
  obtain ⟨⟨v, kd, hj, hd, hr, hk⟩, hsl, hok⟩ := h
  obtain ⟨AL, cL, rfl⟩ := Kd.R_slice hr
  obtain ⟨c0, c1, c2, fr⟩ := j_cells hj
  have HCR := Aside0.mk (crash_any keep hd)
  have HJ := Aside0.mk hj
  have HD := Aside0.mk hd
  have HR := Aside0.mk hr
  have HK := Aside0.mk hk
  have HOK := Aside0.mk hok
  obtain ⟨q, hqq⟩ : ∃ q, leftOf l s keep = q := ⟨_, rfl⟩
  have hq2 : (allF (l.take s)).length + keepOf keep ((allF l).length - (allF (l.take s)).length) = q := hqq
  rw [hqq] at hq
  rw [hqq]
  rw [hq2] at HCR
  obtain ⟨x, hscan⟩ := scan_fit hok h9 q
  have hfl := fit_le l q
  have hfq := fit_len l q
  have htk := take_fit l q
  have hml : (l.take (fit l q)).length = fit l q := by rw [List.length_take]; omega
  generalize fit l q = m at *
  have HSC := Aside0.mk hscan
  have HTK := Aside0.mk htk
  have HQ := Aside0.mk hq
  have HFQ := Aside0.mk hfq
  have HML := Aside0.mk hml
  clear hj hd hr hk hok hq2 hqq hscan htk hq hfq hsm hml fr
  go_enter Try.func79, Try.ntmps79
  go_wp2_with (first
    | (go_at_call 40; refine HCR.out.mono ?_; rintro e w2 ⟨rfl, hd, hm⟩; have HD2 := Aside0.mk hd; have HM2 := Aside0.mk (show Moved w w2 (JSet N gj g) from hm.mono (dset_sub (fun k h => (HK.out k h).1) hN)); have HJ2 := Aside0.mk (HJ.out.moved hm (gj_off HJ.out HD.out (fun k h => (HK.out k h).2.2))); have hs2 := hm.size; clear hd hm)
    | (go_at_call 99; refine (jopen_at (N := N) HJ2.out HD2.out (fun k h => ⟨(HK.out k h).1, by have := (HK.out k h).2.1; omega, (HK.out k h).2.2⟩) (by omega) HSC.out (by rw [List.length_take]; have := HQ.out.1; have := HFQ.out; omega) HTK.out (fun p hp => HOK.out p (List.mem_of_mem_take hp))).mono ?_; rintro e w3 ⟨rfl, hj3, hm3⟩; have HJ3 := Aside0.mk hj3; have HM3 := Aside0.mk hm3; obtain ⟨⟨v3, kd3, hc3, _, hr3, _⟩, _⟩ := hj3; obtain ⟨A3, k3, rfl⟩ := Kd.R_slice hr3; rw [HML.out] at hc3; obtain ⟨p0, p1, p2, pf⟩ := j_cells hc3; clear hm3 hc3 hr3))
  go_ret
  exact ⟨rfl, by have h := HJ3.out; rw [HML.out] at h; exact h, HM2.out.trans HM3.out (fun k hk => .inl hk)⟩
theorem torn_bytes (l : List (List Int)) (p : List Int) (K : Nat) : allF l ++ (frameOf p).take K = (allF (l ++ [p])).take ((allF l).length + K) := by
  rw [allF_append, allF_cons, allF_nil, List.append_nil, List.take_append, List.take_of_length_le (l := allF l) (by omega), Nat.add_sub_cancel_left]
theorem allF_snoc_len (l : List (List Int)) (p : List Int) : (allF (l ++ [p])).length = (allF l).length + (p.length + 6) := by
  rw [allF_append, allF_cons, allF_nil, List.append_nil, List.length_append, frameOf_len]
set_option maxRecDepth 100000 in
set_option maxHeartbeats 1000000 in
theorem jtorn_ok (keep : Int) (h : JAt N w gj g room l s) (hC : Kd.C (Kd.int .u8) w A p.length p) (hc : p.length ≤ c) (hp : OkP p) (hfit : (allF l).length + (p.length + 6) ≤ room) (hN : N ≤ w.heap.size) (h9 : (allF l).length ≤ 890000) {K m : Nat} (hK : keepOf keep (p.length + 6) = K) (hm : fit (l ++ [p]) ((allF l).length + K) = m) :
    Calls Try.prog 83 #[.pointer (some ⟨gj, 0, none⟩), .slice A p.length c, .int .i64 keep] w fun e w' => e = .returned (.int .i64 13) ∧ JAt N w' gj g room ((l ++ [p]).take m) m ∧ Moved w w' (JSet N gj g) := by
  have FR := Aside0.mk (jframe_ok h hC hc hp hfit)
  have HP := Aside0.mk hp
  obtain ⟨⟨v, kd, hj, hd, hr, hk⟩, hsl, hok⟩ := h
  have hkl := keepOf_le keep (p.length + 6)
  have hmn := keep_min keep (p.length + 6)
  rw [hK] at hkl hmn
  have hfl := frameOf_len p
  have hp1 := hp.2.2
  have hokp : ∀ q ∈ l ++ [p], OkP q := fun q hq => by
    rcases List.mem_append.1 hq with h | h
    · exact hok q h
    · rw [List.mem_singleton.1 h]; exact hp
  have hlen := allF_snoc_len l p
  obtain ⟨x, hscan⟩ := scan_fit hokp (by omega) ((allF l).length + K)
  have htk := take_fit (l ++ [p]) ((allF l).length + K)
  have hfq := fit_len (l ++ [p]) ((allF l).length + K)
  have hfm := fit_le (l ++ [p]) ((allF l).length + K)
  rw [hm] at hscan htk hfq hfm
  have hml : ((l ++ [p]).take m).length = m := by rw [List.length_take]; omega
  rw [← torn_bytes] at hscan htk
  rw [← hfl] at hkl hmn
  obtain ⟨M, hM⟩ : ∃ M : Int, (if keep < 0 then 0 else keep) = M := ⟨_, rfl⟩
  rw [hM] at hmn
  have hKc : (((frameOf p).take K).length : Nat) = K := by rw [List.length_take]; omega
  have HKC := Aside0.mk hKc
  have HJ := Aside0.mk hj
  have HD := Aside0.mk hd
  have HKD := Aside0.mk hk
  have HSC := Aside0.mk hscan
  have HTK := Aside0.mk htk
  have HFQ := Aside0.mk hfq
  have HML := Aside0.mk hml
  have HOKP := Aside0.mk hokp
  have HFIT := Aside0.mk hfit
  have HFL := Aside0.mk hfl
  have hf2 : (frameOf p).length ≤ 1006 := by omega
  clear hC hp hfit hj hd hr hk hok hfl hp1 hokp hlen hscan htk hfq hfm hml hK hm hsl hKc
  generalize hfl : (frameOf p).length = fl at *
  have HFLL := Aside0.mk hfl
  have hK0 : (0 : Int) ≤ (K : Int) := by omega
  have hK1 : (K : Int) ≤ (fl : Int) := by omega
  clear hfl
  go_enter Try.func83, Try.ntmps83
  go_wp2_with fail
  refine FR.out.mono ?_
  rintro e w1 ⟨A', c', rfl, h2, hb⟩
  have HC1 := Aside0.mk h2
  have HB := Aside0.mk hb
  have hcc : fl ≤ c' := (Kd.R_reads' h2).2.1
  have hcc1 : (K : Int) ≤ (c' : Int) := by omega
  obtain ⟨c0, c1, c2, fr⟩ := j_cells (HJ.out.below hb)
  clear h2 hb c1 c2 fr
  go_wp2_with fail
  go_still_tail 11, (by kernel_rfl)
  change wpList _ _ _ _ _ w1.drew
  have hs1 := HB.out.size
  have hlj := blk_lt (HJ.out.below HB.out)
  have HOKK := Aside0.mk (show ∀ k, (kd k ∨ w1.heap.size ≤ k) → N ≤ k ∧ k ≠ gj from fun k hk => by
    rcases hk with h | h
    · exact ⟨(HKD.out k h).1, (HKD.out k h).2.2⟩
    · exact ⟨by omega, by omega⟩)
  have HJ1 := Aside0.mk (show JCells w1.drew gj (.pointer (some ⟨g, 0, none⟩)) v (s : Int) from (HJ.out.below HB.out).below (below_drew (Below.refl _ _)))
  have HD1 := Aside0.mk (((HD.out.below HB.out).drew).mono (fun k hk => (.inl hk : kd k ∨ w1.heap.size ≤ k)))
  have WR : Aside0 (Calls Try.prog 38 #[.pointer (some ⟨g, 0, none⟩), .slice A' K c'] w1.drew fun e w' => e = .returned (.int .i64 0) ∧ DiskAt w' g (fun k => kd k ∨ w1.heap.size ≤ k) room (allF (l.take s)).length (allF l ++ (frameOf p).take K) ∧ Moved w1.drew w' (OfDisk g (fun k => kd k ∨ w1.heap.size ≤ k))) := Aside0.mk (by
    have h1 := Kd.R_take (Kd.R_below HC1.out (below_drew (Below.refl _ _))) (m := K) (by rw [HFLL.out]; omega)
    have h2 := (Kd.R_reads' h1).2.2
    have h3 := write_ok HD1.out (fun k hk => .inr hk) A' c' ((frameOf p).take K) h2 (okB_take2 (frameOf_ok HP.out.1) K) (by rw [HKC.out]; have h4 := HFIT.out; have h5 := HFL.out; have h6 := HFLL.out; omega)
    rw [HKC.out] at h3
    exact h3)
  have HMV := Aside0.mk (show Moved w w1.drew (JSet N gj g) from (Moved.of_below HB.out (JSet N gj g)).drew)
  have HDS := Aside0.mk (show ∀ k, OfDisk g (fun k => kd k ∨ w1.heap.size ≤ k) k → JSet N gj g k from dset_sub (fun k h => (HOKK.out k h).1) (W := w) hN)
  generalize w1.drew = w2 at *
  clear HC1 HB FR hcc hcc1 c0
  go_wp2_with (first
    | (go_at_call 38; refine WR.out.mono ?_; rintro e w3 ⟨rfl, hd, hm⟩; have HD3 := Aside0.mk hd; have HJ3 := Aside0.mk (HJ1.out.moved hm (gj_off HJ1.out HD1.out (fun k h => (HOKK.out k h).2))); have HM3 := Aside0.mk (hm.mono HDS.out); obtain ⟨p0, p1, p2, pf⟩ := j_cells HJ3.out; clear hd hm)
    | (go_at_call 39; refine (sync_any HD3.out).mono ?_; rintro e w4 ⟨rfl, hd, hm⟩; have HD4 := Aside0.mk hd; have HJ4 := Aside0.mk (HJ3.out.moved hm (gj_off HJ3.out HD3.out (fun k h => (HOKK.out k h).2))); have HM4 := Aside0.mk (hm.mono HDS.out); clear hd hm)
    | (go_at_call 99; refine (jopen_at (N := N) HJ4.out HD4.out.bound (fun k h => ⟨(HOKK.out k h.1).1, h.2, (HOKK.out k h.1).2⟩) ?hN HSC.out ?hn HTK.out (fun q hq => HOKP.out q (List.mem_of_mem_take hq))).mono ?_; (case hN => have h1 := HM3.out.size; have h2 := HM4.out.size; have h3 := HMV.out.size; omega); (case hn => have h1 := HFQ.out; have h2 := HKC.out; rw [List.length_append]; omega); rintro e w5 ⟨rfl, hj5, hm5⟩; have HJ5 := Aside0.mk hj5; have HM5 := Aside0.mk hm5; clear hj5 hm5))
  go_ret
  refine ⟨rfl, ?_, ((HMV.out.trans HM3.out (fun k hk => .inl hk)).trans HM4.out (fun k hk => .inl hk)).trans HM5.out (fun k hk => .inl hk)⟩
  have h := HJ5.out
  rw [HML.out] at h
  exact h
/-- What Swap has put together, between two rounds. -/
structure Made (w wr : World) (A5 : Option Addr) (c5 : Nat) (bs : List Int) : Prop where
  row : Kd.C (Kd.int .u8) wr A5 bs.length bs
  cap : bs.length ≤ c5
  below : Below w.heap.size w wr
theorem row_in {W : World} {A : Option Addr} {L : List (List Int)} (h : Kd.C KS W A L.length L) {n : Nat} (hn : n < L.length) : ∃ ad Ai ci, A = some ad ∧ W.cell? (ad.add n) = some (.slice Ai (L[n]'hn).length ci) ∧ (L[n]'hn).length ≤ ci ∧ Kd.C (Kd.int .u8) W Ai (L[n]'hn).length (L[n]'hn) := row_at h hn
theorem allF_take_succ {L : List (List Int)} {n : Nat} (hn : n < L.length) : allF (L.take (n + 1)) = allF (L.take n) ++ frameOf (L[n]'hn) := by
  rw [List.take_succ_eq_append_getElem hn, allF_append, allF_cons, allF_nil, List.append_nil]
variable {L : List (List Int)}
set_option maxRecDepth 100000 in
set_option maxHeartbeats 2000000 in
theorem jswap_ok (h : JAt N w gj g room l s) (hL : Kd.C KS w A L.length L) (hc : L.length ≤ c) (hok : ∀ q ∈ L, OkP q) (hfit : (allF L).length ≤ room) (hN : N ≤ w.heap.size) (h9 : (allF L).length ≤ 900000) :
    Calls Try.prog 85 #[.pointer (some ⟨gj, 0, none⟩), .slice A L.length c] w fun e w' => e = .returned (.int .i64 0) ∧ JAt N w' gj g room L L.length ∧ Moved w w' (JSet N gj g) := by
  obtain ⟨⟨v, kd, hj, hd, hr, hk⟩, hsl, _⟩ := h
  have hl63 := hL.2.1
  have HL := Aside0.mk hL
  have HJ := Aside0.mk hj
  have HD := Aside0.mk hd
  have HK := Aside0.mk hk
  have HOK := Aside0.mk hok
  have HF := Aside0.mk hfit
  have H9 := Aside0.mk h9
  have HM0 := Lib.hid (show Made w w none 0 (allF (L.take 0)) from ⟨Kd.C_nil _ _, Nat.le_refl _, Below.refl _ _⟩)
  clear hL hj hd hr hk hok hfit h9
  go_enter Try.func85, Try.ntmps85
  go_wp2
  go_loopw [5, 15] (fun a i wr => ∃ (n : Nat) (A5 : Option Addr) (c5 : Nat), n ≤ L.length ∧ i = .int .i64 (n : Int) ∧ a = .slice A5 (allF (L.take n)).length c5 ∧ Hid (Made w wr A5 c5 (allF (L.take n)))) (fun _ i _ => L.length - (intOf i).toNat)
  case atStart => exact ⟨0, none, 0, by omega, rfl, rfl, HM0⟩
  case round =>
    obtain ⟨n, A5, c5, hn, rfl, rfl, HC⟩ := hrel
    clear HM0
    by_cases hlt : n < L.length
    · obtain ⟨ad, Ai, ci, rfl, hcell, hci, hCi⟩ := row_in (Kd.C_below HL.out HC.out.below) hlt
      have hts := allF_take_succ hlt
      have hpo := HOK.out (L[n]'hlt) (List.getElem_mem hlt)
      have hle := allF_take_le L n
      generalize L[n]'hlt = p at *
      have HTS := Aside0.mk hts
      have PUT : Aside0 (Calls Try.prog 62 #[.slice A5 (allF (L.take n)).length c5, .slice Ai p.length ci] wr fun e w' => ∃ (A' : Option Addr) (c' : Nat), e = .returned (.tuple #[.slice A' (allF (L.take (n + 1))).length c', .int .i64 0]) ∧ Made w w' A' c' (allF (L.take (n + 1)))) := Aside0.mk (by
        refine (put_fresh A5 Ai c5 ci (allF (L.take n)) p wr HC.out.row HC.out.cap (by have := H9.out; omega) hCi hci hpo).mono ?_
        rintro e w' ⟨v, he, hR, hb⟩
        rw [← hts] at hR
        obtain ⟨A', c', rfl, h1, h2⟩ := Kd.R_reads hR
        exact ⟨A', c', he, h2, h1, below_step HC.out.below hb⟩)
      clear hts hpo hle hCi
      generalize (allF (L.take n)).length = q1 at *
      generalize hq2 : (allF (L.take (n + 1))).length = q2 at *
      have HQ2 := Aside0.mk hq2
      clear hq2
      go_wp2_with (go_at_call 62; refine PUT.out.mono ?_; rintro e w1 ⟨A', c', rfl, hm⟩; have HM := Aside0.mk hm; clear hm)
      go_roundw
      case rel => exact ⟨n + 1, A', c', by omega, by go_num, by rw [HQ2.out], Lib.hid HM.out⟩
      case measure => simp [intOf]; omega
    · obtain rfl : n = L.length := by omega
      rw [List.take_length] at HC
      rw [List.take_length]
      have hb := HC.out.below
      have hs := hb.size
      have HJ1 := Aside0.mk (HJ.out.below hb)
      have HD1 := Aside0.mk ((HD.out.below hb).mono (fun k hk => (.inl hk : kd k ∨ wr.heap.size ≤ k)))
      have hlj := blk_lt HJ1.out
      have HOKK := Aside0.mk (show ∀ k, (kd k ∨ wr.heap.size ≤ k) → N ≤ k ∧ k ≠ gj from fun k hk => by
        rcases hk with h | h
        · exact ⟨(HK.out k h).1, (HK.out k h).2.2⟩
        · exact ⟨by omega, by omega⟩)
      have HDS := Aside0.mk (show ∀ k, OfDisk g (fun k => kd k ∨ wr.heap.size ≤ k) k → JSet N gj g k from dset_sub (fun k h => (HOKK.out k h).1) (W := w) hN)
      have SW := Aside0.mk (swap_ok HD1.out (fun k hk => .inr hk) A5 c5 (allF L) HC.out.row (allF_ok HOK.out) HF.out)
      have HMV := Aside0.mk (show Moved w wr (JSet N gj g) from Moved.of_below hb _)
      have hsc := scan_frames HOK.out (by have := H9.out; omega)
      have HSC := Aside0.mk hsc
      have HTL := Aside0.mk (show (allF L).take (allF L).length = allF L from List.take_length)
      obtain ⟨c0, c1, c2, fr⟩ := j_cells HJ1.out
      clear hsc hb c1 c2 fr
      generalize hfl : (allF L).length = fl at *
      go_wp2_with (first
        | (go_at_call 49; refine SW.out.mono ?_; rintro e w3 ⟨rfl, hd, hm⟩; have HD3 := Aside0.mk hd; have HJ3 := Aside0.mk (HJ1.out.moved hm (gj_off HJ1.out HD1.out (fun k h => (HOKK.out k h).2))); have HM3 := Aside0.mk (hm.mono HDS.out); clear hd hm)
        | (go_at_call 99; refine (jopen_at (N := N) HJ3.out HD3.out.bound (fun k h => ⟨(HOKK.out k h.1).1, h.2, (HOKK.out k h.1).2⟩) ?hN HSC.out ?hn HTL.out HOK.out).mono ?_; (case hN => have h1 := HM3.out.size; have h3 := HMV.out.size; omega); (case hn => omega); rintro e w5 ⟨rfl, hj5, hm5⟩; have HJ5 := Aside0.mk hj5; have HM5 := Aside0.mk hm5; clear hj5 hm5))
      go_ret
      exact ⟨rfl, HJ5.out, (HMV.out.trans HM3.out (fun k hk => .inl hk)).trans HM5.out (fun k hk => .inl hk)⟩
set_option maxRecDepth 100000 in
set_option maxHeartbeats 2000000 in
theorem jswap_full (h : JAt N w gj g room l s) (hL : Kd.C KS w A L.length L) (hc : L.length ≤ c) (hok : ∀ q ∈ L, OkP q) (hfit : room < (allF L).length) (h9 : (allF L).length ≤ 900000) :
    Calls Try.prog 85 #[.pointer (some ⟨gj, 0, none⟩), .slice A L.length c] w fun e w' => e = .returned (.int .i64 4) ∧ Below w.heap.size w w' := by
  obtain ⟨⟨v, kd, hj, hd, hr, hk⟩, hsl, _⟩ := h
  have hl63 := hL.2.1
  have HL := Aside0.mk hL
  have HJ := Aside0.mk hj
  have HD := Aside0.mk hd
  have HK := Aside0.mk hk
  have HOK := Aside0.mk hok
  have HF := Aside0.mk hfit
  have H9 := Aside0.mk h9
  have HM0 := Lib.hid (show Made w w none 0 (allF (L.take 0)) from ⟨Kd.C_nil _ _, Nat.le_refl _, Below.refl _ _⟩)
  clear hL hj hd hr hk hok hfit h9
  go_enter Try.func85, Try.ntmps85
  go_wp2
  go_loopw [5, 15] (fun a i wr => ∃ (n : Nat) (A5 : Option Addr) (c5 : Nat), n ≤ L.length ∧ i = .int .i64 (n : Int) ∧ a = .slice A5 (allF (L.take n)).length c5 ∧ Hid (Made w wr A5 c5 (allF (L.take n)))) (fun _ i _ => L.length - (intOf i).toNat)
  case atStart => exact ⟨0, none, 0, by omega, rfl, rfl, HM0⟩
  case round =>
    obtain ⟨n, A5, c5, hn, rfl, rfl, HC⟩ := hrel
    clear HM0
    by_cases hlt : n < L.length
    · obtain ⟨ad, Ai, ci, rfl, hcell, hci, hCi⟩ := row_in (Kd.C_below HL.out HC.out.below) hlt
      have hts := allF_take_succ hlt
      have hpo := HOK.out (L[n]'hlt) (List.getElem_mem hlt)
      have hle := allF_take_le L n
      generalize L[n]'hlt = p at *
      have HTS := Aside0.mk hts
      have PUT : Aside0 (Calls Try.prog 62 #[.slice A5 (allF (L.take n)).length c5, .slice Ai p.length ci] wr fun e w' => ∃ (A' : Option Addr) (c' : Nat), e = .returned (.tuple #[.slice A' (allF (L.take (n + 1))).length c', .int .i64 0]) ∧ Made w w' A' c' (allF (L.take (n + 1)))) := Aside0.mk (by
        refine (put_fresh A5 Ai c5 ci (allF (L.take n)) p wr HC.out.row HC.out.cap (by have := H9.out; omega) hCi hci hpo).mono ?_
        rintro e w' ⟨v, he, hR, hb⟩
        rw [← hts] at hR
        obtain ⟨A', c', rfl, h1, h2⟩ := Kd.R_reads hR
        exact ⟨A', c', he, h2, h1, below_step HC.out.below hb⟩)
      clear hts hpo hle hCi
      generalize (allF (L.take n)).length = q1 at *
      generalize hq2 : (allF (L.take (n + 1))).length = q2 at *
      have HQ2 := Aside0.mk hq2
      clear hq2
      go_wp2_with (go_at_call 62; refine PUT.out.mono ?_; rintro e w1 ⟨A', c', rfl, hm⟩; have HM := Aside0.mk hm; clear hm)
      go_roundw
      case rel => exact ⟨n + 1, A', c', by omega, by go_num, by rw [HQ2.out], Lib.hid HM.out⟩
      case measure => simp [intOf]; omega
    · obtain rfl : n = L.length := by omega
      rw [List.take_length] at HC
      rw [List.take_length]
      have hb := HC.out.below
      have hs := hb.size
      have HJ1 := Aside0.mk (HJ.out.below hb)
      have HD1 := Aside0.mk (HD.out.below hb)
      have SW := Aside0.mk (swap_full HD1.out A5 c5 (allF L) (by have := H9.out; omega) HF.out)
      have HB := Aside0.mk hb
      obtain ⟨c0, c1, c2, fr⟩ := j_cells HJ1.out
      clear hb c1 c2 fr
      generalize hfl : (allF L).length = fl at *
      go_wp2_with (go_at_call 49; refine SW.out.mono ?_; rintro e w3 ⟨rfl, rfl⟩)
      go_ret
      exact ⟨rfl, HB.out⟩
set_option maxRecDepth 100000 in
set_option maxHeartbeats 2000000 in
theorem jswap_no (hL : Kd.C KS w A L.length L) (hc : L.length ≤ c) (K : Nat) (hK : K < L.length) (hz : (L[K]'hK).length = 0) (hok : ∀ (n : Nat) (hn : n < L.length), n < K → OkP (L[n]'hn)) (h9 : (allF L).length ≤ 900000) :
    Calls Try.prog 85 #[.pointer (some ⟨gj, 0, none⟩), .slice A L.length c] w fun e w' => e = .returned (.int .i64 1) ∧ Below w.heap.size w w' := by
  have hl63 := hL.2.1
  have HL := Aside0.mk hL
  have HOK := Aside0.mk hok
  have HZ := Aside0.mk hz
  have H9 := Aside0.mk h9
  have HM0 := Lib.hid (show Made w w none 0 (allF (L.take 0)) from ⟨Kd.C_nil _ _, Nat.le_refl _, Below.refl _ _⟩)
  clear hL hok hz h9
  go_enter Try.func85, Try.ntmps85
  go_wp2
  go_loopw [5, 15] (fun a i wr => ∃ (n : Nat) (A5 : Option Addr) (c5 : Nat), n ≤ K ∧ i = .int .i64 (n : Int) ∧ a = .slice A5 (allF (L.take n)).length c5 ∧ Hid (Made w wr A5 c5 (allF (L.take n)))) (fun _ i _ => L.length - (intOf i).toNat)
  case atStart => exact ⟨0, none, 0, by omega, rfl, rfl, HM0⟩
  case round =>
    obtain ⟨n, A5, c5, hn, rfl, rfl, HC⟩ := hrel
    clear HM0
    by_cases hltK : n < K
    · have hlt : n < L.length := by omega
      obtain ⟨ad, Ai, ci, rfl, hcell, hci, hCi⟩ := row_in (Kd.C_below HL.out HC.out.below) hlt
      have hts := allF_take_succ hlt
      have hpo := HOK.out n hlt hltK
      have hle := allF_take_le L n
      generalize L[n]'hlt = p at *
      have HTS := Aside0.mk hts
      have PUT : Aside0 (Calls Try.prog 62 #[.slice A5 (allF (L.take n)).length c5, .slice Ai p.length ci] wr fun e w' => ∃ (A' : Option Addr) (c' : Nat), e = .returned (.tuple #[.slice A' (allF (L.take (n + 1))).length c', .int .i64 0]) ∧ Made w w' A' c' (allF (L.take (n + 1)))) := Aside0.mk (by
        refine (put_fresh A5 Ai c5 ci (allF (L.take n)) p wr HC.out.row HC.out.cap (by have := H9.out; omega) hCi hci hpo).mono ?_
        rintro e w' ⟨v, he, hR, hb⟩
        rw [← hts] at hR
        obtain ⟨A', c', rfl, h1, h2⟩ := Kd.R_reads hR
        exact ⟨A', c', he, h2, h1, below_step HC.out.below hb⟩)
      clear hts hpo hle hCi
      generalize (allF (L.take n)).length = q1 at *
      generalize hq2 : (allF (L.take (n + 1))).length = q2 at *
      have HQ2 := Aside0.mk hq2
      clear hq2
      go_wp2_with (go_at_call 62; refine PUT.out.mono ?_; rintro e w1 ⟨A', c', rfl, hm⟩; have HM := Aside0.mk hm; clear hm)
      go_roundw
      case rel => exact ⟨n + 1, A', c', by omega, by go_num, by rw [HQ2.out], Lib.hid HM.out⟩
      case measure => simp [intOf]; omega
    · obtain rfl : n = K := by omega
      obtain ⟨ad, Ai, ci, rfl, hcell, hci, hCi⟩ := row_in (Kd.C_below HL.out HC.out.below) hK
      have hz := HZ.out
      generalize L[n]'hK = p at *
      have PUT := Aside0.mk (fun W => put_no (A := Ai) (c := ci) (p := p) 1 (.inl ⟨hz, rfl⟩) (by omega) W (.slice A5 (allF (L.take n)).length c5) ⟨_, _, _, rfl⟩)
      have HB := Aside0.mk HC.out.below
      clear hz hCi HZ
      generalize p.length = q at *
      generalize (allF (L.take n)).length = q1 at *
      go_wp2_with (go_at_call 62; refine (PUT.out _).mono ?_; rintro e w1 ⟨rfl, k, rfl⟩)
      go_ret
      exact ⟨rfl, pw_below_drewN HB.out k⟩
set_option maxRecDepth 100000 in
theorem jOpen_any {kd : Nat → Prop} {dsafe : Nat} {bs : List Int} (hd : DiskAt w g kd room dsafe bs) (hkd : ∀ k, kd k → N ≤ k ∧ k < w.heap.size) (hN : N ≤ w.heap.size)
    {ps : List (List Int)} {n : Nat} {x : Int} (hs : frame_Scan.f bs = some (ps, (n : Int), x)) (hn : n ≤ bs.length) (ht : bs.take n = allF ps) (hok : ∀ p ∈ ps, OkP p) :
    Calls Try.prog 74 #[.pointer (some ⟨g, 0, none⟩)] w fun e w' => e = .returned (.tuple #[.pointer (some ⟨w.heap.size, 0, none⟩), .int .i64 ((bs.length : Int) - (n : Int))]) ∧ JAt N w' w.heap.size g room ps ps.length ∧ Moved w w' (JSet N w.heap.size g) := by
  have OP : Aside0 (∀ W, W = w.alloc (.cells #[.pointer (some ⟨g, 0, none⟩), .slice none 0 0, .int .i64 0] 99) → Calls Try.prog 99 #[.pointer (some ⟨w.heap.size, 0, none⟩)] W fun e w' => e = .returned (.int .i64 ((bs.length : Int) - (n : Int))) ∧ JAt N w' w.heap.size g room ps ps.length ∧ Moved W w' (JSet N w.heap.size g)) := Aside0.mk (fun W hW => by
    subst hW
    have hb := below_alloc (Below.refl w.heap.size w) (.cells #[.pointer (some ⟨g, 0, none⟩), .slice none 0 0, .int .i64 0] 99)
    refine jopen_at (N := N) (v0 := .slice none 0 0) (s0 := 0) (heap_alloc_new w _) (hd.below hb) (fun k hk => ⟨(hkd k hk).1, by have := (hkd k hk).2; have := hb.size; omega, by have := (hkd k hk).2; omega⟩) (Nat.le_trans hN hb.size) hs hn ht hok)
  clear hd hkd hs ht hok
  go_enter Try.func74, Try.ntmps74
  go_wp2_with (go_at_call 99; refine (OP.out _ rfl).mono ?_; rintro e w1 ⟨rfl, hj, hm⟩; have HJ := Aside0.mk hj; have HM := Aside0.mk hm; clear hj hm)
  go_ret2
  exact ⟨rfl, HJ.out, (Moved.of_below (below_alloc (Below.refl w.heap.size w) _) _).trans HM.out (fun k hk => .inl hk)⟩
theorem jOpen_new (hd : DiskAt w g (fun _ => False) room 0 []) (hN : N ≤ w.heap.size) :
    Calls Try.prog 74 #[.pointer (some ⟨g, 0, none⟩)] w fun e w' => e = .returned (.tuple #[.pointer (some ⟨w.heap.size, 0, none⟩), .int .i64 0]) ∧ JAt N w' w.heap.size g room [] 0 ∧ Moved w w' (JSet N w.heap.size g) :=
  jOpen_any (n := 0) (x := 0) hd (fun k hk => hk.elim) hN (ps := []) (scan_frames (ps := []) (fun p hp => by simp at hp) (by simp [allF_nil])) (Nat.le_refl _) rfl (fun p hp => by simp at hp)
set_option maxRecDepth 100000 in
/-- A journal of no disk. -/
theorem jOpen_nil (hN : N ≤ w.heap.size) : Calls Try.prog 74 #[.pointer none] w fun e w' => ∃ g gj, e = .returned (.tuple #[.pointer (some ⟨gj, 0, none⟩), .int .i64 0]) ∧ JAt N w' gj g 0 [] 0 ∧ Below w.heap.size w w' ∧ w.heap.size ≤ gj ∧ w.heap.size ≤ g := by
  have OP : Aside0 (∀ W, Calls Try.prog 37 #[.int .i64 0] W fun e w' => e = .returned (.pointer (some ⟨W.heap.size, 0, none⟩)) ∧ DiskAt w' W.heap.size (fun _ => False) 0 0 [] ∧ Below W.heap.size W w') := Aside0.mk (fun W => new_any 0 W (fun _ => False))
  have JO : Aside0 (∀ (W W1 : World) (g : Nat), DiskAt W g (fun _ => False) 0 0 [] → W1 = W.alloc (.cells #[.pointer (some ⟨g, 0, none⟩), .slice none 0 0, .int .i64 0] 99) → Calls Try.prog 99 #[.pointer (some ⟨W.heap.size, 0, none⟩)] W1 fun e w' => e = .returned (.int .i64 0) ∧ JAt W.heap.size w' W.heap.size g 0 [] 0 ∧ Moved W1 w' (JSet W.heap.size W.heap.size g)) := Aside0.mk (fun W W1 g hd hW => by
    subst hW
    have hb := below_alloc (Below.refl W.heap.size W) (.cells #[.pointer (some ⟨g, 0, none⟩), .slice none 0 0, .int .i64 0] 99)
    exact jopen_at (N := W.heap.size) (v0 := .slice none 0 0) (s0 := 0) (n := 0) (x := 0) (ps := []) (heap_alloc_new W _) (hd.below hb) (fun k hk => hk.elim) hb.size (scan_frames (ps := []) (fun p hp => by simp at hp) (by simp [allF_nil])) (Nat.le_refl _) rfl (fun p hp => by simp at hp))
  go_enter Try.func74, Try.ntmps74
  go_wp2_with (first
    | (go_at_call 37; refine (OP.out _).mono ?_; rintro e w1 ⟨rfl, hd, hb⟩; have HD := Aside0.mk hd; have HB := Aside0.mk hb; clear hd hb)
    | (go_at_call 99; refine (JO.out w1 _ _ HD.out rfl).mono ?_; rintro e w2 ⟨rfl, hj, hm⟩; have HJ := Aside0.mk hj; have HM := Aside0.mk hm; clear hj hm))
  go_ret2
  have h1 := HB.out.size
  refine ⟨w.heap.size, w1.heap.size, rfl, ?_, Moved.from_below (below_alloc HB.out _) HM.out (fun k hk => ?_) (below_alloc HB.out _).size, h1, Nat.le_refl _⟩
  · obtain ⟨⟨v, kd, a, b, c, d⟩, e, f⟩ := HJ.out
    exact ⟨⟨v, kd, a, b, Kd.R_lower c (Nat.le_trans hN h1), fun k hk => ⟨by have := (d k hk).1; omega, (d k hk).2⟩⟩, e, f⟩
  · rcases hk with rfl | rfl | hk
    · exact h1
    · exact Nat.le_refl _
    · omega
end
end Go.Proofs.Ytbcienbnhchdeaa.Hand

/- The document's example of a journal. -/
namespace Go.Proofs.Ytbcienbnhchdeaa.Hand
open Go Go.RowKit Go.Proofs.YtbcienbnhchdeaaW.PrintLast Go.Proofs.YtbcienbnhchdeaaW.PrintWords Go.Proofs.YtbcienbnhchdeaaW.PrintMore Print FrameC FrameL FrameS FrameR JMath
set_option linter.unusedVariables false
set_option linter.unusedSimpArgs false
attribute [local go_sem] max2_int min2_int max_two min_two
/-- One byte in a new row. -/
theorem byte_C (W : World) (x : Int) : Kd.C (Kd.int .u8) (W.alloc (.cells #[.int .u8 x] 5 (1, 2))) (some ⟨W.heap.size, 0, none⟩) 1 [x] := C_lit W [x] (1, 2) (by simp)
theorem OkP_one (x : Int) (h : 0 ≤ x ∧ x < 256) : OkP [x] := ⟨by simp [okB]; omega, by simp, by simp⟩
section
variable {N : Nat} {w0 w w1 : World} {gj g room s : Nat} {l : List (List Int)}
/-- One byte appended. -/
theorem jbyte_ok (h : JAt N w gj g room l s) (x : Int) (hx : 0 ≤ x ∧ x < 256) (hfit : (allF l).length + 7 ≤ room) (hN : N ≤ w.heap.size) :
    Calls Try.prog 75 #[.pointer (some ⟨gj, 0, none⟩), .slice (some ⟨w.heap.size, 0, none⟩) 1 1] (w.alloc (.cells #[.int .u8 x] 5 (1, 2))) fun e w' => e = .returned (.int .i64 0) ∧ JAt N w' gj g room (l ++ [[x]]) s ∧ Moved w w' (JSet N gj g) := by
  have hb := below_alloc (Below.refl w.heap.size w) (.cells #[.int .u8 x] 5 (1, 2))
  refine (jappend_ok (p := [x]) (A := some ⟨w.heap.size, 0, none⟩) (c := 1) (h.next hb) (byte_C w x) (by simp) (OkP_one x hx) (by simp; omega) (Nat.le_trans hN hb.size)).mono ?_
  rintro e w' ⟨he, h1, h2⟩
  exact ⟨he, h1, (Moved.of_below hb _).trans h2 (fun k hk => .inl hk)⟩
end
set_option maxRecDepth 100000 in
set_option maxHeartbeats 1000000 in
theorem lives6_any (w : World) : Calls Try.prog 73 #[] w fun e w' => e = .returned (.bool true) ∧ Below w.heap.size w w' := by
  have OP : Aside0 (∀ W, Calls Try.prog 37 #[.int .i64 100] W fun e w' => e = .returned (.pointer (some ⟨W.heap.size, 0, none⟩)) ∧ DiskAt w' W.heap.size (fun _ => False) 100 0 [] ∧ Below W.heap.size W w') := Aside0.mk (fun W => new_any 100 W (fun _ => False))
  have CR : Aside0 (∀ (N gj g : Nat) (W : World), JAt N W gj g 100 [[97], [98]] 1 → N ≤ W.heap.size → Calls Try.prog 79 #[.pointer (some ⟨gj, 0, none⟩), .int .i64 6] W fun e w' => e = .returned (.int .i64 1) ∧ JAt N w' gj g 100 [[97]] 1 ∧ Moved W w' (JSet N gj g)) := Aside0.mk (fun N gj g W h hN => by
    have h0 := jcrash_any 6 h hN (by simp [allF_cons, allF_nil, frameOf_len])
    have e1 : leftOf [[97], [98]] 1 6 = 13 := by simp [leftOf, allF_cons, allF_nil, frameOf_len, keepOf]
    have e2 : fit [[97], [98]] 13 = 1 := by simp [fit]
    rw [e1, e2] at h0
    exact h0)
  have kc := fun (W : World) (C : Array Value) (n c : Nat) => Lib.run_convert_bytes_const (P := Try.prog) W 22 5 C n c Try.underlying22 Try.underlying5
  go_enter Try.func73, Try.ntmps73
  go_wp2_with (first
    | (go_at_call 37; refine (OP.out _).mono ?_; rintro e w1 ⟨rfl, hd, hb⟩; have HD := Aside0.mk hd; have HB := Aside0.mk hb; clear hd hb)
    | (go_at_call 74; refine (jOpen_new (N := w.heap.size) HD.out HB.out.size).mono ?_; rintro e w2 ⟨rfl, hj, hm⟩; have HJ2 := Aside0.mk hj; have HM2 := Aside0.mk (show Moved w w2 (JSet w.heap.size w1.heap.size w.heap.size) from (Moved.of_below HB.out _).trans hm (fun k hk => .inl hk)); have hz1 := HB.out.size; clear hj hm HD HB)
    | (go_at_call 75; refine (jbyte_ok HJ2.out 97 (by omega) (by simp [allF_nil]) HM2.out.size).mono ?_; rintro e w3 ⟨rfl, hj, hm⟩; have HJ3 := Aside0.mk hj; have HM3 := Aside0.mk (HM2.out.trans hm (fun k hk => .inl hk)); clear hj hm HJ2 HM2)
    | (go_at_call 76; refine (jsync_any HJ3.out HM3.out.size).mono ?_; rintro e w4 ⟨rfl, hj, hm⟩; have HJ4 := Aside0.mk hj; have HM4 := Aside0.mk (HM3.out.trans hm (fun k hk => .inl hk)); clear hj hm HJ3 HM3)
    | (go_at_call 75; refine (jbyte_ok HJ4.out 98 (by omega) (by simp [allF_nil, allF_cons, frameOf_len]) HM4.out.size).mono ?_; rintro e w5 ⟨rfl, hj, hm⟩; have HJ5 := Aside0.mk hj; have HM5 := Aside0.mk (HM4.out.trans hm (fun k hk => .inl hk)); clear hj hm HJ4 HM4)
    | (go_at_call 79; refine (CR.out _ _ _ _ HJ5.out HM5.out.size).mono ?_; rintro e w6 ⟨rfl, hj, hm⟩; have HJ6 := Aside0.mk hj; have HM6 := Aside0.mk (HM5.out.trans hm (fun k hk => .inl hk)); clear hj hm HJ5 HM5)
    | (go_at_call 80; refine (ja_any HJ6.out).mono ?_; rintro e w7 ⟨A7, c7, rfl, hc7, hC, hb⟩; obtain ⟨ad, Ai, ci, rfl, hcell, hci, hCi⟩ := row_in hC (n := 0) (by simp); have hcell0 : w7.cell? ad = some (.slice Ai 1 ci) := hcell; have hcv := Kd.C_string (P := Try.prog) (c := ci) Try.underlying22 Try.underlying5 Try.underlying9 (show Kd.C (Kd.int .u8) w7 Ai 1 [97] from hCi); rw [show strOfNums [97] = ⟨#[97]⟩ from by decide] at hcv; have HJ7 := Aside0.mk (HJ6.out.next hb); have HM7 := Aside0.mk (HM6.out.below hb); clear hC hb hcell hCi)
    | (go_at_call 77; refine (js_any HJ7.out).mono ?_; rintro e w8 ⟨rfl, rfl⟩))
  go_ret
  exact ⟨rfl, HM7.out.toBelow (Nat.le_refl _) (fun k hk => by rcases hk with rfl | rfl | hk; exact hz1; exact Nat.le_refl _; exact hk)⟩
section
variable {w : World} {A : Option Addr} {n c : Nat}
theorem jframe_nil : Calls Try.prog 100 #[.pointer none, .slice A n c] w fun e w' => e = .returned (.tuple #[.slice none 0 0, .int .i64 1]) ∧ w = w' := by
  go_enter Try.func100, Try.ntmps100
  go_wp2
  go_ret2
  exact ⟨rfl, rfl⟩
theorem jappend_nil : Calls Try.prog 75 #[.pointer none, .slice A n c] w fun e w' => e = .returned (.int .i64 1) ∧ w = w' := by
  go_enter Try.func75, Try.ntmps75
  go_wp2_with (go_at_call 100; refine jframe_nil.mono ?_; rintro e w1 ⟨rfl, rfl⟩)
  go_ret
  exact ⟨rfl, rfl⟩
theorem jtorn_nil (k : Int) : Calls Try.prog 83 #[.pointer none, .slice A n c, .int .i64 k] w fun e w' => e = .returned (.int .i64 1) ∧ w = w' := by
  go_enter Try.func83, Try.ntmps83
  go_wp2_with (go_at_call 100; refine jframe_nil.mono ?_; rintro e w1 ⟨rfl, rfl⟩)
  go_ret
  exact ⟨rfl, rfl⟩
theorem jsync_nil : Calls Try.prog 76 #[.pointer none] w fun e w' => e = .returned (.int .i64 0) ∧ w = w' := by
  go_enter Try.func76, Try.ntmps76
  go_wp2
  go_ret
  exact ⟨rfl, rfl⟩
theorem jcrash_nil (k : Int) : Calls Try.prog 79 #[.pointer none, .int .i64 k] w fun e w' => e = .returned (.int .i64 0) ∧ w = w' := by
  go_enter Try.func79, Try.ntmps79
  go_wp2
  go_ret
  exact ⟨rfl, rfl⟩
theorem jswap_nil (v : Value) : Calls Try.prog 85 #[.pointer none, v] w fun e w' => e = .returned (.int .i64 1) ∧ w = w' := by
  go_enter Try.func85, Try.ntmps85
  go_wp2
  go_ret
  exact ⟨rfl, rfl⟩
theorem jsafe_nil : Calls Try.prog 77 #[.pointer none] w fun e w' => e = .returned (.int .i64 0) ∧ w = w' := by
  go_enter Try.func77, Try.ntmps77
  go_wp2
  go_ret
  exact ⟨rfl, rfl⟩
theorem jroom_nil : Calls Try.prog 84 #[.pointer none] w fun e w' => e = .returned (.int .i64 0) ∧ w = w' := by
  go_enter Try.func84, Try.ntmps84
  go_wp2
  go_ret
  exact ⟨rfl, rfl⟩
end
/-- What a journal of no room says to a payload. -/
theorem jappend_none {N : Nat} {w : World} {gj g : Nat} {A : Option Addr} {c : Nat} {p : List Int} (h : JAt N w gj g 0 [] 0) (hC : Kd.C (Kd.int .u8) w A p.length p) (hc : p.length ≤ c) (ok : okB p = true) (x : Int) (hx : x = if 1000 < p.length then 12 else if p.length = 0 then 1 else 4) :
    Calls Try.prog 75 #[.pointer (some ⟨gj, 0, none⟩), .slice A p.length c] w fun e w' => e = .returned (.int .i64 x) ∧ Below w.heap.size w w' := by
  by_cases h1 : 1000 < p.length
  · rw [if_pos h1] at hx
    exact (jappend_no x (.inr ⟨h1, hx⟩) hC.2.1).mono fun e w' ⟨he, n, hw⟩ => ⟨he, by rw [hw]; exact pw_below_drewN (Below.refl _ _) n⟩
  · rw [if_neg h1] at hx
    by_cases h0 : p.length = 0
    · rw [if_pos h0] at hx
      exact (jappend_no x (.inl ⟨h0, hx⟩) hC.2.1).mono fun e w' ⟨he, n, hw⟩ => ⟨he, by rw [hw]; exact pw_below_drewN (Below.refl _ _) n⟩
    · rw [if_neg h0] at hx
      subst hx
      exact jappend_full h hC hc ⟨ok, by omega, by omega⟩ (by simp [allF_nil])
theorem jr_zero {N : Nat} {w : World} {gj g : Nat} (h : JAt N w gj g 0 [] 0) : Calls Try.prog 84 #[.pointer (some ⟨gj, 0, none⟩)] w fun e w' => e = .returned (.int .i64 0) ∧ ∃ n, w' = w.drewN n :=
  (jr_any h).mono fun e w' ⟨he, hn⟩ => ⟨by rw [he]; simp [allF_nil], hn⟩
set_option maxRecDepth 100000 in
set_option maxHeartbeats 2000000 in
theorem journalNil_any (A0 : Option Addr) (c0 : Nat) (l0 : List Int) (n : Int) (w : World) (h0 : Kd.C (Kd.int .u8) w A0 l0.length l0) (hc0 : l0.length ≤ c0) (ok0 : okB l0 = true) :
    Calls Try.prog 26 #[.slice A0 l0.length c0, .int .i64 n] w fun e w' => e = .returned (.bool true) ∧ Below w.heap.size w w' := by
  have H0 := Aside0.mk h0
  have hl63 := h0.2.1
  obtain ⟨x, hx⟩ : ∃ x : Int, x = if 1000 < l0.length then 12 else if l0.length = 0 then 1 else 4 := ⟨_, rfl⟩
  have AP : Aside0 (∀ (W : World) (gj g : Nat), Below w.heap.size w W → JAt w.heap.size W gj g 0 [] 0 → Calls Try.prog 75 #[.pointer (some ⟨gj, 0, none⟩), .slice A0 l0.length c0] W fun e w' => e = .returned (.int .i64 x) ∧ Below W.heap.size W w') := Aside0.mk (fun W gj g hb h => jappend_none h (Kd.C_below h0 hb) hc0 ok0 x hx)
  clear h0 ok0
  by_cases h1 : 1000 < l0.length
  · rw [if_pos h1] at hx
    subst hx
    have hz : ((l0.length : Int) == 0) = false := by simp; intro e; subst e; simp at h1
    go_enter Try.func26, Try.ntmps26
    go_wp2_with (first
      | (go_at_call 73; refine (lives6_any _).mono ?_; rintro e w1 ⟨rfl, hb⟩; have HB1 := Aside0.mk hb; clear hb)
      | (go_at_call 74; refine (jOpen_nil (N := w.heap.size) HB1.out.size).mono ?_; rintro e w2 ⟨g, gj, rfl, hj, hb, hgj, hg⟩; have HJ2 := Aside0.mk hj; have HB2 := Aside0.mk (below_step HB1.out hb); clear hj hb)
      | (go_at_call 75; (with_reducible refine jappend_nil.mono ?_); rintro e w3 ⟨rfl, rfl⟩)
      | (go_at_call 83; refine (jtorn_nil n).mono ?_; rintro e w3 ⟨rfl, rfl⟩)
      | (go_at_call 76; (with_reducible refine jsync_nil.mono ?_); rintro e w3 ⟨rfl, rfl⟩)
      | (go_at_call 79; refine (jcrash_nil n).mono ?_; rintro e w3 ⟨rfl, rfl⟩)
      | (go_at_call 85; refine (jswap_nil _).mono ?_; rintro e w3 ⟨rfl, rfl⟩)
      | (go_at_call 80; refine jall_nil.mono ?_; rintro e w4 ⟨A4, c4, rfl, hb⟩; have HJ4 := Aside0.mk (HJ2.out.next hb); have HB4 := Aside0.mk (below_step HB2.out hb); clear hb)
      | (go_at_call 78; (with_reducible refine jlen_nil.mono ?_); rintro e w5 ⟨rfl, rfl⟩)
      | (go_at_call 77; (with_reducible refine jsafe_nil.mono ?_); rintro e w5 ⟨rfl, rfl⟩)
      | (go_at_call 84; (with_reducible refine jroom_nil.mono ?_); rintro e w5 ⟨rfl, rfl⟩)
      | (go_at_call 75; (with_reducible refine (AP.out _ _ _ HB4.out HJ4.out).mono ?_); rintro e w5 ⟨rfl, hb⟩; have HJ5 := Aside0.mk (HJ4.out.next hb); have HB5 := Aside0.mk (below_step HB4.out hb); clear hb)
      | (go_at_call 84; refine (jr_zero HJ5.out).mono ?_; rintro e w6 ⟨rfl, k, rfl⟩; have HB6 := Aside0.mk (pw_below_drewN HB5.out k)))
    go_ret
    exact ⟨rfl, HB6.out⟩
  · rw [if_neg h1] at hx
    have hg : ¬ (1000 : Int) < (l0.length : Int) := by omega
    clear h1
    by_cases h2 : l0.length = 0
    · rw [if_pos h2] at hx
      subst hx
      have hz : ((l0.length : Int) == 0) = true := by rw [h2]; rfl
      clear h2
      go_enter Try.func26, Try.ntmps26
      go_wp2_with (first
        | (go_at_call 73; refine (lives6_any _).mono ?_; rintro e w1 ⟨rfl, hb⟩; have HB1 := Aside0.mk hb; clear hb)
        | (go_at_call 74; refine (jOpen_nil (N := w.heap.size) HB1.out.size).mono ?_; rintro e w2 ⟨g, gj, rfl, hj, hb, hgj, hg⟩; have HJ2 := Aside0.mk hj; have HB2 := Aside0.mk (below_step HB1.out hb); clear hj hb)
        | (go_at_call 75; (with_reducible refine jappend_nil.mono ?_); rintro e w3 ⟨rfl, rfl⟩)
        | (go_at_call 83; refine (jtorn_nil n).mono ?_; rintro e w3 ⟨rfl, rfl⟩)
        | (go_at_call 76; (with_reducible refine jsync_nil.mono ?_); rintro e w3 ⟨rfl, rfl⟩)
        | (go_at_call 79; refine (jcrash_nil n).mono ?_; rintro e w3 ⟨rfl, rfl⟩)
        | (go_at_call 85; refine (jswap_nil _).mono ?_; rintro e w3 ⟨rfl, rfl⟩)
        | (go_at_call 80; refine jall_nil.mono ?_; rintro e w4 ⟨A4, c4, rfl, hb⟩; have HJ4 := Aside0.mk (HJ2.out.next hb); have HB4 := Aside0.mk (below_step HB2.out hb); clear hb)
        | (go_at_call 78; (with_reducible refine jlen_nil.mono ?_); rintro e w5 ⟨rfl, rfl⟩)
        | (go_at_call 77; (with_reducible refine jsafe_nil.mono ?_); rintro e w5 ⟨rfl, rfl⟩)
        | (go_at_call 84; (with_reducible refine jroom_nil.mono ?_); rintro e w5 ⟨rfl, rfl⟩)
        | (go_at_call 75; (with_reducible refine (AP.out _ _ _ HB4.out HJ4.out).mono ?_); rintro e w5 ⟨rfl, hb⟩; have HJ5 := Aside0.mk (HJ4.out.next hb); have HB5 := Aside0.mk (below_step HB4.out hb); clear hb)
        | (go_at_call 84; refine (jr_zero HJ5.out).mono ?_; rintro e w6 ⟨rfl, k, rfl⟩; have HB6 := Aside0.mk (pw_below_drewN HB5.out k)))
      go_ret
      exact ⟨rfl, HB6.out⟩
    · rw [if_neg h2] at hx
      subst hx
      have hz : ((l0.length : Int) == 0) = false := beq_eq_false_iff_ne.mpr (by omega)
      clear h2
      go_enter Try.func26, Try.ntmps26
      go_wp2_with (first
        | (go_at_call 73; refine (lives6_any _).mono ?_; rintro e w1 ⟨rfl, hb⟩; have HB1 := Aside0.mk hb; clear hb)
        | (go_at_call 74; refine (jOpen_nil (N := w.heap.size) HB1.out.size).mono ?_; rintro e w2 ⟨g, gj, rfl, hj, hb, hgj, hg⟩; have HJ2 := Aside0.mk hj; have HB2 := Aside0.mk (below_step HB1.out hb); clear hj hb)
        | (go_at_call 75; (with_reducible refine jappend_nil.mono ?_); rintro e w3 ⟨rfl, rfl⟩)
        | (go_at_call 83; refine (jtorn_nil n).mono ?_; rintro e w3 ⟨rfl, rfl⟩)
        | (go_at_call 76; (with_reducible refine jsync_nil.mono ?_); rintro e w3 ⟨rfl, rfl⟩)
        | (go_at_call 79; refine (jcrash_nil n).mono ?_; rintro e w3 ⟨rfl, rfl⟩)
        | (go_at_call 85; refine (jswap_nil _).mono ?_; rintro e w3 ⟨rfl, rfl⟩)
        | (go_at_call 80; refine jall_nil.mono ?_; rintro e w4 ⟨A4, c4, rfl, hb⟩; have HJ4 := Aside0.mk (HJ2.out.next hb); have HB4 := Aside0.mk (below_step HB2.out hb); clear hb)
        | (go_at_call 78; (with_reducible refine jlen_nil.mono ?_); rintro e w5 ⟨rfl, rfl⟩)
        | (go_at_call 77; (with_reducible refine jsafe_nil.mono ?_); rintro e w5 ⟨rfl, rfl⟩)
        | (go_at_call 84; (with_reducible refine jroom_nil.mono ?_); rintro e w5 ⟨rfl, rfl⟩)
        | (go_at_call 75; (with_reducible refine (AP.out _ _ _ HB4.out HJ4.out).mono ?_); rintro e w5 ⟨rfl, hb⟩; have HJ5 := Aside0.mk (HJ4.out.next hb); have HB5 := Aside0.mk (below_step HB4.out hb); clear hb)
        | (go_at_call 84; refine (jr_zero HJ5.out).mono ?_; rintro e w6 ⟨rfl, k, rfl⟩; have HB6 := Aside0.mk (pw_below_drewN HB5.out k)))
      go_ret
      exact ⟨rfl, HB6.out⟩
end Go.Proofs.Ytbcienbnhchdeaa.Hand

/- What the journal's laws share: rows that may be appended, and rows compared. -/
namespace Go.Proofs.Ytbcienbnhchdeaa.Hand
open Go Go.RowKit Go.Proofs.YtbcienbnhchdeaaW.PrintLast Go.Proofs.YtbcienbnhchdeaaW.PrintWords Go.Proofs.YtbcienbnhchdeaaW.PrintMore Print FrameC FrameL FrameS FrameR JMath
set_option linter.unusedVariables false
set_option linter.unusedSimpArgs false
attribute [local go_sem] max2_int min2_int max_two min_two
/-- Rows that may be appended, and few of them. -/
structure GoodL (G : List (List Int)) (m : Nat) : Prop where
  ok : ∀ p ∈ G, OkP p
  small : ∀ p ∈ G, p.length ≤ 30
  few : G.length ≤ m
theorem GoodL.okb {G : List (List Int)} {m : Nat} (h : GoodL G m) : ∀ p ∈ G, okB p = true := fun p hp => (h.ok p hp).1
theorem GoodL.len {G : List (List Int)} {m : Nat} (h : GoodL G m) : (allF G).length ≤ 36 * m := by
  have h1 := allF_small (x := G) (fun p hp => ⟨h.ok p hp, h.small p hp⟩)
  have h2 := h.few
  omega
theorem jgood_any (A0 : Option Addr) (c0 : Nat) (l0 : List (List Int)) (most : Nat) (hm : most ≤ 100) (w : World) (h : Kd.C KS w A0 l0.length l0) (hc : l0.length ≤ c0) (hok : ∀ p ∈ l0, okB p = true) :
    Calls Try.prog 66 #[.slice A0 l0.length c0, .int .i64 (most : Int)] w fun e w' => ∃ (G : List (List Int)) (A : Option Addr) (c : Nat), e = .returned (.slice A G.length c) ∧ G = goodL most 0 l0 ∧ GoodL G most ∧ G.length ≤ c ∧ Kd.C KS w' A G.length G ∧ Below w.heap.size w w' := by
  refine (pacesetterref04_Good.calls (2 * most + 2) (fun k => k < w.heap.size) A0 c0 l0 (most : Int) (goodL most 0 l0) w (Kd.V_mk hc (Kd.C_F (Kd.heap_slice 5 (Kd.heap_int .u8)) h)) (good_f hm (Nat.le_refl _))).mono ?_
  rintro e w' ⟨v, he, hN, hb⟩
  obtain ⟨A, c, rfl, h1, h2⟩ := Kd.N_reads hN
  have hg := goodL_ok most 0 l0 hok
  exact ⟨_, A, c, he, rfl, ⟨fun p hp => (hg.1 p hp).1, fun p hp => (hg.1 p hp).2, hg.2⟩, h1, h2, hb⟩
/-- The same, with what the rows lie in. -/
theorem jgoodN_any (P0 : Nat → Prop) (A0 : Option Addr) (c0 : Nat) (l0 : List (List Int)) (most : Nat) (hm : most ≤ 100) (w : World) (h : Kd.V KS 22 w w.heap.size P0 (.slice A0 l0.length c0) l0) (hok : ∀ p ∈ l0, okB p = true) :
    Calls Try.prog 66 #[.slice A0 l0.length c0, .int .i64 (most : Int)] w fun e w' => ∃ (G : List (List Int)) (A : Option Addr) (c : Nat), e = .returned (.slice A G.length c) ∧ G = goodL most 0 l0 ∧ GoodL G most ∧ G.length ≤ c ∧ Kd.N KS 22 w' w.heap.size (fun k => P0 k ∨ w.heap.size ≤ k) (.slice A G.length c) G ∧ Below w.heap.size w w' := by
  refine (pacesetterref04_Good.calls (2 * most + 2) P0 A0 c0 l0 (most : Int) (goodL most 0 l0) w h (good_f hm (Nat.le_refl _))).mono ?_
  rintro e w' ⟨v, he, hN, hb⟩
  obtain ⟨A, c, rfl, h1, h2⟩ := Kd.N_reads hN
  have hg := goodL_ok most 0 l0 hok
  exact ⟨_, A, c, he, rfl, ⟨fun p hp => (hg.1 p hp).1, fun p hp => (hg.1 p hp).2, hg.2⟩, h1, hN, hb⟩
theorem jsame_any (A : Option Addr) (c : Nat) (a : List (List Int)) (A' : Option Addr) (c' : Nat) (b : List (List Int)) (w : World) (h1 : Kd.C KS w A a.length a) (h2 : a.length ≤ c) (h3 : Kd.C KS w A' b.length b) (h4 : b.length ≤ c') (ha : ∀ p ∈ a, okB p = true) (hb : ∀ p ∈ b, okB p = true) (hl : a.length ≤ 1000000) :
    Calls Try.prog 69 #[.slice A a.length c, .slice A' b.length c'] w fun e w' => e = .returned (.bool (decide (a = b))) ∧ Below w.heap.size w w' :=
  (pacesetterref04_Same.calls (a.length + 1) A c a A' c' b _ w h1 h2 h3 h4 (same_f hl ha hb (Nat.le_refl _))).mono fun e w' ⟨he, hd⟩ => ⟨he, hd.below⟩
/-- A journal behind its first rows. -/
structure JFed (w2 : World) (gj g room : Nat) (l : List (List Int)) (s : Nat) (wr : World) : Prop where
  at_ : JAt w2.heap.size wr gj g room l s
  below : Below w2.heap.size w2 wr
theorem JFed.turn {w2 wr w' : World} {gj g room s s' : Nat} {l l' : List (List Int)} (h : JFed w2 gj g room l s wr) (hgj : w2.heap.size ≤ gj) (hg : w2.heap.size ≤ g) (h1 : JAt w2.heap.size w' gj g room l' s') (h2 : Moved wr w' (JSet w2.heap.size gj g)) : JFed w2 gj g room l' s' w' :=
  ⟨h1, ((Moved.of_below h.below (JSet w2.heap.size gj g)).trans h2 (fun k hk => .inl hk)).toBelow (Nat.le_refl _) (fun k hk => by rcases hk with rfl | rfl | hk <;> omega)⟩
theorem JFed.next {w2 wr w' : World} {gj g room s : Nat} {l : List (List Int)} (h : JFed w2 gj g room l s wr) (hb : Below wr.heap.size wr w') : JFed w2 gj g room l s w' := ⟨h.at_.next hb, below_step h.below hb⟩
theorem take_okP {L : List (List Int)} (h : ∀ p ∈ L, OkP p) (n : Nat) : ∀ p ∈ L.take n, OkP p := fun p hp => h p (List.mem_of_mem_take hp)
theorem take_succ {L : List (List Int)} {n : Nat} (hn : n < L.length) : L.take (n + 1) = L.take n ++ [L[n]'hn] := by rw [List.take_add_one, List.getElem?_eq_getElem hn]; rfl
/-- One more of rows that were good appended. -/
theorem jfed_ok {w2 wr : World} {gj g room s n : Nat} {l G : List (List Int)} {Ag : Option Addr} (h : JFed w2 gj g room (l ++ G.take n) s wr) (hgj : w2.heap.size ≤ gj) (hg : w2.heap.size ≤ g) (hC : Kd.C KS w2 Ag G.length G) (hn : n < G.length) (hok : ∀ p ∈ G, OkP p) (hfit : (allF l).length + (allF G).length ≤ room) :
    ∃ ad Ai ci, Ag = some ad ∧ wr.cell? (ad.add n) = some (.slice Ai (G[n]'hn).length ci) ∧ Calls Try.prog 75 #[.pointer (some ⟨gj, 0, none⟩), .slice Ai (G[n]'hn).length ci] wr fun e w' => e = .returned (.int .i64 0) ∧ JFed w2 gj g room (l ++ G.take (n + 1)) s w' := by
  obtain ⟨ad, Ai, ci, e1, hcell, hci, hCi⟩ := row_in (Kd.C_below hC h.below) hn
  refine ⟨ad, Ai, ci, e1, hcell, ?_⟩
  have h1 := allF_take_succ hn
  have h2 := allF_take_le G (n + 1)
  rw [h1, List.length_append, frameOf_len] at h2
  refine (jappend_ok h.at_ hCi hci (hok _ (List.getElem_mem hn)) (by rw [allF_append, List.length_append]; omega) h.below.size).mono ?_
  rintro e w' ⟨he, hj, hm⟩
  refine ⟨he, ?_⟩
  rw [take_succ hn, ← List.append_assoc]
  exact h.turn hgj hg hj hm
end Go.Proofs.Ytbcienbnhchdeaa.Hand

/- JournalSwaps, walked. -/
namespace Go.Proofs.Ytbcienbnhchdeaa.Hand
open Go Go.RowKit Go.Proofs.YtbcienbnhchdeaaW.PrintLast Go.Proofs.YtbcienbnhchdeaaW.PrintWords Go.Proofs.YtbcienbnhchdeaaW.PrintMore Print FrameC FrameL FrameS FrameR JMath
set_option linter.unusedVariables false
set_option linter.unusedSimpArgs false
attribute [local go_sem] max2_int min2_int max_two min_two
theorem rows1 {W : World} {A : Option Addr} {c : Nat} {l : List Int} (fr : Nat × Nat) (hA : Kd.C (Kd.int .u8) W A l.length l) (hc : l.length ≤ c) : Kd.C KS (W.alloc (.cells #[.slice A l.length c] 22 fr)) (some ⟨W.heap.size, 0, none⟩) 1 [l] := by
  refine ⟨rfl, by simp, fun _ => ⟨_, rfl, fun j p hj => ?_⟩⟩
  have hb := below_alloc (Below.refl W.heap.size W) (.cells #[.slice A l.length c] 22 fr)
  have hh : (W.alloc (.cells #[.slice A l.length c] 22 fr)).heap[W.heap.size]? = some (.cells #[.slice A l.length c] 22 fr) := heap_alloc_new W _
  match j, hj with
  | 0, hj =>
    obtain rfl : l = p := by simpa using hj
    refine ⟨[.slice A l.length c], rfl, ⟨A, c, rfl, hc, Kd.C_below hA hb⟩, fun i u hu => ?_⟩
    match i, hu with
    | 0, hu =>
      obtain rfl : Value.slice A l.length c = u := by simpa using hu
      show World.cell? _ (Addr.add _ (0 * 1 + 0)) = _
      simp only [World.cell?, add_plain, hh]
      rfl
set_option maxRecDepth 100000 in
set_option maxHeartbeats 4000000 in
theorem journalSwaps_any (A0 : Option Addr) (c0 : Nat) (l0 : List (List Int)) (w : World) (h0 : Kd.C KS w A0 l0.length l0) (hc0 : l0.length ≤ c0) (ok0 : ∀ p ∈ l0, okB p = true) :
    Calls Try.prog 24 #[.slice A0 l0.length c0] w fun e w' => e = .returned (.bool true) ∧ Below w.heap.size w w' := by
  have OP : Aside0 (∀ W, Calls Try.prog 37 #[.int .i64 5000] W fun e w' => e = .returned (.pointer (some ⟨W.heap.size, 0, none⟩)) ∧ DiskAt w' W.heap.size (fun _ => False) 5000 0 [] ∧ Below W.heap.size W w') := Aside0.mk (fun W => new_any 5000 W (fun _ => False))
  have GOOD : Aside0 (∀ W, Below w.heap.size w W → Calls Try.prog 66 #[.slice A0 l0.length c0, .int .i64 8] W fun e w' => ∃ (G : List (List Int)) (A : Option Addr) (c : Nat), e = .returned (.slice A G.length c) ∧ GoodL G 8 ∧ G.length ≤ c ∧ Kd.C KS w' A G.length G ∧ Below W.heap.size W w') := Aside0.mk (fun W hW => (jgood_any A0 c0 l0 8 (by omega) W (Kd.C_below h0 hW) hc0 ok0).mono fun e w1 ⟨G, A, c, h1, _, h2⟩ => ⟨G, A, c, h1, h2⟩)
  have hl63 := h0.2.1
  clear h0 ok0
  go_enter Try.func24, Try.ntmps24
  go_wp2_with (first
    | (go_at_call 73; refine (lives6_any _).mono ?_; rintro e w1 ⟨rfl, hb⟩; have HB1 := Aside0.mk hb; clear hb)
    | (go_at_call 66; refine (GOOD.out _ HB1.out).mono ?_; rintro e w2 ⟨G, Ag, cg, rfl, hG, hcg, hCg, hb⟩; have HG := Aside0.mk hG; have HC2 := Aside0.mk hCg; have HB2 := Aside0.mk (below_step HB1.out hb); clear hb hG hCg GOOD)
    | (go_at_call 37; refine (OP.out _).mono ?_; rintro e w3 ⟨rfl, hd, hb⟩; have HD3 := Aside0.mk hd; have HB3 := Aside0.mk hb; clear hd hb)
    | (go_at_call 74; refine (jOpen_new (N := w2.heap.size) HD3.out HB3.out.size).mono ?_; rintro e w4 ⟨rfl, hj, hm⟩; have hgj := HB3.out.size; have HJ0 := Aside0.mk (show JFed w2 w3.heap.size w2.heap.size 5000 ([] ++ G.take 0) 0 w4 from ⟨hj, ((Moved.of_below HB3.out (JSet w2.heap.size w3.heap.size w2.heap.size)).trans hm (fun k hk => .inl hk)).toBelow (Nat.le_refl _) (fun k hk => by rcases hk with rfl | rfl | hk <;> omega)⟩); clear hj hm HD3))
  have hg : w2.heap.size ≤ w2.heap.size := Nat.le_refl _
  clear HB3
  generalize w3.heap.size = gj at *
  clear HB1 OP
  have hGl := HG.out.few
  have hAl := HG.out.len
  go_loopw [6] (fun i wr => ∃ (n : Nat), n ≤ G.length ∧ i = .int .i64 (n : Int) ∧ Hid (JFed w2 gj w2.heap.size 5000 ([] ++ G.take n) 0 wr)) (fun i _ => G.length - (intOf i).toNat)
  case atStart => exact ⟨0, by omega, rfl, Lib.hid HJ0.out⟩
  case round =>
    obtain ⟨n, hn, rfl, HC⟩ := hrel
    clear HJ0
    by_cases hlt : n < G.length
    · obtain ⟨ad, Ai, ci, rfl, hcell, hcall⟩ := jfed_ok HC.out hgj hg HC2.out hlt HG.out.ok (by simp [allF_nil]; omega)
      have AP := Aside0.mk hcall
      clear hcall
      generalize (G[n]'hlt).length = pl at *
      go_wp2_with (go_at_call 75; refine AP.out.mono ?_; rintro e w5 ⟨rfl, hf⟩; have HF := Aside0.mk hf; clear hf)
      go_roundw
      case rel => exact ⟨n + 1, by omega, by go_num, Lib.hid HF.out⟩
      case measure => simp [intOf]; omega
    · obtain rfl : n = G.length := by omega
      have hj5 := HC.out
      rw [List.take_length, List.nil_append] at hj5
      have HJ5 := Aside0.mk hj5
      clear hj5 HC
      obtain ⟨rm, hrm⟩ : ∃ rm : Int, (5000 : Int) - ((allF G).length : Int) = rm := ⟨_, rfl⟩
      have ROOM : Aside0 (∀ W, JFed w2 gj w2.heap.size 5000 G 0 W → Calls Try.prog 84 #[.pointer (some ⟨gj, 0, none⟩)] W fun e w' => e = .returned (.int .i64 rm) ∧ JFed w2 gj w2.heap.size 5000 G 0 w') := Aside0.mk (fun W h => (jr_any h.at_).mono fun e w' ⟨he, k, hk⟩ => ⟨by rw [he]; exact congrArg (fun z => Ending.returned (Value.int .i64 z)) hrm, by rw [hk]; exact h.next (pw_below_drewN (Below.refl _ _) k)⟩)
      have ROOMS : Aside0 (∀ W, JFed w2 gj w2.heap.size 5000 G G.length W → Calls Try.prog 84 #[.pointer (some ⟨gj, 0, none⟩)] W fun e w' => e = .returned (.int .i64 rm) ∧ JFed w2 gj w2.heap.size 5000 G G.length w') := Aside0.mk (fun W h => (jr_any h.at_).mono fun e w' ⟨he, k, hk⟩ => ⟨by rw [he]; exact congrArg (fun z => Ending.returned (Value.int .i64 z)) hrm, by rw [hk]; exact h.next (pw_below_drewN (Below.refl _ _) k)⟩)
      have ROOM0 : Aside0 (∀ W, JFed w2 gj w2.heap.size 5000 [] 0 W → Calls Try.prog 84 #[.pointer (some ⟨gj, 0, none⟩)] W fun e w' => e = .returned (.int .i64 5000) ∧ JFed w2 gj w2.heap.size 5000 [] 0 w') := Aside0.mk (fun W h => (jr_any h.at_).mono fun e w' ⟨he, k, hk⟩ => ⟨by rw [he]; simp [allF_nil], by rw [hk]; exact h.next (pw_below_drewN (Below.refl _ _) k)⟩)
      have SW : Aside0 (∀ W A c, JFed w2 gj w2.heap.size 5000 G 0 W → Kd.C KS W A G.length G → G.length ≤ c → Calls Try.prog 85 #[.pointer (some ⟨gj, 0, none⟩), .slice A G.length c] W fun e w' => e = .returned (.int .i64 0) ∧ JFed w2 gj w2.heap.size 5000 G G.length w') := Aside0.mk (fun W A c h hC hc => (jswap_ok h.at_ hC hc HG.out.ok (by omega) h.below.size (by omega)).mono fun e w' ⟨he, h1, h2⟩ => ⟨he, h.turn hgj hg h1 h2⟩)
      have SW0 : Aside0 (∀ W, JFed w2 gj w2.heap.size 5000 G G.length W → Calls Try.prog 85 #[.pointer (some ⟨gj, 0, none⟩), .slice none 0 0] W fun e w' => e = .returned (.int .i64 0) ∧ JFed w2 gj w2.heap.size 5000 [] 0 w') := Aside0.mk (fun W h => (jswap_ok (L := []) (A := none) (c := 0) h.at_ (Kd.C_nil _ _) (Nat.le_refl _) (fun p hp => by simp at hp) (by simp [allF_nil]) h.below.size (by simp [allF_nil])).mono fun e w' ⟨he, h1, h2⟩ => ⟨he, h.turn hgj hg h1 h2⟩)
      have SW1 : Aside0 (∀ W fr, Calls Try.prog 85 #[.pointer (some ⟨gj, 0, none⟩), .slice (some ⟨W.heap.size, 0, none⟩) 1 1] (W.alloc (.cells #[.slice none 0 0] 22 fr)) fun e w' => e = .returned (.int .i64 1) ∧ Below W.heap.size W w') := Aside0.mk (fun W fr => (jswap_no (L := [[]]) (c := 1) (rows1 fr (Kd.C_nil _ _) (Nat.le_refl _)) (by simp) 0 (by simp) rfl (fun n _ hn => by omega) (by simp [allF_cons, allF_nil, frameOf_len])).mono fun e w' ⟨he, hb⟩ => ⟨he, below_step (below_alloc (Below.refl _ _) _) hb⟩)
      have CR : Aside0 (∀ W, JFed w2 gj w2.heap.size 5000 G G.length W → Calls Try.prog 79 #[.pointer (some ⟨gj, 0, none⟩), .int .i64 0] W fun e w' => e = .returned (.int .i64 0) ∧ JFed w2 gj w2.heap.size 5000 G G.length w') := Aside0.mk (fun W h => by
        have h0 := jcrash_any 0 h.at_ h.below.size (by omega)
        have e1 : leftOf G G.length 0 = (allF G).length := by simp [leftOf, List.take_length, keepOf]
        rw [e1, fit_all, List.take_length] at h0
        refine h0.mono fun e w' ⟨he, h1, h2⟩ => ⟨?_, h.turn hgj hg h1 h2⟩
        rw [he, Int.sub_self])
      have SAME : Aside0 (∀ W A c, JFed w2 gj w2.heap.size 5000 G G.length W → Kd.C KS W A G.length G → G.length ≤ c → Calls Try.prog 69 #[.slice A G.length c, .slice Ag G.length cg] W fun e w' => e = .returned (.bool true) ∧ JFed w2 gj w2.heap.size 5000 G G.length w') := Aside0.mk (fun W A c h hC hc => (jsame_any A c G Ag cg G W hC hc (Kd.C_below HC2.out h.below) hcg HG.out.okb HG.out.okb (by omega)).mono fun e w' ⟨he, hb⟩ => ⟨by rw [he]; simp, h.next hb⟩)
      have ALL : Aside0 (∀ W s, JFed w2 gj w2.heap.size 5000 G s W → Calls Try.prog 80 #[.pointer (some ⟨gj, 0, none⟩)] W fun e w' => ∃ (A : Option Addr) (c : Nat), e = .returned (.slice A G.length c) ∧ G.length ≤ c ∧ Kd.C KS w' A G.length G ∧ JFed w2 gj w2.heap.size 5000 G s w') := Aside0.mk (fun W s h => (ja_any h.at_).mono fun e w' ⟨A, c, he, h1, h2, h3⟩ => ⟨A, c, he, h1, h2, h.next h3⟩)
      clear hrm
      generalize hq : G.length = q at *
      have HQ := Aside0.mk hq
      clear hq
      go_wp2_with (first
        | (go_at_call 84; refine (ROOM.out _ HJ5.out).mono ?_; rintro e w6 ⟨rfl, hf⟩; have HJ6 := Aside0.mk hf; clear hf HJ5)
        | (go_at_call 80; refine (ALL.out _ _ HJ6.out).mono ?_; rintro e w7 ⟨A7, c7, rfl, hc7, hC, hb⟩; have HC7 := Aside0.mk hC; have HJ7 := Aside0.mk hb; clear hC hb HJ6)
        | (go_at_call 85; refine (SW.out _ _ _ HJ7.out HC7.out hc7).mono ?_; rintro e w8 ⟨rfl, hf⟩; have HJ8 := Aside0.mk hf; clear hf HJ7 HC7)
        | (go_at_call 84; refine (ROOMS.out _ HJ8.out).mono ?_; rintro e w9 ⟨rfl, hf⟩; have HJ9 := Aside0.mk hf; clear hf HJ8)
        | (go_at_call 80; refine (ALL.out _ _ HJ9.out).mono ?_; rintro e w10 ⟨A10, c10, rfl, hc10, hC, hb⟩; have HC10 := Aside0.mk hC; have HJ10 := Aside0.mk hb; clear hC hb HJ9)
        | (go_at_call 69; refine (SAME.out _ _ _ HJ10.out HC10.out hc10).mono ?_; rintro e w11 ⟨rfl, hf⟩; have HJ11 := Aside0.mk hf; clear hf HJ10 HC10)
        | (go_at_call 77; refine (js_any HJ11.out.at_).mono ?_; rintro e w12 ⟨rfl, rfl⟩)
        | (go_at_call 79; refine (CR.out _ HJ11.out).mono ?_; rintro e w13 ⟨rfl, hf⟩; have HJ13 := Aside0.mk hf; clear hf HJ11)
        | (go_at_call 85; refine (SW0.out _ HJ13.out).mono ?_; rintro e w14 ⟨rfl, hf⟩; have HJ14 := Aside0.mk hf; clear hf HJ13)
        | (go_at_call 78; refine (show Calls Try.prog 78 #[.pointer (some ⟨gj, 0, none⟩)] _ fun e w' => e = .returned (.int .i64 0) ∧ _ = w' from jl_any HJ14.out.at_).mono ?_; rintro e w15 ⟨rfl, rfl⟩)
        | (go_at_call 84; refine (ROOM0.out _ HJ14.out).mono ?_; rintro e w16 ⟨rfl, hf⟩; have HJ16 := Aside0.mk hf; clear hf HJ14)
        | (go_at_call 85; refine (SW1.out _ _).mono ?_; rintro e w17 ⟨rfl, hb⟩; have HJ17 := Aside0.mk (HJ16.out.next hb); clear hb))
      go_ret
      exact ⟨rfl, below_step HB2.out HJ17.out.below⟩
end Go.Proofs.Ytbcienbnhchdeaa.Hand

/- JournalTorn, walked. -/
namespace Go.Proofs.Ytbcienbnhchdeaa.Hand
open Go Go.RowKit Go.Proofs.YtbcienbnhchdeaaW.PrintLast Go.Proofs.YtbcienbnhchdeaaW.PrintWords Go.Proofs.YtbcienbnhchdeaaW.PrintMore Print FrameC FrameL FrameS FrameR JMath
set_option linter.unusedVariables false
set_option linter.unusedSimpArgs false
attribute [local go_sem] max2_int min2_int max_two min_two
/-- Entries that a torn one follows: all stay, and it just if all of it was written. -/
theorem fit_torn (l : List (List Int)) (p : List Int) (keep : Int) : fit (l ++ [p]) ((allF l).length + keepOf keep (p.length + 6)) = if ((p.length : Int) + 6 ≤ keep) then l.length + 1 else l.length := by
  have h1 := keepOf_le keep (p.length + 6)
  by_cases h : ((p.length : Int) + 6 ≤ keep)
  · rw [if_pos h]
    have e : keepOf keep (p.length + 6) = p.length + 6 := by (unfold keepOf; repeat' split) <;> omega
    rw [e, ← allF_snoc_len, fit_all, List.length_append, List.length_singleton]
  · rw [if_neg h]
    have e : keepOf keep (p.length + 6) < p.length + 6 := by (unfold keepOf; repeat' split) <;> omega
    have a := fit_max (l ++ [p]) ((allF l).length + keepOf keep (p.length + 6)) l.length (by simp) (by rw [List.take_left]; omega)
    have b := fit_le (l ++ [p]) ((allF l).length + keepOf keep (p.length + 6))
    have c := fit_len (l ++ [p]) ((allF l).length + keepOf keep (p.length + 6))
    rw [List.length_append, List.length_singleton] at b
    generalize fit (l ++ [p]) ((allF l).length + keepOf keep (p.length + 6)) = m at *
    by_cases hm : m = l.length
    · exact hm
    · obtain rfl : m = l.length + 1 := by omega
      rw [List.take_of_length_le (by simp), allF_snoc_len] at c
      omega
/-- A row of one row: what came in, or new. -/
theorem row1_V {W1 W2 : World} {A : Option Addr} {c : Nat} {l : List Int} (fr : Nat × Nat) (hb : Below W1.heap.size W1 W2) (hA : Kd.C (Kd.int .u8) W1 A l.length l) (hc : l.length ≤ c) :
    Kd.V KS 22 (W2.alloc (.cells #[.slice A l.length c] 22 fr)) (W2.alloc (.cells #[.slice A l.length c] 22 fr)).heap.size (fun k => k < W1.heap.size ∨ W2.heap.size ≤ k) (.slice (some ⟨W2.heap.size, 0, none⟩) 1 1) [l] := by
  refine Kd.V_mk (xs := [l]) (Nat.le_refl _) (fun W' hW => ?_)
  have hs := hb.size
  have hb2 := below_alloc (Below.refl W2.heap.size W2) (.cells #[.slice A l.length c] 22 fr)
  have hlt : W2.heap.size < (W2.alloc (.cells #[.slice A l.length c] 22 fr)).heap.size := by simp
  have hh : W'.heap[W2.heap.size]? = some (.cells #[.slice A l.length c] 22 fr) := (hW _ (.inr (Nat.le_refl _)) hlt).trans (heap_alloc_new W2 _)
  refine ⟨rfl, by simp, fun _ => ⟨_, rfl, fun j p hj => ?_⟩⟩
  match j, hj with
  | 0, hj =>
    obtain rfl : l = p := by simpa using hj
    refine ⟨[.slice A l.length c], rfl, ⟨A, c, rfl, hc, (Kd.heap_int .u8).C (fun k hk => ?_) hA⟩, fun i u hu => ?_⟩
    · exact (hW k (.inl hk) (by omega)).trans ((hb2.block k (by omega)).trans (hb.block k hk))
    · match i, hu with
      | 0, hu =>
        obtain rfl : Value.slice A l.length c = u := by simpa using hu
        show World.cell? _ (Addr.add _ (0 * 1 + 0)) = _
        simp only [World.cell?, add_plain, hh]
        rfl
theorem cell_below {W W1 : World} {a : Addr} {v : Value} (h : W.cell? a = some v) (hb : Below W.heap.size W W1) : W1.cell? a = some v := Kd.cell_heap (fun k hk => hb.block k hk) h
theorem N_one {W : World} {b : Nat} {ok : Nat → Prop} {A : Option Addr} {c : Nat} {q : List Int} (h : Kd.N KS 22 W b ok (.slice A 1 c) [q]) :
    ∃ g Ai ci, A = some ⟨g, 0, none⟩ ∧ Kd.FK KS W ok q [.slice Ai q.length ci] ∧ W.cell? ⟨g, 0, none⟩ = some (.slice Ai q.length ci) ∧ q.length ≤ ci ∧ Kd.C (Kd.int .u8) W Ai q.length q := by
  obtain ⟨ad, _, _, rfl, _⟩ := row_in (L := [q]) (n := 0) (Kd.N_reads' h).2.2 (by simp)
  obtain ⟨g, rfl⟩ : ∃ g, ad = ⟨g, 0, none⟩ := by
    obtain ⟨_, rows, _, hR, _⟩ := h
    exact Kd.R_head hR
  obtain ⟨cs, hcl, hF, hcc, _⟩ := Kd.N_elem h [] 0 (by omega) (by omega)
  obtain ⟨Ai, ci, rfl, h1, h2⟩ := Kd.FK_now hF
  exact ⟨g, Ai, ci, rfl, Kd.FK_mono hF (fun k hk => hk.1), hcc 0 _ rfl, h1, h2⟩
/-- A journal beside a row that grew. -/
structure JOn (w1 : World) (N gj g room : Nat) (l : List (List Int)) (s : Nat) (W : World) : Prop where
  at_ : JAt N W gj g room l s
  below : Below w1.heap.size w1 W
  big : N ≤ W.heap.size
theorem JOn.next {w1 W W' : World} {N gj g room s : Nat} {l : List (List Int)} (h : JOn w1 N gj g room l s W) (hb : Below W.heap.size W W') : JOn w1 N gj g room l s W' := ⟨h.at_.next hb, below_step h.below hb, Nat.le_trans h.big hb.size⟩
theorem JOn.turn {w1 W W' : World} {N gj g room s s' : Nat} {l l' : List (List Int)} (h : JOn w1 N gj g room l s W) (hN : w1.heap.size ≤ N) (hgj : N ≤ gj) (hg : N ≤ g) (h1 : JAt N W' gj g room l' s') (h2 : Moved W W' (JSet N gj g)) : JOn w1 N gj g room l' s' W' :=
  ⟨h1, ((Moved.of_below h.below (JSet N gj g)).trans h2 (fun k hk => .inl hk)).toBelow (Nat.le_refl _) (fun k hk => by rcases hk with rfl | rfl | hk <;> omega), Nat.le_trans h.big h2.size⟩
set_option maxRecDepth 100000 in
set_option maxHeartbeats 4000000 in
theorem journalTorn_any (A0 : Option Addr) (c0 : Nat) (l0 : List (List Int)) (A1 : Option Addr) (c1 : Nat) (p1 : List Int) (keep : Int) (w : World) (h0 : Kd.C KS w A0 l0.length l0) (hc0 : l0.length ≤ c0) (ok0 : ∀ p ∈ l0, okB p = true) (h1 : Kd.C (Kd.int .u8) w A1 p1.length p1) (hc1 : p1.length ≤ c1) (ok1 : okB p1 = true) :
    Calls Try.prog 23 #[.slice A0 l0.length c0, .slice A1 p1.length c1, .int .i64 keep] w fun e w' => e = .returned (.bool true) ∧ Below w.heap.size w w' := by
  have OP : Aside0 (∀ W, Calls Try.prog 37 #[.int .i64 10000] W fun e w' => e = .returned (.pointer (some ⟨W.heap.size, 0, none⟩)) ∧ DiskAt w' W.heap.size (fun _ => False) 10000 0 [] ∧ Below W.heap.size W w') := Aside0.mk (fun W => new_any 10000 W (fun _ => False))
  have GOOD : Aside0 (∀ W, Below w.heap.size w W → Calls Try.prog 66 #[.slice A0 l0.length c0, .int .i64 6] W fun e w' => ∃ (G : List (List Int)) (A : Option Addr) (c : Nat), e = .returned (.slice A G.length c) ∧ GoodL G 6 ∧ G.length ≤ c ∧ Kd.N KS 22 w' W.heap.size (fun _ => True) (.slice A G.length c) G ∧ Below W.heap.size W w') := Aside0.mk (fun W hW => (jgoodN_any (fun k => k < W.heap.size) A0 c0 l0 6 (by omega) W (Kd.V_mk hc0 (Kd.C_F (Kd.heap_slice 5 (Kd.heap_int .u8)) (Kd.C_below h0 hW))) ok0).mono fun e w1 ⟨G, A, c, h1, _, h2, h3, h4, h5⟩ => ⟨G, A, c, h1, h2, h3, Kd.N_mono h4 (fun _ _ => trivial), h5⟩)
  have GOOD1 : Aside0 (∀ W1 W fr, Below w.heap.size w W1 → Below W1.heap.size W1 W → Calls Try.prog 66 #[.slice (some ⟨W.heap.size, 0, none⟩) 1 1, .int .i64 1] (W.alloc (.cells #[.slice A1 p1.length c1] 22 fr)) fun e w' => ∃ (b : Nat) (q : List Int) (A : Option Addr) (c : Nat), e = .returned (.slice A 1 c) ∧ OkP q ∧ q.length ≤ 30 ∧ 1 ≤ c ∧ Kd.N KS 22 w' b (fun k => k < W1.heap.size ∨ W.heap.size ≤ k) (.slice A 1 c) [q] ∧ Below W.heap.size W w') := Aside0.mk (fun W1 W fr hb1 hb2 => by
    refine (jgoodN_any (fun k => k < W1.heap.size ∨ W.heap.size ≤ k) (some ⟨W.heap.size, 0, none⟩) 1 [p1] 1 (by omega) _ (row1_V fr hb2 (Kd.C_below h1 hb1) hc1) (fun p hp => by rw [List.mem_singleton.1 hp]; exact ok1)).mono ?_
    rintro e w' ⟨G, A, c, he, hG, hg, hc, hN, hb⟩
    obtain rfl : G = [one 0 p1] := by rw [hG]; simp [goodL]
    have hb3 := below_alloc (Below.refl W.heap.size W) (.cells #[.slice A1 p1.length c1] 22 fr)
    exact ⟨_, one 0 p1, A, c, he, hg.ok _ (by simp), hg.small _ (by simp), hc, Kd.N_mono hN (fun k hk => by rcases hk with h | h; exact h; exact .inr (by have := hb3.size; omega)), below_step hb3 hb⟩)
  have kc := fun (W : World) (C : Array Value) (n c : Nat) => Lib.run_convert_bytes_const (P := Try.prog) W 22 5 C n c Try.underlying22 Try.underlying5
  have hl63 := h0.2.1
  have hp63 := h1.2.1
  clear h0 ok0 h1 ok1
  go_enter Try.func23, Try.ntmps23
  go_wp2_with (first
    | (go_at_call 73; refine (lives6_any _).mono ?_; rintro e w1 ⟨rfl, hb⟩; have HB1 := Aside0.mk hb; clear hb)
    | (go_at_call 66; refine (GOOD.out _ HB1.out).mono ?_; rintro e w2 ⟨G, Ag, cg, rfl, hG, hcg, hNg, hb⟩; have HG := Aside0.mk hG; have HN2 := Aside0.mk hNg; have HB2 := Aside0.mk hb; clear hb hG hNg GOOD)
    | (go_at_call 66; refine (GOOD1.out _ _ _ HB1.out HB2.out).mono ?_; rintro e w3 ⟨b3, q, Al, cl, rfl, hq, hql, hcl, hNl, hb⟩; have HQ := Aside0.mk hq; have HL3 := Aside0.mk hNl; have HN3 := Aside0.mk (Kd.N_below HN2.out hb); have HB3 := Aside0.mk (below_step HB2.out hb); have HLT := Aside0.mk (Kd.N_lt HN2.out); have HBS := Aside0.mk (Kd.N_base HN2.out); have hz2 := hb.size; have hz1 := HB2.out.size; clear hb hq hNl HN2 HB2 GOOD1)
    | (go_at_call 37; refine (OP.out _).mono ?_; rintro e w4 ⟨rfl, hd, hb⟩; have HD4 := Aside0.mk hd; have HB4 := Aside0.mk hb; clear hd hb)
    | (go_at_call 74; refine (jOpen_new (N := w3.heap.size) HD4.out HB4.out.size).mono ?_; rintro e w5 ⟨rfl, hj, hm⟩; have hgj := HB4.out.size; have HJ0 := Aside0.mk (show JFed w3 w4.heap.size w3.heap.size 10000 ([] ++ G.take 0) 0 w5 from ⟨hj, ((Moved.of_below HB4.out (JSet w3.heap.size w4.heap.size w3.heap.size)).trans hm (fun k hk => .inl hk)).toBelow (Nat.le_refl _) (fun k hk => by rcases hk with rfl | rfl | hk <;> omega)⟩); clear hj hm HD4))
  have hg : w3.heap.size ≤ w3.heap.size := Nat.le_refl _
  clear HB4
  generalize w4.heap.size = gj at *
  clear OP
  have hGl := HG.out.few
  have hAl := HG.out.len
  go_loopw [11] (fun i wr => ∃ (n : Nat), n ≤ G.length ∧ i = .int .i64 (n : Int) ∧ Hid (JFed w3 gj w3.heap.size 10000 ([] ++ G.take n) 0 wr)) (fun i _ => G.length - (intOf i).toNat)
  case atStart => exact ⟨0, by omega, rfl, Lib.hid HJ0.out⟩
  case round =>
    obtain ⟨n, hn, rfl, HC⟩ := hrel
    clear HJ0
    by_cases hlt : n < G.length
    · obtain ⟨ad, Ai, ci, rfl, hcell, hcall⟩ := jfed_ok HC.out hgj hg (Kd.N_reads' HN3.out).2.2 hlt HG.out.ok (by simp [allF_nil]; omega)
      have AP := Aside0.mk hcall
      clear hcall
      generalize (G[n]'hlt).length = pl at *
      go_wp2_with (go_at_call 75; refine AP.out.mono ?_; rintro e w5 ⟨rfl, hf⟩; have HF := Aside0.mk hf; clear hf)
      go_roundw
      case rel => exact ⟨n + 1, by omega, by go_num, Lib.hid HF.out⟩
      case measure => simp [intOf]; omega
    · obtain rfl : n = G.length := by omega
      have hj5 := HC.out
      rw [List.take_length, List.nil_append] at hj5
      have HJ5 := Aside0.mk hj5
      clear hj5 HC
      obtain ⟨gl, Ai, ci, rfl, hfk, hcell3, hci, hCi⟩ := N_one HL3.out
      have HFK := Aside0.mk hfk
      have HCI := Aside0.mk hCi
      have CELL := Aside0.mk hcell3
      clear hfk hCi hcell3 HL3
      have hcell := cell_below CELL.out HJ5.out.below
      have hft := fit_torn G q keep
      by_cases hk : ((q.length : Int) + 6 ≤ keep)
      · rw [if_pos hk] at hft
        have TORN : Aside0 (∀ W, JFed w3 gj w3.heap.size 10000 G 0 W → Calls Try.prog 83 #[.pointer (some ⟨gj, 0, none⟩), .slice Ai q.length ci, .int .i64 keep] W fun e w' => e = .returned (.int .i64 13) ∧ JFed w3 gj w3.heap.size 10000 (G ++ [q]) (G.length + 1) w') := Aside0.mk (fun W h => by
          have h0 := jtorn_ok keep h.at_ (Kd.C_below HCI.out h.below) hci HQ.out (by omega) h.below.size (by omega) rfl hft
          rw [List.take_of_length_le (by simp)] at h0
          exact h0.mono fun e w' ⟨he, a, b⟩ => ⟨he, h.turn hgj hg a b⟩)
        have ALL : Aside0 (∀ W, JFed w3 gj w3.heap.size 10000 (G ++ [q]) (G.length + 1) W → Calls Try.prog 80 #[.pointer (some ⟨gj, 0, none⟩)] W fun e w' => ∃ (A : Option Addr) (c : Nat), e = .returned (.slice A (G.length + 1) c) ∧ (G.length + 1) ≤ c ∧ Kd.F KS w' (fun k => w3.heap.size ≤ k ∨ T5 w' k) A (G.length + 1) (G ++ [q]) ∧ JFed w3 gj w3.heap.size 10000 (G ++ [q]) (G.length + 1) w') := Aside0.mk (fun W h => (jaF_any h.at_).mono fun e w' ⟨A, c, he, h1, h2, h3⟩ => by
          simp only [List.length_append, List.length_singleton] at he h1 h2
          exact ⟨A, c, he, h1, Kd.F_mono h2 (fun k hk => by rcases hk with a | a; exact .inl (by have := h.below.size; omega); exact .inr a), h.next h3⟩)
        have SAME : Aside0 (∀ W A c A' c', Kd.C KS W A (G.length + 1) (G ++ [q]) → (G.length + 1) ≤ c → Kd.C KS W A' (G.length + 1) (G ++ [q]) → (G.length + 1) ≤ c' → Calls Try.prog 69 #[.slice A (G.length + 1) c, .slice A' (G.length + 1) c'] W fun e w' => e = .returned (.bool true) ∧ Below W.heap.size W w') := Aside0.mk (fun W A c A' c' hC hc hC' hc' => by
          have okL : ∀ p ∈ (G ++ [q]), okB p = true := fun p hp => by rcases List.mem_append.1 hp with h | h; exact HG.out.okb p h; rw [List.mem_singleton.1 h]; exact HQ.out.1
          have h0 := jsame_any A c (G ++ [q]) A' c' (G ++ [q]) W (by simpa using hC) (by simpa using hc) (by simpa using hC') (by simpa using hc') okL okL (by (try simp) <;> omega)
          try simp only [List.length_append, List.length_singleton] at h0
          exact h0.mono fun e w' ⟨he, hb⟩ => ⟨by rw [he]; simp, hb⟩)
        have XB : Aside0 (∀ W, JOn w1 w3.heap.size gj w3.heap.size 10000 (G ++ [q]) (G.length + 1) W → Calls Try.prog 75 #[.pointer (some ⟨gj, 0, none⟩), .slice (some ⟨W.heap.size, 0, none⟩) 1 1] (W.alloc (.cells #[.int .u8 120] 5 (1, 2))) fun e w' => e = .returned (.int .i64 0) ∧ JOn w1 w3.heap.size gj w3.heap.size 10000 ((G ++ [q]) ++ [[120]]) (G.length + 1) w') := Aside0.mk (fun W h => (jbyte_ok h.at_ 120 (by omega) (by rw [allF_snoc_len]; omega) h.big).mono fun e w' ⟨he, a, b⟩ => ⟨he, h.turn (by omega) hgj hg a b⟩)
        have LEN : Aside0 (∀ W, JOn w1 w3.heap.size gj w3.heap.size 10000 ((G ++ [q]) ++ [[120]]) (G.length + 1) W → Calls Try.prog 78 #[.pointer (some ⟨gj, 0, none⟩)] W fun e w' => e = .returned (.int .i64 (((G.length : Int) + 1) + 1)) ∧ W = w') := Aside0.mk (fun W h => (jl_any h.at_).mono fun e w' ⟨he, a⟩ => ⟨by rw [he] <;> (try simp) <;> (try omega), a⟩)
        have SAFE : Aside0 (∀ W, JOn w1 w3.heap.size gj w3.heap.size 10000 (G ++ [q]) (G.length + 1) W → Calls Try.prog 77 #[.pointer (some ⟨gj, 0, none⟩)] W fun e w' => e = .returned (.int .i64 ((G.length : Int) + 1)) ∧ W = w') := Aside0.mk (fun W h => (js_any h.at_).mono fun e w' ⟨he, a⟩ => ⟨by rw [he] <;> (try simp) <;> (try omega), a⟩)
        have OWN := Aside0.mk (Kd.N_reads' HN3.out).2.2
        clear hft
        have HAL := Aside0.mk hAl
        clear hAl
        generalize hgq : G.length = gq at *
        generalize hqq : q.length = ql at *
        have HGQ := Aside0.mk hgq
        have HQQ := Aside0.mk hqq
        clear hgq hqq
        go_wp2_with (first
          | (go_at_call 83; refine (TORN.out _ HJ5.out).mono ?_; rintro e w6 ⟨rfl, hf⟩; have HJ6 := Aside0.mk hf; clear hf HJ5 hcell)
          | (go_at_call 80; refine (ALL.out _ HJ6.out).mono ?_; rintro e w7 ⟨A7, c7, rfl, hc7, hF, hf⟩; have HF7 := Aside0.mk hF; have HJ7 := Aside0.mk hf; have hcell7 := cell_below CELL.out hf.below; skip; clear hF hf HJ6)
          | (at_builtin
             refine Kd.N_append KS (w0 := w1) w1.heap.size rfl (.tmp 59) (.tmp 63) 65 22 (.slice none 0 0) 24 rfl Try.underlying65 info22' rfl (by decide) (by omega) (.slice Ag gq cg) G q [.slice Ai ql ci] (fun _ => True) (fun k => k < w1.heap.size ∨ w2.heap.size ≤ k) rfl rfl ?aP ?aK (fun _ _ => trivial) ?aO ?aB ?aS ?aL ?_
             case aP => exact Kd.FK_below HFK.out HJ7.out.below
             case aK => intro k hk; refine ⟨trivial, fun he => ?_⟩; have h1 := HLT.out k he.symm; have h2 := HBS.out k he.symm; omega
             case aO => exact Kd.N_below HN3.out HJ7.out.below
             case aB => exact below_step HB3.out HJ7.out.below
             case aS => have h1 := HJ7.out.below.size; omega
             case aL => have h1 := HGQ.out; omega
             intro v8 w8 hr hb8 hg8 hat8
             obtain ⟨A8, c8, rfl⟩ := Kd.N_slice hr
             have hz := HJ7.out.below.size
             have hof : ∀ k, w3.heap.size ≤ k → k < w7.heap.size → w8.heap[k]? = w7.heap[k]? := fun k hk hlt => hg8.block k hlt (fun e => by have := HLT.out k e.symm; omega)
             have HC8 := Aside0.mk (show Kd.C KS w8 A8 (gq + 1) (G ++ [q]) from by have h := (Kd.N_reads' hr).2.2; rw [List.length_append, List.length_singleton, HGQ.out] at h; exact h)
             have hc8 : gq + 1 ≤ c8 := by have h := (Kd.N_reads' hr).2.1; rw [List.length_append, List.length_singleton, HGQ.out] at h; exact h
             have HF8 := Aside0.mk (Kd.F_now (Kd.F_step HF7.out (fun k hk hlt => by
               rcases hk with hk | ⟨cs, hcs⟩
               · exact hof k hk hlt
               · refine hg8.block k hlt (fun e => ?_)
                 obtain ⟨_, rows, _, hR, _⟩ := Kd.N_below HN3.out HJ7.out.below
                 obtain ⟨cs2, hcs2⟩ := Kd.R_typed hR k e.symm
                 exact blk_ne hcs2 hcs (by decide) rfl)))
             have HJ8 := Aside0.mk (show JOn w1 w3.heap.size gj w3.heap.size 10000 (G ++ [q]) (gq + 1) w8 from ⟨HJ7.out.at_.step hg8.size (hof gj hgj HJ7.out.at_.lt.1) (hof _ hg HJ7.out.at_.lt.2) hof, hb8, Nat.le_trans hz hg8.size⟩)
             rw [List.length_append, List.length_singleton, HGQ.out]
             clear hr hb8 hg8 hat8 hof hz HJ7 HF7)
          | (go_at_call 69; refine (SAME.out _ _ _ _ _ HF8.out hc7 HC8.out hc8).mono ?_; rintro e w9 ⟨rfl, hb⟩; have HJ9 := Aside0.mk (HJ8.out.next hb); clear hb HJ8)
          | (go_at_call 77; refine (SAFE.out _ HJ9.out).mono ?_; rintro e w10 ⟨rfl, rfl⟩)
          | (go_at_call 75; refine (XB.out _ HJ9.out).mono ?_; rintro e w11 ⟨rfl, hf⟩; have HJ11 := Aside0.mk hf; clear hf HJ9)
          | (go_at_call 78; refine (LEN.out _ HJ11.out).mono ?_; rintro e w12 ⟨rfl, rfl⟩))
        go_ret
        exact ⟨rfl, below_step HB1.out HJ11.out.below⟩
      · rw [if_neg hk] at hft
        have TORN : Aside0 (∀ W, JFed w3 gj w3.heap.size 10000 G 0 W → Calls Try.prog 83 #[.pointer (some ⟨gj, 0, none⟩), .slice Ai q.length ci, .int .i64 keep] W fun e w' => e = .returned (.int .i64 13) ∧ JFed w3 gj w3.heap.size 10000 G G.length w') := Aside0.mk (fun W h => by
          have h0 := jtorn_ok keep h.at_ (Kd.C_below HCI.out h.below) hci HQ.out (by omega) h.below.size (by omega) rfl hft
          rw [List.take_left] at h0
          exact h0.mono fun e w' ⟨he, a, b⟩ => ⟨he, h.turn hgj hg a b⟩)
        have ALL : Aside0 (∀ W, JFed w3 gj w3.heap.size 10000 G G.length W → Calls Try.prog 80 #[.pointer (some ⟨gj, 0, none⟩)] W fun e w' => ∃ (A : Option Addr) (c : Nat), e = .returned (.slice A G.length c) ∧ G.length ≤ c ∧ Kd.F KS w' (fun k => w3.heap.size ≤ k ∨ T5 w' k) A G.length G ∧ JFed w3 gj w3.heap.size 10000 G G.length w') := Aside0.mk (fun W h => (jaF_any h.at_).mono fun e w' ⟨A, c, he, h1, h2, h3⟩ => by
          skip
          exact ⟨A, c, he, h1, Kd.F_mono h2 (fun k hk => by rcases hk with a | a; exact .inl (by have := h.below.size; omega); exact .inr a), h.next h3⟩)
        have SAME : Aside0 (∀ W A c A' c', Kd.C KS W A G.length G → G.length ≤ c → Kd.C KS W A' G.length G → G.length ≤ c' → Calls Try.prog 69 #[.slice A G.length c, .slice A' G.length c'] W fun e w' => e = .returned (.bool true) ∧ Below W.heap.size W w') := Aside0.mk (fun W A c A' c' hC hc hC' hc' => by
          have okL : ∀ p ∈ G, okB p = true := HG.out.okb
          have h0 := jsame_any A c G A' c' G W (by simpa using hC) (by simpa using hc) (by simpa using hC') (by simpa using hc') okL okL (by (try simp) <;> omega)
          try simp only [List.length_append, List.length_singleton] at h0
          exact h0.mono fun e w' ⟨he, hb⟩ => ⟨by rw [he]; simp, hb⟩)
        have XB : Aside0 (∀ W, JOn w1 w3.heap.size gj w3.heap.size 10000 G G.length W → Calls Try.prog 75 #[.pointer (some ⟨gj, 0, none⟩), .slice (some ⟨W.heap.size, 0, none⟩) 1 1] (W.alloc (.cells #[.int .u8 120] 5 (1, 2))) fun e w' => e = .returned (.int .i64 0) ∧ JOn w1 w3.heap.size gj w3.heap.size 10000 (G ++ [[120]]) G.length w') := Aside0.mk (fun W h => (jbyte_ok h.at_ 120 (by omega) (by omega) h.big).mono fun e w' ⟨he, a, b⟩ => ⟨he, h.turn (by omega) hgj hg a b⟩)
        have LEN : Aside0 (∀ W, JOn w1 w3.heap.size gj w3.heap.size 10000 (G ++ [[120]]) G.length W → Calls Try.prog 78 #[.pointer (some ⟨gj, 0, none⟩)] W fun e w' => e = .returned (.int .i64 ((G.length : Int) + 1)) ∧ W = w') := Aside0.mk (fun W h => (jl_any h.at_).mono fun e w' ⟨he, a⟩ => ⟨by rw [he] <;> (try simp) <;> (try omega), a⟩)
        have SAFE : Aside0 (∀ W, JOn w1 w3.heap.size gj w3.heap.size 10000 G G.length W → Calls Try.prog 77 #[.pointer (some ⟨gj, 0, none⟩)] W fun e w' => e = .returned (.int .i64 (G.length : Int)) ∧ W = w') := Aside0.mk (fun W h => (js_any h.at_).mono fun e w' ⟨he, a⟩ => ⟨by rw [he] <;> (try simp) <;> (try omega), a⟩)
        have OWN := Aside0.mk (Kd.N_reads' HN3.out).2.2
        clear hft
        have HAL := Aside0.mk hAl
        clear hAl
        generalize hgq : G.length = gq at *
        generalize hqq : q.length = ql at *
        have HGQ := Aside0.mk hgq
        have HQQ := Aside0.mk hqq
        clear hgq hqq
        go_wp2_with (first
          | (go_at_call 83; refine (TORN.out _ HJ5.out).mono ?_; rintro e w6 ⟨rfl, hf⟩; have HJ6 := Aside0.mk hf; clear hf HJ5 hcell)
          | (go_at_call 80; refine (ALL.out _ HJ6.out).mono ?_; rintro e w7 ⟨A7, c7, rfl, hc7, hF, hf⟩; have HF7 := Aside0.mk hF; have HJ7 := Aside0.mk hf; have hcell7 := cell_below CELL.out hf.below; have HJ8 := Aside0.mk (show JOn w1 w3.heap.size gj w3.heap.size 10000 G gq w7 from ⟨hf.at_, below_step HB3.out hf.below, hf.below.size⟩); have HF8 := Aside0.mk (Kd.F_now hF); have HC8 := Aside0.mk (Kd.C_below OWN.out hf.below); clear hF hf HJ6)
          | (go_at_call 69; refine (SAME.out _ _ _ _ _ HF8.out hc7 HC8.out hcg).mono ?_; rintro e w9 ⟨rfl, hb⟩; have HJ9 := Aside0.mk (HJ8.out.next hb); clear hb HJ8)
          | (go_at_call 77; refine (SAFE.out _ HJ9.out).mono ?_; rintro e w10 ⟨rfl, rfl⟩)
          | (go_at_call 75; refine (XB.out _ HJ9.out).mono ?_; rintro e w11 ⟨rfl, hf⟩; have HJ11 := Aside0.mk hf; clear hf HJ9)
          | (go_at_call 78; refine (LEN.out _ HJ11.out).mono ?_; rintro e w12 ⟨rfl, rfl⟩))
        go_ret
        exact ⟨rfl, below_step HB1.out HJ11.out.below⟩
end Go.Proofs.Ytbcienbnhchdeaa.Hand

/- JournalCrash, walked. -/
namespace Go.Proofs.Ytbcienbnhchdeaa.Hand
open Go Go.RowKit Go.Proofs.YtbcienbnhchdeaaW.PrintLast Go.Proofs.YtbcienbnhchdeaaW.PrintWords Go.Proofs.YtbcienbnhchdeaaW.PrintMore Print FrameC FrameL FrameS FrameR JMath
set_option linter.unusedVariables false
set_option linter.unusedSimpArgs false
attribute [local go_sem] max2_int min2_int max_two min_two
theorem keepOf_up {x y : Int} (h : x ≤ y) (m : Nat) : keepOf x m ≤ keepOf y m := by
  unfold keepOf
  split <;> split <;> (try split) <;> (try split) <;> omega
/-- How many of the entries that were not safe a crash leaves. -/
def cutN (X Y : List (List Int)) (keep : Int) : Nat := fit (X ++ Y) (leftOf (X ++ Y) X.length keep) - X.length
theorem cutN_spec (X Y : List (List Int)) (keep : Int) : fit (X ++ Y) (leftOf (X ++ Y) X.length keep) = X.length + cutN X Y keep ∧ cutN X Y keep ≤ Y.length := by
  have a := fit_max (X ++ Y) (leftOf (X ++ Y) X.length keep) X.length (by simp) (leftOf_le _ _ _).2
  have b := fit_le (X ++ Y) (leftOf (X ++ Y) X.length keep)
  rw [List.length_append] at b
  unfold cutN
  omega
theorem cutN_mono (X Y : List (List Int)) {x y : Int} (h : x ≤ y) : cutN X Y x ≤ cutN X Y y := by
  have a := fit_mono (X ++ Y) (show leftOf (X ++ Y) X.length x ≤ leftOf (X ++ Y) X.length y by
    have := keepOf_up h ((allF (X ++ Y)).length - (allF ((X ++ Y).take X.length)).length)
    unfold leftOf
    omega)
  unfold cutN
  omega
/-- The two numbers left so far. -/
structure KeepsJ (w3 wr : World) (s0 s1 : Int) (n : Nat) : Prop where
  lb : wr.heap[w3.heap.size]? = some (.cells #[.int .i64 (if 0 < n then s0 else 0), .int .i64 (if 1 < n then s1 else 0)] 36 (0, 0))
  below : Below w3.heap.size w3 wr
theorem KeepsJ.put {w3 wr w7 : World} {s0 s1 : Int} {n : Nat} (h : KeepsJ w3 wr s0 s1 n) (hb : Below wr.heap.size wr w7) (hn : n < 2) :
    KeepsJ w3 (w7.setCell ⟨w3.heap.size, n, none⟩ (.int .i64 (if n = 0 then s0 else s1))) s0 s1 (n + 1) := by
  have h2 : w7.heap[w3.heap.size]? = _ := (hb.block w3.heap.size (blk_lt h.lb)).trans h.lb
  refine ⟨?_, (below_step h.below hb).setCell (Nat.le_refl _) _⟩
  have h3 := blk_set h2 n (.int .i64 (if n = 0 then s0 else s1))
  rw [h3]
  match n, hn with
  | 0, _ => simp
  | 1, _ => simp
set_option maxRecDepth 100000 in
set_option maxHeartbeats 4000000 in
theorem journalCrash_any (A0 : Option Addr) (c0 : Nat) (l0 : List (List Int)) (A1 : Option Addr) (c1 : Nat) (l1 : List (List Int)) (x y : Int) (w : World) (h0 : Kd.C KS w A0 l0.length l0) (hc0 : l0.length ≤ c0) (ok0 : ∀ p ∈ l0, okB p = true) (h1 : Kd.C KS w A1 l1.length l1) (hc1 : l1.length ≤ c1) (ok1 : ∀ p ∈ l1, okB p = true) :
    Calls Try.prog 21 #[.slice A0 l0.length c0, .slice A1 l1.length c1, .agg #[.int .i64 x, .int .i64 y]] w fun e w' => e = .returned (.bool true) ∧ Below w.heap.size w w' := by
  have OP : Aside0 (∀ W, Calls Try.prog 37 #[.int .i64 10000] W fun e w' => e = .returned (.pointer (some ⟨W.heap.size, 0, none⟩)) ∧ DiskAt w' W.heap.size (fun _ => False) 10000 0 [] ∧ Below W.heap.size W w') := Aside0.mk (fun W => new_any 10000 W (fun _ => False))
  have GOOD : Aside0 (∀ W, Below w.heap.size w W → Calls Try.prog 66 #[.slice A0 l0.length c0, .int .i64 5] W fun e w' => ∃ (G : List (List Int)) (A : Option Addr) (c : Nat), e = .returned (.slice A G.length c) ∧ GoodL G 5 ∧ G.length ≤ c ∧ Kd.C KS w' A G.length G ∧ Below W.heap.size W w') := Aside0.mk (fun W hW => (jgood_any A0 c0 l0 5 (by omega) W (Kd.C_below h0 hW) hc0 ok0).mono fun e w1 ⟨G, A, c, h1, _, h2⟩ => ⟨G, A, c, h1, h2⟩)
  have GOOD2 : Aside0 (∀ W, Below w.heap.size w W → Calls Try.prog 66 #[.slice A1 l1.length c1, .int .i64 5] W fun e w' => ∃ (G : List (List Int)) (A : Option Addr) (c : Nat), e = .returned (.slice A G.length c) ∧ GoodL G 5 ∧ G.length ≤ c ∧ Kd.C KS w' A G.length G ∧ Below W.heap.size W w') := Aside0.mk (fun W hW => (jgood_any A1 c1 l1 5 (by omega) W (Kd.C_below h1 hW) hc1 ok1).mono fun e w1 ⟨G, A, c, h1, _, h2⟩ => ⟨G, A, c, h1, h2⟩)
  have hl63 := h0.2.1
  have hk63 := h1.2.1
  have hB0 := Aside0.mk ((Below.refl w.heap.size w).alloc (Nat.le_refl _) (.cells #[.int .i64 x, .int .i64 y] 36))
  clear h0 ok0 h1 ok1
  go_enter Try.func21, Try.ntmps21
  go_wp2_with (first
    | (go_at_call 73; refine (lives6_any _).mono ?_; rintro e w1 ⟨rfl, hb⟩; have hkb := (hb.block w.heap.size (by simp)).trans (heap_alloc_new w _); have HKB1 := Aside0.mk hkb; have HB1 := Aside0.mk (below_then hB0.out (by simp) hb); clear hkb hb hB0)
    | (go_at_call 66; ((with_reducible refine (GOOD.out _ HB1.out).mono ?_); rintro e w2 ⟨X, Ax, cx, rfl, hG, hcx, hCg, hb⟩); have HX := Aside0.mk hG; have HCX2 := Aside0.mk hCg; have HKB2 := Aside0.mk (blk_below HKB1.out hb); have HB2 := Aside0.mk (below_step HB1.out hb); clear hb hG hCg GOOD HKB1)
    | (go_at_call 66; ((with_reducible refine (GOOD2.out _ HB2.out).mono ?_); rintro e w3 ⟨Y, Ay, cy, rfl, hG, hcy, hCg, hb⟩); have HY := Aside0.mk hG; have HCX := Aside0.mk (Kd.C_below HCX2.out hb); have HCY := Aside0.mk hCg; have HKB := Aside0.mk (blk_below HKB2.out hb); have HB3 := Aside0.mk (below_step HB2.out hb); clear hb hG hCg GOOD2 HKB2 HB2 HB1 HCX2))

  generalize hgx : X.length = gx at *
  generalize hgy : Y.length = gy at *
  have HGX := Aside0.mk hgx
  have HGY := Aside0.mk hgy
  clear hgx hgy
  have hzw : w.heap.size < w3.heap.size := blk_lt HKB.out
  have HC0 : Hid (KeepsJ w3 (w3.alloc (.cells #[.int .i64 0, .int .i64 0] 36)) (cutN X Y x) (cutN X Y y) 0) := Lib.hid ⟨heap_alloc_new w3 _, below_alloc (Below.refl _ _) _⟩
  go_loopw [10] (fun i wr => ∃ n : Nat, n ≤ 2 ∧ i = .int .i64 (n : Int) ∧ Hid (KeepsJ w3 wr (cutN X Y x) (cutN X Y y) n)) (fun i _ => 2 - (intOf i).toNat)
  case atStart => exact ⟨0, by omega, rfl, HC0⟩
  case round =>
    obtain ⟨n, hn, rfl, HK⟩ := hrel
    clear HC0
    obtain ⟨wo, rfl⟩ : ∃ wo, wo = wr := ⟨_, rfl⟩
    have KBW := Aside0.mk (show ∀ W : World, Below wo.heap.size wo W → W.heap[w.heap.size]? = some (.cells #[.int .i64 x, .int .i64 y] 36 (0, 0)) from fun W hW => (hW.block _ (Nat.lt_of_lt_of_le hzw HK.out.below.size)).trans ((HK.out.below.block _ hzw).trans HKB.out))
    by_cases hlt : n < 2
    · have CXR : Aside0 (Kd.C KS wo Ax X.length X) := Aside0.mk (by rw [HGX.out]; exact Kd.C_below HCX.out HK.out.below)
      have CYR : Aside0 (Kd.C KS wo Ay Y.length Y) := Aside0.mk (by rw [HGY.out]; exact Kd.C_below HCY.out HK.out.below)
      obtain ⟨kn, hkn⟩ : ∃ kn : Int, (if n = 0 then x else y) = kn := ⟨_, rfl⟩
      have hcs : (if n = 0 then ((cutN X Y x : Nat) : Int) else (cutN X Y y : Nat)) = ((cutN X Y kn : Nat) : Int) := by rw [← hkn]; split <;> rfl
      have hck : ∀ W : World, Below wo.heap.size wo W → W.cell? ⟨w.heap.size, n, none⟩ = some (.int .i64 kn) := by
        intro W hW
        rw [blk_cell (KBW.out W hW), ← hkn]
        match n, hlt with
        | 0, _ => rfl
        | 1, _ => rfl
      obtain ⟨old, hold⟩ : ∃ old, ∀ W : World, Below wo.heap.size wo W → W.cell? ⟨w3.heap.size, n, none⟩ = some (.int .i64 old) ∧ W.frozen? ⟨w3.heap.size, n, none⟩ = false := by
        match n, hlt with
        | 0, _ => exact ⟨_, fun W hW => ⟨(blk_cell ((hW.block _ (blk_lt HK.out.lb)).trans HK.out.lb) 0).trans rfl, blk_frozen ((hW.block _ (blk_lt HK.out.lb)).trans HK.out.lb) 0⟩⟩
        | 1, _ => exact ⟨_, fun W hW => ⟨(blk_cell ((hW.block _ (blk_lt HK.out.lb)).trans HK.out.lb) 1).trans rfl, blk_frozen ((hW.block _ (blk_lt HK.out.lb)).trans HK.out.lb) 1⟩⟩
      have HCK := Aside0.mk hck
      have HOLD := Aside0.mk hold
      have HCS := Aside0.mk hcs
      clear hck hold hcs hkn
      have hxl := HX.out.few
      have hyl := HY.out.few
      rw [HGX.out] at hxl
      rw [HGY.out] at hyl
      have hxa := HX.out.len
      have hya := HY.out.len
      go_wp2_with (first
        | (go_at_call 37; refine (OP.out _).mono ?_; rintro e w4 ⟨rfl, hd, hb⟩; have HD4 := Aside0.mk hd; have HB4 := Aside0.mk hb; clear hd hb)
        | (go_at_call 74; refine (jOpen_new (N := wo.heap.size) HD4.out HB4.out.size).mono ?_; rintro e w5 ⟨rfl, hj, hm⟩; have hgj := HB4.out.size; have HJ0 := Aside0.mk (show JFed wo w4.heap.size wo.heap.size 10000 ([] ++ X.take 0) 0 w5 from ⟨hj, ((Moved.of_below HB4.out (JSet wo.heap.size w4.heap.size wo.heap.size)).trans hm (fun k hk => .inl hk)).toBelow (Nat.le_refl _) (fun k hk => by rcases hk with rfl | rfl | hk <;> omega)⟩); clear hj hm HD4))
      have hg : wo.heap.size ≤ wo.heap.size := Nat.le_refl _
      clear HB4
      generalize w4.heap.size = gj at *
      go_loopw [13] (fun i wq => ∃ (m : Nat), m ≤ gx ∧ i = .int .i64 (m : Int) ∧ Hid (JFed wo gj wo.heap.size 10000 ([] ++ X.take m) 0 wq)) (fun i _ => gx - (intOf i).toNat)
      case atStart => exact ⟨0, by omega, rfl, Lib.hid HJ0.out⟩
      case round =>
        obtain ⟨m, hm, rfl, HC⟩ := hrel
        clear HJ0
        by_cases hml : m < gx
        · have hml' : m < X.length := by rw [HGX.out]; exact hml
          obtain ⟨ad, Ai, ci, rfl, hcell, hcall⟩ := jfed_ok HC.out hgj hg CXR.out hml' HX.out.ok (by simp [allF_nil]; omega)
          have AP := Aside0.mk hcall
          clear hcall
          generalize (X[m]'hml').length = pl at *
          go_wp2_with (go_at_call 75; refine AP.out.mono ?_; rintro e w5 ⟨rfl, hf⟩; have HF := Aside0.mk hf; clear hf)
          go_roundw
          case rel => exact ⟨m + 1, by omega, by go_num, Lib.hid HF.out⟩
          case measure => simp [intOf]; omega
        · obtain rfl : gx = m := by omega
          have hj5 := HC.out
          rw [← HGX.out, List.take_length, List.nil_append] at hj5
          have SYNC : Aside0 (∀ W, JFed wo gj wo.heap.size 10000 X 0 W → Calls Try.prog 76 #[.pointer (some ⟨gj, 0, none⟩)] W fun e w' => e = .returned (.int .i64 (gx : Int)) ∧ JFed wo gj wo.heap.size 10000 (X ++ Y.take 0) gx w') := Aside0.mk (by
                have hgx := HGX.out
                have hgy := HGY.out
                subst hgx hgy
                exact fun W h => (jsync_any h.at_ h.below.size).mono fun e w' ⟨he, a, b⟩ => ⟨by rw [he]; simp, by rw [List.take_zero, List.append_nil]; exact h.turn hgj hg a b⟩)
          have HJ5 := Aside0.mk hj5
          clear hj5 HC
          go_wp2_with (go_at_call 76; refine (SYNC.out _ HJ5.out).mono ?_; rintro e w6 ⟨rfl, hf⟩; have HJ6 := Aside0.mk hf; clear hf)
          clear HJ5 SYNC
          go_loopw [14] (fun i wq => ∃ (m : Nat), m ≤ gy ∧ i = .int .i64 (m : Int) ∧ Hid (JFed wo gj wo.heap.size 10000 (X ++ Y.take m) gx wq)) (fun i _ => gy - (intOf i).toNat)
          case atStart => exact ⟨0, by omega, rfl, Lib.hid HJ6.out⟩
          case round =>
            obtain ⟨m, hm, rfl, HC⟩ := hrel
            clear HJ6
            by_cases hml : m < gy
            · have hml' : m < Y.length := by rw [HGY.out]; exact hml
              obtain ⟨ad, Ai, ci, rfl, hcell, hcall⟩ := jfed_ok HC.out hgj hg CYR.out hml' HY.out.ok (by omega)
              have AP := Aside0.mk hcall
              clear hcall
              generalize (Y[m]'hml').length = pl at *
              go_wp2_with (go_at_call 75; refine AP.out.mono ?_; rintro e w5 ⟨rfl, hf⟩; have HF := Aside0.mk hf; clear hf)
              go_roundw
              case rel => exact ⟨m + 1, by omega, by go_num, Lib.hid HF.out⟩
              case measure => simp [intOf]; omega
            · obtain rfl : gy = m := by omega
              have hj7 := HC.out
              rw [← HGY.out, List.take_length] at hj7
              have HJ7 := Aside0.mk hj7
              have hck7 := HCK.out _ HC.out.below
              clear hj7 HC
              obtain ⟨hsp, hkl⟩ := cutN_spec X Y kn
              rw [HGY.out] at hkl
              have SAFE : Aside0 (∀ W, JFed wo gj wo.heap.size 10000 (X ++ Y) gx W → Calls Try.prog 77 #[.pointer (some ⟨gj, 0, none⟩)] W fun e w' => e = .returned (.int .i64 (gx : Int)) ∧ W = w') := Aside0.mk (by
                have hgx := HGX.out
                have hgy := HGY.out
                subst hgx hgy
                exact fun W h => js_any h.at_)
              have LEN : Aside0 (∀ W, JFed wo gj wo.heap.size 10000 (X ++ Y) gx W → Calls Try.prog 78 #[.pointer (some ⟨gj, 0, none⟩)] W fun e w' => e = .returned (.int .i64 ((gx : Int) + (gy : Int))) ∧ W = w') := Aside0.mk (by
                have hgx := HGX.out
                have hgy := HGY.out
                subst hgx hgy
                exact fun W h => (jl_any h.at_).mono fun e w' ⟨he, a⟩ => ⟨by rw [he]; simp, a⟩)
              generalize hkk : cutN X Y kn = k at *
              obtain ⟨d, hd⟩ : ∃ d, gy = k + d := ⟨gy - k, by omega⟩
              have CRASH : Aside0 (∀ W, JFed wo gj wo.heap.size 10000 (X ++ Y) gx W → Calls Try.prog 79 #[.pointer (some ⟨gj, 0, none⟩), .int .i64 kn] W fun e w' => e = .returned (.int .i64 (d : Int)) ∧ JFed wo gj wo.heap.size 10000 (X ++ Y.take k) (gx + k) w') := Aside0.mk (by
                have hgx := HGX.out
                have hgy := HGY.out
                subst hgx hgy
                exact fun W h => by
                    have h0 := jcrash_any kn h.at_ h.below.size (by rw [allF_append, List.length_append]; omega)
                    rw [hsp, List.take_length_add_append] at h0
                    refine h0.mono fun e w' ⟨he, a, b⟩ => ⟨?_, h.turn hgj hg a b⟩
                    rw [he, List.length_append]
                    exact congrArg (fun z => Ending.returned (Value.int .i64 z)) (by omega))
              have ALL : Aside0 (∀ W, JFed wo gj wo.heap.size 10000 (X ++ Y.take k) (gx + k) W → Calls Try.prog 80 #[.pointer (some ⟨gj, 0, none⟩)] W fun e w' => ∃ (A : Option Addr) (c : Nat), e = .returned (.slice A (gx + k) c) ∧ gx + k ≤ c ∧ Kd.C KS w' A gx X ∧ Kd.C KS w' (if c = gx then A else A.map (·.add gx)) k (Y.take k) ∧ JFed wo gj wo.heap.size 10000 (X ++ Y.take k) (gx + k) w') := Aside0.mk (by
                have hgx := HGX.out
                have hgy := HGY.out
                subst hgx hgy
                exact fun W h => (ja_any h.at_).mono fun e w' ⟨A, c, he, h1, h2, h3⟩ => by
                    have hlen : (X ++ Y.take k).length = X.length + k := by rw [List.length_append, List.length_take]; omega
                    have hc1 := Kd.C_take (m := X.length) h2 (by omega)
                    have hc2 := Kd.C_drop (m := X.length) (c := c) h2 (by omega) h1
                    rw [List.take_left] at hc1
                    rw [List.drop_left, show X.length * KS.sz = X.length from Nat.mul_one _, show (Y.take k).length = k from by rw [List.length_take]; omega] at hc2
                    rw [hlen] at he h1
                    exact ⟨A, c, he, h1, hc1, hc2, h.next h3⟩)
              have SAME1 : Aside0 (∀ W A c, Kd.C KS W A gx X → gx ≤ c → Kd.C KS W Ax gx X → Calls Try.prog 69 #[.slice A gx c, .slice Ax gx cx] W fun e w' => e = .returned (.bool true) ∧ ∃ m, w' = W.drewN m) := Aside0.mk (by
                have hgx := HGX.out
                have hgy := HGY.out
                subst hgx hgy
                exact fun W A c hC hc hC' => (pacesetterref04_Same.calls (X.length + 1) A c X Ax cx X _ W hC hc hC' hcx (same_f (by omega) HX.out.okb HX.out.okb (Nat.le_refl _))).mono fun e w' ⟨he, hd⟩ => ⟨by rw [he]; simp, hd.out⟩)
              have SAME2 : Aside0 (∀ W A c A', A' = Ay → Kd.C KS W A k (Y.take k) → k ≤ c → Kd.C KS W Ay gy Y → Calls Try.prog 69 #[.slice A k c, .slice A' k cy] W fun e w' => e = .returned (.bool true) ∧ ∃ m, w' = W.drewN m) := Aside0.mk (by
                have hgx := HGX.out
                have hgy := HGY.out
                subst hgx hgy
                exact fun W A c A' hA hC hc hC' => by
                    subst hA
                    have hl : (Y.take k).length = k := by rw [List.length_take]; omega
                    have hC2 := Kd.C_take (m := k) hC' (by omega)
                    have hok : ∀ p ∈ Y.take k, okB p = true := fun p hp => HY.out.okb p (List.mem_of_mem_take hp)
                    have h0 := pacesetterref04_Same.calls ((Y.take k).length + 1) A c (Y.take k) A' cy (Y.take k) _ W (by rw [hl]; exact hC) (by omega) hC2 (by omega) (same_f (by omega) hok hok (Nat.le_refl _))
                    rw [hl] at h0
                    exact h0.mono fun e w' ⟨he, hd⟩ => ⟨by rw [he]; simp, hd.out⟩)
              have SAFE2 : Aside0 (∀ W, JFed wo gj wo.heap.size 10000 (X ++ Y.take k) (gx + k) W → Calls Try.prog 77 #[.pointer (some ⟨gj, 0, none⟩)] W fun e w' => e = .returned (.int .i64 ((gx : Int) + (k : Int))) ∧ w' = W) := Aside0.mk (by
                have hgx := HGX.out
                have hgy := HGY.out
                subst hgx hgy
                exact fun W h => (js_any h.at_).mono fun e w' ⟨he, a⟩ => ⟨by rw [he]; simp, a.symm⟩)
              clear hxa hya hsp
              have HKK := Aside0.mk hkk
              clear hkk
              have hk0 : decide ((k : Int) < 0) = false := by simp
              have hk1 : ((k : Int) + (d : Int)) = (gy : Int) := by omega
              have hk2 : k ≤ gy := by omega
              clear hd hkl
              go_wp2_with (first
                | (go_at_call 77; refine (SAFE.out _ HJ7.out).mono ?_; rintro e w8 ⟨rfl, rfl⟩)
                | (go_at_call 78; refine (LEN.out _ HJ7.out).mono ?_; rintro e w8 ⟨rfl, rfl⟩)
                | (go_at_call 79; refine (CRASH.out _ HJ7.out).mono ?_; rintro e w8 ⟨rfl, hf⟩; have HJ8 := Aside0.mk hf; clear hf HJ7 hck7)
                | (go_at_call 80; refine (ALL.out _ HJ8.out).mono ?_; rintro e w9 ⟨A9, c9, rfl, hc9, h1, h2, hf⟩; have HC91 := Aside0.mk h1; have HC92 := Aside0.mk h2; have HJ9 := Aside0.mk hf; have HX9 := Aside0.mk (Kd.C_below CXR.out hf.below); have HY9 := Aside0.mk (Kd.C_below CYR.out hf.below); obtain ⟨hold9, hfr9⟩ := HOLD.out _ hf.below; clear h1 h2 hf HJ8))
              rw [show ((gx : Int) + (k : Int) - (gx : Int)) = (k : Int) from by omega]
              have hc8 : gx ≤ c9 := by omega
              have Q1 := Aside0.mk (fun n => Calls.quiet_of (SAME1.out (w9.drewN n) _ _ (Kd.C_drewN HC91.out n) hc8 (by have h := Kd.C_drewN HX9.out n; rw [HGX.out] at h; exact h)))
              have Q2 := Aside0.mk (fun n => Calls.quiet_of (SAME2.out (w9.drewN n) _ (c9 - gx) _ rfl (Kd.C_drewN HC92.out n) (by omega) (by have h := Kd.C_drewN HY9.out n; rw [HGY.out] at h; exact h)))
              have Q3 := Aside0.mk (fun n => Calls.quiet_of_same (SAFE2.out (w9.drewN n) (HJ9.out.next (pw_below_drewN (Below.refl _ _) n))))
              go_quiet (first
                | (go_at_call 69; with_reducible exact Q1.out _)
                | (go_at_call 69; with_reducible exact Q2.out _)
                | (go_at_call 77; with_reducible exact Q3.out _))
              have HB9 := Aside0.mk (pw_below_drewN HJ9.out.below nq)
              have hold10 : (w9.drewN nq).cell? ⟨w3.heap.size, n, none⟩ = some (.int .i64 old) := (HOLD.out _ HB9.out).1
              have hfr10 : (w9.drewN nq).frozen? ⟨w3.heap.size, n, none⟩ = false := (HOLD.out _ HB9.out).2
              clear hold9 hfr9 HJ9 HC91 HC92 HX9 HY9 Q1 Q2 Q3
              generalize w9.drewN nq = w10 at *
              generalize (if c9 = gx then A9 else Option.map (fun x => x.add gx) A9) = A10
              clear hk0 hk1 hk2 hc8 hc9 hxl hyl SAME1 SAME2 SAFE SAFE2 LEN CRASH ALL HCK HOLD KBW CXR CYR OP
              go_wp2
              go_roundw
              case rel => exact ⟨n + 1, by omega, by go_num, Lib.hid (by have h := HK.out.put HB9.out hlt; rw [HCS.out] at h; exact h)⟩
              case measure => simp [intOf]; omega
    · obtain rfl : n = 2 := by omega
      have hn0 : wo.cell? ⟨w3.heap.size, 0, none⟩ = some (.int .i64 (cutN X Y x : Nat)) := (blk_cell HK.out.lb 0).trans rfl
      have hn1 : wo.cell? ⟨w3.heap.size, 1, none⟩ = some (.int .i64 (cutN X Y y : Nat)) := (blk_cell HK.out.lb 1).trans rfl
      have hkb := KBW.out wo (Below.refl _ _)
      have hn2 : wo.cell? ⟨w.heap.size, 0, none⟩ = some (.int .i64 x) := (blk_cell hkb 0).trans rfl
      have hn3 : wo.cell? ⟨w.heap.size, 1, none⟩ = some (.int .i64 y) := (blk_cell hkb 1).trans rfl
      have HBW := Aside0.mk (below_step HB3.out HK.out.below)
      have hmono := @cutN_mono X Y x y
      clear hkb
      generalize cutN X Y x = s0 at *
      generalize cutN X Y y = s1 at *
      by_cases hxy : y < x
      · clear hmono
        go_wp2
        go_ret
        exact ⟨rfl, HBW.out⟩
      · have hle : (s0 : Int) ≤ (s1 : Int) := by have := hmono (by omega); omega
        clear hmono
        go_wp2
        go_ret
        exact ⟨rfl, HBW.out⟩
end Go.Proofs.Ytbcienbnhchdeaa.Hand

/- A row of rows of bytes that came in, opened. -/
namespace Go.Proofs.Ytbcienbnhchdeaa.Hand
open Go Go.RowKit Go.Deep Go.Proofs.YtbcienbnhchdeaaW.PrintWords
theorem open_rows {H : Type} {enc : TypeId × Value → H} {w : World} {base : Nat} {held : Bool} {fuel : Nat} {a : Option Addr} {len cap : Nat} {x : DataW H × List MemPlace}
    (h : DataW.trod enc Try.prog w base (fun _ => true) held fuel 65 (Value.slice a len cap).cells.toList = some x) :
    ∃ zs : List (List Int), zs.length = len ∧ len ≤ cap ∧ Kd.C (Kd.slice 5 (Kd.int .u8)) w a len zs ∧ ∀ z ∈ zs, okB z = true := by
  rcases open_int_rows Try.underlying65 Try.underlying22 Try.underlying5 (by kernel_rfl) (by kernel_rfl) h with ⟨hcs, _⟩ | ⟨ad, l, c, A, L, C, Z, hcs, _, hl, hm, _, hr⟩
  · simp [Value.cells] at hcs
    obtain ⟨rfl, rfl, rfl⟩ := hcs
    exact ⟨[], rfl, Nat.le_refl _, Kd.C_nil _ _, by simp⟩
  · simp [Value.cells] at hcs
    obtain ⟨rfl, rfl, rfl⟩ := hcs
    have hml : maxLen ≤ 9223372036854775807 := by decide
    refine ⟨(List.range len).map fun r => (Z r).take (L r), by simp, hl, ?_, ?_⟩
    · refine ⟨by simp, by omega, fun _ => ⟨ad, rfl, ?_⟩⟩
      intro j p hj
      have hjl : j < len := by
        have := (List.getElem?_eq_some_iff.1 hj).1
        simpa using this
      have hp : (Z j).take (L j) = p := by
        rw [List.getElem?_map, List.getElem?_range hjl] at hj
        simpa using hj
      subst hp
      obtain ⟨h1, h2, h3, h4, h5, h6, h7⟩ := hr j (by omega)
      have hlen : ((Z j).take (L j)).length = L j := by rw [List.length_take]; omega
      refine ⟨[.slice (A j) (L j) (C j)], rfl, ⟨A j, C j, by rw [hlen], by omega, ?_⟩, ?_⟩
      · refine ⟨rfl, by omega, ?_⟩
        intro h0
        rw [hlen] at h0
        cases hA : A j with
        | none => have := h6 hA; omega
        | some a' =>
          refine ⟨a', rfl, ?_⟩
          intro i q hi
          have hil : i < ((Z j).take (L j)).length := (List.getElem?_eq_some_iff.1 hi).1
          rw [hlen] at hil
          refine ⟨[.int .u8 q], rfl, rfl, ?_⟩
          intro i' u hu
          have hi' : i' = 0 := by
            have := (List.getElem?_eq_some_iff.1 hu).1
            simpa using this
          subst hi'
          have hu' : u = .int .u8 q := by simpa using hu.symm
          subst hu'
          have h8 := (h7 a' hA).2 i (by omega)
          have hq : (Z j).getD i 0 = q := by
            rw [List.getElem?_take_of_lt hil] at hi
            rw [List.getD_eq_getElem?_getD, hi]
            rfl
          rw [hq] at h8
          have e : i * (Kd.int .u8).sz + 0 = i := by show i * 1 + 0 = i; omega
          rw [e]
          exact h8
      · intro i' u hu
        have hi' : i' = 0 := by
          have := (List.getElem?_eq_some_iff.1 hu).1
          simpa using this
        subst hi'
        have hu' : u = .slice (A j) (L j) (C j) := by simpa using hu.symm
        subst hu'
        have e : j * (Kd.slice 5 (Kd.int .u8)).sz + 0 = j := by show j * 1 + 0 = j; omega
        rw [e]
        exact h1
    · intro z hz
      obtain ⟨r, hr', rfl⟩ := List.mem_map.1 hz
      obtain ⟨_, _, _, _, h5, _, _⟩ := hr r (by have := List.mem_range.1 hr'; omega)
      unfold okB
      rw [List.all_eq_true]
      intro n hn
      have h1 := h5 n (List.mem_of_mem_take hn)
      simp only [Lit.wf, Bool.and_eq_true, decide_eq_true_eq] at h1
      have e1 : IntKind.u8.min = 0 := by decide
      have e2 : IntKind.u8.max = 255 := by decide
      simp
      omega
end Go.Proofs.Ytbcienbnhchdeaa.Hand

/- What came in, opened: a row of bytes; two whole numbers in an array; a row of rows of bytes is told in HandO. -/
namespace Go.Proofs.Ytbcienbnhchdeaa.Hand
open Go Go.RowKit Go.Deep Go.ChangeShapes Go.Proofs.YtbcienbnhchdeaaW.PrintWords
set_option linter.unusedVariables false
theorem okB_of_wf {zs : List Int} (h : ∀ n ∈ zs, (Lit.int .u8 n).wf = true) : okB zs = true := by
  unfold okB
  rw [List.all_eq_true]
  intro n hn
  have h1 := h n hn
  simp only [Lit.wf, Bool.and_eq_true, decide_eq_true_eq] at h1
  have e1 : IntKind.u8.min = 0 := by decide
  have e2 : IntKind.u8.max = 255 := by decide
  simp
  omega
theorem open_bytes {H : Type} {enc : TypeId × Value → H} {w : World} {base : Nat} {held : Bool} {fuel : Nat} {a : Option Addr} {len cap : Nat} {x : DataW H × List MemPlace}
    (h : DataW.trod enc Try.prog w base (fun _ => true) held fuel 22 (Value.slice a len cap).cells.toList = some x) :
    ∃ zs : List Int, zs.length = len ∧ len ≤ cap ∧ Kd.C (Kd.int .u8) w a len zs ∧ okB zs = true := by
  rcases open_ints Try.underlying22 Try.underlying5 (by kernel_rfl) h with ⟨hcs, _⟩ | ⟨ad, l, c, zs, hcs, _, hl, hm, hz, _, hcell, hwz⟩
  · simp [Value.cells] at hcs
    obtain ⟨rfl, rfl, rfl⟩ := hcs
    exact ⟨[], rfl, Nat.le_refl _, Kd.C_nil _ _, rfl⟩
  · simp [Value.cells] at hcs
    obtain ⟨rfl, rfl, rfl⟩ := hcs
    have hml : maxLen ≤ 9223372036854775807 := by decide
    have hzc : zs.length = cap := by simpa using hz
    have hlen : (zs.take len).length = len := by rw [List.length_take]; omega
    refine ⟨zs.take len, hlen, hl, Kd.C_of_reads (enc := Value.int .u8) (d := (0 : Int)) (h1 := fun _ => rfl) ⟨hlen, by omega, fun _ => ⟨_, rfl, fun j hj => ?_⟩⟩, okB_of_wf fun n hn => hwz n (List.mem_of_mem_take hn)⟩
    rw [hcell j (by omega)]
    simp [List.getD_eq_getElem?_getD, hj]
set_option maxRecDepth 100000 in
/-- An array of two whole numbers. -/
theorem open_two {H : Type} {enc : TypeId × Value → H} {W : World} {base b0 : Nat} {held : Bool} {fuel : Nat} {sp : Nat → Bool} {v : Value} {x : DataW H × List MemPlace}
    (hv : Value.okWide Try.prog W .any b0 36 v) (h : DataW.trod enc Try.prog W base sp held fuel 36 v.cells.toList = some x) :
    ∃ x y : Int, v = .agg #[.int .i64 x, .int .i64 y] ∧ (Lit.int .i64 x).wf = true ∧ (Lit.int .i64 y).wf = true := by
  have hc36 : Try.prog.cellsOf 36 = 2 := by kernel_rfl
  have hc3 : Try.prog.cellsOf 3 = 1 := by kernel_rfl
  obtain ⟨cs, rfl⟩ : ∃ cs, v = .agg cs := by
    simp only [Value.okWide, Try.underlying36] at hv
    obtain ⟨cs, h1, _⟩ := hv
    exact ⟨cs, h1⟩
  obtain ⟨xs, m, _, _, hl, hxs, hall⟩ := DataW.trod_array Try.underlying36 h
  have h0 := hall 0 (by omega)
  have h1 := hall 1 (by omega)
  rw [List.getElem?_eq_getElem (by omega)] at h0 h1
  obtain ⟨a, ha, _, wa⟩ := DataW.trod_int Try.underlying3 h0
  obtain ⟨b, hb, _, wb⟩ := DataW.trod_int Try.underlying3 h1
  refine ⟨a, b, ?_, wa, wb⟩
  simp only [Value.cells] at ha hb hl
  rw [hc3] at ha hb
  have hl2 : cs.toList.length = 2 := hl.trans hc36
  have hcs : cs = cs.toList.toArray := by simp
  match hcl : cs.toList, hl2 with
  | [p, q], _ =>
    rw [hcl] at ha hb
    simp at ha hb
    subst ha hb
    exact congrArg Value.agg (hcs.trans (by rw [hcl]))

end Go.Proofs.Ytbcienbnhchdeaa.Hand

/- The row of JournalCrash: what came in, opened; the law's contract; what came in, as it was. -/
namespace Go.Proofs.Ytbcienbnhchdeaa.journalCrash
open Go.ChangeShapes Go.WideShapes Go.ChangeAt Go.RowKit Go.Proofs.YtbcienbnhchdeaaW.PrintWords
set_option linter.unusedVariables false
theorem own : ownKnob Try.prog.godebug = none := by kernel_rfl
theorem laidOut : laidOutB Try.prog = true := by kernel_rfl
set_option maxRecDepth 100000 in
theorem lifted (os : Os) (started : os.Started) (H : Type) (enc : TypeId × Value → H) :
    ReturnsInHanded {} Try.checked os 21 .any (Rows.journalCrashSpec.pre6 enc Try.prog Try.f21 Rows.journalCrashRow.domain false) (Rows.journalCrashSpec.post enc Try.prog Try.f21 false true false false) := by
  refine returnsInHanded_of_change_sized (C := Try.checked) own started (by kernel_rfl) Try.func21
    (ChangeSpec.witness6 (enc := enc) (C := Try.checked) false ⟨#[], #[.slice none 0 0, .slice none 0 0, .agg #[.int .i64 0, .int .i64 0]], []⟩ 8 (by kernel_rfl) (by kernel_rfl) (by kernel_rfl) (by kernel_rfl)) ?_
  intro W base args ds gs before hval0 hW hcnd hsz0 _
  have hval : ∀ (j : Nat) t v, Try.f21.params[j]? = some t → args[j]? = some v → Value.okWide Try.prog W .any base t v := hval0
  have hW' := hW
  obtain ⟨p, q, hA0, hV, rfl, hfz, hnd⟩ := hW
  have hA : DataW.TrodAll enc Try.prog W 0 (fun _ => true) true Try.f21.params.toList args.toList ds p := hA0
  rw [Try.params21] at hA hval
  obtain ⟨v0, vs0, d0, ds0, p0, q0, hargs, rfl, rfl, h0, r0⟩ := trodAll_cons hA
  obtain ⟨v1, vs1, d1, ds1, p1, q1, rfl, rfl, rfl, h1, r1⟩ := trodAll_cons r0
  obtain ⟨v2, vs2, d2, ds2, p2, q2, rfl, rfl, rfl, h2, r2⟩ := trodAll_cons r1
  obtain ⟨rfl, rfl, rfl⟩ := trodAll_nil r2
  obtain rfl : args = #[v0, v1, v2] := by cases args; simp_all
  obtain ⟨rfl, rfl⟩ := trodVars_none hV
  obtain ⟨a0, len0, cap0, rfl⟩ := okWide_slice Try.underlying65 (hval 0 65 v0 rfl rfl)
  have k0 := h0
  have lt0 : ∀ x ∈ p0, x.block < W.heap.size := by obtain ⟨m, hm⟩ := k0; exact DataW.trod_lt m _ _ _ hm
  obtain ⟨z0, hz0, hc0, hC0, ok0⟩ := (by obtain ⟨fuel, hf⟩ := h0; exact Hand.open_rows hf : ∃ zs : List (List Int), zs.length = len0 ∧ len0 ≤ cap0 ∧ Kd.C (Kd.slice 5 (Kd.int .u8)) W a0 len0 zs ∧ ∀ z ∈ zs, Hand.okB z = true)
  subst hz0
  obtain ⟨a1, len1, cap1, rfl⟩ := okWide_slice Try.underlying65 (hval 1 65 v1 rfl rfl)
  have k1 := h1
  have lt1 : ∀ x ∈ p1, x.block < W.heap.size := by obtain ⟨m, hm⟩ := k1; exact DataW.trod_lt m _ _ _ hm
  obtain ⟨z1, hz1, hc1, hC1, ok1⟩ := (by obtain ⟨fuel, hf⟩ := h1; exact Hand.open_rows hf : ∃ zs : List (List Int), zs.length = len1 ∧ len1 ≤ cap1 ∧ Kd.C (Kd.slice 5 (Kd.int .u8)) W a1 len1 zs ∧ ∀ z ∈ zs, Hand.okB z = true)
  subst hz1
  have k2 := h2
  have lt2 : ∀ x ∈ p2, x.block < W.heap.size := by obtain ⟨m, hm⟩ := k2; exact DataW.trod_lt m _ _ _ hm
  obtain ⟨x2, y2, rfl, wx2, wy2⟩ := (by obtain ⟨fuel, hf⟩ := h2; exact Hand.open_two (hval 2 36 v2 rfl rfl) hf : ∃ x y : Int, v2 = .agg #[.int .i64 x, .int .i64 y] ∧ (Lit.int .i64 x).wf = true ∧ (Lit.int .i64 y).wf = true)
  clear hA0 hval0 hsz0
  refine (Hand.journalCrash_any a0 cap0 z0 a1 cap1 z1 x2 y2 W hC0 hc0 ok0 hC1 hc1 ok1).mono fun e W' ⟨he, bel⟩ => ?_
  subst he
  exact ⟨_, rfl, _, _, _, [], _, [], hW', trodAll_mk1 (shut_bool Try.underlying4 _), (trodAll_cons_mk (Below.trod laidOut (by kernel_rfl) (of_decide_eq_true (by kernel_rfl)) k0 bel lt0) (trodAll_cons_mk (Below.trod laidOut (by kernel_rfl) (of_decide_eq_true (by kernel_rfl)) k1 bel lt1) (trodAll_cons_mk (Below.trod laidOut (by kernel_rfl) (of_decide_eq_true (by kernel_rfl)) k2 bel lt2) trodAll_mk0))), rfl, bel.frame _, fun h => by cases h⟩
theorem over : Rows.journalCrashRow.holds Try.pinned (OpenSpec.ofChange Rows.journalCrashSpec) :=
  OpenClaim.holds_of_wide 21 Try.f21 rfl rfl rfl rfl rfl rfl rfl ⟨rfl, rfl, rfl, rfl, rfl⟩ rfl rfl rfl rfl rfl (by kernel_rfl) Try.func21 (by unfold joinedFacts; rw [Enter.enterP, Enter.liftsP, Enter.mkP]; kernel_rfl)
    (of_decide_eq_true (by kernel_rfl)) (by unfold Func.isWrapper; first | (rw [if_pos (by decide +kernel)]; kernel_rfl) | (rw [if_neg (by decide +kernel)]; exact ⟨rfl, rfl⟩))
    (fun os started H enc _ => lifted os started H enc)
theorem proved : Rows.JournalCrashSaid := over
#print axioms proved
end Go.Proofs.Ytbcienbnhchdeaa.journalCrash
namespace Go.Proofs.Ytbcienbnhchdeaa
/-- The row, under a short name, for the claim. -/
theorem journalCrash_holds : Rows.JournalCrashSaid := journalCrash.proved
end Go.Proofs.Ytbcienbnhchdeaa
