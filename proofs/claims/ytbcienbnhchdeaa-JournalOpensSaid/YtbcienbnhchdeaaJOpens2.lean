/- LawJournalOpens: the texts JHand, JLives, JLaws, Print18, FrameG, FrameScan, PrD0, PrD2, PrD3, HandP, DiskS, DiskRoom, DiskR, joined: contracts of the functions that the statement reaches, and plain laws. -/
import Derived.Test.YtbcienbnhchdeaaWLast
import Derived.Test.YtbcienbnhchdeaaWNEv
import Derived.Test.YtbcienbnhchdeaaProg
import Derived.Below
import Derived.Deep.Draws
import Derived.Deep.AppendLies
import Derived.Maps.AppendAt
import Derived.OwnWalk
import Derived.Laws.BytesArg
import Derived.Laws.MakeOwn
import Derived.Laws.OwnMore
import Derived.Deep.OwnRows
import Derived.Tactics
import Derived.Lib.ConvBytes
import Derived.Laws.Slices
import Derived.WalkKit
import Derived.KernelRfl
import Derived.RowKit3
import Derived.Deep.LoopGhost
import Derived.Deep.QuietTactic
import Derived.BigQuiet
import Derived.WideLaws
import Derived.Deep.DeepCutAuto
import Derived.Deep.CutBlock
import Derived.Deep.RegionHeld3
import Derived.Laws.Rows
import Derived.Lib.AppendStr
import Derived.ArgAppend
import Derived.Laws.IdiomCopy
import Derived.OrdersHeld
import Derived.Laws.BitsLemmas
import Derived.RowKit
import Derived.Lib.SlBytesConst
import Derived.Outline
import Derived.Test.YtbcienbnhchdeaaWWords
import Derived.Test.YtbcienbnhchdeaaWTab
import Derived.Test.YtbcienbnhchdeaaWFour
import Derived.Test.YtbcienbnhchdeaaWQPut
import Derived.Test.YtbcienbnhchdeaaWApart
import Derived.Test.YtbcienbnhchdeaaWArr
import Derived.Test.YtbcienbnhchdeaaWZeros
import Derived.Test.YtbcienbnhchdeaaWFoot
import Derived.Test.YtbcienbnhchdeaaWKept
import Derived.Test.YtbcienbnhchdeaaWShare
import Derived.Test.YtbcienbnhchdeaaWN
import Derived.Test.YtbcienbnhchdeaaWFootNe
import Derived.Test.YtbcienbnhchdeaaWAt
import Derived.Test.YtbcienbnhchdeaaWEqStruct
import Derived.Test.YtbcienbnhchdeaaWRepsOne
import Derived.Test.YtbcienbnhchdeaaWInv
import Derived.Test.YtbcienbnhchdeaaWInvWords
import Derived.Test.YtbcienbnhchdeaaWGuard
import Derived.Test.YtbcienbnhchdeaaWMore
import Derived.ProofKit
import Derived.OpenShut
import Derived.Deep.Slices
import Derived.Test.YtbcienbnhchdeaaJOpens0
import Derived.Test.YtbcienbnhchdeaaJOpens1

/- A journal in memory, and what its methods do. -/
namespace Go.Proofs.Ytbcienbnhchdeaa.Hand
open Go Go.RowKit Go.Proofs.YtbcienbnhchdeaaW.PrintLast Go.Proofs.YtbcienbnhchdeaaW.PrintWords Go.Proofs.YtbcienbnhchdeaaW.PrintMore Print FrameC FrameL FrameS FrameR JMath
set_option linter.unusedVariables false
set_option linter.unusedSimpArgs false
attribute [local go_sem] max2_int min2_int max_two min_two
theorem KE_ne {t : Nat} (ht : t ≠ 22 ∧ t ≠ 5) : ∀ q, q ∈ 22 :: KS.E → q ≠ t := by
  intro q hq
  have hq2 : q = 22 ∨ q = 5 := by simpa [KS, Kd.slice, Kd.int, Kd.scalar] using hq
  rcases hq2 with rfl | rfl
  · exact fun e => ht.1 e.symm
  · exact fun e => ht.2 e.symm
theorem JCells.below {w w1 : World} {gj : Nat} {d v : Value} {s : Int} (h : JCells w gj d v s) (hb : Below w.heap.size w w1) : JCells w1 gj d v s := (hb.block gj (blk_lt h)).trans h
theorem JCells.moved {w w1 : World} {gj : Nat} {d v : Value} {s : Int} (h : JCells w gj d v s) {S : Nat → Prop} (hm : Moved w w1 S) (hk : ¬ S gj) : JCells w1 gj d v s := (hm.kept.2 gj (blk_lt h) hk).trans h
theorem JCells.put {w : World} {gj : Nat} {d v v1 : Value} {s : Int} (h : JCells w gj d v s) : JCells (w.setCell ⟨gj, 1, none⟩ v1) gj d v1 s := blk_set h 1 v1
theorem JCells.puts {w : World} {gj : Nat} {d v : Value} {s s1 : Int} (h : JCells w gj d v s) : JCells (w.setCell ⟨gj, 2, none⟩ (.int .i64 s1)) gj d v s1 := blk_set h 2 (.int .i64 s1)
theorem DiskAt.set {w : World} {g gj : Nat} {kd : Nat → Prop} {room safe : Nat} {bs : List Int} {d v : Value} {s : Int} (h : DiskAt w g kd room safe bs) (hj : JCells w gj d v s) (i : Nat) (u : Value) : DiskAt (w.setCell ⟨gj, i, none⟩ u) g kd room safe bs := by
  obtain ⟨⟨x, h1, h2⟩, a, b, c, e⟩ := h
  have hne : g ≠ gj := fun e => by subst e; exact blk_ne h1 hj (by decide) rfl
  exact ⟨⟨x, (Below.heap_setCell w ⟨gj, i, none⟩ u g hne).trans h1, B_set h2 hj (by decide) i u⟩, a, b, c, e⟩
section
variable {w : World} {gj g room dsafe : Nat} {kd : Nat → Prop} {bs : List Int} {v0 : Value} {s0 : Int}
set_option maxRecDepth 100000 in
set_option maxHeartbeats 1000000 in
theorem open_any (hj : JCells w gj (.pointer (some ⟨g, 0, none⟩)) v0 s0) (hd : DiskAt w g kd room dsafe bs) (hkd : ∀ k, kd k → k < w.heap.size ∧ k ≠ gj) {ps : List (List Int)} {n : Nat} {x : Int} (hs : frame_Scan.f bs = some (ps, (n : Int), x)) (hn : n ≤ bs.length) :
    Calls Try.prog 99 #[.pointer (some ⟨gj, 0, none⟩)] w fun e w' => e = .returned (.int .i64 ((bs.length : Int) - (n : Int))) ∧ ∃ v, JCells w' gj (.pointer (some ⟨g, 0, none⟩)) v (ps.length : Int) ∧ DiskAt w' g kd room n (bs.take n) ∧ Kd.R KS 22 w' w.heap.size (fun _ => True) v ps ∧ Moved w w' (fun k => k = gj ∨ OfDisk g kd k) := by
  have HJ := Aside0.mk hj
  have HD := Aside0.mk hd
  have HK := Aside0.mk hkd
  have HS := Aside0.mk hs
  have hbl := hd.roomLe
  have hbm := hd.most
  obtain ⟨c0, c1, c2, fr⟩ := j_cells hj
  clear hj hd hkd hs c1 c2 fr
  go_enter Try.func99, Try.ntmps99
  go_wp2_with (first
    | (go_at_call 41; refine (all_any HD.out).mono ?_; rintro e w1 ⟨v1, rfl, ho, hb⟩; obtain ⟨A1, k1, rfl, hl1, hC1⟩ := Kd.R_reads ho; have HC1 := Aside0.mk hC1; have HB1 := Aside0.mk hb; clear ho hb hC1)
    | (go_at_call 68; refine (frame_Scan.calls A1 k1 bs ps (n : Int) x w1 HC1.out hl1 HS.out).mono ?_; rintro e w2 ⟨v2, rfl, hS, hb⟩; obtain ⟨A2, k2, rfl⟩ := Kd.S_slice hS; have HR := Aside0.mk (show Kd.R KS 22 w2 w1.heap.size (fun _ => True) _ ps from Kd.S_R hS); have HB2 := Aside0.mk hb; have HJ2 := Aside0.mk ((HJ.out.below HB1.out).below hb); have HD2 := Aside0.mk ((HD.out.below HB1.out).below hb); obtain ⟨c0', c1', c2', fr'⟩ := j_cells HJ2.out; clear hS hb)
    | (go_at_call 43; refine (len_any HD2.out).mono ?_; rintro e w3 ⟨rfl, rfl⟩)
    | (go_at_call 57; refine (cut_ok n HD2.out hn).mono ?_; rintro e w4 ⟨rfl, hd, hm⟩; have HJ4 := Aside0.mk (HJ2.out.moved hm (fun hk => hk.elim (fun e => by obtain ⟨⟨u, h1, _⟩, _⟩ := HD2.out; subst e; exact blk_ne h1 HJ2.out (by decide) rfl) (fun hk => (HK.out _ hk).2 rfl))); have HD4 := Aside0.mk hd; have HM4 := Aside0.mk hm; clear hd hm; obtain ⟨p0, p1, p2, q0⟩ := j_cells HJ4.out))
  go_ret
  have hgl : g < w.heap.size := HD.out.lt
  have hs1 := HB1.out.size
  have R4 : Kd.R KS 22 w4 w.heap.size (fun _ => True) (.slice A2 ps.length k2) ps := by
    refine Kd.R_mono (Kd.R_lower (Kd.R_kept (Kd.R_bound HR.out) HM4.out.kept (fun k hk hS => ?_)) hs1) (fun _ _ => trivial)
    rcases hS with rfl | hS
    · have := hk.2.1; omega
    · have := (HK.out _ hS).1; have := hk.2.1; omega
  refine ⟨rfl, .slice A2 ps.length k2, HJ4.out.put.puts, (HD4.out.set HJ4.out 1 _).set HJ4.out.put 2 _, Kd.R_set (Kd.R_set R4 HJ4.out (KE_ne (by decide)) 1 _) HJ4.out.put (KE_ne (by decide)) 2 _, ?_⟩
  exact ((((Moved.of_below (below_step HB1.out HB2.out) (fun k => k = gj ∨ OfDisk g kd k)).trans HM4.out (fun k hk => .inl (.inr hk)))).setCell (.inl (.inl rfl)) _).setCell (.inl (.inl rfl)) _
end
/-- A journal: its disk at g, its entries, how many are safe; what its rows lie in lies from N on. -/
structure JAt (N : Nat) (w : World) (gj g room : Nat) (l : List (List Int)) (s : Nat) : Prop where
  ex : ∃ (v : Value) (kd : Nat → Prop), JCells w gj (.pointer (some ⟨g, 0, none⟩)) v (s : Int) ∧ DiskAt w g kd room (allF (l.take s)).length (allF l) ∧ Kd.R KS 22 w N (fun k => ¬ kd k) v l ∧ (∀ k, kd k → N ≤ k ∧ k < w.heap.size ∧ k ≠ gj)
  sl : s ≤ l.length
  okl : ∀ p ∈ l, OkP p
/-- What a journal's method may turn. -/
def JSet (N gj g : Nat) (k : Nat) : Prop := k = gj ∨ k = g ∨ N ≤ k
section
variable {N : Nat} {w w1 : World} {gj g room s : Nat} {l : List (List Int)}
theorem JAt.step (h : JAt N w gj g room l s) (hs : w.heap.size ≤ w1.heap.size) (hj : w1.heap[gj]? = w.heap[gj]?) (hg : w1.heap[g]? = w.heap[g]?) (hN : ∀ k, N ≤ k → k < w.heap.size → w1.heap[k]? = w.heap[k]?) : JAt N w1 gj g room l s := by
  obtain ⟨⟨v, kd, h1, h2, h3, h4⟩, h5, h6⟩ := h
  exact ⟨⟨v, kd, hj.trans h1, h2.step hg (fun k hk hlt => hN k (h4 k hk).1 hlt), Kd.R_mono (Kd.R_step (Kd.R_bound h3) (fun k hk hlt => hN k hk.2.1 hlt)) (fun k hk => hk.1), fun k hk => ⟨(h4 k hk).1, by have := (h4 k hk).2.1; omega, (h4 k hk).2.2⟩⟩, h5, h6⟩
theorem JAt.lt (h : JAt N w gj g room l s) : gj < w.heap.size ∧ g < w.heap.size := by
  obtain ⟨⟨v, kd, h1, h2, _⟩, _⟩ := h
  exact ⟨blk_lt h1, h2.lt⟩
theorem JAt.next (h : JAt N w gj g room l s) (hb : Below w.heap.size w w1) : JAt N w1 gj g room l s := h.step hb.size (hb.block gj h.lt.1) (hb.block g h.lt.2) (fun k _ hk => hb.block k hk)
theorem JAt.drewN (h : JAt N w gj g room l s) (n : Nat) : JAt N (w.drewN n) gj g room l s := h.next (pw_below_drewN (Below.refl _ _) n)
theorem JAt.moved (h : JAt N w gj g room l s) {S : Nat → Prop} (hm : Moved w w1 S) (h1 : ¬ S gj) (h2 : ¬ S g) (h3 : ∀ k, N ≤ k → ¬ S k) : JAt N w1 gj g room l s :=
  h.step hm.size (hm.kept.2 gj h.lt.1 h1) (hm.kept.2 g h.lt.2 h2) (fun k hk hlt => hm.kept.2 k hlt (h3 k hk))
theorem JAt.small (h : JAt N w gj g room l s) : (allF l).length ≤ room ∧ room ≤ 1048576 ∧ l.length ≤ 1048576 ∧ (∀ x ∈ l, x.length ≤ 1000000) := by
  obtain ⟨⟨v, kd, h1, h2, _⟩, _, h6⟩ := h
  have h7 := allF_len l
  have h8 := h2.roomLe
  have h9 := h2.most
  exact ⟨h8, h9, by omega, fun x hx => by have := (h6 x hx).2.2; omega⟩
theorem JSet.moved {S : Nat → Prop} (hm : Moved w w1 S) (hs : ∀ k, S k → k = gj ∨ k = g ∨ N ≤ k) : Moved w w1 (JSet N gj g) := hm.mono hs
set_option maxRecDepth 100000 in
theorem jl_any (h : JAt N w gj g room l s) : Calls Try.prog 78 #[.pointer (some ⟨gj, 0, none⟩)] w fun e w' => e = .returned (.int .i64 (l.length : Int)) ∧ w = w' := by
  obtain ⟨⟨v, kd, h1, _, h3, _⟩, _⟩ := h
  obtain ⟨A, c, rfl⟩ := Kd.R_slice h3
  exact jlen_any h1
set_option maxRecDepth 100000 in
theorem js_any (h : JAt N w gj g room l s) : Calls Try.prog 77 #[.pointer (some ⟨gj, 0, none⟩)] w fun e w' => e = .returned (.int .i64 (s : Int)) ∧ w = w' := by
  obtain ⟨⟨v, kd, h1, _, h3, _⟩, _⟩ := h
  obtain ⟨c0, c1, c2, fr⟩ := j_cells h1
  clear h1 h3 c0 c1 fr
  go_enter Try.func77, Try.ntmps77
  go_wp2
  go_ret
  exact ⟨rfl, rfl⟩
set_option maxRecDepth 100000 in
theorem jr_any (h : JAt N w gj g room l s) : Calls Try.prog 84 #[.pointer (some ⟨gj, 0, none⟩)] w fun e w' => e = .returned (.int .i64 ((room : Int) - ((allF l).length : Int))) ∧ ∃ n, w' = w.drewN n := by
  obtain ⟨⟨v, kd, h1, h2, _⟩, _⟩ := h
  obtain ⟨c0, c1, c2, fr⟩ := j_cells h1
  have H2 := Aside0.mk h2
  clear h1 h2 c1 c2 fr
  go_enter Try.func84, Try.ntmps84
  go_wp2_with (go_at_call 59; refine (room_any H2.out).mono ?_; rintro e w1 ⟨rfl, n, rfl⟩)
  go_ret
  exact ⟨rfl, n, rfl⟩
theorem ja_any (h : JAt N w gj g room l s) : Calls Try.prog 80 #[.pointer (some ⟨gj, 0, none⟩)] w fun e w' => ∃ (A' : Option Addr) (c' : Nat), e = .returned (.slice A' l.length c') ∧ l.length ≤ c' ∧ Kd.C KS w' A' l.length l ∧ Below w.heap.size w w' := by
  have hsm := h.small
  have hx := hsm.2.2.2
  obtain ⟨⟨v, kd, h1, h2, h3, _⟩, _, h6⟩ := h
  obtain ⟨A, c, rfl, hc, hC⟩ := Kd.R_reads h3
  by_cases hl : l.length ≤ 1000000
  · exact jall_any h1 hC hc hx hl
  · exfalso
    have h7 := allF_len7 h6
    omega
theorem jaF_any (h : JAt N w gj g room l s) : Calls Try.prog 80 #[.pointer (some ⟨gj, 0, none⟩)] w fun e w' => ∃ (A' : Option Addr) (c' : Nat), e = .returned (.slice A' l.length c') ∧ l.length ≤ c' ∧ Kd.F KS w' (fun k => w.heap.size ≤ k ∨ T5 w' k) A' l.length l ∧ Below w.heap.size w w' := by
  have hsm := h.small
  have hx := hsm.2.2.2
  obtain ⟨⟨v, kd, h1, h2, h3, _⟩, _, h6⟩ := h
  obtain ⟨A, c, rfl, hc, hC⟩ := Kd.R_reads h3
  by_cases hl : l.length ≤ 1000000
  · exact jallF_any h1 hC hc hx hl
  · exfalso
    have h7 := allF_len7 h6
    omega
theorem JAt.cells (h : JAt N w gj g room l s) : ∃ v, JCells w gj (.pointer (some ⟨g, 0, none⟩)) v (s : Int) := by
  obtain ⟨⟨v, kd, h1, _⟩, _⟩ := h
  exact ⟨v, h1⟩
theorem JAt.roomCall (h : JAt N w gj g room l s) : Calls Try.prog 59 #[.pointer (some ⟨g, 0, none⟩)] w fun e w' => e = .returned (.int .i64 ((room : Int) - ((allF l).length : Int))) ∧ ∃ n, w' = w.drewN n := by
  obtain ⟨⟨v, kd, _, h2, _⟩, _⟩ := h
  exact room_any h2
variable {A : Option Addr} {c : Nat} {p : List Int}
set_option maxRecDepth 100000 in
theorem jframe_ok (h : JAt N w gj g room l s) (hC : Kd.C (Kd.int .u8) w A p.length p) (hc : p.length ≤ c) (hp : OkP p) (hfit : (allF l).length + (p.length + 6) ≤ room) :
    Calls Try.prog 100 #[.pointer (some ⟨gj, 0, none⟩), .slice A p.length c] w fun e w' => ∃ (A' : Option Addr) (c' : Nat), e = .returned (.tuple #[.slice A' (frameOf p).length c', .int .i64 0]) ∧ Kd.R (Kd.int .u8) 5 w' w.heap.size (fun _ => True) (.slice A' (frameOf p).length c') (frameOf p) ∧ Below w.heap.size w w' := by
  have H := Aside0.mk h
  have HC := Aside0.mk hC
  have PUT : Aside0 (∀ W, Below w.heap.size w W → Calls Try.prog 62 #[.slice none 0 0, .slice A p.length c] W fun e w' => ∃ (A' : Option Addr) (c' : Nat), e = .returned (.tuple #[.slice A' (frameOf p).length c', .int .i64 0]) ∧ Kd.R (Kd.int .u8) 5 w' W.heap.size (fun _ => True) (.slice A' (frameOf p).length c') (frameOf p) ∧ Below W.heap.size W w') := Aside0.mk (fun W hW => by
    refine (put_fresh none A 0 c [] p W (Kd.C_nil _ _) (Nat.le_refl _) (by simp) (Kd.C_below hC hW) hc hp).mono ?_
    rintro e w' ⟨v, he, hR, hb⟩
    rw [List.nil_append] at hR
    obtain ⟨A', c', rfl⟩ := Kd.R_slice hR
    exact ⟨A', c', he, hR, hb⟩)
  have hfl := frameOf_len p
  have hp1 := hp.2.2
  have hsm := h.small
  have hle : ((frameOf p).length : Int) ≤ (room : Int) - ((allF l).length : Int) := by omega
  have hle2 : (frameOf p).length ≤ 1006 := by omega
  obtain ⟨v, hj⟩ := h.cells
  have HJ := Aside0.mk hj
  clear h hC hp hfit hfl hp1 hsm hj
  generalize (frameOf p).length = fl at *
  go_enter Try.func100, Try.ntmps100
  go_wp2_with (first
    | (go_at_call 62; refine (PUT.out _ (Below.refl _ _)).mono ?_; rintro e w1 ⟨A', c', rfl, h2, hb⟩; have HC1 := Aside0.mk h2; have HB := Aside0.mk hb; obtain ⟨c0, c1, c2, fr⟩ := j_cells (HJ.out.below hb); clear h2 hb c1 c2 fr)
    | (go_at_call 59; refine ((H.out.next HB.out).roomCall).mono ?_; rintro e w2 ⟨rfl, n, rfl⟩))
  go_ret2
  exact ⟨A', c', rfl, Kd.R_below HC1.out (pw_below_drewN (Below.refl _ _) n), pw_below_drewN HB.out n⟩
set_option maxRecDepth 100000 in
theorem jframe_full (h : JAt N w gj g room l s) (hC : Kd.C (Kd.int .u8) w A p.length p) (hc : p.length ≤ c) (hp : OkP p) (hfit : room < (allF l).length + (p.length + 6)) :
    Calls Try.prog 100 #[.pointer (some ⟨gj, 0, none⟩), .slice A p.length c] w fun e w' => ∃ b : Value, e = .returned (.tuple #[b, .int .i64 4]) ∧ Below w.heap.size w w' := by
  have H := Aside0.mk h
  have PUT : Aside0 (∀ W, Below w.heap.size w W → Calls Try.prog 62 #[.slice none 0 0, .slice A p.length c] W fun e w' => ∃ (A' : Option Addr) (c' : Nat), e = .returned (.tuple #[.slice A' (frameOf p).length c', .int .i64 0]) ∧ (frameOf p).length ≤ c' ∧ Kd.C (Kd.int .u8) w' A' (frameOf p).length (frameOf p) ∧ Below W.heap.size W w') := Aside0.mk (fun W hW => by
    refine (put_frame none A 0 c [] p W (Kd.C_nil _ _) (Nat.le_refl _) (by simp) (Kd.C_below hC hW) hc (by have := hp.2.2; omega) hp.1).mono ?_
    rintro e w' ⟨A', c', r, x, he, hr, h1, h2, h3⟩
    rw [if_neg (by have := hp.2.1; omega), if_neg (by have := hp.2.2; omega)] at hr
    injection hr with e1 e2
    subst e1 e2
    exact ⟨A', c', he, h1, h2, h3⟩)
  have hfl := frameOf_len p
  have hp1 := hp.2.2
  have hsm := h.small
  have hle : (room : Int) - ((allF l).length : Int) < ((frameOf p).length : Int) := by omega
  have hle2 : (frameOf p).length ≤ 1006 := by omega
  obtain ⟨v, hj⟩ := h.cells
  have HJ := Aside0.mk hj
  clear h hC hp hfit hfl hp1 hsm hj
  generalize (frameOf p).length = fl at *
  go_enter Try.func100, Try.ntmps100
  go_wp2_with (first
    | (go_at_call 62; refine (PUT.out _ (Below.refl _ _)).mono ?_; rintro e w1 ⟨A', c', rfl, h1, h2, hb⟩; have HB := Aside0.mk hb; obtain ⟨c0, c1, c2, fr⟩ := j_cells (HJ.out.below hb); clear h2 hb c1 c2 fr)
    | (go_at_call 59; refine ((H.out.next HB.out).roomCall).mono ?_; rintro e w2 ⟨rfl, n, rfl⟩))
  go_ret2
  exact ⟨_, rfl, pw_below_drewN HB.out n⟩
/-- What Put says to a payload that may not be. -/
theorem put_no (x : Int) (hx : (p.length = 0 ∧ x = 1) ∨ (1000 < p.length ∧ x = 12)) (hl63 : p.length ≤ 9223372036854775807) (w : World) (v0 : Value) (hv0 : ∃ A n c, v0 = .slice A n c) :
    Calls Try.prog 62 #[v0, .slice A p.length c] w fun e w' => e = .returned (.tuple #[v0, .int .i64 x]) ∧ ∃ n, w' = w.drewN n := by
  obtain ⟨A0, n0, c0, rfl⟩ := hv0
  rcases hx with ⟨h0, rfl⟩ | ⟨h0, rfl⟩
  · rw [h0]
    go_enter Try.func62, Try.ntmps62
    go_wp2
    go_ret2
    exact ⟨rfl, 0, rfl⟩
  · have h1 : ((p.length : Int) == 0) = false := by simp; intro e; subst e; simp at h0
    have SZ : Aside0 (∀ W, Calls Try.prog 64 #[.int .i64 (p.length : Int)] W fun e w' => e = .returned (.int .i64 0) ∧ ∃ n, w' = W.drewN n) := Aside0.mk (fun W => by
      refine (size_any p.length W).mono ?_
      rintro e w' ⟨he, hd⟩
      rw [if_neg (by omega)] at he
      exact ⟨he, by obtain ⟨n, hn⟩ := hd; exact ⟨n, hn⟩⟩)
    generalize p.length = q at *
    go_enter Try.func62, Try.ntmps62
    go_wp2_with (go_at_call 64; refine (SZ.out _).mono ?_; rintro e w1 ⟨rfl, n, rfl⟩)
    go_ret2
    exact ⟨rfl, n, rfl⟩
set_option maxRecDepth 100000 in
theorem jframe_no (x : Int) (hx : (p.length = 0 ∧ x = 1) ∨ (1000 < p.length ∧ x = 12)) (hl63 : p.length ≤ 9223372036854775807) :
    Calls Try.prog 100 #[.pointer (some ⟨gj, 0, none⟩), .slice A p.length c] w fun e w' => e = .returned (.tuple #[.slice none 0 0, .int .i64 x]) ∧ ∃ n, w' = w.drewN n := by
  have PUT := Aside0.mk (fun W => put_no (A := A) (c := c) x hx hl63 W (.slice none 0 0) ⟨_, _, _, rfl⟩)
  have hx0 : ((x : Int) == 0) = false := by rcases hx with ⟨_, rfl⟩ | ⟨_, rfl⟩ <;> rfl
  clear hx
  generalize p.length = q at *
  go_enter Try.func100, Try.ntmps100
  go_wp2_with (go_at_call 62; refine (PUT.out _).mono ?_; rintro e w1 ⟨rfl, n, rfl⟩)
  go_ret2
  exact ⟨rfl, n, rfl⟩
/-- A row whose footprint is not the disk's, behind what the disk's method turned. -/
theorem row_moved {W W1 : World} {kd kd' ok : Nat → Prop} {v : Value} {xs : List (List Int)} {rm sf : Nat} {bs : List Int} (h : Kd.R KS 22 W N (fun k => ¬ kd k) v xs) (hd : DiskAt W g kd' rm sf bs) (hm : Moved W W1 (OfDisk g ok)) (hok : ∀ k, ok k → kd k ∨ W.heap.size ≤ k) : Kd.R KS 22 W1 N (fun k => ¬ kd k ∧ k < W.heap.size) v xs := by
  obtain ⟨⟨u, h1, _⟩, _⟩ := hd
  refine Kd.R_mono (Kd.R_kept (Kd.R_bound h) hm.kept (fun k hk hS => ?_)) (fun k hk => ⟨hk.1, hk.2.2.1⟩)
  obtain ⟨hn, hb, hlt, q, hq, cs, hc⟩ := hk
  rcases hS with rfl | hS
  · have h2 := hc.symm.trans h1
    injection h2 with h2
    injection h2 with _ h2 _
    exact KE_ne (t := 96) (by decide) q hq h2
  · rcases hok k hS with h3 | h3
    · exact hn h3
    · omega
set_option maxRecDepth 100000 in
set_option maxHeartbeats 2000000 in
theorem jappend_ok (h : JAt N w gj g room l s) (hC : Kd.C (Kd.int .u8) w A p.length p) (hc : p.length ≤ c) (hp : OkP p) (hfit : (allF l).length + (p.length + 6) ≤ room) (hN : N ≤ w.heap.size) :
    Calls Try.prog 75 #[.pointer (some ⟨gj, 0, none⟩), .slice A p.length c] w fun e w' => e = .returned (.int .i64 0) ∧ JAt N w' gj g room (l ++ [p]) s ∧ Moved w w' (JSet N gj g) := by
  have H := Aside0.mk h
  have HC := Aside0.mk hC
  have HP := Aside0.mk hp
  have hpl : p.length ≤ 1000 := hp.2.2
  have FR := Aside0.mk (jframe_ok h hC hc hp hfit)
  have HF := Aside0.mk hfit
  have hsm := h.small
  have hl1 : l.length ≤ 1000000 := by have := allF_len7 h.okl; omega
  have HLE := Aside0.mk hfit
  obtain ⟨⟨v, kd, hj, hd, hr, hk⟩, hsl, hok⟩ := h
  obtain ⟨AL, cL, rfl⟩ := Kd.R_slice hr
  have HJ := Aside0.mk hj
  have HD := Aside0.mk hd
  have HR := Aside0.mk hr
  have HK := Aside0.mk hk
  have HOK := Aside0.mk hok
  clear hC hp hfit hsm hj hd hr hk hok
  generalize hfl : (frameOf p).length = fl at *
  have HFL := Aside0.mk hfl
  clear hfl
  go_enter Try.func75, Try.ntmps75
  go_wp2_with (go_at_call 100; refine FR.out.mono ?_; rintro e w1 ⟨A', c', rfl, h2, hb⟩; have HC1 := Aside0.mk h2; have HB := Aside0.mk hb; clear h2 hb)
  have HJ1 := Aside0.mk (HJ.out.below HB.out)
  have HR1 := Aside0.mk (Kd.R_below HR.out HB.out)
  have HCP := Aside0.mk (Kd.C_below HC.out HB.out)
  refine start_ (n := 12) (S := fun w' => JCells w' gj (.pointer (some ⟨g, 0, none⟩)) (.slice AL l.length cL) (s : Int) ∧ w'.cell? ⟨gj, 1, none⟩ = some (.slice AL l.length cL)) (ds := [11]) #[false, false, false, false, false, false, false, false, false, false, false, false] (by kernel_rfl) rfl rfl ⟨HJ1.out, (j_cells HJ1.out).2.1⟩ (fun hHeld => ?_)
  refine pure_ (i := 0) (N := some 16) (v := ?_) (a' := ?_) #[true, false, false, false, false, false, false, false, false, false, false, false] rfl rfl (by kernel_rfl) (fun _ _ _ h => h) (Or.inl ⟨by rfl, ?_⟩) ?_ ?_
  rotate_left
  · intro w'
    go_simp
    with_reducible rfl
  rotate_left
  · simp only [Act.put, List.setIfInBounds_toArray, List.set_cons_zero, List.set_cons_succ, i64_w, i32_w]
    rfl
  refine pure_ (i := 1) (N := some 17) (v := ?_) (a' := ?_) #[true, true, false, false, false, false, false, false, false, false, false, false] rfl rfl (by kernel_rfl) (fun _ _ _ h => h) (Or.inl ⟨by rfl, ?_⟩) ?_ ?_
  rotate_left
  · intro w'
    go_simp
    with_reducible rfl
  rotate_left
  · simp only [Act.put, List.setIfInBounds_toArray, List.set_cons_zero, List.set_cons_succ, i64_w, i32_w]
    rfl
  refine pure_ (i := 2) (N := some 18) (v := ?_) (a' := ?_) #[true, true, true, false, false, false, false, false, false, false, false, false] rfl rfl (by kernel_rfl) (fun _ _ _ h => h) (Or.inl ⟨by rfl, ?_⟩) ?_ ?_
  rotate_left
  · intro w'
    go_simp
    with_reducible rfl
  rotate_left
  · simp only [Act.put, List.setIfInBounds_toArray, List.set_cons_zero, List.set_cons_succ, i64_w, i32_w]
    rfl
  refine pure_ (i := 3) (N := some 19) (v := ?_) (a' := ?_) #[true, true, true, true, false, false, false, false, false, false, false, false] rfl rfl (by kernel_rfl) (fun _ _ _ h => h) (Or.inl ⟨by rfl, ?_⟩) ?_ ?_
  rotate_left
  · intro w'
    go_simp
    with_reducible rfl
  rotate_left
  · simp only [Act.put, List.setIfInBounds_toArray, List.set_cons_zero, List.set_cons_succ, i64_w, i32_w]
    rfl
  refine pure_ (i := 5) (N := some 21) (v := ?_) (a' := ?_) #[true, true, true, true, false, true, false, false, false, false, false, false] rfl rfl (by kernel_rfl) (fun _ _ _ h => h) (Or.inl ⟨by rfl, ?_⟩) ?_ ?_
  rotate_left
  · intro w'
    go_simp
    with_reducible rfl
  rotate_left
  · simp only [Act.put, List.setIfInBounds_toArray, List.set_cons_zero, List.set_cons_succ, i64_w, i32_w]
    rfl
  refine take_ (i := 4) (N := some 20) (v := ?_) (a' := ?_) #[true, true, true, true, true, true, false, false, false, false, false, false] rfl rfl (by kernel_rfl) (fun _ _ _ h => h) (Or.inl ⟨by rfl, ?_⟩) hHeld ?_ ?_
  rotate_left
  · rintro w' ⟨s0, s1⟩
    go_simp
    with_reducible rfl
  rotate_left
  · simp only [Act.put, List.setIfInBounds_toArray, List.set_cons_zero, List.set_cons_succ, i64_w, i32_w]
    rfl
  refine one_ (i := 6) (N := some 22) #[true, true, true, true, true, true, true, false, false, false, false, false] rfl rfl (by kernel_rfl) (by decide) (fun K hK => ?_)
  refine goes_ Try.func96 (by kernel_rfl) rfl #[.slice A p.length c] (by rfl) rfl rfl (by simp only [List.map_toArray, List.map_cons, List.map_nil]; rfl) ?_
  with_reducible refine (clone_any A c p w1.drew (Kd.C_below HCP.out (below_drew (Below.refl _ _))) (by omega)).mono ?_
  rintro e w3 ⟨v3, rfl, hR3, hb3⟩
  refine ⟨_, rfl, ?_⟩
  obtain ⟨A3, c3, rfl⟩ := Kd.R_slice hR3
  have HR3 := Aside0.mk hR3
  have HB3 := Aside0.mk (below_step (below_drew (Below.refl _ w1)) hb3)
  have hj3 := hHeld.1.below hb3
  clear hR3 hb3
  refine hK.out _ _ ⟨hj3, (j_cells hj3).2.1⟩ (fun hHeld => ?_)
  clear hK K
  refine norm_ (a' := ?_) ?_ ?_
  rotate_left
  · show Act.put _ (some 22) _ = _
    simp only [Act.put, List.setIfInBounds_toArray, List.set_cons_zero, List.set_cons_succ, i64_w, i32_w]
    rfl
  refine one_ (i := 7) (N := some 23) #[true, true, true, true, true, true, true, true, false, false, false, false] rfl rfl (by kernel_rfl) (by decide) (fun K hK => ?_)
  refine value_ (w1 := ?_) (v := ?_) (by rfl) rfl ?_ ?_
  rotate_left 2
  · go_simp
    constructor
    · rfl
    · rfl
  have hj4 := hHeld.1.below (below_alloc (Below.refl _ _) (.cells #[.slice A3 p.length c3] 22))
  refine hK.out _ _ ⟨hj4, (j_cells hj4).2.1⟩ (fun hHeld => ?_)
  clear hK K
  refine norm_ (a' := ?_) ?_ ?_
  rotate_left
  · show Act.put _ (some 23) _ = _
    simp only [Act.put, List.setIfInBounds_toArray, List.set_cons_zero, List.set_cons_succ, i64_w, i32_w]
    rfl
  refine one_ (i := 8) (N := some 24) #[true, true, true, true, true, true, true, true, true, false, false, false] rfl rfl (by kernel_rfl) (by decide) (fun K hK => ?_)
  have hs1 := HB.out.size
  have hs3 := HB3.out.size
  refine Kd.R_append_step KS (w0 := w3) (W := w3) N (by rfl) (.tmp 20) (.tmp 23) 65 22 (.slice none 0 0) 24 (by rfl) Try.underlying65 info22' rfl (by decide) (by omega) (.slice AL l.length cL) l p [.slice A3 p.length c3] (fun k => ¬ kd k) (fun k => w1.heap.size ≤ k) (by rfl) (by rfl) ?aP ?aK ?aF (Kd.R_below HR1.out HB3.out) (Below.refl _ _) (by omega) (by omega) ?_
  case aP => exact ⟨_, rfl, Kd.R_lower (Kd.R_mono (Kd.R_bound HR3.out) (fun k hk => hk.2.1)) (by show N ≤ w1.drew.heap.size; exact Nat.le_trans hN hs1)⟩
  case aK => exact fun k hk => ⟨fun hkd => by have := (HK.out k hkd).2.1; omega, fun e => by have := Kd.R_lt HR1.out k e.symm; omega⟩
  case aF => exact fun k hk hkd => by have := (HK.out k hkd).2.1; omega
  intro v4 w4 hr4 hb4 hg4 hat4
  obtain ⟨A4, c4, rfl⟩ := Kd.R_slice hr4
  have hj5 : JCells w4 gj (.pointer (some ⟨g, 0, none⟩)) (.slice AL l.length cL) (s : Int) := (hg4.block gj (blk_lt (HJ1.out.below HB3.out)) (fun e => by obtain ⟨cs, hcs⟩ := Kd.R_typed (Kd.R_below HR1.out HB3.out) gj e.symm; exact blk_ne hcs (HJ1.out.below HB3.out) (by decide) rfl)).trans (HJ1.out.below HB3.out)
  have HR4 := Aside0.mk hr4
  have HG4 := Aside0.mk hg4
  have HB4 := Aside0.mk hb4
  have q0 := (j_cells hj5).2.2.2 1
  clear hr4 hb4 hg4 hat4
  refine hK.out _ _ ⟨hj5, (j_cells hj5).2.1⟩ (fun hHeld => ?_)
  clear hK K
  refine norm_ (a' := ?_) ?_ ?_
  rotate_left
  · show Act.put _ (some 24) _ = _
    simp only [Act.put, List.setIfInBounds_toArray, List.set_cons_zero, List.set_cons_succ, i64_w, i32_w]
    rfl
  refine pure_ (i := 9) (N := some 25) (v := ?_) (a' := ?_) #[true, true, true, true, true, true, true, true, true, true, false, false] rfl rfl (by kernel_rfl) (fun _ _ _ h => h) (Or.inl ⟨by rfl, ?_⟩) ?_ ?_
  rotate_left
  · intro w'
    go_simp
    with_reducible rfl
  rotate_left
  · simp only [Act.put, List.setIfInBounds_toArray, List.set_cons_zero, List.set_cons_succ, i64_w, i32_w]
    rfl
  refine pure_ (i := 10) (N := some 26) (v := ?_) (a' := ?_) #[true, true, true, true, true, true, true, true, true, true, true, false] rfl rfl (by kernel_rfl) (fun _ _ _ h => h) (Or.inl ⟨by rfl, ?_⟩) ?_ ?_
  rotate_left
  · intro w'
    go_simp
    with_reducible rfl
  rotate_left
  · simp only [Act.put, List.setIfInBounds_toArray, List.set_cons_zero, List.set_cons_succ, i64_w, i32_w]
    rfl
  refine last_ (i := 11) (N := none) #[true, true, true, true, true, true, true, true, true, true, true, true] rfl rfl (by kernel_rfl) (by decide) (fun K hK => ?_)
  refine skip_ (w1 := ?_) (by rfl) rfl ?_ ?_
  rotate_left
  · go_simp
    rfl
  refine hK.out _ _ ?_
  clear hK K
  refine done_ (by kernel_rfl) ?_
  have hR3 := Kd.R_below HR1.out HB3.out
  have hgj : gj < w3.heap.size := blk_lt (HJ1.out.below HB3.out)
  have hown : ∀ k, (Value.slice AL l.length cL).ownBlock = some k → k < w.heap.size ∧ ¬ kd k := fun k hk => ⟨Kd.R_lt HR.out k hk, HR.out.1 k hk⟩
  have HJ5 := Aside0.mk hj5
  have HJ6 := Aside0.mk (hj5.put (v1 := .slice A4 (l.length + 1) c4))
  have hd3 := (HD.out.below HB.out).below HB3.out
  have hd4 : DiskAt w4 g kd room (allF (l.take s)).length (allF l) := hd3.step (HG4.out.block g hd3.lt (fun e => by obtain ⟨cs, hcs⟩ := Kd.R_typed hR3 g e.symm; obtain ⟨⟨u, h1, _⟩, _⟩ := hd3; exact blk_ne hcs h1 (by decide) rfl)) (fun k hk hlt => HG4.out.block k hlt (fun e => (hown k e.symm).2 hk))
  have HD5 := Aside0.mk ((hd4.set hj5 1 (.slice A4 (l.length + 1) c4)).mono (fun k hk => (.inl hk : kd k ∨ (w4.setCell ⟨gj, 1, none⟩ (.slice A4 (l.length + 1) c4)).heap.size ≤ k)))
  rw [List.length_append, List.length_singleton] at HR4
  have HR5 := Aside0.mk (Kd.R_set HR4.out hj5 (KE_ne (by decide)) 1 (.slice A4 (l.length + 1) c4))
  have hf3 := Kd.R_below HC1.out HB3.out
  have hf4 : Kd.R (Kd.int .u8) 5 w4 w.heap.size (fun _ => True) (.slice A' fl c') (frameOf p) := Kd.R_mono (Kd.R_step (Kd.R_bound hf3) (fun k hk hlt => HG4.out.block k hlt (fun e => by have := (hown k e.symm).1; have := hk.2.1; omega))) (fun _ _ => trivial)
  have hf5 := Kd.R_set hf4 hj5 (by simp [Kd.int, Kd.scalar]) 1 (.slice A4 (l.length + 1) c4)
  have HMV := Aside0.mk (show Moved w (w4.setCell ⟨gj, 1, none⟩ (.slice A4 (l.length + 1) c4)) (JSet N gj g) from (((Moved.of_below (below_step HB.out HB3.out) (JSet N gj g)).grown HG4.out (fun k hk => .inl (.inr (.inr (Kd.R_base HR.out k hk))))).setCell (.inl (.inl rfl)) _))
  have hsz5 : w.heap.size ≤ (w4.setCell ⟨gj, 1, none⟩ (.slice A4 (l.length + 1) c4)).heap.size := HMV.out.size
  generalize w4.setCell ⟨gj, 1, none⟩ (.slice A4 (l.length + 1) c4) = w5 at *
  obtain ⟨c0, c1, c2, fr⟩ := j_cells HJ6.out
  have WR : Aside0 (Calls Try.prog 38 #[.pointer (some ⟨g, 0, none⟩), .slice A' fl c'] w5 fun e w' => e = .returned (.int .i64 0) ∧ DiskAt w' g (fun k => kd k ∨ w5.heap.size ≤ k) room (allF (l.take s)).length (allF l ++ frameOf p) ∧ Moved w5 w' (OfDisk g (fun k => kd k ∨ w5.heap.size ≤ k))) := Aside0.mk (by
    have hC5 := (Kd.R_reads' hf5).2.2
    rw [← HFL.out]
    exact write_ok HD5.out (fun k hk => .inr hk) A' c' (frameOf p) hC5 (frameOf_ok HP.out.1) (by rw [frameOf_len]; exact HF.out))
  clear hR3 hgj hown hd3 hd4 hf3 hf4 hf5 hj5 HJ5 HG4 HB4 HB3 HR3 HC1 HB HJ1 HR1 HCP FR H c1 c2 fr
  go_wp2_with (go_at_call 38; refine WR.out.mono ?_; rintro e w6 ⟨rfl, hd, hm⟩; have HD6 := Aside0.mk hd; have HM6 := Aside0.mk hm; clear hd hm)
  go_ret
  have hlt5 := blk_lt HJ6.out
  have hsub : ∀ k, OfDisk g (fun k => kd k ∨ w5.heap.size ≤ k) k → JSet N gj g k := fun k hk => by
    rcases hk with rfl | hk | hk
    · exact .inr (.inl rfl)
    · exact .inr (.inr (HK.out k hk).1)
    · exact .inr (.inr (by omega))
  refine ⟨rfl, ⟨⟨.slice A4 (l.length + 1) c4, fun k => (kd k ∨ w5.heap.size ≤ k) ∧ k < w6.heap.size, HJ6.out.moved HM6.out (fun hk => ?_), ?_, ?_, fun k hk => ⟨?_, hk.2, ?_⟩⟩, by rw [List.length_append]; omega, ?_⟩, HMV.out.trans HM6.out (fun k hk => .inl (hsub k hk))⟩
  · rcases hk with e | hk | hk
    · obtain ⟨⟨u, h1, _⟩, _⟩ := HD5.out
      subst e
      exact blk_ne h1 HJ6.out (by decide) rfl
    · exact (HK.out _ hk).2.2 rfl
    · omega
  · have h := HD6.out.bound
    rw [List.take_append_of_le_length hsl, allF_append, allF_cons, allF_nil, List.append_nil]
    exact h
  · refine Kd.R_mono (row_moved HR5.out HD5.out HM6.out (fun k hk => hk)) (fun k hk hk2 => ?_)
    rcases hk2.1 with h | h
    · exact hk.1 h
    · have := hk.2; omega
  · rcases hk.1 with h | h
    · exact (HK.out k h).1
    · omega
  · rcases hk.1 with h | h
    · exact (HK.out k h).2.2
    · omega
  · intro q hq
    rcases List.mem_append.1 hq with h | h
    · exact HOK.out q h
    · rw [List.mem_singleton.1 h]; exact HP.out
set_option maxRecDepth 100000 in
theorem jappend_full (h : JAt N w gj g room l s) (hC : Kd.C (Kd.int .u8) w A p.length p) (hc : p.length ≤ c) (hp : OkP p) (hfit : room < (allF l).length + (p.length + 6)) :
    Calls Try.prog 75 #[.pointer (some ⟨gj, 0, none⟩), .slice A p.length c] w fun e w' => e = .returned (.int .i64 4) ∧ Below w.heap.size w w' := by
  have FR := Aside0.mk (jframe_full h hC hc hp hfit)
  clear h hC hp hfit
  go_enter Try.func75, Try.ntmps75
  go_wp2_with (go_at_call 100; refine FR.out.mono ?_; rintro e w1 ⟨b, rfl, hb⟩; have HB := Aside0.mk hb; clear hb)
  go_ret
  exact ⟨rfl, HB.out⟩
set_option maxRecDepth 100000 in
theorem jappend_no (x : Int) (hx : (p.length = 0 ∧ x = 1) ∨ (1000 < p.length ∧ x = 12)) (hl63 : p.length ≤ 9223372036854775807) :
    Calls Try.prog 75 #[.pointer (some ⟨gj, 0, none⟩), .slice A p.length c] w fun e w' => e = .returned (.int .i64 x) ∧ ∃ n, w' = w.drewN n := by
  have FR := Aside0.mk (jframe_no (gj := gj) (w := w) (A := A) (c := c) x hx hl63)
  have hx0 : ((x : Int) == 0) = false := by rcases hx with ⟨_, rfl⟩ | ⟨_, rfl⟩ <;> rfl
  have hx1 : ((x : Int) != 0) = true := by rcases hx with ⟨_, rfl⟩ | ⟨_, rfl⟩ <;> rfl
  clear hx
  generalize p.length = q at *
  go_enter Try.func75, Try.ntmps75
  go_wp2_with (go_at_call 100; refine FR.out.mono ?_; rintro e w1 ⟨rfl, n, rfl⟩)
  go_ret
  exact ⟨rfl, n, rfl⟩
theorem jtorn_no (x : Int) (keep : Int) (hx : (p.length = 0 ∧ x = 1) ∨ (1000 < p.length ∧ x = 12)) (hl63 : p.length ≤ 9223372036854775807) :
    Calls Try.prog 83 #[.pointer (some ⟨gj, 0, none⟩), .slice A p.length c, .int .i64 keep] w fun e w' => e = .returned (.int .i64 x) ∧ ∃ n, w' = w.drewN n := by
  have FR := Aside0.mk (jframe_no (gj := gj) (w := w) (A := A) (c := c) x hx hl63)
  have hx0 : ((x : Int) == 0) = false := by rcases hx with ⟨_, rfl⟩ | ⟨_, rfl⟩ <;> rfl
  have hx1 : ((x : Int) != 0) = true := by rcases hx with ⟨_, rfl⟩ | ⟨_, rfl⟩ <;> rfl
  clear hx
  generalize p.length = q at *
  go_enter Try.func83, Try.ntmps83
  go_wp2_with (go_at_call 100; refine FR.out.mono ?_; rintro e w1 ⟨rfl, n, rfl⟩)
  go_ret
  exact ⟨rfl, n, rfl⟩
theorem jtorn_full (keep : Int) (h : JAt N w gj g room l s) (hC : Kd.C (Kd.int .u8) w A p.length p) (hc : p.length ≤ c) (hp : OkP p) (hfit : room < (allF l).length + (p.length + 6)) :
    Calls Try.prog 83 #[.pointer (some ⟨gj, 0, none⟩), .slice A p.length c, .int .i64 keep] w fun e w' => e = .returned (.int .i64 4) ∧ Below w.heap.size w w' := by
  have FR := Aside0.mk (jframe_full h hC hc hp hfit)
  clear h hC hp hfit
  go_enter Try.func83, Try.ntmps83
  go_wp2_with (go_at_call 100; refine FR.out.mono ?_; rintro e w1 ⟨b, rfl, hb⟩; have HB := Aside0.mk hb; clear hb)
  go_ret
  exact ⟨rfl, HB.out⟩
/-- A disk's blocks, when all that is new is let in. -/
theorem dset_sub {kd : Nat → Prop} {W : World} (hk : ∀ k, kd k → N ≤ k) (hN : N ≤ W.heap.size) : ∀ k, OfDisk g kd k → JSet N gj g k := fun k h => by
  rcases h with rfl | h
  · exact .inr (.inl rfl)
  · exact .inr (.inr (hk k h))
theorem gj_off {W : World} {kd : Nat → Prop} {d v : Value} {sf : Int} {rm sg : Nat} {bs : List Int} (hj : JCells W gj d v sf) (hd : DiskAt W g kd rm sg bs) (hk : ∀ k, kd k → k ≠ gj) : ¬ OfDisk g kd gj := fun h => by
  rcases h with e | h
  · obtain ⟨⟨u, h1, _⟩, _⟩ := hd
    subst e
    exact blk_ne h1 hj (by decide) rfl
  · exact hk _ h rfl
set_option maxRecDepth 100000 in
theorem jsync_any (h : JAt N w gj g room l s) (hN : N ≤ w.heap.size) : Calls Try.prog 76 #[.pointer (some ⟨gj, 0, none⟩)] w fun e w' => e = .returned (.int .i64 ((l.length : Int) - (s : Int))) ∧ JAt N w' gj g room l l.length ∧ Moved w w' (JSet N gj g) := by
  have hsm := h.small
  obtain ⟨⟨v, kd, hj, hd, hr, hk⟩, hsl, hok⟩ := h
  obtain ⟨AL, cL, rfl⟩ := Kd.R_slice hr
  obtain ⟨c0, c1, c2, fr⟩ := j_cells hj
  have hlm := hsm.2.2.1
  have e1 : IntKind.i64.wrap ((l.length : Int) - (s : Int)) = (l.length : Int) - (s : Int) := IntWalk.i64_in _ (by omega)
  have HJ := Aside0.mk hj
  have HD := Aside0.mk hd
  have HR := Aside0.mk hr
  have HK := Aside0.mk hk
  have HOK := Aside0.mk hok
  clear hsm hj hd hr hk hok fr
  go_enter Try.func76, Try.ntmps76
  go_wp2
  go_quiet (fail)
  go_wp2_with (go_at_call 39; refine (sync_any (HD.out.drewN nq)).mono ?_; rintro e w2 ⟨rfl, hd, hm⟩; have HD2 := Aside0.mk hd; have HM2 := Aside0.mk (((Moved.refl w (OfDisk g kd)).drewN nq).trans hm (fun _ h => .inl h)); have hj2 := HJ.out.moved HM2.out (gj_off HJ.out HD.out (fun k h => (HK.out k h).2.2)); have HJ2 := Aside0.mk hj2; obtain ⟨p0, p1, p2, pf⟩ := j_cells hj2; clear hd hm hj2)
  go_ret
  refine ⟨rfl, ⟨⟨.slice AL l.length cL, kd, HJ2.out.puts, ?_, ?_, fun k hk => ?_⟩, Nat.le_refl _, HOK.out⟩, ((HM2.out.mono (dset_sub (fun k h => (HK.out k h).1) hN)).setCell (.inl (.inl rfl)) _)⟩
  · rw [List.take_length]
    exact HD2.out.set HJ2.out 2 _
  · exact Kd.R_set (Kd.R_mono (row_moved HR.out HD.out HM2.out (fun k hk => .inl hk)) (fun k hk => hk.1)) HJ2.out (KE_ne (by decide)) 2 _
  · have h := HK.out k hk
    have h2 := HM2.out.size
    exact ⟨h.1, by show k < (w2.heap.modify _ _).size; rw [Array.size_modify]; omega, h.2.2⟩
/-- A journal, opened. -/
theorem jopen_at {kd : Nat → Prop} {v0 : Value} {s0 : Int} {dsafe : Nat} {bs : List Int} (hj : JCells w gj (.pointer (some ⟨g, 0, none⟩)) v0 s0) (hd : DiskAt w g kd room dsafe bs) (hkd : ∀ k, kd k → N ≤ k ∧ k < w.heap.size ∧ k ≠ gj) (hN : N ≤ w.heap.size)
    {ps : List (List Int)} {n : Nat} {x : Int} (hs : frame_Scan.f bs = some (ps, (n : Int), x)) (hn : n ≤ bs.length) (ht : bs.take n = allF ps) (hok : ∀ p ∈ ps, OkP p) :
    Calls Try.prog 99 #[.pointer (some ⟨gj, 0, none⟩)] w fun e w' => e = .returned (.int .i64 ((bs.length : Int) - (n : Int))) ∧ JAt N w' gj g room ps ps.length ∧ Moved w w' (JSet N gj g) := by
  refine (open_any hj hd (fun k hk => (hkd k hk).2) hs hn).mono ?_
  rintro e w' ⟨he, v, h1, h2, h3, h4⟩
  have hnl : n = (allF ps).length := by rw [← ht, List.length_take]; omega
  refine ⟨he, ⟨⟨v, kd, h1, ?_, ?_, fun k hk => ⟨(hkd k hk).1, by have := (hkd k hk).2.1; have := h4.size; omega, (hkd k hk).2.2⟩⟩, Nat.le_refl _, hok⟩, h4.mono (fun k hk => ?_)⟩
  · rw [List.take_length, ← hnl, ← ht]
    exact h2
  · exact Kd.R_lower (Kd.R_mono (Kd.R_bound h3) (fun k hk hkk => by have := (hkd k hkk).2.1; have := hk.2.1; omega)) hN
  · rcases hk with rfl | rfl | hk
    · exact .inl rfl
    · exact .inr (.inl rfl)
    · exact .inr (.inr (hkd k hk).1)
/-- How many bytes a crash leaves. -/
def leftOf (l : List (List Int)) (s : Nat) (keep : Int) : Nat := (allF (l.take s)).length + keepOf keep ((allF l).length - (allF (l.take s)).length)
theorem leftOf_le (l : List (List Int)) (s : Nat) (keep : Int) : leftOf l s keep ≤ (allF l).length ∧ (allF (l.take s)).length ≤ leftOf l s keep := by
  have h1 := keepOf_le keep ((allF l).length - (allF (l.take s)).length)
  have h2 := allF_take_le l s
  unfold leftOf
  omega
set_option maxRecDepth 100000 in
theorem jcrash_any (keep : Int) (h : JAt N w gj g room l s) (hN : N ≤ w.heap.size) (h9 : (allF l).length ≤ 900000) : Calls Try.prog 79 #[.pointer (some ⟨gj, 0, none⟩), .int .i64 keep] w fun e w' =>
    e = .returned (.int .i64 ((l.length : Int) - (fit l (leftOf l s keep) : Int))) ∧ JAt N w' gj g room (l.take (fit l (leftOf l s keep))) (fit l (leftOf l s keep)) ∧ Moved w w' (JSet N gj g) := by
  have hsm := h.small
  have hlm := hsm.2.2.1
  have hq := leftOf_le l s keep
  obtain ⟨⟨v, kd, hj, hd, hr, hk⟩, hsl, hok⟩ := h
  obtain ⟨AL, cL, rfl⟩ := Kd.R_slice hr
  obtain ⟨c0, c1, c2, fr⟩ := j_cells hj
  have HCR := Aside0.mk (crash_any keep hd)
  have HJ := Aside0.mk hj
  have HD := Aside0.mk hd
  have HR := Aside0.mk hr
  have HK := Aside0.mk hk
  have HOK := Aside0.mk hok
  obtain ⟨q, hqq⟩ : ∃ q, leftOf l s keep = q := ⟨_, rfl⟩
  have hq2 : (allF (l.take s)).length + keepOf keep ((allF l).length - (allF (l.take s)).length) = q := hqq
  rw [hqq] at hq
  rw [hqq]
  rw [hq2] at HCR
  obtain ⟨x, hscan⟩ := scan_fit hok h9 q
  have hfl := fit_le l q
  have hfq := fit_len l q
  have htk := take_fit l q
  have hml : (l.take (fit l q)).length = fit l q := by rw [List.length_take]; omega
  generalize fit l q = m at *
  have HSC := Aside0.mk hscan
  have HTK := Aside0.mk htk
  have HQ := Aside0.mk hq
  have HFQ := Aside0.mk hfq
  have HML := Aside0.mk hml
  clear hj hd hr hk hok hq2 hqq hscan htk hq hfq hsm hml fr
  go_enter Try.func79, Try.ntmps79
  go_wp2_with (first
    | (go_at_call 40; refine HCR.out.mono ?_; rintro e w2 ⟨rfl, hd, hm⟩; have HD2 := Aside0.mk hd; have HM2 := Aside0.mk (show Moved w w2 (JSet N gj g) from hm.mono (dset_sub (fun k h => (HK.out k h).1) hN)); have HJ2 := Aside0.mk (HJ.out.moved hm (gj_off HJ.out HD.out (fun k h => (HK.out k h).2.2))); have hs2 := hm.size; clear hd hm)
    | (go_at_call 99; refine (jopen_at (N := N) HJ2.out HD2.out (fun k h => ⟨(HK.out k h).1, by have := (HK.out k h).2.1; omega, (HK.out k h).2.2⟩) (by omega) HSC.out (by rw [List.length_take]; have := HQ.out.1; have := HFQ.out; omega) HTK.out (fun p hp => HOK.out p (List.mem_of_mem_take hp))).mono ?_; rintro e w3 ⟨rfl, hj3, hm3⟩; have HJ3 := Aside0.mk hj3; have HM3 := Aside0.mk hm3; obtain ⟨⟨v3, kd3, hc3, _, hr3, _⟩, _⟩ := hj3; obtain ⟨A3, k3, rfl⟩ := Kd.R_slice hr3; rw [HML.out] at hc3; obtain ⟨p0, p1, p2, pf⟩ := j_cells hc3; clear hm3 hc3 hr3))
  go_ret
  exact ⟨rfl, by have h := HJ3.out; rw [HML.out] at h; exact h, HM2.out.trans HM3.out (fun k hk => .inl hk)⟩
theorem torn_bytes (l : List (List Int)) (p : List Int) (K : Nat) : allF l ++ (frameOf p).take K = (allF (l ++ [p])).take ((allF l).length + K) := by
  rw [allF_append, allF_cons, allF_nil, List.append_nil, List.take_append, List.take_of_length_le (l := allF l) (by omega), Nat.add_sub_cancel_left]
theorem allF_snoc_len (l : List (List Int)) (p : List Int) : (allF (l ++ [p])).length = (allF l).length + (p.length + 6) := by
  rw [allF_append, allF_cons, allF_nil, List.append_nil, List.length_append, frameOf_len]
set_option maxRecDepth 100000 in
set_option maxHeartbeats 1000000 in
theorem jtorn_ok (keep : Int) (h : JAt N w gj g room l s) (hC : Kd.C (Kd.int .u8) w A p.length p) (hc : p.length ≤ c) (hp : OkP p) (hfit : (allF l).length + (p.length + 6) ≤ room) (hN : N ≤ w.heap.size) (h9 : (allF l).length ≤ 890000) {K m : Nat} (hK : keepOf keep (p.length + 6) = K) (hm : fit (l ++ [p]) ((allF l).length + K) = m) :
    Calls Try.prog 83 #[.pointer (some ⟨gj, 0, none⟩), .slice A p.length c, .int .i64 keep] w fun e w' => e = .returned (.int .i64 13) ∧ JAt N w' gj g room ((l ++ [p]).take m) m ∧ Moved w w' (JSet N gj g) := by
  have FR := Aside0.mk (jframe_ok h hC hc hp hfit)
  have HP := Aside0.mk hp
  obtain ⟨⟨v, kd, hj, hd, hr, hk⟩, hsl, hok⟩ := h
  have hkl := keepOf_le keep (p.length + 6)
  have hmn := keep_min keep (p.length + 6)
  rw [hK] at hkl hmn
  have hfl := frameOf_len p
  have hp1 := hp.2.2
  have hokp : ∀ q ∈ l ++ [p], OkP q := fun q hq => by
    rcases List.mem_append.1 hq with h | h
    · exact hok q h
    · rw [List.mem_singleton.1 h]; exact hp
  have hlen := allF_snoc_len l p
  obtain ⟨x, hscan⟩ := scan_fit hokp (by omega) ((allF l).length + K)
  have htk := take_fit (l ++ [p]) ((allF l).length + K)
  have hfq := fit_len (l ++ [p]) ((allF l).length + K)
  have hfm := fit_le (l ++ [p]) ((allF l).length + K)
  rw [hm] at hscan htk hfq hfm
  have hml : ((l ++ [p]).take m).length = m := by rw [List.length_take]; omega
  rw [← torn_bytes] at hscan htk
  rw [← hfl] at hkl hmn
  obtain ⟨M, hM⟩ : ∃ M : Int, (if keep < 0 then 0 else keep) = M := ⟨_, rfl⟩
  rw [hM] at hmn
  have hKc : (((frameOf p).take K).length : Nat) = K := by rw [List.length_take]; omega
  have HKC := Aside0.mk hKc
  have HJ := Aside0.mk hj
  have HD := Aside0.mk hd
  have HKD := Aside0.mk hk
  have HSC := Aside0.mk hscan
  have HTK := Aside0.mk htk
  have HFQ := Aside0.mk hfq
  have HML := Aside0.mk hml
  have HOKP := Aside0.mk hokp
  have HFIT := Aside0.mk hfit
  have HFL := Aside0.mk hfl
  have hf2 : (frameOf p).length ≤ 1006 := by omega
  clear hC hp hfit hj hd hr hk hok hfl hp1 hokp hlen hscan htk hfq hfm hml hK hm hsl hKc
  generalize hfl : (frameOf p).length = fl at *
  have HFLL := Aside0.mk hfl
  have hK0 : (0 : Int) ≤ (K : Int) := by omega
  have hK1 : (K : Int) ≤ (fl : Int) := by omega
  clear hfl
  go_enter Try.func83, Try.ntmps83
  go_wp2_with fail
  refine FR.out.mono ?_
  rintro e w1 ⟨A', c', rfl, h2, hb⟩
  have HC1 := Aside0.mk h2
  have HB := Aside0.mk hb
  have hcc : fl ≤ c' := (Kd.R_reads' h2).2.1
  have hcc1 : (K : Int) ≤ (c' : Int) := by omega
  obtain ⟨c0, c1, c2, fr⟩ := j_cells (HJ.out.below hb)
  clear h2 hb c1 c2 fr
  go_wp2_with fail
  go_still_tail 11, (by kernel_rfl)
  change wpList _ _ _ _ _ w1.drew
  have hs1 := HB.out.size
  have hlj := blk_lt (HJ.out.below HB.out)
  have HOKK := Aside0.mk (show ∀ k, (kd k ∨ w1.heap.size ≤ k) → N ≤ k ∧ k ≠ gj from fun k hk => by
    rcases hk with h | h
    · exact ⟨(HKD.out k h).1, (HKD.out k h).2.2⟩
    · exact ⟨by omega, by omega⟩)
  have HJ1 := Aside0.mk (show JCells w1.drew gj (.pointer (some ⟨g, 0, none⟩)) v (s : Int) from (HJ.out.below HB.out).below (below_drew (Below.refl _ _)))
  have HD1 := Aside0.mk (((HD.out.below HB.out).drew).mono (fun k hk => (.inl hk : kd k ∨ w1.heap.size ≤ k)))
  have WR : Aside0 (Calls Try.prog 38 #[.pointer (some ⟨g, 0, none⟩), .slice A' K c'] w1.drew fun e w' => e = .returned (.int .i64 0) ∧ DiskAt w' g (fun k => kd k ∨ w1.heap.size ≤ k) room (allF (l.take s)).length (allF l ++ (frameOf p).take K) ∧ Moved w1.drew w' (OfDisk g (fun k => kd k ∨ w1.heap.size ≤ k))) := Aside0.mk (by
    have h1 := Kd.R_take (Kd.R_below HC1.out (below_drew (Below.refl _ _))) (m := K) (by rw [HFLL.out]; omega)
    have h2 := (Kd.R_reads' h1).2.2
    have h3 := write_ok HD1.out (fun k hk => .inr hk) A' c' ((frameOf p).take K) h2 (okB_take2 (frameOf_ok HP.out.1) K) (by rw [HKC.out]; have h4 := HFIT.out; have h5 := HFL.out; have h6 := HFLL.out; omega)
    rw [HKC.out] at h3
    exact h3)
  have HMV := Aside0.mk (show Moved w w1.drew (JSet N gj g) from (Moved.of_below HB.out (JSet N gj g)).drew)
  have HDS := Aside0.mk (show ∀ k, OfDisk g (fun k => kd k ∨ w1.heap.size ≤ k) k → JSet N gj g k from dset_sub (fun k h => (HOKK.out k h).1) (W := w) hN)
  generalize w1.drew = w2 at *
  clear HC1 HB FR hcc hcc1 c0
  go_wp2_with (first
    | (go_at_call 38; refine WR.out.mono ?_; rintro e w3 ⟨rfl, hd, hm⟩; have HD3 := Aside0.mk hd; have HJ3 := Aside0.mk (HJ1.out.moved hm (gj_off HJ1.out HD1.out (fun k h => (HOKK.out k h).2))); have HM3 := Aside0.mk (hm.mono HDS.out); obtain ⟨p0, p1, p2, pf⟩ := j_cells HJ3.out; clear hd hm)
    | (go_at_call 39; refine (sync_any HD3.out).mono ?_; rintro e w4 ⟨rfl, hd, hm⟩; have HD4 := Aside0.mk hd; have HJ4 := Aside0.mk (HJ3.out.moved hm (gj_off HJ3.out HD3.out (fun k h => (HOKK.out k h).2))); have HM4 := Aside0.mk (hm.mono HDS.out); clear hd hm)
    | (go_at_call 99; refine (jopen_at (N := N) HJ4.out HD4.out.bound (fun k h => ⟨(HOKK.out k h.1).1, h.2, (HOKK.out k h.1).2⟩) ?hN HSC.out ?hn HTK.out (fun q hq => HOKP.out q (List.mem_of_mem_take hq))).mono ?_; (case hN => have h1 := HM3.out.size; have h2 := HM4.out.size; have h3 := HMV.out.size; omega); (case hn => have h1 := HFQ.out; have h2 := HKC.out; rw [List.length_append]; omega); rintro e w5 ⟨rfl, hj5, hm5⟩; have HJ5 := Aside0.mk hj5; have HM5 := Aside0.mk hm5; clear hj5 hm5))
  go_ret
  refine ⟨rfl, ?_, ((HMV.out.trans HM3.out (fun k hk => .inl hk)).trans HM4.out (fun k hk => .inl hk)).trans HM5.out (fun k hk => .inl hk)⟩
  have h := HJ5.out
  rw [HML.out] at h
  exact h
/-- What Swap has put together, between two rounds. -/
structure Made (w wr : World) (A5 : Option Addr) (c5 : Nat) (bs : List Int) : Prop where
  row : Kd.C (Kd.int .u8) wr A5 bs.length bs
  cap : bs.length ≤ c5
  below : Below w.heap.size w wr
theorem row_in {W : World} {A : Option Addr} {L : List (List Int)} (h : Kd.C KS W A L.length L) {n : Nat} (hn : n < L.length) : ∃ ad Ai ci, A = some ad ∧ W.cell? (ad.add n) = some (.slice Ai (L[n]'hn).length ci) ∧ (L[n]'hn).length ≤ ci ∧ Kd.C (Kd.int .u8) W Ai (L[n]'hn).length (L[n]'hn) := row_at h hn
theorem allF_take_succ {L : List (List Int)} {n : Nat} (hn : n < L.length) : allF (L.take (n + 1)) = allF (L.take n) ++ frameOf (L[n]'hn) := by
  rw [List.take_succ_eq_append_getElem hn, allF_append, allF_cons, allF_nil, List.append_nil]
variable {L : List (List Int)}
set_option maxRecDepth 100000 in
set_option maxHeartbeats 2000000 in
theorem jswap_ok (h : JAt N w gj g room l s) (hL : Kd.C KS w A L.length L) (hc : L.length ≤ c) (hok : ∀ q ∈ L, OkP q) (hfit : (allF L).length ≤ room) (hN : N ≤ w.heap.size) (h9 : (allF L).length ≤ 900000) :
    Calls Try.prog 85 #[.pointer (some ⟨gj, 0, none⟩), .slice A L.length c] w fun e w' => e = .returned (.int .i64 0) ∧ JAt N w' gj g room L L.length ∧ Moved w w' (JSet N gj g) := by
  obtain ⟨⟨v, kd, hj, hd, hr, hk⟩, hsl, _⟩ := h
  have hl63 := hL.2.1
  have HL := Aside0.mk hL
  have HJ := Aside0.mk hj
  have HD := Aside0.mk hd
  have HK := Aside0.mk hk
  have HOK := Aside0.mk hok
  have HF := Aside0.mk hfit
  have H9 := Aside0.mk h9
  have HM0 := Lib.hid (show Made w w none 0 (allF (L.take 0)) from ⟨Kd.C_nil _ _, Nat.le_refl _, Below.refl _ _⟩)
  clear hL hj hd hr hk hok hfit h9
  go_enter Try.func85, Try.ntmps85
  go_wp2
  go_loopw [5, 15] (fun a i wr => ∃ (n : Nat) (A5 : Option Addr) (c5 : Nat), n ≤ L.length ∧ i = .int .i64 (n : Int) ∧ a = .slice A5 (allF (L.take n)).length c5 ∧ Hid (Made w wr A5 c5 (allF (L.take n)))) (fun _ i _ => L.length - (intOf i).toNat)
  case atStart => exact ⟨0, none, 0, by omega, rfl, rfl, HM0⟩
  case round =>
    obtain ⟨n, A5, c5, hn, rfl, rfl, HC⟩ := hrel
    clear HM0
    by_cases hlt : n < L.length
    · obtain ⟨ad, Ai, ci, rfl, hcell, hci, hCi⟩ := row_in (Kd.C_below HL.out HC.out.below) hlt
      have hts := allF_take_succ hlt
      have hpo := HOK.out (L[n]'hlt) (List.getElem_mem hlt)
      have hle := allF_take_le L n
      generalize L[n]'hlt = p at *
      have HTS := Aside0.mk hts
      have PUT : Aside0 (Calls Try.prog 62 #[.slice A5 (allF (L.take n)).length c5, .slice Ai p.length ci] wr fun e w' => ∃ (A' : Option Addr) (c' : Nat), e = .returned (.tuple #[.slice A' (allF (L.take (n + 1))).length c', .int .i64 0]) ∧ Made w w' A' c' (allF (L.take (n + 1)))) := Aside0.mk (by
        refine (put_fresh A5 Ai c5 ci (allF (L.take n)) p wr HC.out.row HC.out.cap (by have := H9.out; omega) hCi hci hpo).mono ?_
        rintro e w' ⟨v, he, hR, hb⟩
        rw [← hts] at hR
        obtain ⟨A', c', rfl, h1, h2⟩ := Kd.R_reads hR
        exact ⟨A', c', he, h2, h1, below_step HC.out.below hb⟩)
      clear hts hpo hle hCi
      generalize (allF (L.take n)).length = q1 at *
      generalize hq2 : (allF (L.take (n + 1))).length = q2 at *
      have HQ2 := Aside0.mk hq2
      clear hq2
      go_wp2_with (go_at_call 62; refine PUT.out.mono ?_; rintro e w1 ⟨A', c', rfl, hm⟩; have HM := Aside0.mk hm; clear hm)
      go_roundw
      case rel => exact ⟨n + 1, A', c', by omega, by go_num, by rw [HQ2.out], Lib.hid HM.out⟩
      case measure => simp [intOf]; omega
    · obtain rfl : n = L.length := by omega
      rw [List.take_length] at HC
      rw [List.take_length]
      have hb := HC.out.below
      have hs := hb.size
      have HJ1 := Aside0.mk (HJ.out.below hb)
      have HD1 := Aside0.mk ((HD.out.below hb).mono (fun k hk => (.inl hk : kd k ∨ wr.heap.size ≤ k)))
      have hlj := blk_lt HJ1.out
      have HOKK := Aside0.mk (show ∀ k, (kd k ∨ wr.heap.size ≤ k) → N ≤ k ∧ k ≠ gj from fun k hk => by
        rcases hk with h | h
        · exact ⟨(HK.out k h).1, (HK.out k h).2.2⟩
        · exact ⟨by omega, by omega⟩)
      have HDS := Aside0.mk (show ∀ k, OfDisk g (fun k => kd k ∨ wr.heap.size ≤ k) k → JSet N gj g k from dset_sub (fun k h => (HOKK.out k h).1) (W := w) hN)
      have SW := Aside0.mk (swap_ok HD1.out (fun k hk => .inr hk) A5 c5 (allF L) HC.out.row (allF_ok HOK.out) HF.out)
      have HMV := Aside0.mk (show Moved w wr (JSet N gj g) from Moved.of_below hb _)
      have hsc := scan_frames HOK.out (by have := H9.out; omega)
      have HSC := Aside0.mk hsc
      have HTL := Aside0.mk (show (allF L).take (allF L).length = allF L from List.take_length)
      obtain ⟨c0, c1, c2, fr⟩ := j_cells HJ1.out
      clear hsc hb c1 c2 fr
      generalize hfl : (allF L).length = fl at *
      go_wp2_with (first
        | (go_at_call 49; refine SW.out.mono ?_; rintro e w3 ⟨rfl, hd, hm⟩; have HD3 := Aside0.mk hd; have HJ3 := Aside0.mk (HJ1.out.moved hm (gj_off HJ1.out HD1.out (fun k h => (HOKK.out k h).2))); have HM3 := Aside0.mk (hm.mono HDS.out); clear hd hm)
        | (go_at_call 99; refine (jopen_at (N := N) HJ3.out HD3.out.bound (fun k h => ⟨(HOKK.out k h.1).1, h.2, (HOKK.out k h.1).2⟩) ?hN HSC.out ?hn HTL.out HOK.out).mono ?_; (case hN => have h1 := HM3.out.size; have h3 := HMV.out.size; omega); (case hn => omega); rintro e w5 ⟨rfl, hj5, hm5⟩; have HJ5 := Aside0.mk hj5; have HM5 := Aside0.mk hm5; clear hj5 hm5))
      go_ret
      exact ⟨rfl, HJ5.out, (HMV.out.trans HM3.out (fun k hk => .inl hk)).trans HM5.out (fun k hk => .inl hk)⟩
set_option maxRecDepth 100000 in
set_option maxHeartbeats 2000000 in
theorem jswap_full (h : JAt N w gj g room l s) (hL : Kd.C KS w A L.length L) (hc : L.length ≤ c) (hok : ∀ q ∈ L, OkP q) (hfit : room < (allF L).length) (h9 : (allF L).length ≤ 900000) :
    Calls Try.prog 85 #[.pointer (some ⟨gj, 0, none⟩), .slice A L.length c] w fun e w' => e = .returned (.int .i64 4) ∧ Below w.heap.size w w' := by
  obtain ⟨⟨v, kd, hj, hd, hr, hk⟩, hsl, _⟩ := h
  have hl63 := hL.2.1
  have HL := Aside0.mk hL
  have HJ := Aside0.mk hj
  have HD := Aside0.mk hd
  have HK := Aside0.mk hk
  have HOK := Aside0.mk hok
  have HF := Aside0.mk hfit
  have H9 := Aside0.mk h9
  have HM0 := Lib.hid (show Made w w none 0 (allF (L.take 0)) from ⟨Kd.C_nil _ _, Nat.le_refl _, Below.refl _ _⟩)
  clear hL hj hd hr hk hok hfit h9
  go_enter Try.func85, Try.ntmps85
  go_wp2
  go_loopw [5, 15] (fun a i wr => ∃ (n : Nat) (A5 : Option Addr) (c5 : Nat), n ≤ L.length ∧ i = .int .i64 (n : Int) ∧ a = .slice A5 (allF (L.take n)).length c5 ∧ Hid (Made w wr A5 c5 (allF (L.take n)))) (fun _ i _ => L.length - (intOf i).toNat)
  case atStart => exact ⟨0, none, 0, by omega, rfl, rfl, HM0⟩
  case round =>
    obtain ⟨n, A5, c5, hn, rfl, rfl, HC⟩ := hrel
    clear HM0
    by_cases hlt : n < L.length
    · obtain ⟨ad, Ai, ci, rfl, hcell, hci, hCi⟩ := row_in (Kd.C_below HL.out HC.out.below) hlt
      have hts := allF_take_succ hlt
      have hpo := HOK.out (L[n]'hlt) (List.getElem_mem hlt)
      have hle := allF_take_le L n
      generalize L[n]'hlt = p at *
      have HTS := Aside0.mk hts
      have PUT : Aside0 (Calls Try.prog 62 #[.slice A5 (allF (L.take n)).length c5, .slice Ai p.length ci] wr fun e w' => ∃ (A' : Option Addr) (c' : Nat), e = .returned (.tuple #[.slice A' (allF (L.take (n + 1))).length c', .int .i64 0]) ∧ Made w w' A' c' (allF (L.take (n + 1)))) := Aside0.mk (by
        refine (put_fresh A5 Ai c5 ci (allF (L.take n)) p wr HC.out.row HC.out.cap (by have := H9.out; omega) hCi hci hpo).mono ?_
        rintro e w' ⟨v, he, hR, hb⟩
        rw [← hts] at hR
        obtain ⟨A', c', rfl, h1, h2⟩ := Kd.R_reads hR
        exact ⟨A', c', he, h2, h1, below_step HC.out.below hb⟩)
      clear hts hpo hle hCi
      generalize (allF (L.take n)).length = q1 at *
      generalize hq2 : (allF (L.take (n + 1))).length = q2 at *
      have HQ2 := Aside0.mk hq2
      clear hq2
      go_wp2_with (go_at_call 62; refine PUT.out.mono ?_; rintro e w1 ⟨A', c', rfl, hm⟩; have HM := Aside0.mk hm; clear hm)
      go_roundw
      case rel => exact ⟨n + 1, A', c', by omega, by go_num, by rw [HQ2.out], Lib.hid HM.out⟩
      case measure => simp [intOf]; omega
    · obtain rfl : n = L.length := by omega
      rw [List.take_length] at HC
      rw [List.take_length]
      have hb := HC.out.below
      have hs := hb.size
      have HJ1 := Aside0.mk (HJ.out.below hb)
      have HD1 := Aside0.mk (HD.out.below hb)
      have SW := Aside0.mk (swap_full HD1.out A5 c5 (allF L) (by have := H9.out; omega) HF.out)
      have HB := Aside0.mk hb
      obtain ⟨c0, c1, c2, fr⟩ := j_cells HJ1.out
      clear hb c1 c2 fr
      generalize hfl : (allF L).length = fl at *
      go_wp2_with (go_at_call 49; refine SW.out.mono ?_; rintro e w3 ⟨rfl, rfl⟩)
      go_ret
      exact ⟨rfl, HB.out⟩
set_option maxRecDepth 100000 in
set_option maxHeartbeats 2000000 in
theorem jswap_no (hL : Kd.C KS w A L.length L) (hc : L.length ≤ c) (K : Nat) (hK : K < L.length) (hz : (L[K]'hK).length = 0) (hok : ∀ (n : Nat) (hn : n < L.length), n < K → OkP (L[n]'hn)) (h9 : (allF L).length ≤ 900000) :
    Calls Try.prog 85 #[.pointer (some ⟨gj, 0, none⟩), .slice A L.length c] w fun e w' => e = .returned (.int .i64 1) ∧ Below w.heap.size w w' := by
  have hl63 := hL.2.1
  have HL := Aside0.mk hL
  have HOK := Aside0.mk hok
  have HZ := Aside0.mk hz
  have H9 := Aside0.mk h9
  have HM0 := Lib.hid (show Made w w none 0 (allF (L.take 0)) from ⟨Kd.C_nil _ _, Nat.le_refl _, Below.refl _ _⟩)
  clear hL hok hz h9
  go_enter Try.func85, Try.ntmps85
  go_wp2
  go_loopw [5, 15] (fun a i wr => ∃ (n : Nat) (A5 : Option Addr) (c5 : Nat), n ≤ K ∧ i = .int .i64 (n : Int) ∧ a = .slice A5 (allF (L.take n)).length c5 ∧ Hid (Made w wr A5 c5 (allF (L.take n)))) (fun _ i _ => L.length - (intOf i).toNat)
  case atStart => exact ⟨0, none, 0, by omega, rfl, rfl, HM0⟩
  case round =>
    obtain ⟨n, A5, c5, hn, rfl, rfl, HC⟩ := hrel
    clear HM0
    by_cases hltK : n < K
    · have hlt : n < L.length := by omega
      obtain ⟨ad, Ai, ci, rfl, hcell, hci, hCi⟩ := row_in (Kd.C_below HL.out HC.out.below) hlt
      have hts := allF_take_succ hlt
      have hpo := HOK.out n hlt hltK
      have hle := allF_take_le L n
      generalize L[n]'hlt = p at *
      have HTS := Aside0.mk hts
      have PUT : Aside0 (Calls Try.prog 62 #[.slice A5 (allF (L.take n)).length c5, .slice Ai p.length ci] wr fun e w' => ∃ (A' : Option Addr) (c' : Nat), e = .returned (.tuple #[.slice A' (allF (L.take (n + 1))).length c', .int .i64 0]) ∧ Made w w' A' c' (allF (L.take (n + 1)))) := Aside0.mk (by
        refine (put_fresh A5 Ai c5 ci (allF (L.take n)) p wr HC.out.row HC.out.cap (by have := H9.out; omega) hCi hci hpo).mono ?_
        rintro e w' ⟨v, he, hR, hb⟩
        rw [← hts] at hR
        obtain ⟨A', c', rfl, h1, h2⟩ := Kd.R_reads hR
        exact ⟨A', c', he, h2, h1, below_step HC.out.below hb⟩)
      clear hts hpo hle hCi
      generalize (allF (L.take n)).length = q1 at *
      generalize hq2 : (allF (L.take (n + 1))).length = q2 at *
      have HQ2 := Aside0.mk hq2
      clear hq2
      go_wp2_with (go_at_call 62; refine PUT.out.mono ?_; rintro e w1 ⟨A', c', rfl, hm⟩; have HM := Aside0.mk hm; clear hm)
      go_roundw
      case rel => exact ⟨n + 1, A', c', by omega, by go_num, by rw [HQ2.out], Lib.hid HM.out⟩
      case measure => simp [intOf]; omega
    · obtain rfl : n = K := by omega
      obtain ⟨ad, Ai, ci, rfl, hcell, hci, hCi⟩ := row_in (Kd.C_below HL.out HC.out.below) hK
      have hz := HZ.out
      generalize L[n]'hK = p at *
      have PUT := Aside0.mk (fun W => put_no (A := Ai) (c := ci) (p := p) 1 (.inl ⟨hz, rfl⟩) (by omega) W (.slice A5 (allF (L.take n)).length c5) ⟨_, _, _, rfl⟩)
      have HB := Aside0.mk HC.out.below
      clear hz hCi HZ
      generalize p.length = q at *
      generalize (allF (L.take n)).length = q1 at *
      go_wp2_with (go_at_call 62; refine (PUT.out _).mono ?_; rintro e w1 ⟨rfl, k, rfl⟩)
      go_ret
      exact ⟨rfl, pw_below_drewN HB.out k⟩
set_option maxRecDepth 100000 in
theorem jOpen_any {kd : Nat → Prop} {dsafe : Nat} {bs : List Int} (hd : DiskAt w g kd room dsafe bs) (hkd : ∀ k, kd k → N ≤ k ∧ k < w.heap.size) (hN : N ≤ w.heap.size)
    {ps : List (List Int)} {n : Nat} {x : Int} (hs : frame_Scan.f bs = some (ps, (n : Int), x)) (hn : n ≤ bs.length) (ht : bs.take n = allF ps) (hok : ∀ p ∈ ps, OkP p) :
    Calls Try.prog 74 #[.pointer (some ⟨g, 0, none⟩)] w fun e w' => e = .returned (.tuple #[.pointer (some ⟨w.heap.size, 0, none⟩), .int .i64 ((bs.length : Int) - (n : Int))]) ∧ JAt N w' w.heap.size g room ps ps.length ∧ Moved w w' (JSet N w.heap.size g) := by
  have OP : Aside0 (∀ W, W = w.alloc (.cells #[.pointer (some ⟨g, 0, none⟩), .slice none 0 0, .int .i64 0] 99) → Calls Try.prog 99 #[.pointer (some ⟨w.heap.size, 0, none⟩)] W fun e w' => e = .returned (.int .i64 ((bs.length : Int) - (n : Int))) ∧ JAt N w' w.heap.size g room ps ps.length ∧ Moved W w' (JSet N w.heap.size g)) := Aside0.mk (fun W hW => by
    subst hW
    have hb := below_alloc (Below.refl w.heap.size w) (.cells #[.pointer (some ⟨g, 0, none⟩), .slice none 0 0, .int .i64 0] 99)
    refine jopen_at (N := N) (v0 := .slice none 0 0) (s0 := 0) (heap_alloc_new w _) (hd.below hb) (fun k hk => ⟨(hkd k hk).1, by have := (hkd k hk).2; have := hb.size; omega, by have := (hkd k hk).2; omega⟩) (Nat.le_trans hN hb.size) hs hn ht hok)
  clear hd hkd hs ht hok
  go_enter Try.func74, Try.ntmps74
  go_wp2_with (go_at_call 99; refine (OP.out _ rfl).mono ?_; rintro e w1 ⟨rfl, hj, hm⟩; have HJ := Aside0.mk hj; have HM := Aside0.mk hm; clear hj hm)
  go_ret2
  exact ⟨rfl, HJ.out, (Moved.of_below (below_alloc (Below.refl w.heap.size w) _) _).trans HM.out (fun k hk => .inl hk)⟩
theorem jOpen_new (hd : DiskAt w g (fun _ => False) room 0 []) (hN : N ≤ w.heap.size) :
    Calls Try.prog 74 #[.pointer (some ⟨g, 0, none⟩)] w fun e w' => e = .returned (.tuple #[.pointer (some ⟨w.heap.size, 0, none⟩), .int .i64 0]) ∧ JAt N w' w.heap.size g room [] 0 ∧ Moved w w' (JSet N w.heap.size g) :=
  jOpen_any (n := 0) (x := 0) hd (fun k hk => hk.elim) hN (ps := []) (scan_frames (ps := []) (fun p hp => by simp at hp) (by simp [allF_nil])) (Nat.le_refl _) rfl (fun p hp => by simp at hp)
set_option maxRecDepth 100000 in
/-- A journal of no disk. -/
theorem jOpen_nil (hN : N ≤ w.heap.size) : Calls Try.prog 74 #[.pointer none] w fun e w' => ∃ g gj, e = .returned (.tuple #[.pointer (some ⟨gj, 0, none⟩), .int .i64 0]) ∧ JAt N w' gj g 0 [] 0 ∧ Below w.heap.size w w' ∧ w.heap.size ≤ gj ∧ w.heap.size ≤ g := by
  have OP : Aside0 (∀ W, Calls Try.prog 37 #[.int .i64 0] W fun e w' => e = .returned (.pointer (some ⟨W.heap.size, 0, none⟩)) ∧ DiskAt w' W.heap.size (fun _ => False) 0 0 [] ∧ Below W.heap.size W w') := Aside0.mk (fun W => new_any 0 W (fun _ => False))
  have JO : Aside0 (∀ (W W1 : World) (g : Nat), DiskAt W g (fun _ => False) 0 0 [] → W1 = W.alloc (.cells #[.pointer (some ⟨g, 0, none⟩), .slice none 0 0, .int .i64 0] 99) → Calls Try.prog 99 #[.pointer (some ⟨W.heap.size, 0, none⟩)] W1 fun e w' => e = .returned (.int .i64 0) ∧ JAt W.heap.size w' W.heap.size g 0 [] 0 ∧ Moved W1 w' (JSet W.heap.size W.heap.size g)) := Aside0.mk (fun W W1 g hd hW => by
    subst hW
    have hb := below_alloc (Below.refl W.heap.size W) (.cells #[.pointer (some ⟨g, 0, none⟩), .slice none 0 0, .int .i64 0] 99)
    exact jopen_at (N := W.heap.size) (v0 := .slice none 0 0) (s0 := 0) (n := 0) (x := 0) (ps := []) (heap_alloc_new W _) (hd.below hb) (fun k hk => hk.elim) hb.size (scan_frames (ps := []) (fun p hp => by simp at hp) (by simp [allF_nil])) (Nat.le_refl _) rfl (fun p hp => by simp at hp))
  go_enter Try.func74, Try.ntmps74
  go_wp2_with (first
    | (go_at_call 37; refine (OP.out _).mono ?_; rintro e w1 ⟨rfl, hd, hb⟩; have HD := Aside0.mk hd; have HB := Aside0.mk hb; clear hd hb)
    | (go_at_call 99; refine (JO.out w1 _ _ HD.out rfl).mono ?_; rintro e w2 ⟨rfl, hj, hm⟩; have HJ := Aside0.mk hj; have HM := Aside0.mk hm; clear hj hm))
  go_ret2
  have h1 := HB.out.size
  refine ⟨w.heap.size, w1.heap.size, rfl, ?_, Moved.from_below (below_alloc HB.out _) HM.out (fun k hk => ?_) (below_alloc HB.out _).size, h1, Nat.le_refl _⟩
  · obtain ⟨⟨v, kd, a, b, c, d⟩, e, f⟩ := HJ.out
    exact ⟨⟨v, kd, a, b, Kd.R_lower c (Nat.le_trans hN h1), fun k hk => ⟨by have := (d k hk).1; omega, (d k hk).2⟩⟩, e, f⟩
  · rcases hk with rfl | rfl | hk
    · exact h1
    · exact Nat.le_refl _
    · omega
end
end Go.Proofs.Ytbcienbnhchdeaa.Hand

/- The document's example of a journal. -/
namespace Go.Proofs.Ytbcienbnhchdeaa.Hand
open Go Go.RowKit Go.Proofs.YtbcienbnhchdeaaW.PrintLast Go.Proofs.YtbcienbnhchdeaaW.PrintWords Go.Proofs.YtbcienbnhchdeaaW.PrintMore Print FrameC FrameL FrameS FrameR JMath
set_option linter.unusedVariables false
set_option linter.unusedSimpArgs false
attribute [local go_sem] max2_int min2_int max_two min_two
/-- One byte in a new row. -/
theorem byte_C (W : World) (x : Int) : Kd.C (Kd.int .u8) (W.alloc (.cells #[.int .u8 x] 5 (1, 2))) (some ⟨W.heap.size, 0, none⟩) 1 [x] := C_lit W [x] (1, 2) (by simp)
theorem OkP_one (x : Int) (h : 0 ≤ x ∧ x < 256) : OkP [x] := ⟨by simp [okB]; omega, by simp, by simp⟩
section
variable {N : Nat} {w0 w w1 : World} {gj g room s : Nat} {l : List (List Int)}
/-- One byte appended. -/
theorem jbyte_ok (h : JAt N w gj g room l s) (x : Int) (hx : 0 ≤ x ∧ x < 256) (hfit : (allF l).length + 7 ≤ room) (hN : N ≤ w.heap.size) :
    Calls Try.prog 75 #[.pointer (some ⟨gj, 0, none⟩), .slice (some ⟨w.heap.size, 0, none⟩) 1 1] (w.alloc (.cells #[.int .u8 x] 5 (1, 2))) fun e w' => e = .returned (.int .i64 0) ∧ JAt N w' gj g room (l ++ [[x]]) s ∧ Moved w w' (JSet N gj g) := by
  have hb := below_alloc (Below.refl w.heap.size w) (.cells #[.int .u8 x] 5 (1, 2))
  refine (jappend_ok (p := [x]) (A := some ⟨w.heap.size, 0, none⟩) (c := 1) (h.next hb) (byte_C w x) (by simp) (OkP_one x hx) (by simp; omega) (Nat.le_trans hN hb.size)).mono ?_
  rintro e w' ⟨he, h1, h2⟩
  exact ⟨he, h1, (Moved.of_below hb _).trans h2 (fun k hk => .inl hk)⟩
end
set_option maxRecDepth 100000 in
set_option maxHeartbeats 1000000 in
theorem lives6_any (w : World) : Calls Try.prog 73 #[] w fun e w' => e = .returned (.bool true) ∧ Below w.heap.size w w' := by
  have OP : Aside0 (∀ W, Calls Try.prog 37 #[.int .i64 100] W fun e w' => e = .returned (.pointer (some ⟨W.heap.size, 0, none⟩)) ∧ DiskAt w' W.heap.size (fun _ => False) 100 0 [] ∧ Below W.heap.size W w') := Aside0.mk (fun W => new_any 100 W (fun _ => False))
  have CR : Aside0 (∀ (N gj g : Nat) (W : World), JAt N W gj g 100 [[97], [98]] 1 → N ≤ W.heap.size → Calls Try.prog 79 #[.pointer (some ⟨gj, 0, none⟩), .int .i64 6] W fun e w' => e = .returned (.int .i64 1) ∧ JAt N w' gj g 100 [[97]] 1 ∧ Moved W w' (JSet N gj g)) := Aside0.mk (fun N gj g W h hN => by
    have h0 := jcrash_any 6 h hN (by simp [allF_cons, allF_nil, frameOf_len])
    have e1 : leftOf [[97], [98]] 1 6 = 13 := by simp [leftOf, allF_cons, allF_nil, frameOf_len, keepOf]
    have e2 : fit [[97], [98]] 13 = 1 := by simp [fit]
    rw [e1, e2] at h0
    exact h0)
  have kc := fun (W : World) (C : Array Value) (n c : Nat) => Lib.run_convert_bytes_const (P := Try.prog) W 22 5 C n c Try.underlying22 Try.underlying5
  go_enter Try.func73, Try.ntmps73
  go_wp2_with (first
    | (go_at_call 37; refine (OP.out _).mono ?_; rintro e w1 ⟨rfl, hd, hb⟩; have HD := Aside0.mk hd; have HB := Aside0.mk hb; clear hd hb)
    | (go_at_call 74; refine (jOpen_new (N := w.heap.size) HD.out HB.out.size).mono ?_; rintro e w2 ⟨rfl, hj, hm⟩; have HJ2 := Aside0.mk hj; have HM2 := Aside0.mk (show Moved w w2 (JSet w.heap.size w1.heap.size w.heap.size) from (Moved.of_below HB.out _).trans hm (fun k hk => .inl hk)); have hz1 := HB.out.size; clear hj hm HD HB)
    | (go_at_call 75; refine (jbyte_ok HJ2.out 97 (by omega) (by simp [allF_nil]) HM2.out.size).mono ?_; rintro e w3 ⟨rfl, hj, hm⟩; have HJ3 := Aside0.mk hj; have HM3 := Aside0.mk (HM2.out.trans hm (fun k hk => .inl hk)); clear hj hm HJ2 HM2)
    | (go_at_call 76; refine (jsync_any HJ3.out HM3.out.size).mono ?_; rintro e w4 ⟨rfl, hj, hm⟩; have HJ4 := Aside0.mk hj; have HM4 := Aside0.mk (HM3.out.trans hm (fun k hk => .inl hk)); clear hj hm HJ3 HM3)
    | (go_at_call 75; refine (jbyte_ok HJ4.out 98 (by omega) (by simp [allF_nil, allF_cons, frameOf_len]) HM4.out.size).mono ?_; rintro e w5 ⟨rfl, hj, hm⟩; have HJ5 := Aside0.mk hj; have HM5 := Aside0.mk (HM4.out.trans hm (fun k hk => .inl hk)); clear hj hm HJ4 HM4)
    | (go_at_call 79; refine (CR.out _ _ _ _ HJ5.out HM5.out.size).mono ?_; rintro e w6 ⟨rfl, hj, hm⟩; have HJ6 := Aside0.mk hj; have HM6 := Aside0.mk (HM5.out.trans hm (fun k hk => .inl hk)); clear hj hm HJ5 HM5)
    | (go_at_call 80; refine (ja_any HJ6.out).mono ?_; rintro e w7 ⟨A7, c7, rfl, hc7, hC, hb⟩; obtain ⟨ad, Ai, ci, rfl, hcell, hci, hCi⟩ := row_in hC (n := 0) (by simp); have hcell0 : w7.cell? ad = some (.slice Ai 1 ci) := hcell; have hcv := Kd.C_string (P := Try.prog) (c := ci) Try.underlying22 Try.underlying5 Try.underlying9 (show Kd.C (Kd.int .u8) w7 Ai 1 [97] from hCi); rw [show strOfNums [97] = ⟨#[97]⟩ from by decide] at hcv; have HJ7 := Aside0.mk (HJ6.out.next hb); have HM7 := Aside0.mk (HM6.out.below hb); clear hC hb hcell hCi)
    | (go_at_call 77; refine (js_any HJ7.out).mono ?_; rintro e w8 ⟨rfl, rfl⟩))
  go_ret
  exact ⟨rfl, HM7.out.toBelow (Nat.le_refl _) (fun k hk => by rcases hk with rfl | rfl | hk; exact hz1; exact Nat.le_refl _; exact hk)⟩
section
variable {w : World} {A : Option Addr} {n c : Nat}
theorem jframe_nil : Calls Try.prog 100 #[.pointer none, .slice A n c] w fun e w' => e = .returned (.tuple #[.slice none 0 0, .int .i64 1]) ∧ w = w' := by
  go_enter Try.func100, Try.ntmps100
  go_wp2
  go_ret2
  exact ⟨rfl, rfl⟩
theorem jappend_nil : Calls Try.prog 75 #[.pointer none, .slice A n c] w fun e w' => e = .returned (.int .i64 1) ∧ w = w' := by
  go_enter Try.func75, Try.ntmps75
  go_wp2_with (go_at_call 100; refine jframe_nil.mono ?_; rintro e w1 ⟨rfl, rfl⟩)
  go_ret
  exact ⟨rfl, rfl⟩
theorem jtorn_nil (k : Int) : Calls Try.prog 83 #[.pointer none, .slice A n c, .int .i64 k] w fun e w' => e = .returned (.int .i64 1) ∧ w = w' := by
  go_enter Try.func83, Try.ntmps83
  go_wp2_with (go_at_call 100; refine jframe_nil.mono ?_; rintro e w1 ⟨rfl, rfl⟩)
  go_ret
  exact ⟨rfl, rfl⟩
theorem jsync_nil : Calls Try.prog 76 #[.pointer none] w fun e w' => e = .returned (.int .i64 0) ∧ w = w' := by
  go_enter Try.func76, Try.ntmps76
  go_wp2
  go_ret
  exact ⟨rfl, rfl⟩
theorem jcrash_nil (k : Int) : Calls Try.prog 79 #[.pointer none, .int .i64 k] w fun e w' => e = .returned (.int .i64 0) ∧ w = w' := by
  go_enter Try.func79, Try.ntmps79
  go_wp2
  go_ret
  exact ⟨rfl, rfl⟩
theorem jswap_nil (v : Value) : Calls Try.prog 85 #[.pointer none, v] w fun e w' => e = .returned (.int .i64 1) ∧ w = w' := by
  go_enter Try.func85, Try.ntmps85
  go_wp2
  go_ret
  exact ⟨rfl, rfl⟩
theorem jsafe_nil : Calls Try.prog 77 #[.pointer none] w fun e w' => e = .returned (.int .i64 0) ∧ w = w' := by
  go_enter Try.func77, Try.ntmps77
  go_wp2
  go_ret
  exact ⟨rfl, rfl⟩
theorem jroom_nil : Calls Try.prog 84 #[.pointer none] w fun e w' => e = .returned (.int .i64 0) ∧ w = w' := by
  go_enter Try.func84, Try.ntmps84
  go_wp2
  go_ret
  exact ⟨rfl, rfl⟩
end
/-- What a journal of no room says to a payload. -/
theorem jappend_none {N : Nat} {w : World} {gj g : Nat} {A : Option Addr} {c : Nat} {p : List Int} (h : JAt N w gj g 0 [] 0) (hC : Kd.C (Kd.int .u8) w A p.length p) (hc : p.length ≤ c) (ok : okB p = true) (x : Int) (hx : x = if 1000 < p.length then 12 else if p.length = 0 then 1 else 4) :
    Calls Try.prog 75 #[.pointer (some ⟨gj, 0, none⟩), .slice A p.length c] w fun e w' => e = .returned (.int .i64 x) ∧ Below w.heap.size w w' := by
  by_cases h1 : 1000 < p.length
  · rw [if_pos h1] at hx
    exact (jappend_no x (.inr ⟨h1, hx⟩) hC.2.1).mono fun e w' ⟨he, n, hw⟩ => ⟨he, by rw [hw]; exact pw_below_drewN (Below.refl _ _) n⟩
  · rw [if_neg h1] at hx
    by_cases h0 : p.length = 0
    · rw [if_pos h0] at hx
      exact (jappend_no x (.inl ⟨h0, hx⟩) hC.2.1).mono fun e w' ⟨he, n, hw⟩ => ⟨he, by rw [hw]; exact pw_below_drewN (Below.refl _ _) n⟩
    · rw [if_neg h0] at hx
      subst hx
      exact jappend_full h hC hc ⟨ok, by omega, by omega⟩ (by simp [allF_nil])
theorem jr_zero {N : Nat} {w : World} {gj g : Nat} (h : JAt N w gj g 0 [] 0) : Calls Try.prog 84 #[.pointer (some ⟨gj, 0, none⟩)] w fun e w' => e = .returned (.int .i64 0) ∧ ∃ n, w' = w.drewN n :=
  (jr_any h).mono fun e w' ⟨he, hn⟩ => ⟨by rw [he]; simp [allF_nil], hn⟩
set_option maxRecDepth 100000 in
set_option maxHeartbeats 2000000 in
theorem journalNil_any (A0 : Option Addr) (c0 : Nat) (l0 : List Int) (n : Int) (w : World) (h0 : Kd.C (Kd.int .u8) w A0 l0.length l0) (hc0 : l0.length ≤ c0) (ok0 : okB l0 = true) :
    Calls Try.prog 26 #[.slice A0 l0.length c0, .int .i64 n] w fun e w' => e = .returned (.bool true) ∧ Below w.heap.size w w' := by
  have H0 := Aside0.mk h0
  have hl63 := h0.2.1
  obtain ⟨x, hx⟩ : ∃ x : Int, x = if 1000 < l0.length then 12 else if l0.length = 0 then 1 else 4 := ⟨_, rfl⟩
  have AP : Aside0 (∀ (W : World) (gj g : Nat), Below w.heap.size w W → JAt w.heap.size W gj g 0 [] 0 → Calls Try.prog 75 #[.pointer (some ⟨gj, 0, none⟩), .slice A0 l0.length c0] W fun e w' => e = .returned (.int .i64 x) ∧ Below W.heap.size W w') := Aside0.mk (fun W gj g hb h => jappend_none h (Kd.C_below h0 hb) hc0 ok0 x hx)
  clear h0 ok0
  by_cases h1 : 1000 < l0.length
  · rw [if_pos h1] at hx
    subst hx
    have hz : ((l0.length : Int) == 0) = false := by simp; intro e; subst e; simp at h1
    go_enter Try.func26, Try.ntmps26
    go_wp2_with (first
      | (go_at_call 73; refine (lives6_any _).mono ?_; rintro e w1 ⟨rfl, hb⟩; have HB1 := Aside0.mk hb; clear hb)
      | (go_at_call 74; refine (jOpen_nil (N := w.heap.size) HB1.out.size).mono ?_; rintro e w2 ⟨g, gj, rfl, hj, hb, hgj, hg⟩; have HJ2 := Aside0.mk hj; have HB2 := Aside0.mk (below_step HB1.out hb); clear hj hb)
      | (go_at_call 75; (with_reducible refine jappend_nil.mono ?_); rintro e w3 ⟨rfl, rfl⟩)
      | (go_at_call 83; refine (jtorn_nil n).mono ?_; rintro e w3 ⟨rfl, rfl⟩)
      | (go_at_call 76; (with_reducible refine jsync_nil.mono ?_); rintro e w3 ⟨rfl, rfl⟩)
      | (go_at_call 79; refine (jcrash_nil n).mono ?_; rintro e w3 ⟨rfl, rfl⟩)
      | (go_at_call 85; refine (jswap_nil _).mono ?_; rintro e w3 ⟨rfl, rfl⟩)
      | (go_at_call 80; refine jall_nil.mono ?_; rintro e w4 ⟨A4, c4, rfl, hb⟩; have HJ4 := Aside0.mk (HJ2.out.next hb); have HB4 := Aside0.mk (below_step HB2.out hb); clear hb)
      | (go_at_call 78; (with_reducible refine jlen_nil.mono ?_); rintro e w5 ⟨rfl, rfl⟩)
      | (go_at_call 77; (with_reducible refine jsafe_nil.mono ?_); rintro e w5 ⟨rfl, rfl⟩)
      | (go_at_call 84; (with_reducible refine jroom_nil.mono ?_); rintro e w5 ⟨rfl, rfl⟩)
      | (go_at_call 75; (with_reducible refine (AP.out _ _ _ HB4.out HJ4.out).mono ?_); rintro e w5 ⟨rfl, hb⟩; have HJ5 := Aside0.mk (HJ4.out.next hb); have HB5 := Aside0.mk (below_step HB4.out hb); clear hb)
      | (go_at_call 84; refine (jr_zero HJ5.out).mono ?_; rintro e w6 ⟨rfl, k, rfl⟩; have HB6 := Aside0.mk (pw_below_drewN HB5.out k)))
    go_ret
    exact ⟨rfl, HB6.out⟩
  · rw [if_neg h1] at hx
    have hg : ¬ (1000 : Int) < (l0.length : Int) := by omega
    clear h1
    by_cases h2 : l0.length = 0
    · rw [if_pos h2] at hx
      subst hx
      have hz : ((l0.length : Int) == 0) = true := by rw [h2]; rfl
      clear h2
      go_enter Try.func26, Try.ntmps26
      go_wp2_with (first
        | (go_at_call 73; refine (lives6_any _).mono ?_; rintro e w1 ⟨rfl, hb⟩; have HB1 := Aside0.mk hb; clear hb)
        | (go_at_call 74; refine (jOpen_nil (N := w.heap.size) HB1.out.size).mono ?_; rintro e w2 ⟨g, gj, rfl, hj, hb, hgj, hg⟩; have HJ2 := Aside0.mk hj; have HB2 := Aside0.mk (below_step HB1.out hb); clear hj hb)
        | (go_at_call 75; (with_reducible refine jappend_nil.mono ?_); rintro e w3 ⟨rfl, rfl⟩)
        | (go_at_call 83; refine (jtorn_nil n).mono ?_; rintro e w3 ⟨rfl, rfl⟩)
        | (go_at_call 76; (with_reducible refine jsync_nil.mono ?_); rintro e w3 ⟨rfl, rfl⟩)
        | (go_at_call 79; refine (jcrash_nil n).mono ?_; rintro e w3 ⟨rfl, rfl⟩)
        | (go_at_call 85; refine (jswap_nil _).mono ?_; rintro e w3 ⟨rfl, rfl⟩)
        | (go_at_call 80; refine jall_nil.mono ?_; rintro e w4 ⟨A4, c4, rfl, hb⟩; have HJ4 := Aside0.mk (HJ2.out.next hb); have HB4 := Aside0.mk (below_step HB2.out hb); clear hb)
        | (go_at_call 78; (with_reducible refine jlen_nil.mono ?_); rintro e w5 ⟨rfl, rfl⟩)
        | (go_at_call 77; (with_reducible refine jsafe_nil.mono ?_); rintro e w5 ⟨rfl, rfl⟩)
        | (go_at_call 84; (with_reducible refine jroom_nil.mono ?_); rintro e w5 ⟨rfl, rfl⟩)
        | (go_at_call 75; (with_reducible refine (AP.out _ _ _ HB4.out HJ4.out).mono ?_); rintro e w5 ⟨rfl, hb⟩; have HJ5 := Aside0.mk (HJ4.out.next hb); have HB5 := Aside0.mk (below_step HB4.out hb); clear hb)
        | (go_at_call 84; refine (jr_zero HJ5.out).mono ?_; rintro e w6 ⟨rfl, k, rfl⟩; have HB6 := Aside0.mk (pw_below_drewN HB5.out k)))
      go_ret
      exact ⟨rfl, HB6.out⟩
    · rw [if_neg h2] at hx
      subst hx
      have hz : ((l0.length : Int) == 0) = false := beq_eq_false_iff_ne.mpr (by omega)
      clear h2
      go_enter Try.func26, Try.ntmps26
      go_wp2_with (first
        | (go_at_call 73; refine (lives6_any _).mono ?_; rintro e w1 ⟨rfl, hb⟩; have HB1 := Aside0.mk hb; clear hb)
        | (go_at_call 74; refine (jOpen_nil (N := w.heap.size) HB1.out.size).mono ?_; rintro e w2 ⟨g, gj, rfl, hj, hb, hgj, hg⟩; have HJ2 := Aside0.mk hj; have HB2 := Aside0.mk (below_step HB1.out hb); clear hj hb)
        | (go_at_call 75; (with_reducible refine jappend_nil.mono ?_); rintro e w3 ⟨rfl, rfl⟩)
        | (go_at_call 83; refine (jtorn_nil n).mono ?_; rintro e w3 ⟨rfl, rfl⟩)
        | (go_at_call 76; (with_reducible refine jsync_nil.mono ?_); rintro e w3 ⟨rfl, rfl⟩)
        | (go_at_call 79; refine (jcrash_nil n).mono ?_; rintro e w3 ⟨rfl, rfl⟩)
        | (go_at_call 85; refine (jswap_nil _).mono ?_; rintro e w3 ⟨rfl, rfl⟩)
        | (go_at_call 80; refine jall_nil.mono ?_; rintro e w4 ⟨A4, c4, rfl, hb⟩; have HJ4 := Aside0.mk (HJ2.out.next hb); have HB4 := Aside0.mk (below_step HB2.out hb); clear hb)
        | (go_at_call 78; (with_reducible refine jlen_nil.mono ?_); rintro e w5 ⟨rfl, rfl⟩)
        | (go_at_call 77; (with_reducible refine jsafe_nil.mono ?_); rintro e w5 ⟨rfl, rfl⟩)
        | (go_at_call 84; (with_reducible refine jroom_nil.mono ?_); rintro e w5 ⟨rfl, rfl⟩)
        | (go_at_call 75; (with_reducible refine (AP.out _ _ _ HB4.out HJ4.out).mono ?_); rintro e w5 ⟨rfl, hb⟩; have HJ5 := Aside0.mk (HJ4.out.next hb); have HB5 := Aside0.mk (below_step HB4.out hb); clear hb)
        | (go_at_call 84; refine (jr_zero HJ5.out).mono ?_; rintro e w6 ⟨rfl, k, rfl⟩; have HB6 := Aside0.mk (pw_below_drewN HB5.out k)))
      go_ret
      exact ⟨rfl, HB6.out⟩
end Go.Proofs.Ytbcienbnhchdeaa.Hand

/- What the journal's laws share: rows that may be appended, and rows compared. -/
namespace Go.Proofs.Ytbcienbnhchdeaa.Hand
open Go Go.RowKit Go.Proofs.YtbcienbnhchdeaaW.PrintLast Go.Proofs.YtbcienbnhchdeaaW.PrintWords Go.Proofs.YtbcienbnhchdeaaW.PrintMore Print FrameC FrameL FrameS FrameR JMath
set_option linter.unusedVariables false
set_option linter.unusedSimpArgs false
attribute [local go_sem] max2_int min2_int max_two min_two
/-- Rows that may be appended, and few of them. -/
structure GoodL (G : List (List Int)) (m : Nat) : Prop where
  ok : ∀ p ∈ G, OkP p
  small : ∀ p ∈ G, p.length ≤ 30
  few : G.length ≤ m
theorem GoodL.okb {G : List (List Int)} {m : Nat} (h : GoodL G m) : ∀ p ∈ G, okB p = true := fun p hp => (h.ok p hp).1
theorem GoodL.len {G : List (List Int)} {m : Nat} (h : GoodL G m) : (allF G).length ≤ 36 * m := by
  have h1 := allF_small (x := G) (fun p hp => ⟨h.ok p hp, h.small p hp⟩)
  have h2 := h.few
  omega
theorem jgood_any (A0 : Option Addr) (c0 : Nat) (l0 : List (List Int)) (most : Nat) (hm : most ≤ 100) (w : World) (h : Kd.C KS w A0 l0.length l0) (hc : l0.length ≤ c0) (hok : ∀ p ∈ l0, okB p = true) :
    Calls Try.prog 66 #[.slice A0 l0.length c0, .int .i64 (most : Int)] w fun e w' => ∃ (G : List (List Int)) (A : Option Addr) (c : Nat), e = .returned (.slice A G.length c) ∧ G = goodL most 0 l0 ∧ GoodL G most ∧ G.length ≤ c ∧ Kd.C KS w' A G.length G ∧ Below w.heap.size w w' := by
  refine (pacesetterref04_Good.calls (2 * most + 2) (fun k => k < w.heap.size) A0 c0 l0 (most : Int) (goodL most 0 l0) w (Kd.V_mk hc (Kd.C_F (Kd.heap_slice 5 (Kd.heap_int .u8)) h)) (good_f hm (Nat.le_refl _))).mono ?_
  rintro e w' ⟨v, he, hN, hb⟩
  obtain ⟨A, c, rfl, h1, h2⟩ := Kd.N_reads hN
  have hg := goodL_ok most 0 l0 hok
  exact ⟨_, A, c, he, rfl, ⟨fun p hp => (hg.1 p hp).1, fun p hp => (hg.1 p hp).2, hg.2⟩, h1, h2, hb⟩
/-- The same, with what the rows lie in. -/
theorem jgoodN_any (P0 : Nat → Prop) (A0 : Option Addr) (c0 : Nat) (l0 : List (List Int)) (most : Nat) (hm : most ≤ 100) (w : World) (h : Kd.V KS 22 w w.heap.size P0 (.slice A0 l0.length c0) l0) (hok : ∀ p ∈ l0, okB p = true) :
    Calls Try.prog 66 #[.slice A0 l0.length c0, .int .i64 (most : Int)] w fun e w' => ∃ (G : List (List Int)) (A : Option Addr) (c : Nat), e = .returned (.slice A G.length c) ∧ G = goodL most 0 l0 ∧ GoodL G most ∧ G.length ≤ c ∧ Kd.N KS 22 w' w.heap.size (fun k => P0 k ∨ w.heap.size ≤ k) (.slice A G.length c) G ∧ Below w.heap.size w w' := by
  refine (pacesetterref04_Good.calls (2 * most + 2) P0 A0 c0 l0 (most : Int) (goodL most 0 l0) w h (good_f hm (Nat.le_refl _))).mono ?_
  rintro e w' ⟨v, he, hN, hb⟩
  obtain ⟨A, c, rfl, h1, h2⟩ := Kd.N_reads hN
  have hg := goodL_ok most 0 l0 hok
  exact ⟨_, A, c, he, rfl, ⟨fun p hp => (hg.1 p hp).1, fun p hp => (hg.1 p hp).2, hg.2⟩, h1, hN, hb⟩
theorem jsame_any (A : Option Addr) (c : Nat) (a : List (List Int)) (A' : Option Addr) (c' : Nat) (b : List (List Int)) (w : World) (h1 : Kd.C KS w A a.length a) (h2 : a.length ≤ c) (h3 : Kd.C KS w A' b.length b) (h4 : b.length ≤ c') (ha : ∀ p ∈ a, okB p = true) (hb : ∀ p ∈ b, okB p = true) (hl : a.length ≤ 1000000) :
    Calls Try.prog 69 #[.slice A a.length c, .slice A' b.length c'] w fun e w' => e = .returned (.bool (decide (a = b))) ∧ Below w.heap.size w w' :=
  (pacesetterref04_Same.calls (a.length + 1) A c a A' c' b _ w h1 h2 h3 h4 (same_f hl ha hb (Nat.le_refl _))).mono fun e w' ⟨he, hd⟩ => ⟨he, hd.below⟩
/-- A journal behind its first rows. -/
structure JFed (w2 : World) (gj g room : Nat) (l : List (List Int)) (s : Nat) (wr : World) : Prop where
  at_ : JAt w2.heap.size wr gj g room l s
  below : Below w2.heap.size w2 wr
theorem JFed.turn {w2 wr w' : World} {gj g room s s' : Nat} {l l' : List (List Int)} (h : JFed w2 gj g room l s wr) (hgj : w2.heap.size ≤ gj) (hg : w2.heap.size ≤ g) (h1 : JAt w2.heap.size w' gj g room l' s') (h2 : Moved wr w' (JSet w2.heap.size gj g)) : JFed w2 gj g room l' s' w' :=
  ⟨h1, ((Moved.of_below h.below (JSet w2.heap.size gj g)).trans h2 (fun k hk => .inl hk)).toBelow (Nat.le_refl _) (fun k hk => by rcases hk with rfl | rfl | hk <;> omega)⟩
theorem JFed.next {w2 wr w' : World} {gj g room s : Nat} {l : List (List Int)} (h : JFed w2 gj g room l s wr) (hb : Below wr.heap.size wr w') : JFed w2 gj g room l s w' := ⟨h.at_.next hb, below_step h.below hb⟩
theorem take_okP {L : List (List Int)} (h : ∀ p ∈ L, OkP p) (n : Nat) : ∀ p ∈ L.take n, OkP p := fun p hp => h p (List.mem_of_mem_take hp)
theorem take_succ {L : List (List Int)} {n : Nat} (hn : n < L.length) : L.take (n + 1) = L.take n ++ [L[n]'hn] := by rw [List.take_add_one, List.getElem?_eq_getElem hn]; rfl
/-- One more of rows that were good appended. -/
theorem jfed_ok {w2 wr : World} {gj g room s n : Nat} {l G : List (List Int)} {Ag : Option Addr} (h : JFed w2 gj g room (l ++ G.take n) s wr) (hgj : w2.heap.size ≤ gj) (hg : w2.heap.size ≤ g) (hC : Kd.C KS w2 Ag G.length G) (hn : n < G.length) (hok : ∀ p ∈ G, OkP p) (hfit : (allF l).length + (allF G).length ≤ room) :
    ∃ ad Ai ci, Ag = some ad ∧ wr.cell? (ad.add n) = some (.slice Ai (G[n]'hn).length ci) ∧ Calls Try.prog 75 #[.pointer (some ⟨gj, 0, none⟩), .slice Ai (G[n]'hn).length ci] wr fun e w' => e = .returned (.int .i64 0) ∧ JFed w2 gj g room (l ++ G.take (n + 1)) s w' := by
  obtain ⟨ad, Ai, ci, e1, hcell, hci, hCi⟩ := row_in (Kd.C_below hC h.below) hn
  refine ⟨ad, Ai, ci, e1, hcell, ?_⟩
  have h1 := allF_take_succ hn
  have h2 := allF_take_le G (n + 1)
  rw [h1, List.length_append, frameOf_len] at h2
  refine (jappend_ok h.at_ hCi hci (hok _ (List.getElem_mem hn)) (by rw [allF_append, List.length_append]; omega) h.below.size).mono ?_
  rintro e w' ⟨he, hj, hm⟩
  refine ⟨he, ?_⟩
  rw [take_succ hn, ← List.append_assoc]
  exact h.turn hgj hg hj hm
end Go.Proofs.Ytbcienbnhchdeaa.Hand

-- Printed by a program of this session (wip/patch_print.py over the kit's print); Lean checks it.
namespace Go.Proofs.Ytbcienbnhchdeaa.Print
open Go.RowKit Go.Proofs.YtbcienbnhchdeaaW.PrintWords Go.Proofs.YtbcienbnhchdeaaW.PrintLast Go.Proofs.YtbcienbnhchdeaaW.PrintMore
attribute [local go_sem] max2_int min2_int max_two min_two max_three min_three max_four min_four   -- for this text's walks alone
set_option linter.unusedVariables false
set_option linter.unusedSimpArgs false

-- NOT PRINTED: function 70 (pacesetterref04_Get)

-- NOT PRINTED: function 71 (pacesetterref04_Scan)

/-! ### frame_Count: function 72 -/
def frame_Count.f (l0 : List Int) : Option (Int) := (frame_Scan.f l0).bind fun bt319 => (some (bt319.1.length : Int))
set_option maxHeartbeats 8000000 in
set_option maxRecDepth 100000 in
theorem frame_Count.calls (A0 : Option Addr) (c0 : Nat) (l0 : List Int) (r : Int) (w : World) (hr0 : Kd.C (Kd.int .u8) w A0 l0.length l0) (hc0 : l0.length ≤ c0) (h : frame_Count.f l0 = some r) :
    Calls Try.prog 72 #[.slice A0 l0.length c0] w fun e w' => e = .returned (.int .i64 r) ∧ Below w.heap.size w w' := by
  have HR0 := Aside0.mk hr0
  have HC0 := Aside0.mk hc0
  clear hr0 hc0
  have HB := Aside0.mk (Below.refl w.heap.size w)
  have H : ((frame_Scan.f l0).bind fun bt319 => (some (bt319.1.length : Int))) = some r := h
  clear h
  replace H := Option.bind_eq_some_iff.mp H
  obtain ⟨⟨t319, t320, t321⟩, A20, H⟩ := H
  replace H : (some (t319.length : Int)) = some r := H
  have A2 := Aside0.mk A20
  clear A20
  obtain rfl := Option.some.inj H
  go_enter Try.func72, Try.ntmps72
  go_wp2_with (first | ((with_reducible refine gate_callee (f := 68) rfl ?_); refine goesL_ (some 8) rfl rfl Try.func68 (by kernel_rfl) rfl #[.slice A0 l0.length c0] rfl (by (try simp only [List.map_toArray, List.map_cons, List.map_nil]); first | done | rfl | (simp only [List.length_drop, List.length_take]; rfl)) ?_; (with_reducible refine (frame_Scan.calls _ _ l0 t319 t320 t321 _ ?side1 ?side2 A2.out).mono ?_); (case side1 => repeat (first | exact HR0.out | (with_reducible refine Kd.C_alloc ?_ _) | (with_reducible refine Kd.C_drewN ?_ _) | (with_reducible refine Kd.C_drew ?_))); (case side2 => exact HC0.out); rintro e w3 ⟨v322, rfl, ho0, hb⟩; refine ⟨_, rfl, ?_⟩; have n0_ := Aside0.mk (Kd.S_lower ho0 (below_size (by repeat (first | (with_reducible first | exact HB.out | apply below_alloc | apply pw_below_drewN | apply below_drew1) | exact HB.out)))); have n1_ := Aside0.mk (below_step (by repeat (first | (with_reducible first | exact HB.out | apply below_alloc | apply pw_below_drewN | apply below_drew1) | exact HB.out)) hb); clear HB; have HO323 := n0_; have HB := n1_; clear n0_ n1_; (try clear hb); (try clear hb2); (try clear hk); (try clear hi); (try clear ho0); obtain ⟨Ao4, co4, eo4⟩ := Kd.S_slice HO323.out; subst eo4))
  go_ret
  exact ⟨by first | rfl | (simp [errW_none, errW_some] <;> rfl) | (simp [*, errW_none, errW_some] <;> rfl), by repeat (first | (with_reducible first | exact HB.out | apply below_alloc | apply pw_below_drewN | apply below_drew1) | exact HB.out)⟩

-- NOT PRINTED: function 19 (pacesetterlaw04_FrameGets)

end Go.Proofs.Ytbcienbnhchdeaa.Print

/- The frames of any bytes: the second reading, by hand; the law's contract. -/
namespace Go.Proofs.Ytbcienbnhchdeaa.Hand
open Go Go.RowKit Go.Proofs.YtbcienbnhchdeaaW.PrintLast Go.Proofs.YtbcienbnhchdeaaW.PrintWords Go.Proofs.YtbcienbnhchdeaaW.PrintMore Print FrameC FrameL FrameS FrameR
set_option linter.unusedVariables false
set_option linter.unusedSimpArgs false
attribute [local go_sem] max2_int min2_int max_two min_two

/-- A frame that is written anew is the frame that is there, where its check is good. -/
theorem frame_anew {b : List Int} (hb : okB b = true) (h1 : lenOf b ≤ 1000) (h2 : lenOf b + 6 ≤ b.length) : frameOf ((b.take (lenOf b + 2)).drop 2) = b.take (lenOf b + 6) ↔ GoodP (b.take (lenOf b + 6)) := by
  have hl0 : 2 ≤ b.length := by omega
  obtain ⟨x, y, t, rfl⟩ : ∃ x y t, b = x :: y :: t := by
    rcases b with _ | ⟨x, _ | ⟨y, t⟩⟩
    · simp at hl0
    · simp at hl0
    · exact ⟨x, y, t, rfl⟩
  have hx := okB_mem hb (x := x) (by simp)
  have hy := okB_mem hb (x := y) (by simp)
  have hl : lenOf (x :: y :: t) = x.toNat * 256 + y.toNat := rfl
  generalize hn : lenOf (x :: y :: t) = n at *
  have ht : t.length = (x :: y :: t).length - 2 := by simp
  have e1 : ((x :: y :: t).take (n + 2)).drop 2 = t.take n := by simp
  have e2 : (t.take n).length = n := by rw [List.length_take]; simp at h2; omega
  have e3 : headN n = [x, y] := by
    unfold headN
    simp only [List.cons.injEq, and_true]
    omega
  have e4 : withHead (t.take n) = (x :: y :: t).take (n + 2) := by
    unfold withHead
    rw [e2, e3]
    simp
  have e5 : (x :: y :: t).take (n + 6) = (x :: y :: t).take (n + 2) ++ ((x :: y :: t).drop (n + 2)).take 4 := by
    rw [show n + 6 = (n + 2) + 4 by omega, List.take_add]
  have e6 : (((x :: y :: t).drop (n + 2)).take 4).length = 4 := by rw [List.length_take, List.length_drop]; omega
  have ho := okB_take (okB_drop hb (n + 2)) 4
  rw [e1]
  unfold frameOf
  rw [e4, e5, goodP_app _ _ e6]
  generalize ((x :: y :: t).drop (n + 2)).take 4 = q at e6 ho
  generalize (x :: y :: t).take (n + 2) = a
  constructor
  · intro h
    have h3 := List.append_cancel_left h
    rw [← h3, rdN_bytes (crcN_lt a)]
  · intro h
    congr 1
    rw [← bytesN_rd ho e6, ← h, Int.toNat_natCast]
/-- The first two bytes. -/
theorem two_cells {w : World} {A : Option Addr} {l : List Int} (h : Kd.C (Kd.int .u8) w A l.length l) (hl : 2 ≤ l.length) : ∃ ad, A = some ad ∧ w.cell? ad = some (.int .u8 (rd l 0)) ∧ w.cell? ⟨ad.block, ad.off + 1, none⟩ = some (.int .u8 (rd l 1)) := by
  have hr : ReadsOf (Value.int .u8) (0 : Int) w A l.length l := Kd.reads_of_C h
  obtain ⟨ad, e, hc⟩ := hr.2.2 (by omega)
  have e1 : ad.add 1 = ⟨ad.block, ad.off + 1, none⟩ := by unfold Addr.add; simp
  refine ⟨ad, e, ?_, by rw [← e1]; exact hc 1 (by omega)⟩
  have h0 := hc 0 (by omega)
  have e0 : ad.add 0 = ad := by unfold Addr.add; simp
  rw [e0] at h0
  exact h0
theorem small_sums (N : Nat) (h : N ≤ 1000) : IntKind.i64.wrap (2 + (N : Int)) = 2 + (N : Int) ∧ IntKind.i64.wrap ((N : Int) + 6) = (N : Int) + 6 ∧ wrap64 (2 + (N : Int)) = 2 + (N : Int) ∧ wrap64 ((N : Int) + 6) = (N : Int) + 6 ∧ (0 : Int) ≤ (N : Int) + 6 ∧ ((N : Int) + 6).toNat = N + 6 :=
  ⟨IntWalk.i64_in _ (by omega), IntWalk.i64_in _ (by omega), by unfold wrap64; omega, by unfold wrap64; omega, by omega, by omega⟩
/-- 'b[2:2+n]'. -/
theorem mid_cut (A : Option Addr) (c : Nat) (l : List Int) (N : Nat) (hN : N + 2 ≤ l.length) (hc : l.length ≤ c) : ∃ (A1 : Option Addr) (p : List Int), p = (l.take (N + 2)).drop 2 ∧ p.length = N ∧ (∀ W : World, (Instr.slice 22 (.slice A l.length c) (some (.int .i64 2)) (some (.int .i64 (2 + (N : Int)))) none).run Try.prog W = .ok (.slice A1 N (c - 2)) W) ∧
    (∀ W, Kd.C (Kd.int .u8) W A l.length l → Kd.C (Kd.int .u8) W A1 p.length p) ∧ N ≤ c - 2 := by
  obtain ⟨i0, hi0, _, hsz, _⟩ := info_parts info5
  obtain ⟨A1, h1, h2, h3⟩ := print_mid_int (P := Try.prog) (k := .u8) 22 5 Try.underlying22 hi0 hsz A c l 2 (2 + (N : Int)) (by omega) (by omega) (by omega) hc
  have e1 : (2 + (N : Int)).toNat = N + 2 := by omega
  have e2 : (2 : Int).toNat = 2 := rfl
  rw [e1, e2] at h1 h2 h3
  have hl : ((l.take (N + 2)).drop 2).length = N := by rw [List.length_drop, List.length_take]; omega
  rw [hl] at h1 h3
  exact ⟨A1, _, rfl, hl, h1, fun W h => Kd.C_of_reads (enc := Value.int .u8) (d := (0 : Int)) (h1 := fun _ => rfl) (h2 W (Kd.reads_of_C (enc := Value.int .u8) (d := (0 : Int)) (h1 := fun _ => rfl) h)), h3⟩
theorem of_p (A : Option Addr) (c : Nat) (l : List Int) (N : Nat) (hN : l.length = N) (hc : N ≤ c) {w : World} (h : Kd.C (Kd.int .u8) w A l.length l) (hf : pacesetterref04_of.f 30000 l = some (frameOf l)) :
    Calls Try.prog 98 #[.slice A N c] w fun e w' => ∃ (A' : Option Addr) (c' : Nat), e = .returned (.slice A' (frameOf l).length c') ∧ Kd.C (Kd.int .u8) w' A' (frameOf l).length (frameOf l) ∧ Below w.heap.size w w' := by
  subst hN
  refine (pacesetterref04_of.calls 30000 A c l (frameOf l) w h hc hf).mono ?_
  rintro e w' ⟨v, rfl, ho, hb⟩
  obtain ⟨A', c', rfl, _, hC⟩ := Kd.R_reads ho
  exact ⟨A', c', rfl, hC, hb⟩
set_option maxRecDepth 100000 in
set_option maxHeartbeats 2000000 in
theorem refGet_short (A : Option Addr) (c : Nat) (l : List Int) (w : World) (h2 : l.length < 2) :
    Calls Try.prog 70 #[.slice A l.length c] w fun e w' => ∃ (A' : Option Addr) (c' : Nat) (r : List Int) (n x : Int), e = .returned (.tuple #[.slice A' r.length c', .int .i64 n, .int .i64 x]) ∧ (r, n, x) = getF l ∧ r.length ≤ c' ∧ (∀ W, Kd.C (Kd.int .u8) W A l.length l → Kd.C (Kd.int .u8) W A' r.length r) ∧ Below w.heap.size w w' := by
  have e : getF l = ([], 0, 2) := by unfold getF; rw [if_pos h2]
  have E := Aside0.mk e
  clear e
  go_enter Try.func70, Try.ntmps70
  go_wp2
  go_ret3
  exact ⟨none, 0, [], 0, 2, rfl, E.out.symm, Nat.le_refl _, fun W _ => Kd.C_nil _ _, Below.refl _ _⟩
/-- What the first two bytes tell. -/
structure Two (w : World) (A : Option Addr) (l : List Int) (ad : Addr) (x0 x1 N : Nat) : Prop where
  hA : A = some ad
  c0 : w.cell? ad = some (.int .u8 (x0 : Int))
  c1 : w.cell? ⟨ad.block, ad.off + 1, none⟩ = some (.int .u8 (x1 : Int))
  b0 : x0 < 256
  b1 : x1 < 256
  sum : (x0 : Int) * 256 + (x1 : Int) = (N : Int)
theorem two_of {w : World} {A : Option Addr} {l : List Int} (h : Kd.C (Kd.int .u8) w A l.length l) (ok : okB l = true) (hl : 2 ≤ l.length) : ∃ ad x0 x1, Two w A l ad x0 x1 (lenOf l) := by
  obtain ⟨ad, e, hx0, hx1⟩ := two_cells h hl
  have hb0 : 0 ≤ rd l 0 ∧ rd l 0 < 256 := by
    rw [show (0 : Int) = ((0 : Nat) : Int) from rfl, rd_at (by omega)]
    exact okB_mem ok (List.getElem_mem _)
  have hb1 : 0 ≤ rd l 1 ∧ rd l 1 < 256 := by
    rw [show (1 : Int) = ((1 : Nat) : Int) from rfl, rd_at (by omega)]
    exact okB_mem ok (List.getElem_mem _)
  obtain ⟨x0, e0⟩ := Int.eq_ofNat_of_zero_le hb0.1
  obtain ⟨x1, e1⟩ := Int.eq_ofNat_of_zero_le hb1.1
  refine ⟨ad, x0, x1, e, by rw [← e0]; exact hx0, by rw [← e1]; exact hx1, by omega, by omega, ?_⟩
  unfold lenOf
  rw [e0, e1, Int.toNat_natCast, Int.toNat_natCast]
  omega
set_option maxRecDepth 100000 in
set_option maxHeartbeats 2000000 in
theorem refGet_bad (A : Option Addr) (c : Nat) (l : List Int) (w : World) (ad : Addr) (x0 x1 N : Nat) (h : Two w A l ad x0 x1 N) (hl : 2 ≤ l.length) (hl2 : l.length ≤ 2000) (E : Aside0 (getF l = ([], 0, 2))) (hbad : ¬ (1 ≤ N ∧ N ≤ 1000 ∧ N + 6 ≤ l.length)) :
    Calls Try.prog 70 #[.slice A l.length c] w fun e w' => ∃ (A' : Option Addr) (c' : Nat) (r : List Int) (n x : Int), e = .returned (.tuple #[.slice A' r.length c', .int .i64 n, .int .i64 x]) ∧ (r, n, x) = getF l ∧ r.length ≤ c' ∧ (∀ W, Kd.C (Kd.int .u8) W A l.length l → Kd.C (Kd.int .u8) W A' r.length r) ∧ Below w.heap.size w w' := by
  obtain ⟨rfl, hx0, hx1, b0, b1, hsum⟩ := h
  have hd2 : decide ((l.length : Int) < 2) = false := decide_eq_false (by omega)
  have hi0 : (0 : Int) < (l.length : Int) := by omega
  have hi1 : (1 : Int) < (l.length : Int) := by omega
  have hj1 : 1 < l.length := by omega
  have hj0 : 0 < l.length := by omega
  have fin : ∀ W : World, Below w.heap.size w W → ∃ (A' : Option Addr) (c' : Nat) (r : List Int) (n x : Int), Ending.returned (.tuple #[.slice none 0 0, .int .i64 0, .int .i64 2]) = .returned (.tuple #[.slice A' r.length c', .int .i64 n, .int .i64 x]) ∧ (r, n, x) = getF l ∧ r.length ≤ c' ∧ (∀ W, Kd.C (Kd.int .u8) W (some ad) l.length l → Kd.C (Kd.int .u8) W A' r.length r) ∧ Below w.heap.size w W :=
    fun W hW => ⟨none, 0, [], 0, 2, rfl, E.out.symm, Nat.le_refl _, fun W _ => Kd.C_nil _ _, hW⟩
  have FIN := Aside0.mk fin
  clear fin
  by_cases q1 : N < 1
  · have t1 : decide ((N : Int) < 1) = true := decide_eq_true (by omega)
    clear hbad
    go_enter Try.func70, Try.ntmps70
    go_wp2
    go_quiet (fail)
    go_wp2
    go_ret3
    exact FIN.out _ (pw_below_drewN (Below.refl _ _) _)
  · have t1 : decide ((N : Int) < 1) = false := decide_eq_false (by omega)
    by_cases q2 : 1000 < N
    · have t2 : decide ((1000 : Int) < (N : Int)) = true := decide_eq_true (by omega)
      clear hbad
      go_enter Try.func70, Try.ntmps70
      go_wp2
      go_quiet (fail)
      go_wp2
      go_ret3
      exact FIN.out _ (pw_below_drewN (Below.refl _ _) _)
    · have t2 : decide ((1000 : Int) < (N : Int)) = false := decide_eq_false (by omega)
      have t3 : decide ((l.length : Int) < (N : Int) + 6) = true := decide_eq_true (by omega)
      clear hbad
      go_enter Try.func70, Try.ntmps70
      go_wp2
      go_quiet (fail)
      go_wp2
      go_ret3
      exact FIN.out _ (pw_below_drewN (Below.refl _ _) _)
set_option maxRecDepth 100000 in
set_option maxHeartbeats 4000000 in
theorem refGet_good (A : Option Addr) (c : Nat) (l : List Int) (w : World) (ad : Addr) (x0 x1 N : Nat) (h : Two w A l ad x0 x1 N) (hw : Kd.C (Kd.int .u8) w A l.length l) (hc : l.length ≤ c) (hl : 2 ≤ l.length) (hl2 : l.length ≤ 2000) (g1 : 1 ≤ N) (g2 : N ≤ 1000) (g3 : N + 6 ≤ l.length)
    (A1 : Option Addr) (p : List Int) (hpl : p.length = N) (hcut : ∀ W : World, (Instr.slice 22 (.slice A l.length c) (some (.int .i64 2)) (some (.int .i64 (2 + (N : Int)))) none).run Try.prog W = .ok (.slice A1 N (c - 2)) W)
    (HP : Aside0 (∀ W, Kd.C (Kd.int .u8) W A l.length l → Kd.C (Kd.int .u8) W A1 p.length p)) (hpc : N ≤ c - 2) (E : Aside0 (getF l = (if GoodP (l.take (N + 6)) then (p, ((N + 6 : Nat) : Int), 0) else ([], 0, 3))))
    (HAN : Aside0 (frameOf p = l.take (N + 6) ↔ GoodP (l.take (N + 6)))) (okp : okB p = true) (okl : okB l = true) :
    Calls Try.prog 70 #[.slice A l.length c] w fun e w' => ∃ (A' : Option Addr) (c' : Nat) (r : List Int) (n x : Int), e = .returned (.tuple #[.slice A' r.length c', .int .i64 n, .int .i64 x]) ∧ (r, n, x) = getF l ∧ r.length ≤ c' ∧ (∀ W, Kd.C (Kd.int .u8) W A l.length l → Kd.C (Kd.int .u8) W A' r.length r) ∧ Below w.heap.size w w' := by
  have H := Aside0.mk hw
  obtain ⟨rfl, hx0, hx1, b0, b1, hsum⟩ := h
  have hd2 : decide ((l.length : Int) < 2) = false := decide_eq_false (by omega)
  have hi0 : (0 : Int) < (l.length : Int) := by omega
  have hi1 : (1 : Int) < (l.length : Int) := by omega
  have hj1 : 1 < l.length := by omega
  have hj0 : 0 < l.length := by omega
  have t1 : decide ((N : Int) < 1) = false := decide_eq_false (by omega)
  have t2 : decide ((1000 : Int) < (N : Int)) = false := decide_eq_false (by omega)
  have t3 : decide ((l.length : Int) < (N : Int) + 6) = false := decide_eq_false (by omega)
  have OF := Aside0.mk (of_f okp (by omega))
  have HL6 := Aside0.mk (show (l.take (N + 6)).length = N + 6 by rw [List.length_take]; omega)
  have HS : Aside0 (∀ W : World, Below w.heap.size w W → (convert 22 9 (.slice (some ad) (N + 6) c)).run Try.prog W = .ok (.string (strOfNums (l.take (N + 6)))) W) := Aside0.mk (by
    intro W hW
    have h := Kd.C_string (P := Try.prog) (c := c) Try.underlying22 Try.underlying5 Try.underlying9 (Kd.C_below (C_first H.out (N + 6) g3) hW)
    rw [HL6.out] at h
    exact h)
  have HPL := Aside0.mk hpl
  have v2 : (N : Int) + 6 ≤ (c : Int) := by omega
  have hsb := str_beq (frameOf_ok okp) (okB_take okl (N + 6))
  obtain ⟨u1, u2, u3, u4, v1, v3⟩ := small_sums N g2
  obtain ⟨s1, hs1⟩ : ∃ s, strOfNums (frameOf p) = s := ⟨_, rfl⟩
  obtain ⟨s2, hs2⟩ : ∃ s, strOfNums (l.take (N + 6)) = s := ⟨_, rfl⟩
  rw [hs2] at HS
  have HS1 := Aside0.mk hs1
  rw [hs1, hs2] at hsb
  clear hs1 hs2 hw okp okl hpl
  by_cases hG : GoodP (l.take (N + 6))
  · have hbeq : (s1.toList == s2.toList) = true := by rw [hsb]; exact decide_eq_true (HAN.out.2 hG)
    have hbne : (s1.toList != s2.toList) = false := by simp only [bne, hbeq]; rfl
    rw [if_pos hG] at E
    clear hsb hG HAN
    go_enter Try.func70, Try.ntmps70
    go_wp2
    go_quiet (fail)
    clear hx0 hx1 hsum
    go_wp2
    have HB := Aside0.mk (below_drew (pw_below_drewN (Below.refl w.heap.size w) nq))
    refine start_ (n := 12) (S := fun w' => (convert 22 9 (.slice (some ad) (N + 6) c)).run Try.prog w' = .ok (.string s2) w') (ds := []) #[false, false, false, false, false, false, false, false, false, false, false, false] (by kernel_rfl) rfl rfl ((HS.out _ HB.out)) (fun hHeld => ?_)
    refine pure_ (i := 0) (N := some 32) (v := ?_) (a' := ?_) #[true, false, false, false, false, false, false, false, false, false, false, false] rfl rfl (by kernel_rfl) (fun _ _ _ h => h) (Or.inl ⟨by rfl, ?_⟩) ?_ ?_
    rotate_left
    · intro w'
      go_simp
      with_reducible rfl
    rotate_left
    · simp only [Act.put, List.setIfInBounds_toArray, List.set_cons_zero, List.set_cons_succ, i64_w, i32_w]
      rfl
    refine pure_ (i := 1) (N := some 33) (v := ?_) (a' := ?_) #[true, true, false, false, false, false, false, false, false, false, false, false] rfl rfl (by kernel_rfl) (fun _ _ _ h => h) (Or.inl ⟨by rfl, ?_⟩) ?_ ?_
    rotate_left
    · intro w'
      go_simp
      with_reducible rfl
    rotate_left
    · simp only [Act.put, List.setIfInBounds_toArray, List.set_cons_zero, List.set_cons_succ, i64_w, i32_w]
      rfl
    refine pure_ (i := 2) (N := some 34) (v := ?_) (a' := ?_) #[true, true, true, false, false, false, false, false, false, false, false, false] rfl rfl (by kernel_rfl) (fun _ _ _ h => h) (Or.inl ⟨by rfl, ?_⟩) ?_ ?_
    rotate_left
    · intro w'
      go_simp
      with_reducible rfl
    rotate_left
    · simp only [Act.put, List.setIfInBounds_toArray, List.set_cons_zero, List.set_cons_succ, i64_w, i32_w]
      rfl
    refine pure_ (i := 3) (N := some 35) (v := ?_) (a' := ?_) #[true, true, true, true, false, false, false, false, false, false, false, false] rfl rfl (by kernel_rfl) (fun _ _ _ h => h) (Or.inl ⟨by rfl, ?_⟩) ?_ ?_
    rotate_left
    · intro w'
      go_simp
      with_reducible rfl
    rotate_left
    · simp only [Act.put, List.setIfInBounds_toArray, List.set_cons_zero, List.set_cons_succ, i64_w, i32_w]
      rfl
    refine pure_ (i := 6) (N := some 38) (v := ?_) (a' := ?_) #[true, true, true, true, false, false, true, false, false, false, false, false] rfl rfl (by kernel_rfl) (fun _ _ _ h => h) (Or.inl ⟨by rfl, ?_⟩) ?_ ?_
    rotate_left
    · intro w'
      go_simp
      with_reducible rfl
    rotate_left
    · simp only [Act.put, List.setIfInBounds_toArray, List.set_cons_zero, List.set_cons_succ, i64_w, i32_w]
      rfl
    refine pure_ (i := 7) (N := some 39) (v := ?_) (a' := ?_) #[true, true, true, true, false, false, true, true, false, false, false, false] rfl rfl (by kernel_rfl) (fun _ _ _ h => h) (Or.inl ⟨by rfl, ?_⟩) ?_ ?_
    rotate_left
    · intro w'
      go_simp
      with_reducible rfl
    rotate_left
    · simp only [Act.put, List.setIfInBounds_toArray, List.set_cons_zero, List.set_cons_succ, i64_w, i32_w]
      rfl
    refine pure_ (i := 8) (N := some 40) (v := ?_) (a' := ?_) #[true, true, true, true, false, false, true, true, true, false, false, false] rfl rfl (by kernel_rfl) (fun _ _ _ h => h) (Or.inl ⟨by rfl, ?_⟩) ?_ ?_
    rotate_left
    · intro w'
      go_simp
      with_reducible rfl
    rotate_left
    · simp only [Act.put, List.setIfInBounds_toArray, List.set_cons_zero, List.set_cons_succ, i64_w, i32_w]
      rfl
    refine pure_ (i := 9) (N := some 41) (v := ?_) (a' := ?_) #[true, true, true, true, false, false, true, true, true, true, false, false] rfl rfl (by kernel_rfl) (fun _ _ _ h => h) (Or.inl ⟨by rfl, ?_⟩) ?_ ?_
    rotate_left
    · intro w'
      go_simp
      with_reducible rfl
    rotate_left
    · simp only [Act.put, List.setIfInBounds_toArray, List.set_cons_zero, List.set_cons_succ, i64_w, i32_w]
      rfl
    refine take_ (i := 10) (N := some 42) (v := ?_) (a' := ?_) #[true, true, true, true, false, false, true, true, true, true, true, false] rfl rfl (by kernel_rfl) (fun _ _ _ h => h) (Or.inl ⟨by rfl, ?_⟩) hHeld ?_ ?_
    rotate_left
    · intro w' s0
      go_simp
      with_reducible rfl
    rotate_left
    · simp only [Act.put, List.setIfInBounds_toArray, List.set_cons_zero, List.set_cons_succ, i64_w, i32_w]
      rfl
    refine one_ (i := 4) (N := some 36) #[true, true, true, true, true, false, true, true, true, true, true, false] rfl rfl (by kernel_rfl) (by decide) (fun K hK => ?_)
    refine goes_ Try.func98 (by kernel_rfl) rfl #[.slice A1 N (c - 2)] (by rfl) rfl rfl (by simp only [List.map_toArray, List.map_cons, List.map_nil]; rfl) ?_
    with_reducible refine (of_p A1 (c - 2) p N HPL.out hpc (HP.out _ (Kd.C_below H.out HB.out)) OF.out).mono ?_
    rintro e w2 ⟨A2, c2, rfl, hC2, hb⟩
    refine ⟨_, rfl, ?_⟩
    have hcv2 := Kd.C_string (P := Try.prog) (c := c2) Try.underlying22 Try.underlying5 Try.underlying9 hC2
    rw [HS1.out] at hcv2
    have HB2 := Aside0.mk (below_step HB.out hb)
    clear hb hC2
    refine hK.out _ _ ((HS.out _ HB2.out)) (fun hHeld => ?_)
    clear hK K
    refine norm_ (a' := ?_) ?_ ?_
    rotate_left
    · show Act.put _ (some 36) _ = _
      simp only [Act.put, List.setIfInBounds_toArray, List.set_cons_zero, List.set_cons_succ, i64_w, i32_w]
      rfl
    refine one_ (i := 5) (N := some 37) #[true, true, true, true, true, true, true, true, true, true, true, false] rfl rfl (by kernel_rfl) (by decide) (fun K hK => ?_)
    refine value_ (w1 := ?_) (v := ?_) (by rfl) rfl ?_ ?_
    rotate_left 2
    · go_simp
      constructor
      · rfl
      · rfl
    refine hK.out _ _ ((HS.out _ HB2.out)) (fun hHeld => ?_)
    clear hK K
    refine norm_ (a' := ?_) ?_ ?_
    rotate_left
    · show Act.put _ (some 37) _ = _
      simp only [Act.put, List.setIfInBounds_toArray, List.set_cons_zero, List.set_cons_succ, i64_w, i32_w]
      rfl
    refine pure_ (i := 11) (N := some 43) (v := ?_) (a' := ?_) #[true, true, true, true, true, true, true, true, true, true, true, true] rfl rfl (by kernel_rfl) (fun _ _ _ h => h) (Or.inl ⟨by rfl, ?_⟩) ?_ ?_
    rotate_left
    · intro w'
      go_simp
      with_reducible rfl
    rotate_left
    · simp only [Act.put, List.setIfInBounds_toArray, List.set_cons_zero, List.set_cons_succ, i64_w, i32_w]
      rfl
    refine done_ (by kernel_rfl) ?_
    go_wp2
    go_ret3
    refine ⟨A1, c - 2, p, ((N + 6 : Nat) : Int), 0, ?_, E.out.symm, by rw [HPL.out]; exact hpc, HP.out, HB2.out⟩
    rw [HPL.out]
    rfl
  · have hbeq : (s1.toList == s2.toList) = false := by rw [hsb]; exact decide_eq_false (fun h => hG (HAN.out.1 h))
    have hbne : (s1.toList != s2.toList) = true := by simp only [bne, hbeq]; rfl
    rw [if_neg hG] at E
    clear hsb hG HAN
    go_enter Try.func70, Try.ntmps70
    go_wp2
    go_quiet (fail)
    clear hx0 hx1 hsum
    go_wp2
    have HB := Aside0.mk (below_drew (pw_below_drewN (Below.refl w.heap.size w) nq))
    refine start_ (n := 12) (S := fun w' => (convert 22 9 (.slice (some ad) (N + 6) c)).run Try.prog w' = .ok (.string s2) w') (ds := []) #[false, false, false, false, false, false, false, false, false, false, false, false] (by kernel_rfl) rfl rfl ((HS.out _ HB.out)) (fun hHeld => ?_)
    refine pure_ (i := 0) (N := some 32) (v := ?_) (a' := ?_) #[true, false, false, false, false, false, false, false, false, false, false, false] rfl rfl (by kernel_rfl) (fun _ _ _ h => h) (Or.inl ⟨by rfl, ?_⟩) ?_ ?_
    rotate_left
    · intro w'
      go_simp
      with_reducible rfl
    rotate_left
    · simp only [Act.put, List.setIfInBounds_toArray, List.set_cons_zero, List.set_cons_succ, i64_w, i32_w]
      rfl
    refine pure_ (i := 1) (N := some 33) (v := ?_) (a' := ?_) #[true, true, false, false, false, false, false, false, false, false, false, false] rfl rfl (by kernel_rfl) (fun _ _ _ h => h) (Or.inl ⟨by rfl, ?_⟩) ?_ ?_
    rotate_left
    · intro w'
      go_simp
      with_reducible rfl
    rotate_left
    · simp only [Act.put, List.setIfInBounds_toArray, List.set_cons_zero, List.set_cons_succ, i64_w, i32_w]
      rfl
    refine pure_ (i := 2) (N := some 34) (v := ?_) (a' := ?_) #[true, true, true, false, false, false, false, false, false, false, false, false] rfl rfl (by kernel_rfl) (fun _ _ _ h => h) (Or.inl ⟨by rfl, ?_⟩) ?_ ?_
    rotate_left
    · intro w'
      go_simp
      with_reducible rfl
    rotate_left
    · simp only [Act.put, List.setIfInBounds_toArray, List.set_cons_zero, List.set_cons_succ, i64_w, i32_w]
      rfl
    refine pure_ (i := 3) (N := some 35) (v := ?_) (a' := ?_) #[true, true, true, true, false, false, false, false, false, false, false, false] rfl rfl (by kernel_rfl) (fun _ _ _ h => h) (Or.inl ⟨by rfl, ?_⟩) ?_ ?_
    rotate_left
    · intro w'
      go_simp
      with_reducible rfl
    rotate_left
    · simp only [Act.put, List.setIfInBounds_toArray, List.set_cons_zero, List.set_cons_succ, i64_w, i32_w]
      rfl
    refine pure_ (i := 6) (N := some 38) (v := ?_) (a' := ?_) #[true, true, true, true, false, false, true, false, false, false, false, false] rfl rfl (by kernel_rfl) (fun _ _ _ h => h) (Or.inl ⟨by rfl, ?_⟩) ?_ ?_
    rotate_left
    · intro w'
      go_simp
      with_reducible rfl
    rotate_left
    · simp only [Act.put, List.setIfInBounds_toArray, List.set_cons_zero, List.set_cons_succ, i64_w, i32_w]
      rfl
    refine pure_ (i := 7) (N := some 39) (v := ?_) (a' := ?_) #[true, true, true, true, false, false, true, true, false, false, false, false] rfl rfl (by kernel_rfl) (fun _ _ _ h => h) (Or.inl ⟨by rfl, ?_⟩) ?_ ?_
    rotate_left
    · intro w'
      go_simp
      with_reducible rfl
    rotate_left
    · simp only [Act.put, List.setIfInBounds_toArray, List.set_cons_zero, List.set_cons_succ, i64_w, i32_w]
      rfl
    refine pure_ (i := 8) (N := some 40) (v := ?_) (a' := ?_) #[true, true, true, true, false, false, true, true, true, false, false, false] rfl rfl (by kernel_rfl) (fun _ _ _ h => h) (Or.inl ⟨by rfl, ?_⟩) ?_ ?_
    rotate_left
    · intro w'
      go_simp
      with_reducible rfl
    rotate_left
    · simp only [Act.put, List.setIfInBounds_toArray, List.set_cons_zero, List.set_cons_succ, i64_w, i32_w]
      rfl
    refine pure_ (i := 9) (N := some 41) (v := ?_) (a' := ?_) #[true, true, true, true, false, false, true, true, true, true, false, false] rfl rfl (by kernel_rfl) (fun _ _ _ h => h) (Or.inl ⟨by rfl, ?_⟩) ?_ ?_
    rotate_left
    · intro w'
      go_simp
      with_reducible rfl
    rotate_left
    · simp only [Act.put, List.setIfInBounds_toArray, List.set_cons_zero, List.set_cons_succ, i64_w, i32_w]
      rfl
    refine take_ (i := 10) (N := some 42) (v := ?_) (a' := ?_) #[true, true, true, true, false, false, true, true, true, true, true, false] rfl rfl (by kernel_rfl) (fun _ _ _ h => h) (Or.inl ⟨by rfl, ?_⟩) hHeld ?_ ?_
    rotate_left
    · intro w' s0
      go_simp
      with_reducible rfl
    rotate_left
    · simp only [Act.put, List.setIfInBounds_toArray, List.set_cons_zero, List.set_cons_succ, i64_w, i32_w]
      rfl
    refine one_ (i := 4) (N := some 36) #[true, true, true, true, true, false, true, true, true, true, true, false] rfl rfl (by kernel_rfl) (by decide) (fun K hK => ?_)
    refine goes_ Try.func98 (by kernel_rfl) rfl #[.slice A1 N (c - 2)] (by rfl) rfl rfl (by simp only [List.map_toArray, List.map_cons, List.map_nil]; rfl) ?_
    with_reducible refine (of_p A1 (c - 2) p N HPL.out hpc (HP.out _ (Kd.C_below H.out HB.out)) OF.out).mono ?_
    rintro e w2 ⟨A2, c2, rfl, hC2, hb⟩
    refine ⟨_, rfl, ?_⟩
    have hcv2 := Kd.C_string (P := Try.prog) (c := c2) Try.underlying22 Try.underlying5 Try.underlying9 hC2
    rw [HS1.out] at hcv2
    have HB2 := Aside0.mk (below_step HB.out hb)
    clear hb hC2
    refine hK.out _ _ ((HS.out _ HB2.out)) (fun hHeld => ?_)
    clear hK K
    refine norm_ (a' := ?_) ?_ ?_
    rotate_left
    · show Act.put _ (some 36) _ = _
      simp only [Act.put, List.setIfInBounds_toArray, List.set_cons_zero, List.set_cons_succ, i64_w, i32_w]
      rfl
    refine one_ (i := 5) (N := some 37) #[true, true, true, true, true, true, true, true, true, true, true, false] rfl rfl (by kernel_rfl) (by decide) (fun K hK => ?_)
    refine value_ (w1 := ?_) (v := ?_) (by rfl) rfl ?_ ?_
    rotate_left 2
    · go_simp
      constructor
      · rfl
      · rfl
    refine hK.out _ _ ((HS.out _ HB2.out)) (fun hHeld => ?_)
    clear hK K
    refine norm_ (a' := ?_) ?_ ?_
    rotate_left
    · show Act.put _ (some 37) _ = _
      simp only [Act.put, List.setIfInBounds_toArray, List.set_cons_zero, List.set_cons_succ, i64_w, i32_w]
      rfl
    refine pure_ (i := 11) (N := some 43) (v := ?_) (a' := ?_) #[true, true, true, true, true, true, true, true, true, true, true, true] rfl rfl (by kernel_rfl) (fun _ _ _ h => h) (Or.inl ⟨by rfl, ?_⟩) ?_ ?_
    rotate_left
    · intro w'
      go_simp
      with_reducible rfl
    rotate_left
    · simp only [Act.put, List.setIfInBounds_toArray, List.set_cons_zero, List.set_cons_succ, i64_w, i32_w]
      rfl
    refine done_ (by kernel_rfl) ?_
    go_wp2
    go_ret3
    exact ⟨none, 0, [], 0, 3, rfl, E.out.symm, Nat.le_refl _, fun W _ => Kd.C_nil _ _, HB2.out⟩
theorem refGet_any (A : Option Addr) (c : Nat) (l : List Int) (w : World) (h : Kd.C (Kd.int .u8) w A l.length l) (hc : l.length ≤ c) (ok : okB l = true) (hl : l.length ≤ 2000) :
    Calls Try.prog 70 #[.slice A l.length c] w fun e w' => ∃ (A' : Option Addr) (c' : Nat) (r : List Int) (n x : Int), e = .returned (.tuple #[.slice A' r.length c', .int .i64 n, .int .i64 x]) ∧ (r, n, x) = getF l ∧ r.length ≤ c' ∧ (∀ W, Kd.C (Kd.int .u8) W A l.length l → Kd.C (Kd.int .u8) W A' r.length r) ∧ Below w.heap.size w w' := by
  by_cases h2 : l.length < 2
  · exact refGet_short A c l w h2
  · obtain ⟨ad, x0, x1, ht⟩ := two_of h ok (by omega)
    by_cases hg : 1 ≤ lenOf l ∧ lenOf l ≤ 1000 ∧ lenOf l + 6 ≤ l.length
    · obtain ⟨A1, p, hp, hpl, hcut, hpC, hpc⟩ := mid_cut A c l (lenOf l) (by omega) hc
      have hanew := frame_anew ok hg.2.1 hg.2.2
      rw [← hp] at hanew
      refine refGet_good A c l w ad x0 x1 (lenOf l) ht h hc (by omega) hl hg.1 hg.2.1 hg.2.2 A1 p hpl hcut ⟨hpC⟩ hpc ⟨?_⟩ ⟨hanew⟩ (by rw [hp]; exact okB_drop (okB_take ok _) _) ok
      rw [hp]
      unfold getF
      rw [if_neg h2, if_pos hg]
    · exact refGet_bad A c l w ad x0 x1 (lenOf l) ht (by omega) hl ⟨by unfold getF; rw [if_neg h2, if_neg hg]⟩ hg
end Go.Proofs.Ytbcienbnhchdeaa.Hand

/- All frames of any bytes: the second reading, by hand; the law's contract. -/
namespace Go.Proofs.Ytbcienbnhchdeaa.Hand
open Go Go.RowKit Go.Proofs.YtbcienbnhchdeaaW.PrintLast Go.Proofs.YtbcienbnhchdeaaW.PrintWords Go.Proofs.YtbcienbnhchdeaaW.PrintMore Print FrameC FrameL FrameS FrameR
set_option linter.unusedVariables false
set_option linter.unusedSimpArgs false
attribute [local go_sem] max2_int min2_int max_two min_two

theorem getF_ok {b p : List Int} {m : Int} (h : getF b = (p, m, 0)) : ∃ q : Nat, m = (q : Int) ∧ 7 ≤ q ∧ q ≤ b.length := by
  unfold getF at h
  by_cases h1 : b.length < 2
  · rw [if_pos h1] at h
    simp at h
  · rw [if_neg h1] at h
    by_cases h2 : 1 ≤ lenOf b ∧ lenOf b ≤ 1000 ∧ lenOf b + 6 ≤ b.length
    · rw [if_pos h2] at h
      by_cases h3 : GoodP (b.take (lenOf b + 6))
      · rw [if_pos h3] at h
        injection h with _ h4
        injection h4 with h5 _
        exact ⟨lenOf b + 6, h5.symm, by omega, h2.2.2⟩
      · rw [if_neg h3] at h
        simp at h
    · rw [if_neg h2] at h
      simp at h
/-- The rows in the second reading's loop. -/
structure ScanRel (w wr : World) (v : Value) (acc : List (List Int)) : Prop where
  row : Kd.N (Kd.slice 5 (Kd.int .u8)) 22 wr w.heap.size (fun _ => True) v acc
  below : Below w.heap.size w wr
/-- What is left to scan. -/
def Left (b : List Int) (acc : List (List Int)) (n : Nat) (r1 : List (List Int)) (r2 r3 : Int) : Prop := acc.length ≤ n ∧ ∃ k, frame_Scan.l0 k b acc (n : Int) = some (r1, r2, r3)
theorem Left.end_ {b : List Int} {acc : List (List Int)} {r1 : List (List Int)} {r2 r3 : Int} (h : Left b acc b.length r1 r2 r3) : r1 = acc ∧ r2 = (b.length : Int) ∧ r3 = 0 := by
  obtain ⟨_, k, h⟩ := h
  cases k with
  | zero => simp [frame_Scan.l0] at h
  | succ k =>
    rw [scan_end] at h
    simp only [Option.some.injEq, Prod.mk.injEq] at h
    exact ⟨h.1.symm, h.2.1.symm, h.2.2.symm⟩
theorem Left.step {b p : List Int} {acc : List (List Int)} {n q : Nat} {r1 : List (List Int)} {r2 r3 : Int} (h : Left b acc n r1 r2 r3) (ok : okB b = true) (hl : b.length ≤ 2000) (hn : n < b.length) (hg : getF (b.drop n) = (p, (q : Int), 0)) (hq : 1 ≤ q ∧ n + q ≤ b.length) : Left b (acc ++ [p]) (n + q) r1 r2 r3 := by
  obtain ⟨ha, k, h⟩ := h
  refine ⟨by rw [List.length_append, List.length_singleton]; omega, ?_⟩
  cases k with
  | zero => simp [frame_Scan.l0] at h
  | succ k =>
    have hw : wrap64 ((n : Int) + (q : Int)) = ((n + q : Nat) : Int) := by unfold wrap64; omega
    have c1 : ¬ (n : Int) = (b.length : Int) := by omega
    have c2 : (0 : Int) ≤ (n : Int) ∧ (n : Int) ≤ (b.length : Int) := ⟨by omega, by omega⟩
    have c3 : acc.length < 5864062014805 := by omega
    rw [frame_Scan.l0, if_neg c1, if_pos c2, Int.toNat_natCast, get_eq (okB_drop ok n) (by rw [List.length_drop]; omega) 0, hg, bind_s, if_pos rfl, if_pos c3, hw] at h
    exact ⟨k, h⟩
theorem Left.stop {b p : List Int} {acc : List (List Int)} {n : Nat} {m x : Int} {r1 : List (List Int)} {r2 r3 : Int} (h : Left b acc n r1 r2 r3) (ok : okB b = true) (hl : b.length ≤ 2000) (hn : n < b.length) (hg : getF (b.drop n) = (p, m, x)) (hx : x ≠ 0) : r1 = acc ∧ r2 = (n : Int) ∧ r3 = x := by
  obtain ⟨_, k, h⟩ := h
  cases k with
  | zero => simp [frame_Scan.l0] at h
  | succ k =>
    rw [scan_stop ok (by omega) hn hg hx] at h
    simp only [Option.some.injEq, Prod.mk.injEq] at h
    exact ⟨h.1.symm, h.2.1.symm, h.2.2.symm⟩
/-- 'b[n:]'. -/
theorem tail_cut (A : Option Addr) (c : Nat) (l : List Int) (n : Nat) (hn : n ≤ l.length) (hc : l.length ≤ c) : ∃ A1 : Option Addr, (∀ W : World, (Instr.slice 22 (.slice A l.length c) (some (.int .i64 (n : Int))) none none).run Try.prog W = .ok (.slice A1 (l.drop n).length (c - n)) W) ∧
    (∀ W, Kd.C (Kd.int .u8) W A l.length l → Kd.C (Kd.int .u8) W A1 (l.drop n).length (l.drop n)) ∧ (l.drop n).length ≤ c - n := by
  obtain ⟨i0, hi0, _, hsz, _⟩ := info_parts info5
  obtain ⟨A1, h1, h2, h3⟩ := print_drop_of (P := Try.prog) (Value.int .u8) (0 : Int) 22 5 .i64 Try.underlying22 hi0 hsz A c l (n : Int) (by omega) (by omega) hc
  rw [Int.toNat_natCast] at h1 h2 h3
  exact ⟨A1, h1, fun W h => Kd.C_of_reads (enc := Value.int .u8) (d := (0 : Int)) (h1 := fun _ => rfl) (h2 W (Kd.reads_of_C (enc := Value.int .u8) (d := (0 : Int)) (h1 := fun _ => rfl) h)), h3⟩
set_option maxRecDepth 100000 in
set_option maxHeartbeats 4000000 in
theorem refScan_any (A : Option Addr) (c : Nat) (b : List Int) (r1 : List (List Int)) (r2 r3 : Int) (w : World) (h : Kd.C (Kd.int .u8) w A b.length b) (hc : b.length ≤ c) (ok : okB b = true) (hl : b.length ≤ 2000) (hf : frame_Scan.f b = some (r1, r2, r3)) :
    Calls Try.prog 71 #[.slice A b.length c] w fun e w' => ∃ (A' : Option Addr) (c' : Nat), e = .returned (.tuple #[.slice A' r1.length c', .int .i64 r2, .int .i64 r3]) ∧ r1.length ≤ c' ∧ Kd.C (Kd.slice 5 (Kd.int .u8)) w' A' r1.length r1 ∧ Below w.heap.size w w' := by
  have H := Aside0.mk h
  have OK := Aside0.mk ok
  have HL0 := Lib.hid (show ScanRel w w (.slice none 0 0) [] ∧ Left b [] 0 r1 r2 r3 from ⟨⟨Kd.N_nil _ _ _ _ _, Below.refl _ _⟩, by simp, _, hf⟩)
  clear h ok hf
  go_enter Try.func71, Try.ntmps71
  go_wp2
  go_loopw [5, 6] (fun v i wr => ∃ n : Nat, n ≤ b.length ∧ i = .int .i64 (n : Int) ∧ Hid (∃ acc, ScanRel w wr v acc ∧ Left b acc n r1 r2 r3)) (fun _ i _ => b.length - (intOf i).toNat)
  case atStart => exact ⟨0, by omega, rfl, Lib.hid ⟨[], HL0.out⟩⟩
  case round =>
    obtain ⟨n, hn, rfl, HC⟩ := hrel
    clear HL0
    obtain ⟨acc, hrow, hleft⟩ := HC.out
    obtain ⟨A5, c5, rfl⟩ := Kd.N_slice hrow.row
    have HROW := Lib.hid hrow
    have HLEFT := Lib.hid hleft
    clear hrow hleft HC
    by_cases hlt : n < b.length
    · obtain ⟨A1, hcut, hAC, hcc⟩ := tail_cut A c b n (by omega) hc
      have HAC := Aside0.mk hAC
      have HDL := Aside0.mk (show (b.drop n).length ≤ 2000 by rw [List.length_drop]; omega)
      have HD1 := Aside0.mk hcc
      obtain ⟨p, m, x, hg⟩ : ∃ p m x, getF (b.drop n) = (p, m, x) := ⟨_, _, _, rfl⟩
      have HG := Aside0.mk hg
      clear hAC hcc
      generalize hdn : (b.drop n).length = dn at hcut
      have GET : Aside0 (∀ W, Below w.heap.size w W → Calls Try.prog 70 #[.slice A1 dn (c - n)] W fun e w' => ∃ (A' : Option Addr) (c' : Nat), e = .returned (.tuple #[.slice A' p.length c', .int .i64 m, .int .i64 x]) ∧ p.length ≤ c' ∧ Kd.C (Kd.int .u8) w A' p.length p ∧ Below W.heap.size W w') := Aside0.mk (fun W hW => by
        rw [← hdn]
        refine (refGet_any A1 (c - n) (b.drop n) W (HAC.out _ (Kd.C_below H.out hW)) HD1.out (okB_drop OK.out n) HDL.out).mono ?_
        rintro e w' ⟨A', c', r', m', x', he, hr, h3, h4, h5⟩
        rw [HG.out] at hr
        injection hr with e1 e2
        injection e2 with e2 e3
        subst e1 e2 e3
        exact ⟨A', c', he, h3, h4 w (HAC.out _ H.out), h5⟩)
      clear hdn HAC HDL HD1
      by_cases hx : x = 0
      · subst hx
        obtain ⟨q, rfl, hq7, hqb⟩ := getF_ok hg
        have hqn : n + q ≤ b.length := by rw [List.length_drop] at hqb; omega
        clear hqb hg
        go_wp2_with (first
          | (go_at_call 70; refine (GET.out _ HROW.out.below).mono ?_; rintro e w1 ⟨A6, c6, rfl, hc6, hC6, hb⟩; have HC6 := Aside0.mk hC6; have HB1 := Aside0.mk hb; clear hC6 hb GET)
          | (at_builtin
             refine Kd.N_append (Kd.slice 5 (Kd.int .u8)) (w0 := w) w.heap.size rfl (.tmp 27) (.tmp 29) 65 22 (.slice none 0 0) 24 rfl Try.underlying65 info22 rfl (by decide) (by omega) (.slice A5 acc.length c5) acc p [.slice A6 p.length c6] (fun _ => True) (fun k => k < w.heap.size) rfl rfl ?aP ?aK (fun _ _ => trivial) ?aO ?aB ?aS ?aL ?_
             case aP => exact Kd.FK_slice_mk hc6 (Kd.F_below (Kd.C_F (Kd.heap_int .u8) HC6.out) (below_step HROW.out.below HB1.out))
             case aK => intro k hk; refine ⟨trivial, fun he => ?_⟩; have := Kd.N_base HROW.out.row k he.symm; omega
             case aO => exact Kd.N_below HROW.out.row HB1.out
             case aB => exact below_step HROW.out.below HB1.out
             case aS => have h1 := HROW.out.below.size; have h2 := HB1.out.size; omega
             case aL => have h1 := HLEFT.out.1; omega
             intro v1 w2 hr hb2 hg hat
             have HROW2 := Lib.hid (show ScanRel w w2 v1 (acc ++ [p]) from ⟨hr, hb2⟩)
             clear hr hb2 hg hat HROW HB1 HC6))
        go_roundw
        case rel => exact ⟨n + q, hqn, by go_num, Lib.hid ⟨_, HROW2.out, HLEFT.out.step OK.out hl hlt HG.out ⟨by omega, hqn⟩⟩⟩
        case measure => simp [intOf]; omega
      · have hxi : ((x : Int) == 0) = false := beq_eq_false_iff_ne.mpr hx
        go_wp2_with (first
          | (go_at_call 70; refine (GET.out _ HROW.out.below).mono ?_; rintro e w1 ⟨A6, c6, rfl, hc6, hC6, hb⟩; have HB1 := Aside0.mk hb; clear hC6 hb GET))
        go_ret3
        obtain ⟨rfl, rfl, rfl⟩ := HLEFT.out.stop OK.out hl hlt HG.out hx
        exact ⟨A5, c5, rfl, (Kd.N_reads' HROW.out.row).2.1, Kd.C_below (Kd.N_reads' HROW.out.row).2.2 HB1.out, below_step HROW.out.below HB1.out⟩
    · have HN := Aside0.mk (show n = b.length by omega)
      go_wp2
      go_ret3
      have e := HN.out
      subst e
      obtain ⟨rfl, rfl, rfl⟩ := HLEFT.out.end_
      exact ⟨A5, c5, rfl, (Kd.N_reads' HROW.out.row).2.1, (Kd.N_reads' HROW.out.row).2.2, HROW.out.below⟩
end Go.Proofs.Ytbcienbnhchdeaa.Hand

-- Printed by a program of this session (wip/patch_print.py over the kit's print); Lean checks it.
namespace Go.Proofs.Ytbcienbnhchdeaa.PrD
open Go.RowKit Go.Proofs.YtbcienbnhchdeaaW.PrintWords Go.Proofs.YtbcienbnhchdeaaW.PrintLast Go.Proofs.YtbcienbnhchdeaaW.PrintMore
attribute [local go_sem] max2_int min2_int max_two min_two max_three min_three max_four min_four   -- for this text's walks alone
set_option linter.unusedVariables false
set_option linter.unusedSimpArgs false



def errW : Option Int → Value
  | none => .nilIface
  | some c => .iface 0 (.int .i64 c)
theorem errW_none : errW none = .nilIface := rfl
theorem errW_some (c : Int) : errW (some c) = .iface 0 (.int .i64 c) := rfl

theorem info5 : (Try.prog.info? 5).map (fun i => (i.zero, i.size, i.bytes)) = some (some (.int .u8 0), 1, 1) := by kernel_rfl
theorem info52 : (Try.prog.info? 52).map (fun i => (i.zero, i.size, i.bytes)) = some (some (.agg #[(.int .i64 0), (.int .i64 0), (.slice none 0 0)]), 3, 40) := by kernel_rfl
-- the values' own types
def rd_L1 (xs : List (List Int)) (i : Int) : (List Int) := xs.getD i.toNat ([] : List Int)
theorem at_L1 {w : World} {A : Option Addr} {n : Nat} {xs : List (List Int)} (h : Kd.C (Kd.slice 5 (Kd.int .u8)) w A n xs) (i : Int) (h0 : 0 ≤ i) (h1 : i < n) : ∃ ad A0 c0, A = some ad ∧ w.cell? (ad.add i.toNat) = some (.slice A0 (rd_L1 xs i).length c0) ∧ (rd_L1 xs i).length ≤ c0 ∧ (Kd.int .u8).C w A0 (rd_L1 xs i).length (rd_L1 xs i) := by
  obtain ⟨ad, c, e, _, hK, hc0⟩ := Kd.C_get h ([] : List Int) i h0 h1
  have hc : ∀ j u, c[j]? = some u → w.cell? (ad.add (i.toNat * 1 + j)) = some u := hc0
  obtain ⟨A0, c0, rfl, l0, g0⟩ := hK
  exact ⟨ad, A0, c0, e, by have hq := hc 0 _ rfl; rwa [Nat.mul_one, Nat.add_zero] at hq, l0, g0⟩

/-! #### struct type 52 -/
structure S52 where
  f0 : Int
  f1 : Int
  f2 : (List Int)
def z52 : S52 := ⟨(0 : Int), (0 : Int), ([] : List Int)⟩
def k52 : Kd S52 := Kd.iso (Kd.pair (Kd.int .i64) (Kd.pair (Kd.int .i64) (Kd.slice 5 (Kd.int .u8)))) (fun x : S52 => (x.f0, x.f1, x.f2))
theorem k52_open {w : World} {x : S52} {cs : List Value} (h : k52.K w x cs) : ∃ A2 c2, cs = [.int .i64 x.f0, .int .i64 x.f1, .slice A2 x.f2.length c2] ∧ x.f2.length ≤ c2 ∧ (Kd.int .u8).C w A2 x.f2.length x.f2 := by
  obtain ⟨_, _, rfl, rfl, ⟨_, _, rfl, rfl, ⟨A2, c2, rfl, l2, g2⟩⟩⟩ := h
  exact ⟨A2, c2, rfl, l2, g2⟩
theorem k52_openM {w : World} {base : Nat} {ok : Nat → Prop} {x : S52} {cs : List Value} (h : k52.M w base ok x cs) : ∃ v2, cs = [.int .i64 x.f0, .int .i64 x.f1, v2] ∧ (Kd.int .u8).R 5 w base ok v2 x.f2 := by
  obtain ⟨_, _, rfl, rfl, ⟨_, _, rfl, rfl, ⟨v2, rfl, g2⟩⟩⟩ := h
  exact ⟨v2, rfl, g2⟩
theorem k52_mk (w : World) (x : S52) {A2 : Option Addr} {c2 : Nat} (l2 : x.f2.length ≤ c2) (g2 : (Kd.int .u8).C w A2 x.f2.length x.f2) : k52.K w x [.int .i64 x.f0, .int .i64 x.f1, .slice A2 x.f2.length c2] := ⟨[.int .i64 x.f0], [.int .i64 x.f1, .slice A2 x.f2.length c2], rfl, rfl, ⟨[.int .i64 x.f1], [.slice A2 x.f2.length c2], rfl, rfl, ⟨A2, c2, rfl, l2, g2⟩⟩⟩
theorem k52_mkM (w : World) (base : Nat) (ok : Nat → Prop) (x : S52) {v2 : Value} (g2 : (Kd.int .u8).R 5 w base ok v2 x.f2) : k52.M w base ok x [.int .i64 x.f0, .int .i64 x.f1, v2] := ⟨[.int .i64 x.f0], [.int .i64 x.f1, v2], rfl, rfl, ⟨[.int .i64 x.f1], [v2], rfl, rfl, ⟨v2, rfl, g2⟩⟩⟩
theorem k52_openF {W : World} {ok : Nat → Prop} {x : S52} {cs : List Value} (h : Kd.FK k52 W ok x cs) : ∃ A2 c2, cs = [.int .i64 x.f0, .int .i64 x.f1, .slice A2 x.f2.length c2] ∧ x.f2.length ≤ c2 ∧ Kd.F (Kd.int .u8) W ok A2 x.f2.length x.f2 := by
  obtain ⟨A2, c2, rfl, l2, _⟩ := k52_open (Kd.FK_now h)
  exact ⟨A2, c2, rfl, l2, (fun W' hW => by obtain ⟨A2_, c2_, he, l2_, g2_⟩ := k52_open (h W' hW); injection (Option.some.inj (show some (Value.slice A2 x.f2.length c2) = some (Value.slice A2_ x.f2.length c2_) from congrArg (fun l => l[2]?) he)) with ha_ _ _; rw [ha_]; exact g2_)⟩
theorem k52_mkF (W : World) (ok : Nat → Prop) (x : S52) {A2 : Option Addr} {c2 : Nat} (l2 : x.f2.length ≤ c2) (g2 : Kd.F (Kd.int .u8) W ok A2 x.f2.length x.f2) : Kd.FK k52 W ok x [.int .i64 x.f0, .int .i64 x.f1, .slice A2 x.f2.length c2] := fun W2 hW => k52_mk W2 x l2 (g2 W2 hW)
def rd_T52 (xs : List S52) (i : Int) : S52 := xs.getD i.toNat z52
theorem at_T52 {w : World} {A : Option Addr} {n : Nat} {xs : List S52} (h : Kd.C k52 w A n xs) (i : Int) (h0 : 0 ≤ i) (h1 : i < n) : ∃ ad A2 c2, A = some ad ∧ w.cell? (ad.add (i.toNat * 3)) = some (.int .i64 (rd_T52 xs i).f0) ∧ w.cell? ⟨(ad.add (i.toNat * 3)).block, (ad.add (i.toNat * 3)).off + 1, none⟩ = some (.int .i64 (rd_T52 xs i).f1) ∧ w.cell? ⟨(ad.add (i.toNat * 3)).block, (ad.add (i.toNat * 3)).off + 2, none⟩ = some (.slice A2 (rd_T52 xs i).f2.length c2) ∧ (rd_T52 xs i).f2.length ≤ c2 ∧ (Kd.int .u8).C w A2 (rd_T52 xs i).f2.length (rd_T52 xs i).f2 := by
  obtain ⟨ad, c, e, _, hK, hc0⟩ := Kd.C_get h z52 i h0 h1
  have hc : ∀ j u, c[j]? = some u → w.cell? (ad.add (i.toNat * 3 + j)) = some u := hc0
  obtain ⟨A2, c2, rfl, l2, g2⟩ := k52_open hK
  exact ⟨ad, A2, c2, e, hc 0 _ rfl, by rw [← add_field _ _ 1 (by omega)]; exact hc 1 _ rfl, by rw [← add_field _ _ 2 (by omega)]; exact hc 2 _ rfl, l2, g2⟩

end Go.Proofs.Ytbcienbnhchdeaa.PrD

-- Printed by a program of this session (wip/patch_print.py over the kit's print); Lean checks it.
namespace Go.Proofs.Ytbcienbnhchdeaa.PrD
open Go.RowKit Go.Proofs.YtbcienbnhchdeaaW.PrintWords Go.Proofs.YtbcienbnhchdeaaW.PrintLast Go.Proofs.YtbcienbnhchdeaaW.PrintMore
attribute [local go_sem] max2_int min2_int max_two min_two max_three min_three max_four min_four   -- for this text's walks alone
set_option linter.unusedVariables false
set_option linter.unusedSimpArgs false

/-! ### pacesetterlaw05_early: function 51 -/
def pacesetterlaw05_early.l0 : Nat → List (S52) → List (S52) → Int → Option ((List (S52)))
  | 0, _, _, _ => none
  | k + 1, x0, x3, x4 => if x4 < (x0.length : Int) then (if x4 < 80 then (if 0 ≤ x4 then (if 0 ≤ (mn (((rd_T52 x0 x4).f2).length : Int) 40) then (if (mn (((rd_T52 x0 x4).f2).length : Int) 40) ≤ (((rd_T52 x0 x4).f2).length : Int) then (if x3.length < 3518437208883 then (pacesetterlaw05_early.l0 k x0 (x3 ++ [(⟨(rd_T52 x0 x4).f0, (rd_T52 x0 x4).f1, (((rd_T52 x0 x4).f2).take ((mn (((rd_T52 x0 x4).f2).length : Int) 40) : Int).toNat)⟩ : S52)]) (wrap64 (x4 + 1))) else (none)) else (none)) else (none)) else (none)) else (some x3)) else (some x3)
def pacesetterlaw05_early.f (k : Nat) (l0 : List (S52)) : Option ((List (S52))) := pacesetterlaw05_early.l0 k l0 ([] : List (S52)) 0
theorem pacesetterlaw05_early.mono_l : ∀ k, (∀ y0 y1 y2, LeO (pacesetterlaw05_early.l0 k y0 y1 y2) (pacesetterlaw05_early.l0 (k + 1) y0 y1 y2))
  | 0 => fun _ _ _ r h => by simp [pacesetterlaw05_early.l0] at h
  | k + 1 => by
    have ih0 := pacesetterlaw05_early.mono_l k
    · intro y0 y1 y2
      unfold pacesetterlaw05_early.l0
      repeat' first
      | (with_reducible exact ih0 _ _ _)
      | (with_reducible exact LeO.refl _)
      | (with_reducible exact LeO.none _)
      | (with_reducible refine LeO.ite ?_ ?_)
      | (with_reducible refine LeO.bind ?_ (fun _ => ?_))
      | exact ih0 _ _ _
      | exact LeO.none _
      | refine LeO.ite ?_ ?_
      | refine LeO.bind ?_ (fun _ => ?_)
theorem pacesetterlaw05_early.mono : ∀ a0 k, LeO (pacesetterlaw05_early.f k a0) (pacesetterlaw05_early.f (k + 1) a0) := by
  intro a0 k
  have ih0 := pacesetterlaw05_early.mono_l k
  unfold pacesetterlaw05_early.f
  repeat' first
      | (with_reducible exact ih0 _ _ _)
      | (with_reducible exact LeO.refl _)
      | (with_reducible exact LeO.none _)
      | (with_reducible refine LeO.ite ?_ ?_)
      | (with_reducible refine LeO.bind ?_ (fun _ => ?_))
      | exact ih0 _ _ _
      | exact LeO.none _
      | refine LeO.ite ?_ ?_
      | refine LeO.bind ?_ (fun _ => ?_)
set_option maxHeartbeats 8000000 in
set_option maxRecDepth 100000 in
theorem pacesetterlaw05_early.calls (k : Nat) (P0_ : Nat → Prop) (A0 : Option Addr) (c0 : Nat) (l0 : List (S52)) (r : List (S52)) (w : World) (hs0 : Kd.V k52 52 w w.heap.size (fun k_ => P0_ k_) (.slice A0 l0.length c0) l0) (h : pacesetterlaw05_early.f k l0 = some r) :
    Calls Try.prog 51 #[.slice A0 l0.length c0] w fun e w' => ∃ v0_ : Value, e = .returned (v0_) ∧ Kd.N k52 52 w' w.heap.size (fun k_ => (P0_ k_ ∨ w.heap.size ≤ k_)) v0_ r ∧ Below w.heap.size w w' := by
  have hu52 := Try.underlying52
  have HO0 := Aside0.mk (show Kd.V k52 52 w w.heap.size (fun k_ => (P0_ k_ ∨ w.heap.size ≤ k_)) (.slice A0 l0.length c0) l0 from Kd.V_mono hs0 (fun k_ hk => .inl hk))
  have HB := Aside0.mk (Below.refl w.heap.size w)
  have H : (pacesetterlaw05_early.l0 k l0 ([] : List (S52)) 0) = some r := h
  clear h
  have H' := Aside0.mk H
  clear H
  go_enter Try.func51, Try.ntmps51
  go_wp2
  go_loopg [3, 4] k (fun kq v3 v4 w' => ∃ (x3_1 : List (S52)) (x4_1 : Int), v4 = .int .i64 x4_1 ∧ Aside0 (pacesetterlaw05_early.l0 kq l0 x3_1 x4_1 = some r) ∧ Aside0 (kq ≤ k) ∧ Aside0 (Kd.V k52 52 w' w.heap.size (fun k_ => (P0_ k_ ∨ w.heap.size ≤ k_) ∧ some k_ ≠ (v3 : Value).ownBlock) (.slice A0 l0.length c0) l0) ∧ Aside0 (Kd.N k52 52 w' w.heap.size (fun k_ => (P0_ k_ ∨ w.heap.size ≤ k_)) v3 x3_1) ∧ Aside0 (Below w.heap.size w w'))
  case atStart => exact ⟨(([] : List (S52))), (0), (by first | rfl | (simp; done) | (simp [*]; done)), H', ⟨Nat.le_refl _⟩, ⟨by (with_reducible repeat (first | apply Kd.V_alloc | apply Kd.V_drewN | apply Kd.V_drew)); exact Kd.V_mono HO0.out (fun _ hk => ⟨hk, (by simp [Value.ownBlock])⟩)⟩, ⟨by first | exact Kd.S_nil _ _ _ _ _ | exact Kd.N_nil _ _ _ _ _ | exact Kd.V_nil _ _ _ _ _ | exact Kd.Q_nil _ _ _ _ _ | exact Kd.R_nil _ _ _ _ _⟩, ⟨by repeat (first | (with_reducible first | exact HB.out | apply below_alloc | apply pw_below_drewN | apply below_drew1) | exact HB.out)⟩⟩
  case round =>
    clear H'
    obtain ⟨x3_1, x4_1, rfl, HA, HK1, HO_0, HO_3, HB⟩ := hrel
    cases gk with
    | zero => exact absurd HA.out (by simp [pacesetterlaw05_early.l0])
    | succ k1 =>
      have H := HA.out
      clear HA
      simp only [pacesetterlaw05_early.l0] at H
      by_cases c2 : x4_1 < (l0.length : Int)
      · rw [if_pos c2] at H
        have c2b0 : decide (x4_1 < (l0.length : Int)) = true := decide_eq_true c2
        clear c2
        by_cases c3 : x4_1 < 80
        · rw [if_pos c3] at H
          have c3b0 : decide (x4_1 < 80) = true := decide_eq_true c3
          clear c3
          by_cases c4 : 0 ≤ x4_1
          · rw [if_pos c4] at H
            have c4b0 : decide (0 ≤ x4_1) = true := decide_eq_true c4
            clear c4
            obtain ⟨ji5, hji5⟩ : ∃ j_ : Int, (mn (((rd_T52 l0 x4_1).f2).length : Int) 40) = j_ := ⟨_, rfl⟩
            replace H : (if 0 ≤ (ji5) then (if (ji5) ≤ (((rd_T52 l0 x4_1).f2).length : Int) then (if x3_1.length < 3518437208883 then (pacesetterlaw05_early.l0 k1 l0 (x3_1 ++ [(⟨(rd_T52 l0 x4_1).f0, (rd_T52 l0 x4_1).f1, (((rd_T52 l0 x4_1).f2).take ((ji5) : Int).toNat)⟩ : S52)]) (wrap64 (x4_1 + 1))) else (none)) else (none)) else (none)) = some r := by first | (rw [hji5] at H; exact H) | (simp only [hji5] at H ⊢; exact H)
            have hji5_ : (if 40 < (((rd_T52 l0 x4_1).f2).length : Int) then 40 else (((rd_T52 l0 x4_1).f2).length : Int)) = ji5 := hji5
            by_cases c6 : 0 ≤ (ji5)
            · rw [if_pos c6] at H
              have c6b0 := eq_true c6
              have c6b1 : decide (0 ≤ (ji5)) = true := decide_eq_true c6
              clear c6
              by_cases c7 : (ji5) ≤ (((rd_T52 l0 x4_1).f2).length : Int)
              · rw [if_pos c7] at H
                have c7b0 := eq_true c7
                have c7b1 : decide ((ji5) ≤ (((rd_T52 l0 x4_1).f2).length : Int)) = true := decide_eq_true c7
                clear c7
                obtain ⟨y111, hy111⟩ : ∃ y_ : List Int, y_ = (((rd_T52 l0 x4_1).f2).take ((ji5) : Int).toNat) := ⟨_, rfl⟩
                replace H : (if x3_1.length < 3518437208883 then (pacesetterlaw05_early.l0 k1 l0 (x3_1 ++ [(⟨(rd_T52 l0 x4_1).f0, (rd_T52 l0 x4_1).f1, y111⟩ : S52)]) (wrap64 (x4_1 + 1))) else (none)) = some r := by first | (rw [hy111]; with_reducible exact H) | (have H2_ := (Option.bind_some _ _).symm.trans H; rw [hy111]; with_reducible exact H2_) | (have H2_ := (Option.bind_some _ _).symm.trans H; with_reducible exact H2_) | with_reducible exact H | (rw [hy111]; exact H) | exact H
                have Ny111 := Aside0.mk hy111
                clear hy111
                by_cases c8 : x3_1.length < 3518437208883
                · rw [if_pos c8] at H
                  have LMc8 := Aside0.mk c8
                  clear c8
                  obtain ⟨y116, hy116⟩ : ∃ y_ : List (S52), y_ = (x3_1 ++ [(⟨(rd_T52 l0 x4_1).f0, (rd_T52 l0 x4_1).f1, y111⟩ : S52)]) := ⟨_, rfl⟩
                  replace H : (pacesetterlaw05_early.l0 k1 l0 y116 (wrap64 (x4_1 + 1))) = some r := by first | (rw [hy116]; with_reducible exact H) | (have H2_ := (Option.bind_some _ _).symm.trans H; rw [hy116]; with_reducible exact H2_) | (have H2_ := (Option.bind_some _ _).symm.trans H; with_reducible exact H2_) | with_reducible exact H | (rw [hy116]; exact H) | exact H
                  have Ny116 := Aside0.mk hy116
                  clear hy116
                  have H' := Aside0.mk H
                  clear H
                  have p109 : 0 ≤ (x4_1 : Int) := of_decide_eq_true (by first | (with_reducible assumption) | assumption)
                  have q109 : x4_1 < (l0.length : Int) := of_decide_eq_true (by first | (with_reducible assumption) | assumption)
                  obtain ⟨ad109, A109_2, c109_2, e109, hx109_0, hx109_1, hx109_2, hl109_2, hi109_2⟩ := at_T52 (Kd.V_reads' HO_0.out).2.2 x4_1 p109 q109
                  cases e109
                  obtain ⟨ce109, hce109, hMe109, hcc109⟩ := Kd.V_get HO_0.out z52 x4_1 p109 (by first | exact q109 | exact of_decide_eq_true (by first | (with_reducible assumption) | assumption) | (have e_ := (Kd.V_reads' HO_0.out).1; omega))
                  obtain ⟨ua109_2, uc109_2, rfl, ul109_2, ge109_2⟩ := k52_openF hMe109
                  have hv109_2 := hcc109 2 _ rfl
                  rw [add_field _ _ 2 (by omega)] at hv109_2
                  replace hv109_2 := Option.some.inj (hv109_2.symm.trans hx109_2)
                  injection hv109_2 with hva_ hvn_ hvc_
                  rw [hva_] at ge109_2
                  rw [hvc_] at ul109_2
                  have HL109_2 := Aside0.mk (show Kd.V (Kd.int .u8) 5 _ w.heap.size _ _ ((rd_T52 l0 x4_1).f2) from Kd.V_mk ul109_2 ge109_2)
                  clear hva_ hvn_ hvc_ ge109_2 ul109_2
                  clear hcc109 hce109
                  have HR109_2 := Aside0.mk hi109_2
                  have HC109_2 := Aside0.mk hl109_2
                  clear hi109_2 hl109_2
                  replace p109 := eq_true p109
                  replace q109 := eq_true q109
                  go_wp2_with (first | ((with_reducible refine gate_dst (N := 5) rfl ?_); refine box_event ?hg (N := 5) ?hd (cs := #[.int .i64 0, .int .i64 0, .slice none 0 0]) (t := 52) ?hr ?_; (case hd => rfl); (case hg => rfl); (case hr => first | (go_simp; done) | (go_simp; rfl)); intro gb110 hg w9 hbox hb; have n0_ := Aside0.mk (Kd.V_below (Kd.V_elderB (by (with_reducible repeat (first | apply Kd.V_alloc | apply Kd.V_drewN | apply Kd.V_drew)); exact HO_0.out) gb110 (Nat.le_of_eq hg.symm)) hb); have n1_ := Aside0.mk (Kd.N_below (Kd.N_elderB (by (with_reducible repeat (first | apply Kd.N_alloc | apply Kd.N_drewN | apply Kd.N_drew)); exact HO_3.out) gb110 (Nat.le_of_eq hg.symm)) hb); have n2_ := Aside0.mk (Kd.V_below (Kd.V_elderB (by (with_reducible repeat (first | apply Kd.V_alloc | apply Kd.V_drewN | apply Kd.V_drew)); exact HL109_2.out) gb110 (Nat.le_of_eq hg.symm)) hb); have n3_ := Aside0.mk (Kd.C_below (by repeat (first | (with_reducible exact HR109_2.out) | (with_reducible refine Kd.C_alloc ?_ _) | (with_reducible refine Kd.C_drewN ?_ _) | (with_reducible refine Kd.C_drew ?_) | exact HR109_2.out)) hb); have n4_ := Aside0.mk (below_step (by repeat (first | (with_reducible first | exact HB.out | apply below_alloc | apply pw_below_drewN | apply below_drew1) | exact HB.out)) hb); have n5_ := Aside0.mk (hbox); have n6_ := Aside0.mk ((by rw [hg]; exact (below_size (by repeat (first | (with_reducible first | exact HB.out | apply below_alloc | apply pw_below_drewN | apply below_drew1) | exact HB.out))) : w.heap.size ≤ gb110)); have n7_ := Aside0.mk ((by rw [hg]; exact (below_size (by repeat (first | (with_reducible first | exact HB.out | apply below_alloc | apply pw_below_drewN | apply below_drew1) | exact HB.out))) : w.heap.size ≤ gb110)); clear HO_0; clear HO_3; clear HL109_2; clear HR109_2; clear HB; have HO_0 := n0_; have HO_3 := n1_; have HL109_2 := n2_; have HR109_2 := n3_; have HB := n4_; have BK110 := n5_; have GW110 := n6_; have GE110 := n7_; clear n0_ n1_ n2_ n3_ n4_ n5_ n6_ n7_; clear hb hbox hg; have hcz10_0 : w9.cell? ⟨gb110, 0, none⟩ = some (.int .i64 0) := (blk_cell BK110.out 0).trans rfl; have hcz10_1 : w9.cell? ⟨gb110, 1, none⟩ = some (.int .i64 0) := (blk_cell BK110.out 1).trans rfl; have hcz10_2 : w9.cell? ⟨gb110, 2, none⟩ = some (.slice none 0 0) := (blk_cell BK110.out 2).trans rfl; have hfz10_0 := blk_frozen BK110.out 0; have hfz10_1 := blk_frozen BK110.out 1; have hfz10_2 := blk_frozen BK110.out 2) | ((with_reducible refine gate_store (t := 52) (p := 5) rfl ?_); refine store_event (t := 52) (p := 5) (v := ?vo_w11) (w1 := (((w9.setCell ⟨gb110, 0, none⟩ (.int .i64 ((rd_T52 l0 x4_1).f0))).setCell ⟨gb110, 1, none⟩ (.int .i64 ((rd_T52 l0 x4_1).f1))).setCell ⟨gb110, 2, none⟩ (.slice A109_2 ((rd_T52 l0 x4_1).f2).length c109_2))) ?hg ?ho ?hn ?hr ?_; (case ho => rfl); (case hg => rfl); (case hn => rfl); (case hr => first | (go_simp; done) | (go_simp; rfl)); intro w11 hw; have n0_ : Aside0 (Kd.V k52 52 w11 w.heap.size (fun k_ => (P0_ k_ ∨ w.heap.size ≤ k_) ∧ some k_ ≠ (u3 : Value).ownBlock ∧ k_ ≠ gb110) (.slice (some ad109) l0.length c0) l0) := ⟨(by rw [hw]; exact (by (with_reducible repeat (first | apply Kd.V_alloc | apply Kd.V_drewN | apply Kd.V_drew)); exact Kd.V_mono (Kd.V_far (p := ⟨gb110, 2, none⟩) (Kd.V_far (p := ⟨gb110, 1, none⟩) (Kd.V_far (p := ⟨gb110, 0, none⟩) (Kd.V_mono HO_0.out (fun k_ hk => (⟨hk, hk.2⟩ : _ ∧ k_ ≠ gb110))) (fun _ hk => hk.2) (.int .i64 ((rd_T52 l0 x4_1).f0))) (fun _ hk => hk.2) (.int .i64 ((rd_T52 l0 x4_1).f1))) (fun _ hk => hk.2) (.slice A109_2 ((rd_T52 l0 x4_1).f2).length c109_2)) (fun _ hk => ⟨hk.1.1.1, ⟨hk.1.1.2, hk.1.2⟩⟩)))⟩; have n1_ : Aside0 (Kd.N k52 52 w11 w.heap.size (fun k_ => (P0_ k_ ∨ w.heap.size ≤ k_) ∧ k_ ≠ gb110) u3 x3_1) := ⟨(by rw [hw]; exact (by (with_reducible repeat (first | apply Kd.N_alloc | apply Kd.N_drewN | apply Kd.N_drew)); exact Kd.N_mono (Kd.N_far (p := ⟨gb110, 2, none⟩) (Kd.N_far (p := ⟨gb110, 1, none⟩) (Kd.N_far (p := ⟨gb110, 0, none⟩) (Kd.N_mono HO_3.out (fun k_ hk => (⟨hk, hk.2⟩ : _ ∧ k_ ≠ gb110))) (fun _ hk => hk.2) (.int .i64 ((rd_T52 l0 x4_1).f0))) (fun _ hk => hk.2) (.int .i64 ((rd_T52 l0 x4_1).f1))) (fun _ hk => hk.2) (.slice A109_2 ((rd_T52 l0 x4_1).f2).length c109_2)) (fun _ hk => ⟨hk.1.1, hk.1.2⟩)))⟩; have n2_ : Aside0 (Kd.V (Kd.int .u8) 5 w11 w.heap.size (fun k_ => (P0_ k_ ∨ w.heap.size ≤ k_) ∧ some k_ ≠ (u3 : Value).ownBlock ∧ k_ ≠ gb110) (.slice A109_2 ((rd_T52 l0 x4_1).f2).length c109_2) ((rd_T52 l0 x4_1).f2)) := ⟨(by rw [hw]; exact (by (with_reducible repeat (first | apply Kd.V_alloc | apply Kd.V_drewN | apply Kd.V_drew)); exact Kd.V_mono (Kd.V_far (p := ⟨gb110, 2, none⟩) (Kd.V_far (p := ⟨gb110, 1, none⟩) (Kd.V_far (p := ⟨gb110, 0, none⟩) (Kd.V_mono HL109_2.out (fun k_ hk => (⟨hk, hk.2⟩ : _ ∧ k_ ≠ gb110))) (fun _ hk => hk.2) (.int .i64 ((rd_T52 l0 x4_1).f0))) (fun _ hk => hk.2) (.int .i64 ((rd_T52 l0 x4_1).f1))) (fun _ hk => hk.2) (.slice A109_2 ((rd_T52 l0 x4_1).f2).length c109_2)) (fun _ hk => ⟨hk.1.1.1, ⟨hk.1.1.2, hk.1.2⟩⟩)))⟩; have n3_ : Aside0 (w11.heap[gb110]? = some (.cells #[.int .i64 ((rd_T52 l0 x4_1).f0), .int .i64 ((rd_T52 l0 x4_1).f1), .slice A109_2 ((rd_T52 l0 x4_1).f2).length c109_2] 52 (0, 0))) := ⟨(by rw [hw]; exact (by (with_reducible repeat (first | refine blk_drewN ?_ _ | refine blk_drew ?_ | refine blk_alloc ?_ _)); refine blk_put (cs := #[.int .i64 ((rd_T52 l0 x4_1).f0), .int .i64 ((rd_T52 l0 x4_1).f1), .slice none 0 0]) ?_ 2 _ rfl; (with_reducible repeat (first | refine blk_drewN ?_ _ | refine blk_drew ?_ | refine blk_alloc ?_ _)); refine blk_put (cs := #[.int .i64 ((rd_T52 l0 x4_1).f0), .int .i64 0, .slice none 0 0]) ?_ 1 _ rfl; (with_reducible repeat (first | refine blk_drewN ?_ _ | refine blk_drew ?_ | refine blk_alloc ?_ _)); refine blk_put (cs := #[.int .i64 0, .int .i64 0, .slice none 0 0]) ?_ 0 _ rfl; (with_reducible repeat (first | refine blk_drewN ?_ _ | refine blk_drew ?_ | refine blk_alloc ?_ _)); exact BK110.out))⟩; have n4_ : Aside0 (Below w.heap.size w w11) := ⟨(by rw [hw]; exact (by repeat (first | (with_reducible first | exact HB.out | apply below_alloc | apply pw_below_drewN | apply below_drew1 | refine below_set ?_ GE110.out) | exact HB.out)))⟩; clear hw; clear HO_0; clear HO_3; clear HL109_2; clear BK110; clear HB; have HO_0 := n0_; have HO_3 := n1_; have HL109_2 := n2_; have BK110 := n3_; have HB := n4_; clear n0_ n1_ n2_ n3_ n4_; have hcz12_0 : w11.cell? ⟨gb110, 0, none⟩ = some (.int .i64 ((rd_T52 l0 x4_1).f0)) := (blk_cell BK110.out 0).trans rfl; have hcz12_1 : w11.cell? ⟨gb110, 1, none⟩ = some (.int .i64 ((rd_T52 l0 x4_1).f1)) := (blk_cell BK110.out 1).trans rfl; have hcz12_2 : w11.cell? ⟨gb110, 2, none⟩ = some (.slice A109_2 ((rd_T52 l0 x4_1).f2).length c109_2) := (blk_cell BK110.out 2).trans rfl; have hfz12_0 := blk_frozen BK110.out 0; have hfz12_1 := blk_frozen BK110.out 1; have hfz12_2 := blk_frozen BK110.out 2; have q13 : ((ji5) : Int) ≤ ((((rd_T52 l0 x4_1).f2).length : Int) : Int) := of_decide_eq_true (by first | (with_reducible assumption) | assumption); obtain ⟨i013, hi013, _, hsz13, _⟩ := info_parts info5; have hroom13 : ((rd_T52 l0 x4_1).f2).length ≤ c109_2 := HC109_2.out; have hC13 : Kd.F (Kd.int .u8) _ _ A109_2 ((rd_T52 l0 x4_1).f2).length ((rd_T52 l0 x4_1).f2) := (Kd.V_at (base := w.heap.size) HL109_2.out).2.2; have hcut13 := cut_to (P := Try.prog) 22 5 .i64 Try.underlying22 hi013 A109_2 ((rd_T52 l0 x4_1).f2).length c109_2 (ji5) (of_decide_eq_true (by first | (with_reducible assumption) | assumption)) q13 hroom13; have hr13 := Kd.F_take (m := ((ji5) : Int).toNat) hC13 (by omega); have hy13 : y111.length = ((ji5) : Int).toNat := (by rw [Ny111.out, List.length_take]; omega); rw [← Ny111.out] at hr13; rw [← hy13] at hcut13; have HO115 := Aside0.mk (show Kd.V (Kd.int .u8) 5 _ w.heap.size _ (.slice A109_2 y111.length c109_2) y111 from Kd.V_mk (by omega) hr13); have HC115 := Aside0.mk (show y111.length ≤ c109_2 from by omega); clear hr13 hC13 hroom13 hi013 hsz13; have KY13 := Aside0.mk hy13; clear hy13; replace q13 := eq_true q13) | ((with_reducible refine gate_store (t := 22) (p := 27) rfl ?_); refine store_event (t := 22) (p := 27) (v := ?vo_w14) (w1 := (w11.setCell ⟨gb110, 2, none⟩ (.slice A109_2 y111.length c109_2))) ?hg ?ho ?hn ?hr ?_; (case ho => rfl); (case hg => rfl); (case hn => rfl); (case hr => first | (go_simp; done) | (go_simp; rfl)); intro w14 hw; have n0_ : Aside0 (Kd.V k52 52 w14 w.heap.size (fun k_ => (P0_ k_ ∨ w.heap.size ≤ k_) ∧ some k_ ≠ (u3 : Value).ownBlock ∧ k_ ≠ gb110) (.slice (some ad109) l0.length c0) l0) := ⟨(by rw [hw]; exact (by (with_reducible repeat (first | apply Kd.V_alloc | apply Kd.V_drewN | apply Kd.V_drew)); exact Kd.V_mono (Kd.V_far (p := ⟨gb110, 2, none⟩) (Kd.V_mono HO_0.out (fun k_ hk => (⟨hk, hk.2.2⟩ : _ ∧ k_ ≠ gb110))) (fun _ hk => hk.2) (.slice A109_2 y111.length c109_2)) (fun _ hk => ⟨hk.1.1, ⟨hk.1.2.1, hk.1.2.2⟩⟩)))⟩; have n1_ : Aside0 (Kd.N k52 52 w14 w.heap.size (fun k_ => (P0_ k_ ∨ w.heap.size ≤ k_) ∧ k_ ≠ gb110) u3 x3_1) := ⟨(by rw [hw]; exact (by (with_reducible repeat (first | apply Kd.N_alloc | apply Kd.N_drewN | apply Kd.N_drew)); exact Kd.N_mono (Kd.N_far (p := ⟨gb110, 2, none⟩) (Kd.N_mono HO_3.out (fun k_ hk => (⟨hk, hk.2⟩ : _ ∧ k_ ≠ gb110))) (fun _ hk => hk.2) (.slice A109_2 y111.length c109_2)) (fun _ hk => ⟨hk.1.1, hk.1.2⟩)))⟩; have n2_ : Aside0 (Kd.V (Kd.int .u8) 5 w14 w.heap.size (fun k_ => (P0_ k_ ∨ w.heap.size ≤ k_) ∧ some k_ ≠ (u3 : Value).ownBlock ∧ k_ ≠ gb110) (.slice A109_2 ((rd_T52 l0 x4_1).f2).length c109_2) ((rd_T52 l0 x4_1).f2)) := ⟨(by rw [hw]; exact (by (with_reducible repeat (first | apply Kd.V_alloc | apply Kd.V_drewN | apply Kd.V_drew)); exact Kd.V_mono (Kd.V_far (p := ⟨gb110, 2, none⟩) (Kd.V_mono HL109_2.out (fun k_ hk => (⟨hk, hk.2.2⟩ : _ ∧ k_ ≠ gb110))) (fun _ hk => hk.2) (.slice A109_2 y111.length c109_2)) (fun _ hk => ⟨hk.1.1, ⟨hk.1.2.1, hk.1.2.2⟩⟩)))⟩; have n3_ : Aside0 (Kd.V (Kd.int .u8) 5 w14 w.heap.size (fun k_ => (P0_ k_ ∨ w.heap.size ≤ k_) ∧ some k_ ≠ (u3 : Value).ownBlock ∧ k_ ≠ gb110) (.slice A109_2 y111.length c109_2) y111) := ⟨(by rw [hw]; exact (by (with_reducible repeat (first | apply Kd.V_alloc | apply Kd.V_drewN | apply Kd.V_drew)); exact Kd.V_mono (Kd.V_far (p := ⟨gb110, 2, none⟩) (Kd.V_mono HO115.out (fun k_ hk => (⟨hk, hk.2.2⟩ : _ ∧ k_ ≠ gb110))) (fun _ hk => hk.2) (.slice A109_2 y111.length c109_2)) (fun _ hk => ⟨hk.1.1, ⟨hk.1.2.1, hk.1.2.2⟩⟩)))⟩; have n4_ : Aside0 (w14.heap[gb110]? = some (.cells #[.int .i64 ((rd_T52 l0 x4_1).f0), .int .i64 ((rd_T52 l0 x4_1).f1), .slice A109_2 y111.length c109_2] 52 (0, 0))) := ⟨(by rw [hw]; exact (by (with_reducible repeat (first | refine blk_drewN ?_ _ | refine blk_drew ?_ | refine blk_alloc ?_ _)); refine blk_put (cs := #[.int .i64 ((rd_T52 l0 x4_1).f0), .int .i64 ((rd_T52 l0 x4_1).f1), .slice A109_2 ((rd_T52 l0 x4_1).f2).length c109_2]) ?_ 2 _ rfl; (with_reducible repeat (first | refine blk_drewN ?_ _ | refine blk_drew ?_ | refine blk_alloc ?_ _)); exact BK110.out))⟩; have n5_ : Aside0 (Below w.heap.size w w14) := ⟨(by rw [hw]; exact (by repeat (first | (with_reducible first | exact HB.out | apply below_alloc | apply pw_below_drewN | apply below_drew1 | refine below_set ?_ GE110.out) | exact HB.out)))⟩; clear hw; clear HO_0; clear HO_3; clear HL109_2; clear HO115; clear BK110; clear HB; have HO_0 := n0_; have HO_3 := n1_; have HL109_2 := n2_; have HO115 := n3_; have BK110 := n4_; have HB := n5_; clear n0_ n1_ n2_ n3_ n4_ n5_; have hcz15_0 : w14.cell? ⟨gb110, 0, none⟩ = some (.int .i64 ((rd_T52 l0 x4_1).f0)) := (blk_cell BK110.out 0).trans rfl; have hcz15_1 : w14.cell? ⟨gb110, 1, none⟩ = some (.int .i64 ((rd_T52 l0 x4_1).f1)) := (blk_cell BK110.out 1).trans rfl; have hcz15_2 : w14.cell? ⟨gb110, 2, none⟩ = some (.slice A109_2 y111.length c109_2) := (blk_cell BK110.out 2).trans rfl; have hfz15_0 := blk_frozen BK110.out 0; have hfz15_1 := blk_frozen BK110.out 1; have hfz15_2 := blk_frozen BK110.out 2) | ((with_reducible refine gate_builtin (b := .append) (xs := #[.tmp 28, .tmp 30]) rfl ?_); at_builtin; refine Kd.N_append k52 (w0 := w) w.heap.size rfl (.tmp 28) (.tmp 30) 46 52 (.agg #[(.int .i64 0), (.int .i64 0), (.slice none 0 0)]) 40 rfl Try.underlying46 info52 rfl (by decide) (by omega) u3 x3_1 (⟨(rd_T52 l0 x4_1).f0, (rd_T52 l0 x4_1).f1, y111⟩ : S52) [.int .i64 ((rd_T52 l0 x4_1).f0), .int .i64 ((rd_T52 l0 x4_1).f1), .slice A109_2 y111.length c109_2] (fun k_ => (P0_ k_ ∨ w.heap.size ≤ k_) ∧ k_ ≠ gb110) (fun k_ => ((fun k_ => (P0_ k_ ∨ w.heap.size ≤ k_) ∧ k_ ≠ gb110)) k_ ∧ some k_ ≠ (u3 : Value).ownBlock) rfl rfl ?aP (fun _ hk => hk) ?aF ?aO ?aB ?aS ?aL ?_; (case aP => exact (k52_mkF _ _ (⟨(rd_T52 l0 x4_1).f0, (rd_T52 l0 x4_1).f1, y111⟩ : S52) (Kd.V_reads' (Kd.V_mono (ok' := (fun k_ => ((fun k_ => (P0_ k_ ∨ w.heap.size ≤ k_) ∧ k_ ≠ gb110)) k_ ∧ some k_ ≠ (u3 : Value).ownBlock)) (HO115.out) (fun k_ hk => ⟨⟨hk.1, hk.2.2⟩, hk.2.1⟩))).2.1 (Kd.V_F (Kd.V_mono (ok' := (fun k_ => ((fun k_ => (P0_ k_ ∨ w.heap.size ≤ k_) ∧ k_ ≠ gb110)) k_ ∧ some k_ ≠ (u3 : Value).ownBlock)) (HO115.out) (fun k_ hk => ⟨⟨hk.1, hk.2.2⟩, hk.2.1⟩))))); (case aB => exact (by repeat (first | (with_reducible first | exact HB.out | apply below_alloc | apply pw_below_drewN | apply below_drew1 | refine below_set ?_ GE110.out) | exact HB.out))); (case aF => exact (fun k_ hk => ⟨(.inr (Nat.le_trans (below_size (by repeat (first | (with_reducible first | exact HB.out | apply below_alloc | apply pw_below_drewN | apply below_drew1 | refine below_set ?_ GE110.out) | exact HB.out))) hk)), Kd.freshB (g := gb110) (o := .cells #[.int .i64 ((rd_T52 l0 x4_1).f0), .int .i64 ((rd_T52 l0 x4_1).f1), .slice A109_2 y111.length c109_2] 52 (0, 0)) (by (with_reducible repeat (first | refine blk_drewN ?_ _ | refine blk_drew ?_ | refine blk_alloc ?_ _)); exact BK110.out) k_ hk⟩)); (case aO => exact (by (with_reducible repeat (first | apply Kd.N_alloc | apply Kd.N_drewN | apply Kd.N_drew)); exact HO_3.out)); (case aS => exact (below_size (by repeat (first | (with_reducible first | exact HB.out | apply below_alloc | apply pw_below_drewN | apply below_drew1 | refine below_set ?_ GE110.out) | exact HB.out)))); (case aL => have := LMc8.out; omega); intro v117 w16 ho hb hg hat; rw [← Ny116.out] at ho; have n0_ := Aside0.mk (Kd.V_afterv (ok := (fun k_ => (P0_ k_ ∨ w.heap.size ≤ k_) ∧ k_ ≠ gb110)) (by (with_reducible repeat (first | apply Kd.V_alloc | apply Kd.V_drewN | apply Kd.V_drew)); exact Kd.V_mono HO_0.out (fun _ hk => ⟨⟨hk.1, hk.2.2⟩, hk.2.1⟩)) hg hat); have n1_ := Aside0.mk (Kd.V_afterv (ok := (fun k_ => (P0_ k_ ∨ w.heap.size ≤ k_) ∧ k_ ≠ gb110)) (by (with_reducible repeat (first | apply Kd.V_alloc | apply Kd.V_drewN | apply Kd.V_drew)); exact Kd.V_mono HL109_2.out (fun _ hk => ⟨⟨hk.1, hk.2.2⟩, hk.2.1⟩)) hg hat); have n2_ := Aside0.mk (blk_grown (g := gb110) (o := .cells #[.int .i64 ((rd_T52 l0 x4_1).f0), .int .i64 ((rd_T52 l0 x4_1).f1), .slice A109_2 y111.length c109_2] 52 (0, 0)) (by (with_reducible repeat (first | refine blk_drewN ?_ _ | refine blk_drew ?_ | refine blk_alloc ?_ _)); exact BK110.out) hg (Kd.N_away HO_3.out (fun _ hk => hk.2))); have n3_ := Aside0.mk (Kd.V_afterv (ok := (fun k_ => (P0_ k_ ∨ w.heap.size ≤ k_) ∧ k_ ≠ gb110)) (by (with_reducible repeat (first | apply Kd.V_alloc | apply Kd.V_drewN | apply Kd.V_drew)); exact Kd.V_mono HO115.out (fun _ hk => ⟨⟨hk.1, hk.2.2⟩, hk.2.1⟩)) hg hat); have n4_ := Aside0.mk (hb); have n5_ := Aside0.mk (ho); clear HO_0; clear HL109_2; clear BK110; clear HO115; clear HB; clear HO_3; have HO_0 := n0_; have HL109_2 := n1_; have BK110 := n2_; have HO115 := n3_; have HB := n4_; have HO118 := n5_; clear n0_ n1_ n2_ n3_ n4_ n5_; clear ho hb hg hat))
                  go_roundg k1
                  case measure => have := HK1.out; omega
                  case rel => exact ⟨(y116), (wrap64 (x4_1 + 1)), (by first | rfl | (simp; done) | (simp [*]; done)), H', ⟨by have := HK1.out; omega⟩, ⟨by (with_reducible repeat (first | apply Kd.V_alloc | apply Kd.V_drewN | apply Kd.V_drew)); exact Kd.V_mono HO_0.out (fun _ hk => ⟨hk.1.1, hk.2⟩)⟩, ⟨by (with_reducible repeat (first | apply Kd.N_alloc | apply Kd.N_drewN | apply Kd.N_drew)); exact Kd.N_mono HO118.out (fun _ hk => hk.1)⟩, ⟨by repeat (first | (with_reducible first | exact HB.out | apply below_alloc | apply pw_below_drewN | apply below_drew1 | refine below_set ?_ GE110.out) | exact HB.out)⟩⟩
                · rw [if_neg c8] at H
                  exact absurd H (by simp)
              · rw [if_neg c7] at H
                exact absurd H (by simp)
            · rw [if_neg c6] at H
              exact absurd H (by simp)
          · rw [if_neg c4] at H
            exact absurd H (by simp)
        · rw [if_neg c3] at H
          have c3b0 : decide (x4_1 < 80) = false := decide_eq_false c3
          clear c3
          obtain rfl := Option.some.inj H
          go_wp2
          go_ret
          exact ⟨_, by first | rfl | (simp [errW_none, errW_some] <;> rfl) | (simp [*, errW_none, errW_some] <;> rfl), by (with_reducible repeat (first | apply Kd.N_alloc | apply Kd.N_drewN | apply Kd.N_drew)); exact HO_3.out, by repeat (first | (with_reducible first | exact HB.out | apply below_alloc | apply pw_below_drewN | apply below_drew1) | exact HB.out)⟩
      · rw [if_neg c2] at H
        have c2b0 : decide (x4_1 < (l0.length : Int)) = false := decide_eq_false c2
        clear c2
        obtain rfl := Option.some.inj H
        go_wp2
        go_ret
        exact ⟨_, by first | rfl | (simp [errW_none, errW_some] <;> rfl) | (simp [*, errW_none, errW_some] <;> rfl), by (with_reducible repeat (first | apply Kd.N_alloc | apply Kd.N_drewN | apply Kd.N_drew)); exact HO_3.out, by repeat (first | (with_reducible first | exact HB.out | apply below_alloc | apply pw_below_drewN | apply below_drew1) | exact HB.out)⟩

end Go.Proofs.Ytbcienbnhchdeaa.PrD

-- Printed by a program of this session (wip/patch_print.py over the kit's print); Lean checks it.
namespace Go.Proofs.Ytbcienbnhchdeaa.PrD
open Go.RowKit Go.Proofs.YtbcienbnhchdeaaW.PrintWords Go.Proofs.YtbcienbnhchdeaaW.PrintLast Go.Proofs.YtbcienbnhchdeaaW.PrintMore
attribute [local go_sem] max2_int min2_int max_two min_two max_three min_three max_four min_four   -- for this text's walks alone
set_option linter.unusedVariables false
set_option linter.unusedSimpArgs false

/-! ### pacesetterlaw05_Step_kind: function 52 -/
def pacesetterlaw05_Step_kind.f (a0_0 : Int) (a0_1 : Int) (l0_2 : List Int) : Option (Int) := some (wrap64 (Int.tmod (IntKind.u64.wrap (a0_0)) 6))
set_option maxHeartbeats 8000000 in
set_option maxRecDepth 100000 in
theorem pacesetterlaw05_Step_kind.calls (a0_0 : Int) (a0_1 : Int) (A0_2 : Option Addr) (c0_2 : Nat) (l0_2 : List Int) (r : Int) (w : World) (hr0_2 : Kd.C (Kd.int .u8) w A0_2 l0_2.length l0_2) (hc0_2 : l0_2.length ≤ c0_2) (h : pacesetterlaw05_Step_kind.f a0_0 a0_1 l0_2 = some r) :
    Calls Try.prog 52 #[.agg #[.int .i64 a0_0, .int .i64 a0_1, .slice A0_2 l0_2.length c0_2]] w fun e w' => e = .returned (.int .i64 r) ∧ Below w.heap.size w w' := by
  have hu52 := Try.underlying52
  have HR0_2 := Aside0.mk hr0_2
  have HC0_2 := Aside0.mk hc0_2
  clear hr0_2 hc0_2
  have HB := Aside0.mk (Below.refl w.heap.size w)
  have H : (some (wrap64 (Int.tmod (IntKind.u64.wrap (a0_0)) 6))) = some r := h
  clear h
  obtain rfl := Option.some.inj H
  go_enter Try.func52, Try.ntmps52
  go_wp2_with (first | ((with_reducible refine gate_dst (N := 1) rfl ?_); refine box_event ?hg (N := 1) ?hd (cs := #[.int .i64 a0_0, .int .i64 a0_1, .slice A0_2 l0_2.length c0_2]) (t := 52) ?hr ?_; (case hd => rfl); (case hg => rfl); (case hr => first | (go_simp; done) | (go_simp; rfl)); intro gb119 hg w2 hbox hb; have n0_ := Aside0.mk (below_step (by repeat (first | (with_reducible first | exact HB.out | apply below_alloc | apply pw_below_drewN | apply below_drew1) | exact HB.out)) hb); have n1_ := Aside0.mk (hbox); have n2_ := Aside0.mk ((by rw [hg]; exact (below_size (by repeat (first | (with_reducible first | exact HB.out | apply below_alloc | apply pw_below_drewN | apply below_drew1) | exact HB.out))) : w.heap.size ≤ gb119)); have n3_ := Aside0.mk ((by rw [hg]; exact (below_size (by repeat (first | (with_reducible first | exact HB.out | apply below_alloc | apply pw_below_drewN | apply below_drew1) | exact HB.out))) : w.heap.size ≤ gb119)); clear HB; have HB := n0_; have BK119 := n1_; have GW119 := n2_; have GE119 := n3_; clear n0_ n1_ n2_ n3_; clear hb hbox hg; have hcz3_0 : w2.cell? ⟨gb119, 0, none⟩ = some (.int .i64 a0_0) := (blk_cell BK119.out 0).trans rfl; have hcz3_1 : w2.cell? ⟨gb119, 1, none⟩ = some (.int .i64 a0_1) := (blk_cell BK119.out 1).trans rfl; have hcz3_2 : w2.cell? ⟨gb119, 2, none⟩ = some (.slice A0_2 l0_2.length c0_2) := (blk_cell BK119.out 2).trans rfl; have hfz3_0 := blk_frozen BK119.out 0; have hfz3_1 := blk_frozen BK119.out 1; have hfz3_2 := blk_frozen BK119.out 2))
  go_ret
  exact ⟨by first | rfl | (simp [errW_none, errW_some] <;> rfl) | (simp [*, errW_none, errW_some] <;> rfl), by repeat (first | (with_reducible first | exact HB.out | apply below_alloc | apply pw_below_drewN | apply below_drew1 | refine below_set ?_ GE119.out) | exact HB.out)⟩

-- NOT PRINTED: function 57 (disk_Disk_Cut)

-- NOT PRINTED: function 13 (pacesetterlaw05_DiskRoom)

/-! ### pacesetterref05_New: function 50 -/
def pacesetterref05_New.f (a0 : Int) : Option (Int × ByteArray × ByteArray) := some (mn (mx a0 0) 1048576, (⟨#[]⟩ : ByteArray), (⟨#[]⟩ : ByteArray))
set_option maxHeartbeats 8000000 in
set_option maxRecDepth 100000 in
theorem pacesetterref05_New.calls (a0 : Int) (r1 : Int) (r2 : ByteArray) (r3 : ByteArray) (w : World) (h : pacesetterref05_New.f a0 = some (r1, r2, r3)) :
    Calls Try.prog 50 #[.int .i64 a0] w fun e w' => e = .returned (.agg #[.int .i64 r1, .string r2, .string r3]) ∧ Below w.heap.size w w' := by
  have hu48 := Try.underlying48
  have HB := Aside0.mk (Below.refl w.heap.size w)
  have H : (some (mn (mx a0 0) 1048576, (⟨#[]⟩ : ByteArray), (⟨#[]⟩ : ByteArray))) = some (r1, r2, r3) := h
  clear h
  obtain ⟨ji2, hji2⟩ : ∃ j_ : Int, (mx a0 0) = j_ := ⟨_, rfl⟩
  replace H : (some (mn (ji2) 1048576, (⟨#[]⟩ : ByteArray), (⟨#[]⟩ : ByteArray))) = some (r1, r2, r3) := by first | (rw [hji2] at H; exact H) | (simp only [hji2] at H ⊢; exact H)
  (try (have hji2l : 0 ≤ ji2 := by (rw [← hji2]; unfold mx; (repeat' split) <;> omega)))
  (try (have hji2m : 0 ≤ ji2 := by omega))
  have hji2_ : (if a0 < 0 then 0 else a0) = ji2 := hji2
  obtain ⟨ji3, hji3⟩ : ∃ j_ : Int, (mn (ji2) 1048576) = j_ := ⟨_, rfl⟩
  replace H : (some (ji3, (⟨#[]⟩ : ByteArray), (⟨#[]⟩ : ByteArray))) = some (r1, r2, r3) := by first | (rw [hji3] at H; exact H) | (simp only [hji3] at H ⊢; exact H)
  have hji3_ : (if 1048576 < (ji2) then 1048576 else (ji2)) = ji3 := hji3
  simp only [Option.some.injEq, Prod.mk.injEq] at H
  obtain ⟨rfl, rfl, rfl⟩ := H
  go_enter Try.func50, Try.ntmps50
  go_wp2_with (first | ((with_reducible refine gate_dst (N := 2) rfl ?_); refine box_event ?hg (N := 2) ?hd (cs := #[.int .i64 0, .string (⟨#[]⟩ : ByteArray), .string (⟨#[]⟩ : ByteArray)]) (t := 48) ?hr ?_; (case hd => rfl); (case hg => rfl); (case hr => first | (go_simp; done) | (go_simp; rfl)); intro gb120 hg w4 hbox hb; have n0_ := Aside0.mk (below_step (by repeat (first | (with_reducible first | exact HB.out | apply below_alloc | apply pw_below_drewN | apply below_drew1) | exact HB.out)) hb); have n1_ := Aside0.mk (hbox); have n2_ := Aside0.mk ((by rw [hg]; exact (below_size (by repeat (first | (with_reducible first | exact HB.out | apply below_alloc | apply pw_below_drewN | apply below_drew1) | exact HB.out))) : w.heap.size ≤ gb120)); have n3_ := Aside0.mk ((by rw [hg]; exact (below_size (by repeat (first | (with_reducible first | exact HB.out | apply below_alloc | apply pw_below_drewN | apply below_drew1) | exact HB.out))) : w.heap.size ≤ gb120)); clear HB; have HB := n0_; have BK120 := n1_; have GW120 := n2_; have GE120 := n3_; clear n0_ n1_ n2_ n3_; clear hb hbox hg; have hcz5_0 : w4.cell? ⟨gb120, 0, none⟩ = some (.int .i64 0) := (blk_cell BK120.out 0).trans rfl; have hcz5_1 : w4.cell? ⟨gb120, 1, none⟩ = some (.string (⟨#[]⟩ : ByteArray)) := (blk_cell BK120.out 1).trans rfl; have hcz5_2 : w4.cell? ⟨gb120, 2, none⟩ = some (.string (⟨#[]⟩ : ByteArray)) := (blk_cell BK120.out 2).trans rfl; have hfz5_0 := blk_frozen BK120.out 0; have hfz5_1 := blk_frozen BK120.out 1; have hfz5_2 := blk_frozen BK120.out 2))
  refine bodyPost_ret (results_cell_row rfl _ _ gb120 48 #[.int .i64 ji3, .string (⟨#[]⟩ : ByteArray), .string (⟨#[]⟩ : ByteArray)] (0, 0) _ rfl (by (with_reducible repeat (first | refine blk_drewN ?_ _ | refine blk_drew ?_ | refine blk_alloc ?_ _)); refine blk_put (cs := #[.int .i64 ji3, .string (⟨#[]⟩ : ByteArray), .string (⟨#[]⟩ : ByteArray)]) ?_ 2 _ rfl; (with_reducible repeat (first | refine blk_drewN ?_ _ | refine blk_drew ?_ | refine blk_alloc ?_ _)); refine blk_put (cs := #[.int .i64 ji3, .string (⟨#[]⟩ : ByteArray), .string (⟨#[]⟩ : ByteArray)]) ?_ 1 _ rfl; (with_reducible repeat (first | refine blk_drewN ?_ _ | refine blk_drew ?_ | refine blk_alloc ?_ _)); refine blk_put (cs := #[.int .i64 0, .string (⟨#[]⟩ : ByteArray), .string (⟨#[]⟩ : ByteArray)]) ?_ 0 _ rfl; (with_reducible repeat (first | refine blk_drewN ?_ _ | refine blk_drew ?_ | refine blk_alloc ?_ _)); exact BK120.out) Try.underlying48 rfl (by kernel_rfl)) rfl ?_
  exact ⟨by first | rfl | (simp [errW_none, errW_some] <;> rfl) | (simp only [← hji2, ← hji3]; first | rfl | (simp [errW_none, errW_some] <;> rfl)) | (simp [*, errW_none, errW_some] <;> rfl), by repeat (first | (with_reducible first | exact HB.out | apply below_alloc | apply pw_below_drewN | apply below_drew1 | refine below_set ?_ GE120.out) | exact HB.out)⟩

/-! ### pacesetterref05_Write: function 53 -/
def pacesetterref05_Write.f (a0_0 : Int) (a0_1 : ByteArray) (a0_2 : ByteArray) (a1 : ByteArray) : Option (Int × ByteArray × ByteArray × Int) := if (wrap64 ((wrap64 ((a0_1.size : Int) + (a0_2.size : Int))) + (a1.size : Int))) > a0_0 then (some (a0_0, a0_1, a0_2, 4)) else (if a0_2.size + a1.size ≤ 9223372036854775807 then (some (a0_0, a0_1, a0_2 ++ a1, 0)) else (none))
set_option maxHeartbeats 8000000 in
set_option maxRecDepth 100000 in
theorem pacesetterref05_Write.calls (a0_0 : Int) (a0_1 : ByteArray) (a0_2 : ByteArray) (a1 : ByteArray) (r1 : Int) (r2 : ByteArray) (r3 : ByteArray) (r4 : Int) (w : World) (h : pacesetterref05_Write.f a0_0 a0_1 a0_2 a1 = some (r1, r2, r3, r4)) :
    Calls Try.prog 53 #[.agg #[.int .i64 a0_0, .string a0_1, .string a0_2], .string a1] w fun e w' => e = .returned (.tuple #[.agg #[.int .i64 r1, .string r2, .string r3], .int .i64 r4]) ∧ Below w.heap.size w w' := by
  have hu48 := Try.underlying48
  have HB := Aside0.mk (Below.refl w.heap.size w)
  have H : (if (wrap64 ((wrap64 ((a0_1.size : Int) + (a0_2.size : Int))) + (a1.size : Int))) > a0_0 then (some (a0_0, a0_1, a0_2, 4)) else (if a0_2.size + a1.size ≤ 9223372036854775807 then (some (a0_0, a0_1, a0_2 ++ a1, 0)) else (none))) = some (r1, r2, r3, r4) := h
  clear h
  by_cases c3 : (wrap64 ((wrap64 ((a0_1.size : Int) + (a0_2.size : Int))) + (a1.size : Int))) > a0_0
  · rw [if_pos c3] at H
    have c3b0 : decide (a0_0 < (wrap64 ((wrap64 ((a0_1.size : Int) + (a0_2.size : Int))) + (a1.size : Int)))) = true := decide_eq_true c3
    clear c3
    simp only [Option.some.injEq, Prod.mk.injEq] at H
    obtain ⟨rfl, rfl, rfl, rfl⟩ := H
    go_enter Try.func53, Try.ntmps53
    go_wp2_with (first | ((with_reducible refine gate_dst (N := 2) rfl ?_); refine box_event ?hg (N := 2) ?hd (cs := #[.int .i64 a0_0, .string a0_1, .string a0_2]) (t := 48) ?hr ?_; (case hd => rfl); (case hg => rfl); (case hr => first | (go_simp; done) | (go_simp; rfl)); intro gb121 hg w4 hbox hb; have n0_ := Aside0.mk (below_step (by repeat (first | (with_reducible first | exact HB.out | apply below_alloc | apply pw_below_drewN | apply below_drew1) | exact HB.out)) hb); have n1_ := Aside0.mk (hbox); have n2_ := Aside0.mk ((by rw [hg]; exact (below_size (by repeat (first | (with_reducible first | exact HB.out | apply below_alloc | apply pw_below_drewN | apply below_drew1) | exact HB.out))) : w.heap.size ≤ gb121)); have n3_ := Aside0.mk ((by rw [hg]; exact (below_size (by repeat (first | (with_reducible first | exact HB.out | apply below_alloc | apply pw_below_drewN | apply below_drew1) | exact HB.out))) : w.heap.size ≤ gb121)); clear HB; have HB := n0_; have BK121 := n1_; have GW121 := n2_; have GE121 := n3_; clear n0_ n1_ n2_ n3_; clear hb hbox hg) | ((with_reducible refine gate_dst (N := 4) rfl ?_); refine box_event ?hg (N := 4) ?hd (cs := #[.int .i64 0, .string (⟨#[]⟩ : ByteArray), .string (⟨#[]⟩ : ByteArray)]) (t := 48) ?hr ?_; (case hd => rfl); (case hg => rfl); (case hr => first | (go_simp; done) | (go_simp; rfl)); intro gb122 hg w5 hbox hb; have n0_ := Aside0.mk (blk_below (g := gb121) (o := .cells #[.int .i64 a0_0, .string a0_1, .string a0_2] 48 (0, 0)) (by (with_reducible repeat (first | refine blk_drewN ?_ _ | refine blk_drew ?_ | refine blk_alloc ?_ _)); exact BK121.out) hb); have n1_ := Aside0.mk (below_step (by repeat (first | (with_reducible first | exact HB.out | apply below_alloc | apply pw_below_drewN | apply below_drew1 | refine below_set ?_ GE121.out) | exact HB.out)) hb); have n2_ := Aside0.mk (hbox); have n3_ := Aside0.mk ((by rw [hg]; exact (below_size (by repeat (first | (with_reducible first | exact HB.out | apply below_alloc | apply pw_below_drewN | apply below_drew1 | refine below_set ?_ GE121.out) | exact HB.out))) : w.heap.size ≤ gb122)); have n4_ := Aside0.mk ((by rw [hg]; exact (below_size (by repeat (first | (with_reducible first | exact HB.out | apply below_alloc | apply pw_below_drewN | apply below_drew1 | refine below_set ?_ GE121.out) | exact HB.out))) : w.heap.size ≤ gb122)); have n5_ := Aside0.mk ((by rw [hg]; exact Nat.ne_of_lt (blk_lt (g := gb121) (o := .cells #[.int .i64 a0_0, .string a0_1, .string a0_2] 48 (0, 0)) (by (with_reducible repeat (first | refine blk_drewN ?_ _ | refine blk_drew ?_ | refine blk_alloc ?_ _)); exact BK121.out)) : gb121 ≠ gb122)); have n6_ := Aside0.mk ((by rw [hg]; exact Nat.ne_of_gt (blk_lt (g := gb121) (o := .cells #[.int .i64 a0_0, .string a0_1, .string a0_2] 48 (0, 0)) (by (with_reducible repeat (first | refine blk_drewN ?_ _ | refine blk_drew ?_ | refine blk_alloc ?_ _)); exact BK121.out)) : gb122 ≠ gb121)); clear BK121; clear HB; have BK121 := n0_; have HB := n1_; have BK122 := n2_; have GW122 := n3_; have GE122 := n4_; have NB121_122 := n5_; have NB122_121 := n6_; clear n0_ n1_ n2_ n3_ n4_ n5_ n6_; clear hb hbox hg; have hnb6 := NB121_122.out; have hnc6 := NB122_121.out; have hcz7_0 : w5.cell? ⟨gb121, 0, none⟩ = some (.int .i64 a0_0) := (blk_cell BK121.out 0).trans rfl; have hcz7_1 : w5.cell? ⟨gb121, 1, none⟩ = some (.string a0_1) := (blk_cell BK121.out 1).trans rfl; have hcz7_2 : w5.cell? ⟨gb121, 2, none⟩ = some (.string a0_2) := (blk_cell BK121.out 2).trans rfl; have hfz7_0 := blk_frozen BK121.out 0; have hfz7_1 := blk_frozen BK121.out 1; have hfz7_2 := blk_frozen BK121.out 2; have hcz8_0 : w5.cell? ⟨gb122, 0, none⟩ = some (.int .i64 0) := (blk_cell BK122.out 0).trans rfl; have hcz8_1 : w5.cell? ⟨gb122, 1, none⟩ = some (.string (⟨#[]⟩ : ByteArray)) := (blk_cell BK122.out 1).trans rfl; have hcz8_2 : w5.cell? ⟨gb122, 2, none⟩ = some (.string (⟨#[]⟩ : ByteArray)) := (blk_cell BK122.out 2).trans rfl; have hfz8_0 := blk_frozen BK122.out 0; have hfz8_1 := blk_frozen BK122.out 1; have hfz8_2 := blk_frozen BK122.out 2))
    refine bodyPost_ret (results_ct rfl _ _ gb122 48 #[.int .i64 a0_0, .string a0_1, .string a0_2] (0, 0) _ rfl (by (with_reducible repeat (first | refine blk_drewN ?_ _ | refine blk_drew ?_ | refine blk_alloc ?_ _)); refine blk_put (cs := #[.int .i64 a0_0, .string a0_1, .string (⟨#[]⟩ : ByteArray)]) ?_ 2 _ rfl; (with_reducible repeat (first | refine blk_drewN ?_ _ | refine blk_drew ?_ | refine blk_alloc ?_ _)); refine blk_put (cs := #[.int .i64 a0_0, .string (⟨#[]⟩ : ByteArray), .string (⟨#[]⟩ : ByteArray)]) ?_ 1 _ rfl; (with_reducible repeat (first | refine blk_drewN ?_ _ | refine blk_drew ?_ | refine blk_alloc ?_ _)); refine blk_put (cs := #[.int .i64 0, .string (⟨#[]⟩ : ByteArray), .string (⟨#[]⟩ : ByteArray)]) ?_ 0 _ rfl; (with_reducible repeat (first | refine blk_drewN ?_ _ | refine blk_drew ?_ | refine blk_alloc ?_ _)); exact BK122.out) Try.underlying48 rfl (by kernel_rfl)) rfl ?_
    exact ⟨by first | rfl | (simp [errW_none, errW_some] <;> rfl) | (simp [*, errW_none, errW_some] <;> rfl), by repeat (first | (with_reducible first | exact HB.out | apply below_alloc | apply pw_below_drewN | apply below_drew1 | refine below_set ?_ GE121.out | refine below_set ?_ GE122.out) | exact HB.out)⟩
  · rw [if_neg c3] at H
    have c3b0 : decide (a0_0 < (wrap64 ((wrap64 ((a0_1.size : Int) + (a0_2.size : Int))) + (a1.size : Int)))) = false := decide_eq_false c3
    clear c3
    by_cases c9 : a0_2.size + a1.size ≤ 9223372036854775807
    · rw [if_pos c9] at H
      have c9b0 := eq_true c9
      have c9b1 : decide (a0_2.size + a1.size ≤ 9223372036854775807) = true := decide_eq_true c9
      try have c9b2 : (9223372036854775807 < a0_2.size + a1.size) = False := eq_false (Nat.not_lt.2 c9)
      simp only [Option.some.injEq, Prod.mk.injEq] at H
      obtain ⟨rfl, rfl, rfl, rfl⟩ := H
      go_enter Try.func53, Try.ntmps53
      go_wp2_with (first | ((with_reducible refine gate_dst (N := 2) rfl ?_); refine box_event ?hg (N := 2) ?hd (cs := #[.int .i64 a0_0, .string a0_1, .string a0_2]) (t := 48) ?hr ?_; (case hd => rfl); (case hg => rfl); (case hr => first | (go_simp; done) | (go_simp; rfl)); intro gb121 hg w10 hbox hb; have n0_ := Aside0.mk (below_step (by repeat (first | (with_reducible first | exact HB.out | apply below_alloc | apply pw_below_drewN | apply below_drew1) | exact HB.out)) hb); have n1_ := Aside0.mk (hbox); have n2_ := Aside0.mk ((by rw [hg]; exact (below_size (by repeat (first | (with_reducible first | exact HB.out | apply below_alloc | apply pw_below_drewN | apply below_drew1) | exact HB.out))) : w.heap.size ≤ gb121)); have n3_ := Aside0.mk ((by rw [hg]; exact (below_size (by repeat (first | (with_reducible first | exact HB.out | apply below_alloc | apply pw_below_drewN | apply below_drew1) | exact HB.out))) : w.heap.size ≤ gb121)); clear HB; have HB := n0_; have BK121 := n1_; have GW121 := n2_; have GE121 := n3_; clear n0_ n1_ n2_ n3_; clear hb hbox hg) | ((with_reducible refine gate_dst (N := 4) rfl ?_); refine box_event ?hg (N := 4) ?hd (cs := #[.int .i64 0, .string (⟨#[]⟩ : ByteArray), .string (⟨#[]⟩ : ByteArray)]) (t := 48) ?hr ?_; (case hd => rfl); (case hg => rfl); (case hr => first | (go_simp; done) | (go_simp; rfl)); intro gb122 hg w11 hbox hb; have n0_ := Aside0.mk (blk_below (g := gb121) (o := .cells #[.int .i64 a0_0, .string a0_1, .string a0_2] 48 (0, 0)) (by (with_reducible repeat (first | refine blk_drewN ?_ _ | refine blk_drew ?_ | refine blk_alloc ?_ _)); exact BK121.out) hb); have n1_ := Aside0.mk (below_step (by repeat (first | (with_reducible first | exact HB.out | apply below_alloc | apply pw_below_drewN | apply below_drew1 | refine below_set ?_ GE121.out) | exact HB.out)) hb); have n2_ := Aside0.mk (hbox); have n3_ := Aside0.mk ((by rw [hg]; exact (below_size (by repeat (first | (with_reducible first | exact HB.out | apply below_alloc | apply pw_below_drewN | apply below_drew1 | refine below_set ?_ GE121.out) | exact HB.out))) : w.heap.size ≤ gb122)); have n4_ := Aside0.mk ((by rw [hg]; exact (below_size (by repeat (first | (with_reducible first | exact HB.out | apply below_alloc | apply pw_below_drewN | apply below_drew1 | refine below_set ?_ GE121.out) | exact HB.out))) : w.heap.size ≤ gb122)); have n5_ := Aside0.mk ((by rw [hg]; exact Nat.ne_of_lt (blk_lt (g := gb121) (o := .cells #[.int .i64 a0_0, .string a0_1, .string a0_2] 48 (0, 0)) (by (with_reducible repeat (first | refine blk_drewN ?_ _ | refine blk_drew ?_ | refine blk_alloc ?_ _)); exact BK121.out)) : gb121 ≠ gb122)); have n6_ := Aside0.mk ((by rw [hg]; exact Nat.ne_of_gt (blk_lt (g := gb121) (o := .cells #[.int .i64 a0_0, .string a0_1, .string a0_2] 48 (0, 0)) (by (with_reducible repeat (first | refine blk_drewN ?_ _ | refine blk_drew ?_ | refine blk_alloc ?_ _)); exact BK121.out)) : gb122 ≠ gb121)); clear BK121; clear HB; have BK121 := n0_; have HB := n1_; have BK122 := n2_; have GW122 := n3_; have GE122 := n4_; have NB121_122 := n5_; have NB122_121 := n6_; clear n0_ n1_ n2_ n3_ n4_ n5_ n6_; clear hb hbox hg; have hnb12 := NB121_122.out; have hnc12 := NB122_121.out; have hcz13_0 : w11.cell? ⟨gb121, 0, none⟩ = some (.int .i64 a0_0) := (blk_cell BK121.out 0).trans rfl; have hcz13_1 : w11.cell? ⟨gb121, 1, none⟩ = some (.string a0_1) := (blk_cell BK121.out 1).trans rfl; have hcz13_2 : w11.cell? ⟨gb121, 2, none⟩ = some (.string a0_2) := (blk_cell BK121.out 2).trans rfl; have hfz13_0 := blk_frozen BK121.out 0; have hfz13_1 := blk_frozen BK121.out 1; have hfz13_2 := blk_frozen BK121.out 2; have hcz14_0 : w11.cell? ⟨gb122, 0, none⟩ = some (.int .i64 0) := (blk_cell BK122.out 0).trans rfl; have hcz14_1 : w11.cell? ⟨gb122, 1, none⟩ = some (.string (⟨#[]⟩ : ByteArray)) := (blk_cell BK122.out 1).trans rfl; have hcz14_2 : w11.cell? ⟨gb122, 2, none⟩ = some (.string (⟨#[]⟩ : ByteArray)) := (blk_cell BK122.out 2).trans rfl; have hfz14_0 := blk_frozen BK122.out 0; have hfz14_1 := blk_frozen BK122.out 1; have hfz14_2 := blk_frozen BK122.out 2))
      refine bodyPost_ret (results_ct rfl _ _ gb122 48 #[.int .i64 a0_0, .string a0_1, .string (a0_2 ++ a1)] (0, 0) _ rfl (by (with_reducible repeat (first | refine blk_drewN ?_ _ | refine blk_drew ?_ | refine blk_alloc ?_ _)); refine blk_put (cs := #[.int .i64 a0_0, .string a0_1, .string (⟨#[]⟩ : ByteArray)]) ?_ 2 _ rfl; (with_reducible repeat (first | refine blk_drewN ?_ _ | refine blk_drew ?_ | refine blk_alloc ?_ _)); refine blk_put (cs := #[.int .i64 a0_0, .string (⟨#[]⟩ : ByteArray), .string (⟨#[]⟩ : ByteArray)]) ?_ 1 _ rfl; (with_reducible repeat (first | refine blk_drewN ?_ _ | refine blk_drew ?_ | refine blk_alloc ?_ _)); refine blk_put (cs := #[.int .i64 0, .string (⟨#[]⟩ : ByteArray), .string (⟨#[]⟩ : ByteArray)]) ?_ 0 _ rfl; (with_reducible repeat (first | refine blk_drewN ?_ _ | refine blk_drew ?_ | refine blk_alloc ?_ _)); refine blk_far ?_ NB122_121.out _; (with_reducible repeat (first | refine blk_drewN ?_ _ | refine blk_drew ?_ | refine blk_alloc ?_ _)); exact BK122.out) Try.underlying48 rfl (by kernel_rfl)) rfl ?_
      exact ⟨by first | rfl | (simp [errW_none, errW_some] <;> rfl) | (simp [*, errW_none, errW_some] <;> rfl), by repeat (first | (with_reducible first | exact HB.out | apply below_alloc | apply pw_below_drewN | apply below_drew1 | refine below_set ?_ GE121.out | refine below_set ?_ GE122.out) | exact HB.out)⟩
    · rw [if_neg c9] at H
      exact absurd H (by simp)

/-! ### pacesetterref05_Sync: function 54 -/
def pacesetterref05_Sync.f (a0_0 : Int) (a0_1 : ByteArray) (a0_2 : ByteArray) : Option (Int × ByteArray × ByteArray × Int) := if a0_1.size + a0_2.size ≤ 9223372036854775807 then (some (a0_0, a0_1 ++ a0_2, (⟨#[]⟩ : ByteArray), (a0_2.size : Int))) else (none)
set_option maxHeartbeats 8000000 in
set_option maxRecDepth 100000 in
theorem pacesetterref05_Sync.calls (a0_0 : Int) (a0_1 : ByteArray) (a0_2 : ByteArray) (r1 : Int) (r2 : ByteArray) (r3 : ByteArray) (r4 : Int) (w : World) (h : pacesetterref05_Sync.f a0_0 a0_1 a0_2 = some (r1, r2, r3, r4)) :
    Calls Try.prog 54 #[.agg #[.int .i64 a0_0, .string a0_1, .string a0_2]] w fun e w' => e = .returned (.tuple #[.agg #[.int .i64 r1, .string r2, .string r3], .int .i64 r4]) ∧ Below w.heap.size w w' := by
  have hu48 := Try.underlying48
  have HB := Aside0.mk (Below.refl w.heap.size w)
  have H : (if a0_1.size + a0_2.size ≤ 9223372036854775807 then (some (a0_0, a0_1 ++ a0_2, (⟨#[]⟩ : ByteArray), (a0_2.size : Int))) else (none)) = some (r1, r2, r3, r4) := h
  clear h
  by_cases c2 : a0_1.size + a0_2.size ≤ 9223372036854775807
  · rw [if_pos c2] at H
    have c2b0 := eq_true c2
    have c2b1 : decide (a0_1.size + a0_2.size ≤ 9223372036854775807) = true := decide_eq_true c2
    try have c2b2 : (9223372036854775807 < a0_1.size + a0_2.size) = False := eq_false (Nat.not_lt.2 c2)
    simp only [Option.some.injEq, Prod.mk.injEq] at H
    obtain ⟨rfl, rfl, rfl, rfl⟩ := H
    go_enter Try.func54, Try.ntmps54
    go_wp2_with (first | ((with_reducible refine gate_dst (N := 1) rfl ?_); refine box_event ?hg (N := 1) ?hd (cs := #[.int .i64 a0_0, .string a0_1, .string a0_2]) (t := 48) ?hr ?_; (case hd => rfl); (case hg => rfl); (case hr => first | (go_simp; done) | (go_simp; rfl)); intro gb123 hg w3 hbox hb; have n0_ := Aside0.mk (below_step (by repeat (first | (with_reducible first | exact HB.out | apply below_alloc | apply pw_below_drewN | apply below_drew1) | exact HB.out)) hb); have n1_ := Aside0.mk (hbox); have n2_ := Aside0.mk ((by rw [hg]; exact (below_size (by repeat (first | (with_reducible first | exact HB.out | apply below_alloc | apply pw_below_drewN | apply below_drew1) | exact HB.out))) : w.heap.size ≤ gb123)); have n3_ := Aside0.mk ((by rw [hg]; exact (below_size (by repeat (first | (with_reducible first | exact HB.out | apply below_alloc | apply pw_below_drewN | apply below_drew1) | exact HB.out))) : w.heap.size ≤ gb123)); clear HB; have HB := n0_; have BK123 := n1_; have GW123 := n2_; have GE123 := n3_; clear n0_ n1_ n2_ n3_; clear hb hbox hg) | ((with_reducible refine gate_dst (N := 2) rfl ?_); refine box_event ?hg (N := 2) ?hd (cs := #[.int .i64 0, .string (⟨#[]⟩ : ByteArray), .string (⟨#[]⟩ : ByteArray)]) (t := 48) ?hr ?_; (case hd => rfl); (case hg => rfl); (case hr => first | (go_simp; done) | (go_simp; rfl)); intro gb124 hg w4 hbox hb; have n0_ := Aside0.mk (blk_below (g := gb123) (o := .cells #[.int .i64 a0_0, .string a0_1, .string a0_2] 48 (0, 0)) (by (with_reducible repeat (first | refine blk_drewN ?_ _ | refine blk_drew ?_ | refine blk_alloc ?_ _)); exact BK123.out) hb); have n1_ := Aside0.mk (below_step (by repeat (first | (with_reducible first | exact HB.out | apply below_alloc | apply pw_below_drewN | apply below_drew1 | refine below_set ?_ GE123.out) | exact HB.out)) hb); have n2_ := Aside0.mk (hbox); have n3_ := Aside0.mk ((by rw [hg]; exact (below_size (by repeat (first | (with_reducible first | exact HB.out | apply below_alloc | apply pw_below_drewN | apply below_drew1 | refine below_set ?_ GE123.out) | exact HB.out))) : w.heap.size ≤ gb124)); have n4_ := Aside0.mk ((by rw [hg]; exact (below_size (by repeat (first | (with_reducible first | exact HB.out | apply below_alloc | apply pw_below_drewN | apply below_drew1 | refine below_set ?_ GE123.out) | exact HB.out))) : w.heap.size ≤ gb124)); have n5_ := Aside0.mk ((by rw [hg]; exact Nat.ne_of_lt (blk_lt (g := gb123) (o := .cells #[.int .i64 a0_0, .string a0_1, .string a0_2] 48 (0, 0)) (by (with_reducible repeat (first | refine blk_drewN ?_ _ | refine blk_drew ?_ | refine blk_alloc ?_ _)); exact BK123.out)) : gb123 ≠ gb124)); have n6_ := Aside0.mk ((by rw [hg]; exact Nat.ne_of_gt (blk_lt (g := gb123) (o := .cells #[.int .i64 a0_0, .string a0_1, .string a0_2] 48 (0, 0)) (by (with_reducible repeat (first | refine blk_drewN ?_ _ | refine blk_drew ?_ | refine blk_alloc ?_ _)); exact BK123.out)) : gb124 ≠ gb123)); clear BK123; clear HB; have BK123 := n0_; have HB := n1_; have BK124 := n2_; have GW124 := n3_; have GE124 := n4_; have NB123_124 := n5_; have NB124_123 := n6_; clear n0_ n1_ n2_ n3_ n4_ n5_ n6_; clear hb hbox hg; have hnb5 := NB123_124.out; have hnc5 := NB124_123.out; have hcz6_0 : w4.cell? ⟨gb123, 0, none⟩ = some (.int .i64 a0_0) := (blk_cell BK123.out 0).trans rfl; have hcz6_1 : w4.cell? ⟨gb123, 1, none⟩ = some (.string a0_1) := (blk_cell BK123.out 1).trans rfl; have hcz6_2 : w4.cell? ⟨gb123, 2, none⟩ = some (.string a0_2) := (blk_cell BK123.out 2).trans rfl; have hfz6_0 := blk_frozen BK123.out 0; have hfz6_1 := blk_frozen BK123.out 1; have hfz6_2 := blk_frozen BK123.out 2; have hcz7_0 : w4.cell? ⟨gb124, 0, none⟩ = some (.int .i64 0) := (blk_cell BK124.out 0).trans rfl; have hcz7_1 : w4.cell? ⟨gb124, 1, none⟩ = some (.string (⟨#[]⟩ : ByteArray)) := (blk_cell BK124.out 1).trans rfl; have hcz7_2 : w4.cell? ⟨gb124, 2, none⟩ = some (.string (⟨#[]⟩ : ByteArray)) := (blk_cell BK124.out 2).trans rfl; have hfz7_0 := blk_frozen BK124.out 0; have hfz7_1 := blk_frozen BK124.out 1; have hfz7_2 := blk_frozen BK124.out 2))
    refine bodyPost_ret (results_ct rfl _ _ gb124 48 #[.int .i64 a0_0, .string (a0_1 ++ a0_2), .string (⟨#[]⟩ : ByteArray)] (0, 0) _ rfl (by (with_reducible repeat (first | refine blk_drewN ?_ _ | refine blk_drew ?_ | refine blk_alloc ?_ _)); refine blk_put (cs := #[.int .i64 a0_0, .string (a0_1 ++ a0_2), .string (⟨#[]⟩ : ByteArray)]) ?_ 2 _ rfl; (with_reducible repeat (first | refine blk_drewN ?_ _ | refine blk_drew ?_ | refine blk_alloc ?_ _)); refine blk_put (cs := #[.int .i64 a0_0, .string (⟨#[]⟩ : ByteArray), .string (⟨#[]⟩ : ByteArray)]) ?_ 1 _ rfl; (with_reducible repeat (first | refine blk_drewN ?_ _ | refine blk_drew ?_ | refine blk_alloc ?_ _)); refine blk_put (cs := #[.int .i64 0, .string (⟨#[]⟩ : ByteArray), .string (⟨#[]⟩ : ByteArray)]) ?_ 0 _ rfl; (with_reducible repeat (first | refine blk_drewN ?_ _ | refine blk_drew ?_ | refine blk_alloc ?_ _)); refine blk_far ?_ NB124_123.out _; (with_reducible repeat (first | refine blk_drewN ?_ _ | refine blk_drew ?_ | refine blk_alloc ?_ _)); refine blk_far ?_ NB124_123.out _; (with_reducible repeat (first | refine blk_drewN ?_ _ | refine blk_drew ?_ | refine blk_alloc ?_ _)); exact BK124.out) Try.underlying48 rfl (by kernel_rfl)) rfl ?_
    exact ⟨by first | rfl | (simp [errW_none, errW_some] <;> rfl) | (simp [*, errW_none, errW_some] <;> rfl), by repeat (first | (with_reducible first | exact HB.out | apply below_alloc | apply pw_below_drewN | apply below_drew1 | refine below_set ?_ GE123.out | refine below_set ?_ GE124.out) | exact HB.out)⟩
  · rw [if_neg c2] at H
    exact absurd H (by simp)

end Go.Proofs.Ytbcienbnhchdeaa.PrD

/- What came in, opened: a row of bytes; two whole numbers in an array; a row of rows of bytes is told in HandO. -/
namespace Go.Proofs.Ytbcienbnhchdeaa.Hand
open Go Go.RowKit Go.Deep Go.ChangeShapes Go.Proofs.YtbcienbnhchdeaaW.PrintWords
set_option linter.unusedVariables false
theorem okB_of_wf {zs : List Int} (h : ∀ n ∈ zs, (Lit.int .u8 n).wf = true) : okB zs = true := by
  unfold okB
  rw [List.all_eq_true]
  intro n hn
  have h1 := h n hn
  simp only [Lit.wf, Bool.and_eq_true, decide_eq_true_eq] at h1
  have e1 : IntKind.u8.min = 0 := by decide
  have e2 : IntKind.u8.max = 255 := by decide
  simp
  omega
theorem open_bytes {H : Type} {enc : TypeId × Value → H} {w : World} {base : Nat} {held : Bool} {fuel : Nat} {a : Option Addr} {len cap : Nat} {x : DataW H × List MemPlace}
    (h : DataW.trod enc Try.prog w base (fun _ => true) held fuel 22 (Value.slice a len cap).cells.toList = some x) :
    ∃ zs : List Int, zs.length = len ∧ len ≤ cap ∧ Kd.C (Kd.int .u8) w a len zs ∧ okB zs = true := by
  rcases open_ints Try.underlying22 Try.underlying5 (by kernel_rfl) h with ⟨hcs, _⟩ | ⟨ad, l, c, zs, hcs, _, hl, hm, hz, _, hcell, hwz⟩
  · simp [Value.cells] at hcs
    obtain ⟨rfl, rfl, rfl⟩ := hcs
    exact ⟨[], rfl, Nat.le_refl _, Kd.C_nil _ _, rfl⟩
  · simp [Value.cells] at hcs
    obtain ⟨rfl, rfl, rfl⟩ := hcs
    have hml : maxLen ≤ 9223372036854775807 := by decide
    have hzc : zs.length = cap := by simpa using hz
    have hlen : (zs.take len).length = len := by rw [List.length_take]; omega
    refine ⟨zs.take len, hlen, hl, Kd.C_of_reads (enc := Value.int .u8) (d := (0 : Int)) (h1 := fun _ => rfl) ⟨hlen, by omega, fun _ => ⟨_, rfl, fun j hj => ?_⟩⟩, okB_of_wf fun n hn => hwz n (List.mem_of_mem_take hn)⟩
    rw [hcell j (by omega)]
    simp [List.getD_eq_getElem?_getD, hj]
set_option maxRecDepth 100000 in
/-- An array of two whole numbers. -/
theorem open_two {H : Type} {enc : TypeId × Value → H} {W : World} {base b0 : Nat} {held : Bool} {fuel : Nat} {sp : Nat → Bool} {v : Value} {x : DataW H × List MemPlace}
    (hv : Value.okWide Try.prog W .any b0 36 v) (h : DataW.trod enc Try.prog W base sp held fuel 36 v.cells.toList = some x) :
    ∃ x y : Int, v = .agg #[.int .i64 x, .int .i64 y] ∧ (Lit.int .i64 x).wf = true ∧ (Lit.int .i64 y).wf = true := by
  have hc36 : Try.prog.cellsOf 36 = 2 := by kernel_rfl
  have hc3 : Try.prog.cellsOf 3 = 1 := by kernel_rfl
  obtain ⟨cs, rfl⟩ : ∃ cs, v = .agg cs := by
    simp only [Value.okWide, Try.underlying36] at hv
    obtain ⟨cs, h1, _⟩ := hv
    exact ⟨cs, h1⟩
  obtain ⟨xs, m, _, _, hl, hxs, hall⟩ := DataW.trod_array Try.underlying36 h
  have h0 := hall 0 (by omega)
  have h1 := hall 1 (by omega)
  rw [List.getElem?_eq_getElem (by omega)] at h0 h1
  obtain ⟨a, ha, _, wa⟩ := DataW.trod_int Try.underlying3 h0
  obtain ⟨b, hb, _, wb⟩ := DataW.trod_int Try.underlying3 h1
  refine ⟨a, b, ?_, wa, wb⟩
  simp only [Value.cells] at ha hb hl
  rw [hc3] at ha hb
  have hl2 : cs.toList.length = 2 := hl.trans hc36
  have hcs : cs = cs.toList.toArray := by simp
  match hcl : cs.toList, hl2 with
  | [p, q], _ =>
    rw [hcl] at ha hb
    simp at ha hb
    subst ha hb
    exact congrArg Value.agg (hcs.trans (by rw [hcl]))

end Go.Proofs.Ytbcienbnhchdeaa.Hand

/- The steps of a script: the first ones; what came in, opened. -/
namespace Go.Proofs.Ytbcienbnhchdeaa.Hand
open Go Go.RowKit Go.Deep Go.ChangeShapes Go.Proofs.YtbcienbnhchdeaaW.PrintWords Go.Proofs.YtbcienbnhchdeaaW.PrintMore PrD
set_option linter.unusedVariables false

def okS5 (z : S52) : Prop := okB z.f2 = true
def cut5 (z : S52) : S52 := ⟨z.f0, z.f1, z.f2.take 40⟩
def early5 (l : List S52) : List S52 := (l.take 80).map cut5
theorem early5_ok {l : List S52} (h : ∀ z ∈ l, okS5 z) : ∀ z ∈ early5 l, okB z.f2 = true ∧ z.f2.length ≤ 40 := by
  intro z hz
  obtain ⟨y, hy, rfl⟩ := List.mem_map.1 hz
  have h1 := h y (List.mem_of_mem_take hy)
  refine ⟨?_, by show (y.f2.take 40).length ≤ 40; rw [List.length_take]; omega⟩
  unfold okS5 okB at h1
  show okB (y.f2.take 40) = true
  unfold okB
  rw [List.all_eq_true] at h1 ⊢
  exact fun x hx => h1 x (List.mem_of_mem_take hx)
theorem early5_len (l : List S52) : (early5 l).length ≤ 80 := by
  unfold early5
  rw [List.length_map, List.length_take]
  omega
theorem early5_l0 {l : List S52} (hl : l.length ≤ 9223372036854775807) : ∀ (m n k : Nat), n + m = min l.length 80 → m + 1 ≤ k →
    pacesetterlaw05_early.l0 k l ((l.take n).map cut5) (n : Int) = some (early5 l) := by
  intro m
  induction m with
  | zero =>
    intro n k hn hk
    obtain ⟨k, rfl⟩ : ∃ j, k = j + 1 := ⟨k - 1, by omega⟩
    have e : (l.take n).map cut5 = early5 l := by
      unfold early5
      congr 1
      by_cases h : l.length ≤ 80
      · rw [List.take_of_length_le (by omega), List.take_of_length_le (by omega)]
      · congr 1
        omega
    rw [pacesetterlaw05_early.l0, e]
    by_cases c : (n : Int) < (l.length : Int)
    · rw [if_pos c, if_neg (by omega)]
    · rw [if_neg c]
  | succ m ih =>
    intro n k hn hk
    obtain ⟨k, rfl⟩ : ∃ j, k = j + 1 := ⟨k - 1, by omega⟩
    have hlt : n < l.length := by omega
    have hx : rd_T52 l (n : Int) = l[n] := by
      unfold rd_T52
      rw [Int.toNat_natCast, List.getD_eq_getElem?_getD, List.getElem?_eq_getElem hlt]
      rfl
    have hmn : mn ((l[n].f2).length : Int) 40 = ((min (l[n].f2).length 40 : Nat) : Int) := by unfold mn; split <;> omega
    have hw : wrap64 ((n : Int) + 1) = ((n + 1 : Nat) : Int) := by unfold wrap64; omega
    have c1 : (n : Int) < (l.length : Int) := by omega
    have c2 : (n : Int) < 80 := by omega
    have c3 : (0 : Int) ≤ (n : Int) := by omega
    have c4 : (0 : Int) ≤ ((min (l[n].f2).length 40 : Nat) : Int) := by omega
    have c5 : ((min (l[n].f2).length 40 : Nat) : Int) ≤ ((l[n].f2).length : Int) := by omega
    have c6 : ((l.take n).map cut5).length < 3518437208883 := by rw [List.length_map, List.length_take]; omega
    have ht : (l[n].f2).take (min (l[n].f2).length 40) = (l[n].f2).take 40 := by
      by_cases h : (l[n].f2).length ≤ 40
      · rw [List.take_of_length_le (by omega), List.take_of_length_le (by omega)]
      · congr 1
        omega
    rw [pacesetterlaw05_early.l0, if_pos c1, if_pos c2, if_pos c3, hx, hmn, if_pos c4, if_pos c5, if_pos c6, Int.toNat_natCast, ht, hw]
    have e : (l.take n).map cut5 ++ [(⟨l[n].f0, l[n].f1, (l[n].f2).take 40⟩ : S52)] = (l.take (n + 1)).map cut5 := by
      rw [List.take_succ_eq_append_getElem hlt, List.map_append]
      rfl
    rw [e]
    exact ih (n + 1) k (by omega) (by omega)
theorem early5_f {l : List S52} (hl : l.length ≤ 9223372036854775807) : pacesetterlaw05_early.f 81 l = some (early5 l) := by
  unfold pacesetterlaw05_early.f
  exact early5_l0 hl (min l.length 80) 0 81 (by omega) (by omega)
theorem early5_any (P : Nat → Prop) (A : Option Addr) (c : Nat) (l : List S52) (w : World) (h : Kd.V k52 52 w w.heap.size P (.slice A l.length c) l) :
    Calls Try.prog 51 #[.slice A l.length c] w fun e w' => ∃ A' c', e = .returned (.slice A' (early5 l).length c') ∧ Kd.V k52 52 w' 0 (fun k => (P k ∨ w.heap.size ≤ k) ∧ k < w'.heap.size) (.slice A' (early5 l).length c') (early5 l) ∧ Below w.heap.size w w' := by
  refine (pacesetterlaw05_early.calls 81 P A c l (early5 l) w h (early5_f (Kd.V_reads' h).2.2.2.1)).mono fun e w' ⟨v, he, hN, hb⟩ => ?_
  have hV := Kd.V_bound (Kd.N_V (base' := 0) hN)
  obtain ⟨A', c', rfl⟩ := Kd.V_slice hV
  exact ⟨A', c', he, hV, hb⟩
theorem heap52 : Kd.Heap k52 := Kd.heap_iso _ (Kd.heap_pair (Kd.heap_int _) (Kd.heap_pair (Kd.heap_int _) (Kd.heap_slice 5 (Kd.heap_int _))))
/-- A script that came in. -/
theorem steps_V {w : World} {A : Option Addr} {c : Nat} {l : List S52} (h : Kd.C k52 w A l.length l) (hc : l.length ≤ c) : Kd.V k52 52 w w.heap.size (fun k => k < w.heap.size) (.slice A l.length c) l :=
  Kd.V_mk hc (Kd.C_F heap52 h)
/-- A step of a script, read: its cells, and its bytes. -/
theorem step_at {w : World} {ok : Nat → Prop} {A : Option Addr} {c : Nat} {l : List S52} (h : Kd.V k52 52 w 0 ok (.slice A l.length c) l) {n : Nat} (hn : n < l.length) :
    ∃ ad A2 c2, A = some ad ∧ w.cell? (ad.add (n * 3)) = some (.int .i64 (l[n]'hn).f0) ∧ w.cell? (ad.add (n * 3 + 1)) = some (.int .i64 (l[n]'hn).f1) ∧ w.cell? (ad.add (n * 3 + 2)) = some (.slice A2 (l[n]'hn).f2.length c2) ∧ (l[n]'hn).f2.length ≤ c2 ∧ Kd.C (Kd.int .u8) w A2 (l[n]'hn).f2.length (l[n]'hn).f2 := by
  have hC := (Kd.V_reads' h).2.2
  obtain ⟨ad, e, hc⟩ := hC.2.2 (by omega)
  obtain ⟨cs, hl, hK, hcell⟩ := hc n (l[n]'hn) (List.getElem?_eq_getElem hn)
  obtain ⟨A2, c2, rfl, h1, h2⟩ := k52_open hK
  have h3 : k52.sz = 3 := rfl
  rw [h3] at hcell
  exact ⟨ad, A2, c2, e, hcell 0 _ rfl, hcell 1 _ rfl, hcell 2 _ rfl, h1, h2⟩
theorem add_add (a : Addr) (i j : Nat) : (a.add i).add j = a.add (i + j) := Go.Deep.add_add a i j
instance inh52 : Inhabited S52 := ⟨z52⟩
theorem cells52 : Try.prog.cellsOf 52 = 3 := by kernel_rfl
theorem cells22 : Try.prog.cellsOf 22 = 1 := by kernel_rfl
theorem cells3 : Try.prog.cellsOf 3 = 1 := by kernel_rfl
set_option maxRecDepth 100000 in
/-- One step, opened. -/
theorem open_step5 {H : Type} {enc : TypeId × Value → H} {w : World} {base : Nat} {held : Bool} {fuel : Nat} {cs : List Value} {x : DataW H × List MemPlace}
    (h : DataW.trod enc Try.prog w base (fun _ => true) held fuel 52 cs = some x) : ∃ z : S52, k52.K w z cs ∧ okS5 z := by
  obtain ⟨xs, m, _, _, hl, hxs, hall⟩ := DataW.trod_struct Try.underlying52 h
  have hl3 : cs.length = 3 := hl.trans cells52
  have h0 := hall 0 _ rfl
  have h1 := hall 1 _ rfl
  have h2 := hall 2 _ rfl
  have hxl : xs.length = 3 := hxs
  rw [List.getElem?_eq_getElem (by omega)] at h0 h1 h2
  obtain ⟨a, ha, _, _⟩ := DataW.trod_int Try.underlying3 h0
  obtain ⟨b, hb, _, _⟩ := DataW.trod_int Try.underlying3 h1
  match cs, hl3 with
  | [p, q, r], _ =>
    have e2 : ([p, q, r].drop 2).take (Try.prog.cellsOf 22) = [r] := by rw [cells22]; rfl
    have h2' : DataW.trod enc Try.prog w base (fun _ => true) held m 22 [r] = some xs[2] := by rw [← e2]; exact h2
    have hr : ∃ A n c, r = .slice A n c := by
      rcases open_ints Try.underlying22 Try.underlying5 (by kernel_rfl) h2' with ⟨hcs, _⟩ | ⟨ad, l, c, zs, hcs, _⟩
      · exact ⟨_, _, _, (List.cons.inj hcs).1⟩
      · exact ⟨_, _, _, (List.cons.inj hcs).1⟩
    obtain ⟨A2, n2, c2, rfl⟩ := hr
    obtain ⟨zs, hz1, hz2, hz3, hz4⟩ := open_bytes (a := A2) (len := n2) (cap := c2) h2'
    subst hz1
    have ep : p = .int .i64 a := by
      have e : ([p, q, Value.slice A2 zs.length c2].drop 0).take (Try.prog.cellsOf 3) = [p] := by rw [cells3]; rfl
      exact (List.cons.inj (e.symm.trans ha)).1
    have eq : q = .int .i64 b := by
      have e : ([p, q, Value.slice A2 zs.length c2].drop 1).take (Try.prog.cellsOf 3) = [q] := by rw [cells3]; rfl
      exact (List.cons.inj (e.symm.trans hb)).1
    subst ep eq
    exact ⟨⟨a, b, zs⟩, ⟨[.int .i64 a], [.int .i64 b, .slice A2 zs.length c2], rfl, rfl, ⟨[.int .i64 b], [.slice A2 zs.length c2], rfl, rfl, ⟨A2, c2, rfl, hz2, hz3⟩⟩⟩, hz4⟩
theorem open_steps5 {H : Type} {enc : TypeId × Value → H} {w : World} {base : Nat} {held : Bool} {fuel : Nat} {a : Option Addr} {len cap : Nat} {x : DataW H × List MemPlace}
    (h : DataW.trod enc Try.prog w base (fun _ => true) held fuel 46 (Value.slice a len cap).cells.toList = some x) :
    ∃ zs : List S52, zs.length = len ∧ len ≤ cap ∧ Kd.C k52 w a len zs ∧ ∀ z ∈ zs, okS5 z := by
  rcases open_slice Try.underlying46 h with ⟨hcs, _⟩ | ⟨ad, l, c, m, n, D, Pl, hcs, _, hl, hm, hmm, _, hi⟩
  · simp [Value.cells] at hcs
    obtain ⟨rfl, rfl, rfl⟩ := hcs
    exact ⟨[], rfl, Nat.le_refl _, Kd.C_nil _ _, by simp⟩
  · simp [Value.cells] at hcs
    obtain ⟨rfl, rfl, rfl⟩ := hcs
    have hml : maxLen ≤ 9223372036854775807 := by decide
    have hmc : m = cap := by simpa using hmm
    obtain ⟨Z, hZ⟩ := choose_lt (α := S52) (n := len) (p := fun i z => okS5 z ∧ ∃ cs, cs.length = 3 ∧ k52.K w z cs ∧ ∀ j u, cs[j]? = some u → w.cell? (ad.add (i * 3 + j)) = some u) (fun i hlt => by
      obtain ⟨cs', h1, h2⟩ := hi i (by omega)
      rw [cells52] at h1
      obtain ⟨_, hlen, hcell⟩ := World.cells?_some h1
      obtain ⟨z, hz1, hz2⟩ := open_step5 h2
      refine ⟨z, hz2, cs', hlen, hz1, fun j u hu => ?_⟩
      have hj : j < 3 := by
        have := (List.getElem?_eq_some_iff.1 hu).1
        omega
      rw [← add_add, hcell j hj, hu])
    have hlz : ((List.range len).map Z).length = len := by simp
    refine ⟨(List.range len).map Z, hlz, hl, ⟨hlz, by omega, fun _ => ⟨ad, rfl, fun j p hj => ?_⟩⟩, ?_⟩
    · have hjl : j < len := by
        have := (List.getElem?_eq_some_iff.1 hj).1
        omega
      have hp : Z j = p := by
        rw [List.getElem?_map, List.getElem?_range hjl] at hj
        simpa using hj
      subst hp
      obtain ⟨_, cs, h1, h2, h3⟩ := hZ j hjl
      exact ⟨cs, h1, h2, h3⟩
    · intro z hz
      obtain ⟨i, hi', rfl⟩ := List.mem_map.1 hz
      exact (hZ i (List.mem_range.1 hi')).1
end Go.Proofs.Ytbcienbnhchdeaa.Hand

/- Never are there more bytes than room; what is refused leaves all as it was: the law's contract. -/
namespace Go.Proofs.Ytbcienbnhchdeaa.Hand
open Go Go.RowKit Go.Proofs.YtbcienbnhchdeaaW.PrintLast Go.Proofs.YtbcienbnhchdeaaW.PrintWords Go.Proofs.YtbcienbnhchdeaaW.PrintMore PrD
set_option linter.unusedVariables false
set_option linter.unusedSimpArgs false
attribute [local go_sem] max2_int min2_int max_two min_two

theorem new_all (n : Int) (w : World) : Calls Try.prog 37 #[.int .i64 n] w fun e w' =>
    e = .returned (.pointer (some ⟨w.heap.size, 0, none⟩)) ∧ (∀ ok, DiskAt w' w.heap.size ok (roomOf n) 0 []) ∧ Below w.heap.size w w' := by
  refine (new_any n w (fun _ => False)).mono fun e w' ⟨he, hd, hb⟩ => ⟨he, fun ok => hd.mono (fun k hk => hk.elim), hb⟩
theorem cut_int {w : World} {g : Nat} {ok : Nat → Prop} {room safe : Nat} {bs : List Int} (x : Int) (n : Nat) (hx : x = (n : Int)) (h : DiskAt w g ok room safe bs) (hn : n ≤ bs.length) : Calls Try.prog 57 #[.pointer (some ⟨g, 0, none⟩), .int .i64 x] w fun e w' =>
    e = .returned (.int .i64 0) ∧ DiskAt w' g ok room n (bs.take n) ∧ Moved w w' (OfDisk g ok) := by
  subst hx
  exact cut_ok n h hn
/-- A number of a small row. -/
theorem small_rem (a : Int) (m : Int) (h0 : 0 < m) (h1 : m ≤ 100000) : ∃ r : Nat, (r : Int) < m ∧ wrap64 (Int.tmod (IntKind.u64.wrap a) m) = (r : Int) := by
  have h0' : 0 ≤ IntKind.u64.wrap a := by rw [IntKind.wrap_u64]; omega
  have h1' : Int.tmod (IntKind.u64.wrap a) m = IntKind.u64.wrap a % m := Int.tmod_eq_emod_of_nonneg h0'
  have h2 : 0 ≤ IntKind.u64.wrap a % m := Int.emod_nonneg _ (by omega)
  have h3 : IntKind.u64.wrap a % m < m := Int.emod_lt_of_pos _ h0
  exact ⟨(IntKind.u64.wrap a % m).toNat, by omega, by rw [h1']; unfold wrap64; omega⟩
theorem at_step {W : World} {ok : Nat → Prop} {A : Option Addr} {m c : Nat} {l : List S52} (h : Kd.V k52 52 W 0 ok (.slice A m c) l) {n : Nat} (hn : n < l.length) :
    ∃ ad A2 c2, A = some ad ∧ W.cell? (ad.add (n * 3)) = some (.int .i64 (rd_T52 l (n : Int)).f0) ∧ W.cell? ⟨(ad.add (n * 3)).block, (ad.add (n * 3)).off + 1, none⟩ = some (.int .i64 (rd_T52 l (n : Int)).f1) ∧ W.cell? ⟨(ad.add (n * 3)).block, (ad.add (n * 3)).off + 2, none⟩ = some (.slice A2 (rd_T52 l (n : Int)).f2.length c2) ∧ (rd_T52 l (n : Int)).f2.length ≤ c2 ∧ Kd.C (Kd.int .u8) W A2 (rd_T52 l (n : Int)).f2.length (rd_T52 l (n : Int)).f2 := by
  obtain ⟨e, _, hC⟩ := Kd.V_reads' h
  have h1 := at_T52 hC (n : Int) (by omega) (by omega)
  rw [Int.toNat_natCast] at h1
  exact h1
theorem step_mem {l : List S52} {n : Nat} (hn : n < l.length) : rd_T52 l (n : Int) ∈ l := by
  unfold rd_T52
  rw [Int.toNat_natCast, List.getD_eq_getElem?_getD, List.getElem?_eq_getElem hn]
  exact List.getElem_mem hn
/-- A disk beside a script. -/
structure DiskScript (w wr : World) (N3 g : Nat) (room safe : Nat) (bs : List Int) (v : Value) (l : List S52) : Prop where
  d : DiskAt wr g (fun k => N3 ≤ k) room safe bs
  s : Kd.V k52 52 wr 0 (fun k => k < N3 ∧ k ≠ g) v l
  hN : w.heap.size ≤ N3
  hg : w.heap.size ≤ g
  below : Below w.heap.size w wr
  hs : N3 ≤ wr.heap.size
theorem DiskScript.moved {w wr w1 : World} {N3 g room safe safe' : Nat} {bs bs' : List Int} {v : Value} {l : List S52} (h : DiskScript w wr N3 g room safe bs v l) (hd : DiskAt w1 g (fun k => N3 ≤ k) room safe' bs') (hm : Moved wr w1 (OfDisk g (fun k => N3 ≤ k))) : DiskScript w w1 N3 g room safe' bs' v l :=
  ⟨hd, Kd.V_kept h.s hm.kept (fun k hk hS => hS.elim (fun e => hk.2 e) (fun e => by have := hk.1; omega)), h.hN, h.hg, Moved.from_below h.below hm (fun k hk => hk.elim (fun e => by have := h.hg; omega) (fun e => by have := h.hN; omega)) h.below.size, Nat.le_trans h.hs hm.size⟩
theorem DiskScript.drewN {w wr : World} {N3 g room safe : Nat} {bs : List Int} {v : Value} {l : List S52} (h : DiskScript w wr N3 g room safe bs v l) (n : Nat) : DiskScript w (wr.drewN n) N3 g room safe bs v l := ⟨h.d.drewN n, Kd.V_drewN h.s n, h.hN, h.hg, pw_below_drewN h.below n, h.hs⟩
theorem DiskScript.next {w wr w1 : World} {N3 g room safe : Nat} {bs : List Int} {v : Value} {l : List S52} (h : DiskScript w wr N3 g room safe bs v l) (hb : Below wr.heap.size wr w1) : DiskScript w w1 N3 g room safe bs v l :=
  ⟨h.d.below hb, Kd.V_below h.s hb, h.hN, h.hg, below_step h.below hb, Nat.le_trans h.hs hb.size⟩

set_option maxRecDepth 100000 in
set_option maxHeartbeats 4000000 in
theorem diskRoom_any (a : Int) (A0 : Option Addr) (c0 : Nat) (l0 : List S52) (w : World) (h0 : Kd.C k52 w A0 l0.length l0) (hc0 : l0.length ≤ c0) (ok0 : ∀ z ∈ l0, okS5 z) :
    Calls Try.prog 13 #[.int .i64 a, .slice A0 l0.length c0] w fun e w' => e = .returned (.bool true) ∧ Below w.heap.size w w' := by
  obtain ⟨room, hroom, hr⟩ := small_rem a 200 (by omega) (by omega)
  have hro : roomOf (room : Int) = room := by unfold roomOf; rw [if_neg (by omega), if_neg (by omega), Int.toNat_natCast]
  have hS := steps_V h0 hc0
  have hE := early5_ok ok0
  have hel := early5_len l0
  have HS := Aside0.mk hS
  have HRO := Aside0.mk hro
  clear hS ok0 h0 hro
  obtain ⟨l, hl⟩ : ∃ l, early5 l0 = l := ⟨_, rfl⟩
  rw [hl] at hE hel
  have HL := Aside0.mk hl
  have HE := Aside0.mk hE
  clear hl hE
  go_enter Try.func13, Try.ntmps13
  go_wp2_with (first
    | (go_at_call 36; refine (lives5_any _).mono ?_; rintro e w1 ⟨rfl, hb⟩; have HB := Aside0.mk hb; clear hb)
    | (go_at_call 37; refine (new_all _ _).mono ?_; rintro e w2 ⟨rfl, hd, hb⟩; rw [HRO.out] at hd; have HD := Aside0.mk hd; have HBN := Aside0.mk HB.out.size; have HN := Aside0.mk (hd (fun _ => False)).lt; have HB2 := Aside0.mk (below_step HB.out hb); clear hd hb HB)
    | (go_at_call 51; refine (early5_any (fun k => k < w.heap.size) A0 c0 l0 _ ?hv).mono ?_; (case hv => exact Kd.V_below HS.out HB2.out); rintro e w3 ⟨A3, c3, he, hV, hb⟩; rw [HL.out] at he hV; subst he; have HC := Lib.hid (show DiskScript w w3 w3.heap.size w1.heap.size room 0 [] (.slice A3 l.length c3) l from ⟨(HD.out _).below hb, Kd.V_mono hV (fun k hk => ⟨hk.2, fun e => by have := hk.1; have := HBN.out; have := HN.out; omega⟩), (below_step HB2.out hb).size, HBN.out, below_step HB2.out hb, Nat.le_refl _⟩); clear hV hb HD HB2))
  clear hr
  generalize w3.heap.size = N3 at *
  generalize w1.heap.size = g at *
  go_loopw [6] (fun i wr => ∃ n : Nat, n ≤ l.length ∧ i = .int .i64 (n : Int) ∧ Hid (∃ safe bs, DiskScript w wr N3 g room safe bs (.slice A3 l.length c3) l)) (fun i _ => l.length - (intOf i).toNat)
  case atStart => exact ⟨0, by omega, rfl, Lib.hid ⟨0, [], HC.out⟩⟩
  case round =>
    obtain ⟨n, hn, rfl, HC2⟩ := hrel
    clear HC
    obtain ⟨safe, bs, hx⟩ := HC2.out
    have HX := Lib.hid hx
    clear hx HC2
    by_cases hlt : n < l.length
    · have hxC := (Kd.V_reads' HX.out.s).2.2
      go_wp2
      have HX0 := Lib.hid (show DiskScript w wr.drew N3 g room safe bs (.slice A3 l.length c3) l from ⟨HX.out.d.drew, Kd.V_drew HX.out.s, HX.out.hN, HX.out.hg, below_drew HX.out.below, HX.out.hs⟩)
      clear HX hxC
      refine start_ (n := 7) (S := fun w' => True) (ds := []) #[false, false, false, false, false, false, false] (by kernel_rfl) rfl rfl trivial (fun hHeld => ?_)
      refine pure_ (i := 0) (N := some 26) (v := ?_) (a' := ?_) #[true, false, false, false, false, false, false] rfl rfl (by kernel_rfl) (fun _ _ _ h => h) (Or.inl ⟨by rfl, ?_⟩) ?_ ?_
      rotate_left
      · intro w'
        go_simp
        with_reducible rfl
      rotate_left
      · simp only [Act.put, List.setIfInBounds_toArray, List.set_cons_zero, List.set_cons_succ, i64_w, i32_w]
        rfl
      refine pure_ (i := 3) (N := some 29) (v := ?_) (a' := ?_) #[true, false, false, true, false, false, false] rfl rfl (by kernel_rfl) (fun _ _ _ h => h) (Or.inl ⟨by rfl, ?_⟩) ?_ ?_
      rotate_left
      · intro w'
        go_simp
        with_reducible rfl
      rotate_left
      · simp only [Act.put, List.setIfInBounds_toArray, List.set_cons_zero, List.set_cons_succ, i64_w, i32_w]
        rfl
      refine one_ (i := 1) (N := some 27) #[true, true, false, true, false, false, false] rfl rfl (by kernel_rfl) (by decide) (fun K hK => ?_)
      refine goes_ Try.func41 (by kernel_rfl) rfl #[.pointer (some ⟨g, 0, none⟩)] (by rfl) rfl rfl (by simp only [List.map_toArray, List.map_cons, List.map_nil]; rfl) ?_
      with_reducible refine (all_any HX0.out.d).mono ?_
      rintro e w4 ⟨v, rfl, ho, hb⟩
      refine ⟨_, rfl, ?_⟩
      obtain ⟨A, c, hv, hl, hC⟩ := Kd.R_reads ho
      rw [hv]
      have hcv := Kd.C_string (P := Try.prog) (A := A) (c := c) Try.underlying22 Try.underlying5 Try.underlying9 hC
      have HX1 := Lib.hid (HX0.out.next hb)
      clear hv hl hC ho hb HX0
      refine hK.out _ _ trivial (fun hHeld => ?_)
      clear hK K
      refine norm_ (a' := ?_) ?_ ?_
      rotate_left
      · show Act.put _ (some 27) _ = _
        simp only [Act.put, List.setIfInBounds_toArray, List.set_cons_zero, List.set_cons_succ, i64_w, i32_w]
        rfl
      refine join_ (σ := Unit) 2 #[true, true, true, true, true, false, false] (fun _ => [(28, .string (strOfNums bs)), (30, .int .i64 (safe : Int))]) (fun _ w' => w4 = w') ?_ ?_
      rotate_left
      · intro hCont
        refine two_ (i := 2) (j := 4) (Ni := some 28) (Nj := some 30) #[true, true, true, true, false, false, false] #[true, true, false, true, true, false, false] rfl rfl rfl rfl (by kernel_rfl) (by decide) (by decide) (fun K hK => ?_) (fun K hK => ?_)
        · skip
          refine value_ (w1 := ?_) (v := ?_) (by rfl) rfl ?_ ?_
          rotate_left 2
          · go_simp
            constructor
            · rfl
            · rfl
          refine hK.out _ _ trivial (fun hHeld => ?_)
          clear hK K
          refine norm_ (a' := ?_) ?_ ?_
          rotate_left
          · show Act.put _ (some 28) _ = _
            simp only [Act.put, List.setIfInBounds_toArray, List.set_cons_zero, List.set_cons_succ, i64_w, i32_w]
            rfl
          refine one_ (i := 4) (N := some 30) #[true, true, true, true, true, false, false] rfl rfl (by kernel_rfl) (by decide) (fun K hK => ?_)
          refine goes_ Try.func42 (by kernel_rfl) rfl #[.pointer (some ⟨g, 0, none⟩)] (by rfl) rfl rfl (by simp only [List.map_toArray, List.map_cons, List.map_nil]; rfl) ?_
          with_reducible refine (safe_any HX1.out.d).mono ?_
          rintro e w5 ⟨rfl, rfl⟩
          refine ⟨_, rfl, ?_⟩
          refine hK.out _ _ trivial (fun hHeld => ?_)
          clear hK K
          refine norm_ (a' := ?_) ?_ ?_
          rotate_left
          · show Act.put _ (some 30) _ = _
            simp only [Act.put, List.setIfInBounds_toArray, List.set_cons_zero, List.set_cons_succ, i64_w, i32_w]
            rfl
          exact norm_ (by simp only [putAll, Act.put, List.setIfInBounds_toArray, List.set_cons_zero, List.set_cons_succ]) (hCont () _ rfl)
        · skip
          refine goes_ Try.func42 (by kernel_rfl) rfl #[.pointer (some ⟨g, 0, none⟩)] (by rfl) rfl rfl (by simp only [List.map_toArray, List.map_cons, List.map_nil]; rfl) ?_
          with_reducible refine (safe_any HX1.out.d).mono ?_
          rintro e w5 ⟨rfl, rfl⟩
          refine ⟨_, rfl, ?_⟩
          refine hK.out _ _ trivial (fun hHeld => ?_)
          clear hK K
          refine norm_ (a' := ?_) ?_ ?_
          rotate_left
          · show Act.put _ (some 30) _ = _
            simp only [Act.put, List.setIfInBounds_toArray, List.set_cons_zero, List.set_cons_succ, i64_w, i32_w]
            rfl
          refine one_ (i := 2) (N := some 28) #[true, true, true, true, true, false, false] rfl rfl (by kernel_rfl) (by decide) (fun K hK => ?_)
          refine value_ (w1 := ?_) (v := ?_) (by rfl) rfl ?_ ?_
          rotate_left 2
          · go_simp
            constructor
            · rfl
            · rfl
          refine hK.out _ _ trivial (fun hHeld => ?_)
          clear hK K
          refine norm_ (a' := ?_) ?_ ?_
          rotate_left
          · show Act.put _ (some 28) _ = _
            simp only [Act.put, List.setIfInBounds_toArray, List.set_cons_zero, List.set_cons_succ, i64_w, i32_w]
            rfl
          exact norm_ (by simp only [putAll, Act.put, List.setIfInBounds_toArray, List.set_cons_zero, List.set_cons_succ]) (hCont () _ rfl)
      rintro _ _ rfl
      have hHeld : True := trivial
      refine norm_ (a' := ?_) ?_ ?_
      rotate_left
      · simp only [putAll, Act.put, List.setIfInBounds_toArray, List.set_cons_zero, List.set_cons_succ]
        rfl
      refine pure_ (i := 5) (N := some 7) (v := ?_) (a' := ?_) #[true, true, true, true, true, true, false] rfl rfl (by kernel_rfl) (fun _ _ _ h => h) (Or.inl ⟨by rfl, ?_⟩) ?_ ?_
      rotate_left
      · intro w'
        go_simp
        with_reducible rfl
      rotate_left
      · simp only [Act.put, List.setIfInBounds_toArray, List.set_cons_zero, List.set_cons_succ, i64_w, i32_w]
        rfl
      refine pure_ (i := 6) (N := some 8) (v := ?_) (a' := ?_) #[true, true, true, true, true, true, true] rfl rfl (by kernel_rfl) (fun _ _ _ h => h) (Or.inl ⟨by rfl, ?_⟩) ?_ ?_
      rotate_left
      · intro w'
        go_simp
        with_reducible rfl
      rotate_left
      · simp only [Act.put, List.setIfInBounds_toArray, List.set_cons_zero, List.set_cons_succ, i64_w, i32_w]
        rfl
      refine done_ (by kernel_rfl) ?_
      obtain ⟨ad, A2, c2, rfl, hx0, hx1, hx2, hl2, hC2⟩ := at_step HX1.out.s hlt
      obtain ⟨ho2, hl40⟩ := HE.out _ (step_mem hlt)
      have HZ := Aside0.mk (show ∀ (W : World) (ok : Nat → Prop), Kd.V k52 52 W 0 ok (.slice (some ad) l.length c3) l → _ from fun W ok hV => at_step hV hlt)
      generalize rd_T52 l (n : Int) = z at *
      obtain ⟨K, hK6, hK⟩ := small_rem z.f0 6 (by omega) (by omega)
      have HKI := Aside0.mk (show pacesetterlaw05_Step_kind.f z.f0 z.f1 z.f2 = some (K : Int) by unfold pacesetterlaw05_Step_kind.f; rw [hK])
      have HC2 := Aside0.mk hC2
      have HO2 := Aside0.mk ho2
      clear hC2 hK ho2 hcv
      have hl63 : z.f2.length ≤ 9223372036854775807 := by omega
      have hsz : (strOfNums bs).size = bs.length := str_size bs
      have hbl := HX1.out.d.roomLe
      have hmo := HX1.out.d.most
      have hsl := HX1.out.d.safeLe
      obtain ⟨k, hk⟩ : ∃ k : Int, (K : Int) = k := ⟨_, rfl⟩
      rw [hk] at HKI hK6
      have hk0 : 0 ≤ k := by omega
      clear hk
      rcases (by omega : k = 0 ∨ k = 1 ∨ k = 2 ∨ k = 3 ∨ k = 4 ∨ k = 5) with rfl | rfl | rfl | rfl | rfl | rfl
      · by_cases hfit : bs.length + z.f2.length ≤ room
        · have hdec : decide ((bs.length : Int) + (z.f2.length : Int) ≤ (room : Int)) = true := decide_eq_true (by omega)
          go_wp2_with (first
        | (go_at_call 52; refine (pacesetterlaw05_Step_kind.calls z.f0 z.f1 A2 c2 z.f2 0 _ HC2.out hl2 HKI.out).mono ?_; rintro e w6 ⟨rfl, hb⟩; have HX2 := Lib.hid (HX1.out.next hb); obtain ⟨ad', A4, c4, e', hy0, hy1, hy2, hl4, hC4⟩ := HZ.out _ _ HX2.out.s; cases e'; have HC4 := Aside0.mk hC4; clear hb hC4 HX1)
        | (go_at_call 38; refine (write_ok HX2.out.d (fun k hk => Nat.le_trans HX2.out.hs hk) A4 c4 z.f2 HC4.out HO2.out hfit).mono ?_; rintro e w7 ⟨rfl, hd, hm⟩; obtain ⟨s', bs', HX3⟩ : ∃ s' bs', Hid (DiskScript w w7 N3 g room s' bs' (.slice (some ad) l.length c3) l) := ⟨_, _, Lib.hid (HX2.out.moved hd hm)⟩; have hT1 := HX3.out.d.safeLe; have hT2 := HX3.out.d.roomLe; clear hd hm; obtain ⟨ad'', A5, c5, e'', hz0, hz1, hz2, hl5, hC5⟩ := HZ.out _ _ HX3.out.s; cases e''; clear hC5; clear HX2)
        | (go_at_call 43; refine (len_any HX3.out.d).mono ?_; rintro e w8 ⟨rfl, rfl⟩)
        | (go_at_call 59; refine (room_any HX3.out.d).mono ?_; rintro e w8 ⟨rfl, nd, rfl⟩; have HX5 := HX3.out.drewN nd; (try rw [World.drewN_drewN] at HX5); clear HX3; have HX3 := Lib.hid HX5; clear HX5)
        | (go_at_call 42; refine (safe_any HX3.out.d).mono ?_; rintro e w8 ⟨rfl, rfl⟩)
        | (go_at_call 41; refine (all_any HX3.out.d).mono ?_; rintro e w8 ⟨v8, rfl, ho8, hb8⟩; obtain ⟨A8, c8, hv8, hl8, hC8⟩ := Kd.R_reads ho8; rw [hv8]; have hcv8 := Kd.C_string (P := Try.prog) (A := A8) (c := c8) Try.underlying22 Try.underlying5 Try.underlying9 hC8; have HX5 := Lib.hid (HX3.out.next hb8); clear HX3 hv8 hl8 hC8 ho8 hb8; have HX3 := HX5; clear HX5))
          go_roundw
          case rel => exact ⟨n + 1, by omega, by go_num, Lib.hid ⟨_, _, HX3.out⟩⟩
          case measure => simp [intOf]; omega
        · have hfull : room < bs.length + z.f2.length := by omega
          have hdec : decide ((bs.length : Int) + (z.f2.length : Int) ≤ (room : Int)) = false := decide_eq_false (by omega)
          clear hfit
          go_wp2_with (first
        | (go_at_call 52; refine (pacesetterlaw05_Step_kind.calls z.f0 z.f1 A2 c2 z.f2 0 _ HC2.out hl2 HKI.out).mono ?_; rintro e w6 ⟨rfl, hb⟩; have HX2 := Lib.hid (HX1.out.next hb); obtain ⟨ad', A4, c4, e', hy0, hy1, hy2, hl4, hC4⟩ := HZ.out _ _ HX2.out.s; cases e'; have HC4 := Aside0.mk hC4; clear hb hC4 HX1)
        | (go_at_call 38; refine (write_full HX2.out.d A4 c4 z.f2 hl63 hfull).mono ?_; rintro e w7 ⟨rfl, nd, rfl⟩; have HX3 := Lib.hid (HX2.out.drewN nd); have hT1 := HX3.out.d.safeLe; have hT2 := HX3.out.d.roomLe; obtain ⟨ad'', A5, c5, e'', hz0, hz1, hz2, hl5, hC5⟩ := HZ.out _ _ HX3.out.s; cases e''; clear hC5; clear HX2)
        | (go_at_call 43; refine (len_any HX3.out.d).mono ?_; rintro e w8 ⟨rfl, rfl⟩)
        | (go_at_call 59; refine (room_any HX3.out.d).mono ?_; rintro e w8 ⟨rfl, nd, rfl⟩; have HX5 := HX3.out.drewN nd; (try rw [World.drewN_drewN] at HX5); clear HX3; have HX3 := Lib.hid HX5; clear HX5)
        | (go_at_call 42; refine (safe_any HX3.out.d).mono ?_; rintro e w8 ⟨rfl, rfl⟩)
        | (go_at_call 41; refine (all_any HX3.out.d).mono ?_; rintro e w8 ⟨v8, rfl, ho8, hb8⟩; obtain ⟨A8, c8, hv8, hl8, hC8⟩ := Kd.R_reads ho8; rw [hv8]; have hcv8 := Kd.C_string (P := Try.prog) (A := A8) (c := c8) Try.underlying22 Try.underlying5 Try.underlying9 hC8; have HX5 := Lib.hid (HX3.out.next hb8); clear HX3 hv8 hl8 hC8 ho8 hb8; have HX3 := HX5; clear HX5))
          go_roundw
          case rel => exact ⟨n + 1, by omega, by go_num, Lib.hid ⟨_, _, HX3.out⟩⟩
          case measure => simp [intOf]; omega
      · by_cases hfit : bs.length + z.f2.length ≤ room
        · have hdec : decide ((bs.length : Int) + (z.f2.length : Int) ≤ (room : Int)) = true := decide_eq_true (by omega)
          go_wp2_with (first
        | (go_at_call 52; refine (pacesetterlaw05_Step_kind.calls z.f0 z.f1 A2 c2 z.f2 1 _ HC2.out hl2 HKI.out).mono ?_; rintro e w6 ⟨rfl, hb⟩; have HX2 := Lib.hid (HX1.out.next hb); obtain ⟨ad', A4, c4, e', hy0, hy1, hy2, hl4, hC4⟩ := HZ.out _ _ HX2.out.s; cases e'; have HC4 := Aside0.mk hC4; clear hb hC4 HX1)
        | (go_at_call 38; refine (write_ok HX2.out.d (fun k hk => Nat.le_trans HX2.out.hs hk) A4 c4 z.f2 HC4.out HO2.out hfit).mono ?_; rintro e w7 ⟨rfl, hd, hm⟩; obtain ⟨s', bs', HX3⟩ : ∃ s' bs', Hid (DiskScript w w7 N3 g room s' bs' (.slice (some ad) l.length c3) l) := ⟨_, _, Lib.hid (HX2.out.moved hd hm)⟩; have hT1 := HX3.out.d.safeLe; have hT2 := HX3.out.d.roomLe; clear hd hm; obtain ⟨ad'', A5, c5, e'', hz0, hz1, hz2, hl5, hC5⟩ := HZ.out _ _ HX3.out.s; cases e''; clear hC5; clear HX2)
        | (go_at_call 43; refine (len_any HX3.out.d).mono ?_; rintro e w8 ⟨rfl, rfl⟩)
        | (go_at_call 59; refine (room_any HX3.out.d).mono ?_; rintro e w8 ⟨rfl, nd, rfl⟩; have HX5 := HX3.out.drewN nd; (try rw [World.drewN_drewN] at HX5); clear HX3; have HX3 := Lib.hid HX5; clear HX5)
        | (go_at_call 42; refine (safe_any HX3.out.d).mono ?_; rintro e w8 ⟨rfl, rfl⟩)
        | (go_at_call 41; refine (all_any HX3.out.d).mono ?_; rintro e w8 ⟨v8, rfl, ho8, hb8⟩; obtain ⟨A8, c8, hv8, hl8, hC8⟩ := Kd.R_reads ho8; rw [hv8]; have hcv8 := Kd.C_string (P := Try.prog) (A := A8) (c := c8) Try.underlying22 Try.underlying5 Try.underlying9 hC8; have HX5 := Lib.hid (HX3.out.next hb8); clear HX3 hv8 hl8 hC8 ho8 hb8; have HX3 := HX5; clear HX5))
          go_roundw
          case rel => exact ⟨n + 1, by omega, by go_num, Lib.hid ⟨_, _, HX3.out⟩⟩
          case measure => simp [intOf]; omega
        · have hfull : room < bs.length + z.f2.length := by omega
          have hdec : decide ((bs.length : Int) + (z.f2.length : Int) ≤ (room : Int)) = false := decide_eq_false (by omega)
          clear hfit
          go_wp2_with (first
        | (go_at_call 52; refine (pacesetterlaw05_Step_kind.calls z.f0 z.f1 A2 c2 z.f2 1 _ HC2.out hl2 HKI.out).mono ?_; rintro e w6 ⟨rfl, hb⟩; have HX2 := Lib.hid (HX1.out.next hb); obtain ⟨ad', A4, c4, e', hy0, hy1, hy2, hl4, hC4⟩ := HZ.out _ _ HX2.out.s; cases e'; have HC4 := Aside0.mk hC4; clear hb hC4 HX1)
        | (go_at_call 38; refine (write_full HX2.out.d A4 c4 z.f2 hl63 hfull).mono ?_; rintro e w7 ⟨rfl, nd, rfl⟩; have HX3 := Lib.hid (HX2.out.drewN nd); have hT1 := HX3.out.d.safeLe; have hT2 := HX3.out.d.roomLe; obtain ⟨ad'', A5, c5, e'', hz0, hz1, hz2, hl5, hC5⟩ := HZ.out _ _ HX3.out.s; cases e''; clear hC5; clear HX2)
        | (go_at_call 43; refine (len_any HX3.out.d).mono ?_; rintro e w8 ⟨rfl, rfl⟩)
        | (go_at_call 59; refine (room_any HX3.out.d).mono ?_; rintro e w8 ⟨rfl, nd, rfl⟩; have HX5 := HX3.out.drewN nd; (try rw [World.drewN_drewN] at HX5); clear HX3; have HX3 := Lib.hid HX5; clear HX5)
        | (go_at_call 42; refine (safe_any HX3.out.d).mono ?_; rintro e w8 ⟨rfl, rfl⟩)
        | (go_at_call 41; refine (all_any HX3.out.d).mono ?_; rintro e w8 ⟨v8, rfl, ho8, hb8⟩; obtain ⟨A8, c8, hv8, hl8, hC8⟩ := Kd.R_reads ho8; rw [hv8]; have hcv8 := Kd.C_string (P := Try.prog) (A := A8) (c := c8) Try.underlying22 Try.underlying5 Try.underlying9 hC8; have HX5 := Lib.hid (HX3.out.next hb8); clear HX3 hv8 hl8 hC8 ho8 hb8; have HX3 := HX5; clear HX5))
          go_roundw
          case rel => exact ⟨n + 1, by omega, by go_num, Lib.hid ⟨_, _, HX3.out⟩⟩
          case measure => simp [intOf]; omega
      · skip
        go_wp2_with (first
        | (go_at_call 52; refine (pacesetterlaw05_Step_kind.calls z.f0 z.f1 A2 c2 z.f2 2 _ HC2.out hl2 HKI.out).mono ?_; rintro e w6 ⟨rfl, hb⟩; have HX2 := Lib.hid (HX1.out.next hb); obtain ⟨ad', A4, c4, e', hy0, hy1, hy2, hl4, hC4⟩ := HZ.out _ _ HX2.out.s; cases e'; have HC4 := Aside0.mk hC4; clear hb hC4 HX1)
        | (go_at_call 39; refine (sync_any HX2.out.d).mono ?_; rintro e w7 ⟨rfl, hd, hm⟩; obtain ⟨s', bs', HX3⟩ : ∃ s' bs', Hid (DiskScript w w7 N3 g room s' bs' (.slice (some ad) l.length c3) l) := ⟨_, _, Lib.hid (HX2.out.moved hd hm)⟩; have hT1 := HX3.out.d.safeLe; have hT2 := HX3.out.d.roomLe; clear hd hm; clear HX2)
        | (go_at_call 43; refine (len_any HX3.out.d).mono ?_; rintro e w8 ⟨rfl, rfl⟩)
        | (go_at_call 59; refine (room_any HX3.out.d).mono ?_; rintro e w8 ⟨rfl, nd, rfl⟩; have HX5 := HX3.out.drewN nd; (try rw [World.drewN_drewN] at HX5); clear HX3; have HX3 := Lib.hid HX5; clear HX5)
        | (go_at_call 42; refine (safe_any HX3.out.d).mono ?_; rintro e w8 ⟨rfl, rfl⟩)
        | (go_at_call 41; refine (all_any HX3.out.d).mono ?_; rintro e w8 ⟨v8, rfl, ho8, hb8⟩; obtain ⟨A8, c8, hv8, hl8, hC8⟩ := Kd.R_reads ho8; rw [hv8]; have hcv8 := Kd.C_string (P := Try.prog) (A := A8) (c := c8) Try.underlying22 Try.underlying5 Try.underlying9 hC8; have HX5 := Lib.hid (HX3.out.next hb8); clear HX3 hv8 hl8 hC8 ho8 hb8; have HX3 := HX5; clear HX5))
        go_roundw
        case rel => exact ⟨n + 1, by omega, by go_num, Lib.hid ⟨_, _, HX3.out⟩⟩
        case measure => simp [intOf]; omega
      · skip
        go_wp2_with (first
        | (go_at_call 52; refine (pacesetterlaw05_Step_kind.calls z.f0 z.f1 A2 c2 z.f2 3 _ HC2.out hl2 HKI.out).mono ?_; rintro e w6 ⟨rfl, hb⟩; have HX2 := Lib.hid (HX1.out.next hb); obtain ⟨ad', A4, c4, e', hy0, hy1, hy2, hl4, hC4⟩ := HZ.out _ _ HX2.out.s; cases e'; have HC4 := Aside0.mk hC4; clear hb hC4 HX1; have HX3 := HX2; have hT1 := HX3.out.d.safeLe; have hT2 := HX3.out.d.roomLe; clear HX2)
        | (go_at_call 43; refine (len_any HX3.out.d).mono ?_; rintro e w8 ⟨rfl, rfl⟩)
        | (go_at_call 59; refine (room_any HX3.out.d).mono ?_; rintro e w8 ⟨rfl, nd, rfl⟩; have HX5 := HX3.out.drewN nd; (try rw [World.drewN_drewN] at HX5); clear HX3; have HX3 := Lib.hid HX5; clear HX5)
        | (go_at_call 42; refine (safe_any HX3.out.d).mono ?_; rintro e w8 ⟨rfl, rfl⟩)
        | (go_at_call 41; refine (all_any HX3.out.d).mono ?_; rintro e w8 ⟨v8, rfl, ho8, hb8⟩; obtain ⟨A8, c8, hv8, hl8, hC8⟩ := Kd.R_reads ho8; rw [hv8]; have hcv8 := Kd.C_string (P := Try.prog) (A := A8) (c := c8) Try.underlying22 Try.underlying5 Try.underlying9 hC8; have HX5 := Lib.hid (HX3.out.next hb8); clear HX3 hv8 hl8 hC8 ho8 hb8; have HX3 := HX5; clear HX5))
        go_roundw
        case rel => exact ⟨n + 1, by omega, by go_num, Lib.hid ⟨_, _, HX3.out⟩⟩
        case measure => simp [intOf]; omega
      · by_cases hin : 0 ≤ z.f1 ∧ z.f1 ≤ (bs.length : Int)
        · obtain ⟨N, hN⟩ := Int.eq_ofNat_of_zero_le hin.1
          have hNl : N ≤ bs.length := by omega
          have HN := Aside0.mk hN
          clear hin hN
          go_wp2_with (first
        | (go_at_call 52; refine (pacesetterlaw05_Step_kind.calls z.f0 z.f1 A2 c2 z.f2 4 _ HC2.out hl2 HKI.out).mono ?_; rintro e w6 ⟨rfl, hb⟩; have HX2 := Lib.hid (HX1.out.next hb); obtain ⟨ad', A4, c4, e', hy0, hy1, hy2, hl4, hC4⟩ := HZ.out _ _ HX2.out.s; cases e'; have HC4 := Aside0.mk hC4; clear hb hC4 HX1)
        | (go_at_call 57; refine (cut_int z.f1 N HN.out HX2.out.d hNl).mono ?_; rintro e w7 ⟨rfl, hd, hm⟩; obtain ⟨s', bs', HX3⟩ : ∃ s' bs', Hid (DiskScript w w7 N3 g room s' bs' (.slice (some ad) l.length c3) l) := ⟨_, _, Lib.hid (HX2.out.moved hd hm)⟩; have hT1 := HX3.out.d.safeLe; have hT2 := HX3.out.d.roomLe; clear hd hm; clear HX2)
        | (go_at_call 43; refine (len_any HX3.out.d).mono ?_; rintro e w8 ⟨rfl, rfl⟩)
        | (go_at_call 59; refine (room_any HX3.out.d).mono ?_; rintro e w8 ⟨rfl, nd, rfl⟩; have HX5 := HX3.out.drewN nd; (try rw [World.drewN_drewN] at HX5); clear HX3; have HX3 := Lib.hid HX5; clear HX5)
        | (go_at_call 42; refine (safe_any HX3.out.d).mono ?_; rintro e w8 ⟨rfl, rfl⟩)
        | (go_at_call 41; refine (all_any HX3.out.d).mono ?_; rintro e w8 ⟨v8, rfl, ho8, hb8⟩; obtain ⟨A8, c8, hv8, hl8, hC8⟩ := Kd.R_reads ho8; rw [hv8]; have hcv8 := Kd.C_string (P := Try.prog) (A := A8) (c := c8) Try.underlying22 Try.underlying5 Try.underlying9 hC8; have HX5 := Lib.hid (HX3.out.next hb8); clear HX3 hv8 hl8 hC8 ho8 hb8; have HX3 := HX5; clear HX5))
          go_roundw
          case rel => exact ⟨n + 1, by omega, by go_num, Lib.hid ⟨_, _, HX3.out⟩⟩
          case measure => simp [intOf]; omega
        · have hout : z.f1 < 0 ∨ (bs.length : Int) < z.f1 := by omega
          have HOUT := Aside0.mk hout
          clear hin hout
          go_wp2_with (first
        | (go_at_call 52; refine (pacesetterlaw05_Step_kind.calls z.f0 z.f1 A2 c2 z.f2 4 _ HC2.out hl2 HKI.out).mono ?_; rintro e w6 ⟨rfl, hb⟩; have HX2 := Lib.hid (HX1.out.next hb); obtain ⟨ad', A4, c4, e', hy0, hy1, hy2, hl4, hC4⟩ := HZ.out _ _ HX2.out.s; cases e'; have HC4 := Aside0.mk hC4; clear hb hC4 HX1)
        | (go_at_call 57; refine (cut_bad z.f1 HX2.out.d HOUT.out).mono ?_; rintro e w7 ⟨rfl, rfl⟩; have HX3 := HX2; have hT1 := HX3.out.d.safeLe; have hT2 := HX3.out.d.roomLe; clear HX2)
        | (go_at_call 43; refine (len_any HX3.out.d).mono ?_; rintro e w8 ⟨rfl, rfl⟩)
        | (go_at_call 59; refine (room_any HX3.out.d).mono ?_; rintro e w8 ⟨rfl, nd, rfl⟩; have HX5 := HX3.out.drewN nd; (try rw [World.drewN_drewN] at HX5); clear HX3; have HX3 := Lib.hid HX5; clear HX5)
        | (go_at_call 42; refine (safe_any HX3.out.d).mono ?_; rintro e w8 ⟨rfl, rfl⟩)
        | (go_at_call 41; refine (all_any HX3.out.d).mono ?_; rintro e w8 ⟨v8, rfl, ho8, hb8⟩; obtain ⟨A8, c8, hv8, hl8, hC8⟩ := Kd.R_reads ho8; rw [hv8]; have hcv8 := Kd.C_string (P := Try.prog) (A := A8) (c := c8) Try.underlying22 Try.underlying5 Try.underlying9 hC8; have HX5 := Lib.hid (HX3.out.next hb8); clear HX3 hv8 hl8 hC8 ho8 hb8; have HX3 := HX5; clear HX5))
          go_roundw
          case rel => exact ⟨n + 1, by omega, by go_num, Lib.hid ⟨_, _, HX3.out⟩⟩
          case measure => simp [intOf]; omega
      · by_cases hfit : z.f2.length ≤ room
        · skip
          go_wp2_with (first
        | (go_at_call 52; refine (pacesetterlaw05_Step_kind.calls z.f0 z.f1 A2 c2 z.f2 5 _ HC2.out hl2 HKI.out).mono ?_; rintro e w6 ⟨rfl, hb⟩; have HX2 := Lib.hid (HX1.out.next hb); obtain ⟨ad', A4, c4, e', hy0, hy1, hy2, hl4, hC4⟩ := HZ.out _ _ HX2.out.s; cases e'; have HC4 := Aside0.mk hC4; clear hb hC4 HX1)
        | (go_at_call 49; refine (swap_ok HX2.out.d (fun k hk => Nat.le_trans HX2.out.hs hk) A4 c4 z.f2 HC4.out HO2.out hfit).mono ?_; rintro e w7 ⟨rfl, hd, hm⟩; obtain ⟨s', bs', HX3⟩ : ∃ s' bs', Hid (DiskScript w w7 N3 g room s' bs' (.slice (some ad) l.length c3) l) := ⟨_, _, Lib.hid (HX2.out.moved hd hm)⟩; have hT1 := HX3.out.d.safeLe; have hT2 := HX3.out.d.roomLe; clear hd hm; clear HX2)
        | (go_at_call 43; refine (len_any HX3.out.d).mono ?_; rintro e w8 ⟨rfl, rfl⟩)
        | (go_at_call 59; refine (room_any HX3.out.d).mono ?_; rintro e w8 ⟨rfl, nd, rfl⟩; have HX5 := HX3.out.drewN nd; (try rw [World.drewN_drewN] at HX5); clear HX3; have HX3 := Lib.hid HX5; clear HX5)
        | (go_at_call 42; refine (safe_any HX3.out.d).mono ?_; rintro e w8 ⟨rfl, rfl⟩)
        | (go_at_call 41; refine (all_any HX3.out.d).mono ?_; rintro e w8 ⟨v8, rfl, ho8, hb8⟩; obtain ⟨A8, c8, hv8, hl8, hC8⟩ := Kd.R_reads ho8; rw [hv8]; have hcv8 := Kd.C_string (P := Try.prog) (A := A8) (c := c8) Try.underlying22 Try.underlying5 Try.underlying9 hC8; have HX5 := Lib.hid (HX3.out.next hb8); clear HX3 hv8 hl8 hC8 ho8 hb8; have HX3 := HX5; clear HX5))
          go_roundw
          case rel => exact ⟨n + 1, by omega, by go_num, Lib.hid ⟨_, _, HX3.out⟩⟩
          case measure => simp [intOf]; omega
        · have hfull : room < z.f2.length := by omega
          go_wp2_with (first
        | (go_at_call 52; refine (pacesetterlaw05_Step_kind.calls z.f0 z.f1 A2 c2 z.f2 5 _ HC2.out hl2 HKI.out).mono ?_; rintro e w6 ⟨rfl, hb⟩; have HX2 := Lib.hid (HX1.out.next hb); obtain ⟨ad', A4, c4, e', hy0, hy1, hy2, hl4, hC4⟩ := HZ.out _ _ HX2.out.s; cases e'; have HC4 := Aside0.mk hC4; clear hb hC4 HX1)
        | (go_at_call 49; refine (swap_full HX2.out.d A4 c4 z.f2 hl63 hfull).mono ?_; rintro e w7 ⟨rfl, rfl⟩; have HX3 := HX2; have hT1 := HX3.out.d.safeLe; have hT2 := HX3.out.d.roomLe; clear HX2)
        | (go_at_call 43; refine (len_any HX3.out.d).mono ?_; rintro e w8 ⟨rfl, rfl⟩)
        | (go_at_call 59; refine (room_any HX3.out.d).mono ?_; rintro e w8 ⟨rfl, nd, rfl⟩; have HX5 := HX3.out.drewN nd; (try rw [World.drewN_drewN] at HX5); clear HX3; have HX3 := Lib.hid HX5; clear HX5)
        | (go_at_call 42; refine (safe_any HX3.out.d).mono ?_; rintro e w8 ⟨rfl, rfl⟩)
        | (go_at_call 41; refine (all_any HX3.out.d).mono ?_; rintro e w8 ⟨v8, rfl, ho8, hb8⟩; obtain ⟨A8, c8, hv8, hl8, hC8⟩ := Kd.R_reads ho8; rw [hv8]; have hcv8 := Kd.C_string (P := Try.prog) (A := A8) (c := c8) Try.underlying22 Try.underlying5 Try.underlying9 hC8; have HX5 := Lib.hid (HX3.out.next hb8); clear HX3 hv8 hl8 hC8 ho8 hb8; have HX3 := HX5; clear HX5))
          go_roundw
          case rel => exact ⟨n + 1, by omega, by go_num, Lib.hid ⟨_, _, HX3.out⟩⟩
          case measure => simp [intOf]; omega
    · obtain rfl : n = l.length := by omega
      go_wp2
      go_ret
      exact ⟨rfl, HX.out.below⟩
end Go.Proofs.Ytbcienbnhchdeaa.Hand

/- The second reading's disk: a crash, a cut, a swap (the print tells the others). -/
namespace Go.Proofs.Ytbcienbnhchdeaa.Hand
open Go Go.RowKit Go.Proofs.YtbcienbnhchdeaaW.PrintLast Go.Proofs.YtbcienbnhchdeaaW.PrintWords Go.Proofs.YtbcienbnhchdeaaW.PrintMore PrD
set_option linter.unusedVariables false
set_option linter.unusedSimpArgs false
attribute [local go_sem] max2_int min2_int max_two min_two

set_option maxRecDepth 100000 in
set_option maxHeartbeats 1000000 in
theorem ref_crash (room : Int) (sa sb : ByteArray) (keep : Int) (K : Nat) (hK : keepOf keep sb.size = K) (hsz : sa.size + sb.size ≤ 1000000000) (w : World) :
    Calls Try.prog 55 #[.agg #[.int .i64 room, .string sa, .string sb], .int .i64 keep] w fun e w' => e = .returned (.tuple #[.agg #[.int .i64 room, .string (sa ++ sb.extract 0 K), .string ⟨#[]⟩], .int .i64 ((sb.size : Int) - (K : Int))]) ∧ Below w.heap.size w w' := by
  obtain ⟨M, hM⟩ : ∃ M : Int, (if keep < 0 then 0 else keep) = M := ⟨_, rfl⟩
  have hmn := keep_min keep sb.size
  have hle := keepOf_le keep sb.size
  rw [hK] at hle
  rw [hK, hM] at hmn
  have hK0 : (0 : Int) ≤ (K : Int) := by omega
  have hK1 : (K : Int) ≤ (sb.size : Int) := by omega
  have hx : (9223372036854775807 < sa.size + (sb.extract 0 K).size) = False := by simp; omega
  have hx2 : (9223372036854775807 < sa.size + K) = False := by simp; omega
  have hx3 : (9223372036854775807 < sa.size + min K sb.size) = False := by simp; omega
  clear hK
  go_enter Try.func55, Try.ntmps55
  go_wp2
  refine start_ (n := 9) (S := fun w' => w'.cell? ⟨w.heap.size, 1, none⟩ = some (.string sa) ∧ w'.cell? ⟨w.heap.size, 2, none⟩ = some (.string sb)) (ds := [8]) #[false, false, false, false, false, false, false, false, false] (by kernel_rfl) rfl rfl ⟨(by go_simp), (by go_simp)⟩ (fun hHeld => ?_)
  refine pure_ (i := 0) (N := some 19) (v := ?_) (a' := ?_) #[true, false, false, false, false, false, false, false, false] rfl rfl (by kernel_rfl) (fun _ _ _ h => h) (Or.inl ⟨by rfl, ?_⟩) ?_ ?_
  rotate_left
  · intro w'
    go_simp
    with_reducible rfl
  rotate_left
  · simp only [Act.put, List.setIfInBounds_toArray, List.set_cons_zero, List.set_cons_succ, i64_w, i32_w]
    rfl
  refine pure_ (i := 2) (N := some 21) (v := ?_) (a' := ?_) #[true, false, true, false, false, false, false, false, false] rfl rfl (by kernel_rfl) (fun _ _ _ h => h) (Or.inl ⟨by rfl, ?_⟩) ?_ ?_
  rotate_left
  · intro w'
    go_simp
    with_reducible rfl
  rotate_left
  · simp only [Act.put, List.setIfInBounds_toArray, List.set_cons_zero, List.set_cons_succ, i64_w, i32_w]
    rfl
  refine pure_ (i := 4) (N := some 23) (v := ?_) (a' := ?_) #[true, false, true, false, true, false, false, false, false] rfl rfl (by kernel_rfl) (fun _ _ _ h => h) (Or.inl ⟨by rfl, ?_⟩) ?_ ?_
  rotate_left
  · intro w'
    go_simp
    with_reducible rfl
  rotate_left
  · simp only [Act.put, List.setIfInBounds_toArray, List.set_cons_zero, List.set_cons_succ, i64_w, i32_w]
    rfl
  refine take_ (i := 1) (N := some 20) (v := ?_) (a' := ?_) #[true, true, true, false, true, false, false, false, false] rfl rfl (by kernel_rfl) (fun _ _ _ h => h) (Or.inl ⟨by rfl, ?_⟩) hHeld ?_ ?_
  rotate_left
  · rintro w' ⟨s0, s1⟩
    go_simp
    with_reducible rfl
  rotate_left
  · simp only [Act.put, List.setIfInBounds_toArray, List.set_cons_zero, List.set_cons_succ, i64_w, i32_w]
    rfl
  refine take_ (i := 3) (N := some 22) (v := ?_) (a' := ?_) #[true, true, true, true, true, false, false, false, false] rfl rfl (by kernel_rfl) (fun _ _ _ h => h) (Or.inl ⟨by rfl, ?_⟩) hHeld ?_ ?_
  rotate_left
  · rintro w' ⟨s0, s1⟩
    go_simp
    with_reducible rfl
  rotate_left
  · simp only [Act.put, List.setIfInBounds_toArray, List.set_cons_zero, List.set_cons_succ, i64_w, i32_w]
    rfl
  refine pure_ (i := 5) (N := some 24) (v := ?_) (a' := ?_) #[true, true, true, true, true, true, false, false, false] rfl rfl (by kernel_rfl) (fun _ _ _ h => h) (Or.inl ⟨by rfl, ?_⟩) ?_ ?_
  rotate_left
  · intro w'
    go_simp
    with_reducible rfl
  rotate_left
  · simp only [Act.put, List.setIfInBounds_toArray, List.set_cons_zero, List.set_cons_succ, i64_w, i32_w]
    rfl
  refine pure_ (i := 6) (N := some 25) (v := ?_) (a' := ?_) #[true, true, true, true, true, true, true, false, false] rfl rfl (by kernel_rfl) (fun _ _ _ h => h) (Or.inl ⟨by rfl, ?_⟩) ?_ ?_
  rotate_left
  · intro w'
    go_simp
    with_reducible rfl
  rotate_left
  · simp only [Act.put, List.setIfInBounds_toArray, List.set_cons_zero, List.set_cons_succ, i64_w, i32_w]
    rfl
  refine pure_ (i := 7) (N := some 26) (v := ?_) (a' := ?_) #[true, true, true, true, true, true, true, true, false] rfl rfl (by kernel_rfl) (fun _ _ _ h => h) (Or.inl ⟨by rfl, ?_⟩) ?_ ?_
  rotate_left
  · intro w'
    go_simp
    with_reducible rfl
  rotate_left
  · simp only [Act.put, List.setIfInBounds_toArray, List.set_cons_zero, List.set_cons_succ, i64_w, i32_w]
    rfl
  refine last_ (i := 8) (N := none) #[true, true, true, true, true, true, true, true, true] rfl rfl (by kernel_rfl) (by decide) (fun K hK => ?_)
  refine skip_ (w1 := ?_) (by rfl) rfl ?_ ?_
  rotate_left
  · go_simp
    rfl
  refine hK.out _ _ ?_
  clear hK K
  refine done_ (by kernel_rfl) ?_
  go_wp2
  exact bodyPost_ret (v := .tuple #[.agg #[.int .i64 room, .string (sa ++ sb.extract 0 K), .string ⟨#[]⟩], .int .i64 ((sb.size : Int) - (K : Int))]) (by simp [results, Try.results55, go_sem]) rfl ⟨rfl, below_drew (below_alloc (below_alloc (Below.refl _ _) _) _)⟩
set_option maxRecDepth 100000 in
set_option maxHeartbeats 1000000 in
theorem ref_cut_ok (room : Int) (sa sb sc : ByteArray) (x : Int) (N : Nat) (hx : x = (N : Int)) (hsz : sa.size + sb.size ≤ 1000000000) (hc : sa ++ sb = sc) (hN : N ≤ sc.size) (w : World) :
    Calls Try.prog 56 #[.agg #[.int .i64 room, .string sa, .string sb], .int .i64 x] w fun e w' => e = .returned (.tuple #[.agg #[.int .i64 room, .string (sc.extract 0 N), .string ⟨#[]⟩], .int .i64 0]) ∧ Below w.heap.size w w' := by
  subst hx
  have hx2 : (9223372036854775807 < sa.size + sb.size) = False := by simp; omega
  have hN1 : (N : Int) ≤ (sc.size : Int) := by omega
  have hss : sc.size = sa.size + sb.size := by rw [← hc, ByteArray.size_append]
  have hsb : sc.size ≤ 1000000000 := by omega
  clear hss
  go_enter Try.func56, Try.ntmps56
  go_wp2
  exact bodyPost_ret (v := .tuple #[.agg #[.int .i64 room, .string (sc.extract 0 N), .string ⟨#[]⟩], .int .i64 0]) (by simp [results, Try.results56, go_sem]) rfl ⟨rfl, below_alloc (below_alloc (Below.refl _ _) _) _⟩
set_option maxRecDepth 100000 in
set_option maxHeartbeats 1000000 in
theorem ref_cut_bad (room : Int) (sa sb sc : ByteArray) (x : Int) (hsz : sa.size + sb.size ≤ 1000000000) (hc : sa ++ sb = sc) (hN : x < 0 ∨ (sc.size : Int) < x) (w : World) :
    Calls Try.prog 56 #[.agg #[.int .i64 room, .string sa, .string sb], .int .i64 x] w fun e w' => e = .returned (.tuple #[.agg #[.int .i64 room, .string sa, .string sb], .int .i64 1]) ∧ Below w.heap.size w w' := by
  have hx2 : (9223372036854775807 < sa.size + sb.size) = False := by simp; omega
  by_cases h0 : x < 0
  · clear hN
    go_enter Try.func56, Try.ntmps56
    go_wp2
    exact bodyPost_ret (v := .tuple #[.agg #[.int .i64 room, .string sa, .string sb], .int .i64 1]) (by simp [results, Try.results56, go_sem]) rfl ⟨rfl, below_alloc (below_alloc (Below.refl _ _) _) _⟩
  · have h1 : (sc.size : Int) < x := by omega
    clear hN
    go_enter Try.func56, Try.ntmps56
    go_wp2
    exact bodyPost_ret (v := .tuple #[.agg #[.int .i64 room, .string sa, .string sb], .int .i64 1]) (by simp [results, Try.results56, go_sem]) rfl ⟨rfl, below_alloc (below_alloc (Below.refl _ _) _) _⟩
set_option maxRecDepth 100000 in
set_option maxHeartbeats 1000000 in
theorem ref_swap_ok (room : Nat) (sa sb sl : ByteArray) (h : sl.size ≤ room) (w : World) :
    Calls Try.prog 58 #[.agg #[.int .i64 (room : Int), .string sa, .string sb], .string sl] w fun e w' => e = .returned (.tuple #[.agg #[.int .i64 (room : Int), .string sl, .string ⟨#[]⟩], .int .i64 0]) ∧ Below w.heap.size w w' := by
  have h1 : (sl.size : Int) ≤ (room : Int) := by omega
  go_enter Try.func58, Try.ntmps58
  go_wp2
  exact bodyPost_ret (v := .tuple #[.agg #[.int .i64 (room : Int), .string sl, .string ⟨#[]⟩], .int .i64 0]) (by simp [results, Try.results58, go_sem]) rfl ⟨rfl, below_alloc (below_alloc (Below.refl _ _) _) _⟩
set_option maxRecDepth 100000 in
set_option maxHeartbeats 1000000 in
theorem ref_swap_full (room : Nat) (sa sb sl : ByteArray) (h : room < sl.size) (w : World) :
    Calls Try.prog 58 #[.agg #[.int .i64 (room : Int), .string sa, .string sb], .string sl] w fun e w' => e = .returned (.tuple #[.agg #[.int .i64 (room : Int), .string sa, .string sb], .int .i64 4]) ∧ Below w.heap.size w w' := by
  have h1 : (room : Int) < (sl.size : Int) := by omega
  go_enter Try.func58, Try.ntmps58
  go_wp2
  exact bodyPost_ret (v := .tuple #[.agg #[.int .i64 (room : Int), .string sa, .string sb], .int .i64 4]) (by simp [results, Try.results58, go_sem]) rfl ⟨rfl, below_alloc (below_alloc (Below.refl _ _) _) _⟩
theorem ref_write_ok (room : Nat) (sa sb sl : ByteArray) (h : sa.size + sb.size + sl.size ≤ room) (hr : room ≤ 1048576) (w : World) :
    Calls Try.prog 53 #[.agg #[.int .i64 (room : Int), .string sa, .string sb], .string sl] w fun e w' => e = .returned (.tuple #[.agg #[.int .i64 (room : Int), .string sa, .string (sb ++ sl)], .int .i64 0]) ∧ Below w.heap.size w w' := by
  refine pacesetterref05_Write.calls (room : Int) sa sb sl (room : Int) sa (sb ++ sl) 0 w ?_
  have e : wrap64 (wrap64 ((sa.size : Int) + (sb.size : Int)) + (sl.size : Int)) = ((sa.size + sb.size + sl.size : Nat) : Int) := by unfold wrap64; omega
  unfold pacesetterref05_Write.f
  rw [e, if_neg (by omega), if_pos (by omega)]
theorem ref_write_full (room : Nat) (sa sb sl : ByteArray) (h : room < sa.size + sb.size + sl.size) (hr : sa.size + sb.size ≤ 1048576) (hl : sl.size ≤ 1000000) (w : World) :
    Calls Try.prog 53 #[.agg #[.int .i64 (room : Int), .string sa, .string sb], .string sl] w fun e w' => e = .returned (.tuple #[.agg #[.int .i64 (room : Int), .string sa, .string sb], .int .i64 4]) ∧ Below w.heap.size w w' := by
  refine pacesetterref05_Write.calls (room : Int) sa sb sl (room : Int) sa sb 4 w ?_
  have e : wrap64 (wrap64 ((sa.size : Int) + (sb.size : Int)) + (sl.size : Int)) = ((sa.size + sb.size + sl.size : Nat) : Int) := by unfold wrap64; omega
  unfold pacesetterref05_Write.f
  rw [e, if_pos (by omega)]
theorem ref_sync (room : Int) (sa sb : ByteArray) (h : sa.size + sb.size ≤ 1048576) (w : World) :
    Calls Try.prog 54 #[.agg #[.int .i64 room, .string sa, .string sb]] w fun e w' => e = .returned (.tuple #[.agg #[.int .i64 room, .string (sa ++ sb), .string ⟨#[]⟩], .int .i64 (sb.size : Int)]) ∧ Below w.heap.size w w' := by
  refine pacesetterref05_Sync.calls room sa sb room (sa ++ sb) ⟨#[]⟩ (sb.size : Int) w ?_
  unfold pacesetterref05_Sync.f
  rw [if_pos (by omega)]
theorem ref_new (n : Int) (w : World) :
    Calls Try.prog 50 #[.int .i64 n] w fun e w' => e = .returned (.agg #[.int .i64 ((roomOf n : Nat) : Int), .string ⟨#[]⟩, .string ⟨#[]⟩]) ∧ Below w.heap.size w w' := by
  refine pacesetterref05_New.calls n ((roomOf n : Nat) : Int) ⟨#[]⟩ ⟨#[]⟩ w ?_
  have e : mn (mx n 0) 1048576 = ((roomOf n : Nat) : Int) := by
    unfold mn mx roomOf
    split <;> split <;> (try split) <;> (try split) <;> omega
  unfold pacesetterref05_New.f
  rw [e]
end Go.Proofs.Ytbcienbnhchdeaa.Hand
