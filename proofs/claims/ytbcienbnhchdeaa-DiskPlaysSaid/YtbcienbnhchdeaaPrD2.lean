-- Printed by a program of this session (wip/patch_print.py over the kit's print); Lean checks it.
import Derived.Test.YtbcienbnhchdeaaPrD0
namespace Go.Proofs.Ytbcienbnhchdeaa.PrD
open Go.RowKit Go.Proofs.YtbcienbnhchdeaaW.PrintWords Go.Proofs.YtbcienbnhchdeaaW.PrintLast Go.Proofs.YtbcienbnhchdeaaW.PrintMore
attribute [local go_sem] max2_int min2_int max_two min_two max_three min_three max_four min_four   -- for this text's walks alone
set_option linter.unusedVariables false
set_option linter.unusedSimpArgs false

/-! ### pacesetterlaw05_early: function 51 -/
def pacesetterlaw05_early.l0 : Nat → List (S52) → List (S52) → Int → Option ((List (S52)))
  | 0, _, _, _ => none
  | k + 1, x0, x3, x4 => if x4 < (x0.length : Int) then (if x4 < 80 then (if 0 ≤ x4 then (if 0 ≤ (mn (((rd_T52 x0 x4).f2).length : Int) 40) then (if (mn (((rd_T52 x0 x4).f2).length : Int) 40) ≤ (((rd_T52 x0 x4).f2).length : Int) then (if x3.length < 3518437208883 then (pacesetterlaw05_early.l0 k x0 (x3 ++ [(⟨(rd_T52 x0 x4).f0, (rd_T52 x0 x4).f1, (((rd_T52 x0 x4).f2).take ((mn (((rd_T52 x0 x4).f2).length : Int) 40) : Int).toNat)⟩ : S52)]) (wrap64 (x4 + 1))) else (none)) else (none)) else (none)) else (none)) else (some x3)) else (some x3)
def pacesetterlaw05_early.f (k : Nat) (l0 : List (S52)) : Option ((List (S52))) := pacesetterlaw05_early.l0 k l0 ([] : List (S52)) 0
theorem pacesetterlaw05_early.mono_l : ∀ k, (∀ y0 y1 y2, LeO (pacesetterlaw05_early.l0 k y0 y1 y2) (pacesetterlaw05_early.l0 (k + 1) y0 y1 y2))
  | 0 => fun _ _ _ r h => by simp [pacesetterlaw05_early.l0] at h
  | k + 1 => by
    have ih0 := pacesetterlaw05_early.mono_l k
    · intro y0 y1 y2
      unfold pacesetterlaw05_early.l0
      repeat' first
      | (with_reducible exact ih0 _ _ _)
      | (with_reducible exact LeO.refl _)
      | (with_reducible exact LeO.none _)
      | (with_reducible refine LeO.ite ?_ ?_)
      | (with_reducible refine LeO.bind ?_ (fun _ => ?_))
      | exact ih0 _ _ _
      | exact LeO.none _
      | refine LeO.ite ?_ ?_
      | refine LeO.bind ?_ (fun _ => ?_)
theorem pacesetterlaw05_early.mono : ∀ a0 k, LeO (pacesetterlaw05_early.f k a0) (pacesetterlaw05_early.f (k + 1) a0) := by
  intro a0 k
  have ih0 := pacesetterlaw05_early.mono_l k
  unfold pacesetterlaw05_early.f
  repeat' first
      | (with_reducible exact ih0 _ _ _)
      | (with_reducible exact LeO.refl _)
      | (with_reducible exact LeO.none _)
      | (with_reducible refine LeO.ite ?_ ?_)
      | (with_reducible refine LeO.bind ?_ (fun _ => ?_))
      | exact ih0 _ _ _
      | exact LeO.none _
      | refine LeO.ite ?_ ?_
      | refine LeO.bind ?_ (fun _ => ?_)
set_option maxHeartbeats 8000000 in
set_option maxRecDepth 100000 in
theorem pacesetterlaw05_early.calls (k : Nat) (P0_ : Nat → Prop) (A0 : Option Addr) (c0 : Nat) (l0 : List (S52)) (r : List (S52)) (w : World) (hs0 : Kd.V k52 52 w w.heap.size (fun k_ => P0_ k_) (.slice A0 l0.length c0) l0) (h : pacesetterlaw05_early.f k l0 = some r) :
    Calls Try.prog 51 #[.slice A0 l0.length c0] w fun e w' => ∃ v0_ : Value, e = .returned (v0_) ∧ Kd.N k52 52 w' w.heap.size (fun k_ => (P0_ k_ ∨ w.heap.size ≤ k_)) v0_ r ∧ Below w.heap.size w w' := by
  have hu52 := Try.underlying52
  have HO0 := Aside0.mk (show Kd.V k52 52 w w.heap.size (fun k_ => (P0_ k_ ∨ w.heap.size ≤ k_)) (.slice A0 l0.length c0) l0 from Kd.V_mono hs0 (fun k_ hk => .inl hk))
  have HB := Aside0.mk (Below.refl w.heap.size w)
  have H : (pacesetterlaw05_early.l0 k l0 ([] : List (S52)) 0) = some r := h
  clear h
  have H' := Aside0.mk H
  clear H
  go_enter Try.func51, Try.ntmps51
  go_wp2
  go_loopg [3, 4] k (fun kq v3 v4 w' => ∃ (x3_1 : List (S52)) (x4_1 : Int), v4 = .int .i64 x4_1 ∧ Aside0 (pacesetterlaw05_early.l0 kq l0 x3_1 x4_1 = some r) ∧ Aside0 (kq ≤ k) ∧ Aside0 (Kd.V k52 52 w' w.heap.size (fun k_ => (P0_ k_ ∨ w.heap.size ≤ k_) ∧ some k_ ≠ (v3 : Value).ownBlock) (.slice A0 l0.length c0) l0) ∧ Aside0 (Kd.N k52 52 w' w.heap.size (fun k_ => (P0_ k_ ∨ w.heap.size ≤ k_)) v3 x3_1) ∧ Aside0 (Below w.heap.size w w'))
  case atStart => exact ⟨(([] : List (S52))), (0), (by first | rfl | (simp; done) | (simp [*]; done)), H', ⟨Nat.le_refl _⟩, ⟨by (with_reducible repeat (first | apply Kd.V_alloc | apply Kd.V_drewN | apply Kd.V_drew)); exact Kd.V_mono HO0.out (fun _ hk => ⟨hk, (by simp [Value.ownBlock])⟩)⟩, ⟨by first | exact Kd.S_nil _ _ _ _ _ | exact Kd.N_nil _ _ _ _ _ | exact Kd.V_nil _ _ _ _ _ | exact Kd.Q_nil _ _ _ _ _ | exact Kd.R_nil _ _ _ _ _⟩, ⟨by repeat (first | (with_reducible first | exact HB.out | apply below_alloc | apply pw_below_drewN | apply below_drew1) | exact HB.out)⟩⟩
  case round =>
    clear H'
    obtain ⟨x3_1, x4_1, rfl, HA, HK1, HO_0, HO_3, HB⟩ := hrel
    cases gk with
    | zero => exact absurd HA.out (by simp [pacesetterlaw05_early.l0])
    | succ k1 =>
      have H := HA.out
      clear HA
      simp only [pacesetterlaw05_early.l0] at H
      by_cases c2 : x4_1 < (l0.length : Int)
      · rw [if_pos c2] at H
        have c2b0 : decide (x4_1 < (l0.length : Int)) = true := decide_eq_true c2
        clear c2
        by_cases c3 : x4_1 < 80
        · rw [if_pos c3] at H
          have c3b0 : decide (x4_1 < 80) = true := decide_eq_true c3
          clear c3
          by_cases c4 : 0 ≤ x4_1
          · rw [if_pos c4] at H
            have c4b0 : decide (0 ≤ x4_1) = true := decide_eq_true c4
            clear c4
            obtain ⟨ji5, hji5⟩ : ∃ j_ : Int, (mn (((rd_T52 l0 x4_1).f2).length : Int) 40) = j_ := ⟨_, rfl⟩
            replace H : (if 0 ≤ (ji5) then (if (ji5) ≤ (((rd_T52 l0 x4_1).f2).length : Int) then (if x3_1.length < 3518437208883 then (pacesetterlaw05_early.l0 k1 l0 (x3_1 ++ [(⟨(rd_T52 l0 x4_1).f0, (rd_T52 l0 x4_1).f1, (((rd_T52 l0 x4_1).f2).take ((ji5) : Int).toNat)⟩ : S52)]) (wrap64 (x4_1 + 1))) else (none)) else (none)) else (none)) = some r := by first | (rw [hji5] at H; exact H) | (simp only [hji5] at H ⊢; exact H)
            have hji5_ : (if 40 < (((rd_T52 l0 x4_1).f2).length : Int) then 40 else (((rd_T52 l0 x4_1).f2).length : Int)) = ji5 := hji5
            by_cases c6 : 0 ≤ (ji5)
            · rw [if_pos c6] at H
              have c6b0 := eq_true c6
              have c6b1 : decide (0 ≤ (ji5)) = true := decide_eq_true c6
              clear c6
              by_cases c7 : (ji5) ≤ (((rd_T52 l0 x4_1).f2).length : Int)
              · rw [if_pos c7] at H
                have c7b0 := eq_true c7
                have c7b1 : decide ((ji5) ≤ (((rd_T52 l0 x4_1).f2).length : Int)) = true := decide_eq_true c7
                clear c7
                obtain ⟨y111, hy111⟩ : ∃ y_ : List Int, y_ = (((rd_T52 l0 x4_1).f2).take ((ji5) : Int).toNat) := ⟨_, rfl⟩
                replace H : (if x3_1.length < 3518437208883 then (pacesetterlaw05_early.l0 k1 l0 (x3_1 ++ [(⟨(rd_T52 l0 x4_1).f0, (rd_T52 l0 x4_1).f1, y111⟩ : S52)]) (wrap64 (x4_1 + 1))) else (none)) = some r := by first | (rw [hy111]; with_reducible exact H) | (have H2_ := (Option.bind_some _ _).symm.trans H; rw [hy111]; with_reducible exact H2_) | (have H2_ := (Option.bind_some _ _).symm.trans H; with_reducible exact H2_) | with_reducible exact H | (rw [hy111]; exact H) | exact H
                have Ny111 := Aside0.mk hy111
                clear hy111
                by_cases c8 : x3_1.length < 3518437208883
                · rw [if_pos c8] at H
                  have LMc8 := Aside0.mk c8
                  clear c8
                  obtain ⟨y116, hy116⟩ : ∃ y_ : List (S52), y_ = (x3_1 ++ [(⟨(rd_T52 l0 x4_1).f0, (rd_T52 l0 x4_1).f1, y111⟩ : S52)]) := ⟨_, rfl⟩
                  replace H : (pacesetterlaw05_early.l0 k1 l0 y116 (wrap64 (x4_1 + 1))) = some r := by first | (rw [hy116]; with_reducible exact H) | (have H2_ := (Option.bind_some _ _).symm.trans H; rw [hy116]; with_reducible exact H2_) | (have H2_ := (Option.bind_some _ _).symm.trans H; with_reducible exact H2_) | with_reducible exact H | (rw [hy116]; exact H) | exact H
                  have Ny116 := Aside0.mk hy116
                  clear hy116
                  have H' := Aside0.mk H
                  clear H
                  have p109 : 0 ≤ (x4_1 : Int) := of_decide_eq_true (by first | (with_reducible assumption) | assumption)
                  have q109 : x4_1 < (l0.length : Int) := of_decide_eq_true (by first | (with_reducible assumption) | assumption)
                  obtain ⟨ad109, A109_2, c109_2, e109, hx109_0, hx109_1, hx109_2, hl109_2, hi109_2⟩ := at_T52 (Kd.V_reads' HO_0.out).2.2 x4_1 p109 q109
                  cases e109
                  obtain ⟨ce109, hce109, hMe109, hcc109⟩ := Kd.V_get HO_0.out z52 x4_1 p109 (by first | exact q109 | exact of_decide_eq_true (by first | (with_reducible assumption) | assumption) | (have e_ := (Kd.V_reads' HO_0.out).1; omega))
                  obtain ⟨ua109_2, uc109_2, rfl, ul109_2, ge109_2⟩ := k52_openF hMe109
                  have hv109_2 := hcc109 2 _ rfl
                  rw [add_field _ _ 2 (by omega)] at hv109_2
                  replace hv109_2 := Option.some.inj (hv109_2.symm.trans hx109_2)
                  injection hv109_2 with hva_ hvn_ hvc_
                  rw [hva_] at ge109_2
                  rw [hvc_] at ul109_2
                  have HL109_2 := Aside0.mk (show Kd.V (Kd.int .u8) 5 _ w.heap.size _ _ ((rd_T52 l0 x4_1).f2) from Kd.V_mk ul109_2 ge109_2)
                  clear hva_ hvn_ hvc_ ge109_2 ul109_2
                  clear hcc109 hce109
                  have HR109_2 := Aside0.mk hi109_2
                  have HC109_2 := Aside0.mk hl109_2
                  clear hi109_2 hl109_2
                  replace p109 := eq_true p109
                  replace q109 := eq_true q109
                  go_wp2_with (first | ((with_reducible refine gate_dst (N := 5) rfl ?_); refine box_event ?hg (N := 5) ?hd (cs := #[.int .i64 0, .int .i64 0, .slice none 0 0]) (t := 52) ?hr ?_; (case hd => rfl); (case hg => rfl); (case hr => first | (go_simp; done) | (go_simp; rfl)); intro gb110 hg w9 hbox hb; have n0_ := Aside0.mk (Kd.V_below (Kd.V_elderB (by (with_reducible repeat (first | apply Kd.V_alloc | apply Kd.V_drewN | apply Kd.V_drew)); exact HO_0.out) gb110 (Nat.le_of_eq hg.symm)) hb); have n1_ := Aside0.mk (Kd.N_below (Kd.N_elderB (by (with_reducible repeat (first | apply Kd.N_alloc | apply Kd.N_drewN | apply Kd.N_drew)); exact HO_3.out) gb110 (Nat.le_of_eq hg.symm)) hb); have n2_ := Aside0.mk (Kd.V_below (Kd.V_elderB (by (with_reducible repeat (first | apply Kd.V_alloc | apply Kd.V_drewN | apply Kd.V_drew)); exact HL109_2.out) gb110 (Nat.le_of_eq hg.symm)) hb); have n3_ := Aside0.mk (Kd.C_below (by repeat (first | (with_reducible exact HR109_2.out) | (with_reducible refine Kd.C_alloc ?_ _) | (with_reducible refine Kd.C_drewN ?_ _) | (with_reducible refine Kd.C_drew ?_) | exact HR109_2.out)) hb); have n4_ := Aside0.mk (below_step (by repeat (first | (with_reducible first | exact HB.out | apply below_alloc | apply pw_below_drewN | apply below_drew1) | exact HB.out)) hb); have n5_ := Aside0.mk (hbox); have n6_ := Aside0.mk ((by rw [hg]; exact (below_size (by repeat (first | (with_reducible first | exact HB.out | apply below_alloc | apply pw_below_drewN | apply below_drew1) | exact HB.out))) : w.heap.size ≤ gb110)); have n7_ := Aside0.mk ((by rw [hg]; exact (below_size (by repeat (first | (with_reducible first | exact HB.out | apply below_alloc | apply pw_below_drewN | apply below_drew1) | exact HB.out))) : w.heap.size ≤ gb110)); clear HO_0; clear HO_3; clear HL109_2; clear HR109_2; clear HB; have HO_0 := n0_; have HO_3 := n1_; have HL109_2 := n2_; have HR109_2 := n3_; have HB := n4_; have BK110 := n5_; have GW110 := n6_; have GE110 := n7_; clear n0_ n1_ n2_ n3_ n4_ n5_ n6_ n7_; clear hb hbox hg; have hcz10_0 : w9.cell? ⟨gb110, 0, none⟩ = some (.int .i64 0) := (blk_cell BK110.out 0).trans rfl; have hcz10_1 : w9.cell? ⟨gb110, 1, none⟩ = some (.int .i64 0) := (blk_cell BK110.out 1).trans rfl; have hcz10_2 : w9.cell? ⟨gb110, 2, none⟩ = some (.slice none 0 0) := (blk_cell BK110.out 2).trans rfl; have hfz10_0 := blk_frozen BK110.out 0; have hfz10_1 := blk_frozen BK110.out 1; have hfz10_2 := blk_frozen BK110.out 2) | ((with_reducible refine gate_store (t := 52) (p := 5) rfl ?_); refine store_event (t := 52) (p := 5) (v := ?vo_w11) (w1 := (((w9.setCell ⟨gb110, 0, none⟩ (.int .i64 ((rd_T52 l0 x4_1).f0))).setCell ⟨gb110, 1, none⟩ (.int .i64 ((rd_T52 l0 x4_1).f1))).setCell ⟨gb110, 2, none⟩ (.slice A109_2 ((rd_T52 l0 x4_1).f2).length c109_2))) ?hg ?ho ?hn ?hr ?_; (case ho => rfl); (case hg => rfl); (case hn => rfl); (case hr => first | (go_simp; done) | (go_simp; rfl)); intro w11 hw; have n0_ : Aside0 (Kd.V k52 52 w11 w.heap.size (fun k_ => (P0_ k_ ∨ w.heap.size ≤ k_) ∧ some k_ ≠ (u3 : Value).ownBlock ∧ k_ ≠ gb110) (.slice (some ad109) l0.length c0) l0) := ⟨(by rw [hw]; exact (by (with_reducible repeat (first | apply Kd.V_alloc | apply Kd.V_drewN | apply Kd.V_drew)); exact Kd.V_mono (Kd.V_far (p := ⟨gb110, 2, none⟩) (Kd.V_far (p := ⟨gb110, 1, none⟩) (Kd.V_far (p := ⟨gb110, 0, none⟩) (Kd.V_mono HO_0.out (fun k_ hk => (⟨hk, hk.2⟩ : _ ∧ k_ ≠ gb110))) (fun _ hk => hk.2) (.int .i64 ((rd_T52 l0 x4_1).f0))) (fun _ hk => hk.2) (.int .i64 ((rd_T52 l0 x4_1).f1))) (fun _ hk => hk.2) (.slice A109_2 ((rd_T52 l0 x4_1).f2).length c109_2)) (fun _ hk => ⟨hk.1.1.1, ⟨hk.1.1.2, hk.1.2⟩⟩)))⟩; have n1_ : Aside0 (Kd.N k52 52 w11 w.heap.size (fun k_ => (P0_ k_ ∨ w.heap.size ≤ k_) ∧ k_ ≠ gb110) u3 x3_1) := ⟨(by rw [hw]; exact (by (with_reducible repeat (first | apply Kd.N_alloc | apply Kd.N_drewN | apply Kd.N_drew)); exact Kd.N_mono (Kd.N_far (p := ⟨gb110, 2, none⟩) (Kd.N_far (p := ⟨gb110, 1, none⟩) (Kd.N_far (p := ⟨gb110, 0, none⟩) (Kd.N_mono HO_3.out (fun k_ hk => (⟨hk, hk.2⟩ : _ ∧ k_ ≠ gb110))) (fun _ hk => hk.2) (.int .i64 ((rd_T52 l0 x4_1).f0))) (fun _ hk => hk.2) (.int .i64 ((rd_T52 l0 x4_1).f1))) (fun _ hk => hk.2) (.slice A109_2 ((rd_T52 l0 x4_1).f2).length c109_2)) (fun _ hk => ⟨hk.1.1, hk.1.2⟩)))⟩; have n2_ : Aside0 (Kd.V (Kd.int .u8) 5 w11 w.heap.size (fun k_ => (P0_ k_ ∨ w.heap.size ≤ k_) ∧ some k_ ≠ (u3 : Value).ownBlock ∧ k_ ≠ gb110) (.slice A109_2 ((rd_T52 l0 x4_1).f2).length c109_2) ((rd_T52 l0 x4_1).f2)) := ⟨(by rw [hw]; exact (by (with_reducible repeat (first | apply Kd.V_alloc | apply Kd.V_drewN | apply Kd.V_drew)); exact Kd.V_mono (Kd.V_far (p := ⟨gb110, 2, none⟩) (Kd.V_far (p := ⟨gb110, 1, none⟩) (Kd.V_far (p := ⟨gb110, 0, none⟩) (Kd.V_mono HL109_2.out (fun k_ hk => (⟨hk, hk.2⟩ : _ ∧ k_ ≠ gb110))) (fun _ hk => hk.2) (.int .i64 ((rd_T52 l0 x4_1).f0))) (fun _ hk => hk.2) (.int .i64 ((rd_T52 l0 x4_1).f1))) (fun _ hk => hk.2) (.slice A109_2 ((rd_T52 l0 x4_1).f2).length c109_2)) (fun _ hk => ⟨hk.1.1.1, ⟨hk.1.1.2, hk.1.2⟩⟩)))⟩; have n3_ : Aside0 (w11.heap[gb110]? = some (.cells #[.int .i64 ((rd_T52 l0 x4_1).f0), .int .i64 ((rd_T52 l0 x4_1).f1), .slice A109_2 ((rd_T52 l0 x4_1).f2).length c109_2] 52 (0, 0))) := ⟨(by rw [hw]; exact (by (with_reducible repeat (first | refine blk_drewN ?_ _ | refine blk_drew ?_ | refine blk_alloc ?_ _)); refine blk_put (cs := #[.int .i64 ((rd_T52 l0 x4_1).f0), .int .i64 ((rd_T52 l0 x4_1).f1), .slice none 0 0]) ?_ 2 _ rfl; (with_reducible repeat (first | refine blk_drewN ?_ _ | refine blk_drew ?_ | refine blk_alloc ?_ _)); refine blk_put (cs := #[.int .i64 ((rd_T52 l0 x4_1).f0), .int .i64 0, .slice none 0 0]) ?_ 1 _ rfl; (with_reducible repeat (first | refine blk_drewN ?_ _ | refine blk_drew ?_ | refine blk_alloc ?_ _)); refine blk_put (cs := #[.int .i64 0, .int .i64 0, .slice none 0 0]) ?_ 0 _ rfl; (with_reducible repeat (first | refine blk_drewN ?_ _ | refine blk_drew ?_ | refine blk_alloc ?_ _)); exact BK110.out))⟩; have n4_ : Aside0 (Below w.heap.size w w11) := ⟨(by rw [hw]; exact (by repeat (first | (with_reducible first | exact HB.out | apply below_alloc | apply pw_below_drewN | apply below_drew1 | refine below_set ?_ GE110.out) | exact HB.out)))⟩; clear hw; clear HO_0; clear HO_3; clear HL109_2; clear BK110; clear HB; have HO_0 := n0_; have HO_3 := n1_; have HL109_2 := n2_; have BK110 := n3_; have HB := n4_; clear n0_ n1_ n2_ n3_ n4_; have hcz12_0 : w11.cell? ⟨gb110, 0, none⟩ = some (.int .i64 ((rd_T52 l0 x4_1).f0)) := (blk_cell BK110.out 0).trans rfl; have hcz12_1 : w11.cell? ⟨gb110, 1, none⟩ = some (.int .i64 ((rd_T52 l0 x4_1).f1)) := (blk_cell BK110.out 1).trans rfl; have hcz12_2 : w11.cell? ⟨gb110, 2, none⟩ = some (.slice A109_2 ((rd_T52 l0 x4_1).f2).length c109_2) := (blk_cell BK110.out 2).trans rfl; have hfz12_0 := blk_frozen BK110.out 0; have hfz12_1 := blk_frozen BK110.out 1; have hfz12_2 := blk_frozen BK110.out 2; have q13 : ((ji5) : Int) ≤ ((((rd_T52 l0 x4_1).f2).length : Int) : Int) := of_decide_eq_true (by first | (with_reducible assumption) | assumption); obtain ⟨i013, hi013, _, hsz13, _⟩ := info_parts info5; have hroom13 : ((rd_T52 l0 x4_1).f2).length ≤ c109_2 := HC109_2.out; have hC13 : Kd.F (Kd.int .u8) _ _ A109_2 ((rd_T52 l0 x4_1).f2).length ((rd_T52 l0 x4_1).f2) := (Kd.V_at (base := w.heap.size) HL109_2.out).2.2; have hcut13 := cut_to (P := Try.prog) 22 5 .i64 Try.underlying22 hi013 A109_2 ((rd_T52 l0 x4_1).f2).length c109_2 (ji5) (of_decide_eq_true (by first | (with_reducible assumption) | assumption)) q13 hroom13; have hr13 := Kd.F_take (m := ((ji5) : Int).toNat) hC13 (by omega); have hy13 : y111.length = ((ji5) : Int).toNat := (by rw [Ny111.out, List.length_take]; omega); rw [← Ny111.out] at hr13; rw [← hy13] at hcut13; have HO115 := Aside0.mk (show Kd.V (Kd.int .u8) 5 _ w.heap.size _ (.slice A109_2 y111.length c109_2) y111 from Kd.V_mk (by omega) hr13); have HC115 := Aside0.mk (show y111.length ≤ c109_2 from by omega); clear hr13 hC13 hroom13 hi013 hsz13; have KY13 := Aside0.mk hy13; clear hy13; replace q13 := eq_true q13) | ((with_reducible refine gate_store (t := 22) (p := 27) rfl ?_); refine store_event (t := 22) (p := 27) (v := ?vo_w14) (w1 := (w11.setCell ⟨gb110, 2, none⟩ (.slice A109_2 y111.length c109_2))) ?hg ?ho ?hn ?hr ?_; (case ho => rfl); (case hg => rfl); (case hn => rfl); (case hr => first | (go_simp; done) | (go_simp; rfl)); intro w14 hw; have n0_ : Aside0 (Kd.V k52 52 w14 w.heap.size (fun k_ => (P0_ k_ ∨ w.heap.size ≤ k_) ∧ some k_ ≠ (u3 : Value).ownBlock ∧ k_ ≠ gb110) (.slice (some ad109) l0.length c0) l0) := ⟨(by rw [hw]; exact (by (with_reducible repeat (first | apply Kd.V_alloc | apply Kd.V_drewN | apply Kd.V_drew)); exact Kd.V_mono (Kd.V_far (p := ⟨gb110, 2, none⟩) (Kd.V_mono HO_0.out (fun k_ hk => (⟨hk, hk.2.2⟩ : _ ∧ k_ ≠ gb110))) (fun _ hk => hk.2) (.slice A109_2 y111.length c109_2)) (fun _ hk => ⟨hk.1.1, ⟨hk.1.2.1, hk.1.2.2⟩⟩)))⟩; have n1_ : Aside0 (Kd.N k52 52 w14 w.heap.size (fun k_ => (P0_ k_ ∨ w.heap.size ≤ k_) ∧ k_ ≠ gb110) u3 x3_1) := ⟨(by rw [hw]; exact (by (with_reducible repeat (first | apply Kd.N_alloc | apply Kd.N_drewN | apply Kd.N_drew)); exact Kd.N_mono (Kd.N_far (p := ⟨gb110, 2, none⟩) (Kd.N_mono HO_3.out (fun k_ hk => (⟨hk, hk.2⟩ : _ ∧ k_ ≠ gb110))) (fun _ hk => hk.2) (.slice A109_2 y111.length c109_2)) (fun _ hk => ⟨hk.1.1, hk.1.2⟩)))⟩; have n2_ : Aside0 (Kd.V (Kd.int .u8) 5 w14 w.heap.size (fun k_ => (P0_ k_ ∨ w.heap.size ≤ k_) ∧ some k_ ≠ (u3 : Value).ownBlock ∧ k_ ≠ gb110) (.slice A109_2 ((rd_T52 l0 x4_1).f2).length c109_2) ((rd_T52 l0 x4_1).f2)) := ⟨(by rw [hw]; exact (by (with_reducible repeat (first | apply Kd.V_alloc | apply Kd.V_drewN | apply Kd.V_drew)); exact Kd.V_mono (Kd.V_far (p := ⟨gb110, 2, none⟩) (Kd.V_mono HL109_2.out (fun k_ hk => (⟨hk, hk.2.2⟩ : _ ∧ k_ ≠ gb110))) (fun _ hk => hk.2) (.slice A109_2 y111.length c109_2)) (fun _ hk => ⟨hk.1.1, ⟨hk.1.2.1, hk.1.2.2⟩⟩)))⟩; have n3_ : Aside0 (Kd.V (Kd.int .u8) 5 w14 w.heap.size (fun k_ => (P0_ k_ ∨ w.heap.size ≤ k_) ∧ some k_ ≠ (u3 : Value).ownBlock ∧ k_ ≠ gb110) (.slice A109_2 y111.length c109_2) y111) := ⟨(by rw [hw]; exact (by (with_reducible repeat (first | apply Kd.V_alloc | apply Kd.V_drewN | apply Kd.V_drew)); exact Kd.V_mono (Kd.V_far (p := ⟨gb110, 2, none⟩) (Kd.V_mono HO115.out (fun k_ hk => (⟨hk, hk.2.2⟩ : _ ∧ k_ ≠ gb110))) (fun _ hk => hk.2) (.slice A109_2 y111.length c109_2)) (fun _ hk => ⟨hk.1.1, ⟨hk.1.2.1, hk.1.2.2⟩⟩)))⟩; have n4_ : Aside0 (w14.heap[gb110]? = some (.cells #[.int .i64 ((rd_T52 l0 x4_1).f0), .int .i64 ((rd_T52 l0 x4_1).f1), .slice A109_2 y111.length c109_2] 52 (0, 0))) := ⟨(by rw [hw]; exact (by (with_reducible repeat (first | refine blk_drewN ?_ _ | refine blk_drew ?_ | refine blk_alloc ?_ _)); refine blk_put (cs := #[.int .i64 ((rd_T52 l0 x4_1).f0), .int .i64 ((rd_T52 l0 x4_1).f1), .slice A109_2 ((rd_T52 l0 x4_1).f2).length c109_2]) ?_ 2 _ rfl; (with_reducible repeat (first | refine blk_drewN ?_ _ | refine blk_drew ?_ | refine blk_alloc ?_ _)); exact BK110.out))⟩; have n5_ : Aside0 (Below w.heap.size w w14) := ⟨(by rw [hw]; exact (by repeat (first | (with_reducible first | exact HB.out | apply below_alloc | apply pw_below_drewN | apply below_drew1 | refine below_set ?_ GE110.out) | exact HB.out)))⟩; clear hw; clear HO_0; clear HO_3; clear HL109_2; clear HO115; clear BK110; clear HB; have HO_0 := n0_; have HO_3 := n1_; have HL109_2 := n2_; have HO115 := n3_; have BK110 := n4_; have HB := n5_; clear n0_ n1_ n2_ n3_ n4_ n5_; have hcz15_0 : w14.cell? ⟨gb110, 0, none⟩ = some (.int .i64 ((rd_T52 l0 x4_1).f0)) := (blk_cell BK110.out 0).trans rfl; have hcz15_1 : w14.cell? ⟨gb110, 1, none⟩ = some (.int .i64 ((rd_T52 l0 x4_1).f1)) := (blk_cell BK110.out 1).trans rfl; have hcz15_2 : w14.cell? ⟨gb110, 2, none⟩ = some (.slice A109_2 y111.length c109_2) := (blk_cell BK110.out 2).trans rfl; have hfz15_0 := blk_frozen BK110.out 0; have hfz15_1 := blk_frozen BK110.out 1; have hfz15_2 := blk_frozen BK110.out 2) | ((with_reducible refine gate_builtin (b := .append) (xs := #[.tmp 28, .tmp 30]) rfl ?_); at_builtin; refine Kd.N_append k52 (w0 := w) w.heap.size rfl (.tmp 28) (.tmp 30) 46 52 (.agg #[(.int .i64 0), (.int .i64 0), (.slice none 0 0)]) 40 rfl Try.underlying46 info52 rfl (by decide) (by omega) u3 x3_1 (⟨(rd_T52 l0 x4_1).f0, (rd_T52 l0 x4_1).f1, y111⟩ : S52) [.int .i64 ((rd_T52 l0 x4_1).f0), .int .i64 ((rd_T52 l0 x4_1).f1), .slice A109_2 y111.length c109_2] (fun k_ => (P0_ k_ ∨ w.heap.size ≤ k_) ∧ k_ ≠ gb110) (fun k_ => ((fun k_ => (P0_ k_ ∨ w.heap.size ≤ k_) ∧ k_ ≠ gb110)) k_ ∧ some k_ ≠ (u3 : Value).ownBlock) rfl rfl ?aP (fun _ hk => hk) ?aF ?aO ?aB ?aS ?aL ?_; (case aP => exact (k52_mkF _ _ (⟨(rd_T52 l0 x4_1).f0, (rd_T52 l0 x4_1).f1, y111⟩ : S52) (Kd.V_reads' (Kd.V_mono (ok' := (fun k_ => ((fun k_ => (P0_ k_ ∨ w.heap.size ≤ k_) ∧ k_ ≠ gb110)) k_ ∧ some k_ ≠ (u3 : Value).ownBlock)) (HO115.out) (fun k_ hk => ⟨⟨hk.1, hk.2.2⟩, hk.2.1⟩))).2.1 (Kd.V_F (Kd.V_mono (ok' := (fun k_ => ((fun k_ => (P0_ k_ ∨ w.heap.size ≤ k_) ∧ k_ ≠ gb110)) k_ ∧ some k_ ≠ (u3 : Value).ownBlock)) (HO115.out) (fun k_ hk => ⟨⟨hk.1, hk.2.2⟩, hk.2.1⟩))))); (case aB => exact (by repeat (first | (with_reducible first | exact HB.out | apply below_alloc | apply pw_below_drewN | apply below_drew1 | refine below_set ?_ GE110.out) | exact HB.out))); (case aF => exact (fun k_ hk => ⟨(.inr (Nat.le_trans (below_size (by repeat (first | (with_reducible first | exact HB.out | apply below_alloc | apply pw_below_drewN | apply below_drew1 | refine below_set ?_ GE110.out) | exact HB.out))) hk)), Kd.freshB (g := gb110) (o := .cells #[.int .i64 ((rd_T52 l0 x4_1).f0), .int .i64 ((rd_T52 l0 x4_1).f1), .slice A109_2 y111.length c109_2] 52 (0, 0)) (by (with_reducible repeat (first | refine blk_drewN ?_ _ | refine blk_drew ?_ | refine blk_alloc ?_ _)); exact BK110.out) k_ hk⟩)); (case aO => exact (by (with_reducible repeat (first | apply Kd.N_alloc | apply Kd.N_drewN | apply Kd.N_drew)); exact HO_3.out)); (case aS => exact (below_size (by repeat (first | (with_reducible first | exact HB.out | apply below_alloc | apply pw_below_drewN | apply below_drew1 | refine below_set ?_ GE110.out) | exact HB.out)))); (case aL => have := LMc8.out; omega); intro v117 w16 ho hb hg hat; rw [← Ny116.out] at ho; have n0_ := Aside0.mk (Kd.V_afterv (ok := (fun k_ => (P0_ k_ ∨ w.heap.size ≤ k_) ∧ k_ ≠ gb110)) (by (with_reducible repeat (first | apply Kd.V_alloc | apply Kd.V_drewN | apply Kd.V_drew)); exact Kd.V_mono HO_0.out (fun _ hk => ⟨⟨hk.1, hk.2.2⟩, hk.2.1⟩)) hg hat); have n1_ := Aside0.mk (Kd.V_afterv (ok := (fun k_ => (P0_ k_ ∨ w.heap.size ≤ k_) ∧ k_ ≠ gb110)) (by (with_reducible repeat (first | apply Kd.V_alloc | apply Kd.V_drewN | apply Kd.V_drew)); exact Kd.V_mono HL109_2.out (fun _ hk => ⟨⟨hk.1, hk.2.2⟩, hk.2.1⟩)) hg hat); have n2_ := Aside0.mk (blk_grown (g := gb110) (o := .cells #[.int .i64 ((rd_T52 l0 x4_1).f0), .int .i64 ((rd_T52 l0 x4_1).f1), .slice A109_2 y111.length c109_2] 52 (0, 0)) (by (with_reducible repeat (first | refine blk_drewN ?_ _ | refine blk_drew ?_ | refine blk_alloc ?_ _)); exact BK110.out) hg (Kd.N_away HO_3.out (fun _ hk => hk.2))); have n3_ := Aside0.mk (Kd.V_afterv (ok := (fun k_ => (P0_ k_ ∨ w.heap.size ≤ k_) ∧ k_ ≠ gb110)) (by (with_reducible repeat (first | apply Kd.V_alloc | apply Kd.V_drewN | apply Kd.V_drew)); exact Kd.V_mono HO115.out (fun _ hk => ⟨⟨hk.1, hk.2.2⟩, hk.2.1⟩)) hg hat); have n4_ := Aside0.mk (hb); have n5_ := Aside0.mk (ho); clear HO_0; clear HL109_2; clear BK110; clear HO115; clear HB; clear HO_3; have HO_0 := n0_; have HL109_2 := n1_; have BK110 := n2_; have HO115 := n3_; have HB := n4_; have HO118 := n5_; clear n0_ n1_ n2_ n3_ n4_ n5_; clear ho hb hg hat))
                  go_roundg k1
                  case measure => have := HK1.out; omega
                  case rel => exact ⟨(y116), (wrap64 (x4_1 + 1)), (by first | rfl | (simp; done) | (simp [*]; done)), H', ⟨by have := HK1.out; omega⟩, ⟨by (with_reducible repeat (first | apply Kd.V_alloc | apply Kd.V_drewN | apply Kd.V_drew)); exact Kd.V_mono HO_0.out (fun _ hk => ⟨hk.1.1, hk.2⟩)⟩, ⟨by (with_reducible repeat (first | apply Kd.N_alloc | apply Kd.N_drewN | apply Kd.N_drew)); exact Kd.N_mono HO118.out (fun _ hk => hk.1)⟩, ⟨by repeat (first | (with_reducible first | exact HB.out | apply below_alloc | apply pw_below_drewN | apply below_drew1 | refine below_set ?_ GE110.out) | exact HB.out)⟩⟩
                · rw [if_neg c8] at H
                  exact absurd H (by simp)
              · rw [if_neg c7] at H
                exact absurd H (by simp)
            · rw [if_neg c6] at H
              exact absurd H (by simp)
          · rw [if_neg c4] at H
            exact absurd H (by simp)
        · rw [if_neg c3] at H
          have c3b0 : decide (x4_1 < 80) = false := decide_eq_false c3
          clear c3
          obtain rfl := Option.some.inj H
          go_wp2
          go_ret
          exact ⟨_, by first | rfl | (simp [errW_none, errW_some] <;> rfl) | (simp [*, errW_none, errW_some] <;> rfl), by (with_reducible repeat (first | apply Kd.N_alloc | apply Kd.N_drewN | apply Kd.N_drew)); exact HO_3.out, by repeat (first | (with_reducible first | exact HB.out | apply below_alloc | apply pw_below_drewN | apply below_drew1) | exact HB.out)⟩
      · rw [if_neg c2] at H
        have c2b0 : decide (x4_1 < (l0.length : Int)) = false := decide_eq_false c2
        clear c2
        obtain rfl := Option.some.inj H
        go_wp2
        go_ret
        exact ⟨_, by first | rfl | (simp [errW_none, errW_some] <;> rfl) | (simp [*, errW_none, errW_some] <;> rfl), by (with_reducible repeat (first | apply Kd.N_alloc | apply Kd.N_drewN | apply Kd.N_drew)); exact HO_3.out, by repeat (first | (with_reducible first | exact HB.out | apply below_alloc | apply pw_below_drewN | apply below_drew1) | exact HB.out)⟩

end Go.Proofs.Ytbcienbnhchdeaa.PrD
