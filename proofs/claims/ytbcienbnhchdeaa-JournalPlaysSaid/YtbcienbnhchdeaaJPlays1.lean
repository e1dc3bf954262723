/- LawJournalPlays: the texts Print12, Print13, Print15, Print1, Print3, Print4, Print5, Print14, Print2, Print6, FrameC, FrameL, FrameS, joined: contracts of the functions that the statement reaches, and plain laws. -/
import Derived.Lib.Bytes
import Derived.Test.YtbcienbnhchdeaaJPlays0

-- Printed by a program of this session (wip/patch_print.py over the kit's print); Lean checks it.
-- cut_print: 2
namespace Go.Proofs.Ytbcienbnhchdeaa.Print
open Go.RowKit Go.Proofs.YtbcienbnhchdeaaW.PrintWords Go.Proofs.YtbcienbnhchdeaaW.PrintLast Go.Proofs.YtbcienbnhchdeaaW.PrintMore
attribute [local go_sem] max2_int min2_int max_two min_two max_three min_three max_four min_four   -- for this text's walks alone
set_option linter.unusedVariables false
set_option linter.unusedSimpArgs false

/-! ### pacesetterref04_Good: function 66 -/
mutual
def pacesetterref04_Good.l0 : Nat → List (List Int) → Int → List (List Int) → Int → Option ((List (List Int)))
  | 0, _, _, _, _ => none
  | k + 1, x0, x1, x5, x6 => if x6 < (x0.length : Int) then (pacesetterref04_Good.j1 k x0 x1 x5 x6 (decide (x6 < x1))) else (pacesetterref04_Good.j1 k x0 x1 x5 x6 false)
def pacesetterref04_Good.j1 : Nat → List (List Int) → Int → List (List Int) → Int → Bool → Option ((List (List Int)))
  | 0, _, _, _, _, _ => none
  | k + 1, x0, x1, x5, x6, x16 => if x16 = true then (if 0 ≤ x6 then (if x6 < (x0.length : Int) then (if 0 ≤ (mn ((rd_L1 x0 x6).length : Int) 30) then (if (mn ((rd_L1 x0 x6).length : Int) 30) ≤ ((rd_L1 x0 x6).length : Int) then ((some ((rd_L1 x0 x6).take ((mn ((rd_L1 x0 x6).length : Int) 30) : Int).toNat : List Int)).bind fun y218 => (if (y218.length : Int) = 0 then (if x5.length < 5864062014805 then (pacesetterref04_Good.l0 k x0 x1 (x5 ++ [(([(x6) % 256] : List Int))]) (wrap64 (x6 + 1))) else (none)) else (if x5.length < 5864062014805 then (pacesetterref04_Good.l0 k x0 x1 (x5 ++ [y218]) (wrap64 (x6 + 1))) else (none)))) else (none)) else (none)) else (none)) else (none)) else (some x5)
end
def pacesetterref04_Good.f (k : Nat) (l0 : List (List Int)) (a1 : Int) : Option ((List (List Int))) := pacesetterref04_Good.l0 k l0 a1 ([] : List (List Int)) 0
theorem pacesetterref04_Good.mono_l : ∀ k, (∀ y0 y1 y2 y3, LeO (pacesetterref04_Good.l0 k y0 y1 y2 y3) (pacesetterref04_Good.l0 (k + 1) y0 y1 y2 y3)) ∧ (∀ y0 y1 y2 y3 y4, LeO (pacesetterref04_Good.j1 k y0 y1 y2 y3 y4) (pacesetterref04_Good.j1 (k + 1) y0 y1 y2 y3 y4))
  | 0 => ⟨fun _ _ _ _ r h => by simp [pacesetterref04_Good.l0] at h, fun _ _ _ _ _ r h => by simp [pacesetterref04_Good.j1] at h⟩
  | k + 1 => by
    obtain ⟨ih0, ih1⟩ := pacesetterref04_Good.mono_l k
    refine ⟨?_, ?_⟩
    · intro y0 y1 y2 y3
      unfold pacesetterref04_Good.l0
      repeat' first
      | (with_reducible exact ih0 _ _ _ _)
      | (with_reducible exact ih1 _ _ _ _ _)
      | (with_reducible exact LeO.refl _)
      | (with_reducible exact LeO.none _)
      | (with_reducible refine LeO.ite ?_ ?_)
      | (with_reducible refine LeO.bind ?_ (fun _ => ?_))
      | exact ih0 _ _ _ _
      | exact ih1 _ _ _ _ _
      | exact LeO.none _
      | refine LeO.ite ?_ ?_
      | refine LeO.bind ?_ (fun _ => ?_)
    · intro y0 y1 y2 y3 y4
      unfold pacesetterref04_Good.j1
      repeat' first
      | (with_reducible exact ih0 _ _ _ _)
      | (with_reducible exact ih1 _ _ _ _ _)
      | (with_reducible exact LeO.refl _)
      | (with_reducible exact LeO.none _)
      | (with_reducible refine LeO.ite ?_ ?_)
      | (with_reducible refine LeO.bind ?_ (fun _ => ?_))
      | exact ih0 _ _ _ _
      | exact ih1 _ _ _ _ _
      | exact LeO.none _
      | refine LeO.ite ?_ ?_
      | refine LeO.bind ?_ (fun _ => ?_)
theorem pacesetterref04_Good.mono : ∀ a0 a1 k, LeO (pacesetterref04_Good.f k a0 a1) (pacesetterref04_Good.f (k + 1) a0 a1) := by
  intro a0 a1 k
  obtain ⟨ih0, ih1⟩ := pacesetterref04_Good.mono_l k
  unfold pacesetterref04_Good.f
  repeat' first
      | (with_reducible exact ih0 _ _ _ _)
      | (with_reducible exact ih1 _ _ _ _ _)
      | (with_reducible exact LeO.refl _)
      | (with_reducible exact LeO.none _)
      | (with_reducible refine LeO.ite ?_ ?_)
      | (with_reducible refine LeO.bind ?_ (fun _ => ?_))
      | exact ih0 _ _ _ _
      | exact ih1 _ _ _ _ _
      | exact LeO.none _
      | refine LeO.ite ?_ ?_
      | refine LeO.bind ?_ (fun _ => ?_)
set_option maxHeartbeats 8000000 in
set_option maxRecDepth 100000 in
theorem pacesetterref04_Good.calls (k : Nat) (P0_ : Nat → Prop) (A0 : Option Addr) (c0 : Nat) (l0 : List (List Int)) (a1 : Int) (r : List (List Int)) (w : World) (hs0 : Kd.V (Kd.slice 5 (Kd.int .u8)) 22 w w.heap.size (fun k_ => P0_ k_) (.slice A0 l0.length c0) l0) (h : pacesetterref04_Good.f k l0 a1 = some r) :
    Calls Try.prog 66 #[.slice A0 l0.length c0, .int .i64 a1] w fun e w' => ∃ v0_ : Value, e = .returned (v0_) ∧ Kd.N (Kd.slice 5 (Kd.int .u8)) 22 w' w.heap.size (fun k_ => (P0_ k_ ∨ w.heap.size ≤ k_)) v0_ r ∧ Below w.heap.size w w' := by
  have HO0 := Aside0.mk (show Kd.V (Kd.slice 5 (Kd.int .u8)) 22 w w.heap.size (fun k_ => (P0_ k_ ∨ w.heap.size ≤ k_)) (.slice A0 l0.length c0) l0 from Kd.V_mono hs0 (fun k_ hk => .inl hk))
  have HB := Aside0.mk (Below.refl w.heap.size w)
  have H : (pacesetterref04_Good.l0 k l0 a1 ([] : List (List Int)) 0) = some r := h
  clear h
  have H' := Aside0.mk H
  clear H
  go_enter Try.func66, Try.ntmps66
  go_wp2
  repeat (go_quiet (fail); try go_wp2)
  go_loopg [5, 6] k (fun kq v5 v6 w' => ∃ (x5_1 : List (List Int)) (x6_1 : Int), v6 = .int .i64 x6_1 ∧ Aside0 (pacesetterref04_Good.l0 kq l0 a1 x5_1 x6_1 = some r) ∧ Aside0 (kq ≤ k) ∧ Aside0 (Kd.V (Kd.slice 5 (Kd.int .u8)) 22 w' w.heap.size (fun k_ => (P0_ k_ ∨ w.heap.size ≤ k_) ∧ some k_ ≠ (v5 : Value).ownBlock) (.slice A0 l0.length c0) l0) ∧ Aside0 (Kd.N (Kd.slice 5 (Kd.int .u8)) 22 w' w.heap.size (fun k_ => (P0_ k_ ∨ w.heap.size ≤ k_)) v5 x5_1) ∧ Aside0 (Below w.heap.size w w'))
  case atStart => exact ⟨(([] : List (List Int))), (0), (by first | rfl | (simp; done) | (simp [*]; done)), H', ⟨Nat.le_refl _⟩, ⟨by (with_reducible repeat (first | apply Kd.V_alloc | apply Kd.V_drewN | apply Kd.V_drew)); exact Kd.V_mono HO0.out (fun _ hk => ⟨hk, (by simp [Value.ownBlock])⟩)⟩, ⟨by first | exact Kd.S_nil _ _ _ _ _ | exact Kd.N_nil _ _ _ _ _ | exact Kd.V_nil _ _ _ _ _ | exact Kd.Q_nil _ _ _ _ _ | exact Kd.R_nil _ _ _ _ _⟩, ⟨by repeat (first | (with_reducible first | exact HB.out | apply below_alloc | apply pw_below_drewN | apply below_drew1) | exact HB.out)⟩⟩
  case round =>
    clear H'
    try clear p2
    obtain ⟨x5_1, x6_1, rfl, HA, HK1, HO_0, HO_5, HB⟩ := hrel
    cases gk with
    | zero => exact absurd HA.out (by simp [pacesetterref04_Good.l0])
    | succ k1 =>
      have H := HA.out
      clear HA
      simp only [pacesetterref04_Good.l0] at H
      have HC3 := Aside0.mk H
      clear H
      go_upto_region 3 with (fail)
      repeat (go_quiet (fail); go_upto_region 3 with (fail))
      go_cut [16] (fun v16 wc => ∃ (kq : Nat) (x16_2 : Bool), v16 = .bool x16_2 ∧ Aside0 (pacesetterref04_Good.j1 kq l0 a1 x5_1 x6_1 x16_2 = some r) ∧ Aside0 (kq ≤ k1) ∧ Aside0 (Kd.V (Kd.slice 5 (Kd.int .u8)) 22 wc w.heap.size (fun k_ => (P0_ k_ ∨ w.heap.size ≤ k_) ∧ some k_ ≠ (u5 : Value).ownBlock) (.slice A0 l0.length c0) l0) ∧ Aside0 (Kd.N (Kd.slice 5 (Kd.int .u8)) 22 wc w.heap.size (fun k_ => (P0_ k_ ∨ w.heap.size ≤ k_)) u5 x5_1) ∧ Aside0 (Below w.heap.size w wc))
      case first =>
        have H := HC3.out
        clear HC3
        by_cases c4 : x6_1 < (l0.length : Int)
        · rw [if_pos c4] at H
          have c4b0 : decide (x6_1 < (l0.length : Int)) = true := decide_eq_true c4
          clear c4
          (first | rw [c4b0] | (simp only [i64_w, i32_w]; rw [c4b0]) | skip)
          have H' := Aside0.mk H
          clear H
          go_wp2
          repeat (go_quiet (fail); try go_wp2)
          go_meet
          case rel => exact ⟨_, (decide (x6_1 < a1)), (by first | rfl | (simp; done) | (simp [*]; done)), H', ⟨by have := HK1.out; first | omega | exact Nat.le_refl _⟩, ⟨by (with_reducible repeat (first | apply Kd.V_alloc | apply Kd.V_drewN | apply Kd.V_drew)); exact HO_0.out⟩, ⟨by (with_reducible repeat (first | apply Kd.N_alloc | apply Kd.N_drewN | apply Kd.N_drew)); exact HO_5.out⟩, ⟨by repeat (first | (with_reducible first | exact HB.out | apply below_alloc | apply pw_below_drewN | apply below_drew1) | exact HB.out)⟩⟩
        · rw [if_neg c4] at H
          have c4b0 : decide (x6_1 < (l0.length : Int)) = false := decide_eq_false c4
          clear c4
          (first | rw [c4b0] | (simp only [i64_w, i32_w]; rw [c4b0]) | skip)
          have H' := Aside0.mk H
          clear H
          go_wp2
          repeat (go_quiet (fail); try go_wp2)
          go_meet
          case rel => exact ⟨_, (false), (by first | rfl | (simp; done) | (simp [*]; done)), H', ⟨by have := HK1.out; first | omega | exact Nat.le_refl _⟩, ⟨by (with_reducible repeat (first | apply Kd.V_alloc | apply Kd.V_drewN | apply Kd.V_drew)); exact HO_0.out⟩, ⟨by (with_reducible repeat (first | apply Kd.N_alloc | apply Kd.N_drewN | apply Kd.N_drew)); exact HO_5.out⟩, ⟨by repeat (first | (with_reducible first | exact HB.out | apply below_alloc | apply pw_below_drewN | apply below_drew1) | exact HB.out)⟩⟩
      case rest =>
        clear HC3
        try clear p2
        try clear c4
        try clear c4b0
        try clear p2
        obtain ⟨kq, x16_2, rfl, HA, HJ2, HO_0, HO_5, HB⟩ := hcut
        cases kq with
        | zero => exact absurd HA.out (by simp [pacesetterref04_Good.j1])
        | succ kj2 =>
          have H := HA.out
          clear HA
          simp only [pacesetterref04_Good.j1] at H
          by_cases c5 : x16_2 = true
          · subst c5
            have H1 : (if 0 ≤ x6_1 then (if x6_1 < (l0.length : Int) then (if 0 ≤ (mn ((rd_L1 l0 x6_1).length : Int) 30) then (if (mn ((rd_L1 l0 x6_1).length : Int) 30) ≤ ((rd_L1 l0 x6_1).length : Int) then ((some ((rd_L1 l0 x6_1).take ((mn ((rd_L1 l0 x6_1).length : Int) 30) : Int).toNat : List Int)).bind fun y218 => (if (y218.length : Int) = 0 then (if x5_1.length < 5864062014805 then (pacesetterref04_Good.l0 kj2 l0 a1 (x5_1 ++ [(([(x6_1) % 256] : List Int))]) (wrap64 (x6_1 + 1))) else (none)) else (if x5_1.length < 5864062014805 then (pacesetterref04_Good.l0 kj2 l0 a1 (x5_1 ++ [y218]) (wrap64 (x6_1 + 1))) else (none)))) else (none)) else (none)) else (none)) else (none)) = some r := by rw [if_pos rfl] at H; exact H
            clear H
            have H := H1
            clear H1
            by_cases c6 : 0 ≤ x6_1
            · rw [if_pos c6] at H
              have c6b0 : decide (0 ≤ x6_1) = true := decide_eq_true c6
              clear c6
              by_cases c7 : x6_1 < (l0.length : Int)
              · rw [if_pos c7] at H
                have c7b0 : decide (x6_1 < (l0.length : Int)) = true := decide_eq_true c7
                clear c7
                obtain ⟨ji8, hji8⟩ : ∃ j_ : Int, (mn ((rd_L1 l0 x6_1).length : Int) 30) = j_ := ⟨_, rfl⟩
                replace H : (if 0 ≤ (ji8) then (if (ji8) ≤ ((rd_L1 l0 x6_1).length : Int) then ((some ((rd_L1 l0 x6_1).take ((ji8) : Int).toNat : List Int)).bind fun y218 => (if (y218.length : Int) = 0 then (if x5_1.length < 5864062014805 then (pacesetterref04_Good.l0 kj2 l0 a1 (x5_1 ++ [(([(x6_1) % 256] : List Int))]) (wrap64 (x6_1 + 1))) else (none)) else (if x5_1.length < 5864062014805 then (pacesetterref04_Good.l0 kj2 l0 a1 (x5_1 ++ [y218]) (wrap64 (x6_1 + 1))) else (none)))) else (none)) else (none)) = some r := by first | (rw [hji8] at H; exact H) | (simp only [hji8] at H ⊢; exact H)
                have hji8_ : (if 30 < ((rd_L1 l0 x6_1).length : Int) then 30 else ((rd_L1 l0 x6_1).length : Int)) = ji8 := hji8
                by_cases c9 : 0 ≤ (ji8)
                · rw [if_pos c9] at H
                  have c9b0 := eq_true c9
                  have c9b1 : decide (0 ≤ (ji8)) = true := decide_eq_true c9
                  clear c9
                  by_cases c10 : (ji8) ≤ ((rd_L1 l0 x6_1).length : Int)
                  · rw [if_pos c10] at H
                    have c10b0 := eq_true c10
                    have c10b1 : decide ((ji8) ≤ ((rd_L1 l0 x6_1).length : Int)) = true := decide_eq_true c10
                    clear c10
                    obtain ⟨y218, hy218⟩ : ∃ y_ : List Int, y_ = ((rd_L1 l0 x6_1).take ((ji8) : Int).toNat) := ⟨_, rfl⟩
                    replace H : (if (y218.length : Int) = 0 then (if x5_1.length < 5864062014805 then (pacesetterref04_Good.l0 kj2 l0 a1 (x5_1 ++ [(([(x6_1) % 256] : List Int))]) (wrap64 (x6_1 + 1))) else (none)) else (if x5_1.length < 5864062014805 then (pacesetterref04_Good.l0 kj2 l0 a1 (x5_1 ++ [y218]) (wrap64 (x6_1 + 1))) else (none))) = some r := by first | (rw [hy218]; with_reducible exact H) | (have H2_ := (Option.bind_some _ _).symm.trans H; rw [hy218]; with_reducible exact H2_) | (have H2_ := (Option.bind_some _ _).symm.trans H; with_reducible exact H2_) | with_reducible exact H | (rw [hy218]; exact H) | exact H
                    have Ny218 := Aside0.mk hy218
                    clear hy218
                    by_cases c11 : (y218.length : Int) = 0
                    · rw [if_pos c11] at H
                      have c11b0 : ((y218.length : Int) == 0) = true := beq_iff_eq.mpr c11
                      have c11b1 : ((y218.length : Int) != 0) = false := bne_eq_false_iff_eq.mpr c11
                      clear c11
                      obtain ⟨y223, hy223⟩ : ∃ y_ : List Int, y_ = (([(x6_1) % 256] : List Int)) := ⟨_, rfl⟩
                      replace H : (if x5_1.length < 5864062014805 then (pacesetterref04_Good.l0 kj2 l0 a1 (x5_1 ++ [y223]) (wrap64 (x6_1 + 1))) else (none)) = some r := by first | (rw [hy223]; with_reducible exact H) | (have H2_ := (Option.bind_some _ _).symm.trans H; rw [hy223]; with_reducible exact H2_) | (have H2_ := (Option.bind_some _ _).symm.trans H; with_reducible exact H2_) | with_reducible exact H | (rw [hy223]; exact H) | exact H
                      have Ny223 := Aside0.mk hy223
                      clear hy223
                      by_cases c12 : x5_1.length < 5864062014805
                      · rw [if_pos c12] at H
                        have LMc12 := Aside0.mk c12
                        clear c12
                        obtain ⟨y226, hy226⟩ : ∃ y_ : List (List Int), y_ = (x5_1 ++ [y223]) := ⟨_, rfl⟩
                        replace H : (pacesetterref04_Good.l0 kj2 l0 a1 y226 (wrap64 (x6_1 + 1))) = some r := by first | (rw [hy226]; with_reducible exact H) | (have H2_ := (Option.bind_some _ _).symm.trans H; rw [hy226]; with_reducible exact H2_) | (have H2_ := (Option.bind_some _ _).symm.trans H; with_reducible exact H2_) | with_reducible exact H | (rw [hy226]; exact H) | exact H
                        have Ny226 := Aside0.mk hy226
                        clear hy226
                        have H' := Aside0.mk H
                        clear H
                        have p216 : 0 ≤ (x6_1 : Int) := of_decide_eq_true (by first | (with_reducible assumption) | assumption)
                        have q216 : x6_1 < (l0.length : Int) := of_decide_eq_true (by first | (with_reducible assumption) | assumption)
                        obtain ⟨ad216, A216_0, c216_0, e216, hx216_0, hl216_0, hi216_0⟩ := at_L1 (Kd.V_reads' HO_0.out).2.2 x6_1 p216 q216
                        cases e216
                        obtain ⟨ce216, hce216, hMe216, hcc216⟩ := Kd.V_get HO_0.out [] x6_1 p216 (by first | exact q216 | exact of_decide_eq_true (by first | (with_reducible assumption) | assumption) | (have e_ := (Kd.V_reads' HO_0.out).1; omega))
                        obtain ⟨ua216_0, uc216_0, rfl, ul216_0, ge216_0⟩ := Kd.FK_slice_open hMe216
                        have hv216_0 := hcc216 0 _ rfl
                        rw [Nat.add_zero, show ((Kd.slice 5 (Kd.int .u8))).sz = 1 from rfl, Nat.mul_one] at hv216_0
                        replace hv216_0 := Option.some.inj (hv216_0.symm.trans hx216_0)
                        injection hv216_0 with hva_ hvn_ hvc_
                        rw [hva_] at ge216_0
                        rw [hvc_] at ul216_0
                        have HL216_0 := Aside0.mk (show Kd.V (Kd.int .u8) 5 _ w.heap.size _ _ (rd_L1 l0 x6_1) from Kd.V_mk ul216_0 ge216_0)
                        clear hva_ hvn_ hvc_ ge216_0 ul216_0
                        clear hcc216 hce216
                        have HR216_0 := Aside0.mk hi216_0
                        have HC216_0 := Aside0.mk hl216_0
                        clear hi216_0 hl216_0
                        replace p216 := eq_true p216
                        replace q216 := eq_true q216
                        have p217 : 0 ≤ (x6_1 : Int) := of_decide_eq_true (by first | (with_reducible assumption) | assumption)
                        have q217 : x6_1 < (l0.length : Int) := of_decide_eq_true (by first | (with_reducible assumption) | assumption)
                        obtain ⟨ad217, A217_0, c217_0, e217, hx217_0, hl217_0, hi217_0⟩ := at_L1 (Kd.V_reads' HO_0.out).2.2 x6_1 p217 q217
                        obtain rfl : ad216 = ad217 := (by injection e217)
                        obtain ⟨ce217, hce217, hMe217, hcc217⟩ := Kd.V_get HO_0.out [] x6_1 p217 (by first | exact q217 | exact of_decide_eq_true (by first | (with_reducible assumption) | assumption) | (have e_ := (Kd.V_reads' HO_0.out).1; omega))
                        obtain ⟨ua217_0, uc217_0, rfl, ul217_0, ge217_0⟩ := Kd.FK_slice_open hMe217
                        have hv217_0 := hcc217 0 _ rfl
                        rw [Nat.add_zero, show ((Kd.slice 5 (Kd.int .u8))).sz = 1 from rfl, Nat.mul_one] at hv217_0
                        replace hv217_0 := Option.some.inj (hv217_0.symm.trans hx217_0)
                        injection hv217_0 with hva_ hvn_ hvc_
                        rw [hva_] at ge217_0
                        rw [hvc_] at ul217_0
                        have HL217_0 := Aside0.mk (show Kd.V (Kd.int .u8) 5 _ w.heap.size _ _ (rd_L1 l0 x6_1) from Kd.V_mk ul217_0 ge217_0)
                        clear hva_ hvn_ hvc_ ge217_0 ul217_0
                        clear hcc217 hce217
                        have HR217_0 := Aside0.mk hi217_0
                        have HC217_0 := Aside0.mk hl217_0
                        clear hi217_0 hl217_0
                        replace p217 := eq_true p217
                        replace q217 := eq_true q217
                        have ea_ := Option.some.inj (hx216_0.symm.trans hx217_0)
                        injection ea_ with ea_ en_ ec_
                        subst ea_
                        subst ec_
                        clear en_
                        have q13 : ((ji8) : Int) ≤ (((rd_L1 l0 x6_1).length : Int) : Int) := of_decide_eq_true (by first | (with_reducible assumption) | assumption)
                        obtain ⟨i013, hi013, _, hsz13, _⟩ := info_parts info5
                        have hroom13 : (rd_L1 l0 x6_1).length ≤ c216_0 := HC216_0.out
                        have hC13 : Kd.F (Kd.int .u8) _ _ A216_0 (rd_L1 l0 x6_1).length (rd_L1 l0 x6_1) := (Kd.V_at (base := w.heap.size) HL216_0.out).2.2
                        have hcut13 := cut_to (P := Try.prog) 22 5 .i64 Try.underlying22 hi013 A216_0 (rd_L1 l0 x6_1).length c216_0 (ji8) (of_decide_eq_true (by first | (with_reducible assumption) | assumption)) q13 hroom13
                        have hr13 := Kd.F_take (m := ((ji8) : Int).toNat) hC13 (by omega)
                        have hy13 : y218.length = ((ji8) : Int).toNat := (by rw [Ny218.out, List.length_take]; omega)
                        rw [← Ny218.out] at hr13
                        rw [← hy13] at hcut13
                        have HO222 := Aside0.mk (show Kd.V (Kd.int .u8) 5 _ w.heap.size _ (.slice A216_0 y218.length c216_0) y218 from Kd.V_mk (by omega) hr13)
                        have HC222 := Aside0.mk (show y218.length ≤ c216_0 from by omega)
                        clear hr13 hC13 hroom13 hi013 hsz13
                        have KY13 := Aside0.mk hy13
                        clear hy13
                        replace q13 := eq_true q13
                        go_wp2_with (first | ((with_reducible refine gate_dst (N := 35) rfl ?_); refine Kd.R_lit (Kd.int .u8) _ 5 ?hg (N := 35) ?hd (xs := ([(x6_1) % 256] : List Int)) (inner := [.int .u8 ((x6_1) % 256)]) (ok := fun _ => True) (okp := fun _ => True) ?hr ?hp (fun _ hk => hk) trivial (Below.refl _ _) (Nat.le_refl _) (by simp) ?_; (case hd => rfl); (case hg => rfl); (case hr => first | (go_simp; done) | (go_simp; rfl)); (case hp => exact (Reps.one (show Kd.M (Kd.int .u8) _ _ _ ((x6_1) % 256) [.int .u8 ((x6_1) % 256)] from rfl) (Reps.none _ _))); intro v224 w14 ho15 hb hg_ hnew_; clear hg_ hnew_; (first | rw [← Ny223.out] at ho15 | (simp only [Int.reduceToNat] at ho15; rw [← Ny223.out] at ho15)); have n0_ := Aside0.mk (Kd.V_elder' (by (with_reducible repeat (first | apply Kd.V_alloc | apply Kd.V_drewN | apply Kd.V_drew)); exact HO_0.out) (Kd.R_base ho15) hb); have n1_ := Aside0.mk (Kd.N_elder' (by (with_reducible repeat (first | apply Kd.N_alloc | apply Kd.N_drewN | apply Kd.N_drew)); exact HO_5.out) (Kd.R_base ho15) hb); have n2_ := Aside0.mk (Kd.V_elder' (by (with_reducible repeat (first | apply Kd.V_alloc | apply Kd.V_drewN | apply Kd.V_drew)); exact HL216_0.out) (Kd.R_base ho15) hb); have n3_ := Aside0.mk (Kd.V_elder' (by (with_reducible repeat (first | apply Kd.V_alloc | apply Kd.V_drewN | apply Kd.V_drew)); exact HL217_0.out) (Kd.R_base ho15) hb); have n4_ := Aside0.mk (Kd.V_elder' (by (with_reducible repeat (first | apply Kd.V_alloc | apply Kd.V_drewN | apply Kd.V_drew)); exact HO222.out) (Kd.R_base ho15) hb); have n5_ := Aside0.mk (Kd.R_lower (Kd.R_newM (M := fun k_ => (w.heap.size ≤ k_)) ho15 (below_size (by repeat (first | (with_reducible first | exact HB.out | apply below_alloc | apply pw_below_drewN | apply below_drew1) | exact HB.out))) (fun k_ h_ => h_)) (below_size (by repeat (first | (with_reducible first | exact HB.out | apply below_alloc | apply pw_below_drewN | apply below_drew1) | exact HB.out)))); have n6_ := Aside0.mk (Kd.C_below (by repeat (first | (with_reducible exact HR216_0.out) | (with_reducible refine Kd.C_alloc ?_ _) | (with_reducible refine Kd.C_drewN ?_ _) | (with_reducible refine Kd.C_drew ?_) | exact HR216_0.out)) hb); have n7_ := Aside0.mk (Kd.C_below (by repeat (first | (with_reducible exact HR217_0.out) | (with_reducible refine Kd.C_alloc ?_ _) | (with_reducible refine Kd.C_drewN ?_ _) | (with_reducible refine Kd.C_drew ?_) | exact HR217_0.out)) hb); have n8_ := Aside0.mk (below_step (by repeat (first | (with_reducible first | exact HB.out | apply below_alloc | apply pw_below_drewN | apply below_drew1) | exact HB.out)) hb); clear HO_0; clear HO_5; clear HL216_0; clear HL217_0; clear HO222; clear HR216_0; clear HR217_0; clear HB; have HO_0 := n0_; have HO_5 := n1_; have HL216_0 := n2_; have HL217_0 := n3_; have HO222 := n4_; have HO225 := n5_; have HR216_0 := n6_; have HR217_0 := n7_; have HB := n8_; clear n0_ n1_ n2_ n3_ n4_ n5_ n6_ n7_ n8_; clear hb ho15; obtain ⟨Ao17, co17, eo17⟩ := Kd.R_slice HO225.out; subst eo17) | ((with_reducible refine gate_builtin (b := .append) (xs := #[.tmp 36, .tmp 38]) rfl ?_); at_builtin; refine Kd.N_append (Kd.slice 5 (Kd.int .u8)) (w0 := w) w.heap.size rfl (.tmp 36) (.tmp 38) 65 22 (.slice none 0 0) 24 rfl Try.underlying65 info22 rfl (by decide) (by omega) u5 x5_1 y223 [.slice Ao17 y223.length co17] (fun k_ => (P0_ k_ ∨ w.heap.size ≤ k_)) (fun k_ => ((fun k_ => (P0_ k_ ∨ w.heap.size ≤ k_))) k_ ∧ some k_ ≠ (u5 : Value).ownBlock) rfl rfl ?aP (fun _ hk => hk) ?aF ?aO ?aB ?aS ?aL ?_; (case aP => exact (Kd.FK_slice_mk (Kd.R_reads' (Kd.R_mono (ok' := (fun k_ => ((fun k_ => (P0_ k_ ∨ w.heap.size ≤ k_))) k_ ∧ some k_ ≠ (u5 : Value).ownBlock)) (Kd.R_apart' (HO225.out) (Kd.N_typed HO_5.out) (by decide)) (fun k_ hk => ⟨(.inr (hk.1.1)), hk.2⟩))).2.1 (Kd.R_F (Kd.R_mono (ok' := (fun k_ => ((fun k_ => (P0_ k_ ∨ w.heap.size ≤ k_))) k_ ∧ some k_ ≠ (u5 : Value).ownBlock)) (Kd.R_apart' (HO225.out) (Kd.N_typed HO_5.out) (by decide)) (fun k_ hk => ⟨(.inr (hk.1.1)), hk.2⟩))))); (case aB => exact (by repeat (first | (with_reducible first | exact HB.out | apply below_alloc | apply pw_below_drewN | apply below_drew1) | exact HB.out))); (case aF => exact (fun k_ hk => (.inr (Nat.le_trans (below_size (by repeat (first | (with_reducible first | exact HB.out | apply below_alloc | apply pw_below_drewN | apply below_drew1) | exact HB.out))) hk)))); (case aO => exact (by (with_reducible repeat (first | apply Kd.N_alloc | apply Kd.N_drewN | apply Kd.N_drew)); exact Kd.N_mono HO_5.out (fun _ hk => hk.1))); (case aS => exact (below_size (by repeat (first | (with_reducible first | exact HB.out | apply below_alloc | apply pw_below_drewN | apply below_drew1) | exact HB.out)))); (case aL => have := LMc12.out; omega); intro v227 w16 ho hb hg hat; rw [← Ny226.out] at ho; have n0_ := Aside0.mk (Kd.V_afterv (ok := (fun k_ => (P0_ k_ ∨ w.heap.size ≤ k_) ∧ some k_ ≠ (.slice Ao17 y223.length co17 : Value).ownBlock)) (by (with_reducible repeat (first | apply Kd.V_alloc | apply Kd.V_drewN | apply Kd.V_drew)); exact Kd.V_mono HO_0.out (fun _ hk => ⟨⟨hk.1.1, hk.2⟩, hk.1.2⟩)) hg hat); have n1_ := Aside0.mk (Kd.V_afterv (ok := (fun k_ => (P0_ k_ ∨ w.heap.size ≤ k_) ∧ some k_ ≠ (.slice Ao17 y223.length co17 : Value).ownBlock)) (by (with_reducible repeat (first | apply Kd.V_alloc | apply Kd.V_drewN | apply Kd.V_drew)); exact Kd.V_mono HL216_0.out (fun _ hk => ⟨⟨hk.1.1, hk.2⟩, hk.1.2⟩)) hg hat); have n2_ := Aside0.mk (Kd.V_afterv (ok := (fun k_ => (P0_ k_ ∨ w.heap.size ≤ k_) ∧ some k_ ≠ (.slice Ao17 y223.length co17 : Value).ownBlock)) (by (with_reducible repeat (first | apply Kd.V_alloc | apply Kd.V_drewN | apply Kd.V_drew)); exact Kd.V_mono HL217_0.out (fun _ hk => ⟨⟨hk.1.1, hk.2⟩, hk.1.2⟩)) hg hat); have n3_ := Aside0.mk (Kd.V_afterv (ok := (fun k_ => (P0_ k_ ∨ w.heap.size ≤ k_) ∧ some k_ ≠ (.slice Ao17 y223.length co17 : Value).ownBlock)) (by (with_reducible repeat (first | apply Kd.V_alloc | apply Kd.V_drewN | apply Kd.V_drew)); exact Kd.V_mono HO222.out (fun _ hk => ⟨⟨hk.1.1, hk.2⟩, hk.1.2⟩)) hg hat); have n4_ := Aside0.mk (hb); have n5_ := Aside0.mk (ho); clear HO_0; clear HL216_0; clear HL217_0; clear HO222; clear HB; clear HO_5; clear HO225; have HO_0 := n0_; have HL216_0 := n1_; have HL217_0 := n2_; have HO222 := n3_; have HB := n4_; have HO228 := n5_; clear n0_ n1_ n2_ n3_ n4_ n5_; clear ho hb hg hat))
                        repeat (go_quiet (first | ((with_reducible refine gate_dst (N := 35) rfl ?_); refine Kd.R_lit (Kd.int .u8) _ 5 ?hg (N := 35) ?hd (xs := ([(x6_1) % 256] : List Int)) (inner := [.int .u8 ((x6_1) % 256)]) (ok := fun _ => True) (okp := fun _ => True) ?hr ?hp (fun _ hk => hk) trivial (Below.refl _ _) (Nat.le_refl _) (by simp) ?_; (case hd => rfl); (case hg => rfl); (case hr => first | (go_simp; done) | (go_simp; rfl)); (case hp => exact (Reps.one (show Kd.M (Kd.int .u8) _ _ _ ((x6_1) % 256) [.int .u8 ((x6_1) % 256)] from rfl) (Reps.none _ _))); intro v224 w14 ho15 hb hg_ hnew_; clear hg_ hnew_; (first | rw [← Ny223.out] at ho15 | (simp only [Int.reduceToNat] at ho15; rw [← Ny223.out] at ho15)); have n0_ := Aside0.mk (Kd.V_elder' (by (with_reducible repeat (first | apply Kd.V_alloc | apply Kd.V_drewN | apply Kd.V_drew)); exact HO_0.out) (Kd.R_base ho15) hb); have n1_ := Aside0.mk (Kd.N_elder' (by (with_reducible repeat (first | apply Kd.N_alloc | apply Kd.N_drewN | apply Kd.N_drew)); exact HO_5.out) (Kd.R_base ho15) hb); have n2_ := Aside0.mk (Kd.V_elder' (by (with_reducible repeat (first | apply Kd.V_alloc | apply Kd.V_drewN | apply Kd.V_drew)); exact HL216_0.out) (Kd.R_base ho15) hb); have n3_ := Aside0.mk (Kd.V_elder' (by (with_reducible repeat (first | apply Kd.V_alloc | apply Kd.V_drewN | apply Kd.V_drew)); exact HL217_0.out) (Kd.R_base ho15) hb); have n4_ := Aside0.mk (Kd.V_elder' (by (with_reducible repeat (first | apply Kd.V_alloc | apply Kd.V_drewN | apply Kd.V_drew)); exact HO222.out) (Kd.R_base ho15) hb); have n5_ := Aside0.mk (Kd.R_lower (Kd.R_newM (M := fun k_ => (w.heap.size ≤ k_)) ho15 (below_size (by repeat (first | (with_reducible first | exact HB.out | apply below_alloc | apply pw_below_drewN | apply below_drew1) | exact HB.out))) (fun k_ h_ => h_)) (below_size (by repeat (first | (with_reducible first | exact HB.out | apply below_alloc | apply pw_below_drewN | apply below_drew1) | exact HB.out)))); have n6_ := Aside0.mk (Kd.C_below (by repeat (first | (with_reducible exact HR216_0.out) | (with_reducible refine Kd.C_alloc ?_ _) | (with_reducible refine Kd.C_drewN ?_ _) | (with_reducible refine Kd.C_drew ?_) | exact HR216_0.out)) hb); have n7_ := Aside0.mk (Kd.C_below (by repeat (first | (with_reducible exact HR217_0.out) | (with_reducible refine Kd.C_alloc ?_ _) | (with_reducible refine Kd.C_drewN ?_ _) | (with_reducible refine Kd.C_drew ?_) | exact HR217_0.out)) hb); have n8_ := Aside0.mk (below_step (by repeat (first | (with_reducible first | exact HB.out | apply below_alloc | apply pw_below_drewN | apply below_drew1) | exact HB.out)) hb); clear HO_0; clear HO_5; clear HL216_0; clear HL217_0; clear HO222; clear HR216_0; clear HR217_0; clear HB; have HO_0 := n0_; have HO_5 := n1_; have HL216_0 := n2_; have HL217_0 := n3_; have HO222 := n4_; have HO225 := n5_; have HR216_0 := n6_; have HR217_0 := n7_; have HB := n8_; clear n0_ n1_ n2_ n3_ n4_ n5_ n6_ n7_ n8_; clear hb ho15; obtain ⟨Ao17, co17, eo17⟩ := Kd.R_slice HO225.out; subst eo17) | ((with_reducible refine gate_builtin (b := .append) (xs := #[.tmp 36, .tmp 38]) rfl ?_); at_builtin; refine Kd.N_append (Kd.slice 5 (Kd.int .u8)) (w0 := w) w.heap.size rfl (.tmp 36) (.tmp 38) 65 22 (.slice none 0 0) 24 rfl Try.underlying65 info22 rfl (by decide) (by omega) u5 x5_1 y223 [.slice Ao17 y223.length co17] (fun k_ => (P0_ k_ ∨ w.heap.size ≤ k_)) (fun k_ => ((fun k_ => (P0_ k_ ∨ w.heap.size ≤ k_))) k_ ∧ some k_ ≠ (u5 : Value).ownBlock) rfl rfl ?aP (fun _ hk => hk) ?aF ?aO ?aB ?aS ?aL ?_; (case aP => exact (Kd.FK_slice_mk (Kd.R_reads' (Kd.R_mono (ok' := (fun k_ => ((fun k_ => (P0_ k_ ∨ w.heap.size ≤ k_))) k_ ∧ some k_ ≠ (u5 : Value).ownBlock)) (Kd.R_apart' (HO225.out) (Kd.N_typed HO_5.out) (by decide)) (fun k_ hk => ⟨(.inr (hk.1.1)), hk.2⟩))).2.1 (Kd.R_F (Kd.R_mono (ok' := (fun k_ => ((fun k_ => (P0_ k_ ∨ w.heap.size ≤ k_))) k_ ∧ some k_ ≠ (u5 : Value).ownBlock)) (Kd.R_apart' (HO225.out) (Kd.N_typed HO_5.out) (by decide)) (fun k_ hk => ⟨(.inr (hk.1.1)), hk.2⟩))))); (case aB => exact (by repeat (first | (with_reducible first | exact HB.out | apply below_alloc | apply pw_below_drewN | apply below_drew1) | exact HB.out))); (case aF => exact (fun k_ hk => (.inr (Nat.le_trans (below_size (by repeat (first | (with_reducible first | exact HB.out | apply below_alloc | apply pw_below_drewN | apply below_drew1) | exact HB.out))) hk)))); (case aO => exact (by (with_reducible repeat (first | apply Kd.N_alloc | apply Kd.N_drewN | apply Kd.N_drew)); exact Kd.N_mono HO_5.out (fun _ hk => hk.1))); (case aS => exact (below_size (by repeat (first | (with_reducible first | exact HB.out | apply below_alloc | apply pw_below_drewN | apply below_drew1) | exact HB.out)))); (case aL => have := LMc12.out; omega); intro v227 w16 ho hb hg hat; rw [← Ny226.out] at ho; have n0_ := Aside0.mk (Kd.V_afterv (ok := (fun k_ => (P0_ k_ ∨ w.heap.size ≤ k_) ∧ some k_ ≠ (.slice Ao17 y223.length co17 : Value).ownBlock)) (by (with_reducible repeat (first | apply Kd.V_alloc | apply Kd.V_drewN | apply Kd.V_drew)); exact Kd.V_mono HO_0.out (fun _ hk => ⟨⟨hk.1.1, hk.2⟩, hk.1.2⟩)) hg hat); have n1_ := Aside0.mk (Kd.V_afterv (ok := (fun k_ => (P0_ k_ ∨ w.heap.size ≤ k_) ∧ some k_ ≠ (.slice Ao17 y223.length co17 : Value).ownBlock)) (by (with_reducible repeat (first | apply Kd.V_alloc | apply Kd.V_drewN | apply Kd.V_drew)); exact Kd.V_mono HL216_0.out (fun _ hk => ⟨⟨hk.1.1, hk.2⟩, hk.1.2⟩)) hg hat); have n2_ := Aside0.mk (Kd.V_afterv (ok := (fun k_ => (P0_ k_ ∨ w.heap.size ≤ k_) ∧ some k_ ≠ (.slice Ao17 y223.length co17 : Value).ownBlock)) (by (with_reducible repeat (first | apply Kd.V_alloc | apply Kd.V_drewN | apply Kd.V_drew)); exact Kd.V_mono HL217_0.out (fun _ hk => ⟨⟨hk.1.1, hk.2⟩, hk.1.2⟩)) hg hat); have n3_ := Aside0.mk (Kd.V_afterv (ok := (fun k_ => (P0_ k_ ∨ w.heap.size ≤ k_) ∧ some k_ ≠ (.slice Ao17 y223.length co17 : Value).ownBlock)) (by (with_reducible repeat (first | apply Kd.V_alloc | apply Kd.V_drewN | apply Kd.V_drew)); exact Kd.V_mono HO222.out (fun _ hk => ⟨⟨hk.1.1, hk.2⟩, hk.1.2⟩)) hg hat); have n4_ := Aside0.mk (hb); have n5_ := Aside0.mk (ho); clear HO_0; clear HL216_0; clear HL217_0; clear HO222; clear HB; clear HO_5; clear HO225; have HO_0 := n0_; have HL216_0 := n1_; have HL217_0 := n2_; have HO222 := n3_; have HB := n4_; have HO228 := n5_; clear n0_ n1_ n2_ n3_ n4_ n5_; clear ho hb hg hat)); try go_wp2_with (first | ((with_reducible refine gate_dst (N := 35) rfl ?_); refine Kd.R_lit (Kd.int .u8) _ 5 ?hg (N := 35) ?hd (xs := ([(x6_1) % 256] : List Int)) (inner := [.int .u8 ((x6_1) % 256)]) (ok := fun _ => True) (okp := fun _ => True) ?hr ?hp (fun _ hk => hk) trivial (Below.refl _ _) (Nat.le_refl _) (by simp) ?_; (case hd => rfl); (case hg => rfl); (case hr => first | (go_simp; done) | (go_simp; rfl)); (case hp => exact (Reps.one (show Kd.M (Kd.int .u8) _ _ _ ((x6_1) % 256) [.int .u8 ((x6_1) % 256)] from rfl) (Reps.none _ _))); intro v224 w14 ho15 hb hg_ hnew_; clear hg_ hnew_; (first | rw [← Ny223.out] at ho15 | (simp only [Int.reduceToNat] at ho15; rw [← Ny223.out] at ho15)); have n0_ := Aside0.mk (Kd.V_elder' (by (with_reducible repeat (first | apply Kd.V_alloc | apply Kd.V_drewN | apply Kd.V_drew)); exact HO_0.out) (Kd.R_base ho15) hb); have n1_ := Aside0.mk (Kd.N_elder' (by (with_reducible repeat (first | apply Kd.N_alloc | apply Kd.N_drewN | apply Kd.N_drew)); exact HO_5.out) (Kd.R_base ho15) hb); have n2_ := Aside0.mk (Kd.V_elder' (by (with_reducible repeat (first | apply Kd.V_alloc | apply Kd.V_drewN | apply Kd.V_drew)); exact HL216_0.out) (Kd.R_base ho15) hb); have n3_ := Aside0.mk (Kd.V_elder' (by (with_reducible repeat (first | apply Kd.V_alloc | apply Kd.V_drewN | apply Kd.V_drew)); exact HL217_0.out) (Kd.R_base ho15) hb); have n4_ := Aside0.mk (Kd.V_elder' (by (with_reducible repeat (first | apply Kd.V_alloc | apply Kd.V_drewN | apply Kd.V_drew)); exact HO222.out) (Kd.R_base ho15) hb); have n5_ := Aside0.mk (Kd.R_lower (Kd.R_newM (M := fun k_ => (w.heap.size ≤ k_)) ho15 (below_size (by repeat (first | (with_reducible first | exact HB.out | apply below_alloc | apply pw_below_drewN | apply below_drew1) | exact HB.out))) (fun k_ h_ => h_)) (below_size (by repeat (first | (with_reducible first | exact HB.out | apply below_alloc | apply pw_below_drewN | apply below_drew1) | exact HB.out)))); have n6_ := Aside0.mk (Kd.C_below (by repeat (first | (with_reducible exact HR216_0.out) | (with_reducible refine Kd.C_alloc ?_ _) | (with_reducible refine Kd.C_drewN ?_ _) | (with_reducible refine Kd.C_drew ?_) | exact HR216_0.out)) hb); have n7_ := Aside0.mk (Kd.C_below (by repeat (first | (with_reducible exact HR217_0.out) | (with_reducible refine Kd.C_alloc ?_ _) | (with_reducible refine Kd.C_drewN ?_ _) | (with_reducible refine Kd.C_drew ?_) | exact HR217_0.out)) hb); have n8_ := Aside0.mk (below_step (by repeat (first | (with_reducible first | exact HB.out | apply below_alloc | apply pw_below_drewN | apply below_drew1) | exact HB.out)) hb); clear HO_0; clear HO_5; clear HL216_0; clear HL217_0; clear HO222; clear HR216_0; clear HR217_0; clear HB; have HO_0 := n0_; have HO_5 := n1_; have HL216_0 := n2_; have HL217_0 := n3_; have HO222 := n4_; have HO225 := n5_; have HR216_0 := n6_; have HR217_0 := n7_; have HB := n8_; clear n0_ n1_ n2_ n3_ n4_ n5_ n6_ n7_ n8_; clear hb ho15; obtain ⟨Ao17, co17, eo17⟩ := Kd.R_slice HO225.out; subst eo17) | ((with_reducible refine gate_builtin (b := .append) (xs := #[.tmp 36, .tmp 38]) rfl ?_); at_builtin; refine Kd.N_append (Kd.slice 5 (Kd.int .u8)) (w0 := w) w.heap.size rfl (.tmp 36) (.tmp 38) 65 22 (.slice none 0 0) 24 rfl Try.underlying65 info22 rfl (by decide) (by omega) u5 x5_1 y223 [.slice Ao17 y223.length co17] (fun k_ => (P0_ k_ ∨ w.heap.size ≤ k_)) (fun k_ => ((fun k_ => (P0_ k_ ∨ w.heap.size ≤ k_))) k_ ∧ some k_ ≠ (u5 : Value).ownBlock) rfl rfl ?aP (fun _ hk => hk) ?aF ?aO ?aB ?aS ?aL ?_; (case aP => exact (Kd.FK_slice_mk (Kd.R_reads' (Kd.R_mono (ok' := (fun k_ => ((fun k_ => (P0_ k_ ∨ w.heap.size ≤ k_))) k_ ∧ some k_ ≠ (u5 : Value).ownBlock)) (Kd.R_apart' (HO225.out) (Kd.N_typed HO_5.out) (by decide)) (fun k_ hk => ⟨(.inr (hk.1.1)), hk.2⟩))).2.1 (Kd.R_F (Kd.R_mono (ok' := (fun k_ => ((fun k_ => (P0_ k_ ∨ w.heap.size ≤ k_))) k_ ∧ some k_ ≠ (u5 : Value).ownBlock)) (Kd.R_apart' (HO225.out) (Kd.N_typed HO_5.out) (by decide)) (fun k_ hk => ⟨(.inr (hk.1.1)), hk.2⟩))))); (case aB => exact (by repeat (first | (with_reducible first | exact HB.out | apply below_alloc | apply pw_below_drewN | apply below_drew1) | exact HB.out))); (case aF => exact (fun k_ hk => (.inr (Nat.le_trans (below_size (by repeat (first | (with_reducible first | exact HB.out | apply below_alloc | apply pw_below_drewN | apply below_drew1) | exact HB.out))) hk)))); (case aO => exact (by (with_reducible repeat (first | apply Kd.N_alloc | apply Kd.N_drewN | apply Kd.N_drew)); exact Kd.N_mono HO_5.out (fun _ hk => hk.1))); (case aS => exact (below_size (by repeat (first | (with_reducible first | exact HB.out | apply below_alloc | apply pw_below_drewN | apply below_drew1) | exact HB.out)))); (case aL => have := LMc12.out; omega); intro v227 w16 ho hb hg hat; rw [← Ny226.out] at ho; have n0_ := Aside0.mk (Kd.V_afterv (ok := (fun k_ => (P0_ k_ ∨ w.heap.size ≤ k_) ∧ some k_ ≠ (.slice Ao17 y223.length co17 : Value).ownBlock)) (by (with_reducible repeat (first | apply Kd.V_alloc | apply Kd.V_drewN | apply Kd.V_drew)); exact Kd.V_mono HO_0.out (fun _ hk => ⟨⟨hk.1.1, hk.2⟩, hk.1.2⟩)) hg hat); have n1_ := Aside0.mk (Kd.V_afterv (ok := (fun k_ => (P0_ k_ ∨ w.heap.size ≤ k_) ∧ some k_ ≠ (.slice Ao17 y223.length co17 : Value).ownBlock)) (by (with_reducible repeat (first | apply Kd.V_alloc | apply Kd.V_drewN | apply Kd.V_drew)); exact Kd.V_mono HL216_0.out (fun _ hk => ⟨⟨hk.1.1, hk.2⟩, hk.1.2⟩)) hg hat); have n2_ := Aside0.mk (Kd.V_afterv (ok := (fun k_ => (P0_ k_ ∨ w.heap.size ≤ k_) ∧ some k_ ≠ (.slice Ao17 y223.length co17 : Value).ownBlock)) (by (with_reducible repeat (first | apply Kd.V_alloc | apply Kd.V_drewN | apply Kd.V_drew)); exact Kd.V_mono HL217_0.out (fun _ hk => ⟨⟨hk.1.1, hk.2⟩, hk.1.2⟩)) hg hat); have n3_ := Aside0.mk (Kd.V_afterv (ok := (fun k_ => (P0_ k_ ∨ w.heap.size ≤ k_) ∧ some k_ ≠ (.slice Ao17 y223.length co17 : Value).ownBlock)) (by (with_reducible repeat (first | apply Kd.V_alloc | apply Kd.V_drewN | apply Kd.V_drew)); exact Kd.V_mono HO222.out (fun _ hk => ⟨⟨hk.1.1, hk.2⟩, hk.1.2⟩)) hg hat); have n4_ := Aside0.mk (hb); have n5_ := Aside0.mk (ho); clear HO_0; clear HL216_0; clear HL217_0; clear HO222; clear HB; clear HO_5; clear HO225; have HO_0 := n0_; have HL216_0 := n1_; have HL217_0 := n2_; have HO222 := n3_; have HB := n4_; have HO228 := n5_; clear n0_ n1_ n2_ n3_ n4_ n5_; clear ho hb hg hat)))
                        go_roundg kj2
                        case measure => have := HK1.out; have := HJ2.out; omega
                        case rel => exact ⟨(y226), (wrap64 (x6_1 + 1)), (by first | rfl | (simp; done) | (simp [*]; done)), H', ⟨by have := HK1.out; have := HJ2.out; omega⟩, ⟨by (with_reducible repeat (first | apply Kd.V_alloc | apply Kd.V_drewN | apply Kd.V_drew)); exact Kd.V_mono HO_0.out (fun _ hk => ⟨hk.1.1, hk.2⟩)⟩, ⟨by (with_reducible repeat (first | apply Kd.N_alloc | apply Kd.N_drewN | apply Kd.N_drew)); exact HO228.out⟩, ⟨by repeat (first | (with_reducible first | exact HB.out | apply below_alloc | apply pw_below_drewN | apply below_drew1) | exact HB.out)⟩⟩
                      · rw [if_neg c12] at H
                        exact absurd H (by simp)
                    · rw [if_neg c11] at H
                      have c11b0 : ((y218.length : Int) == 0) = false := beq_eq_false_iff_ne.mpr c11
                      have c11b1 : ((y218.length : Int) != 0) = true := bne_iff_ne.mpr c11
                      have c11b2 : ¬ (y218 = []) := fun h_ => c11 (by rw [h_]; rfl)
                      by_cases c18 : x5_1.length < 5864062014805
                      · rw [if_pos c18] at H
                        have LMc18 := Aside0.mk c18
                        clear c18
                        obtain ⟨y229, hy229⟩ : ∃ y_ : List (List Int), y_ = (x5_1 ++ [y218]) := ⟨_, rfl⟩
                        replace H : (pacesetterref04_Good.l0 kj2 l0 a1 y229 (wrap64 (x6_1 + 1))) = some r := by first | (rw [hy229]; with_reducible exact H) | (have H2_ := (Option.bind_some _ _).symm.trans H; rw [hy229]; with_reducible exact H2_) | (have H2_ := (Option.bind_some _ _).symm.trans H; with_reducible exact H2_) | with_reducible exact H | (rw [hy229]; exact H) | exact H
                        have Ny229 := Aside0.mk hy229
                        clear hy229
                        have H' := Aside0.mk H
                        clear H
                        have p216 : 0 ≤ (x6_1 : Int) := of_decide_eq_true (by first | (with_reducible assumption) | assumption)
                        have q216 : x6_1 < (l0.length : Int) := of_decide_eq_true (by first | (with_reducible assumption) | assumption)
                        obtain ⟨ad216, A216_0, c216_0, e216, hx216_0, hl216_0, hi216_0⟩ := at_L1 (Kd.V_reads' HO_0.out).2.2 x6_1 p216 q216
                        cases e216
                        obtain ⟨ce216, hce216, hMe216, hcc216⟩ := Kd.V_get HO_0.out [] x6_1 p216 (by first | exact q216 | exact of_decide_eq_true (by first | (with_reducible assumption) | assumption) | (have e_ := (Kd.V_reads' HO_0.out).1; omega))
                        obtain ⟨ua216_0, uc216_0, rfl, ul216_0, ge216_0⟩ := Kd.FK_slice_open hMe216
                        have hv216_0 := hcc216 0 _ rfl
                        rw [Nat.add_zero, show ((Kd.slice 5 (Kd.int .u8))).sz = 1 from rfl, Nat.mul_one] at hv216_0
                        replace hv216_0 := Option.some.inj (hv216_0.symm.trans hx216_0)
                        injection hv216_0 with hva_ hvn_ hvc_
                        rw [hva_] at ge216_0
                        rw [hvc_] at ul216_0
                        have HL216_0 := Aside0.mk (show Kd.V (Kd.int .u8) 5 _ w.heap.size _ _ (rd_L1 l0 x6_1) from Kd.V_mk ul216_0 ge216_0)
                        clear hva_ hvn_ hvc_ ge216_0 ul216_0
                        clear hcc216 hce216
                        have HR216_0 := Aside0.mk hi216_0
                        have HC216_0 := Aside0.mk hl216_0
                        clear hi216_0 hl216_0
                        replace p216 := eq_true p216
                        replace q216 := eq_true q216
                        have p217 : 0 ≤ (x6_1 : Int) := of_decide_eq_true (by first | (with_reducible assumption) | assumption)
                        have q217 : x6_1 < (l0.length : Int) := of_decide_eq_true (by first | (with_reducible assumption) | assumption)
                        obtain ⟨ad217, A217_0, c217_0, e217, hx217_0, hl217_0, hi217_0⟩ := at_L1 (Kd.V_reads' HO_0.out).2.2 x6_1 p217 q217
                        obtain rfl : ad216 = ad217 := (by injection e217)
                        obtain ⟨ce217, hce217, hMe217, hcc217⟩ := Kd.V_get HO_0.out [] x6_1 p217 (by first | exact q217 | exact of_decide_eq_true (by first | (with_reducible assumption) | assumption) | (have e_ := (Kd.V_reads' HO_0.out).1; omega))
                        obtain ⟨ua217_0, uc217_0, rfl, ul217_0, ge217_0⟩ := Kd.FK_slice_open hMe217
                        have hv217_0 := hcc217 0 _ rfl
                        rw [Nat.add_zero, show ((Kd.slice 5 (Kd.int .u8))).sz = 1 from rfl, Nat.mul_one] at hv217_0
                        replace hv217_0 := Option.some.inj (hv217_0.symm.trans hx217_0)
                        injection hv217_0 with hva_ hvn_ hvc_
                        rw [hva_] at ge217_0
                        rw [hvc_] at ul217_0
                        have HL217_0 := Aside0.mk (show Kd.V (Kd.int .u8) 5 _ w.heap.size _ _ (rd_L1 l0 x6_1) from Kd.V_mk ul217_0 ge217_0)
                        clear hva_ hvn_ hvc_ ge217_0 ul217_0
                        clear hcc217 hce217
                        have HR217_0 := Aside0.mk hi217_0
                        have HC217_0 := Aside0.mk hl217_0
                        clear hi217_0 hl217_0
                        replace p217 := eq_true p217
                        replace q217 := eq_true q217
                        have ea_ := Option.some.inj (hx216_0.symm.trans hx217_0)
                        injection ea_ with ea_ en_ ec_
                        subst ea_
                        subst ec_
                        clear en_
                        have q19 : ((ji8) : Int) ≤ (((rd_L1 l0 x6_1).length : Int) : Int) := of_decide_eq_true (by first | (with_reducible assumption) | assumption)
                        obtain ⟨i019, hi019, _, hsz19, _⟩ := info_parts info5
                        have hroom19 : (rd_L1 l0 x6_1).length ≤ c216_0 := HC216_0.out
                        have hC19 : Kd.F (Kd.int .u8) _ _ A216_0 (rd_L1 l0 x6_1).length (rd_L1 l0 x6_1) := (Kd.V_at (base := w.heap.size) HL216_0.out).2.2
                        have hcut19 := cut_to (P := Try.prog) 22 5 .i64 Try.underlying22 hi019 A216_0 (rd_L1 l0 x6_1).length c216_0 (ji8) (of_decide_eq_true (by first | (with_reducible assumption) | assumption)) q19 hroom19
                        have hr19 := Kd.F_take (m := ((ji8) : Int).toNat) hC19 (by omega)
                        have hy19 : y218.length = ((ji8) : Int).toNat := (by rw [Ny218.out, List.length_take]; omega)
                        rw [← Ny218.out] at hr19
                        rw [← hy19] at hcut19
                        have HO222 := Aside0.mk (show Kd.V (Kd.int .u8) 5 _ w.heap.size _ (.slice A216_0 y218.length c216_0) y218 from Kd.V_mk (by omega) hr19)
                        have HC222 := Aside0.mk (show y218.length ≤ c216_0 from by omega)
                        clear hr19 hC19 hroom19 hi019 hsz19
                        have KY19 := Aside0.mk hy19
                        clear hy19
                        replace q19 := eq_true q19
                        go_wp2_with (first | ((with_reducible refine gate_builtin (b := .append) (xs := #[.tmp 36, .tmp 38]) rfl ?_); at_builtin; refine Kd.N_append (Kd.slice 5 (Kd.int .u8)) (w0 := w) w.heap.size rfl (.tmp 36) (.tmp 38) 65 22 (.slice none 0 0) 24 rfl Try.underlying65 info22 rfl (by decide) (by omega) u5 x5_1 y218 [.slice A216_0 y218.length c216_0] (fun k_ => (P0_ k_ ∨ w.heap.size ≤ k_)) (fun k_ => ((fun k_ => (P0_ k_ ∨ w.heap.size ≤ k_))) k_ ∧ some k_ ≠ (u5 : Value).ownBlock) rfl rfl ?aP (fun _ hk => hk) ?aF ?aO ?aB ?aS ?aL ?_; (case aP => exact (Kd.FK_slice_mk (Kd.V_reads' (Kd.V_mono (ok' := (fun k_ => ((fun k_ => (P0_ k_ ∨ w.heap.size ≤ k_))) k_ ∧ some k_ ≠ (u5 : Value).ownBlock)) (Kd.V_drewN HO222.out nq) (fun k_ hk => ⟨hk.1, hk.2⟩))).2.1 (Kd.V_F (Kd.V_mono (ok' := (fun k_ => ((fun k_ => (P0_ k_ ∨ w.heap.size ≤ k_))) k_ ∧ some k_ ≠ (u5 : Value).ownBlock)) (Kd.V_drewN HO222.out nq) (fun k_ hk => ⟨hk.1, hk.2⟩))))); (case aB => exact (by repeat (first | (with_reducible first | exact HB.out | apply below_alloc | apply pw_below_drewN | apply below_drew1) | exact HB.out))); (case aF => exact (fun k_ hk => (.inr (Nat.le_trans (below_size (by repeat (first | (with_reducible first | exact HB.out | apply below_alloc | apply pw_below_drewN | apply below_drew1) | exact HB.out))) hk)))); (case aO => exact (by (with_reducible repeat (first | apply Kd.N_alloc | apply Kd.N_drewN | apply Kd.N_drew)); exact HO_5.out)); (case aS => exact (below_size (by repeat (first | (with_reducible first | exact HB.out | apply below_alloc | apply pw_below_drewN | apply below_drew1) | exact HB.out)))); (case aL => have := LMc18.out; omega); intro v230 w20 ho hb hg hat; rw [← Ny229.out] at ho; have n0_ := Aside0.mk (Kd.V_afterv (ok := (fun k_ => (P0_ k_ ∨ w.heap.size ≤ k_))) (by (with_reducible repeat (first | apply Kd.V_alloc | apply Kd.V_drewN | apply Kd.V_drew)); exact HO_0.out) hg hat); have n1_ := Aside0.mk (Kd.V_afterv (ok := (fun k_ => (P0_ k_ ∨ w.heap.size ≤ k_))) (by (with_reducible repeat (first | apply Kd.V_alloc | apply Kd.V_drewN | apply Kd.V_drew)); exact HL216_0.out) hg hat); have n2_ := Aside0.mk (Kd.V_afterv (ok := (fun k_ => (P0_ k_ ∨ w.heap.size ≤ k_))) (by (with_reducible repeat (first | apply Kd.V_alloc | apply Kd.V_drewN | apply Kd.V_drew)); exact HL217_0.out) hg hat); have n3_ := Aside0.mk (Kd.V_afterv (ok := (fun k_ => (P0_ k_ ∨ w.heap.size ≤ k_))) (by (with_reducible repeat (first | apply Kd.V_alloc | apply Kd.V_drewN | apply Kd.V_drew)); exact HO222.out) hg hat); have n4_ := Aside0.mk (hb); have n5_ := Aside0.mk (ho); clear HO_0; clear HL216_0; clear HL217_0; clear HO222; clear HB; clear HO_5; have HO_0 := n0_; have HL216_0 := n1_; have HL217_0 := n2_; have HO222 := n3_; have HB := n4_; have HO231 := n5_; clear n0_ n1_ n2_ n3_ n4_ n5_; clear ho hb hg hat))
                        repeat (go_quiet (first | ((with_reducible refine gate_builtin (b := .append) (xs := #[.tmp 36, .tmp 38]) rfl ?_); at_builtin; refine Kd.N_append (Kd.slice 5 (Kd.int .u8)) (w0 := w) w.heap.size rfl (.tmp 36) (.tmp 38) 65 22 (.slice none 0 0) 24 rfl Try.underlying65 info22 rfl (by decide) (by omega) u5 x5_1 y218 [.slice A216_0 y218.length c216_0] (fun k_ => (P0_ k_ ∨ w.heap.size ≤ k_)) (fun k_ => ((fun k_ => (P0_ k_ ∨ w.heap.size ≤ k_))) k_ ∧ some k_ ≠ (u5 : Value).ownBlock) rfl rfl ?aP (fun _ hk => hk) ?aF ?aO ?aB ?aS ?aL ?_; (case aP => exact (Kd.FK_slice_mk (Kd.V_reads' (Kd.V_mono (ok' := (fun k_ => ((fun k_ => (P0_ k_ ∨ w.heap.size ≤ k_))) k_ ∧ some k_ ≠ (u5 : Value).ownBlock)) (Kd.V_drewN HO222.out nq) (fun k_ hk => ⟨hk.1, hk.2⟩))).2.1 (Kd.V_F (Kd.V_mono (ok' := (fun k_ => ((fun k_ => (P0_ k_ ∨ w.heap.size ≤ k_))) k_ ∧ some k_ ≠ (u5 : Value).ownBlock)) (Kd.V_drewN HO222.out nq) (fun k_ hk => ⟨hk.1, hk.2⟩))))); (case aB => exact (by repeat (first | (with_reducible first | exact HB.out | apply below_alloc | apply pw_below_drewN | apply below_drew1) | exact HB.out))); (case aF => exact (fun k_ hk => (.inr (Nat.le_trans (below_size (by repeat (first | (with_reducible first | exact HB.out | apply below_alloc | apply pw_below_drewN | apply below_drew1) | exact HB.out))) hk)))); (case aO => exact (by (with_reducible repeat (first | apply Kd.N_alloc | apply Kd.N_drewN | apply Kd.N_drew)); exact HO_5.out)); (case aS => exact (below_size (by repeat (first | (with_reducible first | exact HB.out | apply below_alloc | apply pw_below_drewN | apply below_drew1) | exact HB.out)))); (case aL => have := LMc18.out; omega); intro v230 w20 ho hb hg hat; rw [← Ny229.out] at ho; have n0_ := Aside0.mk (Kd.V_afterv (ok := (fun k_ => (P0_ k_ ∨ w.heap.size ≤ k_))) (by (with_reducible repeat (first | apply Kd.V_alloc | apply Kd.V_drewN | apply Kd.V_drew)); exact HO_0.out) hg hat); have n1_ := Aside0.mk (Kd.V_afterv (ok := (fun k_ => (P0_ k_ ∨ w.heap.size ≤ k_))) (by (with_reducible repeat (first | apply Kd.V_alloc | apply Kd.V_drewN | apply Kd.V_drew)); exact HL216_0.out) hg hat); have n2_ := Aside0.mk (Kd.V_afterv (ok := (fun k_ => (P0_ k_ ∨ w.heap.size ≤ k_))) (by (with_reducible repeat (first | apply Kd.V_alloc | apply Kd.V_drewN | apply Kd.V_drew)); exact HL217_0.out) hg hat); have n3_ := Aside0.mk (Kd.V_afterv (ok := (fun k_ => (P0_ k_ ∨ w.heap.size ≤ k_))) (by (with_reducible repeat (first | apply Kd.V_alloc | apply Kd.V_drewN | apply Kd.V_drew)); exact HO222.out) hg hat); have n4_ := Aside0.mk (hb); have n5_ := Aside0.mk (ho); clear HO_0; clear HL216_0; clear HL217_0; clear HO222; clear HB; clear HO_5; have HO_0 := n0_; have HL216_0 := n1_; have HL217_0 := n2_; have HO222 := n3_; have HB := n4_; have HO231 := n5_; clear n0_ n1_ n2_ n3_ n4_ n5_; clear ho hb hg hat)); try go_wp2_with (first | ((with_reducible refine gate_builtin (b := .append) (xs := #[.tmp 36, .tmp 38]) rfl ?_); at_builtin; refine Kd.N_append (Kd.slice 5 (Kd.int .u8)) (w0 := w) w.heap.size rfl (.tmp 36) (.tmp 38) 65 22 (.slice none 0 0) 24 rfl Try.underlying65 info22 rfl (by decide) (by omega) u5 x5_1 y218 [.slice A216_0 y218.length c216_0] (fun k_ => (P0_ k_ ∨ w.heap.size ≤ k_)) (fun k_ => ((fun k_ => (P0_ k_ ∨ w.heap.size ≤ k_))) k_ ∧ some k_ ≠ (u5 : Value).ownBlock) rfl rfl ?aP (fun _ hk => hk) ?aF ?aO ?aB ?aS ?aL ?_; (case aP => exact (Kd.FK_slice_mk (Kd.V_reads' (Kd.V_mono (ok' := (fun k_ => ((fun k_ => (P0_ k_ ∨ w.heap.size ≤ k_))) k_ ∧ some k_ ≠ (u5 : Value).ownBlock)) (Kd.V_drewN HO222.out nq) (fun k_ hk => ⟨hk.1, hk.2⟩))).2.1 (Kd.V_F (Kd.V_mono (ok' := (fun k_ => ((fun k_ => (P0_ k_ ∨ w.heap.size ≤ k_))) k_ ∧ some k_ ≠ (u5 : Value).ownBlock)) (Kd.V_drewN HO222.out nq) (fun k_ hk => ⟨hk.1, hk.2⟩))))); (case aB => exact (by repeat (first | (with_reducible first | exact HB.out | apply below_alloc | apply pw_below_drewN | apply below_drew1) | exact HB.out))); (case aF => exact (fun k_ hk => (.inr (Nat.le_trans (below_size (by repeat (first | (with_reducible first | exact HB.out | apply below_alloc | apply pw_below_drewN | apply below_drew1) | exact HB.out))) hk)))); (case aO => exact (by (with_reducible repeat (first | apply Kd.N_alloc | apply Kd.N_drewN | apply Kd.N_drew)); exact HO_5.out)); (case aS => exact (below_size (by repeat (first | (with_reducible first | exact HB.out | apply below_alloc | apply pw_below_drewN | apply below_drew1) | exact HB.out)))); (case aL => have := LMc18.out; omega); intro v230 w20 ho hb hg hat; rw [← Ny229.out] at ho; have n0_ := Aside0.mk (Kd.V_afterv (ok := (fun k_ => (P0_ k_ ∨ w.heap.size ≤ k_))) (by (with_reducible repeat (first | apply Kd.V_alloc | apply Kd.V_drewN | apply Kd.V_drew)); exact HO_0.out) hg hat); have n1_ := Aside0.mk (Kd.V_afterv (ok := (fun k_ => (P0_ k_ ∨ w.heap.size ≤ k_))) (by (with_reducible repeat (first | apply Kd.V_alloc | apply Kd.V_drewN | apply Kd.V_drew)); exact HL216_0.out) hg hat); have n2_ := Aside0.mk (Kd.V_afterv (ok := (fun k_ => (P0_ k_ ∨ w.heap.size ≤ k_))) (by (with_reducible repeat (first | apply Kd.V_alloc | apply Kd.V_drewN | apply Kd.V_drew)); exact HL217_0.out) hg hat); have n3_ := Aside0.mk (Kd.V_afterv (ok := (fun k_ => (P0_ k_ ∨ w.heap.size ≤ k_))) (by (with_reducible repeat (first | apply Kd.V_alloc | apply Kd.V_drewN | apply Kd.V_drew)); exact HO222.out) hg hat); have n4_ := Aside0.mk (hb); have n5_ := Aside0.mk (ho); clear HO_0; clear HL216_0; clear HL217_0; clear HO222; clear HB; clear HO_5; have HO_0 := n0_; have HL216_0 := n1_; have HL217_0 := n2_; have HO222 := n3_; have HB := n4_; have HO231 := n5_; clear n0_ n1_ n2_ n3_ n4_ n5_; clear ho hb hg hat)))
                        go_roundg kj2
                        case measure => have := HK1.out; have := HJ2.out; omega
                        case rel => exact ⟨(y229), (wrap64 (x6_1 + 1)), (by first | rfl | (simp; done) | (simp [*]; done)), H', ⟨by have := HK1.out; have := HJ2.out; omega⟩, ⟨by (with_reducible repeat (first | apply Kd.V_alloc | apply Kd.V_drewN | apply Kd.V_drew)); exact HO_0.out⟩, ⟨by (with_reducible repeat (first | apply Kd.N_alloc | apply Kd.N_drewN | apply Kd.N_drew)); exact HO231.out⟩, ⟨by repeat (first | (with_reducible first | exact HB.out | apply below_alloc | apply pw_below_drewN | apply below_drew1) | exact HB.out)⟩⟩
                      · rw [if_neg c18] at H
                        exact absurd H (by simp)
                  · rw [if_neg c10] at H
                    exact absurd H (by simp)
                · rw [if_neg c9] at H
                  exact absurd H (by simp)
              · rw [if_neg c7] at H
                exact absurd H (by simp)
            · rw [if_neg c6] at H
              exact absurd H (by simp)
          · replace c5 := Bool.eq_false_iff.mpr c5
            subst c5
            have H1 : (some x5_1) = some r := by rw [if_neg (show ¬ (false = true) by decide)] at H; exact H
            clear H
            have H := H1
            clear H1
            obtain rfl := Option.some.inj H
            go_wp2
            repeat (go_quiet (fail); try go_wp2)
            go_ret
            exact ⟨_, by first | rfl | (simp [errW_none, errW_some] <;> rfl) | (simp [*, errW_none, errW_some] <;> rfl), by (with_reducible repeat (first | apply Kd.N_alloc | apply Kd.N_drewN | apply Kd.N_drew)); exact HO_5.out, by repeat (first | (with_reducible first | exact HB.out | apply below_alloc | apply pw_below_drewN | apply below_drew1) | exact HB.out)⟩

end Go.Proofs.Ytbcienbnhchdeaa.Print

-- Printed by a program of this session (wip/patch_print.py over the kit's print); Lean checks it.
namespace Go.Proofs.Ytbcienbnhchdeaa.Print
open Go.RowKit Go.Proofs.YtbcienbnhchdeaaW.PrintWords Go.Proofs.YtbcienbnhchdeaaW.PrintLast Go.Proofs.YtbcienbnhchdeaaW.PrintMore
attribute [local go_sem] max2_int min2_int max_two min_two max_three min_three max_four min_four   -- for this text's walks alone
set_option linter.unusedVariables false
set_option linter.unusedSimpArgs false

/-! ### pacesetterref04_All: function 67 -/
def pacesetterref04_All.l0 : Nat → List (List Int) → List Int → Int → Option (List Int)
  | 0, _, _, _ => none
  | k + 1, x0, x3, x4 => if x4 < (x0.length : Int) then (if 0 ≤ x4 then ((pacesetterref04_Put.f k x3 (rd_L1 x0 x4)).bind fun bt233 => (pacesetterref04_All.l0 k x0 bt233.1 (wrap64 (x4 + 1)))) else (none)) else (some x3)
def pacesetterref04_All.f (k : Nat) (l0 : List (List Int)) : Option (List Int) := pacesetterref04_All.l0 k l0 ([] : List Int) 0
theorem pacesetterref04_All.mono_l : ∀ k, (∀ y0 y1 y2, LeO (pacesetterref04_All.l0 k y0 y1 y2) (pacesetterref04_All.l0 (k + 1) y0 y1 y2))
  | 0 => fun _ _ _ r h => by simp [pacesetterref04_All.l0] at h
  | k + 1 => by
    have ih0 := pacesetterref04_All.mono_l k
    · intro y0 y1 y2
      unfold pacesetterref04_All.l0
      repeat' first
      | (with_reducible exact ih0 _ _ _)
      | (with_reducible exact pacesetterref04_Put.mono _ _ _)
      | (with_reducible exact LeO.refl _)
      | (with_reducible exact LeO.none _)
      | (with_reducible refine LeO.ite ?_ ?_)
      | (with_reducible refine LeO.bind ?_ (fun _ => ?_))
      | exact ih0 _ _ _
      | exact pacesetterref04_Put.mono _ _ _
      | exact LeO.none _
      | refine LeO.ite ?_ ?_
      | refine LeO.bind ?_ (fun _ => ?_)
theorem pacesetterref04_All.mono : ∀ a0 k, LeO (pacesetterref04_All.f k a0) (pacesetterref04_All.f (k + 1) a0) := by
  intro a0 k
  have ih0 := pacesetterref04_All.mono_l k
  unfold pacesetterref04_All.f
  repeat' first
      | (with_reducible exact ih0 _ _ _)
      | (with_reducible exact pacesetterref04_Put.mono _ _ _)
      | (with_reducible exact LeO.refl _)
      | (with_reducible exact LeO.none _)
      | (with_reducible refine LeO.ite ?_ ?_)
      | (with_reducible refine LeO.bind ?_ (fun _ => ?_))
      | exact ih0 _ _ _
      | exact pacesetterref04_Put.mono _ _ _
      | exact LeO.none _
      | refine LeO.ite ?_ ?_
      | refine LeO.bind ?_ (fun _ => ?_)
set_option maxHeartbeats 8000000 in
set_option maxRecDepth 100000 in
theorem pacesetterref04_All.calls (k : Nat) (A0 : Option Addr) (c0 : Nat) (l0 : List (List Int)) (r : List Int) (w : World) (hr0 : Kd.C (Kd.slice 5 (Kd.int .u8)) w A0 l0.length l0) (hc0 : l0.length ≤ c0) (h : pacesetterref04_All.f k l0 = some r) :
    Calls Try.prog 67 #[.slice A0 l0.length c0] w fun e w' => ∃ v0_ : Value, e = .returned (v0_) ∧ Kd.R (Kd.int .u8) 5 w' w.heap.size (fun _ => True) v0_ r ∧ Below w.heap.size w w' := by
  have HR0 := Aside0.mk hr0
  have HC0 := Aside0.mk hc0
  clear hr0 hc0
  have HB := Aside0.mk (Below.refl w.heap.size w)
  have H : (pacesetterref04_All.l0 k l0 ([] : List Int) 0) = some r := h
  clear h
  have H' := Aside0.mk H
  clear H
  go_enter Try.func67, Try.ntmps67
  go_wp2
  go_loopg [3, 4] k (fun kq v3 v4 w' => ∃ (x3_1 : List Int) (x4_1 : Int), v4 = .int .i64 x4_1 ∧ Aside0 (pacesetterref04_All.l0 kq l0 x3_1 x4_1 = some r) ∧ Aside0 (kq ≤ k) ∧ Aside0 (Kd.R (Kd.int .u8) 5 w' w.heap.size (fun _ => True) v3 x3_1) ∧ Aside0 (Below w.heap.size w w'))
  case atStart => exact ⟨(([] : List Int)), (0), (by first | rfl | (simp; done) | (simp [*]; done)), H', ⟨Nat.le_refl _⟩, ⟨by first | exact Kd.R_nil _ _ _ _ _ | exact Kd.N_nil _ _ _ _ _ | exact Kd.V_nil _ _ _ _ _ | exact Kd.Q_nil _ _ _ _ _ | exact Kd.S_nil _ _ _ _ _⟩, ⟨by repeat (first | (with_reducible first | exact HB.out | apply below_alloc | apply pw_below_drewN | apply below_drew1) | exact HB.out)⟩⟩
  case round =>
    clear H'
    obtain ⟨x3_1, x4_1, rfl, HA, HK1, HO_3, HB⟩ := hrel
    cases gk with
    | zero => exact absurd HA.out (by simp [pacesetterref04_All.l0])
    | succ k1 =>
      have H := HA.out
      clear HA
      simp only [pacesetterref04_All.l0] at H
      by_cases c2 : x4_1 < (l0.length : Int)
      · rw [if_pos c2] at H
        have c2b0 : decide (x4_1 < (l0.length : Int)) = true := decide_eq_true c2
        clear c2
        by_cases c3 : 0 ≤ x4_1
        · rw [if_pos c3] at H
          have c3b0 : decide (0 ≤ x4_1) = true := decide_eq_true c3
          clear c3
          replace H := Option.bind_eq_some_iff.mp H
          obtain ⟨⟨t233, t236⟩, A40, H⟩ := H
          replace H : (pacesetterref04_All.l0 k1 l0 t233 (wrap64 (x4_1 + 1))) = some r := H
          have A4 := Aside0.mk A40
          clear A40
          have H' := Aside0.mk H
          clear H
          have p232 : 0 ≤ (x4_1 : Int) := of_decide_eq_true (by first | (with_reducible assumption) | assumption)
          have q232 : x4_1 < (l0.length : Int) := of_decide_eq_true (by first | (with_reducible assumption) | assumption)
          obtain ⟨ad232, A232_0, c232_0, e232, hx232_0, hl232_0, hi232_0⟩ := at_L1 HR0.out x4_1 p232 q232
          cases e232
          replace hx232_0 := (HB.out.cell (World.block_lt_of_cell? w _ hx232_0)).trans hx232_0
          have HR232_0 := Aside0.mk hi232_0
          have HC232_0 := Aside0.mk hl232_0
          clear hi232_0 hl232_0
          replace p232 := eq_true p232
          replace q232 := eq_true q232
          obtain ⟨Ao5, co5, eo5⟩ := Kd.R_slice HO_3.out
          subst eo5
          go_wp2_with (first | ((with_reducible refine gate_callee (f := 63) rfl ?_); refine goesL_ (some 19) rfl rfl Try.func63 (by kernel_rfl) rfl #[.slice Ao5 x3_1.length co5, .slice A232_0 (rd_L1 l0 x4_1).length c232_0] rfl (by (try simp only [List.map_toArray, List.map_cons, List.map_nil]); first | done | rfl | (simp only [List.length_drop, List.length_take]; rfl)) ?_; (with_reducible refine (pacesetterref04_Put.calls k1 (fun k_ => some k_ = (.slice Ao5 x3_1.length co5 : Value).ownBlock) (.slice Ao5 x3_1.length co5) x3_1 _ _ (rd_L1 l0 x4_1) t233 t236 w _ ?side1 ?side2 ?side3 ?side4 A4.out).mono ?_); (case side1 => repeat (first | (with_reducible first | exact HB.out | apply below_alloc | apply pw_below_drewN | apply below_drew1) | exact HB.out)); (case side2 => exact Kd.R_tight rfl HO_3.out); (case side3 => exact Kd.C_kept_came (Kd.heap_int .u8) HR232_0.out (by repeat (first | (with_reducible first | exact HB.out | apply below_alloc | apply pw_below_drewN | apply below_drew1) | exact HB.out)) (fun k_ hs_ => (fun e_ => Kd.R_base HO_3.out k_ e_.symm) hs_)); (case side4 => exact HC232_0.out); rintro e w6 ⟨v234, rfl, ho0, hb, hkp⟩; refine ⟨_, rfl, ?_⟩; have n0_ := Aside0.mk (Kd.R_mono (ok' := fun k_ => True) ho0 (fun k_ hk_ => trivial)); have n1_ := Aside0.mk (hb); clear HB; clear HO_3; have HO235 := n0_; have HB := n1_; clear n0_ n1_; (try clear hb); (try clear hkp); (try clear ho0)))
          go_roundg k1
          case measure => have := HK1.out; omega
          case rel => exact ⟨(t233), (wrap64 (x4_1 + 1)), (by first | rfl | (simp; done) | (simp [*]; done)), H', ⟨by have := HK1.out; omega⟩, ⟨by (with_reducible repeat (first | apply Kd.R_alloc | apply Kd.R_drewN | apply Kd.R_drew)); exact HO235.out⟩, ⟨by repeat (first | (with_reducible first | exact HB.out | apply below_alloc | apply pw_below_drewN | apply below_drew1) | exact HB.out)⟩⟩
        · rw [if_neg c3] at H
          exact absurd H (by simp)
      · rw [if_neg c2] at H
        have c2b0 : decide (x4_1 < (l0.length : Int)) = false := decide_eq_false c2
        clear c2
        obtain rfl := Option.some.inj H
        go_wp2
        go_ret
        exact ⟨_, by first | rfl | (simp [errW_none, errW_some] <;> rfl) | (simp [*, errW_none, errW_some] <;> rfl), by (with_reducible repeat (first | apply Kd.R_alloc | apply Kd.R_drewN | apply Kd.R_drew)); exact HO_3.out, by repeat (first | (with_reducible first | exact HB.out | apply below_alloc | apply pw_below_drewN | apply below_drew1) | exact HB.out)⟩

end Go.Proofs.Ytbcienbnhchdeaa.Print

-- Printed by a program of this session (wip/patch_print.py over the kit's print); Lean checks it.
-- cut_print: 4
namespace Go.Proofs.Ytbcienbnhchdeaa.Print
open Go.RowKit Go.Proofs.YtbcienbnhchdeaaW.PrintWords Go.Proofs.YtbcienbnhchdeaaW.PrintLast Go.Proofs.YtbcienbnhchdeaaW.PrintMore
attribute [local go_sem] max2_int min2_int max_two min_two max_three min_three max_four min_four   -- for this text's walks alone
set_option linter.unusedVariables false
set_option linter.unusedSimpArgs false

/-! ### pacesetterref04_Same: function 69 -/
def pacesetterref04_Same.l0 : Nat → List (List Int) → List (List Int) → Int → Option (Bool)
  | 0, _, _, _ => none
  | k + 1, x0, x1, x5 => if x5 < (x0.length : Int) then (if 0 ≤ x5 then (if x5 < (x1.length : Int) then (if (strOfNums (rd_L1 x0 x5)).toList = (strOfNums (rd_L1 x1 x5)).toList then (pacesetterref04_Same.l0 k x0 x1 (wrap64 (x5 + 1))) else (some false)) else (none)) else (none)) else (some true)
def pacesetterref04_Same.f (k : Nat) (l0 : List (List Int)) (l1 : List (List Int)) : Option (Bool) := if (l0.length : Int) = (l1.length : Int) then (pacesetterref04_Same.l0 k l0 l1 0) else (some false)
theorem pacesetterref04_Same.mono_l : ∀ k, (∀ y0 y1 y2, LeO (pacesetterref04_Same.l0 k y0 y1 y2) (pacesetterref04_Same.l0 (k + 1) y0 y1 y2))
  | 0 => fun _ _ _ r h => by simp [pacesetterref04_Same.l0] at h
  | k + 1 => by
    have ih0 := pacesetterref04_Same.mono_l k
    · intro y0 y1 y2
      unfold pacesetterref04_Same.l0
      repeat' first
      | (with_reducible exact ih0 _ _ _)
      | (with_reducible exact LeO.refl _)
      | (with_reducible exact LeO.none _)
      | (with_reducible refine LeO.ite ?_ ?_)
      | (with_reducible refine LeO.bind ?_ (fun _ => ?_))
      | exact ih0 _ _ _
      | exact LeO.none _
      | refine LeO.ite ?_ ?_
      | refine LeO.bind ?_ (fun _ => ?_)
theorem pacesetterref04_Same.mono : ∀ a0 a1 k, LeO (pacesetterref04_Same.f k a0 a1) (pacesetterref04_Same.f (k + 1) a0 a1) := by
  intro a0 a1 k
  have ih0 := pacesetterref04_Same.mono_l k
  unfold pacesetterref04_Same.f
  repeat' first
      | (with_reducible exact ih0 _ _ _)
      | (with_reducible exact LeO.refl _)
      | (with_reducible exact LeO.none _)
      | (with_reducible refine LeO.ite ?_ ?_)
      | (with_reducible refine LeO.bind ?_ (fun _ => ?_))
      | exact ih0 _ _ _
      | exact LeO.none _
      | refine LeO.ite ?_ ?_
      | refine LeO.bind ?_ (fun _ => ?_)
set_option maxHeartbeats 8000000 in
set_option maxRecDepth 100000 in
theorem pacesetterref04_Same.calls (k : Nat) (A0 : Option Addr) (c0 : Nat) (l0 : List (List Int)) (A1 : Option Addr) (c1 : Nat) (l1 : List (List Int)) (r : Bool) (w : World) (hr0 : Kd.C (Kd.slice 5 (Kd.int .u8)) w A0 l0.length l0) (hc0 : l0.length ≤ c0) (hr1 : Kd.C (Kd.slice 5 (Kd.int .u8)) w A1 l1.length l1) (hc1 : l1.length ≤ c1) (h : pacesetterref04_Same.f k l0 l1 = some r) :
    Calls Try.prog 69 #[.slice A0 l0.length c0, .slice A1 l1.length c1] w fun e w' => e = .returned (.bool r) ∧ Drawn0 w w' := by
  have HR0 := Aside0.mk hr0
  have HC0 := Aside0.mk hc0
  clear hr0 hc0
  have HR1 := Aside0.mk hr1
  have HC1 := Aside0.mk hc1
  clear hr1 hc1
  have H : (if (l0.length : Int) = (l1.length : Int) then (pacesetterref04_Same.l0 k l0 l1 0) else (some false)) = some r := h
  clear h
  by_cases c3 : (l0.length : Int) = (l1.length : Int)
  · rw [if_pos c3] at H
    have c3b0 : ((l0.length : Int) == (l1.length : Int)) = true := beq_iff_eq.mpr c3
    have c3b1 : ((l0.length : Int) != (l1.length : Int)) = false := bne_eq_false_iff_eq.mpr c3
    have c3b2 : (l0.length == l1.length) = true := by first | simpa using c3 | (simp at c3 ⊢; omega)
    clear c3
    have H' := Aside0.mk H
    clear H
    go_enter Try.func69, Try.ntmps69
    go_wp2
    repeat (go_quiet (fail); try go_wp2)
    go_loopg [5] k (fun kq v5 w' => ∃ (x5_1 : Int), v5 = .int .i64 x5_1 ∧ Aside0 (pacesetterref04_Same.l0 kq l0 l1 x5_1 = some r) ∧ Aside0 (kq ≤ k) ∧ Drawn0 w w')
    case atStart => exact ⟨(0), (by first | rfl | (simp; done) | (simp [*]; done)), H', ⟨Nat.le_refl _⟩, by repeat (first | exact Drawn0.refl _ | apply Drawn0.step)⟩
    case round =>
      clear H'
      try clear c1
      try clear p2
      try clear c3
      try clear c3b0
      try clear c3b1
      try clear c3b2
      obtain ⟨x5_1, rfl, HA, HK1, ⟨m1, rfl⟩⟩ := hrel
      cases gk with
      | zero => exact absurd HA.out (by simp [pacesetterref04_Same.l0])
      | succ k1 =>
        have H := HA.out
        clear HA
        simp only [pacesetterref04_Same.l0] at H
        by_cases c4 : x5_1 < (l0.length : Int)
        · rw [if_pos c4] at H
          have c4b0 : decide (x5_1 < (l0.length : Int)) = true := decide_eq_true c4
          clear c4
          by_cases c5 : 0 ≤ x5_1
          · rw [if_pos c5] at H
            have c5b0 : decide (0 ≤ x5_1) = true := decide_eq_true c5
            clear c5
            by_cases c6 : x5_1 < (l1.length : Int)
            · rw [if_pos c6] at H
              have c6b0 : decide (x5_1 < (l1.length : Int)) = true := decide_eq_true c6
              clear c6
              by_cases c7 : (strOfNums (rd_L1 l0 x5_1)).toList = (strOfNums (rd_L1 l1 x5_1)).toList
              · rw [if_pos c7] at H
                have c7b0 : ((strOfNums (rd_L1 l0 x5_1)).toList == (strOfNums (rd_L1 l1 x5_1)).toList) = true := beq_iff_eq.mpr c7
                have c7b1 : ((strOfNums (rd_L1 l0 x5_1)).toList != (strOfNums (rd_L1 l1 x5_1)).toList) = false := bne_eq_false_iff_eq.mpr c7
                clear c7
                have H' := Aside0.mk H
                clear H
                have p237 : 0 ≤ (x5_1 : Int) := of_decide_eq_true (by first | (with_reducible assumption) | assumption)
                have q237 : x5_1 < (l0.length : Int) := of_decide_eq_true (by first | (with_reducible assumption) | assumption)
                obtain ⟨ad237, A237_0, c237_0, e237, hx237_0, hl237_0, hi237_0⟩ := at_L1 HR0.out x5_1 p237 q237
                cases e237
                have HR237_0 := Aside0.mk hi237_0
                have HC237_0 := Aside0.mk hl237_0
                clear hi237_0 hl237_0
                replace p237 := eq_true p237
                replace q237 := eq_true q237
                have hcv8 := Kd.C_string (P := Try.prog) (A := A237_0) (c := c237_0) Try.underlying22 Try.underlying5 Try.underlying9 HR237_0.out
                have hcv8b := fun (n_ : Nat) => Kd.C_string (P := Try.prog) (A := A237_0) (c := c237_0) Try.underlying22 Try.underlying5 Try.underlying9 (Kd.C_drewN HR237_0.out n_)
                have hcv8c := fun (m_ n_ : Nat) => Kd.C_string (P := Try.prog) (A := A237_0) (c := c237_0) Try.underlying22 Try.underlying5 Try.underlying9 (Kd.C_drewN (Kd.C_drewN HR237_0.out m_) n_)
                have p238 : 0 ≤ (x5_1 : Int) := of_decide_eq_true (by first | (with_reducible assumption) | assumption)
                have q238 : x5_1 < (l1.length : Int) := of_decide_eq_true (by first | (with_reducible assumption) | assumption)
                obtain ⟨ad238, A238_0, c238_0, e238, hx238_0, hl238_0, hi238_0⟩ := at_L1 HR1.out x5_1 p238 q238
                cases e238
                have HR238_0 := Aside0.mk hi238_0
                have HC238_0 := Aside0.mk hl238_0
                clear hi238_0 hl238_0
                replace p238 := eq_true p238
                replace q238 := eq_true q238
                have hcv9 := Kd.C_string (P := Try.prog) (A := A238_0) (c := c238_0) Try.underlying22 Try.underlying5 Try.underlying9 HR238_0.out
                have hcv9b := fun (n_ : Nat) => Kd.C_string (P := Try.prog) (A := A238_0) (c := c238_0) Try.underlying22 Try.underlying5 Try.underlying9 (Kd.C_drewN HR238_0.out n_)
                have hcv9c := fun (m_ n_ : Nat) => Kd.C_string (P := Try.prog) (A := A238_0) (c := c238_0) Try.underlying22 Try.underlying5 Try.underlying9 (Kd.C_drewN (Kd.C_drewN HR238_0.out m_) n_)
                go_wp2
                repeat (go_quiet (fail); try go_wp2)
                go_roundg k1
                case measure => have := HK1.out; omega
                case rel => exact ⟨(wrap64 (x5_1 + 1)), (by first | rfl | (simp; done) | (simp [*]; done)), H', ⟨by have := HK1.out; omega⟩, by repeat (first | exact Drawn0.refl _ | apply Drawn0.step)⟩
              · rw [if_neg c7] at H
                have c7b0 : ((strOfNums (rd_L1 l0 x5_1)).toList == (strOfNums (rd_L1 l1 x5_1)).toList) = false := beq_eq_false_iff_ne.mpr c7
                have c7b1 : ((strOfNums (rd_L1 l0 x5_1)).toList != (strOfNums (rd_L1 l1 x5_1)).toList) = true := bne_iff_ne.mpr c7
                obtain rfl := Option.some.inj H
                have p237 : 0 ≤ (x5_1 : Int) := of_decide_eq_true (by first | (with_reducible assumption) | assumption)
                have q237 : x5_1 < (l0.length : Int) := of_decide_eq_true (by first | (with_reducible assumption) | assumption)
                obtain ⟨ad237, A237_0, c237_0, e237, hx237_0, hl237_0, hi237_0⟩ := at_L1 HR0.out x5_1 p237 q237
                cases e237
                have HR237_0 := Aside0.mk hi237_0
                have HC237_0 := Aside0.mk hl237_0
                clear hi237_0 hl237_0
                replace p237 := eq_true p237
                replace q237 := eq_true q237
                have hcv10 := Kd.C_string (P := Try.prog) (A := A237_0) (c := c237_0) Try.underlying22 Try.underlying5 Try.underlying9 HR237_0.out
                have hcv10b := fun (n_ : Nat) => Kd.C_string (P := Try.prog) (A := A237_0) (c := c237_0) Try.underlying22 Try.underlying5 Try.underlying9 (Kd.C_drewN HR237_0.out n_)
                have hcv10c := fun (m_ n_ : Nat) => Kd.C_string (P := Try.prog) (A := A237_0) (c := c237_0) Try.underlying22 Try.underlying5 Try.underlying9 (Kd.C_drewN (Kd.C_drewN HR237_0.out m_) n_)
                have p238 : 0 ≤ (x5_1 : Int) := of_decide_eq_true (by first | (with_reducible assumption) | assumption)
                have q238 : x5_1 < (l1.length : Int) := of_decide_eq_true (by first | (with_reducible assumption) | assumption)
                obtain ⟨ad238, A238_0, c238_0, e238, hx238_0, hl238_0, hi238_0⟩ := at_L1 HR1.out x5_1 p238 q238
                cases e238
                have HR238_0 := Aside0.mk hi238_0
                have HC238_0 := Aside0.mk hl238_0
                clear hi238_0 hl238_0
                replace p238 := eq_true p238
                replace q238 := eq_true q238
                have hcv11 := Kd.C_string (P := Try.prog) (A := A238_0) (c := c238_0) Try.underlying22 Try.underlying5 Try.underlying9 HR238_0.out
                have hcv11b := fun (n_ : Nat) => Kd.C_string (P := Try.prog) (A := A238_0) (c := c238_0) Try.underlying22 Try.underlying5 Try.underlying9 (Kd.C_drewN HR238_0.out n_)
                have hcv11c := fun (m_ n_ : Nat) => Kd.C_string (P := Try.prog) (A := A238_0) (c := c238_0) Try.underlying22 Try.underlying5 Try.underlying9 (Kd.C_drewN (Kd.C_drewN HR238_0.out m_) n_)
                go_wp2
                repeat (go_quiet (fail); try go_wp2)
                go_ret
                exact ⟨by first | rfl | (simp; done) | (simp [*]; done), by repeat (first | exact Drawn0.refl _ | apply Drawn0.step)⟩
            · rw [if_neg c6] at H
              exact absurd H (by simp)
          · rw [if_neg c5] at H
            exact absurd H (by simp)
        · rw [if_neg c4] at H
          have c4b0 : decide (x5_1 < (l0.length : Int)) = false := decide_eq_false c4
          clear c4
          obtain rfl := Option.some.inj H
          go_wp2
          repeat (go_quiet (fail); try go_wp2)
          go_ret
          exact ⟨by first | rfl | (simp; done) | (simp [*]; done), by repeat (first | exact Drawn0.refl _ | apply Drawn0.step)⟩
  · rw [if_neg c3] at H
    have c3b0 : ((l0.length : Int) == (l1.length : Int)) = false := beq_eq_false_iff_ne.mpr c3
    have c3b1 : ((l0.length : Int) != (l1.length : Int)) = true := bne_iff_ne.mpr c3
    have c3b2 : (l0.length == l1.length) = false := by first | simpa using c3 | (simp at c3 ⊢; omega)
    obtain rfl := Option.some.inj H
    go_enter Try.func69, Try.ntmps69
    go_wp2
    repeat (go_quiet (fail); try go_wp2)
    go_ret
    exact ⟨by first | rfl | (simp; done) | (simp [*]; done), by repeat (first | exact Drawn0.refl _ | apply Drawn0.step)⟩

end Go.Proofs.Ytbcienbnhchdeaa.Print

-- Printed by a program of this session (wip/patch_print.py over the kit's print); Lean checks it.
namespace Go.Proofs.Ytbcienbnhchdeaa.Print
open Go.RowKit Go.Proofs.YtbcienbnhchdeaaW.PrintWords Go.Proofs.YtbcienbnhchdeaaW.PrintLast Go.Proofs.YtbcienbnhchdeaaW.PrintMore
attribute [local go_sem] max2_int min2_int max_two min_two max_three min_three max_four min_four   -- for this text's walks alone
set_option linter.unusedVariables false
set_option linter.unusedSimpArgs false

-- NOT PRINTED: function 93 (crc_table)

/-! ### crc_More: function 29 -/
def crc_More.f (a0 : Int) (l1 : List Int) : Option (Int) := if Hand.okW a0 = true then (if Hand.okB l1 = true then (if l1.length < 140737488355328 then (some (Hand.moreI a0 l1)) else (none)) else (none)) else (none)
theorem crc_More.calls (a0 : Int) (A1 : Option Addr) (c1 : Nat) (l1 : List Int) (r : Int) (w : World) (hr1 : Kd.C (Kd.int .u8) w A1 l1.length l1) (hc1 : l1.length ≤ c1) (h : crc_More.f a0 l1 = some r) :
    Calls Try.prog 29 #[.int .u32 a0, .slice A1 l1.length c1] w fun e w' => e = .returned (.int .u32 r) ∧ Below w.heap.size w w' := by
  unfold crc_More.f at h
  by_cases h0 : Hand.okW a0 = true
  · by_cases h1 : Hand.okB l1 = true
    · by_cases h2 : l1.length < 140737488355328
      · rw [if_pos h0, if_pos h1, if_pos h2] at h
        obtain rfl := Option.some.inj h
        simp only [Hand.okW, Bool.and_eq_true, decide_eq_true_eq] at h0
        obtain ⟨s, rfl⟩ := Int.eq_ofNat_of_zero_le h0.1
        exact Hand.more_any s A1 c1 l1 w (by omega) h1 (by omega) hr1
      · rw [if_pos h0, if_pos h1, if_neg h2] at h
        exact absurd h (by simp)
    · rw [if_pos h0, if_neg h1] at h
      exact absurd h (by simp)
  · rw [if_neg h0] at h
    exact absurd h (by simp)

/-! ### crc_Sum: function 30 -/
def crc_Sum.f (l0 : List Int) : Option (Int) := (crc_More.f 0 l0).bind fun t101 => (some t101)
set_option maxHeartbeats 8000000 in
set_option maxRecDepth 100000 in
theorem crc_Sum.calls (A0 : Option Addr) (c0 : Nat) (l0 : List Int) (r : Int) (w : World) (hr0 : Kd.C (Kd.int .u8) w A0 l0.length l0) (hc0 : l0.length ≤ c0) (h : crc_Sum.f l0 = some r) :
    Calls Try.prog 30 #[.slice A0 l0.length c0] w fun e w' => e = .returned (.int .u32 r) ∧ Below w.heap.size w w' := by
  have HR0 := Aside0.mk hr0
  have HC0 := Aside0.mk hc0
  clear hr0 hc0
  have HB := Aside0.mk (Below.refl w.heap.size w)
  have H : ((crc_More.f 0 l0).bind fun t101 => (some t101)) = some r := h
  clear h
  replace H := Option.bind_eq_some_iff.mp H
  obtain ⟨t101, A20, H⟩ := H
  replace H : (some t101) = some r := H
  have A2 := Aside0.mk A20
  clear A20
  obtain rfl := Option.some.inj H
  go_enter Try.func30, Try.ntmps30
  go_wp2_with (first | ((with_reducible refine gate_callee (f := 29) rfl ?_); refine goesL_ (some 4) rfl rfl Try.func29 (by kernel_rfl) rfl #[.int .u32 0, .slice A0 l0.length c0] rfl (by (try simp only [List.map_toArray, List.map_cons, List.map_nil]); first | done | rfl | (simp only [List.length_drop, List.length_take]; rfl)) ?_; (with_reducible refine (crc_More.calls 0 _ _ l0 t101 _ ?side1 ?side2 A2.out).mono ?_); (case side1 => repeat (first | exact HR0.out | (with_reducible refine Kd.C_alloc ?_ _) | (with_reducible refine Kd.C_drewN ?_ _) | (with_reducible refine Kd.C_drew ?_))); (case side2 => exact HC0.out); rintro e w3 ⟨rfl, hb⟩; refine ⟨_, rfl, ?_⟩; have n0_ := Aside0.mk (below_step (by repeat (first | (with_reducible first | exact HB.out | apply below_alloc | apply pw_below_drewN | apply below_drew1) | exact HB.out)) hb); clear HB; have HB := n0_; clear n0_; (try clear hb); (try clear hb2); (try clear hk); (try clear hi)))
  go_ret
  exact ⟨by first | rfl | (simp [errW_none, errW_some] <;> rfl) | (simp [*, errW_none, errW_some] <;> rfl), by repeat (first | (with_reducible first | exact HB.out | apply below_alloc | apply pw_below_drewN | apply below_drew1) | exact HB.out)⟩

/-! ### crc_Bytes: function 33 -/
def crc_Bytes.f (a0 : Int) : Option (List Int) := some (([(a0 / 16777216) % 256, (a0 / 65536) % 256, (a0 / 256) % 256, (a0) % 256] : List Int))
set_option maxHeartbeats 8000000 in
set_option maxRecDepth 100000 in
theorem crc_Bytes.calls (a0 : Int) (r : List Int) (w : World) (h : crc_Bytes.f a0 = some r) :
    Calls Try.prog 33 #[.int .u32 a0] w fun e w' => ∃ v0_ : Value, e = .returned (v0_) ∧ Kd.R (Kd.int .u8) 5 w' w.heap.size (fun _ => True) v0_ r ∧ Below w.heap.size w w' := by
  have HB := Aside0.mk (Below.refl w.heap.size w)
  have H : (some (([(a0 / 16777216) % 256, (a0 / 65536) % 256, (a0 / 256) % 256, (a0) % 256] : List Int))) = some r := h
  clear h
  obtain ⟨y102, hy102⟩ : ∃ y_ : List Int, y_ = (([(a0 / 16777216) % 256, (a0 / 65536) % 256, (a0 / 256) % 256, (a0) % 256] : List Int)) := ⟨_, rfl⟩
  replace H : (some y102) = some r := by first | (rw [hy102]; with_reducible exact H) | (have H2_ := (Option.bind_some _ _).symm.trans H; rw [hy102]; with_reducible exact H2_) | (have H2_ := (Option.bind_some _ _).symm.trans H; with_reducible exact H2_) | with_reducible exact H | (rw [hy102]; exact H) | exact H
  have Ny102 := Aside0.mk hy102
  clear hy102
  obtain rfl := Option.some.inj H
  go_enter Try.func33, Try.ntmps33
  go_wp2_with (first | ((with_reducible refine gate_dst (N := 14) rfl ?_); refine Kd.R_lit (Kd.int .u8) _ 5 ?hg (N := 14) ?hd (xs := ([(a0 / 16777216) % 256, (a0 / 65536) % 256, (a0 / 256) % 256, (a0) % 256] : List Int)) (inner := [.int .u8 ((a0 / 16777216) % 256), .int .u8 ((a0 / 65536) % 256), .int .u8 ((a0 / 256) % 256), .int .u8 ((a0) % 256)]) (ok := fun _ => True) (okp := fun _ => True) ?hr ?hp (fun _ hk => hk) trivial (Below.refl _ _) (Nat.le_refl _) (by simp) ?_; (case hd => rfl); (case hg => rfl); (case hr => first | (go_simp; done) | (go_simp; rfl)); (case hp => exact (Reps.one (show Kd.M (Kd.int .u8) _ _ _ ((a0 / 16777216) % 256) [.int .u8 ((a0 / 16777216) % 256)] from rfl) (Reps.one (show Kd.M (Kd.int .u8) _ _ _ ((a0 / 65536) % 256) [.int .u8 ((a0 / 65536) % 256)] from rfl) (Reps.one (show Kd.M (Kd.int .u8) _ _ _ ((a0 / 256) % 256) [.int .u8 ((a0 / 256) % 256)] from rfl) (Reps.one (show Kd.M (Kd.int .u8) _ _ _ ((a0) % 256) [.int .u8 ((a0) % 256)] from rfl) (Reps.none _ _)))))); intro v103 w2 ho3 hb hg_ hnew_; clear hg_ hnew_; (first | rw [← Ny102.out] at ho3 | (simp only [Int.reduceToNat] at ho3; rw [← Ny102.out] at ho3)); have n0_ := Aside0.mk (Kd.R_lower ho3 (below_size (by repeat (first | (with_reducible first | exact HB.out | apply below_alloc | apply pw_below_drewN | apply below_drew1) | exact HB.out)))); have n1_ := Aside0.mk (below_step (by repeat (first | (with_reducible first | exact HB.out | apply below_alloc | apply pw_below_drewN | apply below_drew1) | exact HB.out)) hb); clear HB; have HO104 := n0_; have HB := n1_; clear n0_ n1_; clear hb ho3))
  go_ret
  exact ⟨_, by first | rfl | (simp [errW_none, errW_some] <;> rfl) | (simp [*, errW_none, errW_some] <;> rfl), by (with_reducible repeat (first | apply Kd.R_alloc | apply Kd.R_drewN | apply Kd.R_drew)); exact HO104.out, by repeat (first | (with_reducible first | exact HB.out | apply below_alloc | apply pw_below_drewN | apply below_drew1) | exact HB.out)⟩

-- NOT PRINTED: function 102 (slices_Grow_byte_byte)

/-! ### slices_Concat_byte_byte: function 97 -/
def slices_Concat_byte_byte.f (l0 : List (List Int)) : Option (List Int) := if l0.flatten.length < 140737488355328 then (some l0.flatten) else (none)
theorem slices_Concat_byte_byte.calls (A0 : Option Addr) (c0 : Nat) (l0 : List (List Int)) (r : List Int) (w : World) (hr0 : Kd.C (Kd.slice 5 (Kd.int .u8)) w A0 l0.length l0) (hc0 : l0.length ≤ c0) (h : slices_Concat_byte_byte.f l0 = some r) :
    Calls Try.prog 97 #[.slice A0 l0.length c0] w fun e w' => ∃ v0_ : Value, e = .returned (v0_) ∧ Kd.R (Kd.int .u8) 5 w' w.heap.size (fun _ => True) v0_ r ∧ Below w.heap.size w w' := by
  unfold slices_Concat_byte_byte.f at h
  by_cases h0 : l0.flatten.length < 140737488355328
  · rw [if_pos h0] at h
    obtain rfl := Option.some.inj h
    exact Hand.concat_any A0 c0 l0 w hr0 (by rw [← Hand.flat_len]; omega)
  · rw [if_neg h0] at h
    exact absurd h (by simp)

/-! ### crc_Seal: function 47 -/
def crc_Seal.f (l0 : List Int) : Option (List Int) := if l0.length < 140737488355000 then ((crc_Sum.f l0).bind fun t => (crc_Bytes.f t).bind fun b => if b.length = 4 then (some (l0 ++ b)) else none) else (none)
set_option maxRecDepth 100000 in
set_option maxHeartbeats 1000000 in
theorem crc_Seal.calls (A0 : Option Addr) (c0 : Nat) (l0 : List Int) (r : List Int) (w : World) (hr0 : Kd.C (Kd.int .u8) w A0 l0.length l0) (hc0 : l0.length ≤ c0) (h : crc_Seal.f l0 = some r) :
    Calls Try.prog 47 #[.slice A0 l0.length c0] w fun e w' => ∃ v0_ : Value, e = .returned (v0_) ∧ Kd.R (Kd.int .u8) 5 w' w.heap.size (fun _ => True) v0_ r ∧ Below w.heap.size w w' := by
  unfold crc_Seal.f at h
  by_cases h0 : l0.length < 140737488355000
  · rw [if_pos h0] at h
    obtain ⟨t, ht, h⟩ := Option.bind_eq_some_iff.mp h
    obtain ⟨b, hb, h⟩ := Option.bind_eq_some_iff.mp h
    by_cases h4 : b.length = 4
    · rw [if_pos h4] at h
      obtain rfl := Option.some.inj h
      have HR := Aside0.mk hr0
      have HC := Aside0.mk hc0
      have HT := Aside0.mk ht
      have HBy := Aside0.mk hb
      have H4 := Aside0.mk h4
      have H0 := Aside0.mk h0
      clear hr0 hc0 ht hb h4 h0 h
      go_enter Try.func47, Try.ntmps47
      go_wp2_with (first
        | (go_at_call 30; refine (crc_Sum.calls A0 c0 l0 t _ HR.out HC.out HT.out).mono ?_; rintro e w1 ⟨rfl, hb1⟩; have HB1 := Aside0.mk hb1; clear hb1)
        | (go_at_call 33; refine (crc_Bytes.calls t b _ HBy.out).mono ?_; rintro e w2 ⟨v, rfl, ho, hb2⟩; obtain ⟨B, d, hv, hd, hB⟩ := Kd.R_reads ho; rw [hv]; clear hv ho; have HB2 := Aside0.mk ((HB1.out.trans (hb2.mono HB1.out.size))); have HD := Aside0.mk hd; have HBr := Aside0.mk hB; clear hd hB hb2)
        | (go_at_call 97; refine (Hand.concat_any _ _ [l0, b] _ (Hand.rows2 (Kd.C_below HR.out HB2.out) HC.out HBr.out HD.out) ?hT).mono ?_; (case hT => have := H0.out; have := H4.out; simp [Hand.total]; omega); rintro e w3 ⟨v3, rfl, ho3, hb3⟩; have HO3 := Aside0.mk ho3; have HB3 := Aside0.mk hb3; clear ho3 hb3))
      go_ret
      have hs : w.heap.size ≤ (w2.alloc (.cells #[.slice A0 l0.length c0, .slice B b.length d] 22)).heap.size := by have := HB2.out.size; simp; omega
      exact ⟨_, rfl, by simpa using Kd.R_lower HO3.out hs, (HB2.out.alloc HB2.out.size _).trans (HB3.out.mono hs)⟩
    · rw [if_neg h4] at h
      exact absurd h (by simp)
  · rw [if_neg h0] at h
    exact absurd h (by simp)

/-! ### frame_Size: function 64 -/
def frame_Size.f (a0 : Int) : Option (Int) := if a0 < 1 then (some 0) else (if a0 > 1000 then (some 0) else (some (wrap64 ((wrap64 (2 + a0)) + 4))))
set_option maxHeartbeats 8000000 in
set_option maxRecDepth 100000 in
theorem frame_Size.calls (a0 : Int) (r : Int) (w : World) (h : frame_Size.f a0 = some r) :
    Calls Try.prog 64 #[.int .i64 a0] w fun e w' => e = .returned (.int .i64 r) ∧ Drawn0 w w' := by
  have H : (if a0 < 1 then (some 0) else (if a0 > 1000 then (some 0) else (some (wrap64 ((wrap64 (2 + a0)) + 4))))) = some r := h
  clear h
  by_cases c2 : a0 < 1
  · rw [if_pos c2] at H
    have c2b0 : decide (a0 < 1) = true := decide_eq_true c2
    clear c2
    obtain rfl := Option.some.inj H
    go_enter Try.func64, Try.ntmps64
    go_wp2
    go_ret
    exact ⟨by first | rfl | (simp; done) | (simp [*]; done), by repeat (first | exact Drawn0.refl _ | apply Drawn0.step)⟩
  · rw [if_neg c2] at H
    have c2b0 : decide (a0 < 1) = false := decide_eq_false c2
    clear c2
    by_cases c3 : a0 > 1000
    · rw [if_pos c3] at H
      have c3b0 : decide (1000 < a0) = true := decide_eq_true c3
      clear c3
      obtain rfl := Option.some.inj H
      go_enter Try.func64, Try.ntmps64
      go_wp2
      go_ret
      exact ⟨by first | rfl | (simp; done) | (simp [*]; done), by repeat (first | exact Drawn0.refl _ | apply Drawn0.step)⟩
    · rw [if_neg c3] at H
      have c3b0 : decide (1000 < a0) = false := decide_eq_false c3
      clear c3
      obtain rfl := Option.some.inj H
      go_enter Try.func64, Try.ntmps64
      go_wp2
      go_ret
      exact ⟨by first | rfl | (simp; done) | (simp [*]; done), by repeat (first | exact Drawn0.refl _ | apply Drawn0.step)⟩

end Go.Proofs.Ytbcienbnhchdeaa.Print

-- Printed by a program of this session (wip/patch_print.py over the kit's print); Lean checks it.
namespace Go.Proofs.Ytbcienbnhchdeaa.Print
open Go.RowKit Go.Proofs.YtbcienbnhchdeaaW.PrintWords Go.Proofs.YtbcienbnhchdeaaW.PrintLast Go.Proofs.YtbcienbnhchdeaaW.PrintMore
attribute [local go_sem] max2_int min2_int max_two min_two max_three min_three max_four min_four   -- for this text's walks alone
set_option linter.unusedVariables false
set_option linter.unusedSimpArgs false

/-! ### crc_Read: function 35 -/
def crc_Read.f (l0 : List Int) : Option (Int × Int) := if (l0.length : Int) = 4 then (if 0 < (l0.length : Int) then (if 1 < (l0.length : Int) then (if 2 < (l0.length : Int) then (if 3 < (l0.length : Int) then (some (Go.bits .or .u32 (Go.bits .or .u32 (Go.bits .or .u32 ((((rd l0 0) % 4294967296) * 16777216) % 4294967296) ((((rd l0 1) % 4294967296) * 65536) % 4294967296)) ((((rd l0 2) % 4294967296) * 256) % 4294967296)) ((rd l0 3) % 4294967296), 0)) else (none)) else (none)) else (none)) else (none)) else (some (0, 2))
set_option maxHeartbeats 8000000 in
set_option maxRecDepth 100000 in
theorem crc_Read.calls (A0 : Option Addr) (c0 : Nat) (l0 : List Int) (r1 : Int) (r2 : Int) (w : World) (hr0 : Kd.C (Kd.int .u8) w A0 l0.length l0) (hc0 : l0.length ≤ c0) (h : crc_Read.f l0 = some (r1, r2)) :
    Calls Try.prog 35 #[.slice A0 l0.length c0] w fun e w' => e = .returned (.tuple #[.int .u32 r1, .int .i64 r2]) ∧ Drawn0 w w' := by
  have HR0 := Aside0.mk hr0
  have HC0 := Aside0.mk hc0
  clear hr0 hc0
  have H : (if (l0.length : Int) = 4 then (if 0 < (l0.length : Int) then (if 1 < (l0.length : Int) then (if 2 < (l0.length : Int) then (if 3 < (l0.length : Int) then (some (Go.bits .or .u32 (Go.bits .or .u32 (Go.bits .or .u32 ((((rd l0 0) % 4294967296) * 16777216) % 4294967296) ((((rd l0 1) % 4294967296) * 65536) % 4294967296)) ((((rd l0 2) % 4294967296) * 256) % 4294967296)) ((rd l0 3) % 4294967296), 0)) else (none)) else (none)) else (none)) else (none)) else (some (0, 2))) = some (r1, r2) := h
  clear h
  by_cases c2 : (l0.length : Int) = 4
  · rw [if_pos c2] at H
    have c2b0 : ((l0.length : Int) == 4) = true := beq_iff_eq.mpr c2
    have c2b1 : ((l0.length : Int) != 4) = false := bne_eq_false_iff_eq.mpr c2
    clear c2
    by_cases c3 : 0 < (l0.length : Int)
    · rw [if_pos c3] at H
      have c3b0 : decide (0 < (l0.length : Int)) = true := decide_eq_true c3
      have c3b1 : decide (0 < l0.length) = true := decide_eq_true (by omega)
      clear c3
      by_cases c4 : 1 < (l0.length : Int)
      · rw [if_pos c4] at H
        have c4b0 : decide (1 < (l0.length : Int)) = true := decide_eq_true c4
        have c4b1 : decide (1 < l0.length) = true := decide_eq_true (by omega)
        clear c4
        by_cases c5 : 2 < (l0.length : Int)
        · rw [if_pos c5] at H
          have c5b0 : decide (2 < (l0.length : Int)) = true := decide_eq_true c5
          have c5b1 : decide (2 < l0.length) = true := decide_eq_true (by omega)
          clear c5
          by_cases c6 : 3 < (l0.length : Int)
          · rw [if_pos c6] at H
            have c6b0 : decide (3 < (l0.length : Int)) = true := decide_eq_true c6
            have c6b1 : decide (3 < l0.length) = true := decide_eq_true (by omega)
            clear c6
            simp only [Option.some.injEq, Prod.mk.injEq] at H
            obtain ⟨rfl, rfl⟩ := H
            have p124 : 0 ≤ (0 : Int) := (by omega)
            have q124 : 0 < (l0.length : Int) := of_decide_eq_true (by first | (with_reducible assumption) | assumption)
            obtain ⟨ad124, e124, hx124_0⟩ := Kd.at_int HR0.out 0 p124 q124
            cases e124
            have qi124 : (0 < l0.length) = True := eq_true (by omega)
            (try rw [show ((0 : Int)).toNat = 0 from rfl] at hx124_0)
            (try rw [Addr.add_zero'] at hx124_0)
            replace p124 := eq_true p124
            replace q124 := eq_true q124
            have p125 : 0 ≤ (1 : Int) := (by omega)
            have q125 : 1 < (l0.length : Int) := of_decide_eq_true (by first | (with_reducible assumption) | assumption)
            obtain ⟨ad125, e125, hx125_0⟩ := Kd.at_int HR0.out 1 p125 q125
            obtain rfl : ad124 = ad125 := (by injection e125)
            (try simp only [show (1 : Int).toNat = 1 from rfl, Nat.reduceMul, Nat.reduceEqDiff, Go.Addr.add, ↓reduceIte] at hx125_0)
            have qi125 : (1 < l0.length) = True := eq_true (by omega)
            (try rw [show ((1 : Int)).toNat = 1 from rfl] at hx125_0)
            replace p125 := eq_true p125
            replace q125 := eq_true q125
            have p126 : 0 ≤ (2 : Int) := (by omega)
            have q126 : 2 < (l0.length : Int) := of_decide_eq_true (by first | (with_reducible assumption) | assumption)
            obtain ⟨ad126, e126, hx126_0⟩ := Kd.at_int HR0.out 2 p126 q126
            obtain rfl : ad124 = ad126 := (by injection e126)
            (try simp only [show (2 : Int).toNat = 2 from rfl, Nat.reduceMul, Nat.reduceEqDiff, Go.Addr.add, ↓reduceIte] at hx126_0)
            have qi126 : (2 < l0.length) = True := eq_true (by omega)
            (try rw [show ((2 : Int)).toNat = 2 from rfl] at hx126_0)
            replace p126 := eq_true p126
            replace q126 := eq_true q126
            have p127 : 0 ≤ (3 : Int) := (by omega)
            have q127 : 3 < (l0.length : Int) := of_decide_eq_true (by first | (with_reducible assumption) | assumption)
            obtain ⟨ad127, e127, hx127_0⟩ := Kd.at_int HR0.out 3 p127 q127
            obtain rfl : ad124 = ad127 := (by injection e127)
            (try simp only [show (3 : Int).toNat = 3 from rfl, Nat.reduceMul, Nat.reduceEqDiff, Go.Addr.add, ↓reduceIte] at hx127_0)
            have qi127 : (3 < l0.length) = True := eq_true (by omega)
            (try rw [show ((3 : Int)).toNat = 3 from rfl] at hx127_0)
            replace p127 := eq_true p127
            replace q127 := eq_true q127
            go_enter Try.func35, Try.ntmps35
            go_wp2
            repeat (go_quiet (fail); try go_wp2)
            go_ret2
            exact ⟨by first | rfl | (simp; done) | (simp [*]; done), by repeat (first | exact Drawn0.refl _ | apply Drawn0.step)⟩
          · rw [if_neg c6] at H
            exact absurd H (by simp)
        · rw [if_neg c5] at H
          exact absurd H (by simp)
      · rw [if_neg c4] at H
        exact absurd H (by simp)
    · rw [if_neg c3] at H
      exact absurd H (by simp)
  · rw [if_neg c2] at H
    have c2b0 : ((l0.length : Int) == 4) = false := beq_eq_false_iff_ne.mpr c2
    have c2b1 : ((l0.length : Int) != 4) = true := bne_iff_ne.mpr c2
    simp only [Option.some.injEq, Prod.mk.injEq] at H
    obtain ⟨rfl, rfl⟩ := H
    go_enter Try.func35, Try.ntmps35
    go_wp2
    repeat (go_quiet (fail); try go_wp2)
    go_ret2
    exact ⟨by first | rfl | (simp; done) | (simp [*]; done), by repeat (first | exact Drawn0.refl _ | apply Drawn0.step)⟩

end Go.Proofs.Ytbcienbnhchdeaa.Print

-- Printed by a program of this session (wip/patch_print.py over the kit's print); Lean checks it.
namespace Go.Proofs.Ytbcienbnhchdeaa.Print
open Go.RowKit Go.Proofs.YtbcienbnhchdeaaW.PrintWords Go.Proofs.YtbcienbnhchdeaaW.PrintLast Go.Proofs.YtbcienbnhchdeaaW.PrintMore
attribute [local go_sem] max2_int min2_int max_two min_two max_three min_three max_four min_four   -- for this text's walks alone
set_option linter.unusedVariables false
set_option linter.unusedSimpArgs false

/-! ### crc_Good: function 45 -/
def crc_Good.f (l0 : List Int) : Option (Bool) := if (wrap64 ((l0.length : Int) - 4)) < 0 then (some false) else (if 0 ≤ (wrap64 ((l0.length : Int) - 4)) then (if (wrap64 ((l0.length : Int) - 4)) ≤ (l0.length : Int) then ((crc_Read.f (l0.drop ((wrap64 ((l0.length : Int) - 4)) : Int).toNat)).bind fun bt129 => ((crc_Sum.f (l0.take ((wrap64 ((l0.length : Int) - 4)) : Int).toNat)).bind fun t132 => (some (t132 == bt129.1)))) else (none)) else (none))
set_option maxHeartbeats 8000000 in
set_option maxRecDepth 100000 in
theorem crc_Good.calls (A0 : Option Addr) (c0 : Nat) (l0 : List Int) (r : Bool) (w : World) (hr0 : Kd.C (Kd.int .u8) w A0 l0.length l0) (hc0 : l0.length ≤ c0) (h : crc_Good.f l0 = some r) :
    Calls Try.prog 45 #[.slice A0 l0.length c0] w fun e w' => e = .returned (.bool r) ∧ Below w.heap.size w w' := by
  have HR0 := Aside0.mk hr0
  have HC0 := Aside0.mk hc0
  clear hr0 hc0
  have HB := Aside0.mk (Below.refl w.heap.size w)
  have H : (if (wrap64 ((l0.length : Int) - 4)) < 0 then (some false) else (if 0 ≤ (wrap64 ((l0.length : Int) - 4)) then (if (wrap64 ((l0.length : Int) - 4)) ≤ (l0.length : Int) then ((crc_Read.f (l0.drop ((wrap64 ((l0.length : Int) - 4)) : Int).toNat)).bind fun bt129 => ((crc_Sum.f (l0.take ((wrap64 ((l0.length : Int) - 4)) : Int).toNat)).bind fun t132 => (some (t132 == bt129.1)))) else (none)) else (none))) = some r := h
  clear h
  by_cases c2 : (wrap64 ((l0.length : Int) - 4)) < 0
  · rw [if_pos c2] at H
    have c2b0 : decide ((wrap64 ((l0.length : Int) - 4)) < 0) = true := decide_eq_true c2
    clear c2
    obtain rfl := Option.some.inj H
    go_enter Try.func45, Try.ntmps45
    go_wp2
    go_ret
    exact ⟨by first | rfl | (simp [errW_none, errW_some] <;> rfl) | (simp [*, errW_none, errW_some] <;> rfl), by repeat (first | (with_reducible first | exact HB.out | apply below_alloc | apply pw_below_drewN | apply below_drew1) | exact HB.out)⟩
  · rw [if_neg c2] at H
    have c2b0 : decide ((wrap64 ((l0.length : Int) - 4)) < 0) = false := decide_eq_false c2
    clear c2
    obtain ⟨ji3, hji3⟩ : ∃ j_ : Int, (wrap64 ((l0.length : Int) - 4)) = j_ := ⟨_, rfl⟩
    replace H : (if 0 ≤ (ji3) then (if (ji3) ≤ (l0.length : Int) then ((crc_Read.f (l0.drop ((ji3) : Int).toNat)).bind fun bt129 => ((crc_Sum.f (l0.take ((ji3) : Int).toNat)).bind fun t132 => (some (t132 == bt129.1)))) else (none)) else (none)) = some r := by first | (rw [hji3] at H; exact H) | (simp only [hji3] at H ⊢; exact H)
    (try rw [hji3] at c2b0)
    have hji3w : (IntKind.i64.wrap ((l0.length : Int) - 4)) = ji3 := (i64_w _).trans hji3
    by_cases c4 : 0 ≤ (ji3)
    · rw [if_pos c4] at H
      have c4b0 := eq_true c4
      have c4b1 : decide (0 ≤ (ji3)) = true := decide_eq_true c4
      clear c4
      by_cases c5 : (ji3) ≤ (l0.length : Int)
      · rw [if_pos c5] at H
        have c5b0 := eq_true c5
        have c5b1 : decide ((ji3) ≤ (l0.length : Int)) = true := decide_eq_true c5
        clear c5
        replace H := Option.bind_eq_some_iff.mp H
        obtain ⟨⟨t129, t130⟩, A60, H⟩ := H
        replace H : ((crc_Sum.f (l0.take ((ji3) : Int).toNat)).bind fun t132 => (some (t132 == t129))) = some r := H
        have A6 := Aside0.mk A60
        clear A60
        have c7b0 := eq_true (of_decide_eq_true (by first | (with_reducible assumption) | assumption) : 0 ≤ (ji3))
        have c8b0 := eq_true (of_decide_eq_true (by first | (with_reducible assumption) | assumption) : (ji3) ≤ (l0.length : Int))
        replace H := Option.bind_eq_some_iff.mp H
        obtain ⟨t132, A90, H⟩ := H
        replace H : (some (t132 == t129)) = some r := H
        have A9 := Aside0.mk A90
        clear A90
        obtain rfl := Option.some.inj H
        obtain ⟨i010, hi010, _, hsz10, _⟩ := info_parts info5
        obtain ⟨A10, hcut10, hA10, hC10⟩ := print_drop_of (P := Try.prog) (Value.int .u8) 0 22 5 .i64 Try.underlying22 hi010 hsz10 A0 c0 l0 (ji3) (of_decide_eq_true (by first | (with_reducible assumption) | assumption)) (of_decide_eq_true (by first | (with_reducible assumption) | assumption)) HC0.out
        have HR128 := Aside0.mk (Kd.C_of_reads (h1 := fun _ => rfl) (hA10 _ (Kd.reads_of_C HR0.out)))
        have HC128 := Aside0.mk hC10
        clear hA10 hC10 hi010 hsz10
        go_enter Try.func45, Try.ntmps45
        go_wp2_with (first | ((with_reducible refine gate_callee (f := 35) rfl ?_); refine goesL_ (some 15) rfl rfl Try.func35 (by kernel_rfl) rfl #[.slice A10 (l0.drop ((ji3) : Int).toNat).length (c0 - (ji3).toNat)] rfl (by (try simp only [List.map_toArray, List.map_cons, List.map_nil]); first | done | (rw [show (l0.drop ((ji3) : Int).toNat).length = (l0.length - (ji3).toNat) from List.length_drop] <;> rfl) | (simp only [hji3]; rfl) | rfl | (simp only [List.length_drop, List.length_take]; rfl)) ?_; (with_reducible refine (crc_Read.calls _ _ (l0.drop ((ji3) : Int).toNat) t129 t130 _ ?side1 ?side2 A6.out).mono ?_); (case side1 => repeat (first | exact HR128.out | (with_reducible refine Kd.C_alloc ?_ _) | (with_reducible refine Kd.C_drewN ?_ _) | (with_reducible refine Kd.C_drew ?_))); (case side2 => exact HC128.out); rintro e w' ⟨rfl, ⟨nd, rfl⟩⟩; refine ⟨_, rfl, ?_⟩; obtain ⟨i011, hi011, _, hsz11, _⟩ := info_parts info5; obtain ⟨hcut11, hA11, hC11⟩ := print_take_of (P := Try.prog) (Value.int .u8) 0 22 5 .i64 Try.underlying22 hi011 hsz11 A0 c0 l0 (ji3) (of_decide_eq_true (by first | (with_reducible assumption) | assumption)) (of_decide_eq_true (by first | (with_reducible assumption) | assumption)) HC0.out; have HR131 := Aside0.mk (Kd.C_of_reads (h1 := fun _ => rfl) (hA11 _ (Kd.reads_of_C HR0.out))); have HC131 := Aside0.mk hC11; clear hA11 hC11 hi011 hsz11) | ((with_reducible refine gate_callee (f := 30) rfl ?_); refine goesL_ (some 21) rfl rfl Try.func30 (by kernel_rfl) rfl #[.slice A0 (l0.take ((ji3) : Int).toNat).length c0] rfl (by (try simp only [List.map_toArray, List.map_cons, List.map_nil]); first | done | (rw [show (l0.take ((ji3) : Int).toNat).length = (ji3).toNat from (by rw [List.length_take]; have h_ : ((ji3) : Int) ≤ (l0.length : Int) := of_decide_eq_true (by first | (with_reducible assumption) | assumption); omega)] <;> rfl) | (simp only [hji3]; rfl) | rfl | (simp only [List.length_drop, List.length_take]; rfl)) ?_; (with_reducible refine (crc_Sum.calls _ _ (l0.take ((ji3) : Int).toNat) t132 _ ?side1 ?side2 A9.out).mono ?_); (case side1 => repeat (first | exact HR131.out | (with_reducible refine Kd.C_alloc ?_ _) | (with_reducible refine Kd.C_drewN ?_ _) | (with_reducible refine Kd.C_drew ?_))); (case side2 => exact HC131.out); rintro e w12 ⟨rfl, hb⟩; refine ⟨_, rfl, ?_⟩; have n0_ := Aside0.mk (below_step (by repeat (first | (with_reducible first | exact HB.out | apply below_alloc | apply pw_below_drewN | apply below_drew1) | exact HB.out)) hb); clear HB; have HB := n0_; clear n0_; (try clear hb); (try clear hb2); (try clear hk); (try clear hi)))
        go_ret
        exact ⟨by first | rfl | (simp [errW_none, errW_some] <;> rfl) | (simp only [← hji3]; first | rfl | (simp [errW_none, errW_some] <;> rfl)) | (simp [*, errW_none, errW_some] <;> rfl), by repeat (first | (with_reducible first | exact HB.out | apply below_alloc | apply pw_below_drewN | apply below_drew1) | exact HB.out)⟩
      · rw [if_neg c5] at H
        exact absurd H (by simp)
    · rw [if_neg c4] at H
      exact absurd H (by simp)

/-! ### slices_Clone_byte_byte: function 96 -/
def slices_Clone_byte_byte.f (l0 : List Int) : Option (List Int) := if l0.length < 140737488355328 then (some l0) else (none)
theorem slices_Clone_byte_byte.calls (A0 : Option Addr) (c0 : Nat) (l0 : List Int) (r : List Int) (w : World) (hr0 : Kd.C (Kd.int .u8) w A0 l0.length l0) (hc0 : l0.length ≤ c0) (h : slices_Clone_byte_byte.f l0 = some r) :
    Calls Try.prog 96 #[.slice A0 l0.length c0] w fun e w' => ∃ v0_ : Value, e = .returned (v0_) ∧ Kd.R (Kd.int .u8) 5 w' w.heap.size (fun _ => True) v0_ r ∧ Below w.heap.size w w' := by
  unfold slices_Clone_byte_byte.f at h
  by_cases h0 : l0.length < 140737488355328
  · rw [if_pos h0] at h
    obtain rfl := Option.some.inj h
    exact Hand.clone_any A0 c0 l0 w hr0 (by omega)
  · rw [if_neg h0] at h
    exact absurd h (by simp)

end Go.Proofs.Ytbcienbnhchdeaa.Print

-- Printed by a program of this session (wip/patch_print.py over the kit's print); Lean checks it.
-- cut_print: 3
namespace Go.Proofs.Ytbcienbnhchdeaa.Print
open Go.RowKit Go.Proofs.YtbcienbnhchdeaaW.PrintWords Go.Proofs.YtbcienbnhchdeaaW.PrintLast Go.Proofs.YtbcienbnhchdeaaW.PrintMore
attribute [local go_sem] max2_int min2_int max_two min_two max_three min_three max_four min_four   -- for this text's walks alone
set_option linter.unusedVariables false
set_option linter.unusedSimpArgs false

/-! ### frame_Get: function 65 -/
def frame_Get.j0 : Nat → List Int → Int → Int → Bool → Option (List Int × Int × Int)
  | 0, _, _, _, _ => none
  | k + 1, x0, x5, x6, x22 => if x22 = true then (some (([] : List Int), 0, 2)) else (if 0 ≤ x6 then (if x6 ≤ (x0.length : Int) then ((crc_Good.f (x0.take (x6 : Int).toNat)).bind fun t137 => (if t137 = true then (if 2 ≤ (wrap64 (2 + x5)) then (if (wrap64 (2 + x5)) ≤ (x0.length : Int) then ((slices_Clone_byte_byte.f ((x0.take ((wrap64 (2 + x5)) : Int).toNat).drop 2)).bind fun t139 => (some (t139, x6, 0))) else (none)) else (none)) else (some (([] : List Int), 0, 3)))) else (none)) else (none))
def frame_Get.f (k : Nat) (l0 : List Int) : Option (List Int × Int × Int) := if (l0.length : Int) < 2 then (some (([] : List Int), 0, 2)) else (if 0 < (l0.length : Int) then (if 1 < (l0.length : Int) then ((frame_Size.f (Go.bits .or .i64 (wrap64 ((wrap64 (rd l0 0)) * 256)) (wrap64 (rd l0 1)))).bind fun t135 => (if t135 = 0 then (frame_Get.j0 k l0 (Go.bits .or .i64 (wrap64 ((wrap64 (rd l0 0)) * 256)) (wrap64 (rd l0 1))) t135 true) else (frame_Get.j0 k l0 (Go.bits .or .i64 (wrap64 ((wrap64 (rd l0 0)) * 256)) (wrap64 (rd l0 1))) t135 (decide (t135 > (l0.length : Int)))))) else (none)) else (none))
theorem frame_Get.mono_l : ∀ k, (∀ y0 y1 y2 y3, LeO (frame_Get.j0 k y0 y1 y2 y3) (frame_Get.j0 (k + 1) y0 y1 y2 y3))
  | 0 => fun _ _ _ _ r h => by simp [frame_Get.j0] at h
  | k + 1 => by
    have ih0 := frame_Get.mono_l k
    · intro y0 y1 y2 y3
      unfold frame_Get.j0
      repeat' first
      | (with_reducible exact ih0 _ _ _ _)
      | (with_reducible exact LeO.refl _)
      | (with_reducible exact LeO.none _)
      | (with_reducible refine LeO.ite ?_ ?_)
      | (with_reducible refine LeO.bind ?_ (fun _ => ?_))
      | exact ih0 _ _ _ _
      | exact LeO.none _
      | refine LeO.ite ?_ ?_
      | refine LeO.bind ?_ (fun _ => ?_)
theorem frame_Get.mono : ∀ a0 k, LeO (frame_Get.f k a0) (frame_Get.f (k + 1) a0) := by
  intro a0 k
  have ih0 := frame_Get.mono_l k
  unfold frame_Get.f
  repeat' first
      | (with_reducible exact ih0 _ _ _ _)
      | (with_reducible exact LeO.refl _)
      | (with_reducible exact LeO.none _)
      | (with_reducible refine LeO.ite ?_ ?_)
      | (with_reducible refine LeO.bind ?_ (fun _ => ?_))
      | exact ih0 _ _ _ _
      | exact LeO.none _
      | refine LeO.ite ?_ ?_
      | refine LeO.bind ?_ (fun _ => ?_)
set_option maxHeartbeats 8000000 in
set_option maxRecDepth 100000 in
theorem frame_Get.calls (k : Nat) (A0 : Option Addr) (c0 : Nat) (l0 : List Int) (r1 : List Int) (r2 : Int) (r3 : Int) (w : World) (hr0 : Kd.C (Kd.int .u8) w A0 l0.length l0) (hc0 : l0.length ≤ c0) (h : frame_Get.f k l0 = some (r1, r2, r3)) :
    Calls Try.prog 65 #[.slice A0 l0.length c0] w fun e w' => ∃ v0_ : Value, e = .returned (.tuple #[v0_, .int .i64 r2, .int .i64 r3]) ∧ Kd.R (Kd.int .u8) 5 w' w.heap.size (fun _ => True) v0_ r1 ∧ Below w.heap.size w w' := by
  have HR0 := Aside0.mk hr0
  have HC0 := Aside0.mk hc0
  clear hr0 hc0
  have HB := Aside0.mk (Below.refl w.heap.size w)
  have H : (if (l0.length : Int) < 2 then (some (([] : List Int), 0, 2)) else (if 0 < (l0.length : Int) then (if 1 < (l0.length : Int) then ((frame_Size.f (Go.bits .or .i64 (wrap64 ((wrap64 (rd l0 0)) * 256)) (wrap64 (rd l0 1)))).bind fun t135 => (if t135 = 0 then (frame_Get.j0 k l0 (Go.bits .or .i64 (wrap64 ((wrap64 (rd l0 0)) * 256)) (wrap64 (rd l0 1))) t135 true) else (frame_Get.j0 k l0 (Go.bits .or .i64 (wrap64 ((wrap64 (rd l0 0)) * 256)) (wrap64 (rd l0 1))) t135 (decide (t135 > (l0.length : Int)))))) else (none)) else (none))) = some (r1, r2, r3) := h
  clear h
  by_cases c2 : (l0.length : Int) < 2
  · rw [if_pos c2] at H
    have c2b0 : decide ((l0.length : Int) < 2) = true := decide_eq_true c2
    have c2b1 : decide (l0.length < 2) = true := decide_eq_true (by omega)
    clear c2
    simp only [Option.some.injEq, Prod.mk.injEq] at H
    obtain ⟨rfl, rfl, rfl⟩ := H
    go_enter Try.func65, Try.ntmps65
    go_wp2
    repeat (go_quiet (fail); try go_wp2)
    go_ret3
    exact ⟨_, by first | rfl | (simp [errW_none, errW_some] <;> rfl) | (simp [*, errW_none, errW_some] <;> rfl), by first | exact Kd.R_nil _ _ _ _ _ | exact Kd.N_nil _ _ _ _ _ | exact Kd.V_nil _ _ _ _ _ | exact Kd.Q_nil _ _ _ _ _ | exact Kd.S_nil _ _ _ _ _, by repeat (first | (with_reducible first | exact HB.out | apply below_alloc | apply pw_below_drewN | apply below_drew1) | exact HB.out)⟩
  · rw [if_neg c2] at H
    have c2b0 : decide ((l0.length : Int) < 2) = false := decide_eq_false c2
    have c2b1 : decide (l0.length < 2) = false := decide_eq_false (by omega)
    clear c2
    by_cases c3 : 0 < (l0.length : Int)
    · rw [if_pos c3] at H
      have c3b0 : decide (0 < (l0.length : Int)) = true := decide_eq_true c3
      have c3b1 : decide (0 < l0.length) = true := decide_eq_true (by omega)
      clear c3
      by_cases c4 : 1 < (l0.length : Int)
      · rw [if_pos c4] at H
        have c4b0 : decide (1 < (l0.length : Int)) = true := decide_eq_true c4
        have c4b1 : decide (1 < l0.length) = true := decide_eq_true (by omega)
        clear c4
        replace H := Option.bind_eq_some_iff.mp H
        obtain ⟨t135, A50, H⟩ := H
        replace H : (if t135 = 0 then (frame_Get.j0 k l0 (Go.bits .or .i64 (wrap64 ((wrap64 (rd l0 0)) * 256)) (wrap64 (rd l0 1))) t135 true) else (frame_Get.j0 k l0 (Go.bits .or .i64 (wrap64 ((wrap64 (rd l0 0)) * 256)) (wrap64 (rd l0 1))) t135 (decide (t135 > (l0.length : Int))))) = some (r1, r2, r3) := H
        have A5 := Aside0.mk A50
        clear A50
        have HC6 := Aside0.mk H
        clear H
        have p133 : 0 ≤ (0 : Int) := (by omega)
        have q133 : 0 < (l0.length : Int) := of_decide_eq_true (by first | (with_reducible assumption) | assumption)
        obtain ⟨ad133, e133, hx133_0⟩ := Kd.at_int HR0.out 0 p133 q133
        cases e133
        have qi133 : (0 < l0.length) = True := eq_true (by omega)
        (try rw [show ((0 : Int)).toNat = 0 from rfl] at hx133_0)
        (try rw [Addr.add_zero'] at hx133_0)
        replace p133 := eq_true p133
        replace q133 := eq_true q133
        have p134 : 0 ≤ (1 : Int) := (by omega)
        have q134 : 1 < (l0.length : Int) := of_decide_eq_true (by first | (with_reducible assumption) | assumption)
        obtain ⟨ad134, e134, hx134_0⟩ := Kd.at_int HR0.out 1 p134 q134
        obtain rfl : ad133 = ad134 := (by injection e134)
        (try simp only [show (1 : Int).toNat = 1 from rfl, Nat.reduceMul, Nat.reduceEqDiff, Go.Addr.add, ↓reduceIte] at hx134_0)
        have qi134 : (1 < l0.length) = True := eq_true (by omega)
        (try rw [show ((1 : Int)).toNat = 1 from rfl] at hx134_0)
        replace p134 := eq_true p134
        replace q134 := eq_true q134
        go_enter Try.func65, Try.ntmps65
        go_upto_region 5 with (first | (go_at_call 64; (with_reducible refine (frame_Size.calls (Go.bits .or .i64 (wrap64 ((wrap64 (rd l0 0)) * 256)) (wrap64 (rd l0 1))) t135 _ A5.out).mono ?_); rintro e w' ⟨rfl, ⟨nd, rfl⟩⟩; (try first | exact ⟨rfl, _, World.drewN_drewN _ _ _⟩ | exact ⟨rfl, _, Eq.trans (World.drewN_drewN _ _ _) (congrArg (World.drewN _) (Nat.add_assoc _ _ _))⟩)))
        repeat (go_quiet (first | (go_at_call 64; (with_reducible refine (frame_Size.calls (Go.bits .or .i64 (wrap64 ((wrap64 (rd l0 0)) * 256)) (wrap64 (rd l0 1))) t135 _ A5.out).mono ?_); rintro e w' ⟨rfl, ⟨nd, rfl⟩⟩; (try first | exact ⟨rfl, _, World.drewN_drewN _ _ _⟩ | exact ⟨rfl, _, Eq.trans (World.drewN_drewN _ _ _) (congrArg (World.drewN _) (Nat.add_assoc _ _ _))⟩))); go_upto_region 5 with (first | (go_at_call 64; (with_reducible refine (frame_Size.calls (Go.bits .or .i64 (wrap64 ((wrap64 (rd l0 0)) * 256)) (wrap64 (rd l0 1))) t135 _ A5.out).mono ?_); rintro e w' ⟨rfl, ⟨nd, rfl⟩⟩; (try first | exact ⟨rfl, _, World.drewN_drewN _ _ _⟩ | exact ⟨rfl, _, Eq.trans (World.drewN_drewN _ _ _) (congrArg (World.drewN _) (Nat.add_assoc _ _ _))⟩))))
        (try simp only [Act.put, List.setIfInBounds_toArray, List.set_cons_zero, List.set_cons_succ])
        go_cut [22] (fun v22 wc => ∃ (kq : Nat) (x22_5 : Bool), v22 = .bool x22_5 ∧ Aside0 (frame_Get.j0 kq l0 (Go.bits .or .i64 (wrap64 ((wrap64 (rd l0 0)) * 256)) (wrap64 (rd l0 1))) t135 x22_5 = some (r1, r2, r3)) ∧ Aside0 (kq ≤ k) ∧ Aside0 (Below w.heap.size w wc))
        case first =>
          have H := HC6.out
          clear HC6
          by_cases c7 : t135 = 0
          · rw [if_pos c7] at H
            have c7b0 : (t135 == 0) = true := beq_iff_eq.mpr c7
            have c7b1 : (t135 != 0) = false := bne_eq_false_iff_eq.mpr c7
            clear c7
            (first | rw [c7b0] | (simp only [i64_w, i32_w]; rw [c7b0]) | skip)
            have H' := Aside0.mk H
            clear H
            go_wp2
            repeat (go_quiet (fail); try go_wp2)
            go_meet
            case rel => exact ⟨_, (true), (by first | rfl | (simp; done) | (simp [*]; done)), H', ⟨by first | omega | exact Nat.le_refl _⟩, ⟨by repeat (first | (with_reducible first | exact HB.out | apply below_alloc | apply pw_below_drewN | apply below_drew1) | exact HB.out)⟩⟩
          · rw [if_neg c7] at H
            have c7b0 : (t135 == 0) = false := beq_eq_false_iff_ne.mpr c7
            have c7b1 : (t135 != 0) = true := bne_iff_ne.mpr c7
            (first | rw [c7b0] | (simp only [i64_w, i32_w]; rw [c7b0]) | skip)
            have H' := Aside0.mk H
            clear H
            go_wp2
            repeat (go_quiet (fail); try go_wp2)
            go_meet
            case rel => exact ⟨_, (decide (t135 > (l0.length : Int))), (by first | rfl | (simp; done) | (simp [*]; done)), H', ⟨by first | omega | exact Nat.le_refl _⟩, ⟨by repeat (first | (with_reducible first | exact HB.out | apply below_alloc | apply pw_below_drewN | apply below_drew1) | exact HB.out)⟩⟩
        case rest =>
          clear HC6
          try clear p1
          try clear q1
          try clear hx1
          try clear qi1
          try clear c2
          try clear c2b0
          try clear c2b1
          try clear p2
          try clear c3
          try clear c3b0
          try clear c3b1
          try clear c4
          try clear c4b0
          try clear c4b1
          try clear c6
          try clear p6
          try clear c7
          try clear c7b0
          try clear c7b1
          try clear hx133_0
          try clear hx134_0
          try clear p133
          try clear p134
          try clear q133
          try clear q134
          obtain ⟨kq, x22_5, rfl, HA, HJ5, HB⟩ := hcut
          cases kq with
          | zero => exact absurd HA.out (by simp [frame_Get.j0])
          | succ kj5 =>
            have H := HA.out
            clear HA
            simp only [frame_Get.j0] at H
            by_cases c8 : x22_5 = true
            · subst c8
              have H1 : (some (([] : List Int), 0, 2)) = some (r1, r2, r3) := by rw [if_pos rfl] at H; exact H
              clear H
              have H := H1
              clear H1
              simp only [Option.some.injEq, Prod.mk.injEq] at H
              obtain ⟨rfl, rfl, rfl⟩ := H
              go_wp2
              repeat (go_quiet (fail); try go_wp2)
              go_ret3
              exact ⟨_, by first | rfl | (simp [errW_none, errW_some] <;> rfl) | (simp [*, errW_none, errW_some] <;> rfl), by first | exact Kd.R_nil _ _ _ _ _ | exact Kd.N_nil _ _ _ _ _ | exact Kd.V_nil _ _ _ _ _ | exact Kd.Q_nil _ _ _ _ _ | exact Kd.S_nil _ _ _ _ _, by repeat (first | (with_reducible first | exact HB.out | apply below_alloc | apply pw_below_drewN | apply below_drew1) | exact HB.out)⟩
            · replace c8 := Bool.eq_false_iff.mpr c8
              subst c8
              have H1 : (if 0 ≤ t135 then (if t135 ≤ (l0.length : Int) then ((crc_Good.f (l0.take (t135 : Int).toNat)).bind fun t137 => (if t137 = true then (if 2 ≤ (wrap64 (2 + (Go.bits .or .i64 (wrap64 ((wrap64 (rd l0 0)) * 256)) (wrap64 (rd l0 1))))) then (if (wrap64 (2 + (Go.bits .or .i64 (wrap64 ((wrap64 (rd l0 0)) * 256)) (wrap64 (rd l0 1))))) ≤ (l0.length : Int) then ((slices_Clone_byte_byte.f ((l0.take ((wrap64 (2 + (Go.bits .or .i64 (wrap64 ((wrap64 (rd l0 0)) * 256)) (wrap64 (rd l0 1))))) : Int).toNat).drop 2)).bind fun t139 => (some (t139, t135, 0))) else (none)) else (none)) else (some (([] : List Int), 0, 3)))) else (none)) else (none)) = some (r1, r2, r3) := by rw [if_neg (show ¬ (false = true) by decide)] at H; exact H
              clear H
              have H := H1
              clear H1
              by_cases c9 : 0 ≤ t135
              · rw [if_pos c9] at H
                have c9b0 := eq_true c9
                have c9b1 : decide (0 ≤ t135) = true := decide_eq_true c9
                clear c9
                by_cases c10 : t135 ≤ (l0.length : Int)
                · rw [if_pos c10] at H
                  have c10b0 := eq_true c10
                  have c10b1 : decide (t135 ≤ (l0.length : Int)) = true := decide_eq_true c10
                  clear c10
                  obtain ⟨qt135, hqt135⟩ : ∃ q_ : List Int, (l0.take (t135 : Int).toNat) = q_ := ⟨_, rfl⟩
                  (try rw [hqt135] at H)
                  replace H := Option.bind_eq_some_iff.mp H
                  obtain ⟨t137, A110, H⟩ := H
                  replace H : (if t137 = true then (if 2 ≤ (wrap64 (2 + (Go.bits .or .i64 (wrap64 ((wrap64 (rd l0 0)) * 256)) (wrap64 (rd l0 1))))) then (if (wrap64 (2 + (Go.bits .or .i64 (wrap64 ((wrap64 (rd l0 0)) * 256)) (wrap64 (rd l0 1))))) ≤ (l0.length : Int) then ((slices_Clone_byte_byte.f ((l0.take ((wrap64 (2 + (Go.bits .or .i64 (wrap64 ((wrap64 (rd l0 0)) * 256)) (wrap64 (rd l0 1))))) : Int).toNat).drop 2)).bind fun t139 => (some (t139, t135, 0))) else (none)) else (none)) else (some (([] : List Int), 0, 3))) = some (r1, r2, r3) := H
                  have A11 := Aside0.mk A110
                  clear A110
                  by_cases c12 : t137 = true
                  · subst c12
                    have H1 : (if 2 ≤ (wrap64 (2 + (Go.bits .or .i64 (wrap64 ((wrap64 (rd l0 0)) * 256)) (wrap64 (rd l0 1))))) then (if (wrap64 (2 + (Go.bits .or .i64 (wrap64 ((wrap64 (rd l0 0)) * 256)) (wrap64 (rd l0 1))))) ≤ (l0.length : Int) then ((slices_Clone_byte_byte.f ((l0.take ((wrap64 (2 + (Go.bits .or .i64 (wrap64 ((wrap64 (rd l0 0)) * 256)) (wrap64 (rd l0 1))))) : Int).toNat).drop 2)).bind fun t139 => (some (t139, t135, 0))) else (none)) else (none)) = some (r1, r2, r3) := by rw [if_pos rfl] at H; exact H
                    clear H
                    have H := H1
                    clear H1
                    by_cases c13 : 2 ≤ (wrap64 (2 + (Go.bits .or .i64 (wrap64 ((wrap64 (rd l0 0)) * 256)) (wrap64 (rd l0 1)))))
                    · rw [if_pos c13] at H
                      have c13b0 := eq_true c13
                      have c13b1 : decide (2 ≤ (wrap64 (2 + (Go.bits .or .i64 (wrap64 ((wrap64 (rd l0 0)) * 256)) (wrap64 (rd l0 1)))))) = true := decide_eq_true c13
                      by_cases c14 : (wrap64 (2 + (Go.bits .or .i64 (wrap64 ((wrap64 (rd l0 0)) * 256)) (wrap64 (rd l0 1))))) ≤ (l0.length : Int)
                      · rw [if_pos c14] at H
                        have c14b0 := eq_true c14
                        have c14b1 : decide ((wrap64 (2 + (Go.bits .or .i64 (wrap64 ((wrap64 (rd l0 0)) * 256)) (wrap64 (rd l0 1))))) ≤ (l0.length : Int)) = true := decide_eq_true c14
                        replace H := Option.bind_eq_some_iff.mp H
                        obtain ⟨t139, A150, H⟩ := H
                        replace H : (some (t139, t135, 0)) = some (r1, r2, r3) := H
                        have A15 := Aside0.mk A150
                        clear A150
                        simp only [Option.some.injEq, Prod.mk.injEq] at H
                        obtain ⟨rfl, rfl, rfl⟩ := H
                        obtain ⟨i016, hi016, _, hsz16, _⟩ := info_parts info5
                        obtain ⟨hcut16, hA16, hC16⟩ := print_take_of (P := Try.prog) (Value.int .u8) 0 22 5 .i64 Try.underlying22 hi016 hsz16 (some ad133) c0 l0 t135 (of_decide_eq_true (by first | (with_reducible assumption) | assumption)) (of_decide_eq_true (by first | (with_reducible assumption) | assumption)) HC0.out
                        rw [hqt135] at hcut16 hA16 hC16
                        have HR136 := Aside0.mk (Kd.C_of_reads (h1 := fun _ => rfl) (hA16 _ (Kd.reads_of_C HR0.out)))
                        have HC136 := Aside0.mk hC16
                        clear hA16 hC16 hi016 hsz16
                        go_wp2_with (first | (go_at_call 45; (with_reducible refine (crc_Good.calls _ _ qt135 true _ ?side1 ?side2 A11.out).mono ?_); (case side1 => repeat (first | exact (Kd.C_below HR136.out HB.out) | (with_reducible refine Kd.C_alloc ?_ _) | (with_reducible refine Kd.C_drewN ?_ _) | (with_reducible refine Kd.C_drew ?_))); (case side2 => exact HC136.out); rintro e w17 ⟨rfl, hb⟩; have n0_ := Aside0.mk (below_step (by repeat (first | (with_reducible first | exact HB.out | apply below_alloc | apply pw_below_drewN | apply below_drew1) | exact HB.out)) hb); clear HB; have HB := n0_; clear n0_; (try clear hb); (try clear hb2); (try clear hk); (try clear hi); obtain ⟨i018, hi018, _, hsz18, _⟩ := info_parts info5; obtain ⟨A18, hcut18, hA18, hC18⟩ := print_mid_of (P := Try.prog) (Value.int .u8) 0 22 5 .i64 .i64 Try.underlying22 hi018 hsz18 (some ad133) c0 l0 2 (wrap64 (2 + (Go.bits .or .i64 (wrap64 ((wrap64 (rd l0 0)) * 256)) (wrap64 (rd l0 1))))) (by omega) (by first | omega | exact of_decide_eq_true (by first | (with_reducible assumption) | assumption)) (of_decide_eq_true (by first | (with_reducible assumption) | assumption)) HC0.out; obtain ⟨m18, hm18⟩ : ∃ m_ : List Int, ((l0.take ((wrap64 (2 + (Go.bits .or .i64 (wrap64 ((wrap64 (rd l0 0)) * 256)) (wrap64 (rd l0 1))))) : Int).toNat).drop 2) = m_ := ⟨_, rfl⟩; (try simp only [Int.reduceToNat] at hcut18 hA18 hC18); rw [hm18] at hcut18 hA18 hC18; (try rw [hm18] at A15); have HR138 := Aside0.mk (Kd.C_of_reads (h1 := fun _ => rfl) (hA18 _ (Kd.reads_of_C HR0.out))); have HC138 := Aside0.mk hC18; clear hA18 hC18 hi018 hsz18) | (go_at_call 96; (with_reducible refine (slices_Clone_byte_byte.calls _ _ m18 t139 _ ?side1 ?side2 A15.out).mono ?_); (case side1 => repeat (first | exact (Kd.C_below HR138.out HB.out) | (with_reducible refine Kd.C_alloc ?_ _) | (with_reducible refine Kd.C_drewN ?_ _) | (with_reducible refine Kd.C_drew ?_))); (case side2 => exact HC138.out); rintro e w19 ⟨v140, rfl, ho0, hb⟩; have n0_ := Aside0.mk (Kd.R_lower ho0 (below_size (by repeat (first | (with_reducible first | exact HB.out | apply below_alloc | apply pw_below_drewN | apply below_drew1) | exact HB.out)))); have n1_ := Aside0.mk (below_step (by repeat (first | (with_reducible first | exact HB.out | apply below_alloc | apply pw_below_drewN | apply below_drew1) | exact HB.out)) hb); clear HB; have HO141 := n0_; have HB := n1_; clear n0_ n1_; (try clear hb); (try clear hb2); (try clear hk); (try clear hi); (try clear ho0)))
                        repeat (go_quiet (first | (go_at_call 45; (with_reducible refine (crc_Good.calls _ _ qt135 true _ ?side1 ?side2 A11.out).mono ?_); (case side1 => repeat (first | exact (Kd.C_below HR136.out HB.out) | (with_reducible refine Kd.C_alloc ?_ _) | (with_reducible refine Kd.C_drewN ?_ _) | (with_reducible refine Kd.C_drew ?_))); (case side2 => exact HC136.out); rintro e w17 ⟨rfl, hb⟩; have n0_ := Aside0.mk (below_step (by repeat (first | (with_reducible first | exact HB.out | apply below_alloc | apply pw_below_drewN | apply below_drew1) | exact HB.out)) hb); clear HB; have HB := n0_; clear n0_; (try clear hb); (try clear hb2); (try clear hk); (try clear hi); obtain ⟨i018, hi018, _, hsz18, _⟩ := info_parts info5; obtain ⟨A18, hcut18, hA18, hC18⟩ := print_mid_of (P := Try.prog) (Value.int .u8) 0 22 5 .i64 .i64 Try.underlying22 hi018 hsz18 (some ad133) c0 l0 2 (wrap64 (2 + (Go.bits .or .i64 (wrap64 ((wrap64 (rd l0 0)) * 256)) (wrap64 (rd l0 1))))) (by omega) (by first | omega | exact of_decide_eq_true (by first | (with_reducible assumption) | assumption)) (of_decide_eq_true (by first | (with_reducible assumption) | assumption)) HC0.out; obtain ⟨m18, hm18⟩ : ∃ m_ : List Int, ((l0.take ((wrap64 (2 + (Go.bits .or .i64 (wrap64 ((wrap64 (rd l0 0)) * 256)) (wrap64 (rd l0 1))))) : Int).toNat).drop 2) = m_ := ⟨_, rfl⟩; (try simp only [Int.reduceToNat] at hcut18 hA18 hC18); rw [hm18] at hcut18 hA18 hC18; (try rw [hm18] at A15); have HR138 := Aside0.mk (Kd.C_of_reads (h1 := fun _ => rfl) (hA18 _ (Kd.reads_of_C HR0.out))); have HC138 := Aside0.mk hC18; clear hA18 hC18 hi018 hsz18) | (go_at_call 96; (with_reducible refine (slices_Clone_byte_byte.calls _ _ m18 t139 _ ?side1 ?side2 A15.out).mono ?_); (case side1 => repeat (first | exact (Kd.C_below HR138.out HB.out) | (with_reducible refine Kd.C_alloc ?_ _) | (with_reducible refine Kd.C_drewN ?_ _) | (with_reducible refine Kd.C_drew ?_))); (case side2 => exact HC138.out); rintro e w19 ⟨v140, rfl, ho0, hb⟩; have n0_ := Aside0.mk (Kd.R_lower ho0 (below_size (by repeat (first | (with_reducible first | exact HB.out | apply below_alloc | apply pw_below_drewN | apply below_drew1) | exact HB.out)))); have n1_ := Aside0.mk (below_step (by repeat (first | (with_reducible first | exact HB.out | apply below_alloc | apply pw_below_drewN | apply below_drew1) | exact HB.out)) hb); clear HB; have HO141 := n0_; have HB := n1_; clear n0_ n1_; (try clear hb); (try clear hb2); (try clear hk); (try clear hi); (try clear ho0))); try go_wp2_with (first | (go_at_call 45; (with_reducible refine (crc_Good.calls _ _ qt135 true _ ?side1 ?side2 A11.out).mono ?_); (case side1 => repeat (first | exact (Kd.C_below HR136.out HB.out) | (with_reducible refine Kd.C_alloc ?_ _) | (with_reducible refine Kd.C_drewN ?_ _) | (with_reducible refine Kd.C_drew ?_))); (case side2 => exact HC136.out); rintro e w17 ⟨rfl, hb⟩; have n0_ := Aside0.mk (below_step (by repeat (first | (with_reducible first | exact HB.out | apply below_alloc | apply pw_below_drewN | apply below_drew1) | exact HB.out)) hb); clear HB; have HB := n0_; clear n0_; (try clear hb); (try clear hb2); (try clear hk); (try clear hi); obtain ⟨i018, hi018, _, hsz18, _⟩ := info_parts info5; obtain ⟨A18, hcut18, hA18, hC18⟩ := print_mid_of (P := Try.prog) (Value.int .u8) 0 22 5 .i64 .i64 Try.underlying22 hi018 hsz18 (some ad133) c0 l0 2 (wrap64 (2 + (Go.bits .or .i64 (wrap64 ((wrap64 (rd l0 0)) * 256)) (wrap64 (rd l0 1))))) (by omega) (by first | omega | exact of_decide_eq_true (by first | (with_reducible assumption) | assumption)) (of_decide_eq_true (by first | (with_reducible assumption) | assumption)) HC0.out; have HR138 := Aside0.mk (Kd.C_of_reads (h1 := fun _ => rfl) (hA18 _ (Kd.reads_of_C HR0.out))); have HC138 := Aside0.mk hC18; clear hA18 hC18 hi018 hsz18) | (go_at_call 96; (with_reducible refine (slices_Clone_byte_byte.calls _ _ m18 t139 _ ?side1 ?side2 A15.out).mono ?_); (case side1 => repeat (first | exact (Kd.C_below HR138.out HB.out) | (with_reducible refine Kd.C_alloc ?_ _) | (with_reducible refine Kd.C_drewN ?_ _) | (with_reducible refine Kd.C_drew ?_))); (case side2 => exact HC138.out); rintro e w19 ⟨v140, rfl, ho0, hb⟩; have n0_ := Aside0.mk (Kd.R_lower ho0 (below_size (by repeat (first | (with_reducible first | exact HB.out | apply below_alloc | apply pw_below_drewN | apply below_drew1) | exact HB.out)))); have n1_ := Aside0.mk (below_step (by repeat (first | (with_reducible first | exact HB.out | apply below_alloc | apply pw_below_drewN | apply below_drew1) | exact HB.out)) hb); clear HB; have HO141 := n0_; have HB := n1_; clear n0_ n1_; (try clear hb); (try clear hb2); (try clear hk); (try clear hi); (try clear ho0))))
                        go_ret3
                        exact ⟨_, by first | rfl | (simp [errW_none, errW_some] <;> rfl) | (simp [*, errW_none, errW_some] <;> rfl), by (with_reducible repeat (first | apply Kd.R_alloc | apply Kd.R_drewN | apply Kd.R_drew)); exact HO141.out, by repeat (first | (with_reducible first | exact HB.out | apply below_alloc | apply pw_below_drewN | apply below_drew1) | exact HB.out)⟩
                      · rw [if_neg c14] at H
                        exact absurd H (by simp)
                    · rw [if_neg c13] at H
                      exact absurd H (by simp)
                  · replace c12 := Bool.eq_false_iff.mpr c12
                    subst c12
                    have H1 : (some (([] : List Int), 0, 3)) = some (r1, r2, r3) := by rw [if_neg (show ¬ (false = true) by decide)] at H; exact H
                    clear H
                    have H := H1
                    clear H1
                    simp only [Option.some.injEq, Prod.mk.injEq] at H
                    obtain ⟨rfl, rfl, rfl⟩ := H
                    obtain ⟨i020, hi020, _, hsz20, _⟩ := info_parts info5
                    obtain ⟨hcut20, hA20, hC20⟩ := print_take_of (P := Try.prog) (Value.int .u8) 0 22 5 .i64 Try.underlying22 hi020 hsz20 (some ad133) c0 l0 t135 (of_decide_eq_true (by first | (with_reducible assumption) | assumption)) (of_decide_eq_true (by first | (with_reducible assumption) | assumption)) HC0.out
                    rw [hqt135] at hcut20 hA20 hC20
                    have HR136 := Aside0.mk (Kd.C_of_reads (h1 := fun _ => rfl) (hA20 _ (Kd.reads_of_C HR0.out)))
                    have HC136 := Aside0.mk hC20
                    clear hA20 hC20 hi020 hsz20
                    go_wp2_with (first | (go_at_call 45; (with_reducible refine (crc_Good.calls _ _ qt135 false _ ?side1 ?side2 A11.out).mono ?_); (case side1 => repeat (first | exact (Kd.C_below HR136.out HB.out) | (with_reducible refine Kd.C_alloc ?_ _) | (with_reducible refine Kd.C_drewN ?_ _) | (with_reducible refine Kd.C_drew ?_))); (case side2 => exact HC136.out); rintro e w21 ⟨rfl, hb⟩; have n0_ := Aside0.mk (below_step (by repeat (first | (with_reducible first | exact HB.out | apply below_alloc | apply pw_below_drewN | apply below_drew1) | exact HB.out)) hb); clear HB; have HB := n0_; clear n0_; (try clear hb); (try clear hb2); (try clear hk); (try clear hi)))
                    repeat (go_quiet (first | (go_at_call 45; (with_reducible refine (crc_Good.calls _ _ qt135 false _ ?side1 ?side2 A11.out).mono ?_); (case side1 => repeat (first | exact (Kd.C_below HR136.out HB.out) | (with_reducible refine Kd.C_alloc ?_ _) | (with_reducible refine Kd.C_drewN ?_ _) | (with_reducible refine Kd.C_drew ?_))); (case side2 => exact HC136.out); rintro e w21 ⟨rfl, hb⟩; have n0_ := Aside0.mk (below_step (by repeat (first | (with_reducible first | exact HB.out | apply below_alloc | apply pw_below_drewN | apply below_drew1) | exact HB.out)) hb); clear HB; have HB := n0_; clear n0_; (try clear hb); (try clear hb2); (try clear hk); (try clear hi))); try go_wp2_with (first | (go_at_call 45; (with_reducible refine (crc_Good.calls _ _ qt135 false _ ?side1 ?side2 A11.out).mono ?_); (case side1 => repeat (first | exact (Kd.C_below HR136.out HB.out) | (with_reducible refine Kd.C_alloc ?_ _) | (with_reducible refine Kd.C_drewN ?_ _) | (with_reducible refine Kd.C_drew ?_))); (case side2 => exact HC136.out); rintro e w21 ⟨rfl, hb⟩; have n0_ := Aside0.mk (below_step (by repeat (first | (with_reducible first | exact HB.out | apply below_alloc | apply pw_below_drewN | apply below_drew1) | exact HB.out)) hb); clear HB; have HB := n0_; clear n0_; (try clear hb); (try clear hb2); (try clear hk); (try clear hi))))
                    go_ret3
                    exact ⟨_, by first | rfl | (simp [errW_none, errW_some] <;> rfl) | (simp [*, errW_none, errW_some] <;> rfl), by first | exact Kd.R_nil _ _ _ _ _ | exact Kd.N_nil _ _ _ _ _ | exact Kd.V_nil _ _ _ _ _ | exact Kd.Q_nil _ _ _ _ _ | exact Kd.S_nil _ _ _ _ _, by repeat (first | (with_reducible first | exact HB.out | apply below_alloc | apply pw_below_drewN | apply below_drew1) | exact HB.out)⟩
                · rw [if_neg c10] at H
                  exact absurd H (by simp)
              · rw [if_neg c9] at H
                exact absurd H (by simp)
      · rw [if_neg c4] at H
        exact absurd H (by simp)
    · rw [if_neg c3] at H
      exact absurd H (by simp)

end Go.Proofs.Ytbcienbnhchdeaa.Print

-- Printed by a program of this session (wip/patch_print.py over the kit's print); Lean checks it.
namespace Go.Proofs.Ytbcienbnhchdeaa.Print
open Go.RowKit Go.Proofs.YtbcienbnhchdeaaW.PrintWords Go.Proofs.YtbcienbnhchdeaaW.PrintLast Go.Proofs.YtbcienbnhchdeaaW.PrintMore
attribute [local go_sem] max2_int min2_int max_two min_two max_three min_three max_four min_four   -- for this text's walks alone
set_option linter.unusedVariables false
set_option linter.unusedSimpArgs false

/-! ### frame_Scan: function 68 -/
def frame_Scan.l0 : Nat → List Int → List (List Int) → Int → Option (List (List Int) × Int × Int)
  | 0, _, _, _ => none
  | k + 1, b, l, i => if i = (b.length : Int) then (some (l, i, 0)) else (if 0 ≤ i ∧ i ≤ (b.length : Int) then ((frame_Get.f 1 (b.drop i.toNat)).bind fun t => (if t.2.2 = 0 then (if l.length < 5864062014805 then (frame_Scan.l0 k b (l ++ [t.1]) (wrap64 (i + t.2.1))) else (none)) else (some (l, i, t.2.2)))) else (none))
def frame_Scan.f (l0 : List Int) : Option (List (List Int) × Int × Int) := frame_Scan.l0 (l0.length + 2) l0 [] 0
set_option maxRecDepth 100000 in
set_option maxHeartbeats 1000000 in
theorem frame_Scan.calls (A0 : Option Addr) (c0 : Nat) (l0 : List Int) (r1 : List (List Int)) (r2 : Int) (r3 : Int) (w : World) (hr0 : Kd.C (Kd.int .u8) w A0 l0.length l0) (hc0 : l0.length ≤ c0) (h : frame_Scan.f l0 = some (r1, r2, r3)) :
    Calls Try.prog 68 #[.slice A0 l0.length c0] w fun e w' => ∃ v0_ : Value, e = .returned (.tuple #[v0_, .int .i64 r2, .int .i64 r3]) ∧ Kd.S (Kd.slice 5 (Kd.int .u8)) 22 w' w.heap.size (fun _ => True) v0_ r1 ∧ Below w.heap.size w w' := by
  have HR := Aside0.mk hr0
  have HC := Aside0.mk hc0
  have H0 := Aside0.mk h
  clear hr0 hc0 h
  go_enter Try.func68, Try.ntmps68
  go_wp2
  refine Hand.wp_scope_ghost_s 0 (fun n a' w' => ∃ (l : List (List Int)) (i : Int) (v5 u2 u3 u4 u7 u8 u9 u10 u11 u12 u13 u14 u15 u16 u17 u18 u19 u20 u21 u22 u23 u24 u25 u26 u27 u28 u29 u30 u31 u32 u33 u34 u35 : Value), a' = { tmps := #[.slice A0 l0.length c0, undef, u2, u3, u4, v5, .int .i64 i, u7, u8, u9, u10, u11, u12, u13, u14, u15, u16, u17, u18, u19, u20, u21, u22, u23, u24, u25, u26, u27, u28, u29, u30, u31, u32, u33, u34, u35], defers := [] } ∧ frame_Scan.l0 n l0 l i = some (r1, r2, r3) ∧ Hid (Hand.Rows2 w w' v5 l)) rfl ?pass ?first
  case pass =>
    rintro n a' w' ⟨l, i, v5, u2, u3, u4, u7, u8, u9, u10, u11, u12, u13, u14, u15, u16, u17, u18, u19, u20, u21, u22, u23, u24, u25, u26, u27, u28, u29, u30, u31, u32, u33, u34, u35, rfl, hk, hrows⟩
    cases n with
    | zero => exact absurd hk (by simp [frame_Scan.l0])
    | succ k =>
      simp only [frame_Scan.l0] at hk
      have hrow0 := hrows.out.row
      obtain ⟨A5, c5, rfl⟩ := Kd.S_slice hrow0
      have HRW := Aside0.mk hrow0
      have HB := Aside0.mk hrows.out.below
      clear hrows hrow0
      by_cases c1 : i = (l0.length : Int)
      · rw [if_pos c1] at hk
        subst c1
        simp only [Option.some.injEq, Prod.mk.injEq] at hk
        obtain ⟨rfl, rfl, rfl⟩ := hk
        go_wp2
        simp only [Exit.jump]
        go_ret3
        exact ⟨_, rfl, HRW.out, HB.out⟩
      · rw [if_neg c1] at hk
        by_cases c2 : 0 ≤ i ∧ i ≤ (l0.length : Int)
        · rw [if_pos c2] at hk
          obtain ⟨t, ht, hk⟩ := Option.bind_eq_some_iff.mp hk
          obtain ⟨p, n, e⟩ := t
          have HT := Aside0.mk ht
          clear ht
          obtain ⟨i0, hi0, _, hsz, _⟩ := info_parts info5
          obtain ⟨A1, hcut, hA, hC⟩ := print_drop_of (P := Try.prog) (Value.int .u8) 0 22 5 .i64 Try.underlying22 hi0 hsz A0 c0 l0 i c2.1 c2.2 HC.out
          obtain ⟨q, hq⟩ : ∃ q_ : List Int, l0.drop i.toNat = q_ := ⟨_, rfl⟩
          rw [hq] at hcut hA hC HT
          have HR1 := Aside0.mk (Kd.C_of_reads (h1 := fun _ => rfl) (hA _ (Kd.reads_of_C (Kd.C_below HR.out HB.out))))
          have HC1 := Aside0.mk hC
          clear hA hC hi0 hsz hq
          have HRo := Aside0.mk (Kd.S_mono (ok' := fun k_ => True ∧ ¬ w'.heap.size ≤ k_) (Kd.S_bound HRW.out) (fun k_ hk_ => ⟨trivial, by have := hk_.2.2.1; omega⟩))
          have HSZ := Aside0.mk HB.out.size
          by_cases c3 : e = 0
          · subst c3
            rw [if_pos rfl] at hk
            by_cases c4 : l.length < 5864062014805
            · rw [if_pos c4] at hk
              have HK := Aside0.mk hk
              clear hk
              go_wp2_with (first
                | (go_at_call 65; refine (frame_Get.calls 1 A1 _ q p n 0 _ HR1.out HC1.out HT.out).mono ?_; rintro e w1 ⟨v, rfl, ho, hb⟩; obtain ⟨Ap, cp, rfl, _, _⟩ := Kd.R_reads ho; have HO := Aside0.mk ho; have HB1 := Aside0.mk hb; clear ho hb)
                | (at_builtin; refine Kd.S_append (Kd.slice 5 (Kd.int .u8)) (w0 := w) w.heap.size rfl (.tmp 29) (.tmp 31) 65 22 (.slice none 0 0) 24 rfl Try.underlying65 info22 rfl (by decide) (by omega) (.slice A5 l.length c5) l p [.slice Ap p.length cp] (fun _ => True) (fun k_ => w'.heap.size ≤ k_) rfl rfl ?aP ?aK (fun _ _ => trivial) ?aO ?aB ?aS ?aL ?_; (case aP => exact Kd.M_row (Kd.R_lower (Kd.R_mono (Kd.R_bound HO.out) (fun _ hk_ => hk_.2.1)) HSZ.out)); (case aK => exact fun k_ hk_ => ⟨trivial, fun e_ => by have := Kd.S_lt HRW.out k_ e_.symm; omega⟩); (case aO => exact Kd.S_below HRo.out HB1.out); (case aB => exact HB.out.trans (HB1.out.mono HSZ.out)); (case aS => have := HSZ.out; have := HB1.out.size; omega); (case aL => omega); intro v1 w2 ho hb hg hat; have HO2 := Aside0.mk ho; have HB2 := Aside0.mk hb; clear ho hb hg hat))
              go_step3
              exact ⟨rfl, k, Nat.lt_succ_self k, l ++ [p], wrap64 (i + n), v1, _, _, _, _, _, _, _, _, _, _, _, _, _, _, _, _, _, _, _, _, _, _, _, _, _, _, _, _, _, _, _, _, rfl, HK.out, ⟨HO2.out, HB2.out⟩⟩
            · rw [if_neg c4] at hk
              exact absurd hk (by simp)
          · rw [if_neg c3] at hk
            simp only [Option.some.injEq, Prod.mk.injEq] at hk
            obtain ⟨rfl, rfl, rfl⟩ := hk
            go_wp2_with (first
              | (go_at_call 65; refine (frame_Get.calls 1 A1 _ q p n e _ HR1.out HC1.out HT.out).mono ?_; rintro e w1 ⟨v, rfl, ho, hb⟩; have HB1 := Aside0.mk hb; clear ho hb))
            simp only [Exit.jump]
            go_ret3
            exact ⟨_, rfl, Kd.S_below HRW.out HB1.out, HB.out.trans (HB1.out.mono HSZ.out)⟩
        · rw [if_neg c2] at hk
          exact absurd hk (by simp)
  case first =>
    intro hpass
    go_wp2
    go_step3
    rename_i hK
    refine hK _ _ ?_
    exact hpass (l0.length + 2) _ _ ⟨[], 0, .slice none 0 0, _, _, _, _, _, _, _, _, _, _, _, _, _, _, _, _, _, _, _, _, _, _, _, _, _, _, _, _, _, _, _, _, rfl, H0.out, ⟨Kd.S_nil _ _ _ _ _, Below.refl _ _⟩⟩

end Go.Proofs.Ytbcienbnhchdeaa.Print

-- Printed by a program of this session (wip/patch_print.py over the kit's print); Lean checks it.
namespace Go.Proofs.Ytbcienbnhchdeaa.Print
open Go.RowKit Go.Proofs.YtbcienbnhchdeaaW.PrintWords Go.Proofs.YtbcienbnhchdeaaW.PrintLast Go.Proofs.YtbcienbnhchdeaaW.PrintMore
attribute [local go_sem] max2_int min2_int max_two min_two max_three min_three max_four min_four   -- for this text's walks alone
set_option linter.unusedVariables false
set_option linter.unusedSimpArgs false

/-! ### frame_Put: function 62 -/
def frame_Put.f (l0 : List Int) (l1 : List Int) : Option (List Int × Int) := if (l1.length : Int) = 0 then (some (l0, 1)) else ((frame_Size.f (l1.length : Int)).bind fun t105 => (if t105 = 0 then (some (l0, 12)) else ((slices_Concat_byte_byte.f (([(([((l1.length : Int) / 256) % 256, ((l1.length : Int)) % 256] : List Int)), l1] : List (List Int)))).bind fun t112 => ((crc_Seal.f t112).bind fun t115 => ((slices_Concat_byte_byte.f (([l0, t115] : List (List Int)))).bind fun t121 => (some (t121, 0)))))))
set_option maxHeartbeats 8000000 in
set_option maxRecDepth 100000 in
theorem frame_Put.calls (P0_ : Nat → Prop) (A0 : Option Addr) (c0 : Nat) (l0 : List Int) (P1_ : Nat → Prop) (A1 : Option Addr) (c1 : Nat) (l1 : List Int) (r1 : List Int) (r2 : Int) (w : World) (hs0 : Kd.V (Kd.int .u8) 5 w w.heap.size (fun k_ => P0_ k_) (.slice A0 l0.length c0) l0) (hs1 : Kd.V (Kd.int .u8) 5 w w.heap.size (fun k_ => P1_ k_) (.slice A1 l1.length c1) l1) (h : frame_Put.f l0 l1 = some (r1, r2)) :
    Calls Try.prog 62 #[.slice A0 l0.length c0, .slice A1 l1.length c1] w fun e w' => ∃ v0_ : Value, e = .returned (.tuple #[v0_, .int .i64 r2]) ∧ Kd.V (Kd.int .u8) 5 w' w.heap.size (fun k_ => ((P0_ k_ ∨ P1_ k_) ∨ w.heap.size ≤ k_)) v0_ r1 ∧ Below w.heap.size w w' := by
  have HO0 := Aside0.mk (show Kd.V (Kd.int .u8) 5 w w.heap.size (fun k_ => ((P0_ k_ ∨ P1_ k_) ∨ w.heap.size ≤ k_)) (.slice A0 l0.length c0) l0 from Kd.V_mono hs0 (fun k_ hk => .inl (.inl hk)))
  have HO1 := Aside0.mk (show Kd.V (Kd.int .u8) 5 w w.heap.size (fun k_ => ((P0_ k_ ∨ P1_ k_) ∨ w.heap.size ≤ k_)) (.slice A1 l1.length c1) l1 from Kd.V_mono hs1 (fun k_ hk => .inl (.inr hk)))
  have HB := Aside0.mk (Below.refl w.heap.size w)
  have H : (if (l1.length : Int) = 0 then (some (l0, 1)) else ((frame_Size.f (l1.length : Int)).bind fun t105 => (if t105 = 0 then (some (l0, 12)) else ((slices_Concat_byte_byte.f (([(([((l1.length : Int) / 256) % 256, ((l1.length : Int)) % 256] : List Int)), l1] : List (List Int)))).bind fun t112 => ((crc_Seal.f t112).bind fun t115 => ((slices_Concat_byte_byte.f (([l0, t115] : List (List Int)))).bind fun t121 => (some (t121, 0)))))))) = some (r1, r2) := h
  clear h
  by_cases c3 : (l1.length : Int) = 0
  · rw [if_pos c3] at H
    have c3b0 : ((l1.length : Int) == 0) = true := beq_iff_eq.mpr c3
    have c3b1 : ((l1.length : Int) != 0) = false := bne_eq_false_iff_eq.mpr c3
    clear c3
    simp only [Option.some.injEq, Prod.mk.injEq] at H
    obtain ⟨rfl, rfl⟩ := H
    go_enter Try.func62, Try.ntmps62
    go_wp2
    go_ret2
    exact ⟨_, by first | rfl | (simp [errW_none, errW_some] <;> rfl) | (simp [*, errW_none, errW_some] <;> rfl), by (with_reducible repeat (first | apply Kd.V_alloc | apply Kd.V_drewN | apply Kd.V_drew)); exact HO0.out, by repeat (first | (with_reducible first | exact HB.out | apply below_alloc | apply pw_below_drewN | apply below_drew1) | exact HB.out)⟩
  · rw [if_neg c3] at H
    have c3b0 : ((l1.length : Int) == 0) = false := beq_eq_false_iff_ne.mpr c3
    have c3b1 : ((l1.length : Int) != 0) = true := bne_iff_ne.mpr c3
    have c3b2 : ¬ (l1 = []) := fun h_ => c3 (by rw [h_]; rfl)
    replace H := Option.bind_eq_some_iff.mp H
    obtain ⟨t105, A40, H⟩ := H
    replace H : (if t105 = 0 then (some (l0, 12)) else ((slices_Concat_byte_byte.f (([(([((l1.length : Int) / 256) % 256, ((l1.length : Int)) % 256] : List Int)), l1] : List (List Int)))).bind fun t112 => ((crc_Seal.f t112).bind fun t115 => ((slices_Concat_byte_byte.f (([l0, t115] : List (List Int)))).bind fun t121 => (some (t121, 0)))))) = some (r1, r2) := H
    have A4 := Aside0.mk A40
    clear A40
    by_cases c5 : t105 = 0
    · rw [if_pos c5] at H
      have c5b0 : (t105 == 0) = true := beq_iff_eq.mpr c5
      have c5b1 : (t105 != 0) = false := bne_eq_false_iff_eq.mpr c5
      clear c5
      simp only [Option.some.injEq, Prod.mk.injEq] at H
      obtain ⟨rfl, rfl⟩ := H
      go_enter Try.func62, Try.ntmps62
      go_wp2_with (first | ((with_reducible refine gate_callee (f := 64) rfl ?_); refine goesL_ (some 15) rfl rfl Try.func64 (by kernel_rfl) rfl #[.int .i64 (l1.length : Int)] rfl (by (try simp only [List.map_toArray, List.map_cons, List.map_nil]); first | done | rfl | (simp only [List.length_drop, List.length_take]; rfl)) ?_; (with_reducible refine (frame_Size.calls (l1.length : Int) t105 _ A4.out).mono ?_); rintro e w' ⟨rfl, ⟨nd, rfl⟩⟩; refine ⟨_, rfl, ?_⟩))
      go_ret2
      exact ⟨_, by first | rfl | (simp [errW_none, errW_some] <;> rfl) | (simp [*, errW_none, errW_some] <;> rfl), by (with_reducible repeat (first | apply Kd.V_alloc | apply Kd.V_drewN | apply Kd.V_drew)); exact HO0.out, by repeat (first | (with_reducible first | exact HB.out | apply below_alloc | apply pw_below_drewN | apply below_drew1) | exact HB.out)⟩
    · rw [if_neg c5] at H
      have c5b0 : (t105 == 0) = false := beq_eq_false_iff_ne.mpr c5
      have c5b1 : (t105 != 0) = true := bne_iff_ne.mpr c5
      obtain ⟨y106, hy106⟩ : ∃ y_ : List Int, y_ = (([((l1.length : Int) / 256) % 256, ((l1.length : Int)) % 256] : List Int)) := ⟨_, rfl⟩
      replace H : ((slices_Concat_byte_byte.f (([y106, l1] : List (List Int)))).bind fun t112 => ((crc_Seal.f t112).bind fun t115 => ((slices_Concat_byte_byte.f (([l0, t115] : List (List Int)))).bind fun t121 => (some (t121, 0))))) = some (r1, r2) := by first | (rw [hy106]; with_reducible exact H) | (have H2_ := (Option.bind_some _ _).symm.trans H; rw [hy106]; with_reducible exact H2_) | (have H2_ := (Option.bind_some _ _).symm.trans H; with_reducible exact H2_) | with_reducible exact H | (rw [hy106]; exact H) | exact H
      have Ny106 := Aside0.mk hy106
      clear hy106
      obtain ⟨y109, hy109⟩ : ∃ y_ : List (List Int), y_ = (([y106, l1] : List (List Int))) := ⟨_, rfl⟩
      replace H : ((slices_Concat_byte_byte.f y109).bind fun t112 => ((crc_Seal.f t112).bind fun t115 => ((slices_Concat_byte_byte.f (([l0, t115] : List (List Int)))).bind fun t121 => (some (t121, 0))))) = some (r1, r2) := by first | (rw [hy109]; with_reducible exact H) | (have H2_ := (Option.bind_some _ _).symm.trans H; rw [hy109]; with_reducible exact H2_) | (have H2_ := (Option.bind_some _ _).symm.trans H; with_reducible exact H2_) | with_reducible exact H | (rw [hy109]; exact H) | exact H
      have Ny109 := Aside0.mk hy109
      clear hy109
      replace H := Option.bind_eq_some_iff.mp H
      obtain ⟨t112, A60, H⟩ := H
      replace H : ((crc_Seal.f t112).bind fun t115 => ((slices_Concat_byte_byte.f (([l0, t115] : List (List Int)))).bind fun t121 => (some (t121, 0)))) = some (r1, r2) := H
      have A6 := Aside0.mk A60
      clear A60
      replace H := Option.bind_eq_some_iff.mp H
      obtain ⟨t115, A70, H⟩ := H
      replace H : ((slices_Concat_byte_byte.f (([l0, t115] : List (List Int)))).bind fun t121 => (some (t121, 0))) = some (r1, r2) := H
      have A7 := Aside0.mk A70
      clear A70
      obtain ⟨y118, hy118⟩ : ∃ y_ : List (List Int), y_ = (([l0, t115] : List (List Int))) := ⟨_, rfl⟩
      replace H : ((slices_Concat_byte_byte.f y118).bind fun t121 => (some (t121, 0))) = some (r1, r2) := by first | (rw [hy118]; with_reducible exact H) | (have H2_ := (Option.bind_some _ _).symm.trans H; rw [hy118]; with_reducible exact H2_) | (have H2_ := (Option.bind_some _ _).symm.trans H; with_reducible exact H2_) | with_reducible exact H | (rw [hy118]; exact H) | exact H
      have Ny118 := Aside0.mk hy118
      clear hy118
      replace H := Option.bind_eq_some_iff.mp H
      obtain ⟨t121, A80, H⟩ := H
      replace H : (some (t121, 0)) = some (r1, r2) := H
      have A8 := Aside0.mk A80
      clear A80
      simp only [Option.some.injEq, Prod.mk.injEq] at H
      obtain ⟨rfl, rfl⟩ := H
      go_enter Try.func62, Try.ntmps62
      go_wp2_with (first | ((with_reducible refine gate_callee (f := 64) rfl ?_); refine goesL_ (some 15) rfl rfl Try.func64 (by kernel_rfl) rfl #[.int .i64 (l1.length : Int)] rfl (by (try simp only [List.map_toArray, List.map_cons, List.map_nil]); first | done | rfl | (simp only [List.length_drop, List.length_take]; rfl)) ?_; (with_reducible refine (frame_Size.calls (l1.length : Int) t105 _ A4.out).mono ?_); rintro e w' ⟨rfl, ⟨nd, rfl⟩⟩; refine ⟨_, rfl, ?_⟩) | ((with_reducible refine gate_dst (N := 24) rfl ?_); refine Kd.R_lit (Kd.int .u8) _ 5 ?hg (N := 24) ?hd (xs := ([((l1.length : Int) / 256) % 256, ((l1.length : Int)) % 256] : List Int)) (inner := [.int .u8 (((l1.length : Int) / 256) % 256), .int .u8 (((l1.length : Int)) % 256)]) (ok := fun _ => True) (okp := fun _ => True) ?hr ?hp (fun _ hk => hk) trivial (Below.refl _ _) (Nat.le_refl _) (by simp) ?_; (case hd => rfl); (case hg => rfl); (case hr => first | (go_simp; done) | (go_simp; rfl)); (case hp => exact (Reps.one (show Kd.M (Kd.int .u8) _ _ _ (((l1.length : Int) / 256) % 256) [.int .u8 (((l1.length : Int) / 256) % 256)] from rfl) (Reps.one (show Kd.M (Kd.int .u8) _ _ _ (((l1.length : Int)) % 256) [.int .u8 (((l1.length : Int)) % 256)] from rfl) (Reps.none _ _)))); intro v107 w9 ho10 hb hg_ hnew_; clear hg_ hnew_; (first | rw [← Ny106.out] at ho10 | (simp only [Int.reduceToNat] at ho10; rw [← Ny106.out] at ho10)); have n0_ := Aside0.mk (Kd.V_elder' (by (with_reducible repeat (first | apply Kd.V_alloc | apply Kd.V_drewN | apply Kd.V_drew)); exact HO0.out) (Kd.R_base ho10) hb); have n1_ := Aside0.mk (Kd.V_elder' (by (with_reducible repeat (first | apply Kd.V_alloc | apply Kd.V_drewN | apply Kd.V_drew)); exact HO1.out) (Kd.R_base ho10) hb); have n2_ := Aside0.mk (Kd.R_lower (Kd.R_newM (M := fun k_ => (w.heap.size ≤ k_)) ho10 (below_size (by repeat (first | (with_reducible first | exact HB.out | apply below_alloc | apply pw_below_drewN | apply below_drew1) | exact HB.out))) (fun k_ h_ => h_)) (below_size (by repeat (first | (with_reducible first | exact HB.out | apply below_alloc | apply pw_below_drewN | apply below_drew1) | exact HB.out)))); have n3_ := Aside0.mk (below_step (by repeat (first | (with_reducible first | exact HB.out | apply below_alloc | apply pw_below_drewN | apply below_drew1) | exact HB.out)) hb); clear HO0; clear HO1; clear HB; have HO0 := n0_; have HO1 := n1_; have HO108 := n2_; have HB := n3_; clear n0_ n1_ n2_ n3_; clear hb ho10; obtain ⟨Ao11, co11, eo11⟩ := Kd.R_slice HO108.out; subst eo11) | ((with_reducible refine gate_dst (N := 26) rfl ?_); refine Kd.N_lit (Kd.slice 5 (Kd.int .u8)) _ 22 ?hg (N' := 26) ?hd (xs := ([y106, l1] : List (List Int))) (inner := [.slice Ao11 y106.length co11, .slice A1 l1.length c1]) (ok := (fun k_ => ((P0_ k_ ∨ P1_ k_) ∨ w.heap.size ≤ k_))) (okp := (fun k_ => ((P0_ k_ ∨ P1_ k_) ∨ w.heap.size ≤ k_))) ?hr ?hp (fun _ hk => hk) ((show ∀ k_, w9.heap.size ≤ k_ → (fun k_ => ((P0_ k_ ∨ P1_ k_) ∨ w.heap.size ≤ k_)) k_ from fun k_ hk => (.inr (Nat.le_trans (below_size (by repeat (first | (with_reducible first | exact HB.out | apply below_alloc | apply pw_below_drewN | apply below_drew1) | exact HB.out))) hk))) _ (Nat.le_refl _)) (Below.refl _ _) (Nat.le_refl _) (by simp) ?_; (case hd => rfl); (case hg => rfl); (case hr => first | (go_simp; done) | (go_simp; rfl)); (case hp => exact (Reps.one (show Kd.FK (Kd.slice 5 (Kd.int .u8)) _ _ y106 [.slice Ao11 y106.length co11] from (Kd.FK_slice_mk (Kd.R_reads' (Kd.R_mono (ok' := (fun k_ => ((P0_ k_ ∨ P1_ k_) ∨ w.heap.size ≤ k_))) (HO108.out) (fun k_ hk => (.inr (hk.1))))).2.1 (Kd.R_F (Kd.R_mono (ok' := (fun k_ => ((P0_ k_ ∨ P1_ k_) ∨ w.heap.size ≤ k_))) (HO108.out) (fun k_ hk => (.inr (hk.1))))))) (Reps.one (show Kd.FK (Kd.slice 5 (Kd.int .u8)) _ _ l1 [.slice A1 l1.length c1] from (Kd.FK_slice_mk (Kd.V_reads' (Kd.V_mono (ok' := (fun k_ => ((P0_ k_ ∨ P1_ k_) ∨ w.heap.size ≤ k_))) (HO1.out) (fun k_ hk => hk.1))).2.1 (Kd.V_F (Kd.V_mono (ok' := (fun k_ => ((P0_ k_ ∨ P1_ k_) ∨ w.heap.size ≤ k_))) (HO1.out) (fun k_ hk => hk.1))))) (Reps.none _ _)))); intro v110 w12 ho13 hb hg_ hnew_; clear hg_ hnew_; (first | rw [← Ny109.out] at ho13 | (simp only [Int.reduceToNat] at ho13; rw [← Ny109.out] at ho13)); have n0_ := Aside0.mk (Kd.V_elder' (by (with_reducible repeat (first | apply Kd.V_alloc | apply Kd.V_drewN | apply Kd.V_drew)); exact HO0.out) (Kd.N_base ho13) hb); have n1_ := Aside0.mk (Kd.V_elder' (by (with_reducible repeat (first | apply Kd.V_alloc | apply Kd.V_drewN | apply Kd.V_drew)); exact HO1.out) (Kd.N_base ho13) hb); have n2_ := Aside0.mk (Kd.N_lower ho13 (below_size (by repeat (first | (with_reducible first | exact HB.out | apply below_alloc | apply pw_below_drewN | apply below_drew1) | exact HB.out)))); have n3_ := Aside0.mk (below_step (by repeat (first | (with_reducible first | exact HB.out | apply below_alloc | apply pw_below_drewN | apply below_drew1) | exact HB.out)) hb); clear HO0; clear HO1; clear HB; clear HO108; have HO0 := n0_; have HO1 := n1_; have HO111 := n2_; have HB := n3_; clear n0_ n1_ n2_ n3_; clear hb ho13; obtain ⟨Ao14, co14, eo14⟩ := Kd.N_slice HO111.out; subst eo14) | ((with_reducible refine gate_callee (f := 97) rfl ?_); refine goesL_ (some 27) rfl rfl Try.func97 (by kernel_rfl) rfl #[.slice Ao14 y109.length co14] rfl (by (try simp only [List.map_toArray, List.map_cons, List.map_nil]); first | done | rfl | (simp only [List.length_drop, List.length_take]; rfl)) ?_; (with_reducible refine (slices_Concat_byte_byte.calls _ _ y109 t112 _ ?side1 ?side2 A6.out).mono ?_); (case side1 => repeat (first | exact (Kd.N_reads' HO111.out).2.2 | (with_reducible refine Kd.C_alloc ?_ _) | (with_reducible refine Kd.C_drewN ?_ _) | (with_reducible refine Kd.C_drew ?_))); (case side2 => exact (Kd.N_reads' HO111.out).2.1); rintro e w15 ⟨v113, rfl, ho0, hb⟩; refine ⟨_, rfl, ?_⟩; have n0_ := Aside0.mk (Kd.V_elder' (by (with_reducible repeat (first | apply Kd.V_alloc | apply Kd.V_drewN | apply Kd.V_drew)); exact HO0.out) (Kd.R_base ho0) hb); have n1_ := Aside0.mk (Kd.V_elder' (by (with_reducible repeat (first | apply Kd.V_alloc | apply Kd.V_drewN | apply Kd.V_drew)); exact HO1.out) (Kd.R_base ho0) hb); have n2_ := Aside0.mk (Kd.N_elder' (by (with_reducible repeat (first | apply Kd.N_alloc | apply Kd.N_drewN | apply Kd.N_drew)); exact HO111.out) (Kd.R_base ho0) hb); have n3_ := Aside0.mk (Kd.R_lower (Kd.R_newM (M := fun k_ => (w.heap.size ≤ k_)) ho0 (below_size (by repeat (first | (with_reducible first | exact HB.out | apply below_alloc | apply pw_below_drewN | apply below_drew1) | exact HB.out))) (fun k_ h_ => h_)) (below_size (by repeat (first | (with_reducible first | exact HB.out | apply below_alloc | apply pw_below_drewN | apply below_drew1) | exact HB.out)))); have n4_ := Aside0.mk (below_step (by repeat (first | (with_reducible first | exact HB.out | apply below_alloc | apply pw_below_drewN | apply below_drew1) | exact HB.out)) hb); clear HO0; clear HO1; clear HO111; clear HB; have HO0 := n0_; have HO1 := n1_; have HO111 := n2_; have HO114 := n3_; have HB := n4_; clear n0_ n1_ n2_ n3_ n4_; (try clear hb); (try clear hb2); (try clear hk); (try clear hi); (try clear ho0); obtain ⟨Ao16, co16, eo16⟩ := Kd.R_slice HO114.out; subst eo16) | ((with_reducible refine gate_callee (f := 47) rfl ?_); refine goesL_ (some 28) rfl rfl Try.func47 (by kernel_rfl) rfl #[.slice Ao16 t112.length co16] rfl (by (try simp only [List.map_toArray, List.map_cons, List.map_nil]); first | done | rfl | (simp only [List.length_drop, List.length_take]; rfl)) ?_; (with_reducible refine (crc_Seal.calls _ _ t112 t115 _ ?side1 ?side2 A7.out).mono ?_); (case side1 => repeat (first | exact (Kd.R_reads' HO114.out).2.2 | (with_reducible refine Kd.C_alloc ?_ _) | (with_reducible refine Kd.C_drewN ?_ _) | (with_reducible refine Kd.C_drew ?_))); (case side2 => exact (Kd.R_reads' HO114.out).2.1); rintro e w17 ⟨v116, rfl, ho0, hb⟩; refine ⟨_, rfl, ?_⟩; have n0_ := Aside0.mk (Kd.V_elder' (by (with_reducible repeat (first | apply Kd.V_alloc | apply Kd.V_drewN | apply Kd.V_drew)); exact HO0.out) (Kd.R_base ho0) hb); have n1_ := Aside0.mk (Kd.V_elder' (by (with_reducible repeat (first | apply Kd.V_alloc | apply Kd.V_drewN | apply Kd.V_drew)); exact HO1.out) (Kd.R_base ho0) hb); have n2_ := Aside0.mk (Kd.N_elder' (by (with_reducible repeat (first | apply Kd.N_alloc | apply Kd.N_drewN | apply Kd.N_drew)); exact HO111.out) (Kd.R_base ho0) hb); have n3_ := Aside0.mk (Kd.R_elder' (by (with_reducible repeat (first | apply Kd.R_alloc | apply Kd.R_drewN | apply Kd.R_drew)); exact HO114.out) (Kd.R_base ho0) hb); have n4_ := Aside0.mk (Kd.R_lower (Kd.R_new' (Kd.R_newM (M := fun k_ => (w.heap.size ≤ k_)) ho0 (below_size (by repeat (first | (with_reducible first | exact HB.out | apply below_alloc | apply pw_below_drewN | apply below_drew1) | exact HB.out))) (fun k_ h_ => h_)) (Kd.R_lt (by (with_reducible repeat (first | apply Kd.R_alloc | apply Kd.R_drewN | apply Kd.R_drew)); exact HO114.out))) (below_size (by repeat (first | (with_reducible first | exact HB.out | apply below_alloc | apply pw_below_drewN | apply below_drew1) | exact HB.out)))); have n5_ := Aside0.mk (below_step (by repeat (first | (with_reducible first | exact HB.out | apply below_alloc | apply pw_below_drewN | apply below_drew1) | exact HB.out)) hb); clear HO0; clear HO1; clear HO111; clear HO114; clear HB; have HO0 := n0_; have HO1 := n1_; have HO111 := n2_; have HO114 := n3_; have HO117 := n4_; have HB := n5_; clear n0_ n1_ n2_ n3_ n4_ n5_; (try clear hb); (try clear hb2); (try clear hk); (try clear hi); (try clear ho0); obtain ⟨Ao18, co18, eo18⟩ := Kd.R_slice HO117.out; subst eo18) | ((with_reducible refine gate_dst (N := 29) rfl ?_); refine Kd.N_lit (Kd.slice 5 (Kd.int .u8)) _ 22 ?hg (N' := 29) ?hd (xs := ([l0, t115] : List (List Int))) (inner := [.slice A0 l0.length c0, .slice Ao18 t115.length co18]) (ok := (fun k_ => ((P0_ k_ ∨ P1_ k_) ∨ w.heap.size ≤ k_) ∧ some k_ ≠ (.slice Ao14 y109.length co14 : Value).ownBlock ∧ some k_ ≠ (.slice Ao16 t112.length co16 : Value).ownBlock)) (okp := (fun k_ => ((P0_ k_ ∨ P1_ k_) ∨ w.heap.size ≤ k_) ∧ some k_ ≠ (.slice Ao14 y109.length co14 : Value).ownBlock ∧ some k_ ≠ (.slice Ao16 t112.length co16 : Value).ownBlock)) ?hr ?hp (fun _ hk => hk) ((show ∀ k_, w17.heap.size ≤ k_ → (fun k_ => ((P0_ k_ ∨ P1_ k_) ∨ w.heap.size ≤ k_) ∧ some k_ ≠ (.slice Ao14 y109.length co14 : Value).ownBlock ∧ some k_ ≠ (.slice Ao16 t112.length co16 : Value).ownBlock) k_ from fun k_ hk => ⟨(.inr (Nat.le_trans (below_size (by repeat (first | (with_reducible first | exact HB.out | apply below_alloc | apply pw_below_drewN | apply below_drew1) | exact HB.out))) hk)), Kd.fresh' (Kd.N_lt (by (with_reducible repeat (first | apply Kd.N_alloc | apply Kd.N_drewN | apply Kd.N_drew)); exact HO111.out)) k_ hk, Kd.fresh' (Kd.R_lt (by (with_reducible repeat (first | apply Kd.R_alloc | apply Kd.R_drewN | apply Kd.R_drew)); exact HO114.out)) k_ hk⟩) _ (Nat.le_refl _)) (Below.refl _ _) (Nat.le_refl _) (by simp) ?_; (case hd => rfl); (case hg => rfl); (case hr => first | (go_simp; done) | (go_simp; rfl)); (case hp => exact (Reps.one (show Kd.FK (Kd.slice 5 (Kd.int .u8)) _ _ l0 [.slice A0 l0.length c0] from (Kd.FK_slice_mk (Kd.V_reads' (Kd.V_mono (ok' := (fun k_ => ((P0_ k_ ∨ P1_ k_) ∨ w.heap.size ≤ k_) ∧ some k_ ≠ (.slice Ao14 y109.length co14 : Value).ownBlock ∧ some k_ ≠ (.slice Ao16 t112.length co16 : Value).ownBlock)) (HO0.out) (fun k_ hk => ⟨hk.1.1.1.1, ⟨hk.1.1.2, hk.1.2⟩⟩))).2.1 (Kd.V_F (Kd.V_mono (ok' := (fun k_ => ((P0_ k_ ∨ P1_ k_) ∨ w.heap.size ≤ k_) ∧ some k_ ≠ (.slice Ao14 y109.length co14 : Value).ownBlock ∧ some k_ ≠ (.slice Ao16 t112.length co16 : Value).ownBlock)) (HO0.out) (fun k_ hk => ⟨hk.1.1.1.1, ⟨hk.1.1.2, hk.1.2⟩⟩))))) (Reps.one (show Kd.FK (Kd.slice 5 (Kd.int .u8)) _ _ t115 [.slice Ao18 t115.length co18] from (Kd.FK_slice_mk (Kd.R_reads' (Kd.R_mono (ok' := (fun k_ => ((P0_ k_ ∨ P1_ k_) ∨ w.heap.size ≤ k_) ∧ some k_ ≠ (.slice Ao14 y109.length co14 : Value).ownBlock ∧ some k_ ≠ (.slice Ao16 t112.length co16 : Value).ownBlock)) (Kd.R_apart' (HO117.out) (Kd.N_typed HO111.out) (by decide)) (fun k_ hk => ⟨(.inr (hk.1.1.1)), ⟨hk.2, hk.1.2⟩⟩))).2.1 (Kd.R_F (Kd.R_mono (ok' := (fun k_ => ((P0_ k_ ∨ P1_ k_) ∨ w.heap.size ≤ k_) ∧ some k_ ≠ (.slice Ao14 y109.length co14 : Value).ownBlock ∧ some k_ ≠ (.slice Ao16 t112.length co16 : Value).ownBlock)) (Kd.R_apart' (HO117.out) (Kd.N_typed HO111.out) (by decide)) (fun k_ hk => ⟨(.inr (hk.1.1.1)), ⟨hk.2, hk.1.2⟩⟩))))) (Reps.none _ _)))); intro v119 w19 ho20 hb hg_ hnew_; clear hg_ hnew_; (first | rw [← Ny118.out] at ho20 | (simp only [Int.reduceToNat] at ho20; rw [← Ny118.out] at ho20)); have n0_ := Aside0.mk (Kd.V_elder' (by (with_reducible repeat (first | apply Kd.V_alloc | apply Kd.V_drewN | apply Kd.V_drew)); exact HO0.out) (Kd.N_base ho20) hb); have n1_ := Aside0.mk (Kd.V_elder' (by (with_reducible repeat (first | apply Kd.V_alloc | apply Kd.V_drewN | apply Kd.V_drew)); exact HO1.out) (Kd.N_base ho20) hb); have n2_ := Aside0.mk (Kd.N_elder' (by (with_reducible repeat (first | apply Kd.N_alloc | apply Kd.N_drewN | apply Kd.N_drew)); exact HO111.out) (Kd.N_base ho20) hb); have n3_ := Aside0.mk (Kd.R_below (by (with_reducible repeat (first | apply Kd.R_alloc | apply Kd.R_drewN | apply Kd.R_drew)); exact HO114.out) hb); have n4_ := Aside0.mk (Kd.N_lower ho20 (below_size (by repeat (first | (with_reducible first | exact HB.out | apply below_alloc | apply pw_below_drewN | apply below_drew1) | exact HB.out)))); have n5_ := Aside0.mk (below_step (by repeat (first | (with_reducible first | exact HB.out | apply below_alloc | apply pw_below_drewN | apply below_drew1) | exact HB.out)) hb); clear HO0; clear HO1; clear HO111; clear HO114; clear HB; clear HO117; have HO0 := n0_; have HO1 := n1_; have HO111 := n2_; have HO114 := n3_; have HO120 := n4_; have HB := n5_; clear n0_ n1_ n2_ n3_ n4_ n5_; clear hb ho20; obtain ⟨Ao21, co21, eo21⟩ := Kd.N_slice HO120.out; subst eo21) | ((with_reducible refine gate_callee (f := 97) rfl ?_); refine goesL_ (some 30) rfl rfl Try.func97 (by kernel_rfl) rfl #[.slice Ao21 y118.length co21] rfl (by (try simp only [List.map_toArray, List.map_cons, List.map_nil]); first | done | rfl | (simp only [List.length_drop, List.length_take]; rfl)) ?_; (with_reducible refine (slices_Concat_byte_byte.calls _ _ y118 t121 _ ?side1 ?side2 A8.out).mono ?_); (case side1 => repeat (first | exact (Kd.N_reads' HO120.out).2.2 | (with_reducible refine Kd.C_alloc ?_ _) | (with_reducible refine Kd.C_drewN ?_ _) | (with_reducible refine Kd.C_drew ?_))); (case side2 => exact (Kd.N_reads' HO120.out).2.1); rintro e w22 ⟨v122, rfl, ho0, hb⟩; refine ⟨_, rfl, ?_⟩; have n0_ := Aside0.mk (Kd.V_elder' (by (with_reducible repeat (first | apply Kd.V_alloc | apply Kd.V_drewN | apply Kd.V_drew)); exact HO0.out) (Kd.R_base ho0) hb); have n1_ := Aside0.mk (Kd.V_elder' (by (with_reducible repeat (first | apply Kd.V_alloc | apply Kd.V_drewN | apply Kd.V_drew)); exact HO1.out) (Kd.R_base ho0) hb); have n2_ := Aside0.mk (Kd.N_elder' (by (with_reducible repeat (first | apply Kd.N_alloc | apply Kd.N_drewN | apply Kd.N_drew)); exact HO111.out) (Kd.R_base ho0) hb); have n3_ := Aside0.mk (Kd.R_elder' (by (with_reducible repeat (first | apply Kd.R_alloc | apply Kd.R_drewN | apply Kd.R_drew)); exact HO114.out) (Kd.R_base ho0) hb); have n4_ := Aside0.mk (Kd.N_elder' (by (with_reducible repeat (first | apply Kd.N_alloc | apply Kd.N_drewN | apply Kd.N_drew)); exact HO120.out) (Kd.R_base ho0) hb); have n5_ := Aside0.mk (Kd.R_lower (Kd.R_new' (Kd.R_newM (M := fun k_ => (w.heap.size ≤ k_)) ho0 (below_size (by repeat (first | (with_reducible first | exact HB.out | apply below_alloc | apply pw_below_drewN | apply below_drew1) | exact HB.out))) (fun k_ h_ => h_)) (Kd.R_lt (by (with_reducible repeat (first | apply Kd.R_alloc | apply Kd.R_drewN | apply Kd.R_drew)); exact HO114.out))) (below_size (by repeat (first | (with_reducible first | exact HB.out | apply below_alloc | apply pw_below_drewN | apply below_drew1) | exact HB.out)))); have n6_ := Aside0.mk (below_step (by repeat (first | (with_reducible first | exact HB.out | apply below_alloc | apply pw_below_drewN | apply below_drew1) | exact HB.out)) hb); clear HO0; clear HO1; clear HO111; clear HO114; clear HO120; clear HB; have HO0 := n0_; have HO1 := n1_; have HO111 := n2_; have HO114 := n3_; have HO120 := n4_; have HO123 := n5_; have HB := n6_; clear n0_ n1_ n2_ n3_ n4_ n5_ n6_; (try clear hb); (try clear hb2); (try clear hk); (try clear hi); (try clear ho0)))
      go_ret2
      exact ⟨_, by first | rfl | (simp [errW_none, errW_some] <;> rfl) | (simp [*, errW_none, errW_some] <;> rfl), Kd.V_mono (Kd.R_V (by (with_reducible repeat (first | apply Kd.R_alloc | apply Kd.R_drewN | apply Kd.R_drew)); exact Kd.R_mono HO123.out (fun _ hk => hk.1.1))) (fun k_ hk => by first | exact ⟨(.inr (hk.1)), hk.2⟩ | exact (.inr (hk))), by repeat (first | (with_reducible first | exact HB.out | apply below_alloc | apply pw_below_drewN | apply below_drew1) | exact HB.out)⟩

end Go.Proofs.Ytbcienbnhchdeaa.Print

-- Printed by a program of this session (wip/patch_print.py over the kit's print); Lean checks it.
namespace Go.Proofs.Ytbcienbnhchdeaa.Print
open Go.RowKit Go.Proofs.YtbcienbnhchdeaaW.PrintWords Go.Proofs.YtbcienbnhchdeaaW.PrintLast Go.Proofs.YtbcienbnhchdeaaW.PrintMore
attribute [local go_sem] max2_int min2_int max_two min_two max_three min_three max_four min_four   -- for this text's walks alone
set_option linter.unusedVariables false
set_option linter.unusedSimpArgs false

/-! ### pacesetterlaw04_lives: function 60 -/
def pacesetterlaw04_lives.f (k : Nat)  : Option (Bool) := (frame_Put.f ([] : List Int) (([7] : List Int))).bind fun bt145 => ((frame_Get.f k bt145.1).bind fun bt149 => (if (bt145.1.length : Int) = 7 then (if 0 < (bt145.1.length : Int) then (if (rd bt145.1 0) = 0 then (if 1 < (bt145.1.length : Int) then (if (rd bt145.1 1) = 1 then (if 2 < (bt145.1.length : Int) then (if (rd bt145.1 2) = 7 then (if bt145.2 = 0 then (if (strOfNums bt149.1).toList = ([7] : List UInt8) then (if bt149.2.1 = 7 then (if bt149.2.2 = 0 then ((frame_Size.f 1).bind fun t157 => (some (t157 == 7))) else (some false)) else (some false)) else (some false)) else (some false)) else (some false)) else (none)) else (some false)) else (none)) else (some false)) else (none)) else (some false)))
theorem pacesetterlaw04_lives.mono : ∀ k, LeO (pacesetterlaw04_lives.f k ) (pacesetterlaw04_lives.f (k + 1) ) := by
  intro  k
  unfold pacesetterlaw04_lives.f
  repeat' first
      | (with_reducible exact frame_Get.mono _ _)
      | (with_reducible exact LeO.refl _)
      | (with_reducible exact LeO.none _)
      | (with_reducible refine LeO.ite ?_ ?_)
      | (with_reducible refine LeO.bind ?_ (fun _ => ?_))
      | exact frame_Get.mono _ _
      | exact LeO.none _
      | refine LeO.ite ?_ ?_
      | refine LeO.bind ?_ (fun _ => ?_)
set_option maxHeartbeats 8000000 in
set_option maxRecDepth 100000 in
theorem pacesetterlaw04_lives.calls (k : Nat)  (r : Bool) (w : World) (h : pacesetterlaw04_lives.f k  = some r) :
    Calls Try.prog 60 #[] w fun e w' => e = .returned (.bool r) ∧ Below w.heap.size w w' := by
  have HB := Aside0.mk (Below.refl w.heap.size w)
  have H : ((frame_Put.f ([] : List Int) (([7] : List Int))).bind fun bt145 => ((frame_Get.f k bt145.1).bind fun bt149 => (if (bt145.1.length : Int) = 7 then (if 0 < (bt145.1.length : Int) then (if (rd bt145.1 0) = 0 then (if 1 < (bt145.1.length : Int) then (if (rd bt145.1 1) = 1 then (if 2 < (bt145.1.length : Int) then (if (rd bt145.1 2) = 7 then (if bt145.2 = 0 then (if (strOfNums bt149.1).toList = ([7] : List UInt8) then (if bt149.2.1 = 7 then (if bt149.2.2 = 0 then ((frame_Size.f 1).bind fun t157 => (some (t157 == 7))) else (some false)) else (some false)) else (some false)) else (some false)) else (some false)) else (none)) else (some false)) else (none)) else (some false)) else (none)) else (some false)))) = some r := h
  clear h
  obtain ⟨y142, hy142⟩ : ∃ y_ : List Int, y_ = (([7] : List Int)) := ⟨_, rfl⟩
  replace H : ((frame_Put.f ([] : List Int) y142).bind fun bt145 => ((frame_Get.f k bt145.1).bind fun bt149 => (if (bt145.1.length : Int) = 7 then (if 0 < (bt145.1.length : Int) then (if (rd bt145.1 0) = 0 then (if 1 < (bt145.1.length : Int) then (if (rd bt145.1 1) = 1 then (if 2 < (bt145.1.length : Int) then (if (rd bt145.1 2) = 7 then (if bt145.2 = 0 then (if (strOfNums bt149.1).toList = ([7] : List UInt8) then (if bt149.2.1 = 7 then (if bt149.2.2 = 0 then ((frame_Size.f 1).bind fun t157 => (some (t157 == 7))) else (some false)) else (some false)) else (some false)) else (some false)) else (some false)) else (none)) else (some false)) else (none)) else (some false)) else (none)) else (some false)))) = some r := by first | (rw [hy142]; with_reducible exact H) | (have H2_ := (Option.bind_some _ _).symm.trans H; rw [hy142]; with_reducible exact H2_) | (have H2_ := (Option.bind_some _ _).symm.trans H; with_reducible exact H2_) | with_reducible exact H | (rw [hy142]; exact H) | exact H
  have Ny142 := Aside0.mk hy142
  clear hy142
  replace H := Option.bind_eq_some_iff.mp H
  obtain ⟨⟨t145, t148⟩, A10, H⟩ := H
  replace H : ((frame_Get.f k t145).bind fun bt149 => (if (t145.length : Int) = 7 then (if 0 < (t145.length : Int) then (if (rd t145 0) = 0 then (if 1 < (t145.length : Int) then (if (rd t145 1) = 1 then (if 2 < (t145.length : Int) then (if (rd t145 2) = 7 then (if t148 = 0 then (if (strOfNums bt149.1).toList = ([7] : List UInt8) then (if bt149.2.1 = 7 then (if bt149.2.2 = 0 then ((frame_Size.f 1).bind fun t157 => (some (t157 == 7))) else (some false)) else (some false)) else (some false)) else (some false)) else (some false)) else (none)) else (some false)) else (none)) else (some false)) else (none)) else (some false))) = some r := H
  have A1 := Aside0.mk A10
  clear A10
  replace H := Option.bind_eq_some_iff.mp H
  obtain ⟨⟨t149, t150, t151⟩, A20, H⟩ := H
  replace H : (if (t145.length : Int) = 7 then (if 0 < (t145.length : Int) then (if (rd t145 0) = 0 then (if 1 < (t145.length : Int) then (if (rd t145 1) = 1 then (if 2 < (t145.length : Int) then (if (rd t145 2) = 7 then (if t148 = 0 then (if (strOfNums t149).toList = ([7] : List UInt8) then (if t150 = 7 then (if t151 = 0 then ((frame_Size.f 1).bind fun t157 => (some (t157 == 7))) else (some false)) else (some false)) else (some false)) else (some false)) else (some false)) else (none)) else (some false)) else (none)) else (some false)) else (none)) else (some false)) = some r := H
  have A2 := Aside0.mk A20
  clear A20
  by_cases c3 : (t145.length : Int) = 7
  · rw [if_pos c3] at H
    have c3b0 : ((t145.length : Int) == 7) = true := beq_iff_eq.mpr c3
    have c3b1 : ((t145.length : Int) != 7) = false := bne_eq_false_iff_eq.mpr c3
    clear c3
    by_cases c4 : 0 < (t145.length : Int)
    · rw [if_pos c4] at H
      have c4b0 : decide (0 < (t145.length : Int)) = true := decide_eq_true c4
      have c4b1 : decide (0 < t145.length) = true := decide_eq_true (by omega)
      clear c4
      by_cases c5 : (rd t145 0) = 0
      · rw [if_pos c5] at H
        have c5b0 : ((rd t145 0) == 0) = true := beq_iff_eq.mpr c5
        have c5b1 : ((rd t145 0) != 0) = false := bne_eq_false_iff_eq.mpr c5
        clear c5
        by_cases c6 : 1 < (t145.length : Int)
        · rw [if_pos c6] at H
          have c6b0 : decide (1 < (t145.length : Int)) = true := decide_eq_true c6
          have c6b1 : decide (1 < t145.length) = true := decide_eq_true (by omega)
          clear c6
          by_cases c7 : (rd t145 1) = 1
          · rw [if_pos c7] at H
            have c7b0 : ((rd t145 1) == 1) = true := beq_iff_eq.mpr c7
            have c7b1 : ((rd t145 1) != 1) = false := bne_eq_false_iff_eq.mpr c7
            clear c7
            by_cases c8 : 2 < (t145.length : Int)
            · rw [if_pos c8] at H
              have c8b0 : decide (2 < (t145.length : Int)) = true := decide_eq_true c8
              have c8b1 : decide (2 < t145.length) = true := decide_eq_true (by omega)
              clear c8
              by_cases c9 : (rd t145 2) = 7
              · rw [if_pos c9] at H
                have c9b0 : ((rd t145 2) == 7) = true := beq_iff_eq.mpr c9
                have c9b1 : ((rd t145 2) != 7) = false := bne_eq_false_iff_eq.mpr c9
                clear c9
                by_cases c10 : t148 = 0
                · rw [if_pos c10] at H
                  have c10b0 : (t148 == 0) = true := beq_iff_eq.mpr c10
                  have c10b1 : (t148 != 0) = false := bne_eq_false_iff_eq.mpr c10
                  clear c10
                  by_cases c11 : (strOfNums t149).toList = ([7] : List UInt8)
                  · rw [if_pos c11] at H
                    have c11b0 : ((strOfNums t149).toList == ([7] : List UInt8)) = true := beq_iff_eq.mpr c11
                    have c11b1 : ((strOfNums t149).toList != ([7] : List UInt8)) = false := bne_eq_false_iff_eq.mpr c11
                    clear c11
                    by_cases c12 : t150 = 7
                    · rw [if_pos c12] at H
                      have c12b0 : (t150 == 7) = true := beq_iff_eq.mpr c12
                      have c12b1 : (t150 != 7) = false := bne_eq_false_iff_eq.mpr c12
                      clear c12
                      by_cases c13 : t151 = 0
                      · rw [if_pos c13] at H
                        have c13b0 : (t151 == 0) = true := beq_iff_eq.mpr c13
                        have c13b1 : (t151 != 0) = false := bne_eq_false_iff_eq.mpr c13
                        clear c13
                        replace H := Option.bind_eq_some_iff.mp H
                        obtain ⟨t157, A140, H⟩ := H
                        replace H : (some (t157 == 7)) = some r := H
                        have A14 := Aside0.mk A140
                        clear A140
                        obtain rfl := Option.some.inj H
                        go_enter Try.func60, Try.ntmps60
                        go_wp2_with (first | ((with_reducible refine gate_dst (N := 7) rfl ?_); refine Kd.R_lit (Kd.int .u8) _ 5 ?hg (N := 7) ?hd (xs := ([7] : List Int)) (inner := [.int .u8 7]) (ok := fun _ => True) (okp := fun _ => True) ?hr ?hp (fun _ hk => hk) trivial (Below.refl _ _) (Nat.le_refl _) (by simp) ?_; (case hd => rfl); (case hg => rfl); (case hr => first | (go_simp; done) | (go_simp; rfl)); (case hp => exact (Reps.one (show Kd.M (Kd.int .u8) _ _ _ 7 [.int .u8 7] from rfl) (Reps.none _ _))); intro v143 w15 ho16 hb hg_ hnew_; clear hg_ hnew_; (first | rw [← Ny142.out] at ho16 | (simp only [Int.reduceToNat] at ho16; rw [← Ny142.out] at ho16)); have n0_ := Aside0.mk (Kd.R_lower ho16 (below_size (by repeat (first | (with_reducible first | exact HB.out | apply below_alloc | apply pw_below_drewN | apply below_drew1) | exact HB.out)))); have n1_ := Aside0.mk (below_step (by repeat (first | (with_reducible first | exact HB.out | apply below_alloc | apply pw_below_drewN | apply below_drew1) | exact HB.out)) hb); clear HB; have HO144 := n0_; have HB := n1_; clear n0_ n1_; clear hb ho16; obtain ⟨Ao17, co17, eo17⟩ := Kd.R_slice HO144.out; subst eo17) | ((with_reducible refine gate_callee (f := 62) rfl ?_); refine goesL_ (some 8) rfl rfl Try.func62 (by kernel_rfl) rfl #[.slice none 0 0, .slice Ao17 y142.length co17] rfl (by (try simp only [List.map_toArray, List.map_cons, List.map_nil]); first | done | rfl | (simp only [List.length_drop, List.length_take]; rfl)) ?_; (refine (frame_Put.calls (fun k_ => False) _ _ ([] : List Int) (fun k_ => some k_ = (.slice Ao17 y142.length co17 : Value).ownBlock) _ _ y142 t145 t148 _ ?side1 ?side2 A1.out).mono ?_); (case side1 => exact Kd.V_nil _ _ _ _ _); (case side2 => exact Kd.R_V (Kd.R_tight rfl (HO144.out))); rintro e w18 ⟨v146, rfl, ho0, hb⟩; refine ⟨_, rfl, ?_⟩; have n0_ := Aside0.mk (Kd.R_below (by (with_reducible repeat (first | apply Kd.R_alloc | apply Kd.R_drewN | apply Kd.R_drew)); exact HO144.out) hb); have n1_ := Aside0.mk (Kd.V_lower (Kd.V_mono (ok' := fun k_ => True) ho0 (fun k_ hk_ => trivial)) (below_size (by repeat (first | (with_reducible first | exact HB.out | apply below_alloc | apply pw_below_drewN | apply below_drew1) | exact HB.out)))); have n2_ := Aside0.mk (below_step (by repeat (first | (with_reducible first | exact HB.out | apply below_alloc | apply pw_below_drewN | apply below_drew1) | exact HB.out)) hb); clear HO144; clear HB; have HO144 := n0_; have HO147 := n1_; have HB := n2_; clear n0_ n1_ n2_; (try clear hb); (try clear hb2); (try clear hk); (try clear hi); (try clear ho0); obtain ⟨Ao19, co19, eo19⟩ := Kd.V_slice HO147.out; subst eo19) | ((with_reducible refine gate_callee (f := 65) rfl ?_); refine goesL_ (some 13) rfl rfl Try.func65 (by kernel_rfl) rfl #[.slice Ao19 t145.length co19] rfl (by (try simp only [List.map_toArray, List.map_cons, List.map_nil]); first | done | rfl | (simp only [List.length_drop, List.length_take]; rfl)) ?_; (with_reducible refine (frame_Get.calls k _ _ t145 t149 t150 t151 _ ?side1 ?side2 A2.out).mono ?_); (case side1 => repeat (first | exact (Kd.V_reads' HO147.out).2.2 | (with_reducible refine Kd.C_alloc ?_ _) | (with_reducible refine Kd.C_drewN ?_ _) | (with_reducible refine Kd.C_drew ?_))); (case side2 => exact (Kd.V_reads' HO147.out).2.1); rintro e w20 ⟨v152, rfl, ho0, hb⟩; refine ⟨_, rfl, ?_⟩; have n0_ := Aside0.mk (Kd.R_elder' (by (with_reducible repeat (first | apply Kd.R_alloc | apply Kd.R_drewN | apply Kd.R_drew)); exact HO144.out) (Kd.R_base ho0) hb); have n1_ := Aside0.mk (Kd.V_elder' (by (with_reducible repeat (first | apply Kd.V_alloc | apply Kd.V_drewN | apply Kd.V_drew)); exact HO147.out) (Kd.R_base ho0) hb); have n2_ := Aside0.mk (Kd.R_lower (Kd.R_new' ho0 (Kd.R_lt (by (with_reducible repeat (first | apply Kd.R_alloc | apply Kd.R_drewN | apply Kd.R_drew)); exact HO144.out))) (below_size (by repeat (first | (with_reducible first | exact HB.out | apply below_alloc | apply pw_below_drewN | apply below_drew1) | exact HB.out)))); have n3_ := Aside0.mk (below_step (by repeat (first | (with_reducible first | exact HB.out | apply below_alloc | apply pw_below_drewN | apply below_drew1) | exact HB.out)) hb); clear HO144; clear HO147; clear HB; have HO144 := n0_; have HO147 := n1_; have HO153 := n2_; have HB := n3_; clear n0_ n1_ n2_ n3_; (try clear hb); (try clear hb2); (try clear hk); (try clear hi); (try clear ho0); have p154 : 0 ≤ (0 : Int) := (by omega); have q154 : 0 < (t145.length : Int) := of_decide_eq_true (by first | (with_reducible assumption) | assumption); obtain ⟨ad154, e154, hx154_0⟩ := Kd.at_int (Kd.V_reads' HO147.out).2.2 0 p154 q154; cases e154; have qi154 : (0 < t145.length) = True := eq_true (by omega); (try rw [show ((0 : Int)).toNat = 0 from rfl] at hx154_0); (try rw [Addr.add_zero'] at hx154_0); replace p154 := eq_true p154; replace q154 := eq_true q154; have p155 : 0 ≤ (1 : Int) := (by omega); have q155 : 1 < (t145.length : Int) := of_decide_eq_true (by first | (with_reducible assumption) | assumption); obtain ⟨ad155, e155, hx155_0⟩ := Kd.at_int (Kd.V_reads' HO147.out).2.2 1 p155 q155; obtain rfl : ad154 = ad155 := (by injection e155); (try simp only [show (1 : Int).toNat = 1 from rfl, Nat.reduceMul, Nat.reduceEqDiff, Go.Addr.add, ↓reduceIte] at hx155_0); have qi155 : (1 < t145.length) = True := eq_true (by omega); (try rw [show ((1 : Int)).toNat = 1 from rfl] at hx155_0); replace p155 := eq_true p155; replace q155 := eq_true q155; have p156 : 0 ≤ (2 : Int) := (by omega); have q156 : 2 < (t145.length : Int) := of_decide_eq_true (by first | (with_reducible assumption) | assumption); obtain ⟨ad156, e156, hx156_0⟩ := Kd.at_int (Kd.V_reads' HO147.out).2.2 2 p156 q156; obtain rfl : ad154 = ad156 := (by injection e156); (try simp only [show (2 : Int).toNat = 2 from rfl, Nat.reduceMul, Nat.reduceEqDiff, Go.Addr.add, ↓reduceIte] at hx156_0); have qi156 : (2 < t145.length) = True := eq_true (by omega); (try rw [show ((2 : Int)).toNat = 2 from rfl] at hx156_0); replace p156 := eq_true p156; replace q156 := eq_true q156; have hcv21 := own_string (P := Try.prog) Try.underlying22 Try.underlying5 Try.underlying9 (Kd.own_of_R HO153.out)) | (go_at_call 64; (with_reducible refine (frame_Size.calls 1 t157 _ A14.out).mono ?_); rintro e w' ⟨rfl, ⟨nd, rfl⟩⟩))
                        go_ret
                        exact ⟨by first | rfl | (simp [errW_none, errW_some] <;> rfl) | (simp [*, errW_none, errW_some] <;> rfl), by repeat (first | (with_reducible first | exact HB.out | apply below_alloc | apply pw_below_drewN | apply below_drew1) | exact HB.out)⟩
                      · rw [if_neg c13] at H
                        have c13b0 : (t151 == 0) = false := beq_eq_false_iff_ne.mpr c13
                        have c13b1 : (t151 != 0) = true := bne_iff_ne.mpr c13
                        obtain rfl := Option.some.inj H
                        go_enter Try.func60, Try.ntmps60
                        go_wp2_with (first | ((with_reducible refine gate_dst (N := 7) rfl ?_); refine Kd.R_lit (Kd.int .u8) _ 5 ?hg (N := 7) ?hd (xs := ([7] : List Int)) (inner := [.int .u8 7]) (ok := fun _ => True) (okp := fun _ => True) ?hr ?hp (fun _ hk => hk) trivial (Below.refl _ _) (Nat.le_refl _) (by simp) ?_; (case hd => rfl); (case hg => rfl); (case hr => first | (go_simp; done) | (go_simp; rfl)); (case hp => exact (Reps.one (show Kd.M (Kd.int .u8) _ _ _ 7 [.int .u8 7] from rfl) (Reps.none _ _))); intro v143 w22 ho23 hb hg_ hnew_; clear hg_ hnew_; (first | rw [← Ny142.out] at ho23 | (simp only [Int.reduceToNat] at ho23; rw [← Ny142.out] at ho23)); have n0_ := Aside0.mk (Kd.R_lower ho23 (below_size (by repeat (first | (with_reducible first | exact HB.out | apply below_alloc | apply pw_below_drewN | apply below_drew1) | exact HB.out)))); have n1_ := Aside0.mk (below_step (by repeat (first | (with_reducible first | exact HB.out | apply below_alloc | apply pw_below_drewN | apply below_drew1) | exact HB.out)) hb); clear HB; have HO144 := n0_; have HB := n1_; clear n0_ n1_; clear hb ho23; obtain ⟨Ao24, co24, eo24⟩ := Kd.R_slice HO144.out; subst eo24) | ((with_reducible refine gate_callee (f := 62) rfl ?_); refine goesL_ (some 8) rfl rfl Try.func62 (by kernel_rfl) rfl #[.slice none 0 0, .slice Ao24 y142.length co24] rfl (by (try simp only [List.map_toArray, List.map_cons, List.map_nil]); first | done | rfl | (simp only [List.length_drop, List.length_take]; rfl)) ?_; (refine (frame_Put.calls (fun k_ => False) _ _ ([] : List Int) (fun k_ => some k_ = (.slice Ao24 y142.length co24 : Value).ownBlock) _ _ y142 t145 t148 _ ?side1 ?side2 A1.out).mono ?_); (case side1 => exact Kd.V_nil _ _ _ _ _); (case side2 => exact Kd.R_V (Kd.R_tight rfl (HO144.out))); rintro e w25 ⟨v146, rfl, ho0, hb⟩; refine ⟨_, rfl, ?_⟩; have n0_ := Aside0.mk (Kd.R_below (by (with_reducible repeat (first | apply Kd.R_alloc | apply Kd.R_drewN | apply Kd.R_drew)); exact HO144.out) hb); have n1_ := Aside0.mk (Kd.V_lower (Kd.V_mono (ok' := fun k_ => True) ho0 (fun k_ hk_ => trivial)) (below_size (by repeat (first | (with_reducible first | exact HB.out | apply below_alloc | apply pw_below_drewN | apply below_drew1) | exact HB.out)))); have n2_ := Aside0.mk (below_step (by repeat (first | (with_reducible first | exact HB.out | apply below_alloc | apply pw_below_drewN | apply below_drew1) | exact HB.out)) hb); clear HO144; clear HB; have HO144 := n0_; have HO147 := n1_; have HB := n2_; clear n0_ n1_ n2_; (try clear hb); (try clear hb2); (try clear hk); (try clear hi); (try clear ho0); obtain ⟨Ao26, co26, eo26⟩ := Kd.V_slice HO147.out; subst eo26) | ((with_reducible refine gate_callee (f := 65) rfl ?_); refine goesL_ (some 13) rfl rfl Try.func65 (by kernel_rfl) rfl #[.slice Ao26 t145.length co26] rfl (by (try simp only [List.map_toArray, List.map_cons, List.map_nil]); first | done | rfl | (simp only [List.length_drop, List.length_take]; rfl)) ?_; (with_reducible refine (frame_Get.calls k _ _ t145 t149 t150 t151 _ ?side1 ?side2 A2.out).mono ?_); (case side1 => repeat (first | exact (Kd.V_reads' HO147.out).2.2 | (with_reducible refine Kd.C_alloc ?_ _) | (with_reducible refine Kd.C_drewN ?_ _) | (with_reducible refine Kd.C_drew ?_))); (case side2 => exact (Kd.V_reads' HO147.out).2.1); rintro e w27 ⟨v152, rfl, ho0, hb⟩; refine ⟨_, rfl, ?_⟩; have n0_ := Aside0.mk (Kd.R_elder' (by (with_reducible repeat (first | apply Kd.R_alloc | apply Kd.R_drewN | apply Kd.R_drew)); exact HO144.out) (Kd.R_base ho0) hb); have n1_ := Aside0.mk (Kd.V_elder' (by (with_reducible repeat (first | apply Kd.V_alloc | apply Kd.V_drewN | apply Kd.V_drew)); exact HO147.out) (Kd.R_base ho0) hb); have n2_ := Aside0.mk (Kd.R_lower (Kd.R_new' ho0 (Kd.R_lt (by (with_reducible repeat (first | apply Kd.R_alloc | apply Kd.R_drewN | apply Kd.R_drew)); exact HO144.out))) (below_size (by repeat (first | (with_reducible first | exact HB.out | apply below_alloc | apply pw_below_drewN | apply below_drew1) | exact HB.out)))); have n3_ := Aside0.mk (below_step (by repeat (first | (with_reducible first | exact HB.out | apply below_alloc | apply pw_below_drewN | apply below_drew1) | exact HB.out)) hb); clear HO144; clear HO147; clear HB; have HO144 := n0_; have HO147 := n1_; have HO153 := n2_; have HB := n3_; clear n0_ n1_ n2_ n3_; (try clear hb); (try clear hb2); (try clear hk); (try clear hi); (try clear ho0); have p154 : 0 ≤ (0 : Int) := (by omega); have q154 : 0 < (t145.length : Int) := of_decide_eq_true (by first | (with_reducible assumption) | assumption); obtain ⟨ad154, e154, hx154_0⟩ := Kd.at_int (Kd.V_reads' HO147.out).2.2 0 p154 q154; cases e154; have qi154 : (0 < t145.length) = True := eq_true (by omega); (try rw [show ((0 : Int)).toNat = 0 from rfl] at hx154_0); (try rw [Addr.add_zero'] at hx154_0); replace p154 := eq_true p154; replace q154 := eq_true q154; have p155 : 0 ≤ (1 : Int) := (by omega); have q155 : 1 < (t145.length : Int) := of_decide_eq_true (by first | (with_reducible assumption) | assumption); obtain ⟨ad155, e155, hx155_0⟩ := Kd.at_int (Kd.V_reads' HO147.out).2.2 1 p155 q155; obtain rfl : ad154 = ad155 := (by injection e155); (try simp only [show (1 : Int).toNat = 1 from rfl, Nat.reduceMul, Nat.reduceEqDiff, Go.Addr.add, ↓reduceIte] at hx155_0); have qi155 : (1 < t145.length) = True := eq_true (by omega); (try rw [show ((1 : Int)).toNat = 1 from rfl] at hx155_0); replace p155 := eq_true p155; replace q155 := eq_true q155; have p156 : 0 ≤ (2 : Int) := (by omega); have q156 : 2 < (t145.length : Int) := of_decide_eq_true (by first | (with_reducible assumption) | assumption); obtain ⟨ad156, e156, hx156_0⟩ := Kd.at_int (Kd.V_reads' HO147.out).2.2 2 p156 q156; obtain rfl : ad154 = ad156 := (by injection e156); (try simp only [show (2 : Int).toNat = 2 from rfl, Nat.reduceMul, Nat.reduceEqDiff, Go.Addr.add, ↓reduceIte] at hx156_0); have qi156 : (2 < t145.length) = True := eq_true (by omega); (try rw [show ((2 : Int)).toNat = 2 from rfl] at hx156_0); replace p156 := eq_true p156; replace q156 := eq_true q156; have hcv28 := own_string (P := Try.prog) Try.underlying22 Try.underlying5 Try.underlying9 (Kd.own_of_R HO153.out)))
                        go_ret
                        exact ⟨by first | rfl | (simp [errW_none, errW_some] <;> rfl) | (simp [*, errW_none, errW_some] <;> rfl), by repeat (first | (with_reducible first | exact HB.out | apply below_alloc | apply pw_below_drewN | apply below_drew1) | exact HB.out)⟩
                    · rw [if_neg c12] at H
                      have c12b0 : (t150 == 7) = false := beq_eq_false_iff_ne.mpr c12
                      have c12b1 : (t150 != 7) = true := bne_iff_ne.mpr c12
                      obtain rfl := Option.some.inj H
                      go_enter Try.func60, Try.ntmps60
                      go_wp2_with (first | ((with_reducible refine gate_dst (N := 7) rfl ?_); refine Kd.R_lit (Kd.int .u8) _ 5 ?hg (N := 7) ?hd (xs := ([7] : List Int)) (inner := [.int .u8 7]) (ok := fun _ => True) (okp := fun _ => True) ?hr ?hp (fun _ hk => hk) trivial (Below.refl _ _) (Nat.le_refl _) (by simp) ?_; (case hd => rfl); (case hg => rfl); (case hr => first | (go_simp; done) | (go_simp; rfl)); (case hp => exact (Reps.one (show Kd.M (Kd.int .u8) _ _ _ 7 [.int .u8 7] from rfl) (Reps.none _ _))); intro v143 w29 ho30 hb hg_ hnew_; clear hg_ hnew_; (first | rw [← Ny142.out] at ho30 | (simp only [Int.reduceToNat] at ho30; rw [← Ny142.out] at ho30)); have n0_ := Aside0.mk (Kd.R_lower ho30 (below_size (by repeat (first | (with_reducible first | exact HB.out | apply below_alloc | apply pw_below_drewN | apply below_drew1) | exact HB.out)))); have n1_ := Aside0.mk (below_step (by repeat (first | (with_reducible first | exact HB.out | apply below_alloc | apply pw_below_drewN | apply below_drew1) | exact HB.out)) hb); clear HB; have HO144 := n0_; have HB := n1_; clear n0_ n1_; clear hb ho30; obtain ⟨Ao31, co31, eo31⟩ := Kd.R_slice HO144.out; subst eo31) | ((with_reducible refine gate_callee (f := 62) rfl ?_); refine goesL_ (some 8) rfl rfl Try.func62 (by kernel_rfl) rfl #[.slice none 0 0, .slice Ao31 y142.length co31] rfl (by (try simp only [List.map_toArray, List.map_cons, List.map_nil]); first | done | rfl | (simp only [List.length_drop, List.length_take]; rfl)) ?_; (refine (frame_Put.calls (fun k_ => False) _ _ ([] : List Int) (fun k_ => some k_ = (.slice Ao31 y142.length co31 : Value).ownBlock) _ _ y142 t145 t148 _ ?side1 ?side2 A1.out).mono ?_); (case side1 => exact Kd.V_nil _ _ _ _ _); (case side2 => exact Kd.R_V (Kd.R_tight rfl (HO144.out))); rintro e w32 ⟨v146, rfl, ho0, hb⟩; refine ⟨_, rfl, ?_⟩; have n0_ := Aside0.mk (Kd.R_below (by (with_reducible repeat (first | apply Kd.R_alloc | apply Kd.R_drewN | apply Kd.R_drew)); exact HO144.out) hb); have n1_ := Aside0.mk (Kd.V_lower (Kd.V_mono (ok' := fun k_ => True) ho0 (fun k_ hk_ => trivial)) (below_size (by repeat (first | (with_reducible first | exact HB.out | apply below_alloc | apply pw_below_drewN | apply below_drew1) | exact HB.out)))); have n2_ := Aside0.mk (below_step (by repeat (first | (with_reducible first | exact HB.out | apply below_alloc | apply pw_below_drewN | apply below_drew1) | exact HB.out)) hb); clear HO144; clear HB; have HO144 := n0_; have HO147 := n1_; have HB := n2_; clear n0_ n1_ n2_; (try clear hb); (try clear hb2); (try clear hk); (try clear hi); (try clear ho0); obtain ⟨Ao33, co33, eo33⟩ := Kd.V_slice HO147.out; subst eo33) | ((with_reducible refine gate_callee (f := 65) rfl ?_); refine goesL_ (some 13) rfl rfl Try.func65 (by kernel_rfl) rfl #[.slice Ao33 t145.length co33] rfl (by (try simp only [List.map_toArray, List.map_cons, List.map_nil]); first | done | rfl | (simp only [List.length_drop, List.length_take]; rfl)) ?_; (with_reducible refine (frame_Get.calls k _ _ t145 t149 t150 t151 _ ?side1 ?side2 A2.out).mono ?_); (case side1 => repeat (first | exact (Kd.V_reads' HO147.out).2.2 | (with_reducible refine Kd.C_alloc ?_ _) | (with_reducible refine Kd.C_drewN ?_ _) | (with_reducible refine Kd.C_drew ?_))); (case side2 => exact (Kd.V_reads' HO147.out).2.1); rintro e w34 ⟨v152, rfl, ho0, hb⟩; refine ⟨_, rfl, ?_⟩; have n0_ := Aside0.mk (Kd.R_elder' (by (with_reducible repeat (first | apply Kd.R_alloc | apply Kd.R_drewN | apply Kd.R_drew)); exact HO144.out) (Kd.R_base ho0) hb); have n1_ := Aside0.mk (Kd.V_elder' (by (with_reducible repeat (first | apply Kd.V_alloc | apply Kd.V_drewN | apply Kd.V_drew)); exact HO147.out) (Kd.R_base ho0) hb); have n2_ := Aside0.mk (Kd.R_lower (Kd.R_new' ho0 (Kd.R_lt (by (with_reducible repeat (first | apply Kd.R_alloc | apply Kd.R_drewN | apply Kd.R_drew)); exact HO144.out))) (below_size (by repeat (first | (with_reducible first | exact HB.out | apply below_alloc | apply pw_below_drewN | apply below_drew1) | exact HB.out)))); have n3_ := Aside0.mk (below_step (by repeat (first | (with_reducible first | exact HB.out | apply below_alloc | apply pw_below_drewN | apply below_drew1) | exact HB.out)) hb); clear HO144; clear HO147; clear HB; have HO144 := n0_; have HO147 := n1_; have HO153 := n2_; have HB := n3_; clear n0_ n1_ n2_ n3_; (try clear hb); (try clear hb2); (try clear hk); (try clear hi); (try clear ho0); have p154 : 0 ≤ (0 : Int) := (by omega); have q154 : 0 < (t145.length : Int) := of_decide_eq_true (by first | (with_reducible assumption) | assumption); obtain ⟨ad154, e154, hx154_0⟩ := Kd.at_int (Kd.V_reads' HO147.out).2.2 0 p154 q154; cases e154; have qi154 : (0 < t145.length) = True := eq_true (by omega); (try rw [show ((0 : Int)).toNat = 0 from rfl] at hx154_0); (try rw [Addr.add_zero'] at hx154_0); replace p154 := eq_true p154; replace q154 := eq_true q154; have p155 : 0 ≤ (1 : Int) := (by omega); have q155 : 1 < (t145.length : Int) := of_decide_eq_true (by first | (with_reducible assumption) | assumption); obtain ⟨ad155, e155, hx155_0⟩ := Kd.at_int (Kd.V_reads' HO147.out).2.2 1 p155 q155; obtain rfl : ad154 = ad155 := (by injection e155); (try simp only [show (1 : Int).toNat = 1 from rfl, Nat.reduceMul, Nat.reduceEqDiff, Go.Addr.add, ↓reduceIte] at hx155_0); have qi155 : (1 < t145.length) = True := eq_true (by omega); (try rw [show ((1 : Int)).toNat = 1 from rfl] at hx155_0); replace p155 := eq_true p155; replace q155 := eq_true q155; have p156 : 0 ≤ (2 : Int) := (by omega); have q156 : 2 < (t145.length : Int) := of_decide_eq_true (by first | (with_reducible assumption) | assumption); obtain ⟨ad156, e156, hx156_0⟩ := Kd.at_int (Kd.V_reads' HO147.out).2.2 2 p156 q156; obtain rfl : ad154 = ad156 := (by injection e156); (try simp only [show (2 : Int).toNat = 2 from rfl, Nat.reduceMul, Nat.reduceEqDiff, Go.Addr.add, ↓reduceIte] at hx156_0); have qi156 : (2 < t145.length) = True := eq_true (by omega); (try rw [show ((2 : Int)).toNat = 2 from rfl] at hx156_0); replace p156 := eq_true p156; replace q156 := eq_true q156; have hcv35 := own_string (P := Try.prog) Try.underlying22 Try.underlying5 Try.underlying9 (Kd.own_of_R HO153.out)))
                      go_ret
                      exact ⟨by first | rfl | (simp [errW_none, errW_some] <;> rfl) | (simp [*, errW_none, errW_some] <;> rfl), by repeat (first | (with_reducible first | exact HB.out | apply below_alloc | apply pw_below_drewN | apply below_drew1) | exact HB.out)⟩
                  · rw [if_neg c11] at H
                    have c11b0 : ((strOfNums t149).toList == ([7] : List UInt8)) = false := beq_eq_false_iff_ne.mpr c11
                    have c11b1 : ((strOfNums t149).toList != ([7] : List UInt8)) = true := bne_iff_ne.mpr c11
                    obtain rfl := Option.some.inj H
                    go_enter Try.func60, Try.ntmps60
                    go_wp2_with (first | ((with_reducible refine gate_dst (N := 7) rfl ?_); refine Kd.R_lit (Kd.int .u8) _ 5 ?hg (N := 7) ?hd (xs := ([7] : List Int)) (inner := [.int .u8 7]) (ok := fun _ => True) (okp := fun _ => True) ?hr ?hp (fun _ hk => hk) trivial (Below.refl _ _) (Nat.le_refl _) (by simp) ?_; (case hd => rfl); (case hg => rfl); (case hr => first | (go_simp; done) | (go_simp; rfl)); (case hp => exact (Reps.one (show Kd.M (Kd.int .u8) _ _ _ 7 [.int .u8 7] from rfl) (Reps.none _ _))); intro v143 w36 ho37 hb hg_ hnew_; clear hg_ hnew_; (first | rw [← Ny142.out] at ho37 | (simp only [Int.reduceToNat] at ho37; rw [← Ny142.out] at ho37)); have n0_ := Aside0.mk (Kd.R_lower ho37 (below_size (by repeat (first | (with_reducible first | exact HB.out | apply below_alloc | apply pw_below_drewN | apply below_drew1) | exact HB.out)))); have n1_ := Aside0.mk (below_step (by repeat (first | (with_reducible first | exact HB.out | apply below_alloc | apply pw_below_drewN | apply below_drew1) | exact HB.out)) hb); clear HB; have HO144 := n0_; have HB := n1_; clear n0_ n1_; clear hb ho37; obtain ⟨Ao38, co38, eo38⟩ := Kd.R_slice HO144.out; subst eo38) | ((with_reducible refine gate_callee (f := 62) rfl ?_); refine goesL_ (some 8) rfl rfl Try.func62 (by kernel_rfl) rfl #[.slice none 0 0, .slice Ao38 y142.length co38] rfl (by (try simp only [List.map_toArray, List.map_cons, List.map_nil]); first | done | rfl | (simp only [List.length_drop, List.length_take]; rfl)) ?_; (refine (frame_Put.calls (fun k_ => False) _ _ ([] : List Int) (fun k_ => some k_ = (.slice Ao38 y142.length co38 : Value).ownBlock) _ _ y142 t145 t148 _ ?side1 ?side2 A1.out).mono ?_); (case side1 => exact Kd.V_nil _ _ _ _ _); (case side2 => exact Kd.R_V (Kd.R_tight rfl (HO144.out))); rintro e w39 ⟨v146, rfl, ho0, hb⟩; refine ⟨_, rfl, ?_⟩; have n0_ := Aside0.mk (Kd.R_below (by (with_reducible repeat (first | apply Kd.R_alloc | apply Kd.R_drewN | apply Kd.R_drew)); exact HO144.out) hb); have n1_ := Aside0.mk (Kd.V_lower (Kd.V_mono (ok' := fun k_ => True) ho0 (fun k_ hk_ => trivial)) (below_size (by repeat (first | (with_reducible first | exact HB.out | apply below_alloc | apply pw_below_drewN | apply below_drew1) | exact HB.out)))); have n2_ := Aside0.mk (below_step (by repeat (first | (with_reducible first | exact HB.out | apply below_alloc | apply pw_below_drewN | apply below_drew1) | exact HB.out)) hb); clear HO144; clear HB; have HO144 := n0_; have HO147 := n1_; have HB := n2_; clear n0_ n1_ n2_; (try clear hb); (try clear hb2); (try clear hk); (try clear hi); (try clear ho0); obtain ⟨Ao40, co40, eo40⟩ := Kd.V_slice HO147.out; subst eo40) | ((with_reducible refine gate_callee (f := 65) rfl ?_); refine goesL_ (some 13) rfl rfl Try.func65 (by kernel_rfl) rfl #[.slice Ao40 t145.length co40] rfl (by (try simp only [List.map_toArray, List.map_cons, List.map_nil]); first | done | rfl | (simp only [List.length_drop, List.length_take]; rfl)) ?_; (with_reducible refine (frame_Get.calls k _ _ t145 t149 t150 t151 _ ?side1 ?side2 A2.out).mono ?_); (case side1 => repeat (first | exact (Kd.V_reads' HO147.out).2.2 | (with_reducible refine Kd.C_alloc ?_ _) | (with_reducible refine Kd.C_drewN ?_ _) | (with_reducible refine Kd.C_drew ?_))); (case side2 => exact (Kd.V_reads' HO147.out).2.1); rintro e w41 ⟨v152, rfl, ho0, hb⟩; refine ⟨_, rfl, ?_⟩; have n0_ := Aside0.mk (Kd.R_elder' (by (with_reducible repeat (first | apply Kd.R_alloc | apply Kd.R_drewN | apply Kd.R_drew)); exact HO144.out) (Kd.R_base ho0) hb); have n1_ := Aside0.mk (Kd.V_elder' (by (with_reducible repeat (first | apply Kd.V_alloc | apply Kd.V_drewN | apply Kd.V_drew)); exact HO147.out) (Kd.R_base ho0) hb); have n2_ := Aside0.mk (Kd.R_lower (Kd.R_new' ho0 (Kd.R_lt (by (with_reducible repeat (first | apply Kd.R_alloc | apply Kd.R_drewN | apply Kd.R_drew)); exact HO144.out))) (below_size (by repeat (first | (with_reducible first | exact HB.out | apply below_alloc | apply pw_below_drewN | apply below_drew1) | exact HB.out)))); have n3_ := Aside0.mk (below_step (by repeat (first | (with_reducible first | exact HB.out | apply below_alloc | apply pw_below_drewN | apply below_drew1) | exact HB.out)) hb); clear HO144; clear HO147; clear HB; have HO144 := n0_; have HO147 := n1_; have HO153 := n2_; have HB := n3_; clear n0_ n1_ n2_ n3_; (try clear hb); (try clear hb2); (try clear hk); (try clear hi); (try clear ho0); have p154 : 0 ≤ (0 : Int) := (by omega); have q154 : 0 < (t145.length : Int) := of_decide_eq_true (by first | (with_reducible assumption) | assumption); obtain ⟨ad154, e154, hx154_0⟩ := Kd.at_int (Kd.V_reads' HO147.out).2.2 0 p154 q154; cases e154; have qi154 : (0 < t145.length) = True := eq_true (by omega); (try rw [show ((0 : Int)).toNat = 0 from rfl] at hx154_0); (try rw [Addr.add_zero'] at hx154_0); replace p154 := eq_true p154; replace q154 := eq_true q154; have p155 : 0 ≤ (1 : Int) := (by omega); have q155 : 1 < (t145.length : Int) := of_decide_eq_true (by first | (with_reducible assumption) | assumption); obtain ⟨ad155, e155, hx155_0⟩ := Kd.at_int (Kd.V_reads' HO147.out).2.2 1 p155 q155; obtain rfl : ad154 = ad155 := (by injection e155); (try simp only [show (1 : Int).toNat = 1 from rfl, Nat.reduceMul, Nat.reduceEqDiff, Go.Addr.add, ↓reduceIte] at hx155_0); have qi155 : (1 < t145.length) = True := eq_true (by omega); (try rw [show ((1 : Int)).toNat = 1 from rfl] at hx155_0); replace p155 := eq_true p155; replace q155 := eq_true q155; have p156 : 0 ≤ (2 : Int) := (by omega); have q156 : 2 < (t145.length : Int) := of_decide_eq_true (by first | (with_reducible assumption) | assumption); obtain ⟨ad156, e156, hx156_0⟩ := Kd.at_int (Kd.V_reads' HO147.out).2.2 2 p156 q156; obtain rfl : ad154 = ad156 := (by injection e156); (try simp only [show (2 : Int).toNat = 2 from rfl, Nat.reduceMul, Nat.reduceEqDiff, Go.Addr.add, ↓reduceIte] at hx156_0); have qi156 : (2 < t145.length) = True := eq_true (by omega); (try rw [show ((2 : Int)).toNat = 2 from rfl] at hx156_0); replace p156 := eq_true p156; replace q156 := eq_true q156; have hcv42 := own_string (P := Try.prog) Try.underlying22 Try.underlying5 Try.underlying9 (Kd.own_of_R HO153.out)))
                    go_ret
                    exact ⟨by first | rfl | (simp [errW_none, errW_some] <;> rfl) | (simp [*, errW_none, errW_some] <;> rfl), by repeat (first | (with_reducible first | exact HB.out | apply below_alloc | apply pw_below_drewN | apply below_drew1) | exact HB.out)⟩
                · rw [if_neg c10] at H
                  have c10b0 : (t148 == 0) = false := beq_eq_false_iff_ne.mpr c10
                  have c10b1 : (t148 != 0) = true := bne_iff_ne.mpr c10
                  obtain rfl := Option.some.inj H
                  go_enter Try.func60, Try.ntmps60
                  go_wp2_with (first | ((with_reducible refine gate_dst (N := 7) rfl ?_); refine Kd.R_lit (Kd.int .u8) _ 5 ?hg (N := 7) ?hd (xs := ([7] : List Int)) (inner := [.int .u8 7]) (ok := fun _ => True) (okp := fun _ => True) ?hr ?hp (fun _ hk => hk) trivial (Below.refl _ _) (Nat.le_refl _) (by simp) ?_; (case hd => rfl); (case hg => rfl); (case hr => first | (go_simp; done) | (go_simp; rfl)); (case hp => exact (Reps.one (show Kd.M (Kd.int .u8) _ _ _ 7 [.int .u8 7] from rfl) (Reps.none _ _))); intro v143 w43 ho44 hb hg_ hnew_; clear hg_ hnew_; (first | rw [← Ny142.out] at ho44 | (simp only [Int.reduceToNat] at ho44; rw [← Ny142.out] at ho44)); have n0_ := Aside0.mk (Kd.R_lower ho44 (below_size (by repeat (first | (with_reducible first | exact HB.out | apply below_alloc | apply pw_below_drewN | apply below_drew1) | exact HB.out)))); have n1_ := Aside0.mk (below_step (by repeat (first | (with_reducible first | exact HB.out | apply below_alloc | apply pw_below_drewN | apply below_drew1) | exact HB.out)) hb); clear HB; have HO144 := n0_; have HB := n1_; clear n0_ n1_; clear hb ho44; obtain ⟨Ao45, co45, eo45⟩ := Kd.R_slice HO144.out; subst eo45) | ((with_reducible refine gate_callee (f := 62) rfl ?_); refine goesL_ (some 8) rfl rfl Try.func62 (by kernel_rfl) rfl #[.slice none 0 0, .slice Ao45 y142.length co45] rfl (by (try simp only [List.map_toArray, List.map_cons, List.map_nil]); first | done | rfl | (simp only [List.length_drop, List.length_take]; rfl)) ?_; (refine (frame_Put.calls (fun k_ => False) _ _ ([] : List Int) (fun k_ => some k_ = (.slice Ao45 y142.length co45 : Value).ownBlock) _ _ y142 t145 t148 _ ?side1 ?side2 A1.out).mono ?_); (case side1 => exact Kd.V_nil _ _ _ _ _); (case side2 => exact Kd.R_V (Kd.R_tight rfl (HO144.out))); rintro e w46 ⟨v146, rfl, ho0, hb⟩; refine ⟨_, rfl, ?_⟩; have n0_ := Aside0.mk (Kd.R_below (by (with_reducible repeat (first | apply Kd.R_alloc | apply Kd.R_drewN | apply Kd.R_drew)); exact HO144.out) hb); have n1_ := Aside0.mk (Kd.V_lower (Kd.V_mono (ok' := fun k_ => True) ho0 (fun k_ hk_ => trivial)) (below_size (by repeat (first | (with_reducible first | exact HB.out | apply below_alloc | apply pw_below_drewN | apply below_drew1) | exact HB.out)))); have n2_ := Aside0.mk (below_step (by repeat (first | (with_reducible first | exact HB.out | apply below_alloc | apply pw_below_drewN | apply below_drew1) | exact HB.out)) hb); clear HO144; clear HB; have HO144 := n0_; have HO147 := n1_; have HB := n2_; clear n0_ n1_ n2_; (try clear hb); (try clear hb2); (try clear hk); (try clear hi); (try clear ho0); obtain ⟨Ao47, co47, eo47⟩ := Kd.V_slice HO147.out; subst eo47) | ((with_reducible refine gate_callee (f := 65) rfl ?_); refine goesL_ (some 13) rfl rfl Try.func65 (by kernel_rfl) rfl #[.slice Ao47 t145.length co47] rfl (by (try simp only [List.map_toArray, List.map_cons, List.map_nil]); first | done | rfl | (simp only [List.length_drop, List.length_take]; rfl)) ?_; (with_reducible refine (frame_Get.calls k _ _ t145 t149 t150 t151 _ ?side1 ?side2 A2.out).mono ?_); (case side1 => repeat (first | exact (Kd.V_reads' HO147.out).2.2 | (with_reducible refine Kd.C_alloc ?_ _) | (with_reducible refine Kd.C_drewN ?_ _) | (with_reducible refine Kd.C_drew ?_))); (case side2 => exact (Kd.V_reads' HO147.out).2.1); rintro e w48 ⟨v152, rfl, ho0, hb⟩; refine ⟨_, rfl, ?_⟩; have n0_ := Aside0.mk (Kd.R_elder' (by (with_reducible repeat (first | apply Kd.R_alloc | apply Kd.R_drewN | apply Kd.R_drew)); exact HO144.out) (Kd.R_base ho0) hb); have n1_ := Aside0.mk (Kd.V_elder' (by (with_reducible repeat (first | apply Kd.V_alloc | apply Kd.V_drewN | apply Kd.V_drew)); exact HO147.out) (Kd.R_base ho0) hb); have n2_ := Aside0.mk (Kd.R_lower (Kd.R_new' ho0 (Kd.R_lt (by (with_reducible repeat (first | apply Kd.R_alloc | apply Kd.R_drewN | apply Kd.R_drew)); exact HO144.out))) (below_size (by repeat (first | (with_reducible first | exact HB.out | apply below_alloc | apply pw_below_drewN | apply below_drew1) | exact HB.out)))); have n3_ := Aside0.mk (below_step (by repeat (first | (with_reducible first | exact HB.out | apply below_alloc | apply pw_below_drewN | apply below_drew1) | exact HB.out)) hb); clear HO144; clear HO147; clear HB; have HO144 := n0_; have HO147 := n1_; have HO153 := n2_; have HB := n3_; clear n0_ n1_ n2_ n3_; (try clear hb); (try clear hb2); (try clear hk); (try clear hi); (try clear ho0); have p154 : 0 ≤ (0 : Int) := (by omega); have q154 : 0 < (t145.length : Int) := of_decide_eq_true (by first | (with_reducible assumption) | assumption); obtain ⟨ad154, e154, hx154_0⟩ := Kd.at_int (Kd.V_reads' HO147.out).2.2 0 p154 q154; cases e154; have qi154 : (0 < t145.length) = True := eq_true (by omega); (try rw [show ((0 : Int)).toNat = 0 from rfl] at hx154_0); (try rw [Addr.add_zero'] at hx154_0); replace p154 := eq_true p154; replace q154 := eq_true q154; have p155 : 0 ≤ (1 : Int) := (by omega); have q155 : 1 < (t145.length : Int) := of_decide_eq_true (by first | (with_reducible assumption) | assumption); obtain ⟨ad155, e155, hx155_0⟩ := Kd.at_int (Kd.V_reads' HO147.out).2.2 1 p155 q155; obtain rfl : ad154 = ad155 := (by injection e155); (try simp only [show (1 : Int).toNat = 1 from rfl, Nat.reduceMul, Nat.reduceEqDiff, Go.Addr.add, ↓reduceIte] at hx155_0); have qi155 : (1 < t145.length) = True := eq_true (by omega); (try rw [show ((1 : Int)).toNat = 1 from rfl] at hx155_0); replace p155 := eq_true p155; replace q155 := eq_true q155; have p156 : 0 ≤ (2 : Int) := (by omega); have q156 : 2 < (t145.length : Int) := of_decide_eq_true (by first | (with_reducible assumption) | assumption); obtain ⟨ad156, e156, hx156_0⟩ := Kd.at_int (Kd.V_reads' HO147.out).2.2 2 p156 q156; obtain rfl : ad154 = ad156 := (by injection e156); (try simp only [show (2 : Int).toNat = 2 from rfl, Nat.reduceMul, Nat.reduceEqDiff, Go.Addr.add, ↓reduceIte] at hx156_0); have qi156 : (2 < t145.length) = True := eq_true (by omega); (try rw [show ((2 : Int)).toNat = 2 from rfl] at hx156_0); replace p156 := eq_true p156; replace q156 := eq_true q156))
                  go_ret
                  exact ⟨by first | rfl | (simp [errW_none, errW_some] <;> rfl) | (simp [*, errW_none, errW_some] <;> rfl), by repeat (first | (with_reducible first | exact HB.out | apply below_alloc | apply pw_below_drewN | apply below_drew1) | exact HB.out)⟩
              · rw [if_neg c9] at H
                have c9b0 : ((rd t145 2) == 7) = false := beq_eq_false_iff_ne.mpr c9
                have c9b1 : ((rd t145 2) != 7) = true := bne_iff_ne.mpr c9
                obtain rfl := Option.some.inj H
                go_enter Try.func60, Try.ntmps60
                go_wp2_with (first | ((with_reducible refine gate_dst (N := 7) rfl ?_); refine Kd.R_lit (Kd.int .u8) _ 5 ?hg (N := 7) ?hd (xs := ([7] : List Int)) (inner := [.int .u8 7]) (ok := fun _ => True) (okp := fun _ => True) ?hr ?hp (fun _ hk => hk) trivial (Below.refl _ _) (Nat.le_refl _) (by simp) ?_; (case hd => rfl); (case hg => rfl); (case hr => first | (go_simp; done) | (go_simp; rfl)); (case hp => exact (Reps.one (show Kd.M (Kd.int .u8) _ _ _ 7 [.int .u8 7] from rfl) (Reps.none _ _))); intro v143 w49 ho50 hb hg_ hnew_; clear hg_ hnew_; (first | rw [← Ny142.out] at ho50 | (simp only [Int.reduceToNat] at ho50; rw [← Ny142.out] at ho50)); have n0_ := Aside0.mk (Kd.R_lower ho50 (below_size (by repeat (first | (with_reducible first | exact HB.out | apply below_alloc | apply pw_below_drewN | apply below_drew1) | exact HB.out)))); have n1_ := Aside0.mk (below_step (by repeat (first | (with_reducible first | exact HB.out | apply below_alloc | apply pw_below_drewN | apply below_drew1) | exact HB.out)) hb); clear HB; have HO144 := n0_; have HB := n1_; clear n0_ n1_; clear hb ho50; obtain ⟨Ao51, co51, eo51⟩ := Kd.R_slice HO144.out; subst eo51) | ((with_reducible refine gate_callee (f := 62) rfl ?_); refine goesL_ (some 8) rfl rfl Try.func62 (by kernel_rfl) rfl #[.slice none 0 0, .slice Ao51 y142.length co51] rfl (by (try simp only [List.map_toArray, List.map_cons, List.map_nil]); first | done | rfl | (simp only [List.length_drop, List.length_take]; rfl)) ?_; (refine (frame_Put.calls (fun k_ => False) _ _ ([] : List Int) (fun k_ => some k_ = (.slice Ao51 y142.length co51 : Value).ownBlock) _ _ y142 t145 t148 _ ?side1 ?side2 A1.out).mono ?_); (case side1 => exact Kd.V_nil _ _ _ _ _); (case side2 => exact Kd.R_V (Kd.R_tight rfl (HO144.out))); rintro e w52 ⟨v146, rfl, ho0, hb⟩; refine ⟨_, rfl, ?_⟩; have n0_ := Aside0.mk (Kd.R_below (by (with_reducible repeat (first | apply Kd.R_alloc | apply Kd.R_drewN | apply Kd.R_drew)); exact HO144.out) hb); have n1_ := Aside0.mk (Kd.V_lower (Kd.V_mono (ok' := fun k_ => True) ho0 (fun k_ hk_ => trivial)) (below_size (by repeat (first | (with_reducible first | exact HB.out | apply below_alloc | apply pw_below_drewN | apply below_drew1) | exact HB.out)))); have n2_ := Aside0.mk (below_step (by repeat (first | (with_reducible first | exact HB.out | apply below_alloc | apply pw_below_drewN | apply below_drew1) | exact HB.out)) hb); clear HO144; clear HB; have HO144 := n0_; have HO147 := n1_; have HB := n2_; clear n0_ n1_ n2_; (try clear hb); (try clear hb2); (try clear hk); (try clear hi); (try clear ho0); obtain ⟨Ao53, co53, eo53⟩ := Kd.V_slice HO147.out; subst eo53) | ((with_reducible refine gate_callee (f := 65) rfl ?_); refine goesL_ (some 13) rfl rfl Try.func65 (by kernel_rfl) rfl #[.slice Ao53 t145.length co53] rfl (by (try simp only [List.map_toArray, List.map_cons, List.map_nil]); first | done | rfl | (simp only [List.length_drop, List.length_take]; rfl)) ?_; (with_reducible refine (frame_Get.calls k _ _ t145 t149 t150 t151 _ ?side1 ?side2 A2.out).mono ?_); (case side1 => repeat (first | exact (Kd.V_reads' HO147.out).2.2 | (with_reducible refine Kd.C_alloc ?_ _) | (with_reducible refine Kd.C_drewN ?_ _) | (with_reducible refine Kd.C_drew ?_))); (case side2 => exact (Kd.V_reads' HO147.out).2.1); rintro e w54 ⟨v152, rfl, ho0, hb⟩; refine ⟨_, rfl, ?_⟩; have n0_ := Aside0.mk (Kd.R_elder' (by (with_reducible repeat (first | apply Kd.R_alloc | apply Kd.R_drewN | apply Kd.R_drew)); exact HO144.out) (Kd.R_base ho0) hb); have n1_ := Aside0.mk (Kd.V_elder' (by (with_reducible repeat (first | apply Kd.V_alloc | apply Kd.V_drewN | apply Kd.V_drew)); exact HO147.out) (Kd.R_base ho0) hb); have n2_ := Aside0.mk (Kd.R_lower (Kd.R_new' ho0 (Kd.R_lt (by (with_reducible repeat (first | apply Kd.R_alloc | apply Kd.R_drewN | apply Kd.R_drew)); exact HO144.out))) (below_size (by repeat (first | (with_reducible first | exact HB.out | apply below_alloc | apply pw_below_drewN | apply below_drew1) | exact HB.out)))); have n3_ := Aside0.mk (below_step (by repeat (first | (with_reducible first | exact HB.out | apply below_alloc | apply pw_below_drewN | apply below_drew1) | exact HB.out)) hb); clear HO144; clear HO147; clear HB; have HO144 := n0_; have HO147 := n1_; have HO153 := n2_; have HB := n3_; clear n0_ n1_ n2_ n3_; (try clear hb); (try clear hb2); (try clear hk); (try clear hi); (try clear ho0); have p154 : 0 ≤ (0 : Int) := (by omega); have q154 : 0 < (t145.length : Int) := of_decide_eq_true (by first | (with_reducible assumption) | assumption); obtain ⟨ad154, e154, hx154_0⟩ := Kd.at_int (Kd.V_reads' HO147.out).2.2 0 p154 q154; cases e154; have qi154 : (0 < t145.length) = True := eq_true (by omega); (try rw [show ((0 : Int)).toNat = 0 from rfl] at hx154_0); (try rw [Addr.add_zero'] at hx154_0); replace p154 := eq_true p154; replace q154 := eq_true q154; have p155 : 0 ≤ (1 : Int) := (by omega); have q155 : 1 < (t145.length : Int) := of_decide_eq_true (by first | (with_reducible assumption) | assumption); obtain ⟨ad155, e155, hx155_0⟩ := Kd.at_int (Kd.V_reads' HO147.out).2.2 1 p155 q155; obtain rfl : ad154 = ad155 := (by injection e155); (try simp only [show (1 : Int).toNat = 1 from rfl, Nat.reduceMul, Nat.reduceEqDiff, Go.Addr.add, ↓reduceIte] at hx155_0); have qi155 : (1 < t145.length) = True := eq_true (by omega); (try rw [show ((1 : Int)).toNat = 1 from rfl] at hx155_0); replace p155 := eq_true p155; replace q155 := eq_true q155; have p156 : 0 ≤ (2 : Int) := (by omega); have q156 : 2 < (t145.length : Int) := of_decide_eq_true (by first | (with_reducible assumption) | assumption); obtain ⟨ad156, e156, hx156_0⟩ := Kd.at_int (Kd.V_reads' HO147.out).2.2 2 p156 q156; obtain rfl : ad154 = ad156 := (by injection e156); (try simp only [show (2 : Int).toNat = 2 from rfl, Nat.reduceMul, Nat.reduceEqDiff, Go.Addr.add, ↓reduceIte] at hx156_0); have qi156 : (2 < t145.length) = True := eq_true (by omega); (try rw [show ((2 : Int)).toNat = 2 from rfl] at hx156_0); replace p156 := eq_true p156; replace q156 := eq_true q156))
                go_ret
                exact ⟨by first | rfl | (simp [errW_none, errW_some] <;> rfl) | (simp [*, errW_none, errW_some] <;> rfl), by repeat (first | (with_reducible first | exact HB.out | apply below_alloc | apply pw_below_drewN | apply below_drew1) | exact HB.out)⟩
            · rw [if_neg c8] at H
              exact absurd H (by simp)
          · rw [if_neg c7] at H
            have c7b0 : ((rd t145 1) == 1) = false := beq_eq_false_iff_ne.mpr c7
            have c7b1 : ((rd t145 1) != 1) = true := bne_iff_ne.mpr c7
            obtain rfl := Option.some.inj H
            go_enter Try.func60, Try.ntmps60
            go_wp2_with (first | ((with_reducible refine gate_dst (N := 7) rfl ?_); refine Kd.R_lit (Kd.int .u8) _ 5 ?hg (N := 7) ?hd (xs := ([7] : List Int)) (inner := [.int .u8 7]) (ok := fun _ => True) (okp := fun _ => True) ?hr ?hp (fun _ hk => hk) trivial (Below.refl _ _) (Nat.le_refl _) (by simp) ?_; (case hd => rfl); (case hg => rfl); (case hr => first | (go_simp; done) | (go_simp; rfl)); (case hp => exact (Reps.one (show Kd.M (Kd.int .u8) _ _ _ 7 [.int .u8 7] from rfl) (Reps.none _ _))); intro v143 w55 ho56 hb hg_ hnew_; clear hg_ hnew_; (first | rw [← Ny142.out] at ho56 | (simp only [Int.reduceToNat] at ho56; rw [← Ny142.out] at ho56)); have n0_ := Aside0.mk (Kd.R_lower ho56 (below_size (by repeat (first | (with_reducible first | exact HB.out | apply below_alloc | apply pw_below_drewN | apply below_drew1) | exact HB.out)))); have n1_ := Aside0.mk (below_step (by repeat (first | (with_reducible first | exact HB.out | apply below_alloc | apply pw_below_drewN | apply below_drew1) | exact HB.out)) hb); clear HB; have HO144 := n0_; have HB := n1_; clear n0_ n1_; clear hb ho56; obtain ⟨Ao57, co57, eo57⟩ := Kd.R_slice HO144.out; subst eo57) | ((with_reducible refine gate_callee (f := 62) rfl ?_); refine goesL_ (some 8) rfl rfl Try.func62 (by kernel_rfl) rfl #[.slice none 0 0, .slice Ao57 y142.length co57] rfl (by (try simp only [List.map_toArray, List.map_cons, List.map_nil]); first | done | rfl | (simp only [List.length_drop, List.length_take]; rfl)) ?_; (refine (frame_Put.calls (fun k_ => False) _ _ ([] : List Int) (fun k_ => some k_ = (.slice Ao57 y142.length co57 : Value).ownBlock) _ _ y142 t145 t148 _ ?side1 ?side2 A1.out).mono ?_); (case side1 => exact Kd.V_nil _ _ _ _ _); (case side2 => exact Kd.R_V (Kd.R_tight rfl (HO144.out))); rintro e w58 ⟨v146, rfl, ho0, hb⟩; refine ⟨_, rfl, ?_⟩; have n0_ := Aside0.mk (Kd.R_below (by (with_reducible repeat (first | apply Kd.R_alloc | apply Kd.R_drewN | apply Kd.R_drew)); exact HO144.out) hb); have n1_ := Aside0.mk (Kd.V_lower (Kd.V_mono (ok' := fun k_ => True) ho0 (fun k_ hk_ => trivial)) (below_size (by repeat (first | (with_reducible first | exact HB.out | apply below_alloc | apply pw_below_drewN | apply below_drew1) | exact HB.out)))); have n2_ := Aside0.mk (below_step (by repeat (first | (with_reducible first | exact HB.out | apply below_alloc | apply pw_below_drewN | apply below_drew1) | exact HB.out)) hb); clear HO144; clear HB; have HO144 := n0_; have HO147 := n1_; have HB := n2_; clear n0_ n1_ n2_; (try clear hb); (try clear hb2); (try clear hk); (try clear hi); (try clear ho0); obtain ⟨Ao59, co59, eo59⟩ := Kd.V_slice HO147.out; subst eo59) | ((with_reducible refine gate_callee (f := 65) rfl ?_); refine goesL_ (some 13) rfl rfl Try.func65 (by kernel_rfl) rfl #[.slice Ao59 t145.length co59] rfl (by (try simp only [List.map_toArray, List.map_cons, List.map_nil]); first | done | rfl | (simp only [List.length_drop, List.length_take]; rfl)) ?_; (with_reducible refine (frame_Get.calls k _ _ t145 t149 t150 t151 _ ?side1 ?side2 A2.out).mono ?_); (case side1 => repeat (first | exact (Kd.V_reads' HO147.out).2.2 | (with_reducible refine Kd.C_alloc ?_ _) | (with_reducible refine Kd.C_drewN ?_ _) | (with_reducible refine Kd.C_drew ?_))); (case side2 => exact (Kd.V_reads' HO147.out).2.1); rintro e w60 ⟨v152, rfl, ho0, hb⟩; refine ⟨_, rfl, ?_⟩; have n0_ := Aside0.mk (Kd.R_elder' (by (with_reducible repeat (first | apply Kd.R_alloc | apply Kd.R_drewN | apply Kd.R_drew)); exact HO144.out) (Kd.R_base ho0) hb); have n1_ := Aside0.mk (Kd.V_elder' (by (with_reducible repeat (first | apply Kd.V_alloc | apply Kd.V_drewN | apply Kd.V_drew)); exact HO147.out) (Kd.R_base ho0) hb); have n2_ := Aside0.mk (Kd.R_lower (Kd.R_new' ho0 (Kd.R_lt (by (with_reducible repeat (first | apply Kd.R_alloc | apply Kd.R_drewN | apply Kd.R_drew)); exact HO144.out))) (below_size (by repeat (first | (with_reducible first | exact HB.out | apply below_alloc | apply pw_below_drewN | apply below_drew1) | exact HB.out)))); have n3_ := Aside0.mk (below_step (by repeat (first | (with_reducible first | exact HB.out | apply below_alloc | apply pw_below_drewN | apply below_drew1) | exact HB.out)) hb); clear HO144; clear HO147; clear HB; have HO144 := n0_; have HO147 := n1_; have HO153 := n2_; have HB := n3_; clear n0_ n1_ n2_ n3_; (try clear hb); (try clear hb2); (try clear hk); (try clear hi); (try clear ho0); have p154 : 0 ≤ (0 : Int) := (by omega); have q154 : 0 < (t145.length : Int) := of_decide_eq_true (by first | (with_reducible assumption) | assumption); obtain ⟨ad154, e154, hx154_0⟩ := Kd.at_int (Kd.V_reads' HO147.out).2.2 0 p154 q154; cases e154; have qi154 : (0 < t145.length) = True := eq_true (by omega); (try rw [show ((0 : Int)).toNat = 0 from rfl] at hx154_0); (try rw [Addr.add_zero'] at hx154_0); replace p154 := eq_true p154; replace q154 := eq_true q154; have p155 : 0 ≤ (1 : Int) := (by omega); have q155 : 1 < (t145.length : Int) := of_decide_eq_true (by first | (with_reducible assumption) | assumption); obtain ⟨ad155, e155, hx155_0⟩ := Kd.at_int (Kd.V_reads' HO147.out).2.2 1 p155 q155; obtain rfl : ad154 = ad155 := (by injection e155); (try simp only [show (1 : Int).toNat = 1 from rfl, Nat.reduceMul, Nat.reduceEqDiff, Go.Addr.add, ↓reduceIte] at hx155_0); have qi155 : (1 < t145.length) = True := eq_true (by omega); (try rw [show ((1 : Int)).toNat = 1 from rfl] at hx155_0); replace p155 := eq_true p155; replace q155 := eq_true q155))
            go_ret
            exact ⟨by first | rfl | (simp [errW_none, errW_some] <;> rfl) | (simp [*, errW_none, errW_some] <;> rfl), by repeat (first | (with_reducible first | exact HB.out | apply below_alloc | apply pw_below_drewN | apply below_drew1) | exact HB.out)⟩
        · rw [if_neg c6] at H
          exact absurd H (by simp)
      · rw [if_neg c5] at H
        have c5b0 : ((rd t145 0) == 0) = false := beq_eq_false_iff_ne.mpr c5
        have c5b1 : ((rd t145 0) != 0) = true := bne_iff_ne.mpr c5
        obtain rfl := Option.some.inj H
        go_enter Try.func60, Try.ntmps60
        go_wp2_with (first | ((with_reducible refine gate_dst (N := 7) rfl ?_); refine Kd.R_lit (Kd.int .u8) _ 5 ?hg (N := 7) ?hd (xs := ([7] : List Int)) (inner := [.int .u8 7]) (ok := fun _ => True) (okp := fun _ => True) ?hr ?hp (fun _ hk => hk) trivial (Below.refl _ _) (Nat.le_refl _) (by simp) ?_; (case hd => rfl); (case hg => rfl); (case hr => first | (go_simp; done) | (go_simp; rfl)); (case hp => exact (Reps.one (show Kd.M (Kd.int .u8) _ _ _ 7 [.int .u8 7] from rfl) (Reps.none _ _))); intro v143 w61 ho62 hb hg_ hnew_; clear hg_ hnew_; (first | rw [← Ny142.out] at ho62 | (simp only [Int.reduceToNat] at ho62; rw [← Ny142.out] at ho62)); have n0_ := Aside0.mk (Kd.R_lower ho62 (below_size (by repeat (first | (with_reducible first | exact HB.out | apply below_alloc | apply pw_below_drewN | apply below_drew1) | exact HB.out)))); have n1_ := Aside0.mk (below_step (by repeat (first | (with_reducible first | exact HB.out | apply below_alloc | apply pw_below_drewN | apply below_drew1) | exact HB.out)) hb); clear HB; have HO144 := n0_; have HB := n1_; clear n0_ n1_; clear hb ho62; obtain ⟨Ao63, co63, eo63⟩ := Kd.R_slice HO144.out; subst eo63) | ((with_reducible refine gate_callee (f := 62) rfl ?_); refine goesL_ (some 8) rfl rfl Try.func62 (by kernel_rfl) rfl #[.slice none 0 0, .slice Ao63 y142.length co63] rfl (by (try simp only [List.map_toArray, List.map_cons, List.map_nil]); first | done | rfl | (simp only [List.length_drop, List.length_take]; rfl)) ?_; (refine (frame_Put.calls (fun k_ => False) _ _ ([] : List Int) (fun k_ => some k_ = (.slice Ao63 y142.length co63 : Value).ownBlock) _ _ y142 t145 t148 _ ?side1 ?side2 A1.out).mono ?_); (case side1 => exact Kd.V_nil _ _ _ _ _); (case side2 => exact Kd.R_V (Kd.R_tight rfl (HO144.out))); rintro e w64 ⟨v146, rfl, ho0, hb⟩; refine ⟨_, rfl, ?_⟩; have n0_ := Aside0.mk (Kd.R_below (by (with_reducible repeat (first | apply Kd.R_alloc | apply Kd.R_drewN | apply Kd.R_drew)); exact HO144.out) hb); have n1_ := Aside0.mk (Kd.V_lower (Kd.V_mono (ok' := fun k_ => True) ho0 (fun k_ hk_ => trivial)) (below_size (by repeat (first | (with_reducible first | exact HB.out | apply below_alloc | apply pw_below_drewN | apply below_drew1) | exact HB.out)))); have n2_ := Aside0.mk (below_step (by repeat (first | (with_reducible first | exact HB.out | apply below_alloc | apply pw_below_drewN | apply below_drew1) | exact HB.out)) hb); clear HO144; clear HB; have HO144 := n0_; have HO147 := n1_; have HB := n2_; clear n0_ n1_ n2_; (try clear hb); (try clear hb2); (try clear hk); (try clear hi); (try clear ho0); obtain ⟨Ao65, co65, eo65⟩ := Kd.V_slice HO147.out; subst eo65) | ((with_reducible refine gate_callee (f := 65) rfl ?_); refine goesL_ (some 13) rfl rfl Try.func65 (by kernel_rfl) rfl #[.slice Ao65 t145.length co65] rfl (by (try simp only [List.map_toArray, List.map_cons, List.map_nil]); first | done | rfl | (simp only [List.length_drop, List.length_take]; rfl)) ?_; (with_reducible refine (frame_Get.calls k _ _ t145 t149 t150 t151 _ ?side1 ?side2 A2.out).mono ?_); (case side1 => repeat (first | exact (Kd.V_reads' HO147.out).2.2 | (with_reducible refine Kd.C_alloc ?_ _) | (with_reducible refine Kd.C_drewN ?_ _) | (with_reducible refine Kd.C_drew ?_))); (case side2 => exact (Kd.V_reads' HO147.out).2.1); rintro e w66 ⟨v152, rfl, ho0, hb⟩; refine ⟨_, rfl, ?_⟩; have n0_ := Aside0.mk (Kd.R_elder' (by (with_reducible repeat (first | apply Kd.R_alloc | apply Kd.R_drewN | apply Kd.R_drew)); exact HO144.out) (Kd.R_base ho0) hb); have n1_ := Aside0.mk (Kd.V_elder' (by (with_reducible repeat (first | apply Kd.V_alloc | apply Kd.V_drewN | apply Kd.V_drew)); exact HO147.out) (Kd.R_base ho0) hb); have n2_ := Aside0.mk (Kd.R_lower (Kd.R_new' ho0 (Kd.R_lt (by (with_reducible repeat (first | apply Kd.R_alloc | apply Kd.R_drewN | apply Kd.R_drew)); exact HO144.out))) (below_size (by repeat (first | (with_reducible first | exact HB.out | apply below_alloc | apply pw_below_drewN | apply below_drew1) | exact HB.out)))); have n3_ := Aside0.mk (below_step (by repeat (first | (with_reducible first | exact HB.out | apply below_alloc | apply pw_below_drewN | apply below_drew1) | exact HB.out)) hb); clear HO144; clear HO147; clear HB; have HO144 := n0_; have HO147 := n1_; have HO153 := n2_; have HB := n3_; clear n0_ n1_ n2_ n3_; (try clear hb); (try clear hb2); (try clear hk); (try clear hi); (try clear ho0); have p154 : 0 ≤ (0 : Int) := (by omega); have q154 : 0 < (t145.length : Int) := of_decide_eq_true (by first | (with_reducible assumption) | assumption); obtain ⟨ad154, e154, hx154_0⟩ := Kd.at_int (Kd.V_reads' HO147.out).2.2 0 p154 q154; cases e154; have qi154 : (0 < t145.length) = True := eq_true (by omega); (try rw [show ((0 : Int)).toNat = 0 from rfl] at hx154_0); (try rw [Addr.add_zero'] at hx154_0); replace p154 := eq_true p154; replace q154 := eq_true q154))
        go_ret
        exact ⟨by first | rfl | (simp [errW_none, errW_some] <;> rfl) | (simp [*, errW_none, errW_some] <;> rfl), by repeat (first | (with_reducible first | exact HB.out | apply below_alloc | apply pw_below_drewN | apply below_drew1) | exact HB.out)⟩
    · rw [if_neg c4] at H
      exact absurd H (by simp)
  · rw [if_neg c3] at H
    have c3b0 : ((t145.length : Int) == 7) = false := beq_eq_false_iff_ne.mpr c3
    have c3b1 : ((t145.length : Int) != 7) = true := bne_iff_ne.mpr c3
    obtain rfl := Option.some.inj H
    go_enter Try.func60, Try.ntmps60
    go_wp2_with (first | ((with_reducible refine gate_dst (N := 7) rfl ?_); refine Kd.R_lit (Kd.int .u8) _ 5 ?hg (N := 7) ?hd (xs := ([7] : List Int)) (inner := [.int .u8 7]) (ok := fun _ => True) (okp := fun _ => True) ?hr ?hp (fun _ hk => hk) trivial (Below.refl _ _) (Nat.le_refl _) (by simp) ?_; (case hd => rfl); (case hg => rfl); (case hr => first | (go_simp; done) | (go_simp; rfl)); (case hp => exact (Reps.one (show Kd.M (Kd.int .u8) _ _ _ 7 [.int .u8 7] from rfl) (Reps.none _ _))); intro v143 w67 ho68 hb hg_ hnew_; clear hg_ hnew_; (first | rw [← Ny142.out] at ho68 | (simp only [Int.reduceToNat] at ho68; rw [← Ny142.out] at ho68)); have n0_ := Aside0.mk (Kd.R_lower ho68 (below_size (by repeat (first | (with_reducible first | exact HB.out | apply below_alloc | apply pw_below_drewN | apply below_drew1) | exact HB.out)))); have n1_ := Aside0.mk (below_step (by repeat (first | (with_reducible first | exact HB.out | apply below_alloc | apply pw_below_drewN | apply below_drew1) | exact HB.out)) hb); clear HB; have HO144 := n0_; have HB := n1_; clear n0_ n1_; clear hb ho68; obtain ⟨Ao69, co69, eo69⟩ := Kd.R_slice HO144.out; subst eo69) | ((with_reducible refine gate_callee (f := 62) rfl ?_); refine goesL_ (some 8) rfl rfl Try.func62 (by kernel_rfl) rfl #[.slice none 0 0, .slice Ao69 y142.length co69] rfl (by (try simp only [List.map_toArray, List.map_cons, List.map_nil]); first | done | rfl | (simp only [List.length_drop, List.length_take]; rfl)) ?_; (refine (frame_Put.calls (fun k_ => False) _ _ ([] : List Int) (fun k_ => some k_ = (.slice Ao69 y142.length co69 : Value).ownBlock) _ _ y142 t145 t148 _ ?side1 ?side2 A1.out).mono ?_); (case side1 => exact Kd.V_nil _ _ _ _ _); (case side2 => exact Kd.R_V (Kd.R_tight rfl (HO144.out))); rintro e w70 ⟨v146, rfl, ho0, hb⟩; refine ⟨_, rfl, ?_⟩; have n0_ := Aside0.mk (Kd.R_below (by (with_reducible repeat (first | apply Kd.R_alloc | apply Kd.R_drewN | apply Kd.R_drew)); exact HO144.out) hb); have n1_ := Aside0.mk (Kd.V_lower (Kd.V_mono (ok' := fun k_ => True) ho0 (fun k_ hk_ => trivial)) (below_size (by repeat (first | (with_reducible first | exact HB.out | apply below_alloc | apply pw_below_drewN | apply below_drew1) | exact HB.out)))); have n2_ := Aside0.mk (below_step (by repeat (first | (with_reducible first | exact HB.out | apply below_alloc | apply pw_below_drewN | apply below_drew1) | exact HB.out)) hb); clear HO144; clear HB; have HO144 := n0_; have HO147 := n1_; have HB := n2_; clear n0_ n1_ n2_; (try clear hb); (try clear hb2); (try clear hk); (try clear hi); (try clear ho0); obtain ⟨Ao71, co71, eo71⟩ := Kd.V_slice HO147.out; subst eo71) | ((with_reducible refine gate_callee (f := 65) rfl ?_); refine goesL_ (some 13) rfl rfl Try.func65 (by kernel_rfl) rfl #[.slice Ao71 t145.length co71] rfl (by (try simp only [List.map_toArray, List.map_cons, List.map_nil]); first | done | rfl | (simp only [List.length_drop, List.length_take]; rfl)) ?_; (with_reducible refine (frame_Get.calls k _ _ t145 t149 t150 t151 _ ?side1 ?side2 A2.out).mono ?_); (case side1 => repeat (first | exact (Kd.V_reads' HO147.out).2.2 | (with_reducible refine Kd.C_alloc ?_ _) | (with_reducible refine Kd.C_drewN ?_ _) | (with_reducible refine Kd.C_drew ?_))); (case side2 => exact (Kd.V_reads' HO147.out).2.1); rintro e w72 ⟨v152, rfl, ho0, hb⟩; refine ⟨_, rfl, ?_⟩; have n0_ := Aside0.mk (Kd.R_elder' (by (with_reducible repeat (first | apply Kd.R_alloc | apply Kd.R_drewN | apply Kd.R_drew)); exact HO144.out) (Kd.R_base ho0) hb); have n1_ := Aside0.mk (Kd.V_elder' (by (with_reducible repeat (first | apply Kd.V_alloc | apply Kd.V_drewN | apply Kd.V_drew)); exact HO147.out) (Kd.R_base ho0) hb); have n2_ := Aside0.mk (Kd.R_lower (Kd.R_new' ho0 (Kd.R_lt (by (with_reducible repeat (first | apply Kd.R_alloc | apply Kd.R_drewN | apply Kd.R_drew)); exact HO144.out))) (below_size (by repeat (first | (with_reducible first | exact HB.out | apply below_alloc | apply pw_below_drewN | apply below_drew1) | exact HB.out)))); have n3_ := Aside0.mk (below_step (by repeat (first | (with_reducible first | exact HB.out | apply below_alloc | apply pw_below_drewN | apply below_drew1) | exact HB.out)) hb); clear HO144; clear HO147; clear HB; have HO144 := n0_; have HO147 := n1_; have HO153 := n2_; have HB := n3_; clear n0_ n1_ n2_ n3_; (try clear hb); (try clear hb2); (try clear hk); (try clear hi); (try clear ho0)))
    go_ret
    exact ⟨by first | rfl | (simp [errW_none, errW_some] <;> rfl) | (simp [*, errW_none, errW_some] <;> rfl), by repeat (first | (with_reducible first | exact HB.out | apply below_alloc | apply pw_below_drewN | apply below_drew1) | exact HB.out)⟩

end Go.Proofs.Ytbcienbnhchdeaa.Print

/- The check of bytes: plain lemmas, for the frames. -/
namespace Go.Proofs.Ytbcienbnhchdeaa.FrameC
open Go.RowKit Go.Proofs.Ytbcienbnhchdeaa.Print Go.Proofs.YtbcienbnhchdeaaW.PrintWords Go.Proofs.YtbcienbnhchdeaaW.PrintLast Go.Proofs.YtbcienbnhchdeaaW.PrintMore Hand CrcM

/-! ### Bytes as numbers -/
theorem okB_iff {l : List Int} : okB l = true ↔ ∀ x ∈ l, 0 ≤ x ∧ x < 256 := by
  unfold okB
  rw [List.all_eq_true]
  simp
theorem okB_wf {l : List Int} (h : ∀ x ∈ l, (Lit.int .u8 x).wf = true) : okB l = true := by
  rw [okB_iff]
  intro x hx
  have h1 := h x hx
  simp only [Lit.wf, Bool.and_eq_true, decide_eq_true_eq] at h1
  have e1 : IntKind.u8.min = 0 := by decide
  have e2 : IntKind.u8.max = 255 := by decide
  omega
theorem okB_append {a b : List Int} : okB (a ++ b) = true ↔ okB a = true ∧ okB b = true := by
  simp only [okB, List.all_append, Bool.and_eq_true]
theorem okB_take {l : List Int} (h : okB l = true) (n : Nat) : okB (l.take n) = true := by
  rw [okB_iff] at h ⊢
  exact fun x hx => h x (List.mem_of_mem_take hx)
theorem okB_drop {l : List Int} (h : okB l = true) (n : Nat) : okB (l.drop n) = true := by
  rw [okB_iff] at h ⊢
  exact fun x hx => h x (List.mem_of_mem_drop hx)
theorem byteL_append (a b : List Int) : byteL (a ++ b) = byteL a ++ byteL b := by simp [byteL]
theorem byteL_len (a : List Int) : (byteL a).length = a.length := by simp [byteL]
theorem byte_inj {x y : Int} (hx : 0 ≤ x ∧ x < 256) (hy : 0 ≤ y ∧ y < 256) (h : UInt8.ofNat x.toNat = UInt8.ofNat y.toNat) : x = y := by
  have h1 := congrArg UInt8.toNat h
  simp only [UInt8.toNat_ofNat'] at h1
  omega
theorem byteL_inj : ∀ {a b : List Int}, okB a = true → okB b = true → byteL a = byteL b → a = b
  | [], [], _, _, _ => rfl
  | [], _ :: _, _, _, h => by simp [byteL] at h
  | _ :: _, [], _, _, h => by simp [byteL] at h
  | x :: a, y :: b, ha, hb, h => by
    simp only [byteL, List.map_cons, List.cons.injEq] at h
    rw [okB_iff] at ha hb
    rw [byte_inj (ha x (by simp)) (hb y (by simp)) h.1, byteL_inj (okB_iff.2 fun z hz => ha z (by simp [hz])) (okB_iff.2 fun z hz => hb z (by simp [hz])) h.2]
theorem str_eq (a b : List Int) : ((strOfNums a).toList = (strOfNums b).toList) ↔ byteL a = byteL b := by
  rw [Lib.strOfNums_toList, Lib.strOfNums_toList]
  rfl
theorem rd_at {l : List Int} {i : Nat} (h : i < l.length) : rd l (i : Int) = l[i]'h := by
  unfold rd
  rw [Int.toNat_natCast, List.getD_eq_getElem?_getD, List.getElem?_eq_getElem h]
  rfl

/-! ### The check -/
/-- The check of bytes, a number. -/
def crcN (l : List Int) : Nat := 4294967295 - fold 4294967295 (byteL l)
theorem crcN_lt (l : List Int) : crcN l < 4294967296 := by unfold crcN; omega
theorem fold_max_lt (l : List UInt8) : fold 4294967295 l < 4294967296 := fold_lt l (by omega)
theorem sum_eq {l : List Int} (hb : okB l = true) (hl : l.length < 140737488355328) : crc_Sum.f l = some ((crcN l : Nat) : Int) := by
  unfold crc_Sum.f crc_More.f
  have h0 : okW 0 = true := by decide
  simp only [h0, hb, hl, if_true, Option.bind_some, Option.some.injEq]
  unfold moreI crcN
  have := fold_max_lt (byteL l)
  have e : 4294967295 - (0 : Int).toNat = 4294967295 := by decide
  rw [e]
  omega
theorem more_eq (a : List Int) {b : List Int} (hb : okB b = true) (hl : b.length < 140737488355328) : crc_More.f ((crcN a : Nat) : Int) b = some ((crcN (a ++ b) : Nat) : Int) := by
  unfold crc_More.f
  have hw : okW ((crcN a : Nat) : Int) = true := by
    have := crcN_lt a
    simp only [okW, Bool.and_eq_true, decide_eq_true_eq]
    omega
  simp only [hw, hb, hl, if_true, Option.some.injEq]
  unfold moreI crcN
  have h1 := fold_max_lt (byteL a)
  have h2 := fold_max_lt (byteL (a ++ b))
  have e : 4294967295 - (((4294967295 - fold 4294967295 (byteL a) : Nat) : Int)).toNat = fold 4294967295 (byteL a) := by omega
  rw [e, ← fold_append, ← byteL_append]
  omega
/-- Four bytes as a number. -/
def rdN (t : List Int) : Int := rd t 0 * 16777216 + rd t 1 * 65536 + rd t 2 * 256 + rd t 3
def bytesN (n : Nat) : List Int := [((n / 16777216 % 256 : Nat) : Int), ((n / 65536 % 256 : Nat) : Int), ((n / 256 % 256 : Nat) : Int), ((n % 256 : Nat) : Int)]
theorem bytes_eq (n : Nat) : crc_Bytes.f (n : Int) = some (bytesN n) := by
  unfold crc_Bytes.f bytesN
  simp
theorem bytesN_ok (n : Nat) : okB (bytesN n) = true := by
  rw [okB_iff]
  intro x hx
  simp only [bytesN, List.mem_cons, List.not_mem_nil, or_false] at hx
  rcases hx with rfl | rfl | rfl | rfl <;> omega
theorem bytesN_len (n : Nat) : (bytesN n).length = 4 := rfl
theorem rdN_bytes {n : Nat} (h : n < 4294967296) : rdN (bytesN n) = n := by
  have e0 : rd (bytesN n) 0 = ((n / 16777216 % 256 : Nat) : Int) := rfl
  have e1 : rd (bytesN n) 1 = ((n / 65536 % 256 : Nat) : Int) := rfl
  have e2 : rd (bytesN n) 2 = ((n / 256 % 256 : Nat) : Int) := rfl
  have e3 : rd (bytesN n) 3 = ((n % 256 : Nat) : Int) := rfl
  unfold rdN
  rw [e0, e1, e2, e3]
  omega
theorem four {t : List Int} (h : t.length = 4) : t = [rd t 0, rd t 1, rd t 2, rd t 3] := by
  match t, h with
  | [a, b, c, d], _ => rfl
theorem bytesN_rd {t : List Int} (hb : okB t = true) (h : t.length = 4) : bytesN (rdN t).toNat = t := by
  match t, h with
  | [a, b, c, d], _ =>
    rw [okB_iff] at hb
    have ha := hb a (by simp)
    have hb' := hb b (by simp)
    have hc := hb c (by simp)
    have hd := hb d (by simp)
    have e : rdN [a, b, c, d] = a * 16777216 + b * 65536 + c * 256 + d := rfl
    rw [e]
    simp only [bytesN, List.cons.injEq, and_true]
    omega
theorem rdN_lt {t : List Int} (hb : okB t = true) (h : t.length = 4) : 0 ≤ rdN t ∧ rdN t < 4294967296 := by
  match t, h with
  | [a, b, c, d], _ =>
    rw [okB_iff] at hb
    have ha := hb a (by simp)
    have hb' := hb b (by simp)
    have hc := hb c (by simp)
    have hd := hb d (by simp)
    have e : rdN [a, b, c, d] = a * 16777216 + b * 65536 + c * 256 + d := rfl
    rw [e]
    omega
theorem rdN_inj {s t : List Int} (hs : okB s = true) (ls : s.length = 4) (ht : okB t = true) (lt : t.length = 4) (h : rdN s = rdN t) : s = t := by
  rw [← bytesN_rd hs ls, ← bytesN_rd ht lt, h]
theorem or_add (a b k : Nat) (h : b < 2 ^ k) : 2 ^ k * a ||| b = 2 ^ k * a + b := (Nat.two_pow_add_eq_or_of_lt h a).symm
theorem bits_or4 {a b c d : Nat} (ha : a < 256) (hb : b < 256) (hc : c < 256) (hd : d < 256) :
    Go.bits .or .u32 (Go.bits .or .u32 (Go.bits .or .u32 ((a * 16777216 : Nat) : Int) ((b * 65536 : Nat) : Int)) ((c * 256 : Nat) : Int)) (d : Int) = ((a * 16777216 + b * 65536 + c * 256 + d : Nat) : Int) := by
  rw [u32_or_nat _ _ (by omega) (by omega)]
  have e1 : a * 16777216 ||| b * 65536 = a * 16777216 + b * 65536 := by
    have := or_add a (b * 65536) 24 (by omega)
    rw [show a * 16777216 = 2 ^ 24 * a by omega]
    exact this
  rw [e1, u32_or_nat _ _ (by omega) (by omega)]
  have e2 : a * 16777216 + b * 65536 ||| c * 256 = a * 16777216 + b * 65536 + c * 256 := by
    have := or_add (a * 256 + b) (c * 256) 16 (by omega)
    rw [show a * 16777216 + b * 65536 = 2 ^ 16 * (a * 256 + b) by omega]
    exact this
  rw [e2, u32_or_nat _ _ (by omega) (by omega)]
  have e3 : a * 16777216 + b * 65536 + c * 256 ||| d = a * 16777216 + b * 65536 + c * 256 + d := by
    have := or_add (a * 65536 + b * 256 + c) d 8 (by omega)
    rw [show a * 16777216 + b * 65536 + c * 256 = 2 ^ 8 * (a * 65536 + b * 256 + c) by omega]
    exact this
  rw [e3]
theorem read_eq {t : List Int} (hb : okB t = true) : crc_Read.f t = some (if t.length = 4 then (rdN t, 0) else (0, 2)) := by
  by_cases h : t.length = 4
  · rw [if_pos h]
    match t, h with
    | [a, b, c, d], _ =>
      rw [okB_iff] at hb
      have ha := hb a (by simp)
      have hb' := hb b (by simp)
      have hc := hb c (by simp)
      have hd := hb d (by simp)
      have e : rdN [a, b, c, d] = a * 16777216 + b * 65536 + c * 256 + d := rfl
      have e0 : rd [a, b, c, d] 0 = a := rfl
      have e1 : rd [a, b, c, d] 1 = b := rfl
      have e2 : rd [a, b, c, d] 2 = c := rfl
      have e3 : rd [a, b, c, d] 3 = d := rfl
      unfold crc_Read.f
      rw [e, e0, e1, e2, e3]
      obtain ⟨a, rfl⟩ := Int.eq_ofNat_of_zero_le ha.1
      obtain ⟨b, rfl⟩ := Int.eq_ofNat_of_zero_le hb'.1
      obtain ⟨c, rfl⟩ := Int.eq_ofNat_of_zero_le hc.1
      obtain ⟨d, rfl⟩ := Int.eq_ofNat_of_zero_le hd.1
      have f0 : ((a : Int) % 4294967296 * 16777216) % 4294967296 = ((a * 16777216 : Nat) : Int) := by omega
      have f1 : ((b : Int) % 4294967296 * 65536) % 4294967296 = ((b * 65536 : Nat) : Int) := by omega
      have f2 : ((c : Int) % 4294967296 * 256) % 4294967296 = ((c * 256 : Nat) : Int) := by omega
      have f3 : ((d : Int) % 4294967296) = (d : Int) := by omega
      rw [f0, f1, f2, f3, bits_or4 (by omega) (by omega) (by omega) (by omega)]
      simp
  · rw [if_neg h]
    unfold crc_Read.f
    rw [if_neg (by omega)]
theorem good_eq {s : List Int} (hb : okB s = true) (hl : s.length < 140737488355328) :
    crc_Good.f s = some (decide (4 ≤ s.length) && decide ((crcN (s.take (s.length - 4)) : Int) = rdN (s.drop (s.length - 4)))) := by
  unfold crc_Good.f
  have hw : wrap64 ((s.length : Int) - 4) = (s.length : Int) - 4 := by unfold wrap64; omega
  rw [hw]
  by_cases h : 4 ≤ s.length
  · rw [if_neg (by omega), if_pos (by omega), if_pos (by omega)]
    have e : ((s.length : Int) - 4).toNat = s.length - 4 := by omega
    rw [e, read_eq (okB_drop hb _), if_pos (by rw [List.length_drop]; omega), sum_eq (okB_take hb _) (by rw [List.length_take]; omega)]
    simp only [Option.bind_some, h, decide_true, Bool.true_and, Option.some.injEq]
    rfl
  · rw [if_pos (by omega)]
    simp [h]
theorem seal_eq {l : List Int} (hb : okB l = true) (hl : l.length < 140737488355000) : crc_Seal.f l = some (l ++ bytesN (crcN l)) := by
  unfold crc_Seal.f
  rw [if_pos hl, sum_eq hb (by omega)]
  simp only [Option.bind_some, bytes_eq, bytesN_len, if_true]
theorem good_seal {l : List Int} (hb : okB l = true) (hl : l.length < 140737488355000) : crc_Good.f (l ++ bytesN (crcN l)) = some true := by
  have hlen : (l ++ bytesN (crcN l)).length = l.length + 4 := by simp [bytesN_len]
  rw [good_eq (okB_append.2 ⟨hb, bytesN_ok _⟩) (by omega), hlen]
  have e : l.length + 4 - 4 = l.length := by omega
  rw [e, List.take_left, List.drop_left, rdN_bytes (crcN_lt l)]
  simp


/-- `Option.bind_some`, not by a hidden step: the kernel is then told it. -/
theorem bind_s {α β : Type} (x : α) (f : α → Option β) : (some x).bind f = f x := id (Option.bind_some x f)
/-- The place in a list of n: in it. -/
theorem at_lt (a : Int) {m : Int} (h0 : 0 < m) (h1 : m ≤ 100000) : IntKind.u64.wrap (wrap64 m) = m ∧ 0 ≤ wrap64 (Int.tmod (IntKind.u64.wrap a) m) ∧ wrap64 (Int.tmod (IntKind.u64.wrap a) m) < m := by
  have e : IntKind.u64.wrap (wrap64 m) = m := by
    rw [IntKind.wrap_u64]
    unfold wrap64
    omega
  have h0' : 0 ≤ IntKind.u64.wrap a := by rw [IntKind.wrap_u64]; omega
  have h1' : Int.tmod (IntKind.u64.wrap a) m = IntKind.u64.wrap a % m := Int.tmod_eq_emod_of_nonneg h0'
  have h2 : 0 ≤ IntKind.u64.wrap a % m := Int.emod_nonneg _ (by omega)
  have h3 : IntKind.u64.wrap a % m < m := Int.emod_lt_of_pos _ (by omega)
  refine ⟨e, ?_, ?_⟩
  · rw [h1']; unfold wrap64; omega
  · rw [h1']; unfold wrap64; omega
/-- The first of a list, at most 300. -/
theorem few (l : List Int) (h : ∀ x ∈ l, (Lit.int .u8 x).wf = true) : 0 ≤ mn (l.length : Int) 300 ∧ mn (l.length : Int) 300 ≤ l.length ∧ okB (l.take (mn (l.length : Int) 300).toNat) = true ∧ (l.take (mn (l.length : Int) 300).toNat).length ≤ 300 := by
  have hm : 0 ≤ mn (l.length : Int) 300 ∧ mn (l.length : Int) 300 ≤ l.length ∧ mn (l.length : Int) 300 ≤ 300 := by unfold mn; split <;> omega
  refine ⟨hm.1, hm.2.1, okB_take (okB_wf h) _, ?_⟩
  rw [List.length_take]
  omega
theorem str_beq {a b : List Int} (ha : okB a = true) (hb : okB b = true) : ((strOfNums a).toList == (strOfNums b).toList) = decide (a = b) := by
  rw [Bool.eq_iff_iff, beq_iff_eq, decide_eq_true_iff, str_eq]
  exact ⟨byteL_inj ha hb, fun h => by rw [h]⟩

/-! ### The second reading's rounds -/
def bitsD : Nat → Nat → Nat
  | 0, w => w
  | d + 1, w => bitsD d (bit1 w)
theorem bitsD8 (w : Nat) : bitsD 8 w = bit8 w := rfl
theorem bit_one {w : Nat} (h : w < 4294967296) : (if Int.tmod (w : Int) 2 = 1 then Go.bits .xor .u32 ((Int.tdiv (w : Int) 2) % 4294967296) 3988292384 else (Int.tdiv (w : Int) 2) % 4294967296) = ((bit1 w : Nat) : Int) := by
  rw [Int.tmod_eq_emod_of_nonneg (by omega), Int.tdiv_eq_ediv_of_nonneg (by omega)]
  have e : ((w : Int) / 2) % 4294967296 = ((w / 2 : Nat) : Int) := by omega
  rw [e]
  by_cases c : w % 2 = 1
  · rw [if_pos (by omega), show (3988292384 : Int) = ((3988292384 : Nat) : Int) from rfl, u32_xor_nat _ _ (by omega) (by omega)]
    unfold bit1 poly
    rw [c, Nat.mul_one]
  · have c0 : w % 2 = 0 := by omega
    rw [if_neg (by omega)]
    unfold bit1 poly
    rw [c0, Nat.mul_zero, Nat.xor_zero]
theorem ref_bits (l : List Int) (i : Int) : ∀ (d k w : Nat), d ≤ 8 → w < 4294967296 → pacesetterref01_more.l1 (k + d + 1) (w : Int) l i (8 - (d : Int)) = pacesetterref01_more.l0 k ((bitsD d w : Nat) : Int) l (wrap64 (i + 1))
  | 0, k, w, _, _ => by
    rw [pacesetterref01_more.l1, if_neg (by omega)]
    rfl
  | d + 1, k, w, hd, hw => by
    rw [pacesetterref01_more.l1, if_pos (by omega)]
    have h1 := bit_one hw
    have hj : wrap64 (8 - ((d + 1 : Nat) : Int) + 1) = 8 - (d : Int) := by unfold wrap64; omega
    have ih := ref_bits l i d k (bit1 w) (by omega) (bit1_lt hw)
    rw [hj]
    by_cases c : Int.tmod (w : Int) 2 = 1
    · rw [if_pos c] at h1 ⊢
      rw [h1]
      exact ih
    · rw [if_neg c] at h1 ⊢
      rw [h1]
      exact ih
theorem ref_more {l : List Int} (hb : okB l = true) (hl : l.length ≤ 100000) : ∀ (d k w i : Nat), i + d = l.length → w < 4294967296 → pacesetterref01_more.l0 (k + 10 * d + 1) (w : Int) l (i : Int) = some ((fold w (byteL (l.drop i)) : Nat) : Int)
  | 0, k, w, i, hi, _ => by
    rw [pacesetterref01_more.l0, if_neg (by omega), List.drop_of_length_le (by omega)]
    rfl
  | d + 1, k, w, i, hi, hw => by
    rw [show k + 10 * (d + 1) + 1 = ((k + 10 * d + 1) + 8 + 1) + 1 by omega, pacesetterref01_more.l0, if_pos (by omega), if_pos (by omega)]
    obtain ⟨c, hc, _, he⟩ := okB_rd hb (n := i) (by omega)
    have hr : rd l (i : Int) = (c : Int) := by
      rw [rd_at (by omega)]
      rw [List.getElem?_eq_getElem (by omega)] at he
      exact Option.some.inj he
    have hd : l.drop i = (c : Int) :: l.drop (i + 1) := by
      rw [List.drop_eq_getElem_cons (by omega)]
      rw [List.getElem?_eq_getElem (by omega)] at he
      rw [Option.some.inj he]
    rw [hr, show ((c : Int) % 4294967296) = ((c : Nat) : Int) by omega, u32_xor_nat _ _ hw (by omega)]
    have h8 := ref_bits l (i : Int) 8 (k + 10 * d + 1) (w ^^^ c) (by omega) (Nat.xor_lt_two_pow (n := 32) hw (by omega))
    rw [show (8 : Int) - ((8 : Nat) : Int) = 0 by omega] at h8
    rw [h8, bitsD8, show wrap64 ((i : Int) + 1) = ((i + 1 : Nat) : Int) by unfold wrap64; omega]
    have hx : bit8 (w ^^^ c) < 4294967296 := bit8_lt (Nat.xor_lt_two_pow (n := 32) hw (by omega))
    rw [ref_more hb hl d k (bit8 (w ^^^ c)) (i + 1) (by omega) hx, hd]
    have hcc : (UInt8.ofNat c).toNat = c := by simp only [UInt8.toNat_ofNat']; omega
    have hf : fold w (byteL ((c : Int) :: l.drop (i + 1))) = fold (upd w (UInt8.ofNat c)) (byteL (l.drop (i + 1))) := rfl
    rw [hf]
    unfold upd
    rw [hcc]
theorem ref_more_f {l : List Int} (hb : okB l = true) (hl : l.length ≤ 100000) {w : Nat} (hw : w < 4294967296) {k : Nat} (hk : 10 * l.length < k) : pacesetterref01_more.f k (w : Int) l = some ((fold w (byteL l) : Nat) : Int) := by
  unfold pacesetterref01_more.f
  have h := ref_more hb hl l.length (k - 10 * l.length - 1) w 0 (by omega) hw
  rw [show k - 10 * l.length - 1 + 10 * l.length + 1 = k by omega] at h
  exact h
theorem ref_sum {l : List Int} (hb : okB l = true) (hl : l.length ≤ 100000) {k : Nat} (hk : 10 * l.length < k) : pacesetterref01_Sum.f k l = some ((crcN l : Nat) : Int) := by
  unfold pacesetterref01_Sum.f
  rw [show (4294967295 : Int) = ((4294967295 : Nat) : Int) from rfl, ref_more_f hb hl (by omega) hk]
  simp only [Option.bind_some, Option.some.injEq]
  unfold crcN
  have := fold_max_lt (byteL l)
  omega
theorem ref_bytes (n : Nat) (hn : n < 4294967296) : pacesetterref01_Bytes.f (n : Int) = some (bytesN n) := by
  unfold pacesetterref01_Bytes.f bytesN
  rw [Int.tdiv_eq_ediv_of_nonneg (by omega), Int.tdiv_eq_ediv_of_nonneg (by omega), Int.tdiv_eq_ediv_of_nonneg (by omega), Int.tmod_eq_emod_of_nonneg (by omega)]
  simp only [Option.some.injEq, List.cons.injEq, and_true]
  omega
theorem ref_seal {l : List Int} (hb : okB l = true) (hl : l.length ≤ 100000) {k : Nat} (hk : 10 * l.length < k) : pacesetterref01_Seal.f k l = some (l ++ bytesN (crcN l)) := by
  unfold pacesetterref01_Seal.f
  have hn : ([] : List Int).length = 0 := rfl
  rw [if_pos (by omega)]
  simp only [Option.bind_some, List.nil_append]
  rw [ref_sum hb hl hk]
  simp only [Option.bind_some]
  rw [ref_bytes _ (crcN_lt l)]
  simp only [Option.bind_some]
  rw [if_pos (by rw [bytesN_len]; omega)]
/-- The check at the end is the check of what is ahead of it. -/
def GoodP (s : List Int) : Prop := 4 ≤ s.length ∧ ((crcN (s.take (s.length - 4)) : Nat) : Int) = rdN (s.drop (s.length - 4))
instance (s : List Int) : Decidable (GoodP s) := by unfold GoodP; infer_instance
theorem good_p {s : List Int} (hb : okB s = true) (hl : s.length ≤ 100000) : crc_Good.f s = some (decide (GoodP s)) := by
  rw [good_eq hb (by omega)]
  unfold GoodP
  congr 1
  by_cases h : 4 ≤ s.length <;> simp [h]
/-! ### Turned and swapped -/
theorem fold_lists {a b : List Int} (h : crcN a = crcN b) : fold 4294967295 (byteL a) = fold 4294967295 (byteL b) := by
  unfold crcN at h
  have h1 := fold_max_lt (byteL a)
  have h2 := fold_max_lt (byteL b)
  omega
theorem byteL_cons (x : Int) (l : List Int) : byteL (x :: l) = UInt8.ofNat x.toNat :: byteL l := rfl
theorem crc_turn (p q : List Int) {x y : Int} (hx : 0 ≤ x ∧ x < 256) (hy : 0 ≤ y ∧ y < 256) (h : crcN (p ++ x :: q) = crcN (p ++ y :: q)) : x = y := by
  have h1 := fold_lists h
  rw [byteL_append, byteL_append, byteL_cons, byteL_cons] at h1
  exact byte_inj hx hy (fold_turn (byteL p) (byteL q) (by omega) h1)
theorem crc_swap (p q : List Int) {x y : Int} (hx : 0 ≤ x ∧ x < 256) (hy : 0 ≤ y ∧ y < 256) (h : crcN (p ++ x :: y :: q) = crcN (p ++ y :: x :: q)) : x = y := by
  have h1 := fold_lists h
  rw [byteL_append, byteL_append, byteL_cons, byteL_cons, byteL_cons, byteL_cons] at h1
  exact byte_inj hx hy (fold_swap (byteL p) (byteL q) (by omega) h1)
theorem goodP_app (a t : List Int) (ht : t.length = 4) : GoodP (a ++ t) ↔ ((crcN a : Nat) : Int) = rdN t := by
  unfold GoodP
  have e : (a ++ t).length - 4 = a.length := by rw [List.length_append, ht]; omega
  rw [e, List.take_left, List.drop_left]
  exact ⟨fun h => h.2, fun h => ⟨by rw [List.length_append]; omega, h⟩⟩
theorem goodP_split {s : List Int} (h : GoodP s) : ∃ a t, s = a ++ t ∧ t.length = 4 ∧ ((crcN a : Nat) : Int) = rdN t :=
  ⟨s.take (s.length - 4), s.drop (s.length - 4), (List.take_append_drop ..).symm, by rw [List.length_drop]; have := h.1; omega, h.2⟩
theorem okB_mem {l : List Int} (h : okB l = true) {x : Int} (hx : x ∈ l) : 0 ≤ x ∧ x < 256 := okB_iff.1 h x hx
theorem okB_set {l : List Int} (h : okB l = true) {y : Int} (hy : 0 ≤ y ∧ y < 256) (p : Nat) : okB (l.set p y) = true := by
  rw [okB_iff]
  intro x hx
  rcases List.mem_or_eq_of_mem_set hx with h1 | rfl
  · exact okB_mem h h1
  · exact hy
theorem split_at {l : List Int} {p : Nat} (h : p < l.length) : l = l.take p ++ l[p] :: l.drop (p + 1) := by
  rw [List.getElem_cons_drop, List.take_append_drop]
theorem set_split (a b : List Int) (x y : Int) : (a ++ x :: b).set a.length y = a ++ y :: b := by
  simp
theorem good_turn {s : List Int} (hb : okB s = true) (hg : GoodP s) {p : Nat} (hp : p < s.length) {y : Int} (hy : 0 ≤ y ∧ y < 256) (hne : y ≠ s[p]) : ¬ GoodP (s.set p y) := by
  intro hg'
  obtain ⟨a, t, rfl, ht, he⟩ := goodP_split hg
  have hab := (okB_append.1 hb).1
  have htb := (okB_append.1 hb).2
  by_cases c : p < a.length
  · have h1 : (a ++ t).set p y = a.set p y ++ t := List.set_append_left _ _ c
    rw [h1, goodP_app _ _ ht, ← he] at hg'
    have h2 : (a ++ t)[p] = a[p] := List.getElem_append_left c
    rw [h2] at hne
    have h3 := split_at c
    have h4 : a.set p y = a.take p ++ y :: a.drop (p + 1) := List.set_eq_take_append_cons_drop .. |>.trans (by rw [if_pos c])
    rw [h4] at hg'
    have h5 : crcN (a.take p ++ y :: a.drop (p + 1)) = crcN (a.take p ++ a[p] :: a.drop (p + 1)) := by rw [← h3]; omega
    exact hne (crc_turn _ _ hy (okB_mem hab (List.getElem_mem c)) h5)
  · have h1 : (a ++ t).set p y = a ++ t.set (p - a.length) y := List.set_append_right _ _ (by omega)
    rw [h1, goodP_app _ _ (by rw [List.length_set, ht]), he] at hg'
    have h2 := rdN_inj htb ht (okB_set htb hy _) (by rw [List.length_set, ht]) hg'
    have hp' : p - a.length < t.length := by rw [List.length_append] at hp; omega
    have h3 : (a ++ t)[p] = t[p - a.length] := List.getElem_append_right (by omega)
    rw [h3] at hne
    have h4 : (t.set (p - a.length) y)[p - a.length]'(by rw [List.length_set]; exact hp') = y := List.getElem_set_self ..
    apply hne
    rw [← h4]
    congr 1
    exact h2.symm
theorem xor_high (x y r : Nat) (hr : r < 16777216) : (x * 16777216 + r) ^^^ (y * 16777216 + r) = (x ^^^ y) * 16777216 := by
  have e (z s : Nat) : z * 16777216 + s = 2 ^ 24 * z + s := by omega
  have e2 : (x ^^^ y) * 16777216 = 2 ^ 24 * (x ^^^ y) + 0 := by omega
  rw [e, e, e2]
  apply Nat.eq_of_testBit_eq
  intro i
  rw [Nat.testBit_xor, Nat.testBit_two_pow_mul_add _ (by omega), Nat.testBit_two_pow_mul_add _ (by omega), Nat.testBit_two_pow_mul_add _ (by omega)]
  by_cases c : i < 24 <;> simp [c]
/-- The boundary: the last byte and the check's first swapped. -/
theorem crc_edge (p : List Int) {x y : Int} (t : List Int) (hx : 0 ≤ x ∧ x < 256) (hy : 0 ≤ y ∧ y < 256) (ht : okB t = true) (l3 : t.length = 3)
    (h1 : ((crcN (p ++ [x]) : Nat) : Int) = rdN (y :: t)) (h2 : ((crcN (p ++ [y]) : Nat) : Int) = rdN (x :: t)) : x = y := by
  match t, l3 with
  | [b, c, d], _ =>
    have hb := okB_mem ht (x := b) (by simp)
    have hc := okB_mem ht (x := c) (by simp)
    have hd := okB_mem ht (x := d) (by simp)
    have e1 : rdN (y :: [b, c, d]) = y * 16777216 + b * 65536 + c * 256 + d := rfl
    have e2 : rdN (x :: [b, c, d]) = x * 16777216 + b * 65536 + c * 256 + d := rfl
    rw [e1] at h1
    rw [e2] at h2
    obtain ⟨x, rfl⟩ := Int.eq_ofNat_of_zero_le hx.1
    obtain ⟨y, rfl⟩ := Int.eq_ofNat_of_zero_le hy.1
    obtain ⟨b, rfl⟩ := Int.eq_ofNat_of_zero_le hb.1
    obtain ⟨c, rfl⟩ := Int.eq_ofNat_of_zero_le hc.1
    obtain ⟨d, rfl⟩ := Int.eq_ofNat_of_zero_le hd.1
    have hr : b * 65536 + c * 256 + d < 16777216 := by omega
    generalize hR : b * 65536 + c * 256 + d = R at hr
    have n1 : crcN (p ++ [(x : Int)]) = y * 16777216 + R := by omega
    have n2 : crcN (p ++ [(y : Int)]) = x * 16777216 + R := by omega
    unfold crcN at n1 n2
    have l1 := fold_max_lt (byteL (p ++ [(x : Int)]))
    have l2 := fold_max_lt (byteL (p ++ [(y : Int)]))
    have m1 : fold 4294967295 (byteL (p ++ [(x : Int)])) = 4294967295 ^^^ (y * 16777216 + R) := by rw [xor_max (by omega)]; omega
    have m2 : fold 4294967295 (byteL (p ++ [(y : Int)])) = 4294967295 ^^^ (x * 16777216 + R) := by rw [xor_max (by omega)]; omega
    have cx : (UInt8.ofNat x).toNat = x := by simp only [UInt8.toNat_ofNat']; omega
    have cy : (UInt8.ofNat y).toNat = y := by simp only [UInt8.toNat_ofNat']; omega
    have f1 : fold 4294967295 (byteL (p ++ [(x : Int)])) = bit8 (fold 4294967295 (byteL p) ^^^ x) := by
      have : fold 4294967295 (byteL (p ++ [(x : Int)])) = upd (fold 4294967295 (byteL p)) (UInt8.ofNat x) := by rw [byteL_append, fold_append]; rfl
      rw [this]; unfold upd; rw [cx]
    have f2 : fold 4294967295 (byteL (p ++ [(y : Int)])) = bit8 (fold 4294967295 (byteL p) ^^^ y) := by
      have : fold 4294967295 (byteL (p ++ [(y : Int)])) = upd (fold 4294967295 (byteL p)) (UInt8.ofNat y) := by rw [byteL_append, fold_append]; rfl
      rw [this]; unfold upd; rw [cy]
    rw [f1, bit8_xor] at m1
    rw [f2, bit8_xor] at m2
    have hxy : bit8 (x ^^^ y) = (x ^^^ y) * 16777216 := by
      rw [bit8_xor, Nat.xor_comm x y, ← xor_high y x R hr]
      have k := (show _ ^^^ _ = _ ^^^ _ by rw [m1, m2] : (bit8 (fold 4294967295 (byteL p)) ^^^ bit8 x) ^^^ (bit8 (fold 4294967295 (byteL p)) ^^^ bit8 y) = (4294967295 ^^^ (y * 16777216 + R)) ^^^ (4294967295 ^^^ (x * 16777216 + R)))
      have a1 (u v z : Nat) : (u ^^^ v) ^^^ (u ^^^ z) = v ^^^ z := by
        rw [Nat.xor_assoc, ← Nat.xor_assoc v u z, Nat.xor_comm v u, Nat.xor_assoc u v z, ← Nat.xor_assoc u u, Nat.xor_self, Nat.zero_xor]
      rw [a1, a1] at k
      exact k
    have h0 := high_byte (x ^^^ y) (Nat.xor_lt_two_pow (n := 8) (by omega) (by omega)) hxy
    rw [xor_eq_zero.1 h0]
theorem set_two (a b : List Int) (x y u v : Int) : ((a ++ x :: y :: b).set a.length u).set (a.length + 1) v = a ++ u :: v :: b := by
  rw [set_split]
  have e : a ++ u :: y :: b = (a ++ [u]) ++ y :: b := by simp
  have e2 : a.length + 1 = (a ++ [u]).length := by simp
  rw [e, e2, set_split]
  simp
theorem good_swap {s : List Int} (hb : okB s = true) (hg : GoodP s) (p q : List Int) {x y : Int} (hs : s = p ++ x :: y :: q) : GoodP (p ++ y :: x :: q) ↔ x = y := by
  constructor
  · intro hg'
    obtain ⟨a, t, e, ht, he⟩ := goodP_split hg
    have hx : 0 ≤ x ∧ x < 256 := okB_mem hb (by rw [hs]; simp)
    have hy : 0 ≤ y ∧ y < 256 := okB_mem hb (by rw [hs]; simp)
    rw [e] at hs hb
    have hab := (okB_append.1 hb).1
    have htb := (okB_append.1 hb).2
    have hlen := congrArg List.length hs
    simp only [List.length_append, List.length_cons, ht] at hlen
    by_cases c1 : p.length + 2 ≤ a.length
    · -- both ahead of the check
      obtain ⟨m, hm⟩ : ∃ m, a = p ++ x :: y :: m := by
        have h1 : a = (p ++ x :: y :: q).take a.length := by rw [← hs, List.take_left]
        refine ⟨q.take (a.length - p.length - 2), ?_⟩
        generalize a.length = n at h1 c1 ⊢
        have e3 : n - p.length = (n - p.length - 2) + 2 := by omega
        rw [h1, List.take_append, List.take_of_length_le (by omega), e3]
        simp
      have hq : q = m ++ t := by
        rw [hm] at hs
        simpa [List.append_assoc] using hs.symm
      rw [hq, show p ++ y :: x :: (m ++ t) = (p ++ y :: x :: m) ++ t by simp, goodP_app _ _ ht, ← he, hm] at hg'
      exact (crc_swap p m hy hx (by omega)).symm
    · by_cases c2 : a.length ≤ p.length
      · -- both in the check
        obtain ⟨m, hm⟩ : ∃ m, p = a ++ m := by
          refine ⟨p.drop a.length, ?_⟩
          have h1 : (a ++ t).take a.length = (p ++ x :: y :: q).take a.length := by rw [hs]
          rw [List.take_left, List.take_append_of_le_length c2] at h1
          have h2 := List.take_append_drop a.length p
          rw [← h1] at h2
          exact h2.symm
        rw [hm] at hs hg'
        have hq : t = m ++ x :: y :: q := by
          rw [List.append_assoc] at hs
          exact List.append_cancel_left hs
        have hl4 : (m ++ y :: x :: q).length = 4 := by rw [hq] at ht; simpa using ht
        rw [List.append_assoc, goodP_app _ _ hl4, he] at hg'
        have hob : okB (m ++ y :: x :: q) = true := by
          rw [okB_iff]
          rw [hq, okB_iff] at htb
          intro z hz
          apply htb z
          simp only [List.mem_append, List.mem_cons] at hz ⊢
          rcases hz with h | h | h | h
          · exact .inl h
          · exact .inr (.inr (.inl h))
          · exact .inr (.inl h)
          · exact .inr (.inr (.inr h))
        have h2 := rdN_inj htb ht hob hl4 hg'
        rw [hq] at h2
        have h3 := List.append_cancel_left h2
        exact (List.cons.inj h3).1
      · -- over the edge
        have hm : a = p ++ [x] := by
          have h1 : a = (p ++ x :: y :: q).take a.length := by rw [← hs, List.take_left]
          generalize a.length = n at h1 c1 c2 ⊢
          have e3 : n - p.length = 1 := by omega
          rw [h1, List.take_append, List.take_of_length_le (by omega), e3]
          simp
        have hq : t = y :: q := by
          rw [hm, List.append_assoc] at hs
          have := List.append_cancel_left hs
          simpa using this
        have hl3 : q.length = 3 := by rw [hq] at ht; simpa using ht
        rw [show p ++ y :: x :: q = (p ++ [y]) ++ x :: q by simp, goodP_app _ _ (by simp [hl3])] at hg'
        rw [hm, hq] at he
        exact crc_edge p q hx hy (by rw [okB_iff] at htb ⊢; exact fun z hz => htb z (by rw [hq]; simp [hz])) hl3 he hg'
  · rintro rfl
    rw [← hs]
    exact hg

end Go.Proofs.Ytbcienbnhchdeaa.FrameC

/- Frames: plain lemmas. -/
namespace Go.Proofs.Ytbcienbnhchdeaa.FrameL
open Go.RowKit Go.Proofs.Ytbcienbnhchdeaa.Print Go.Proofs.YtbcienbnhchdeaaW.PrintWords Go.Proofs.YtbcienbnhchdeaaW.PrintLast Go.Proofs.YtbcienbnhchdeaaW.PrintMore Hand CrcM FrameC

theorem lives_one : pacesetterlaw04_lives.f 1 = some true := by decide +kernel
theorem size_eq (n : Nat) : frame_Size.f (n : Int) = some (if 1 ≤ n ∧ n ≤ 1000 then ((n + 6 : Nat) : Int) else 0) := by
  unfold frame_Size.f
  by_cases h0 : (n : Int) < 1
  · rw [if_pos h0, if_neg (by omega)]
  · rw [if_neg h0]
    by_cases h1 : (n : Int) > 1000
    · rw [if_pos h1, if_neg (by omega)]
    · rw [if_neg h1, if_pos (by omega)]
      congr 1
      unfold wrap64
      omega
/-- What stands ahead of a payload: its length. -/
def headN (n : Nat) : List Int := [((n / 256 % 256 : Nat) : Int), ((n % 256 : Nat) : Int)]
/-- A payload with its length ahead. -/
def withHead (p : List Int) : List Int := headN p.length ++ p
/-- A frame. -/
def frameOf (p : List Int) : List Int := withHead p ++ bytesN (crcN (withHead p))
theorem headN_ok (n : Nat) : okB (headN n) = true := by
  rw [okB_iff]
  intro x hx
  simp only [headN, List.mem_cons, List.not_mem_nil, or_false] at hx
  rcases hx with rfl | rfl <;> omega
theorem withHead_ok {p : List Int} (h : okB p = true) : okB (withHead p) = true := okB_append.2 ⟨headN_ok _, h⟩
theorem withHead_len (p : List Int) : (withHead p).length = p.length + 2 := by simp [withHead, headN]
theorem frameOf_ok {p : List Int} (h : okB p = true) : okB (frameOf p) = true := okB_append.2 ⟨withHead_ok h, bytesN_ok _⟩
theorem frameOf_len (p : List Int) : (frameOf p).length = p.length + 6 := by
  unfold frameOf
  rw [List.length_append, withHead_len, bytesN_len]
theorem put_eq {l p : List Int} (hp : okB p = true) (hpl : p.length ≤ 100000) (hl : l.length ≤ 1000000) :
    frame_Put.f l p = some (if p.length = 0 then (l, 1) else if 1000 < p.length then (l, 12) else (l ++ frameOf p, 0)) := by
  unfold frame_Put.f
  by_cases h0 : p.length = 0
  · rw [if_pos (by omega), if_pos h0]
  · rw [if_neg (by omega), if_neg h0, size_eq]
    by_cases h1 : 1000 < p.length
    · simp only [Option.bind_some]
      rw [if_pos (by rw [if_neg (by omega)]), if_pos h1]
    · simp only [Option.bind_some]
      rw [if_neg (by rw [if_pos (by omega)]; omega), if_neg h1]
      have e : ([([((p.length : Int) / 256) % 256, ((p.length : Int)) % 256] : List Int), p] : List (List Int)).flatten = withHead p := by
        simp [withHead, headN]
      unfold slices_Concat_byte_byte.f
      rw [e, if_pos (by rw [withHead_len]; omega)]
      simp only [Option.bind_some]
      rw [seal_eq (withHead_ok hp) (by rw [withHead_len]; omega)]
      simp only [Option.bind_some]
      have e2 : ([l, withHead p ++ bytesN (crcN (withHead p))] : List (List Int)).flatten = l ++ frameOf p := by simp [frameOf]
      rw [e2, if_pos (by rw [List.length_append, frameOf_len]; omega)]
      simp only [Option.bind_some]
/-- The length that stands ahead. -/
def lenOf (b : List Int) : Nat := (rd b 0).toNat * 256 + (rd b 1).toNat
theorem i64_or_nat (a b : Nat) (ha : a < 1048576) (hb : b < 1048576) : Go.bits .or .i64 (a : Int) (b : Int) = ((a ||| b : Nat) : Int) := by
  have hx : a ||| b < 2 ^ 20 := Nat.or_lt_two_pow (by omega) (by omega)
  show IntKind.i64.wrap ((BitVec.ofInt 64 (a : Int) ||| BitVec.ofInt 64 (b : Int)).toNat : Int) = _
  rw [BitVec.toNat_or, ofInt_u64 a (by omega), ofInt_u64 b (by omega)]
  have e : ∀ n : Nat, n < 9223372036854775808 → IntKind.i64.wrap (n : Int) = (n : Int) := by
    intro n h
    have e : (n : Int) % 2 ^ 64 = n := Int.emod_eq_of_lt (by omega) (by omega)
    simp only [IntKind.wrap, IntKind.bits, IntKind.signed, e]
    rw [if_neg]
    simp
    omega
  exact e _ (by omega)
theorem or16 {a b : Nat} (ha : a < 256) (hb : b < 256) : Go.bits .or .i64 (wrap64 ((wrap64 (a : Int)) * 256)) (wrap64 (b : Int)) = ((a * 256 + b : Nat) : Int) := by
  have e1 : wrap64 ((wrap64 (a : Int)) * 256) = ((a * 256 : Nat) : Int) := by unfold wrap64; omega
  have e2 : wrap64 (b : Int) = ((b : Nat) : Int) := by unfold wrap64; omega
  rw [e1, e2, i64_or_nat _ _ (by omega) (by omega)]
  have := or_add a b 8 (by omega)
  rw [show a * 256 = 2 ^ 8 * a by omega, this]
/-- What is got. -/
def getF (b : List Int) : List Int × Int × Int :=
  if b.length < 2 then ([], 0, 2)
  else if 1 ≤ lenOf b ∧ lenOf b ≤ 1000 ∧ lenOf b + 6 ≤ b.length then
    (if GoodP (b.take (lenOf b + 6)) then ((b.take (lenOf b + 2)).drop 2, ((lenOf b + 6 : Nat) : Int), 0) else ([], 0, 3))
  else ([], 0, 2)
theorem get_eq {b : List Int} (hb : okB b = true) (hl : b.length ≤ 1000000) (k : Nat) : frame_Get.f (k + 1) b = some (getF b) := by
  unfold frame_Get.f getF
  by_cases h2 : b.length < 2
  · rw [if_pos (by omega), if_pos h2]
  · rw [if_neg (by omega), if_neg h2, if_pos (by omega), if_pos (by omega)]
    obtain ⟨x, hx, hx1, _⟩ := okB_rd hb (n := 0) (by omega)
    obtain ⟨y, hy, hy1, _⟩ := okB_rd hb (n := 1) (by omega)
    have ex : rd b 0 = (x : Int) := hx1
    have ey : rd b 1 = (y : Int) := hy1
    have en : lenOf b = x * 256 + y := by unfold lenOf; rw [ex, ey]; omega
    rw [ex, ey, or16 hx hy, ← en, size_eq]
    generalize lenOf b = n at en
    simp only [Option.bind_some]
    by_cases h3 : 1 ≤ n ∧ n ≤ 1000
    · simp only [if_pos h3]
      rw [if_neg (by omega), frame_Get.j0]
      by_cases h4 : n + 6 ≤ b.length
      · have hd : decide (((n + 6 : Nat) : Int) > (b.length : Int)) = false := decide_eq_false (by omega)
        rw [if_pos (show 1 ≤ n ∧ n ≤ 1000 ∧ n + 6 ≤ b.length from ⟨h3.1, h3.2, h4⟩), hd, if_neg (by decide), if_pos (by omega), if_pos (by omega), Int.toNat_natCast]
        rw [good_p (okB_take hb _) (by rw [List.length_take]; omega)]
        simp only [Option.bind_some]
        have ew : wrap64 (2 + (n : Int)) = ((n + 2 : Nat) : Int) := by unfold wrap64; omega
        by_cases h5 : GoodP (b.take (n + 6))
        · rw [if_pos (decide_eq_true h5), if_pos h5, ew, if_pos (by omega), if_pos (by omega), Int.toNat_natCast]
          unfold slices_Clone_byte_byte.f
          rw [if_pos (by rw [List.length_drop, List.length_take]; omega)]
          simp only [Option.bind_some]
        · rw [if_neg (by rw [decide_eq_true_iff]; exact h5), if_neg h5]
      · have hd : decide (((n + 6 : Nat) : Int) > (b.length : Int)) = true := decide_eq_true (by omega)
        rw [if_neg (show ¬ (1 ≤ n ∧ n ≤ 1000 ∧ n + 6 ≤ b.length) from fun h => h4 h.2.2), hd, if_pos rfl]
    · simp only [if_neg h3, if_true]
      rw [frame_Get.j0, if_pos rfl, if_neg (show ¬ (1 ≤ n ∧ n ≤ 1000 ∧ n + 6 ≤ b.length) from fun h => h3 ⟨h.1, h.2.1⟩)]
theorem frameOf_rd (p r : List Int) (hp : p.length ≤ 1000) : lenOf (frameOf p ++ r) = p.length := by
  have e : frameOf p ++ r = ((p.length / 256 % 256 : Nat) : Int) :: ((p.length % 256 : Nat) : Int) :: (p ++ (bytesN (crcN (withHead p)) ++ r)) := by
    simp [frameOf, withHead, headN]
  rw [e]
  have e0 : rd (((p.length / 256 % 256 : Nat) : Int) :: ((p.length % 256 : Nat) : Int) :: (p ++ (bytesN (crcN (withHead p)) ++ r))) 0 = ((p.length / 256 % 256 : Nat) : Int) := rfl
  have e1 : rd (((p.length / 256 % 256 : Nat) : Int) :: ((p.length % 256 : Nat) : Int) :: (p ++ (bytesN (crcN (withHead p)) ++ r))) 1 = ((p.length % 256 : Nat) : Int) := rfl
  unfold lenOf
  rw [e0, e1]
  omega
theorem frameOf_good (p : List Int) : GoodP (frameOf p) := by
  unfold frameOf
  rw [goodP_app _ _ (bytesN_len _), rdN_bytes (crcN_lt _)]
theorem get_frame {p r : List Int} (h0 : 1 ≤ p.length) (h1 : p.length ≤ 1000) : getF (frameOf p ++ r) = (p, ((p.length + 6 : Nat) : Int), 0) := by
  have hl := frameOf_len p
  have ht : (frameOf p ++ r).take (p.length + 6) = frameOf p := by rw [← hl, List.take_left]
  have ht2 : (frameOf p ++ r).take (p.length + 2) = withHead p := by
    have e : frameOf p ++ r = withHead p ++ (bytesN (crcN (withHead p)) ++ r) := by simp [frameOf]
    rw [e, ← withHead_len, List.take_left]
  unfold getF
  rw [frameOf_rd p r h1, if_neg (by rw [List.length_append, hl]; omega), if_pos ⟨h0, h1, by rw [List.length_append, hl]; omega⟩, ht, if_pos (frameOf_good p), ht2]
  have e3 : (withHead p).drop 2 = p := rfl
  rw [e3]
end Go.Proofs.Ytbcienbnhchdeaa.FrameL

/- Frames one behind the other: plain lemmas. -/
namespace Go.Proofs.Ytbcienbnhchdeaa.FrameS
open Go.RowKit Go.Proofs.Ytbcienbnhchdeaa.Print Go.Proofs.YtbcienbnhchdeaaW.PrintWords Go.Proofs.YtbcienbnhchdeaaW.PrintLast Go.Proofs.YtbcienbnhchdeaaW.PrintMore Hand CrcM FrameC FrameL

/-- The frames of payloads, one behind the other. -/
def allF (ps : List (List Int)) : List Int := (ps.map frameOf).flatten
theorem allF_nil : allF [] = [] := rfl
theorem allF_cons (p : List Int) (ps : List (List Int)) : allF (p :: ps) = frameOf p ++ allF ps := by simp [allF]
theorem allF_append (a b : List (List Int)) : allF (a ++ b) = allF a ++ allF b := by simp [allF]
/-- A payload that may be. -/
def OkP (p : List Int) : Prop := okB p = true ∧ 1 ≤ p.length ∧ p.length ≤ 1000
theorem allF_ok : ∀ {ps : List (List Int)}, (∀ p ∈ ps, OkP p) → okB (allF ps) = true
  | [], _ => rfl
  | p :: ps, h => by
    rw [allF_cons, okB_append]
    exact ⟨frameOf_ok (h p (by simp)).1, allF_ok fun q hq => h q (by simp [hq])⟩
theorem allF_len : ∀ (ps : List (List Int)), ps.length ≤ (allF ps).length
  | [] => Nat.le_refl _
  | p :: ps => by
    have := allF_len ps
    rw [allF_cons, List.length_append, frameOf_len, List.length_cons]
    omega
theorem scan_step {b r p : List Int} {acc : List (List Int)} {k i : Nat} (hb : okB b = true) (hl : b.length ≤ 1000000) (hi : i ≤ b.length) (hd : b.drop i = frameOf p ++ r) (hp : OkP p) (ha : acc.length ≤ 1000000) :
    frame_Scan.l0 (k + 1) b acc (i : Int) = frame_Scan.l0 k b (acc ++ [p]) ((i + (p.length + 6) : Nat) : Int) := by
  have hlen := congrArg List.length hd
  rw [List.length_drop, List.length_append, frameOf_len] at hlen
  rw [frame_Scan.l0, if_neg (by omega), if_pos ⟨by omega, by omega⟩, Int.toNat_natCast, get_eq (okB_drop hb i) (by rw [List.length_drop]; omega) 0, hd, get_frame hp.2.1 hp.2.2]
  simp only [bind_s]
  rw [if_pos trivial, if_pos (by omega)]
  congr 1
  have := hp.2.2
  unfold wrap64
  omega
theorem scan_all : ∀ (ps : List (List Int)) {b r : List Int} {acc : List (List Int)} {k i : Nat}, okB b = true → b.length ≤ 1000000 → i ≤ b.length → (∀ p ∈ ps, OkP p) → b.drop i = allF ps ++ r → acc.length + ps.length ≤ 1000000 →
    frame_Scan.l0 (k + ps.length) b acc (i : Int) = frame_Scan.l0 k b (acc ++ ps) ((i + (allF ps).length : Nat) : Int)
  | [], b, r, acc, k, i, _, _, _, _, _, _ => by simp [allF_nil]
  | p :: ps, b, r, acc, k, i, hb, hl, hi, hp, hd, ha => by
    rw [allF_cons, List.append_assoc] at hd
    have hlen := congrArg List.length hd
    rw [List.length_drop, List.length_append, frameOf_len] at hlen
    rw [List.length_cons] at ha
    have e : k + (p :: ps).length = (k + ps.length) + 1 := by rw [List.length_cons]; omega
    rw [e, scan_step hb hl hi hd (hp p (by simp)) (by omega)]
    have hd2 : b.drop (i + (p.length + 6)) = allF ps ++ r := by
      rw [← List.drop_drop, hd, ← frameOf_len p, List.drop_left]
    rw [scan_all ps hb hl (by omega) (fun q hq => hp q (by simp [hq])) hd2 (by rw [List.length_append, List.length_singleton]; omega)]
    rw [allF_cons, List.length_append, frameOf_len, List.append_assoc, List.singleton_append]
    congr 1
    omega
theorem scan_end {b : List Int} {acc : List (List Int)} {k : Nat} : frame_Scan.l0 (k + 1) b acc (b.length : Int) = some (acc, (b.length : Int), 0) := by
  rw [frame_Scan.l0, if_pos rfl]
theorem scan_stop {b q : List Int} {acc : List (List Int)} {k i : Nat} {n e : Int} (hb : okB b = true) (hl : b.length ≤ 1000000) (hi : i < b.length) (hg : getF (b.drop i) = (q, n, e)) (he : e ≠ 0) :
    frame_Scan.l0 (k + 1) b acc (i : Int) = some (acc, (i : Int), e) := by
  rw [frame_Scan.l0, if_neg (by omega), if_pos ⟨by omega, by omega⟩, Int.toNat_natCast, get_eq (okB_drop hb i) (by rw [List.length_drop]; omega) 0, hg]
  simp only [bind_s]
  rw [if_neg he]
/-- Frames alone. -/
theorem scan_frames {ps : List (List Int)} (hp : ∀ p ∈ ps, OkP p) (hl : (allF ps).length ≤ 1000000) : frame_Scan.f (allF ps) = some (ps, ((allF ps).length : Int), 0) := by
  unfold frame_Scan.f
  have hn := allF_len ps
  have e : (allF ps).length + 2 = ((allF ps).length - ps.length + 1 + 1) + ps.length := by omega
  rw [e, show (0 : Int) = ((0 : Nat) : Int) from rfl, scan_all ps (r := []) (allF_ok hp) hl (by omega) hp (by simp) (by simp; omega), Nat.zero_add, scan_end, List.nil_append]
  rfl
theorem frame_parts (p : List Int) : ∃ t, frameOf p = ((p.length / 256 % 256 : Nat) : Int) :: ((p.length % 256 : Nat) : Int) :: t := ⟨p ++ bytesN (crcN (withHead p)), by simp [frameOf, withHead, headN]⟩
theorem lenOf_head {p t : List Int} (hp : p.length ≤ 1000) : lenOf (((p.length / 256 % 256 : Nat) : Int) :: ((p.length % 256 : Nat) : Int) :: t) = p.length := by
  have e0 : rd (((p.length / 256 % 256 : Nat) : Int) :: ((p.length % 256 : Nat) : Int) :: t) 0 = ((p.length / 256 % 256 : Nat) : Int) := rfl
  have e1 : rd (((p.length / 256 % 256 : Nat) : Int) :: ((p.length % 256 : Nat) : Int) :: t) 1 = ((p.length % 256 : Nat) : Int) := rfl
  unfold lenOf
  rw [e0, e1]
  omega
/-- A part of a frame. -/
theorem get_cut {p : List Int} (hp : OkP p) {j : Nat} (h1 : j < p.length + 6) : getF ((frameOf p).take j) = ([], 0, 2) := by
  have hl : ((frameOf p).take j).length = j := by rw [List.length_take, frameOf_len]; omega
  unfold getF
  rw [hl]
  by_cases h2 : j < 2
  · rw [if_pos h2]
  · rw [if_neg h2]
    obtain ⟨t, ht⟩ := frame_parts p
    obtain ⟨m, rfl⟩ : ∃ m, j = m + 2 := ⟨j - 2, by omega⟩
    have e : (frameOf p).take (m + 2) = ((p.length / 256 % 256 : Nat) : Int) :: ((p.length % 256 : Nat) : Int) :: t.take m := by rw [ht]; rfl
    rw [e, lenOf_head hp.2.2, if_neg (by omega)]
theorem scan_cut {ps : List (List Int)} {p : List Int} {j : Nat} (hp : ∀ q ∈ ps, OkP q) (hq : OkP p) (h0 : 1 ≤ j) (h1 : j < p.length + 6) (hl : (allF ps).length ≤ 900000) :
    frame_Scan.f (allF ps ++ (frameOf p).take j) = some (ps, ((allF ps).length : Int), 2) := by
  have hj : ((frameOf p).take j).length = j := by rw [List.length_take, frameOf_len]; omega
  have hpl := hq.2.2
  have hn := allF_len ps
  have hbl : (allF ps ++ (frameOf p).take j).length = (allF ps).length + j := by rw [List.length_append, hj]
  have hb : okB (allF ps ++ (frameOf p).take j) = true := okB_append.2 ⟨allF_ok hp, okB_take (frameOf_ok hq.1) _⟩
  unfold frame_Scan.f
  rw [hbl]
  have e : (allF ps).length + j + 2 = ((allF ps).length - ps.length + j + 1 + 1) + ps.length := by omega
  rw [e, show (0 : Int) = ((0 : Nat) : Int) from rfl, scan_all ps (r := (frameOf p).take j) hb (by omega) (by omega) hp (by simp) (by simp; omega), Nat.zero_add, List.nil_append]
  refine scan_stop hb (by omega) (by omega) (q := []) (n := 0) ?_ (by decide)
  rw [List.drop_left]
  exact get_cut hq h1
end Go.Proofs.Ytbcienbnhchdeaa.FrameS
