-- Printed by a program of this session (wip/patch_print.py over the kit's print); Lean checks it.
-- cut_print: 5
import Derived.Test.YtbcienbnhchdeaaPrint0
import Derived.Test.YtbcienbnhchdeaaPrint1
import Derived.Test.YtbcienbnhchdeaaPrint6
import Derived.Test.YtbcienbnhchdeaaPrint12
import Derived.Test.YtbcienbnhchdeaaPrint13
import Derived.Test.YtbcienbnhchdeaaPrint14
import Derived.Test.YtbcienbnhchdeaaPrint15
namespace Go.Proofs.Ytbcienbnhchdeaa.Print
open Go.RowKit Go.Proofs.YtbcienbnhchdeaaW.PrintWords Go.Proofs.YtbcienbnhchdeaaW.PrintLast Go.Proofs.YtbcienbnhchdeaaW.PrintMore
attribute [local go_sem] max2_int min2_int max_two min_two max_three min_three max_four min_four   -- for this text's walks alone
set_option linter.unusedVariables false
set_option linter.unusedSimpArgs false

/-! ### pacesetterlaw04_FrameCuts: function 17 -/
def pacesetterlaw04_FrameCuts.j0 : Nat → List (List Int) → Int → List (List Int) → Int → Int → Bool → Option (Bool)
  | 0, _, _, _, _, _, _ => none
  | k + 1, x5, x7, x8, x9, x10, x77 => if x77 = true then (some false) else (if (x8.length : Int) < (x5.length : Int) then (if 0 ≤ (x8.length : Int) then ((frame_Size.f ((rd_L1 x5 (x8.length : Int)).length : Int)).bind fun t269 => (if ((x9 == x7) == (x10 == 0)) = true then (if x10 = 0 then (if (x8.length : Int) = (x5.length : Int) then (some true) else (some (decide (x7 < (wrap64 (x9 + t269)))))) else (if x10 = 2 then (if (x8.length : Int) = (x5.length : Int) then (some true) else (some (decide (x7 < (wrap64 (x9 + t269)))))) else (some false))) else (some false))) else (none)) else (if ((x9 == x7) == (x10 == 0)) = true then (if x10 = 0 then (if (x8.length : Int) = (x5.length : Int) then (some true) else (some (decide (x7 < (wrap64 (x9 + 0)))))) else (if x10 = 2 then (if (x8.length : Int) = (x5.length : Int) then (some true) else (some (decide (x7 < (wrap64 (x9 + 0)))))) else (some false))) else (some false)))
def pacesetterlaw04_FrameCuts.f (k : Nat) (l0 : List (List Int)) (a1 : Int) : Option (Bool) := (pacesetterlaw04_lives.f k).bind fun t239 => (if t239 = true then ((pacesetterref04_Good.f k l0 8).bind fun t240 => ((pacesetterref04_All.f k t240).bind fun t243 => (if (IntKind.u64.wrap (wrap64 ((t243.length : Int) + 1))) = 0 then (none) else (if 0 ≤ (wrap64 (Int.tmod (IntKind.u64.wrap (a1)) (IntKind.u64.wrap (wrap64 ((t243.length : Int) + 1))))) then (if (wrap64 (Int.tmod (IntKind.u64.wrap (a1)) (IntKind.u64.wrap (wrap64 ((t243.length : Int) + 1))))) ≤ (t243.length : Int) then ((frame_Scan.f (t243.take ((wrap64 (Int.tmod (IntKind.u64.wrap (a1)) (IntKind.u64.wrap (wrap64 ((t243.length : Int) + 1))))) : Int).toNat)).bind fun bt251 => ((frame_Scan.f t243).bind fun bt256 => ((pacesetterref04_Same.f k bt256.1 t240).bind fun t261 => (if t261 = true then (if bt256.2.1 = (t243.length : Int) then (if bt256.2.2 = 0 then (if (bt251.1.length : Int) > (t240.length : Int) then (pacesetterlaw04_FrameCuts.j0 k t240 (wrap64 (Int.tmod (IntKind.u64.wrap (a1)) (IntKind.u64.wrap (wrap64 ((t243.length : Int) + 1))))) bt251.1 bt251.2.1 bt251.2.2 true) else (if 0 ≤ (bt251.1.length : Int) then (if (bt251.1.length : Int) ≤ (t240.length : Int) then ((pacesetterref04_Same.f k bt251.1 (t240.take ((bt251.1.length : Int) : Int).toNat)).bind fun t267 => (if t267 = true then (pacesetterlaw04_FrameCuts.j0 k t240 (wrap64 (Int.tmod (IntKind.u64.wrap (a1)) (IntKind.u64.wrap (wrap64 ((t243.length : Int) + 1))))) bt251.1 bt251.2.1 bt251.2.2 (decide (bt251.2.1 > (wrap64 (Int.tmod (IntKind.u64.wrap (a1)) (IntKind.u64.wrap (wrap64 ((t243.length : Int) + 1)))))))) else (pacesetterlaw04_FrameCuts.j0 k t240 (wrap64 (Int.tmod (IntKind.u64.wrap (a1)) (IntKind.u64.wrap (wrap64 ((t243.length : Int) + 1))))) bt251.1 bt251.2.1 bt251.2.2 true))) else (none)) else (none))) else (pacesetterlaw04_FrameCuts.j0 k t240 (wrap64 (Int.tmod (IntKind.u64.wrap (a1)) (IntKind.u64.wrap (wrap64 ((t243.length : Int) + 1))))) bt251.1 bt251.2.1 bt251.2.2 true)) else (pacesetterlaw04_FrameCuts.j0 k t240 (wrap64 (Int.tmod (IntKind.u64.wrap (a1)) (IntKind.u64.wrap (wrap64 ((t243.length : Int) + 1))))) bt251.1 bt251.2.1 bt251.2.2 true)) else (pacesetterlaw04_FrameCuts.j0 k t240 (wrap64 (Int.tmod (IntKind.u64.wrap (a1)) (IntKind.u64.wrap (wrap64 ((t243.length : Int) + 1))))) bt251.1 bt251.2.1 bt251.2.2 true))))) else (none)) else (none))))) else (some false))
theorem pacesetterlaw04_FrameCuts.mono_l : ∀ k, (∀ y0 y1 y2 y3 y4 y5, LeO (pacesetterlaw04_FrameCuts.j0 k y0 y1 y2 y3 y4 y5) (pacesetterlaw04_FrameCuts.j0 (k + 1) y0 y1 y2 y3 y4 y5))
  | 0 => fun _ _ _ _ _ _ r h => by simp [pacesetterlaw04_FrameCuts.j0] at h
  | k + 1 => by
    have ih0 := pacesetterlaw04_FrameCuts.mono_l k
    · intro y0 y1 y2 y3 y4 y5
      unfold pacesetterlaw04_FrameCuts.j0
      repeat' first
      | (with_reducible exact ih0 _ _ _ _ _ _)
      | (with_reducible exact pacesetterlaw04_lives.mono _)
      | (with_reducible exact pacesetterref04_All.mono _ _)
      | (with_reducible exact pacesetterref04_Good.mono _ _ _)
      | (with_reducible exact pacesetterref04_Same.mono _ _ _)
      | (with_reducible exact LeO.refl _)
      | (with_reducible exact LeO.none _)
      | (with_reducible refine LeO.ite ?_ ?_)
      | (with_reducible refine LeO.bind ?_ (fun _ => ?_))
      | exact ih0 _ _ _ _ _ _
      | exact pacesetterlaw04_lives.mono _
      | exact pacesetterref04_All.mono _ _
      | exact pacesetterref04_Good.mono _ _ _
      | exact pacesetterref04_Same.mono _ _ _
      | exact LeO.none _
      | refine LeO.ite ?_ ?_
      | refine LeO.bind ?_ (fun _ => ?_)
theorem pacesetterlaw04_FrameCuts.mono : ∀ a0 a1 k, LeO (pacesetterlaw04_FrameCuts.f k a0 a1) (pacesetterlaw04_FrameCuts.f (k + 1) a0 a1) := by
  intro a0 a1 k
  have ih0 := pacesetterlaw04_FrameCuts.mono_l k
  unfold pacesetterlaw04_FrameCuts.f
  repeat' first
      | (with_reducible exact ih0 _ _ _ _ _ _)
      | (with_reducible exact pacesetterlaw04_lives.mono _)
      | (with_reducible exact pacesetterref04_All.mono _ _)
      | (with_reducible exact pacesetterref04_Good.mono _ _ _)
      | (with_reducible exact pacesetterref04_Same.mono _ _ _)
      | (with_reducible exact LeO.refl _)
      | (with_reducible exact LeO.none _)
      | (with_reducible refine LeO.ite ?_ ?_)
      | (with_reducible refine LeO.bind ?_ (fun _ => ?_))
      | exact ih0 _ _ _ _ _ _
      | exact pacesetterlaw04_lives.mono _
      | exact pacesetterref04_All.mono _ _
      | exact pacesetterref04_Good.mono _ _ _
      | exact pacesetterref04_Same.mono _ _ _
      | exact LeO.none _
      | refine LeO.ite ?_ ?_
      | refine LeO.bind ?_ (fun _ => ?_)
set_option maxHeartbeats 8000000 in
set_option maxRecDepth 100000 in
theorem pacesetterlaw04_FrameCuts.calls (k : Nat) (A0 : Option Addr) (c0 : Nat) (l0 : List (List Int)) (a1 : Int) (r : Bool) (w : World) (hr0 : Kd.C (Kd.slice 5 (Kd.int .u8)) w A0 l0.length l0) (hc0 : l0.length ≤ c0) (h : pacesetterlaw04_FrameCuts.f k l0 a1 = some r) :
    Calls Try.prog 17 #[.slice A0 l0.length c0, .int .i64 a1] w fun e w' => e = .returned (.bool r) ∧ Below w.heap.size w w' := by
  have HR0 := Aside0.mk hr0
  have HC0 := Aside0.mk hc0
  clear hr0 hc0
  have HB := Aside0.mk (Below.refl w.heap.size w)
  have H : ((pacesetterlaw04_lives.f k).bind fun t239 => (if t239 = true then ((pacesetterref04_Good.f k l0 8).bind fun t240 => ((pacesetterref04_All.f k t240).bind fun t243 => (if (IntKind.u64.wrap (wrap64 ((t243.length : Int) + 1))) = 0 then (none) else (if 0 ≤ (wrap64 (Int.tmod (IntKind.u64.wrap (a1)) (IntKind.u64.wrap (wrap64 ((t243.length : Int) + 1))))) then (if (wrap64 (Int.tmod (IntKind.u64.wrap (a1)) (IntKind.u64.wrap (wrap64 ((t243.length : Int) + 1))))) ≤ (t243.length : Int) then ((frame_Scan.f (t243.take ((wrap64 (Int.tmod (IntKind.u64.wrap (a1)) (IntKind.u64.wrap (wrap64 ((t243.length : Int) + 1))))) : Int).toNat)).bind fun bt251 => ((frame_Scan.f t243).bind fun bt256 => ((pacesetterref04_Same.f k bt256.1 t240).bind fun t261 => (if t261 = true then (if bt256.2.1 = (t243.length : Int) then (if bt256.2.2 = 0 then (if (bt251.1.length : Int) > (t240.length : Int) then (pacesetterlaw04_FrameCuts.j0 k t240 (wrap64 (Int.tmod (IntKind.u64.wrap (a1)) (IntKind.u64.wrap (wrap64 ((t243.length : Int) + 1))))) bt251.1 bt251.2.1 bt251.2.2 true) else (if 0 ≤ (bt251.1.length : Int) then (if (bt251.1.length : Int) ≤ (t240.length : Int) then ((pacesetterref04_Same.f k bt251.1 (t240.take ((bt251.1.length : Int) : Int).toNat)).bind fun t267 => (if t267 = true then (pacesetterlaw04_FrameCuts.j0 k t240 (wrap64 (Int.tmod (IntKind.u64.wrap (a1)) (IntKind.u64.wrap (wrap64 ((t243.length : Int) + 1))))) bt251.1 bt251.2.1 bt251.2.2 (decide (bt251.2.1 > (wrap64 (Int.tmod (IntKind.u64.wrap (a1)) (IntKind.u64.wrap (wrap64 ((t243.length : Int) + 1)))))))) else (pacesetterlaw04_FrameCuts.j0 k t240 (wrap64 (Int.tmod (IntKind.u64.wrap (a1)) (IntKind.u64.wrap (wrap64 ((t243.length : Int) + 1))))) bt251.1 bt251.2.1 bt251.2.2 true))) else (none)) else (none))) else (pacesetterlaw04_FrameCuts.j0 k t240 (wrap64 (Int.tmod (IntKind.u64.wrap (a1)) (IntKind.u64.wrap (wrap64 ((t243.length : Int) + 1))))) bt251.1 bt251.2.1 bt251.2.2 true)) else (pacesetterlaw04_FrameCuts.j0 k t240 (wrap64 (Int.tmod (IntKind.u64.wrap (a1)) (IntKind.u64.wrap (wrap64 ((t243.length : Int) + 1))))) bt251.1 bt251.2.1 bt251.2.2 true)) else (pacesetterlaw04_FrameCuts.j0 k t240 (wrap64 (Int.tmod (IntKind.u64.wrap (a1)) (IntKind.u64.wrap (wrap64 ((t243.length : Int) + 1))))) bt251.1 bt251.2.1 bt251.2.2 true))))) else (none)) else (none))))) else (some false))) = some r := h
  clear h
  replace H := Option.bind_eq_some_iff.mp H
  obtain ⟨t239, A30, H⟩ := H
  replace H : (if t239 = true then ((pacesetterref04_Good.f k l0 8).bind fun t240 => ((pacesetterref04_All.f k t240).bind fun t243 => (if (IntKind.u64.wrap (wrap64 ((t243.length : Int) + 1))) = 0 then (none) else (if 0 ≤ (wrap64 (Int.tmod (IntKind.u64.wrap (a1)) (IntKind.u64.wrap (wrap64 ((t243.length : Int) + 1))))) then (if (wrap64 (Int.tmod (IntKind.u64.wrap (a1)) (IntKind.u64.wrap (wrap64 ((t243.length : Int) + 1))))) ≤ (t243.length : Int) then ((frame_Scan.f (t243.take ((wrap64 (Int.tmod (IntKind.u64.wrap (a1)) (IntKind.u64.wrap (wrap64 ((t243.length : Int) + 1))))) : Int).toNat)).bind fun bt251 => ((frame_Scan.f t243).bind fun bt256 => ((pacesetterref04_Same.f k bt256.1 t240).bind fun t261 => (if t261 = true then (if bt256.2.1 = (t243.length : Int) then (if bt256.2.2 = 0 then (if (bt251.1.length : Int) > (t240.length : Int) then (pacesetterlaw04_FrameCuts.j0 k t240 (wrap64 (Int.tmod (IntKind.u64.wrap (a1)) (IntKind.u64.wrap (wrap64 ((t243.length : Int) + 1))))) bt251.1 bt251.2.1 bt251.2.2 true) else (if 0 ≤ (bt251.1.length : Int) then (if (bt251.1.length : Int) ≤ (t240.length : Int) then ((pacesetterref04_Same.f k bt251.1 (t240.take ((bt251.1.length : Int) : Int).toNat)).bind fun t267 => (if t267 = true then (pacesetterlaw04_FrameCuts.j0 k t240 (wrap64 (Int.tmod (IntKind.u64.wrap (a1)) (IntKind.u64.wrap (wrap64 ((t243.length : Int) + 1))))) bt251.1 bt251.2.1 bt251.2.2 (decide (bt251.2.1 > (wrap64 (Int.tmod (IntKind.u64.wrap (a1)) (IntKind.u64.wrap (wrap64 ((t243.length : Int) + 1)))))))) else (pacesetterlaw04_FrameCuts.j0 k t240 (wrap64 (Int.tmod (IntKind.u64.wrap (a1)) (IntKind.u64.wrap (wrap64 ((t243.length : Int) + 1))))) bt251.1 bt251.2.1 bt251.2.2 true))) else (none)) else (none))) else (pacesetterlaw04_FrameCuts.j0 k t240 (wrap64 (Int.tmod (IntKind.u64.wrap (a1)) (IntKind.u64.wrap (wrap64 ((t243.length : Int) + 1))))) bt251.1 bt251.2.1 bt251.2.2 true)) else (pacesetterlaw04_FrameCuts.j0 k t240 (wrap64 (Int.tmod (IntKind.u64.wrap (a1)) (IntKind.u64.wrap (wrap64 ((t243.length : Int) + 1))))) bt251.1 bt251.2.1 bt251.2.2 true)) else (pacesetterlaw04_FrameCuts.j0 k t240 (wrap64 (Int.tmod (IntKind.u64.wrap (a1)) (IntKind.u64.wrap (wrap64 ((t243.length : Int) + 1))))) bt251.1 bt251.2.1 bt251.2.2 true))))) else (none)) else (none))))) else (some false)) = some r := H
  have A3 := Aside0.mk A30
  clear A30
  by_cases c4 : t239 = true
  · subst c4
    have H1 : ((pacesetterref04_Good.f k l0 8).bind fun t240 => ((pacesetterref04_All.f k t240).bind fun t243 => (if (IntKind.u64.wrap (wrap64 ((t243.length : Int) + 1))) = 0 then (none) else (if 0 ≤ (wrap64 (Int.tmod (IntKind.u64.wrap (a1)) (IntKind.u64.wrap (wrap64 ((t243.length : Int) + 1))))) then (if (wrap64 (Int.tmod (IntKind.u64.wrap (a1)) (IntKind.u64.wrap (wrap64 ((t243.length : Int) + 1))))) ≤ (t243.length : Int) then ((frame_Scan.f (t243.take ((wrap64 (Int.tmod (IntKind.u64.wrap (a1)) (IntKind.u64.wrap (wrap64 ((t243.length : Int) + 1))))) : Int).toNat)).bind fun bt251 => ((frame_Scan.f t243).bind fun bt256 => ((pacesetterref04_Same.f k bt256.1 t240).bind fun t261 => (if t261 = true then (if bt256.2.1 = (t243.length : Int) then (if bt256.2.2 = 0 then (if (bt251.1.length : Int) > (t240.length : Int) then (pacesetterlaw04_FrameCuts.j0 k t240 (wrap64 (Int.tmod (IntKind.u64.wrap (a1)) (IntKind.u64.wrap (wrap64 ((t243.length : Int) + 1))))) bt251.1 bt251.2.1 bt251.2.2 true) else (if 0 ≤ (bt251.1.length : Int) then (if (bt251.1.length : Int) ≤ (t240.length : Int) then ((pacesetterref04_Same.f k bt251.1 (t240.take ((bt251.1.length : Int) : Int).toNat)).bind fun t267 => (if t267 = true then (pacesetterlaw04_FrameCuts.j0 k t240 (wrap64 (Int.tmod (IntKind.u64.wrap (a1)) (IntKind.u64.wrap (wrap64 ((t243.length : Int) + 1))))) bt251.1 bt251.2.1 bt251.2.2 (decide (bt251.2.1 > (wrap64 (Int.tmod (IntKind.u64.wrap (a1)) (IntKind.u64.wrap (wrap64 ((t243.length : Int) + 1)))))))) else (pacesetterlaw04_FrameCuts.j0 k t240 (wrap64 (Int.tmod (IntKind.u64.wrap (a1)) (IntKind.u64.wrap (wrap64 ((t243.length : Int) + 1))))) bt251.1 bt251.2.1 bt251.2.2 true))) else (none)) else (none))) else (pacesetterlaw04_FrameCuts.j0 k t240 (wrap64 (Int.tmod (IntKind.u64.wrap (a1)) (IntKind.u64.wrap (wrap64 ((t243.length : Int) + 1))))) bt251.1 bt251.2.1 bt251.2.2 true)) else (pacesetterlaw04_FrameCuts.j0 k t240 (wrap64 (Int.tmod (IntKind.u64.wrap (a1)) (IntKind.u64.wrap (wrap64 ((t243.length : Int) + 1))))) bt251.1 bt251.2.1 bt251.2.2 true)) else (pacesetterlaw04_FrameCuts.j0 k t240 (wrap64 (Int.tmod (IntKind.u64.wrap (a1)) (IntKind.u64.wrap (wrap64 ((t243.length : Int) + 1))))) bt251.1 bt251.2.1 bt251.2.2 true))))) else (none)) else (none))))) = some r := by rw [if_pos rfl] at H; exact H
    clear H
    have H := H1
    clear H1
    replace H := Option.bind_eq_some_iff.mp H
    obtain ⟨t240, A50, H⟩ := H
    replace H : ((pacesetterref04_All.f k t240).bind fun t243 => (if (IntKind.u64.wrap (wrap64 ((t243.length : Int) + 1))) = 0 then (none) else (if 0 ≤ (wrap64 (Int.tmod (IntKind.u64.wrap (a1)) (IntKind.u64.wrap (wrap64 ((t243.length : Int) + 1))))) then (if (wrap64 (Int.tmod (IntKind.u64.wrap (a1)) (IntKind.u64.wrap (wrap64 ((t243.length : Int) + 1))))) ≤ (t243.length : Int) then ((frame_Scan.f (t243.take ((wrap64 (Int.tmod (IntKind.u64.wrap (a1)) (IntKind.u64.wrap (wrap64 ((t243.length : Int) + 1))))) : Int).toNat)).bind fun bt251 => ((frame_Scan.f t243).bind fun bt256 => ((pacesetterref04_Same.f k bt256.1 t240).bind fun t261 => (if t261 = true then (if bt256.2.1 = (t243.length : Int) then (if bt256.2.2 = 0 then (if (bt251.1.length : Int) > (t240.length : Int) then (pacesetterlaw04_FrameCuts.j0 k t240 (wrap64 (Int.tmod (IntKind.u64.wrap (a1)) (IntKind.u64.wrap (wrap64 ((t243.length : Int) + 1))))) bt251.1 bt251.2.1 bt251.2.2 true) else (if 0 ≤ (bt251.1.length : Int) then (if (bt251.1.length : Int) ≤ (t240.length : Int) then ((pacesetterref04_Same.f k bt251.1 (t240.take ((bt251.1.length : Int) : Int).toNat)).bind fun t267 => (if t267 = true then (pacesetterlaw04_FrameCuts.j0 k t240 (wrap64 (Int.tmod (IntKind.u64.wrap (a1)) (IntKind.u64.wrap (wrap64 ((t243.length : Int) + 1))))) bt251.1 bt251.2.1 bt251.2.2 (decide (bt251.2.1 > (wrap64 (Int.tmod (IntKind.u64.wrap (a1)) (IntKind.u64.wrap (wrap64 ((t243.length : Int) + 1)))))))) else (pacesetterlaw04_FrameCuts.j0 k t240 (wrap64 (Int.tmod (IntKind.u64.wrap (a1)) (IntKind.u64.wrap (wrap64 ((t243.length : Int) + 1))))) bt251.1 bt251.2.1 bt251.2.2 true))) else (none)) else (none))) else (pacesetterlaw04_FrameCuts.j0 k t240 (wrap64 (Int.tmod (IntKind.u64.wrap (a1)) (IntKind.u64.wrap (wrap64 ((t243.length : Int) + 1))))) bt251.1 bt251.2.1 bt251.2.2 true)) else (pacesetterlaw04_FrameCuts.j0 k t240 (wrap64 (Int.tmod (IntKind.u64.wrap (a1)) (IntKind.u64.wrap (wrap64 ((t243.length : Int) + 1))))) bt251.1 bt251.2.1 bt251.2.2 true)) else (pacesetterlaw04_FrameCuts.j0 k t240 (wrap64 (Int.tmod (IntKind.u64.wrap (a1)) (IntKind.u64.wrap (wrap64 ((t243.length : Int) + 1))))) bt251.1 bt251.2.1 bt251.2.2 true))))) else (none)) else (none)))) = some r := H
    have A5 := Aside0.mk A50
    clear A50
    replace H := Option.bind_eq_some_iff.mp H
    obtain ⟨t243, A60, H⟩ := H
    replace H : (if (IntKind.u64.wrap (wrap64 ((t243.length : Int) + 1))) = 0 then (none) else (if 0 ≤ (wrap64 (Int.tmod (IntKind.u64.wrap (a1)) (IntKind.u64.wrap (wrap64 ((t243.length : Int) + 1))))) then (if (wrap64 (Int.tmod (IntKind.u64.wrap (a1)) (IntKind.u64.wrap (wrap64 ((t243.length : Int) + 1))))) ≤ (t243.length : Int) then ((frame_Scan.f (t243.take ((wrap64 (Int.tmod (IntKind.u64.wrap (a1)) (IntKind.u64.wrap (wrap64 ((t243.length : Int) + 1))))) : Int).toNat)).bind fun bt251 => ((frame_Scan.f t243).bind fun bt256 => ((pacesetterref04_Same.f k bt256.1 t240).bind fun t261 => (if t261 = true then (if bt256.2.1 = (t243.length : Int) then (if bt256.2.2 = 0 then (if (bt251.1.length : Int) > (t240.length : Int) then (pacesetterlaw04_FrameCuts.j0 k t240 (wrap64 (Int.tmod (IntKind.u64.wrap (a1)) (IntKind.u64.wrap (wrap64 ((t243.length : Int) + 1))))) bt251.1 bt251.2.1 bt251.2.2 true) else (if 0 ≤ (bt251.1.length : Int) then (if (bt251.1.length : Int) ≤ (t240.length : Int) then ((pacesetterref04_Same.f k bt251.1 (t240.take ((bt251.1.length : Int) : Int).toNat)).bind fun t267 => (if t267 = true then (pacesetterlaw04_FrameCuts.j0 k t240 (wrap64 (Int.tmod (IntKind.u64.wrap (a1)) (IntKind.u64.wrap (wrap64 ((t243.length : Int) + 1))))) bt251.1 bt251.2.1 bt251.2.2 (decide (bt251.2.1 > (wrap64 (Int.tmod (IntKind.u64.wrap (a1)) (IntKind.u64.wrap (wrap64 ((t243.length : Int) + 1)))))))) else (pacesetterlaw04_FrameCuts.j0 k t240 (wrap64 (Int.tmod (IntKind.u64.wrap (a1)) (IntKind.u64.wrap (wrap64 ((t243.length : Int) + 1))))) bt251.1 bt251.2.1 bt251.2.2 true))) else (none)) else (none))) else (pacesetterlaw04_FrameCuts.j0 k t240 (wrap64 (Int.tmod (IntKind.u64.wrap (a1)) (IntKind.u64.wrap (wrap64 ((t243.length : Int) + 1))))) bt251.1 bt251.2.1 bt251.2.2 true)) else (pacesetterlaw04_FrameCuts.j0 k t240 (wrap64 (Int.tmod (IntKind.u64.wrap (a1)) (IntKind.u64.wrap (wrap64 ((t243.length : Int) + 1))))) bt251.1 bt251.2.1 bt251.2.2 true)) else (pacesetterlaw04_FrameCuts.j0 k t240 (wrap64 (Int.tmod (IntKind.u64.wrap (a1)) (IntKind.u64.wrap (wrap64 ((t243.length : Int) + 1))))) bt251.1 bt251.2.1 bt251.2.2 true))))) else (none)) else (none))) = some r := H
    have A6 := Aside0.mk A60
    clear A60
    by_cases c7 : (IntKind.u64.wrap (wrap64 ((t243.length : Int) + 1))) = 0
    · rw [if_pos c7] at H
      exact absurd H (by simp)
    · rw [if_neg c7] at H
      have c7b0 : ((IntKind.u64.wrap (wrap64 ((t243.length : Int) + 1))) == 0) = false := beq_eq_false_iff_ne.mpr c7
      have c7b1 : ((IntKind.u64.wrap (wrap64 ((t243.length : Int) + 1))) != 0) = true := bne_iff_ne.mpr c7
      obtain ⟨ji8, hji8⟩ : ∃ j_ : Int, (wrap64 (Int.tmod (IntKind.u64.wrap (a1)) (IntKind.u64.wrap (wrap64 ((t243.length : Int) + 1))))) = j_ := ⟨_, rfl⟩
      replace H : (if 0 ≤ (ji8) then (if (ji8) ≤ (t243.length : Int) then ((frame_Scan.f (t243.take ((ji8) : Int).toNat)).bind fun bt251 => ((frame_Scan.f t243).bind fun bt256 => ((pacesetterref04_Same.f k bt256.1 t240).bind fun t261 => (if t261 = true then (if bt256.2.1 = (t243.length : Int) then (if bt256.2.2 = 0 then (if (bt251.1.length : Int) > (t240.length : Int) then (pacesetterlaw04_FrameCuts.j0 k t240 ji8 bt251.1 bt251.2.1 bt251.2.2 true) else (if 0 ≤ (bt251.1.length : Int) then (if (bt251.1.length : Int) ≤ (t240.length : Int) then ((pacesetterref04_Same.f k bt251.1 (t240.take ((bt251.1.length : Int) : Int).toNat)).bind fun t267 => (if t267 = true then (pacesetterlaw04_FrameCuts.j0 k t240 ji8 bt251.1 bt251.2.1 bt251.2.2 (decide (bt251.2.1 > (ji8)))) else (pacesetterlaw04_FrameCuts.j0 k t240 ji8 bt251.1 bt251.2.1 bt251.2.2 true))) else (none)) else (none))) else (pacesetterlaw04_FrameCuts.j0 k t240 ji8 bt251.1 bt251.2.1 bt251.2.2 true)) else (pacesetterlaw04_FrameCuts.j0 k t240 ji8 bt251.1 bt251.2.1 bt251.2.2 true)) else (pacesetterlaw04_FrameCuts.j0 k t240 ji8 bt251.1 bt251.2.1 bt251.2.2 true))))) else (none)) else (none)) = some r := by first | (rw [hji8] at H; exact H) | (simp only [hji8] at H ⊢; exact H)
      (try rw [hji8] at A3)
      (try rw [hji8] at A5)
      (try rw [hji8] at A6)
      have hji8w : (IntKind.i64.wrap (Int.tmod (IntKind.u64.wrap (a1)) (IntKind.u64.wrap (wrap64 ((t243.length : Int) + 1))))) = ji8 := (i64_w _).trans hji8
      by_cases c9 : 0 ≤ (ji8)
      · rw [if_pos c9] at H
        have c9b0 := eq_true c9
        have c9b1 : decide (0 ≤ (ji8)) = true := decide_eq_true c9
        clear c9
        by_cases c10 : (ji8) ≤ (t243.length : Int)
        · rw [if_pos c10] at H
          have c10b0 := eq_true c10
          have c10b1 : decide ((ji8) ≤ (t243.length : Int)) = true := decide_eq_true c10
          clear c10
          obtain ⟨y246, hy246⟩ : ∃ y_ : List Int, y_ = (t243.take ((ji8) : Int).toNat) := ⟨_, rfl⟩
          replace H : ((frame_Scan.f y246).bind fun bt251 => ((frame_Scan.f t243).bind fun bt256 => ((pacesetterref04_Same.f k bt256.1 t240).bind fun t261 => (if t261 = true then (if bt256.2.1 = (t243.length : Int) then (if bt256.2.2 = 0 then (if (bt251.1.length : Int) > (t240.length : Int) then (pacesetterlaw04_FrameCuts.j0 k t240 ji8 bt251.1 bt251.2.1 bt251.2.2 true) else (if 0 ≤ (bt251.1.length : Int) then (if (bt251.1.length : Int) ≤ (t240.length : Int) then ((pacesetterref04_Same.f k bt251.1 (t240.take ((bt251.1.length : Int) : Int).toNat)).bind fun t267 => (if t267 = true then (pacesetterlaw04_FrameCuts.j0 k t240 ji8 bt251.1 bt251.2.1 bt251.2.2 (decide (bt251.2.1 > (ji8)))) else (pacesetterlaw04_FrameCuts.j0 k t240 ji8 bt251.1 bt251.2.1 bt251.2.2 true))) else (none)) else (none))) else (pacesetterlaw04_FrameCuts.j0 k t240 ji8 bt251.1 bt251.2.1 bt251.2.2 true)) else (pacesetterlaw04_FrameCuts.j0 k t240 ji8 bt251.1 bt251.2.1 bt251.2.2 true)) else (pacesetterlaw04_FrameCuts.j0 k t240 ji8 bt251.1 bt251.2.1 bt251.2.2 true))))) = some r := by first | (rw [hy246]; with_reducible exact H) | (have H2_ := (Option.bind_some _ _).symm.trans H; rw [hy246]; with_reducible exact H2_) | (have H2_ := (Option.bind_some _ _).symm.trans H; with_reducible exact H2_) | with_reducible exact H | (rw [hy246]; exact H) | exact H
          have Ny246 := Aside0.mk hy246
          clear hy246
          replace H := Option.bind_eq_some_iff.mp H
          obtain ⟨⟨t251, t252, t253⟩, A110, H⟩ := H
          replace H : ((frame_Scan.f t243).bind fun bt256 => ((pacesetterref04_Same.f k bt256.1 t240).bind fun t261 => (if t261 = true then (if bt256.2.1 = (t243.length : Int) then (if bt256.2.2 = 0 then (if (t251.length : Int) > (t240.length : Int) then (pacesetterlaw04_FrameCuts.j0 k t240 ji8 t251 t252 t253 true) else (if 0 ≤ (t251.length : Int) then (if (t251.length : Int) ≤ (t240.length : Int) then ((pacesetterref04_Same.f k t251 (t240.take ((t251.length : Int) : Int).toNat)).bind fun t267 => (if t267 = true then (pacesetterlaw04_FrameCuts.j0 k t240 ji8 t251 t252 t253 (decide (t252 > (ji8)))) else (pacesetterlaw04_FrameCuts.j0 k t240 ji8 t251 t252 t253 true))) else (none)) else (none))) else (pacesetterlaw04_FrameCuts.j0 k t240 ji8 t251 t252 t253 true)) else (pacesetterlaw04_FrameCuts.j0 k t240 ji8 t251 t252 t253 true)) else (pacesetterlaw04_FrameCuts.j0 k t240 ji8 t251 t252 t253 true)))) = some r := H
          have A11 := Aside0.mk A110
          clear A110
          replace H := Option.bind_eq_some_iff.mp H
          obtain ⟨⟨t256, t257, t258⟩, A120, H⟩ := H
          replace H : ((pacesetterref04_Same.f k t256 t240).bind fun t261 => (if t261 = true then (if t257 = (t243.length : Int) then (if t258 = 0 then (if (t251.length : Int) > (t240.length : Int) then (pacesetterlaw04_FrameCuts.j0 k t240 ji8 t251 t252 t253 true) else (if 0 ≤ (t251.length : Int) then (if (t251.length : Int) ≤ (t240.length : Int) then ((pacesetterref04_Same.f k t251 (t240.take ((t251.length : Int) : Int).toNat)).bind fun t267 => (if t267 = true then (pacesetterlaw04_FrameCuts.j0 k t240 ji8 t251 t252 t253 (decide (t252 > (ji8)))) else (pacesetterlaw04_FrameCuts.j0 k t240 ji8 t251 t252 t253 true))) else (none)) else (none))) else (pacesetterlaw04_FrameCuts.j0 k t240 ji8 t251 t252 t253 true)) else (pacesetterlaw04_FrameCuts.j0 k t240 ji8 t251 t252 t253 true)) else (pacesetterlaw04_FrameCuts.j0 k t240 ji8 t251 t252 t253 true))) = some r := H
          have A12 := Aside0.mk A120
          clear A120
          have HC13 := Aside0.mk H
          clear H
          go_enter Try.func17, Try.ntmps17
          go_upto_region 8 with (first | ((with_reducible refine gate_callee (f := 60) rfl ?_); refine goesL_ (some 15) rfl rfl Try.func60 (by kernel_rfl) rfl #[] rfl (by (try simp only [List.map_toArray, List.map_cons, List.map_nil]); first | done | rfl | (simp only [List.length_drop, List.length_take]; rfl)) ?_; (with_reducible refine (pacesetterlaw04_lives.calls k  true _ A3.out).mono ?_); rintro e w14 ⟨rfl, hb⟩; refine ⟨_, rfl, ?_⟩; have n0_ := Aside0.mk (below_step (by repeat (first | (with_reducible first | exact HB.out | apply below_alloc | apply pw_below_drewN | apply below_drew1) | exact HB.out)) hb); clear HB; have HB := n0_; clear n0_; (try clear hb); (try clear hb2); (try clear hk); (try clear hi)) | ((with_reducible refine gate_callee (f := 66) rfl ?_); refine goesL_ (some 18) rfl rfl Try.func66 (by kernel_rfl) rfl #[.slice A0 l0.length c0, .int .i64 8] rfl (by (try simp only [List.map_toArray, List.map_cons, List.map_nil]); first | done | rfl | (simp only [List.length_drop, List.length_take]; rfl)) ?_; (with_reducible refine (pacesetterref04_Good.calls k (fun k_ => k_ < w.heap.size) _ _ l0 8 t240 _ ?side1 A5.out).mono ?_); (case side1 => exact Kd.V_mk HC0.out (Kd.F_below (Kd.C_F (Kd.heap_slice 5 (Kd.heap_int .u8)) HR0.out) (by repeat (first | (with_reducible first | exact HB.out | apply below_alloc | apply pw_below_drewN | apply below_drew1) | exact HB.out)))); rintro e w15 ⟨v241, rfl, ho0, hb⟩; refine ⟨_, rfl, ?_⟩; have n0_ := Aside0.mk (Kd.N_lower (Kd.N_mono (ok' := fun k_ => True) ho0 (fun k_ hk_ => trivial)) (below_size (by repeat (first | (with_reducible first | exact HB.out | apply below_alloc | apply pw_below_drewN | apply below_drew1) | exact HB.out)))); have n1_ := Aside0.mk (below_step (by repeat (first | (with_reducible first | exact HB.out | apply below_alloc | apply pw_below_drewN | apply below_drew1) | exact HB.out)) hb); clear HB; have HO242 := n0_; have HB := n1_; clear n0_ n1_; (try clear hb); (try clear hb2); (try clear hk); (try clear hi); (try clear ho0); obtain ⟨Ao16, co16, eo16⟩ := Kd.N_slice HO242.out; subst eo16) | ((with_reducible refine gate_callee (f := 67) rfl ?_); refine goesL_ (some 20) rfl rfl Try.func67 (by kernel_rfl) rfl #[.slice Ao16 t240.length co16] rfl (by (try simp only [List.map_toArray, List.map_cons, List.map_nil]); first | done | rfl | (simp only [List.length_drop, List.length_take]; rfl)) ?_; (with_reducible refine (pacesetterref04_All.calls k _ _ t240 t243 _ ?side1 ?side2 A6.out).mono ?_); (case side1 => repeat (first | exact (Kd.N_reads' HO242.out).2.2 | (with_reducible refine Kd.C_alloc ?_ _) | (with_reducible refine Kd.C_drewN ?_ _) | (with_reducible refine Kd.C_drew ?_))); (case side2 => exact (Kd.N_reads' HO242.out).2.1); rintro e w17 ⟨v244, rfl, ho0, hb⟩; refine ⟨_, rfl, ?_⟩; have n0_ := Aside0.mk (Kd.N_elder' (by (with_reducible repeat (first | apply Kd.N_alloc | apply Kd.N_drewN | apply Kd.N_drew)); exact HO242.out) (Kd.R_base ho0) hb); have n1_ := Aside0.mk (Kd.R_lower ho0 (below_size (by repeat (first | (with_reducible first | exact HB.out | apply below_alloc | apply pw_below_drewN | apply below_drew1) | exact HB.out)))); have n2_ := Aside0.mk (below_step (by repeat (first | (with_reducible first | exact HB.out | apply below_alloc | apply pw_below_drewN | apply below_drew1) | exact HB.out)) hb); clear HO242; clear HB; have HO242 := n0_; have HO245 := n1_; have HB := n2_; clear n0_ n1_ n2_; (try clear hb); (try clear hb2); (try clear hk); (try clear hi); (try clear ho0); obtain ⟨Ao18, co18, eo18⟩ := Kd.R_slice HO245.out; subst eo18; have q19 : ((ji8) : Int) ≤ ((t243.length : Int) : Int) := of_decide_eq_true (by first | (with_reducible assumption) | assumption); obtain ⟨i019, hi019, _, hsz19, _⟩ := info_parts info5; have hroom19 : t243.length ≤ co18 := (Kd.R_reads' HO245.out).2.1; have hC19 : Kd.F (Kd.int .u8) _ _ Ao18 t243.length t243 := (Kd.V_at (base := w.heap.size) (Kd.R_V (Kd.R_apart' (HO245.out) (Kd.N_typed HO242.out) (by decide)))).2.2; have hcut19 := cut_to (P := Try.prog) 22 5 .i64 Try.underlying22 hi019 Ao18 t243.length co18 (ji8) (of_decide_eq_true (by first | (with_reducible assumption) | assumption)) q19 hroom19; have hr19 := Kd.F_take (m := ((ji8) : Int).toNat) hC19 (by omega); have hy19 : y246.length = ((ji8) : Int).toNat := (by rw [Ny246.out, List.length_take]; omega); rw [← Ny246.out] at hr19; rw [← hy19] at hcut19; have HO250 := Aside0.mk (show Kd.V (Kd.int .u8) 5 _ w.heap.size _ (.slice Ao18 y246.length co18) y246 from Kd.V_mk (by omega) hr19); have HC250 := Aside0.mk (show y246.length ≤ co18 from by omega); clear hr19 hC19 hroom19 hi019 hsz19; have KY19 := Aside0.mk hy19; clear hy19; replace q19 := eq_true q19) | ((with_reducible refine gate_callee (f := 68) rfl ?_); refine goesL_ (some 33) rfl rfl Try.func68 (by kernel_rfl) rfl #[.slice Ao18 y246.length co18] rfl (by (try simp only [List.map_toArray, List.map_cons, List.map_nil]); first | done | rfl | (simp only [List.length_drop, List.length_take]; rfl)) ?_; (with_reducible refine (frame_Scan.calls _ _ y246 t251 t252 t253 _ ?side1 ?side2 A11.out).mono ?_); (case side1 => repeat (first | exact (Kd.V_reads' HO250.out).2.2 | (with_reducible refine Kd.C_alloc ?_ _) | (with_reducible refine Kd.C_drewN ?_ _) | (with_reducible refine Kd.C_drew ?_))); (case side2 => exact (Kd.V_reads' HO250.out).2.1); rintro e w20 ⟨v254, rfl, ho0, hb⟩; refine ⟨_, rfl, ?_⟩; have n0_ := Aside0.mk (Kd.N_elder' (by (with_reducible repeat (first | apply Kd.N_alloc | apply Kd.N_drewN | apply Kd.N_drew)); exact HO242.out) (Kd.S_base ho0) hb); have n1_ := Aside0.mk (Kd.R_below (by (with_reducible repeat (first | apply Kd.R_alloc | apply Kd.R_drewN | apply Kd.R_drew)); exact HO245.out) hb); have n2_ := Aside0.mk (Kd.V_elder' (by (with_reducible repeat (first | apply Kd.V_alloc | apply Kd.V_drewN | apply Kd.V_drew)); exact HO250.out) (Kd.S_base ho0) hb); have n3_ := Aside0.mk (Kd.N_lower (Kd.N_mono (ok' := fun k_ => some k_ ≠ (.slice Ao16 t240.length co16 : Value).ownBlock ∧ some k_ ≠ (.slice Ao18 t243.length co18 : Value).ownBlock) (Kd.S_N (Kd.S_bound ho0)) (fun k_ hk_ => ⟨(Kd.fresh' (Kd.N_lt (by (with_reducible repeat (first | apply Kd.N_alloc | apply Kd.N_drewN | apply Kd.N_drew)); exact HO242.out)) k_ hk_.2.1), (Kd.fresh' (Kd.R_lt (by (with_reducible repeat (first | apply Kd.R_alloc | apply Kd.R_drewN | apply Kd.R_drew)); exact HO245.out)) k_ hk_.2.1)⟩)) (below_size (by repeat (first | (with_reducible first | exact HB.out | apply below_alloc | apply pw_below_drewN | apply below_drew1) | exact HB.out)))); have n4_ := Aside0.mk (below_step (by repeat (first | (with_reducible first | exact HB.out | apply below_alloc | apply pw_below_drewN | apply below_drew1) | exact HB.out)) hb); clear HO242; clear HO245; clear HO250; clear HB; have HO242 := n0_; have HO245 := n1_; have HO250 := n2_; have HO255 := n3_; have HB := n4_; clear n0_ n1_ n2_ n3_ n4_; (try clear hb); (try clear hb2); (try clear hk); (try clear hi); (try clear ho0)) | ((with_reducible refine gate_callee (f := 68) rfl ?_); refine goesL_ (some 39) rfl rfl Try.func68 (by kernel_rfl) rfl #[.slice Ao18 t243.length co18] rfl (by (try simp only [List.map_toArray, List.map_cons, List.map_nil]); first | done | rfl | (simp only [List.length_drop, List.length_take]; rfl)) ?_; (with_reducible refine (frame_Scan.calls _ _ t243 t256 t257 t258 _ ?side1 ?side2 A12.out).mono ?_); (case side1 => repeat (first | exact (Kd.R_reads' HO245.out).2.2 | (with_reducible refine Kd.C_alloc ?_ _) | (with_reducible refine Kd.C_drewN ?_ _) | (with_reducible refine Kd.C_drew ?_))); (case side2 => exact (Kd.R_reads' HO245.out).2.1); rintro e w21 ⟨v259, rfl, ho0, hb⟩; refine ⟨_, rfl, ?_⟩; have n0_ := Aside0.mk (Kd.N_elder' (by (with_reducible repeat (first | apply Kd.N_alloc | apply Kd.N_drewN | apply Kd.N_drew)); exact HO242.out) (Kd.S_base ho0) hb); have n1_ := Aside0.mk (Kd.R_below (by (with_reducible repeat (first | apply Kd.R_alloc | apply Kd.R_drewN | apply Kd.R_drew)); exact HO245.out) hb); have n2_ := Aside0.mk (Kd.V_elder' (by (with_reducible repeat (first | apply Kd.V_alloc | apply Kd.V_drewN | apply Kd.V_drew)); exact HO250.out) (Kd.S_base ho0) hb); have n3_ := Aside0.mk (Kd.N_elder' (by (with_reducible repeat (first | apply Kd.N_alloc | apply Kd.N_drewN | apply Kd.N_drew)); exact HO255.out) (Kd.S_base ho0) hb); have n4_ := Aside0.mk (Kd.N_lower (Kd.N_mono (ok' := fun k_ => some k_ ≠ (.slice Ao16 t240.length co16 : Value).ownBlock ∧ some k_ ≠ (.slice Ao18 t243.length co18 : Value).ownBlock ∧ some k_ ≠ (v254 : Value).ownBlock) (Kd.S_N (Kd.S_bound ho0)) (fun k_ hk_ => ⟨(Kd.fresh' (Kd.N_lt (by (with_reducible repeat (first | apply Kd.N_alloc | apply Kd.N_drewN | apply Kd.N_drew)); exact HO242.out)) k_ hk_.2.1), (Kd.fresh' (Kd.R_lt (by (with_reducible repeat (first | apply Kd.R_alloc | apply Kd.R_drewN | apply Kd.R_drew)); exact HO245.out)) k_ hk_.2.1), (Kd.fresh' (Kd.N_lt (by (with_reducible repeat (first | apply Kd.N_alloc | apply Kd.N_drewN | apply Kd.N_drew)); exact HO255.out)) k_ hk_.2.1)⟩)) (below_size (by repeat (first | (with_reducible first | exact HB.out | apply below_alloc | apply pw_below_drewN | apply below_drew1) | exact HB.out)))); have n5_ := Aside0.mk (below_step (by repeat (first | (with_reducible first | exact HB.out | apply below_alloc | apply pw_below_drewN | apply below_drew1) | exact HB.out)) hb); clear HO242; clear HO245; clear HO250; clear HO255; clear HB; have HO242 := n0_; have HO245 := n1_; have HO250 := n2_; have HO255 := n3_; have HO260 := n4_; have HB := n5_; clear n0_ n1_ n2_ n3_ n4_ n5_; (try clear hb); (try clear hb2); (try clear hk); (try clear hi); (try clear ho0)))
          (try simp only [Act.put, List.setIfInBounds_toArray, List.set_cons_zero, List.set_cons_succ])
          go_cut [77] (fun v77 wc => ∃ (kq : Nat) (x77_12 : Bool), v77 = .bool x77_12 ∧ Aside0 (pacesetterlaw04_FrameCuts.j0 kq t240 ji8 t251 t252 t253 x77_12 = some r) ∧ Aside0 (kq ≤ k) ∧ Aside0 (Kd.N (Kd.slice 5 (Kd.int .u8)) 22 wc w.heap.size (fun k_ => some k_ ≠ (v254 : Value).ownBlock) (.slice Ao16 t240.length co16) t240) ∧ Aside0 (Kd.N (Kd.slice 5 (Kd.int .u8)) 22 wc w.heap.size (fun k_ => some k_ ≠ ((.slice Ao16 t240.length co16) : Value).ownBlock) v254 t251) ∧ Aside0 (Below w.heap.size w wc))
          case first =>
            have H := HC13.out
            clear HC13
            replace H := Option.bind_eq_some_iff.mp H
            obtain ⟨t261, A220, H⟩ := H
            replace H : (if t261 = true then (if t257 = (t243.length : Int) then (if t258 = 0 then (if (t251.length : Int) > (t240.length : Int) then (pacesetterlaw04_FrameCuts.j0 k t240 ji8 t251 t252 t253 true) else (if 0 ≤ (t251.length : Int) then (if (t251.length : Int) ≤ (t240.length : Int) then ((pacesetterref04_Same.f k t251 (t240.take ((t251.length : Int) : Int).toNat)).bind fun t267 => (if t267 = true then (pacesetterlaw04_FrameCuts.j0 k t240 ji8 t251 t252 t253 (decide (t252 > (ji8)))) else (pacesetterlaw04_FrameCuts.j0 k t240 ji8 t251 t252 t253 true))) else (none)) else (none))) else (pacesetterlaw04_FrameCuts.j0 k t240 ji8 t251 t252 t253 true)) else (pacesetterlaw04_FrameCuts.j0 k t240 ji8 t251 t252 t253 true)) else (pacesetterlaw04_FrameCuts.j0 k t240 ji8 t251 t252 t253 true)) = some r := H
            have A22 := Aside0.mk A220
            clear A220
            by_cases c23 : t261 = true
            · subst c23
              have H1 : (if t257 = (t243.length : Int) then (if t258 = 0 then (if (t251.length : Int) > (t240.length : Int) then (pacesetterlaw04_FrameCuts.j0 k t240 ji8 t251 t252 t253 true) else (if 0 ≤ (t251.length : Int) then (if (t251.length : Int) ≤ (t240.length : Int) then ((pacesetterref04_Same.f k t251 (t240.take ((t251.length : Int) : Int).toNat)).bind fun t267 => (if t267 = true then (pacesetterlaw04_FrameCuts.j0 k t240 ji8 t251 t252 t253 (decide (t252 > (ji8)))) else (pacesetterlaw04_FrameCuts.j0 k t240 ji8 t251 t252 t253 true))) else (none)) else (none))) else (pacesetterlaw04_FrameCuts.j0 k t240 ji8 t251 t252 t253 true)) else (pacesetterlaw04_FrameCuts.j0 k t240 ji8 t251 t252 t253 true)) = some r := by rw [if_pos rfl] at H; exact H
              clear H
              have H := H1
              clear H1
              by_cases c24 : t257 = (t243.length : Int)
              · rw [if_pos c24] at H
                have c24b0 : (t257 == (t243.length : Int)) = true := beq_iff_eq.mpr c24
                have c24b1 : (t257 != (t243.length : Int)) = false := bne_eq_false_iff_eq.mpr c24
                clear c24
                (first | rw [c24b0] | (simp only [i64_w, i32_w]; rw [c24b0]) | skip)
                by_cases c25 : t258 = 0
                · rw [if_pos c25] at H
                  have c25b0 : (t258 == 0) = true := beq_iff_eq.mpr c25
                  have c25b1 : (t258 != 0) = false := bne_eq_false_iff_eq.mpr c25
                  clear c25
                  by_cases c26 : (t251.length : Int) > (t240.length : Int)
                  · rw [if_pos c26] at H
                    have c26b0 : decide ((t240.length : Int) < (t251.length : Int)) = true := decide_eq_true c26
                    have c26b1 : decide (t240.length < t251.length) = true := decide_eq_true (Int.ofNat_lt.mp c26)
                    clear c26
                    have H' := Aside0.mk H
                    clear H
                    obtain ⟨Ao27, co27, eo27⟩ := Kd.N_slice HO260.out
                    subst eo27
                    go_wp2_with (first | ((with_reducible refine gate_callee (f := 69) rfl ?_); refine goesL_ (some 45) rfl rfl Try.func69 (by kernel_rfl) rfl #[.slice Ao27 t256.length co27, .slice Ao16 t240.length co16] rfl (by (try simp only [List.map_toArray, List.map_cons, List.map_nil]); first | done | rfl | (simp only [List.length_drop, List.length_take]; rfl)) ?_; (with_reducible refine (pacesetterref04_Same.calls k _ _ t256 _ _ t240 true _ ?side1 ?side2 ?side3 ?side4 A22.out).mono ?_); (case side1 => repeat (first | exact (Kd.N_reads' HO260.out).2.2 | (with_reducible refine Kd.C_alloc ?_ _) | (with_reducible refine Kd.C_drewN ?_ _) | (with_reducible refine Kd.C_drew ?_))); (case side2 => exact (Kd.N_reads' HO260.out).2.1); (case side3 => repeat (first | exact (Kd.N_reads' HO242.out).2.2 | (with_reducible refine Kd.C_alloc ?_ _) | (with_reducible refine Kd.C_drewN ?_ _) | (with_reducible refine Kd.C_drew ?_))); (case side4 => exact (Kd.N_reads' HO242.out).2.1); rintro e w' ⟨rfl, ⟨nd, rfl⟩⟩; refine ⟨_, rfl, ?_⟩; obtain ⟨Ao28, co28, eo28⟩ := Kd.N_slice HO255.out; subst eo28))
                    go_meet
                    case rel => exact ⟨_, (true), (by first | rfl | (simp; done) | (simp [*]; done)), H', ⟨by first | omega | exact Nat.le_refl _⟩, ⟨by (with_reducible repeat (first | apply Kd.N_alloc | apply Kd.N_drewN | apply Kd.N_drew)); exact Kd.N_mono HO242.out (fun _ hk => hk.1.2)⟩, ⟨by (with_reducible repeat (first | apply Kd.N_alloc | apply Kd.N_drewN | apply Kd.N_drew)); exact Kd.N_mono HO255.out (fun _ hk => hk.1.1)⟩, ⟨by repeat (first | (with_reducible first | exact HB.out | apply below_alloc | apply pw_below_drewN | apply below_drew1) | exact HB.out)⟩⟩
                  · rw [if_neg c26] at H
                    have c26b0 : decide ((t240.length : Int) < (t251.length : Int)) = false := decide_eq_false c26
                    have c26b1 : decide (t240.length < t251.length) = false := decide_eq_false (fun h => c26 (Int.ofNat_lt.mpr h))
                    clear c26
                    by_cases c29 : 0 ≤ (t251.length : Int)
                    · rw [if_pos c29] at H
                      have c29b0 := eq_true c29
                      have c29b1 : decide (0 ≤ (t251.length : Int)) = true := decide_eq_true c29
                      clear c29
                      by_cases c30 : (t251.length : Int) ≤ (t240.length : Int)
                      · rw [if_pos c30] at H
                        have c30b0 := eq_true c30
                        have c30b1 : decide ((t251.length : Int) ≤ (t240.length : Int)) = true := decide_eq_true c30
                        clear c30
                        obtain ⟨y262, hy262⟩ : ∃ y_ : List (List Int), y_ = (t240.take ((t251.length : Int) : Int).toNat) := ⟨_, rfl⟩
                        replace H : ((pacesetterref04_Same.f k t251 y262).bind fun t267 => (if t267 = true then (pacesetterlaw04_FrameCuts.j0 k t240 ji8 t251 t252 t253 (decide (t252 > (ji8)))) else (pacesetterlaw04_FrameCuts.j0 k t240 ji8 t251 t252 t253 true))) = some r := by first | (rw [hy262]; with_reducible exact H) | (have H2_ := (Option.bind_some _ _).symm.trans H; rw [hy262]; with_reducible exact H2_) | (have H2_ := (Option.bind_some _ _).symm.trans H; with_reducible exact H2_) | with_reducible exact H | (rw [hy262]; exact H) | exact H
                        have Ny262 := Aside0.mk hy262
                        clear hy262
                        replace H := Option.bind_eq_some_iff.mp H
                        obtain ⟨t267, A310, H⟩ := H
                        replace H : (if t267 = true then (pacesetterlaw04_FrameCuts.j0 k t240 ji8 t251 t252 t253 (decide (t252 > (ji8)))) else (pacesetterlaw04_FrameCuts.j0 k t240 ji8 t251 t252 t253 true)) = some r := H
                        have A31 := Aside0.mk A310
                        clear A310
                        by_cases c32 : t267 = true
                        · subst c32
                          have H1 : (pacesetterlaw04_FrameCuts.j0 k t240 ji8 t251 t252 t253 (decide (t252 > (ji8)))) = some r := by rw [if_pos rfl] at H; exact H
                          clear H
                          have H := H1
                          clear H1
                          have H' := Aside0.mk H
                          clear H
                          obtain ⟨Ao33, co33, eo33⟩ := Kd.N_slice HO260.out
                          subst eo33
                          go_wp2_with (first | ((with_reducible refine gate_callee (f := 69) rfl ?_); refine goesL_ (some 45) rfl rfl Try.func69 (by kernel_rfl) rfl #[.slice Ao33 t256.length co33, .slice Ao16 t240.length co16] rfl (by (try simp only [List.map_toArray, List.map_cons, List.map_nil]); first | done | rfl | (simp only [List.length_drop, List.length_take]; rfl)) ?_; (with_reducible refine (pacesetterref04_Same.calls k _ _ t256 _ _ t240 true _ ?side1 ?side2 ?side3 ?side4 A22.out).mono ?_); (case side1 => repeat (first | exact (Kd.N_reads' HO260.out).2.2 | (with_reducible refine Kd.C_alloc ?_ _) | (with_reducible refine Kd.C_drewN ?_ _) | (with_reducible refine Kd.C_drew ?_))); (case side2 => exact (Kd.N_reads' HO260.out).2.1); (case side3 => repeat (first | exact (Kd.N_reads' HO242.out).2.2 | (with_reducible refine Kd.C_alloc ?_ _) | (with_reducible refine Kd.C_drewN ?_ _) | (with_reducible refine Kd.C_drew ?_))); (case side4 => exact (Kd.N_reads' HO242.out).2.1); rintro e w' ⟨rfl, ⟨nd, rfl⟩⟩; refine ⟨_, rfl, ?_⟩; obtain ⟨Ao34, co34, eo34⟩ := Kd.N_slice HO255.out; subst eo34; have q35 : ((t251.length : Int) : Int) ≤ ((t240.length : Int) : Int) := of_decide_eq_true (by first | (with_reducible assumption) | assumption); obtain ⟨i035, hi035, _, hsz35, _⟩ := info_parts info22; have hroom35 : t240.length ≤ co16 := (Kd.N_reads' HO242.out).2.1; have hC35 : Kd.F (Kd.slice 5 (Kd.int .u8)) _ _ Ao16 t240.length t240 := (Kd.V_at (base := w.heap.size) (Kd.N_V HO242.out)).2.2; have hcut35 := cut_to (P := Try.prog) 65 22 .i64 Try.underlying65 hi035 Ao16 t240.length co16 (t251.length : Int) (of_decide_eq_true (by first | (with_reducible assumption) | assumption)) q35 hroom35; have hr35 := Kd.F_take (m := ((t251.length : Int) : Int).toNat) hC35 (by omega); have hy35 : y262.length = ((t251.length : Int) : Int).toNat := (by rw [Ny262.out, List.length_take]; omega); rw [← Ny262.out] at hr35; rw [← hy35] at hcut35; have HO266 := Aside0.mk (show Kd.V (Kd.slice 5 (Kd.int .u8)) 22 _ w.heap.size _ (.slice Ao16 y262.length co16) y262 from Kd.V_mk (by omega) hr35); have HC266 := Aside0.mk (show y262.length ≤ co16 from by omega); clear hr35 hC35 hroom35 hi035 hsz35; have KY35 := Aside0.mk hy35; clear hy35; replace q35 := eq_true q35) | (go_at_call 69; (with_reducible refine (pacesetterref04_Same.calls k _ _ t251 _ _ y262 true _ ?side1 ?side2 ?side3 ?side4 A31.out).mono ?_); (case side1 => repeat (first | exact (Kd.N_reads' HO255.out).2.2 | (with_reducible refine Kd.C_alloc ?_ _) | (with_reducible refine Kd.C_drewN ?_ _) | (with_reducible refine Kd.C_drew ?_))); (case side2 => exact (Kd.N_reads' HO255.out).2.1); (case side3 => repeat (first | exact (Kd.V_reads' HO266.out).2.2 | (with_reducible refine Kd.C_alloc ?_ _) | (with_reducible refine Kd.C_drewN ?_ _) | (with_reducible refine Kd.C_drew ?_))); (case side4 => exact (Kd.V_reads' HO266.out).2.1); rintro e w' ⟨rfl, ⟨nd, rfl⟩⟩))
                          go_meet
                          case rel => exact ⟨_, (decide (t252 > (ji8))), (by first | rfl | (simp; done) | (simp only [← hji8] <;> (first | rfl | simp)) | (simp [*]; done)), H', ⟨by first | omega | exact Nat.le_refl _⟩, ⟨by (with_reducible repeat (first | apply Kd.N_alloc | apply Kd.N_drewN | apply Kd.N_drew)); exact Kd.N_mono HO242.out (fun _ hk => hk.1.2)⟩, ⟨by (with_reducible repeat (first | apply Kd.N_alloc | apply Kd.N_drewN | apply Kd.N_drew)); exact Kd.N_mono HO255.out (fun _ hk => hk.1.1)⟩, ⟨by repeat (first | (with_reducible first | exact HB.out | apply below_alloc | apply pw_below_drewN | apply below_drew1) | exact HB.out)⟩⟩
                        · replace c32 := Bool.eq_false_iff.mpr c32
                          subst c32
                          have H1 : (pacesetterlaw04_FrameCuts.j0 k t240 ji8 t251 t252 t253 true) = some r := by rw [if_neg (show ¬ (false = true) by decide)] at H; exact H
                          clear H
                          have H := H1
                          clear H1
                          have H' := Aside0.mk H
                          clear H
                          obtain ⟨Ao36, co36, eo36⟩ := Kd.N_slice HO260.out
                          subst eo36
                          go_wp2_with (first | ((with_reducible refine gate_callee (f := 69) rfl ?_); refine goesL_ (some 45) rfl rfl Try.func69 (by kernel_rfl) rfl #[.slice Ao36 t256.length co36, .slice Ao16 t240.length co16] rfl (by (try simp only [List.map_toArray, List.map_cons, List.map_nil]); first | done | rfl | (simp only [List.length_drop, List.length_take]; rfl)) ?_; (with_reducible refine (pacesetterref04_Same.calls k _ _ t256 _ _ t240 true _ ?side1 ?side2 ?side3 ?side4 A22.out).mono ?_); (case side1 => repeat (first | exact (Kd.N_reads' HO260.out).2.2 | (with_reducible refine Kd.C_alloc ?_ _) | (with_reducible refine Kd.C_drewN ?_ _) | (with_reducible refine Kd.C_drew ?_))); (case side2 => exact (Kd.N_reads' HO260.out).2.1); (case side3 => repeat (first | exact (Kd.N_reads' HO242.out).2.2 | (with_reducible refine Kd.C_alloc ?_ _) | (with_reducible refine Kd.C_drewN ?_ _) | (with_reducible refine Kd.C_drew ?_))); (case side4 => exact (Kd.N_reads' HO242.out).2.1); rintro e w' ⟨rfl, ⟨nd, rfl⟩⟩; refine ⟨_, rfl, ?_⟩; obtain ⟨Ao37, co37, eo37⟩ := Kd.N_slice HO255.out; subst eo37; have q38 : ((t251.length : Int) : Int) ≤ ((t240.length : Int) : Int) := of_decide_eq_true (by first | (with_reducible assumption) | assumption); obtain ⟨i038, hi038, _, hsz38, _⟩ := info_parts info22; have hroom38 : t240.length ≤ co16 := (Kd.N_reads' HO242.out).2.1; have hC38 : Kd.F (Kd.slice 5 (Kd.int .u8)) _ _ Ao16 t240.length t240 := (Kd.V_at (base := w.heap.size) (Kd.N_V HO242.out)).2.2; have hcut38 := cut_to (P := Try.prog) 65 22 .i64 Try.underlying65 hi038 Ao16 t240.length co16 (t251.length : Int) (of_decide_eq_true (by first | (with_reducible assumption) | assumption)) q38 hroom38; have hr38 := Kd.F_take (m := ((t251.length : Int) : Int).toNat) hC38 (by omega); have hy38 : y262.length = ((t251.length : Int) : Int).toNat := (by rw [Ny262.out, List.length_take]; omega); rw [← Ny262.out] at hr38; rw [← hy38] at hcut38; have HO266 := Aside0.mk (show Kd.V (Kd.slice 5 (Kd.int .u8)) 22 _ w.heap.size _ (.slice Ao16 y262.length co16) y262 from Kd.V_mk (by omega) hr38); have HC266 := Aside0.mk (show y262.length ≤ co16 from by omega); clear hr38 hC38 hroom38 hi038 hsz38; have KY38 := Aside0.mk hy38; clear hy38; replace q38 := eq_true q38) | (go_at_call 69; (with_reducible refine (pacesetterref04_Same.calls k _ _ t251 _ _ y262 false _ ?side1 ?side2 ?side3 ?side4 A31.out).mono ?_); (case side1 => repeat (first | exact (Kd.N_reads' HO255.out).2.2 | (with_reducible refine Kd.C_alloc ?_ _) | (with_reducible refine Kd.C_drewN ?_ _) | (with_reducible refine Kd.C_drew ?_))); (case side2 => exact (Kd.N_reads' HO255.out).2.1); (case side3 => repeat (first | exact (Kd.V_reads' HO266.out).2.2 | (with_reducible refine Kd.C_alloc ?_ _) | (with_reducible refine Kd.C_drewN ?_ _) | (with_reducible refine Kd.C_drew ?_))); (case side4 => exact (Kd.V_reads' HO266.out).2.1); rintro e w' ⟨rfl, ⟨nd, rfl⟩⟩))
                          go_meet
                          case rel => exact ⟨_, (true), (by first | rfl | (simp; done) | (simp [*]; done)), H', ⟨by first | omega | exact Nat.le_refl _⟩, ⟨by (with_reducible repeat (first | apply Kd.N_alloc | apply Kd.N_drewN | apply Kd.N_drew)); exact Kd.N_mono HO242.out (fun _ hk => hk.1.2)⟩, ⟨by (with_reducible repeat (first | apply Kd.N_alloc | apply Kd.N_drewN | apply Kd.N_drew)); exact Kd.N_mono HO255.out (fun _ hk => hk.1.1)⟩, ⟨by repeat (first | (with_reducible first | exact HB.out | apply below_alloc | apply pw_below_drewN | apply below_drew1) | exact HB.out)⟩⟩
                      · rw [if_neg c30] at H
                        exact absurd H (by simp)
                    · rw [if_neg c29] at H
                      exact absurd H (by simp)
                · rw [if_neg c25] at H
                  have c25b0 : (t258 == 0) = false := beq_eq_false_iff_ne.mpr c25
                  have c25b1 : (t258 != 0) = true := bne_iff_ne.mpr c25
                  have H' := Aside0.mk H
                  clear H
                  obtain ⟨Ao39, co39, eo39⟩ := Kd.N_slice HO260.out
                  subst eo39
                  go_wp2_with (first | ((with_reducible refine gate_callee (f := 69) rfl ?_); refine goesL_ (some 45) rfl rfl Try.func69 (by kernel_rfl) rfl #[.slice Ao39 t256.length co39, .slice Ao16 t240.length co16] rfl (by (try simp only [List.map_toArray, List.map_cons, List.map_nil]); first | done | rfl | (simp only [List.length_drop, List.length_take]; rfl)) ?_; (with_reducible refine (pacesetterref04_Same.calls k _ _ t256 _ _ t240 true _ ?side1 ?side2 ?side3 ?side4 A22.out).mono ?_); (case side1 => repeat (first | exact (Kd.N_reads' HO260.out).2.2 | (with_reducible refine Kd.C_alloc ?_ _) | (with_reducible refine Kd.C_drewN ?_ _) | (with_reducible refine Kd.C_drew ?_))); (case side2 => exact (Kd.N_reads' HO260.out).2.1); (case side3 => repeat (first | exact (Kd.N_reads' HO242.out).2.2 | (with_reducible refine Kd.C_alloc ?_ _) | (with_reducible refine Kd.C_drewN ?_ _) | (with_reducible refine Kd.C_drew ?_))); (case side4 => exact (Kd.N_reads' HO242.out).2.1); rintro e w' ⟨rfl, ⟨nd, rfl⟩⟩; refine ⟨_, rfl, ?_⟩))
                  go_meet
                  case rel => exact ⟨_, (true), (by first | rfl | (simp; done) | (simp [*]; done)), H', ⟨by first | omega | exact Nat.le_refl _⟩, ⟨by (with_reducible repeat (first | apply Kd.N_alloc | apply Kd.N_drewN | apply Kd.N_drew)); exact Kd.N_mono HO242.out (fun _ hk => hk.1.2)⟩, ⟨by (with_reducible repeat (first | apply Kd.N_alloc | apply Kd.N_drewN | apply Kd.N_drew)); exact Kd.N_mono HO255.out (fun _ hk => hk.1.1)⟩, ⟨by repeat (first | (with_reducible first | exact HB.out | apply below_alloc | apply pw_below_drewN | apply below_drew1) | exact HB.out)⟩⟩
              · rw [if_neg c24] at H
                have c24b0 : (t257 == (t243.length : Int)) = false := beq_eq_false_iff_ne.mpr c24
                have c24b1 : (t257 != (t243.length : Int)) = true := bne_iff_ne.mpr c24
                (first | rw [c24b0] | (simp only [i64_w, i32_w]; rw [c24b0]) | skip)
                have H' := Aside0.mk H
                clear H
                obtain ⟨Ao40, co40, eo40⟩ := Kd.N_slice HO260.out
                subst eo40
                go_wp2_with (first | ((with_reducible refine gate_callee (f := 69) rfl ?_); refine goesL_ (some 45) rfl rfl Try.func69 (by kernel_rfl) rfl #[.slice Ao40 t256.length co40, .slice Ao16 t240.length co16] rfl (by (try simp only [List.map_toArray, List.map_cons, List.map_nil]); first | done | rfl | (simp only [List.length_drop, List.length_take]; rfl)) ?_; (with_reducible refine (pacesetterref04_Same.calls k _ _ t256 _ _ t240 true _ ?side1 ?side2 ?side3 ?side4 A22.out).mono ?_); (case side1 => repeat (first | exact (Kd.N_reads' HO260.out).2.2 | (with_reducible refine Kd.C_alloc ?_ _) | (with_reducible refine Kd.C_drewN ?_ _) | (with_reducible refine Kd.C_drew ?_))); (case side2 => exact (Kd.N_reads' HO260.out).2.1); (case side3 => repeat (first | exact (Kd.N_reads' HO242.out).2.2 | (with_reducible refine Kd.C_alloc ?_ _) | (with_reducible refine Kd.C_drewN ?_ _) | (with_reducible refine Kd.C_drew ?_))); (case side4 => exact (Kd.N_reads' HO242.out).2.1); rintro e w' ⟨rfl, ⟨nd, rfl⟩⟩; refine ⟨_, rfl, ?_⟩))
                go_meet
                case rel => exact ⟨_, (true), (by first | rfl | (simp; done) | (simp [*]; done)), H', ⟨by first | omega | exact Nat.le_refl _⟩, ⟨by (with_reducible repeat (first | apply Kd.N_alloc | apply Kd.N_drewN | apply Kd.N_drew)); exact Kd.N_mono HO242.out (fun _ hk => hk.1.2)⟩, ⟨by (with_reducible repeat (first | apply Kd.N_alloc | apply Kd.N_drewN | apply Kd.N_drew)); exact Kd.N_mono HO255.out (fun _ hk => hk.1.1)⟩, ⟨by repeat (first | (with_reducible first | exact HB.out | apply below_alloc | apply pw_below_drewN | apply below_drew1) | exact HB.out)⟩⟩
            · replace c23 := Bool.eq_false_iff.mpr c23
              subst c23
              have H1 : (pacesetterlaw04_FrameCuts.j0 k t240 ji8 t251 t252 t253 true) = some r := by rw [if_neg (show ¬ (false = true) by decide)] at H; exact H
              clear H
              have H := H1
              clear H1
              have H' := Aside0.mk H
              clear H
              obtain ⟨Ao41, co41, eo41⟩ := Kd.N_slice HO260.out
              subst eo41
              go_wp2_with (first | ((with_reducible refine gate_callee (f := 69) rfl ?_); refine goesL_ (some 45) rfl rfl Try.func69 (by kernel_rfl) rfl #[.slice Ao41 t256.length co41, .slice Ao16 t240.length co16] rfl (by (try simp only [List.map_toArray, List.map_cons, List.map_nil]); first | done | rfl | (simp only [List.length_drop, List.length_take]; rfl)) ?_; (with_reducible refine (pacesetterref04_Same.calls k _ _ t256 _ _ t240 false _ ?side1 ?side2 ?side3 ?side4 A22.out).mono ?_); (case side1 => repeat (first | exact (Kd.N_reads' HO260.out).2.2 | (with_reducible refine Kd.C_alloc ?_ _) | (with_reducible refine Kd.C_drewN ?_ _) | (with_reducible refine Kd.C_drew ?_))); (case side2 => exact (Kd.N_reads' HO260.out).2.1); (case side3 => repeat (first | exact (Kd.N_reads' HO242.out).2.2 | (with_reducible refine Kd.C_alloc ?_ _) | (with_reducible refine Kd.C_drewN ?_ _) | (with_reducible refine Kd.C_drew ?_))); (case side4 => exact (Kd.N_reads' HO242.out).2.1); rintro e w' ⟨rfl, ⟨nd, rfl⟩⟩; refine ⟨_, rfl, ?_⟩))
              go_meet
              case rel => exact ⟨_, (true), (by first | rfl | (simp; done) | (simp [*]; done)), H', ⟨by first | omega | exact Nat.le_refl _⟩, ⟨by (with_reducible repeat (first | apply Kd.N_alloc | apply Kd.N_drewN | apply Kd.N_drew)); exact Kd.N_mono HO242.out (fun _ hk => hk.1.2)⟩, ⟨by (with_reducible repeat (first | apply Kd.N_alloc | apply Kd.N_drewN | apply Kd.N_drew)); exact Kd.N_mono HO255.out (fun _ hk => hk.1.1)⟩, ⟨by repeat (first | (with_reducible first | exact HB.out | apply below_alloc | apply pw_below_drewN | apply below_drew1) | exact HB.out)⟩⟩
          case rest =>
            clear HC13
            try clear c1
            try clear q1
            try clear c2
            try clear p2
            try clear c3
            try clear q3
            try clear c4
            try clear c6
            try clear p6
            try clear c7
            try clear c7b0
            try clear c7b1
            try clear c9
            try clear c9b0
            try clear c9b1
            try clear c10
            try clear c10b0
            try clear c10b1
            try clear c17
            try clear q19
            try clear c23
            try clear c24
            try clear c24b0
            try clear c24b1
            try clear c25
            try clear c25b0
            try clear c25b1
            try clear c26
            try clear c26b0
            try clear c26b1
            try clear c29
            try clear c29b0
            try clear c29b1
            try clear c30
            try clear c30b0
            try clear c30b1
            try clear c32
            try clear q35
            try clear q38
            try clear q19
            try clear q35
            try clear q38
            obtain ⟨kq, x77_12, rfl, HA, HJ12, HO_5, HO_8, HB⟩ := hcut
            cases kq with
            | zero => exact absurd HA.out (by simp [pacesetterlaw04_FrameCuts.j0])
            | succ kj12 =>
              have H := HA.out
              clear HA
              simp only [pacesetterlaw04_FrameCuts.j0] at H
              by_cases c42 : x77_12 = true
              · subst c42
                have H1 : (some false) = some r := by rw [if_pos rfl] at H; exact H
                clear H
                have H := H1
                clear H1
                obtain rfl := Option.some.inj H
                go_wp2
                go_ret
                exact ⟨by first | rfl | (simp [errW_none, errW_some] <;> rfl) | (simp only [← hji8]; first | rfl | (simp [errW_none, errW_some] <;> rfl)) | (simp [*, errW_none, errW_some] <;> rfl), by repeat (first | (with_reducible first | exact HB.out | apply below_alloc | apply pw_below_drewN | apply below_drew1) | exact HB.out)⟩
              · replace c42 := Bool.eq_false_iff.mpr c42
                subst c42
                have H1 : (if (t251.length : Int) < (t240.length : Int) then (if 0 ≤ (t251.length : Int) then ((frame_Size.f ((rd_L1 t240 (t251.length : Int)).length : Int)).bind fun t269 => (if ((t252 == ji8) == (t253 == 0)) = true then (if t253 = 0 then (if (t251.length : Int) = (t240.length : Int) then (some true) else (some (decide (ji8 < (wrap64 (t252 + t269)))))) else (if t253 = 2 then (if (t251.length : Int) = (t240.length : Int) then (some true) else (some (decide (ji8 < (wrap64 (t252 + t269)))))) else (some false))) else (some false))) else (none)) else (if ((t252 == ji8) == (t253 == 0)) = true then (if t253 = 0 then (if (t251.length : Int) = (t240.length : Int) then (some true) else (some (decide (ji8 < (wrap64 (t252 + 0)))))) else (if t253 = 2 then (if (t251.length : Int) = (t240.length : Int) then (some true) else (some (decide (ji8 < (wrap64 (t252 + 0)))))) else (some false))) else (some false))) = some r := by rw [if_neg (show ¬ (false = true) by decide)] at H; exact H
                clear H
                have H := H1
                clear H1
                by_cases c43 : (t251.length : Int) < (t240.length : Int)
                · rw [if_pos c43] at H
                  have c43b0 : decide ((t251.length : Int) < (t240.length : Int)) = true := decide_eq_true c43
                  have c43b1 : decide (t251.length < t240.length) = true := decide_eq_true (Int.ofNat_lt.mp c43)
                  clear c43
                  by_cases c44 : 0 ≤ (t251.length : Int)
                  · rw [if_pos c44] at H
                    have c44b0 : decide (0 ≤ (t251.length : Int)) = true := decide_eq_true c44
                    have c44b1 : decide (0 ≤ t251.length) = true := decide_eq_true (by omega)
                    clear c44
                    replace H := Option.bind_eq_some_iff.mp H
                    obtain ⟨t269, A450, H⟩ := H
                    replace H : (if ((t252 == ji8) == (t253 == 0)) = true then (if t253 = 0 then (if (t251.length : Int) = (t240.length : Int) then (some true) else (some (decide (ji8 < (wrap64 (t252 + t269)))))) else (if t253 = 2 then (if (t251.length : Int) = (t240.length : Int) then (some true) else (some (decide (ji8 < (wrap64 (t252 + t269)))))) else (some false))) else (some false)) = some r := H
                    have A45 := Aside0.mk A450
                    clear A450
                    by_cases c46 : ((t252 == ji8) == (t253 == 0)) = true
                    · rw [if_pos c46] at H
                      have c46b0 : ((t252 == ji8) == (t253 == 0)) = true := c46
                      (try (have c46b1 : decide ((t252 == ji8) = (t253 == 0)) = true := by simpa using c46))
                      (try (have c46b2 : ((t252 == ji8) == (t253 == 0)) = true := by simpa using c46))
                      clear c46
                      by_cases c47 : t253 = 0
                      · rw [if_pos c47] at H
                        have c47b0 : (t253 == 0) = true := beq_iff_eq.mpr c47
                        have c47e : (t252 == ji8) = true := by have h_ := c46b0; rw [c47b0] at h_; simpa using h_
                        have c47b1 : (t253 != 0) = false := bne_eq_false_iff_eq.mpr c47
                        clear c47
                        by_cases c48 : (t251.length : Int) = (t240.length : Int)
                        · rw [if_pos c48] at H
                          have c48b0 : ((t251.length : Int) == (t240.length : Int)) = true := beq_iff_eq.mpr c48
                          have c48b1 : ((t251.length : Int) != (t240.length : Int)) = false := bne_eq_false_iff_eq.mpr c48
                          have c48b2 : (t251.length == t240.length) = true := by first | simpa using c48 | (simp at c48 ⊢; omega)
                          clear c48
                          obtain rfl := Option.some.inj H
                          obtain ⟨Ao49, co49, eo49⟩ := Kd.N_slice HO_8.out
                          subst eo49
                          have p268 : 0 ≤ ((t251.length : Int) : Int) := of_decide_eq_true (by first | (with_reducible assumption) | assumption)
                          have q268 : (t251.length : Int) < (t240.length : Int) := of_decide_eq_true (by first | (with_reducible assumption) | assumption)
                          obtain ⟨ad268, A268_0, c268_0, e268, hx268_0, hl268_0, hi268_0⟩ := at_L1 (Kd.N_reads' HO_5.out).2.2 (t251.length : Int) p268 q268
                          cases e268
                          obtain ⟨ce268, hce268, hMe268, hcc268⟩ := Kd.N_get HO_5.out [] (t251.length : Int) p268 (by first | exact q268 | exact of_decide_eq_true (by first | (with_reducible assumption) | assumption) | (have e_ := (Kd.N_reads' HO_5.out).1; omega))
                          obtain ⟨ua268_0, uc268_0, rfl, ul268_0, ge268_0⟩ := Kd.FK_slice_open hMe268
                          have hv268_0 := hcc268 0 _ rfl
                          rw [Nat.add_zero, show ((Kd.slice 5 (Kd.int .u8))).sz = 1 from rfl, Nat.mul_one] at hv268_0
                          replace hv268_0 := Option.some.inj (hv268_0.symm.trans hx268_0)
                          injection hv268_0 with hva_ hvn_ hvc_
                          rw [hva_] at ge268_0
                          rw [hvc_] at ul268_0
                          have HL268_0 := Aside0.mk (show Kd.V (Kd.int .u8) 5 _ w.heap.size _ _ (rd_L1 t240 (t251.length : Int)) from Kd.V_mk ul268_0 ge268_0)
                          clear hva_ hvn_ hvc_ ge268_0 ul268_0
                          clear hcc268 hce268
                          have HR268_0 := Aside0.mk hi268_0
                          have HC268_0 := Aside0.mk hl268_0
                          clear hi268_0 hl268_0
                          (try simp only [Go.IntWalk.toNatUp] at hx268_0)
                          replace p268 := eq_true p268
                          replace q268 := eq_true q268
                          go_wp2_with (first | ((with_reducible refine gate_callee (f := 64) rfl ?_); refine goesL_ (some 89) rfl rfl Try.func64 (by kernel_rfl) rfl #[.int .i64 ((rd_L1 t240 (t251.length : Int)).length : Int)] rfl (by (try simp only [List.map_toArray, List.map_cons, List.map_nil]); first | done | rfl | (simp only [List.length_drop, List.length_take]; rfl)) ?_; (with_reducible refine (frame_Size.calls ((rd_L1 t240 (t251.length : Int)).length : Int) t269 _ A45.out).mono ?_); rintro e w' ⟨rfl, ⟨nd, rfl⟩⟩; refine ⟨_, rfl, ?_⟩))
                          go_ret
                          exact ⟨by first | rfl | (simp [errW_none, errW_some] <;> rfl) | (simp only [← hji8]; first | rfl | (simp [errW_none, errW_some] <;> rfl)) | (simp [*, errW_none, errW_some] <;> rfl), by repeat (first | (with_reducible first | exact HB.out | apply below_alloc | apply pw_below_drewN | apply below_drew1) | exact HB.out)⟩
                        · rw [if_neg c48] at H
                          have c48b0 : ((t251.length : Int) == (t240.length : Int)) = false := beq_eq_false_iff_ne.mpr c48
                          have c48b1 : ((t251.length : Int) != (t240.length : Int)) = true := bne_iff_ne.mpr c48
                          have c48b2 : (t251.length == t240.length) = false := by first | simpa using c48 | (simp at c48 ⊢; omega)
                          obtain rfl := Option.some.inj H
                          obtain ⟨Ao50, co50, eo50⟩ := Kd.N_slice HO_8.out
                          subst eo50
                          have p268 : 0 ≤ ((t251.length : Int) : Int) := of_decide_eq_true (by first | (with_reducible assumption) | assumption)
                          have q268 : (t251.length : Int) < (t240.length : Int) := of_decide_eq_true (by first | (with_reducible assumption) | assumption)
                          obtain ⟨ad268, A268_0, c268_0, e268, hx268_0, hl268_0, hi268_0⟩ := at_L1 (Kd.N_reads' HO_5.out).2.2 (t251.length : Int) p268 q268
                          cases e268
                          obtain ⟨ce268, hce268, hMe268, hcc268⟩ := Kd.N_get HO_5.out [] (t251.length : Int) p268 (by first | exact q268 | exact of_decide_eq_true (by first | (with_reducible assumption) | assumption) | (have e_ := (Kd.N_reads' HO_5.out).1; omega))
                          obtain ⟨ua268_0, uc268_0, rfl, ul268_0, ge268_0⟩ := Kd.FK_slice_open hMe268
                          have hv268_0 := hcc268 0 _ rfl
                          rw [Nat.add_zero, show ((Kd.slice 5 (Kd.int .u8))).sz = 1 from rfl, Nat.mul_one] at hv268_0
                          replace hv268_0 := Option.some.inj (hv268_0.symm.trans hx268_0)
                          injection hv268_0 with hva_ hvn_ hvc_
                          rw [hva_] at ge268_0
                          rw [hvc_] at ul268_0
                          have HL268_0 := Aside0.mk (show Kd.V (Kd.int .u8) 5 _ w.heap.size _ _ (rd_L1 t240 (t251.length : Int)) from Kd.V_mk ul268_0 ge268_0)
                          clear hva_ hvn_ hvc_ ge268_0 ul268_0
                          clear hcc268 hce268
                          have HR268_0 := Aside0.mk hi268_0
                          have HC268_0 := Aside0.mk hl268_0
                          clear hi268_0 hl268_0
                          (try simp only [Go.IntWalk.toNatUp] at hx268_0)
                          replace p268 := eq_true p268
                          replace q268 := eq_true q268
                          go_wp2_with (first | ((with_reducible refine gate_callee (f := 64) rfl ?_); refine goesL_ (some 89) rfl rfl Try.func64 (by kernel_rfl) rfl #[.int .i64 ((rd_L1 t240 (t251.length : Int)).length : Int)] rfl (by (try simp only [List.map_toArray, List.map_cons, List.map_nil]); first | done | rfl | (simp only [List.length_drop, List.length_take]; rfl)) ?_; (with_reducible refine (frame_Size.calls ((rd_L1 t240 (t251.length : Int)).length : Int) t269 _ A45.out).mono ?_); rintro e w' ⟨rfl, ⟨nd, rfl⟩⟩; refine ⟨_, rfl, ?_⟩))
                          go_ret
                          exact ⟨by first | rfl | (simp [errW_none, errW_some] <;> rfl) | (simp only [← hji8]; first | rfl | (simp [errW_none, errW_some] <;> rfl)) | (simp [*, errW_none, errW_some] <;> rfl), by repeat (first | (with_reducible first | exact HB.out | apply below_alloc | apply pw_below_drewN | apply below_drew1) | exact HB.out)⟩
                      · rw [if_neg c47] at H
                        have c47b0 : (t253 == 0) = false := beq_eq_false_iff_ne.mpr c47
                        have c47e : (t252 == ji8) = false := by have h_ := c46b0; rw [c47b0] at h_; simpa using h_
                        have c47b1 : (t253 != 0) = true := bne_iff_ne.mpr c47
                        by_cases c51 : t253 = 2
                        · rw [if_pos c51] at H
                          have c51b0 : (t253 == 2) = true := beq_iff_eq.mpr c51
                          have c51b1 : (t253 != 2) = false := bne_eq_false_iff_eq.mpr c51
                          clear c51
                          by_cases c52 : (t251.length : Int) = (t240.length : Int)
                          · rw [if_pos c52] at H
                            have c52b0 : ((t251.length : Int) == (t240.length : Int)) = true := beq_iff_eq.mpr c52
                            have c52b1 : ((t251.length : Int) != (t240.length : Int)) = false := bne_eq_false_iff_eq.mpr c52
                            have c52b2 : (t251.length == t240.length) = true := by first | simpa using c52 | (simp at c52 ⊢; omega)
                            clear c52
                            obtain rfl := Option.some.inj H
                            obtain ⟨Ao53, co53, eo53⟩ := Kd.N_slice HO_8.out
                            subst eo53
                            have p268 : 0 ≤ ((t251.length : Int) : Int) := of_decide_eq_true (by first | (with_reducible assumption) | assumption)
                            have q268 : (t251.length : Int) < (t240.length : Int) := of_decide_eq_true (by first | (with_reducible assumption) | assumption)
                            obtain ⟨ad268, A268_0, c268_0, e268, hx268_0, hl268_0, hi268_0⟩ := at_L1 (Kd.N_reads' HO_5.out).2.2 (t251.length : Int) p268 q268
                            cases e268
                            obtain ⟨ce268, hce268, hMe268, hcc268⟩ := Kd.N_get HO_5.out [] (t251.length : Int) p268 (by first | exact q268 | exact of_decide_eq_true (by first | (with_reducible assumption) | assumption) | (have e_ := (Kd.N_reads' HO_5.out).1; omega))
                            obtain ⟨ua268_0, uc268_0, rfl, ul268_0, ge268_0⟩ := Kd.FK_slice_open hMe268
                            have hv268_0 := hcc268 0 _ rfl
                            rw [Nat.add_zero, show ((Kd.slice 5 (Kd.int .u8))).sz = 1 from rfl, Nat.mul_one] at hv268_0
                            replace hv268_0 := Option.some.inj (hv268_0.symm.trans hx268_0)
                            injection hv268_0 with hva_ hvn_ hvc_
                            rw [hva_] at ge268_0
                            rw [hvc_] at ul268_0
                            have HL268_0 := Aside0.mk (show Kd.V (Kd.int .u8) 5 _ w.heap.size _ _ (rd_L1 t240 (t251.length : Int)) from Kd.V_mk ul268_0 ge268_0)
                            clear hva_ hvn_ hvc_ ge268_0 ul268_0
                            clear hcc268 hce268
                            have HR268_0 := Aside0.mk hi268_0
                            have HC268_0 := Aside0.mk hl268_0
                            clear hi268_0 hl268_0
                            (try simp only [Go.IntWalk.toNatUp] at hx268_0)
                            replace p268 := eq_true p268
                            replace q268 := eq_true q268
                            go_wp2_with (first | ((with_reducible refine gate_callee (f := 64) rfl ?_); refine goesL_ (some 89) rfl rfl Try.func64 (by kernel_rfl) rfl #[.int .i64 ((rd_L1 t240 (t251.length : Int)).length : Int)] rfl (by (try simp only [List.map_toArray, List.map_cons, List.map_nil]); first | done | rfl | (simp only [List.length_drop, List.length_take]; rfl)) ?_; (with_reducible refine (frame_Size.calls ((rd_L1 t240 (t251.length : Int)).length : Int) t269 _ A45.out).mono ?_); rintro e w' ⟨rfl, ⟨nd, rfl⟩⟩; refine ⟨_, rfl, ?_⟩))
                            go_ret
                            exact ⟨by first | rfl | (simp [errW_none, errW_some] <;> rfl) | (simp only [← hji8]; first | rfl | (simp [errW_none, errW_some] <;> rfl)) | (simp [*, errW_none, errW_some] <;> rfl), by repeat (first | (with_reducible first | exact HB.out | apply below_alloc | apply pw_below_drewN | apply below_drew1) | exact HB.out)⟩
                          · rw [if_neg c52] at H
                            have c52b0 : ((t251.length : Int) == (t240.length : Int)) = false := beq_eq_false_iff_ne.mpr c52
                            have c52b1 : ((t251.length : Int) != (t240.length : Int)) = true := bne_iff_ne.mpr c52
                            have c52b2 : (t251.length == t240.length) = false := by first | simpa using c52 | (simp at c52 ⊢; omega)
                            obtain rfl := Option.some.inj H
                            obtain ⟨Ao54, co54, eo54⟩ := Kd.N_slice HO_8.out
                            subst eo54
                            have p268 : 0 ≤ ((t251.length : Int) : Int) := of_decide_eq_true (by first | (with_reducible assumption) | assumption)
                            have q268 : (t251.length : Int) < (t240.length : Int) := of_decide_eq_true (by first | (with_reducible assumption) | assumption)
                            obtain ⟨ad268, A268_0, c268_0, e268, hx268_0, hl268_0, hi268_0⟩ := at_L1 (Kd.N_reads' HO_5.out).2.2 (t251.length : Int) p268 q268
                            cases e268
                            obtain ⟨ce268, hce268, hMe268, hcc268⟩ := Kd.N_get HO_5.out [] (t251.length : Int) p268 (by first | exact q268 | exact of_decide_eq_true (by first | (with_reducible assumption) | assumption) | (have e_ := (Kd.N_reads' HO_5.out).1; omega))
                            obtain ⟨ua268_0, uc268_0, rfl, ul268_0, ge268_0⟩ := Kd.FK_slice_open hMe268
                            have hv268_0 := hcc268 0 _ rfl
                            rw [Nat.add_zero, show ((Kd.slice 5 (Kd.int .u8))).sz = 1 from rfl, Nat.mul_one] at hv268_0
                            replace hv268_0 := Option.some.inj (hv268_0.symm.trans hx268_0)
                            injection hv268_0 with hva_ hvn_ hvc_
                            rw [hva_] at ge268_0
                            rw [hvc_] at ul268_0
                            have HL268_0 := Aside0.mk (show Kd.V (Kd.int .u8) 5 _ w.heap.size _ _ (rd_L1 t240 (t251.length : Int)) from Kd.V_mk ul268_0 ge268_0)
                            clear hva_ hvn_ hvc_ ge268_0 ul268_0
                            clear hcc268 hce268
                            have HR268_0 := Aside0.mk hi268_0
                            have HC268_0 := Aside0.mk hl268_0
                            clear hi268_0 hl268_0
                            (try simp only [Go.IntWalk.toNatUp] at hx268_0)
                            replace p268 := eq_true p268
                            replace q268 := eq_true q268
                            go_wp2_with (first | ((with_reducible refine gate_callee (f := 64) rfl ?_); refine goesL_ (some 89) rfl rfl Try.func64 (by kernel_rfl) rfl #[.int .i64 ((rd_L1 t240 (t251.length : Int)).length : Int)] rfl (by (try simp only [List.map_toArray, List.map_cons, List.map_nil]); first | done | rfl | (simp only [List.length_drop, List.length_take]; rfl)) ?_; (with_reducible refine (frame_Size.calls ((rd_L1 t240 (t251.length : Int)).length : Int) t269 _ A45.out).mono ?_); rintro e w' ⟨rfl, ⟨nd, rfl⟩⟩; refine ⟨_, rfl, ?_⟩))
                            go_ret
                            exact ⟨by first | rfl | (simp [errW_none, errW_some] <;> rfl) | (simp only [← hji8]; first | rfl | (simp [errW_none, errW_some] <;> rfl)) | (simp [*, errW_none, errW_some] <;> rfl), by repeat (first | (with_reducible first | exact HB.out | apply below_alloc | apply pw_below_drewN | apply below_drew1) | exact HB.out)⟩
                        · rw [if_neg c51] at H
                          have c51b0 : (t253 == 2) = false := beq_eq_false_iff_ne.mpr c51
                          have c51b1 : (t253 != 2) = true := bne_iff_ne.mpr c51
                          obtain rfl := Option.some.inj H
                          obtain ⟨Ao55, co55, eo55⟩ := Kd.N_slice HO_8.out
                          subst eo55
                          have p268 : 0 ≤ ((t251.length : Int) : Int) := of_decide_eq_true (by first | (with_reducible assumption) | assumption)
                          have q268 : (t251.length : Int) < (t240.length : Int) := of_decide_eq_true (by first | (with_reducible assumption) | assumption)
                          obtain ⟨ad268, A268_0, c268_0, e268, hx268_0, hl268_0, hi268_0⟩ := at_L1 (Kd.N_reads' HO_5.out).2.2 (t251.length : Int) p268 q268
                          cases e268
                          obtain ⟨ce268, hce268, hMe268, hcc268⟩ := Kd.N_get HO_5.out [] (t251.length : Int) p268 (by first | exact q268 | exact of_decide_eq_true (by first | (with_reducible assumption) | assumption) | (have e_ := (Kd.N_reads' HO_5.out).1; omega))
                          obtain ⟨ua268_0, uc268_0, rfl, ul268_0, ge268_0⟩ := Kd.FK_slice_open hMe268
                          have hv268_0 := hcc268 0 _ rfl
                          rw [Nat.add_zero, show ((Kd.slice 5 (Kd.int .u8))).sz = 1 from rfl, Nat.mul_one] at hv268_0
                          replace hv268_0 := Option.some.inj (hv268_0.symm.trans hx268_0)
                          injection hv268_0 with hva_ hvn_ hvc_
                          rw [hva_] at ge268_0
                          rw [hvc_] at ul268_0
                          have HL268_0 := Aside0.mk (show Kd.V (Kd.int .u8) 5 _ w.heap.size _ _ (rd_L1 t240 (t251.length : Int)) from Kd.V_mk ul268_0 ge268_0)
                          clear hva_ hvn_ hvc_ ge268_0 ul268_0
                          clear hcc268 hce268
                          have HR268_0 := Aside0.mk hi268_0
                          have HC268_0 := Aside0.mk hl268_0
                          clear hi268_0 hl268_0
                          (try simp only [Go.IntWalk.toNatUp] at hx268_0)
                          replace p268 := eq_true p268
                          replace q268 := eq_true q268
                          go_wp2_with (first | ((with_reducible refine gate_callee (f := 64) rfl ?_); refine goesL_ (some 89) rfl rfl Try.func64 (by kernel_rfl) rfl #[.int .i64 ((rd_L1 t240 (t251.length : Int)).length : Int)] rfl (by (try simp only [List.map_toArray, List.map_cons, List.map_nil]); first | done | rfl | (simp only [List.length_drop, List.length_take]; rfl)) ?_; (with_reducible refine (frame_Size.calls ((rd_L1 t240 (t251.length : Int)).length : Int) t269 _ A45.out).mono ?_); rintro e w' ⟨rfl, ⟨nd, rfl⟩⟩; refine ⟨_, rfl, ?_⟩))
                          go_ret
                          exact ⟨by first | rfl | (simp [errW_none, errW_some] <;> rfl) | (simp only [← hji8]; first | rfl | (simp [errW_none, errW_some] <;> rfl)) | (simp [*, errW_none, errW_some] <;> rfl), by repeat (first | (with_reducible first | exact HB.out | apply below_alloc | apply pw_below_drewN | apply below_drew1) | exact HB.out)⟩
                    · rw [if_neg c46] at H
                      have c46b0 : ((t252 == ji8) == (t253 == 0)) = false := by simpa using c46
                      (try (have c46b1 : decide ((t252 == ji8) = (t253 == 0)) = false := by simpa using c46))
                      (try (have c46b2 : ((t252 == ji8) == (t253 == 0)) = false := by simpa using c46))
                      (try (have c46b3 : ¬ ((t252 == ji8) = (t253 == 0)) := by simpa using c46))
                      clear c46
                      obtain rfl := Option.some.inj H
                      obtain ⟨Ao56, co56, eo56⟩ := Kd.N_slice HO_8.out
                      subst eo56
                      have p268 : 0 ≤ ((t251.length : Int) : Int) := of_decide_eq_true (by first | (with_reducible assumption) | assumption)
                      have q268 : (t251.length : Int) < (t240.length : Int) := of_decide_eq_true (by first | (with_reducible assumption) | assumption)
                      obtain ⟨ad268, A268_0, c268_0, e268, hx268_0, hl268_0, hi268_0⟩ := at_L1 (Kd.N_reads' HO_5.out).2.2 (t251.length : Int) p268 q268
                      cases e268
                      obtain ⟨ce268, hce268, hMe268, hcc268⟩ := Kd.N_get HO_5.out [] (t251.length : Int) p268 (by first | exact q268 | exact of_decide_eq_true (by first | (with_reducible assumption) | assumption) | (have e_ := (Kd.N_reads' HO_5.out).1; omega))
                      obtain ⟨ua268_0, uc268_0, rfl, ul268_0, ge268_0⟩ := Kd.FK_slice_open hMe268
                      have hv268_0 := hcc268 0 _ rfl
                      rw [Nat.add_zero, show ((Kd.slice 5 (Kd.int .u8))).sz = 1 from rfl, Nat.mul_one] at hv268_0
                      replace hv268_0 := Option.some.inj (hv268_0.symm.trans hx268_0)
                      injection hv268_0 with hva_ hvn_ hvc_
                      rw [hva_] at ge268_0
                      rw [hvc_] at ul268_0
                      have HL268_0 := Aside0.mk (show Kd.V (Kd.int .u8) 5 _ w.heap.size _ _ (rd_L1 t240 (t251.length : Int)) from Kd.V_mk ul268_0 ge268_0)
                      clear hva_ hvn_ hvc_ ge268_0 ul268_0
                      clear hcc268 hce268
                      have HR268_0 := Aside0.mk hi268_0
                      have HC268_0 := Aside0.mk hl268_0
                      clear hi268_0 hl268_0
                      (try simp only [Go.IntWalk.toNatUp] at hx268_0)
                      replace p268 := eq_true p268
                      replace q268 := eq_true q268
                      go_wp2_with (first | ((with_reducible refine gate_callee (f := 64) rfl ?_); refine goesL_ (some 89) rfl rfl Try.func64 (by kernel_rfl) rfl #[.int .i64 ((rd_L1 t240 (t251.length : Int)).length : Int)] rfl (by (try simp only [List.map_toArray, List.map_cons, List.map_nil]); first | done | rfl | (simp only [List.length_drop, List.length_take]; rfl)) ?_; (with_reducible refine (frame_Size.calls ((rd_L1 t240 (t251.length : Int)).length : Int) t269 _ A45.out).mono ?_); rintro e w' ⟨rfl, ⟨nd, rfl⟩⟩; refine ⟨_, rfl, ?_⟩))
                      go_ret
                      exact ⟨by first | rfl | (simp [errW_none, errW_some] <;> rfl) | (simp only [← hji8]; first | rfl | (simp [errW_none, errW_some] <;> rfl)) | (simp [*, errW_none, errW_some] <;> rfl), by repeat (first | (with_reducible first | exact HB.out | apply below_alloc | apply pw_below_drewN | apply below_drew1) | exact HB.out)⟩
                  · rw [if_neg c44] at H
                    exact absurd H (by simp)
                · rw [if_neg c43] at H
                  have c43b0 : decide ((t251.length : Int) < (t240.length : Int)) = false := decide_eq_false c43
                  have c43b1 : decide (t251.length < t240.length) = false := decide_eq_false (fun h => c43 (Int.ofNat_lt.mpr h))
                  clear c43
                  by_cases c57 : ((t252 == ji8) == (t253 == 0)) = true
                  · rw [if_pos c57] at H
                    have c57b0 : ((t252 == ji8) == (t253 == 0)) = true := c57
                    (try (have c57b1 : decide ((t252 == ji8) = (t253 == 0)) = true := by simpa using c57))
                    (try (have c57b2 : ((t252 == ji8) == (t253 == 0)) = true := by simpa using c57))
                    clear c57
                    by_cases c58 : t253 = 0
                    · rw [if_pos c58] at H
                      have c58b0 : (t253 == 0) = true := beq_iff_eq.mpr c58
                      have c58e : (t252 == ji8) = true := by have h_ := c57b0; rw [c58b0] at h_; simpa using h_
                      have c58b1 : (t253 != 0) = false := bne_eq_false_iff_eq.mpr c58
                      clear c58
                      by_cases c59 : (t251.length : Int) = (t240.length : Int)
                      · rw [if_pos c59] at H
                        have c59b0 : ((t251.length : Int) == (t240.length : Int)) = true := beq_iff_eq.mpr c59
                        have c59b1 : ((t251.length : Int) != (t240.length : Int)) = false := bne_eq_false_iff_eq.mpr c59
                        have c59b2 : (t251.length == t240.length) = true := by first | simpa using c59 | (simp at c59 ⊢; omega)
                        clear c59
                        obtain rfl := Option.some.inj H
                        obtain ⟨Ao60, co60, eo60⟩ := Kd.N_slice HO_8.out
                        subst eo60
                        go_wp2
                        go_ret
                        exact ⟨by first | rfl | (simp [errW_none, errW_some] <;> rfl) | (simp only [← hji8]; first | rfl | (simp [errW_none, errW_some] <;> rfl)) | (simp [*, errW_none, errW_some] <;> rfl), by repeat (first | (with_reducible first | exact HB.out | apply below_alloc | apply pw_below_drewN | apply below_drew1) | exact HB.out)⟩
                      · rw [if_neg c59] at H
                        have c59b0 : ((t251.length : Int) == (t240.length : Int)) = false := beq_eq_false_iff_ne.mpr c59
                        have c59b1 : ((t251.length : Int) != (t240.length : Int)) = true := bne_iff_ne.mpr c59
                        have c59b2 : (t251.length == t240.length) = false := by first | simpa using c59 | (simp at c59 ⊢; omega)
                        obtain rfl := Option.some.inj H
                        obtain ⟨Ao61, co61, eo61⟩ := Kd.N_slice HO_8.out
                        subst eo61
                        go_wp2
                        go_ret
                        exact ⟨by first | rfl | (simp [errW_none, errW_some] <;> rfl) | (simp only [← hji8]; first | rfl | (simp [errW_none, errW_some] <;> rfl)) | (simp [*, errW_none, errW_some] <;> rfl), by repeat (first | (with_reducible first | exact HB.out | apply below_alloc | apply pw_below_drewN | apply below_drew1) | exact HB.out)⟩
                    · rw [if_neg c58] at H
                      have c58b0 : (t253 == 0) = false := beq_eq_false_iff_ne.mpr c58
                      have c58e : (t252 == ji8) = false := by have h_ := c57b0; rw [c58b0] at h_; simpa using h_
                      have c58b1 : (t253 != 0) = true := bne_iff_ne.mpr c58
                      by_cases c62 : t253 = 2
                      · rw [if_pos c62] at H
                        have c62b0 : (t253 == 2) = true := beq_iff_eq.mpr c62
                        have c62b1 : (t253 != 2) = false := bne_eq_false_iff_eq.mpr c62
                        clear c62
                        by_cases c63 : (t251.length : Int) = (t240.length : Int)
                        · rw [if_pos c63] at H
                          have c63b0 : ((t251.length : Int) == (t240.length : Int)) = true := beq_iff_eq.mpr c63
                          have c63b1 : ((t251.length : Int) != (t240.length : Int)) = false := bne_eq_false_iff_eq.mpr c63
                          have c63b2 : (t251.length == t240.length) = true := by first | simpa using c63 | (simp at c63 ⊢; omega)
                          clear c63
                          obtain rfl := Option.some.inj H
                          obtain ⟨Ao64, co64, eo64⟩ := Kd.N_slice HO_8.out
                          subst eo64
                          go_wp2
                          go_ret
                          exact ⟨by first | rfl | (simp [errW_none, errW_some] <;> rfl) | (simp only [← hji8]; first | rfl | (simp [errW_none, errW_some] <;> rfl)) | (simp [*, errW_none, errW_some] <;> rfl), by repeat (first | (with_reducible first | exact HB.out | apply below_alloc | apply pw_below_drewN | apply below_drew1) | exact HB.out)⟩
                        · rw [if_neg c63] at H
                          have c63b0 : ((t251.length : Int) == (t240.length : Int)) = false := beq_eq_false_iff_ne.mpr c63
                          have c63b1 : ((t251.length : Int) != (t240.length : Int)) = true := bne_iff_ne.mpr c63
                          have c63b2 : (t251.length == t240.length) = false := by first | simpa using c63 | (simp at c63 ⊢; omega)
                          obtain rfl := Option.some.inj H
                          obtain ⟨Ao65, co65, eo65⟩ := Kd.N_slice HO_8.out
                          subst eo65
                          go_wp2
                          go_ret
                          exact ⟨by first | rfl | (simp [errW_none, errW_some] <;> rfl) | (simp only [← hji8]; first | rfl | (simp [errW_none, errW_some] <;> rfl)) | (simp [*, errW_none, errW_some] <;> rfl), by repeat (first | (with_reducible first | exact HB.out | apply below_alloc | apply pw_below_drewN | apply below_drew1) | exact HB.out)⟩
                      · rw [if_neg c62] at H
                        have c62b0 : (t253 == 2) = false := beq_eq_false_iff_ne.mpr c62
                        have c62b1 : (t253 != 2) = true := bne_iff_ne.mpr c62
                        obtain rfl := Option.some.inj H
                        obtain ⟨Ao66, co66, eo66⟩ := Kd.N_slice HO_8.out
                        subst eo66
                        go_wp2
                        go_ret
                        exact ⟨by first | rfl | (simp [errW_none, errW_some] <;> rfl) | (simp only [← hji8]; first | rfl | (simp [errW_none, errW_some] <;> rfl)) | (simp [*, errW_none, errW_some] <;> rfl), by repeat (first | (with_reducible first | exact HB.out | apply below_alloc | apply pw_below_drewN | apply below_drew1) | exact HB.out)⟩
                  · rw [if_neg c57] at H
                    have c57b0 : ((t252 == ji8) == (t253 == 0)) = false := by simpa using c57
                    (try (have c57b1 : decide ((t252 == ji8) = (t253 == 0)) = false := by simpa using c57))
                    (try (have c57b2 : ((t252 == ji8) == (t253 == 0)) = false := by simpa using c57))
                    (try (have c57b3 : ¬ ((t252 == ji8) = (t253 == 0)) := by simpa using c57))
                    clear c57
                    obtain rfl := Option.some.inj H
                    obtain ⟨Ao67, co67, eo67⟩ := Kd.N_slice HO_8.out
                    subst eo67
                    go_wp2
                    go_ret
                    exact ⟨by first | rfl | (simp [errW_none, errW_some] <;> rfl) | (simp only [← hji8]; first | rfl | (simp [errW_none, errW_some] <;> rfl)) | (simp [*, errW_none, errW_some] <;> rfl), by repeat (first | (with_reducible first | exact HB.out | apply below_alloc | apply pw_below_drewN | apply below_drew1) | exact HB.out)⟩
        · rw [if_neg c10] at H
          exact absurd H (by simp)
      · rw [if_neg c9] at H
        exact absurd H (by simp)
  · replace c4 := Bool.eq_false_iff.mpr c4
    subst c4
    have H1 : (some false) = some r := by rw [if_neg (show ¬ (false = true) by decide)] at H; exact H
    clear H
    have H := H1
    clear H1
    obtain rfl := Option.some.inj H
    go_enter Try.func17, Try.ntmps17
    go_wp2_with (first | ((with_reducible refine gate_callee (f := 60) rfl ?_); refine goesL_ (some 15) rfl rfl Try.func60 (by kernel_rfl) rfl #[] rfl (by (try simp only [List.map_toArray, List.map_cons, List.map_nil]); first | done | rfl | (simp only [List.length_drop, List.length_take]; rfl)) ?_; (with_reducible refine (pacesetterlaw04_lives.calls k  false _ A3.out).mono ?_); rintro e w68 ⟨rfl, hb⟩; refine ⟨_, rfl, ?_⟩; have n0_ := Aside0.mk (below_step (by repeat (first | (with_reducible first | exact HB.out | apply below_alloc | apply pw_below_drewN | apply below_drew1) | exact HB.out)) hb); clear HB; have HB := n0_; clear n0_; (try clear hb); (try clear hb2); (try clear hk); (try clear hi)))
    go_ret
    exact ⟨by first | rfl | (simp [errW_none, errW_some] <;> rfl) | (simp [*, errW_none, errW_some] <;> rfl), by repeat (first | (with_reducible first | exact HB.out | apply below_alloc | apply pw_below_drewN | apply below_drew1) | exact HB.out)⟩

end Go.Proofs.Ytbcienbnhchdeaa.Print
