/- What came in, opened: two whole numbers in an array. -/
import Derived.Test.YtdpdjchblajbbaaWinS
namespace Go.Proofs.Ytdpdjchblajbbaa.Hand
open Go Go.RowKit Go.Deep Go.ChangeShapes Go.Proofs.YtdpdjchblajbbaaW.PrintWords
set_option maxRecDepth 100000 in
/-- An array of two whole numbers. -/
theorem open_two {H : Type} {enc : TypeId × Value → H} {W : World} {base b0 : Nat} {held : Bool} {fuel : Nat} {sp : Nat → Bool} {v : Value} {x : DataW H × List MemPlace}
    (hv : Value.okWide Try.prog W .any b0 43 v) (h : DataW.trod enc Try.prog W base sp held fuel 43 v.cells.toList = some x) :
    ∃ x y : Int, v = .agg #[.int .i64 x, .int .i64 y] ∧ (Lit.int .i64 x).wf = true ∧ (Lit.int .i64 y).wf = true := by
  have hc36 : Try.prog.cellsOf 43 = 2 := by kernel_rfl
  have hc3 : Try.prog.cellsOf 3 = 1 := by kernel_rfl
  obtain ⟨cs, rfl⟩ : ∃ cs, v = .agg cs := by
    simp only [Value.okWide, Try.underlying43] at hv
    obtain ⟨cs, h1, _⟩ := hv
    exact ⟨cs, h1⟩
  obtain ⟨xs, m, _, _, hl, hxs, hall⟩ := DataW.trod_array Try.underlying43 h
  have h0 := hall 0 (by omega)
  have h1 := hall 1 (by omega)
  rw [List.getElem?_eq_getElem (by omega)] at h0 h1
  obtain ⟨a, ha, _, wa⟩ := DataW.trod_int Try.underlying3 h0
  obtain ⟨b, hb, _, wb⟩ := DataW.trod_int Try.underlying3 h1
  refine ⟨a, b, ?_, wa, wb⟩
  simp only [Value.cells] at ha hb hl
  rw [hc3] at ha hb
  have hl2 : cs.toList.length = 2 := hl.trans hc36
  have hcs : cs = cs.toList.toArray := by simp
  match hcl : cs.toList, hl2 with
  | [p, q], _ =>
    rw [hcl] at ha hb
    simp at ha hb
    subst ha hb
    exact congrArg Value.agg (hcs.trans (by rw [hcl]))

end Go.Proofs.Ytdpdjchblajbbaa.Hand
