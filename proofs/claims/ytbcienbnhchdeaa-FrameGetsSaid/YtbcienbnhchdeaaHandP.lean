/- What came in, opened: a row of bytes; two whole numbers in an array; a row of rows of bytes is told in HandO. -/
import Derived.Test.YtbcienbnhchdeaaHandC
import Derived.ProofKit
import Derived.OpenShut
import Derived.Deep.Slices
namespace Go.Proofs.Ytbcienbnhchdeaa.Hand
open Go Go.RowKit Go.Deep Go.ChangeShapes Go.Proofs.YtbcienbnhchdeaaW.PrintWords
set_option linter.unusedVariables false
theorem okB_of_wf {zs : List Int} (h : ∀ n ∈ zs, (Lit.int .u8 n).wf = true) : okB zs = true := by
  unfold okB
  rw [List.all_eq_true]
  intro n hn
  have h1 := h n hn
  simp only [Lit.wf, Bool.and_eq_true, decide_eq_true_eq] at h1
  have e1 : IntKind.u8.min = 0 := by decide
  have e2 : IntKind.u8.max = 255 := by decide
  simp
  omega
theorem open_bytes {H : Type} {enc : TypeId × Value → H} {w : World} {base : Nat} {held : Bool} {fuel : Nat} {a : Option Addr} {len cap : Nat} {x : DataW H × List MemPlace}
    (h : DataW.trod enc Try.prog w base (fun _ => true) held fuel 22 (Value.slice a len cap).cells.toList = some x) :
    ∃ zs : List Int, zs.length = len ∧ len ≤ cap ∧ Kd.C (Kd.int .u8) w a len zs ∧ okB zs = true := by
  rcases open_ints Try.underlying22 Try.underlying5 (by kernel_rfl) h with ⟨hcs, _⟩ | ⟨ad, l, c, zs, hcs, _, hl, hm, hz, _, hcell, hwz⟩
  · simp [Value.cells] at hcs
    obtain ⟨rfl, rfl, rfl⟩ := hcs
    exact ⟨[], rfl, Nat.le_refl _, Kd.C_nil _ _, rfl⟩
  · simp [Value.cells] at hcs
    obtain ⟨rfl, rfl, rfl⟩ := hcs
    have hml : maxLen ≤ 9223372036854775807 := by decide
    have hzc : zs.length = cap := by simpa using hz
    have hlen : (zs.take len).length = len := by rw [List.length_take]; omega
    refine ⟨zs.take len, hlen, hl, Kd.C_of_reads (enc := Value.int .u8) (d := (0 : Int)) (h1 := fun _ => rfl) ⟨hlen, by omega, fun _ => ⟨_, rfl, fun j hj => ?_⟩⟩, okB_of_wf fun n hn => hwz n (List.mem_of_mem_take hn)⟩
    rw [hcell j (by omega)]
    simp [List.getD_eq_getElem?_getD, hj]
set_option maxRecDepth 100000 in
/-- An array of two whole numbers. -/
theorem open_two {H : Type} {enc : TypeId × Value → H} {W : World} {base b0 : Nat} {held : Bool} {fuel : Nat} {sp : Nat → Bool} {v : Value} {x : DataW H × List MemPlace}
    (hv : Value.okWide Try.prog W .any b0 36 v) (h : DataW.trod enc Try.prog W base sp held fuel 36 v.cells.toList = some x) :
    ∃ x y : Int, v = .agg #[.int .i64 x, .int .i64 y] ∧ (Lit.int .i64 x).wf = true ∧ (Lit.int .i64 y).wf = true := by
  have hc36 : Try.prog.cellsOf 36 = 2 := by kernel_rfl
  have hc3 : Try.prog.cellsOf 3 = 1 := by kernel_rfl
  obtain ⟨cs, rfl⟩ : ∃ cs, v = .agg cs := by
    simp only [Value.okWide, Try.underlying36] at hv
    obtain ⟨cs, h1, _⟩ := hv
    exact ⟨cs, h1⟩
  obtain ⟨xs, m, _, _, hl, hxs, hall⟩ := DataW.trod_array Try.underlying36 h
  have h0 := hall 0 (by omega)
  have h1 := hall 1 (by omega)
  rw [List.getElem?_eq_getElem (by omega)] at h0 h1
  obtain ⟨a, ha, _, wa⟩ := DataW.trod_int Try.underlying3 h0
  obtain ⟨b, hb, _, wb⟩ := DataW.trod_int Try.underlying3 h1
  refine ⟨a, b, ?_, wa, wb⟩
  simp only [Value.cells] at ha hb hl
  rw [hc3] at ha hb
  have hl2 : cs.toList.length = 2 := hl.trans hc36
  have hcs : cs = cs.toList.toArray := by simp
  match hcl : cs.toList, hl2 with
  | [p, q], _ =>
    rw [hcl] at ha hb
    simp at ha hb
    subst ha hb
    exact congrArg Value.agg (hcs.trans (by rw [hcl]))

end Go.Proofs.Ytbcienbnhchdeaa.Hand
