import Derived.Test.YtcfppmjlljdaiaaProg
import Derived.WalkKit
import Derived.KernelRfl
import Derived.Outline
import Derived.Below
import Derived.Lib.Hide
import Derived.Laws.CopyOwn
namespace Go.Proofs.Ytcfppmjlljdaiaa.Hand
open Go.RowKit
set_option linter.unusedVariables false

def leadL : List Int := [1, -1, -1, -1, -1, -1, -1, -1, -1, -1, 2, -1, 1, 4, 4, 4, 3, -1, -1, -1, 1, -1, -1, -1, 4, -1, -1, 1, -1, -1, -1, -1, -1, -1, -1, -1, -1, -1, -1, -1, -1, -1, -1, -1, 5, 1, -1, -1, -1, -1, -1, -1, -1, -1]
def leadF (p e : Int) : Int := leadL.getD (p.toNat * 9 + e.toNat) 0
def leadC : Array Value := (leadL.map (Value.int .i64)).toArray
theorem lead_cell (i : Nat) (h : i < 54) : leadC[i]? = some (.int .i64 (leadL.getD i 0)) := by
  have hl : leadL.length = 54 := rfl
  unfold leadC
  rw [List.getElem?_toArray, List.getElem?_map, List.getElem?_eq_getElem (by omega), List.getD_eq_getElem?_getD, List.getElem?_eq_getElem (by omega)]
  rfl
/-- A row just stored into a new block. -/
theorem row_new (w : World) (old cells : Array Value) (t : TypeId) :
    ∃ W, (w.alloc (.cells old t)).setRow w.heap.size cells = W ∧ Below w.heap.size w W ∧ ∀ i, W.cell? ⟨w.heap.size, i, none⟩ = cells[i]? := by
  refine ⟨_, rfl, below_setRow ((Below.refl _ _).alloc (Nat.le_refl _) _) (Nat.le_refl _) cells, fun i => cell_setRow_same _ _ _ _ _ _ _ (heap_alloc_new w _)⟩

set_option maxRecDepth 100000 in
set_option maxHeartbeats 400000 in
theorem lead_any (w : World) (p e : Int) (h0 : 0 ≤ p) (h1 : p < 6) (h2 : 0 ≤ e) (h3 : e < 9) :
    Calls Try.prog 25 #[.int .i64 p, .int .i64 e] w fun x w' => x = .returned (.int .i64 (leadF p e)) ∧ Below w.heap.size w w' := by
  have hf : leadL.getD (p.toNat * 9 + e.toNat) 0 = leadF p e := rfl
  have hc := lead_cell (p.toNat * 9 + e.toNat) (by omega)
  rw [hf] at hc
  clear hf
  have HC := Lib.hid hc
  clear hc
  go_enter Try.func25, Try.ntmps25
  go_wp2_with (refine wpList_store_row rfl 45 (.tmp 5) (.tmp 12) rfl _ leadC rfl rfl _ _ (heap_alloc_new w _) (by kernel_rfl) (by kernel_rfl) (by kernel_rfl) ?_; obtain ⟨W, hW, hB, hcell⟩ := row_new w _ leadC 45; rw [hW]; have HB := Lib.hid hB; clear hB hW; have hce := (hcell (p.toNat * 9 + e.toNat)).trans HC.out; clear hcell; have HC := trivial)
  go_ret
  exact ⟨rfl, HB.out⟩

def nameL : List ByteArray := [(⟨#[105, 100, 108, 101]⟩ : ByteArray), (⟨#[114, 117, 110, 110, 105, 110, 103]⟩ : ByteArray), (⟨#[112, 97, 117, 115, 101, 100]⟩ : ByteArray), (⟨#[99, 111, 109, 112, 108, 101, 116, 101]⟩ : ByteArray), (⟨#[114, 111, 108, 108, 105, 110, 103, 45, 98, 97, 99, 107]⟩ : ByteArray), (⟨#[114, 111, 108, 108, 101, 100, 45, 98, 97, 99, 107]⟩ : ByteArray)]
def nameF (p : Int) : ByteArray := if 0 ≤ p ∧ p < 6 then nameL.getD p.toNat (⟨#[]⟩ : ByteArray) else (⟨#[]⟩ : ByteArray)
def nameC : Array Value := (nameL.map Value.string).toArray
theorem name_cell (i : Nat) (h : i < 6) : nameC[i]? = some (.string (nameL.getD i (⟨#[]⟩ : ByteArray))) := by
  have hl : nameL.length = 6 := rfl
  unfold nameC
  rw [List.getElem?_toArray, List.getElem?_map, List.getElem?_eq_getElem (by omega), List.getD_eq_getElem?_getD, List.getElem?_eq_getElem (by omega)]
  rfl

set_option maxRecDepth 100000 in
set_option maxHeartbeats 400000 in
theorem name_any (w : World) (p : Int) :
    Calls Try.prog 14 #[.int .i64 p] w fun x w' => x = .returned (.string (nameF p)) ∧ Below w.heap.size w w' := by
  by_cases h0 : p < 0
  · have hf : nameF p = (⟨#[]⟩ : ByteArray) := by unfold nameF; rw [if_neg (by omega)]
    have HF := Lib.hid hf
    clear hf
    go_enter Try.func14, Try.ntmps14
    go_wp2
    go_ret
    exact ⟨by rw [HF.out]; rfl, Below.refl _ _⟩
  · by_cases h1 : p < 6
    · have hf : nameL.getD p.toNat (⟨#[]⟩ : ByteArray) = nameF p := by unfold nameF; rw [if_pos (by omega)]
      have hc := name_cell p.toNat (by omega)
      rw [hf] at hc
      clear hf
      have HC := Lib.hid hc
      clear hc
      have g0 : 0 ≤ p := by omega
      generalize nameF p = z at HC ⊢
      go_enter Try.func14, Try.ntmps14
      go_wp2_with (first | (refine wpList_store_row rfl 40 (.tmp 3) (.tmp 7) rfl _ nameC rfl rfl _ _ (heap_alloc_new w _) (by kernel_rfl) (by kernel_rfl) (by kernel_rfl) ?_; obtain ⟨W, hW, hB, hcell⟩ := row_new w _ nameC 40; rw [hW]; have HB := Lib.hid hB; clear hB hW; have hce := (hcell p.toNat).trans HC.out; clear hcell; have HC := trivial) | go_in)
      go_ret
      exact ⟨rfl, HB.out⟩
    · have hf : nameF p = (⟨#[]⟩ : ByteArray) := by unfold nameF; rw [if_neg (by omega)]
      have HF := Lib.hid hf
      clear hf
      go_enter Try.func14, Try.ntmps14
      go_wp2
      go_ret
      exact ⟨by rw [HF.out]; rfl, Below.refl _ _⟩

/-! ### Spellings that the walk comes to -/
theorem take_len {α : Type} {l : List α} {j : Int} (h : j ≤ (l.length : Int)) : (((l.take j.toNat).length : Nat) : Int) = max j 0 := by
  rw [List.length_take]
  omega
theorem wrap_small {x : Int} (h0 : 0 ≤ x) (h1 : x ≤ 1000000) : IntKind.u64.wrap (wrap64 (x + 1)) = x + 1 := by
  rw [IntKind.wrap_u64]
  unfold wrap64
  omega
theorem at_cut {α : Type} {l : List α} {j : Int} (a : Int) (h : j ≤ (l.length : Int)) (hj : j ≤ 1000000) :
    wrap64 ((IntKind.u64.wrap a).tmod (max j 0 + 1)) = wrap64 (Int.tmod (IntKind.u64.wrap (a)) (IntKind.u64.wrap (wrap64 (((l.take ((j) : Int).toNat).length : Int) + 1)))) := by
  rw [take_len h, wrap_small (by omega) (by omega)]
theorem take_len2 {α : Type} {l : List α} {j : Int} (h : j ≤ (l.length : Int)) : (l.take j.toNat).length = j.toNat := by
  rw [List.length_take]
  omega
theorem ne_nil_eq (l : List UInt8) : (l != []) = !l.isEmpty := by cases l <;> rfl
theorem eq_nil_eq (l : List UInt8) : (l == []) = l.isEmpty := by cases l <;> rfl
end Go.Proofs.Ytcfppmjlljdaiaa.Hand
