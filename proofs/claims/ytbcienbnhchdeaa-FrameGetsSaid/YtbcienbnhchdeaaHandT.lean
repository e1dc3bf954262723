/- The table of the check: what each byte does to a word. -/
import Derived.Test.YtbcienbnhchdeaaProg
import Derived.Test.YtbcienbnhchdeaaCrcM
import Derived.WalkKit
import Derived.KernelRfl
import Derived.Outline
import Derived.Below
import Derived.Lib.Hide
import Derived.Laws.CopyOwn
namespace Go.Proofs.Ytbcienbnhchdeaa.Hand
open Go.RowKit CrcM
set_option linter.unusedVariables false

theorem wpList_alloc_zero {P : Program} {ops : Array Oper} {rest : List Oper} {o : Oper} {a : Act} {w : World} {Q : Exit → Act → World → Prop} (hgd : o.guard = none) (t : TypeId) (ho : o.op = .alloc t)
    (z : Value) (hz : (P.info? t).map (·.zero) = some (some z))
    (h : wpList P ops Q rest (a.put o.dst (.pointer (some ⟨w.heap.size, 0, none⟩))) (w.alloc (.cells z.cells t))) : wpList P ops Q (o :: rest) a w := by
  refine wpList_plain hgd fun _ hK => ?_
  cases hq : P.info? t with
  | none => simp [hq] at hz
  | some i =>
    have hz' : i.zero = some z := by simpa [hq] using hz
    have hr : (Instr.alloc t true (.tuple #[])).run P w = .ok (.pointer (some ⟨w.heap.size, 0, none⟩)) (w.alloc (.cells z.cells t)) := by
      simp [Instr.alloc, zeroValue, typeInfo, hq, hz', newVar, newRow]
    unfold Oper.wp execOp
    simp only [ho, Sem.run_bind, hr, Result.andThen_ok, Sem.run_pure]
    exact hK _ _ h

/-- Block g is a row of n cells, f tells each; none is frozen. -/
def Blk (w : World) (g : Nat) (t : TypeId) (cs : Array Value) : Prop := w.heap[g]? = some (.cells cs t (0, 0))
theorem Blk.cell {w : World} {g : Nat} {t : TypeId} {cs : Array Value} (h : Blk w g t cs) (i : Nat) : w.cell? ⟨g, i, none⟩ = cs[i]? := by
  unfold Blk at h
  simp [World.cell?, h]
theorem Blk.frozen {w : World} {g : Nat} {t : TypeId} {cs : Array Value} (h : Blk w g t cs) (i : Nat) : w.frozen? ⟨g, i, none⟩ = false := by
  unfold Blk at h
  simp [World.frozen?, h]
theorem Blk.set_ {w : World} {g : Nat} {t : TypeId} {cs : Array Value} (h : Blk w g t cs) (i : Nat) (u : Value) : Blk (w.setCell ⟨g, i, none⟩ u) g t (cs.setIfInBounds i u) := by
  unfold Blk at h ⊢
  simp [World.setCell, Array.getElem?_modify, h]

theorem zero104 : (Try.prog.info? 104).map (·.zero) = some (some (.agg (Array.replicate 256 (.int .u32 0)))) := by kernel_rfl

theorem bits_and1 (w : Nat) (h : w < 4294967296) : bits .and .u32 (w : Int) 1 = ((w % 2 : Nat) : Int) := by
  have := u32_and_nat w 1 h (by omega)
  simpa using this
/-- One bit's step, as the walk spells it. -/
theorem step_bit (w : Nat) (h : w < 4294967296) : bits .xor .u32 ((w : Int) / 2) (3988292384 * bits .and .u32 (w : Int) 1 % 4294967296) = ((bit1 w : Nat) : Int) := by
  rw [bits_and1 w h]
  have e : (3988292384 * ((w % 2 : Nat) : Int)) % 4294967296 = ((poly * (w % 2) : Nat) : Int) := by unfold poly; omega
  rw [e]
  have e2 : (w : Int) / 2 = ((w / 2 : Nat) : Int) := by omega
  rw [e2, u32_xor_nat _ _ (by omega) (by unfold poly; omega)]
  rfl

theorem bit8_it (w : Nat) : bit8 w = bit1 (bit1 (bit1 (bit1 (bit1 (bit1 (bit1 (bit1 w))))))) := rfl
/-- j bits' steps. -/
def bitN : Nat → Nat → Nat
  | 0, w => w
  | j + 1, w => bit1 (bitN j w)
theorem bitN_lt (j : Nat) {w : Nat} (h : w < 4294967296) : bitN j w < 4294967296 := by
  induction j with
  | zero => exact h
  | succ j ih => exact bit1_lt ih
theorem bitN_8 (w : Nat) : bitN 8 w = bit8 w := rfl
/-- The row of the table, of which the first i are told. -/
def TabOk (cs : Array Value) (i : Nat) : Prop := cs.size = 256 ∧ ∀ j, j < i → cs[j]? = some (.int .u32 ((bit8 j : Nat) : Int))
theorem TabOk.step {cs : Array Value} {i : Nat} (h : TabOk cs i) (hi : i < 256) : TabOk (cs.setIfInBounds i (.int .u32 ((bit8 i : Nat) : Int))) (i + 1) := by
  refine ⟨by simp [h.1], fun j hj => ?_⟩
  rw [Array.getElem?_setIfInBounds]
  by_cases e : i = j
  · subst e
    rw [if_pos rfl, if_pos (by rw [h.1]; exact hi)]
  · rw [if_neg e]
    exact h.2 j (by omega)

/-- The world in the table's making: block w.heap.size is the row, the first n are told. -/
structure TRel (w wr : World) (n : Nat) : Prop where
  below : Below w.heap.size w wr
  row : ∃ cs, Blk wr w.heap.size 104 cs ∧ TabOk cs n
theorem TRel.cell {w wr : World} {n : Nat} (h : TRel w wr n) (j : Nat) (hj : j < 256) : ∃ v, wr.cell? ⟨w.heap.size, j, none⟩ = some v := by
  obtain ⟨cs, hb, hs, _⟩ := h.row
  rw [hb.cell]
  exact ⟨_, Array.getElem?_eq_getElem (by rw [hs]; exact hj)⟩
theorem TRel.frozen {w wr : World} {n : Nat} (h : TRel w wr n) (j : Nat) : wr.frozen? ⟨w.heap.size, j, none⟩ = false := by
  obtain ⟨cs, hb, _⟩ := h.row
  exact hb.frozen j
theorem TRel.step {w wr : World} {n : Nat} (h : TRel w wr n) (hn : n < 256) : TRel w (wr.setCell ⟨w.heap.size, n, none⟩ (.int .u32 ((bit8 n : Nat) : Int))) (n + 1) := by
  obtain ⟨cs, hb, hs⟩ := h.row
  exact ⟨h.below.setCell (Nat.le_refl _) _, _, hb.set_ n _, hs.step hn⟩

set_option maxRecDepth 100000 in
set_option maxHeartbeats 1000000 in
theorem table_any (w : World) : Calls Try.prog 93 #[] w fun e w' => e = .returned (.pointer (some ⟨w.heap.size, 0, none⟩)) ∧ TRel w w' 256 := by
  obtain ⟨W, hW, hT⟩ : ∃ W, w.alloc (.cells (Value.agg (Array.replicate 256 (.int .u32 0))).cells 104) = W ∧ TRel w W 0 :=
    ⟨_, rfl, (Below.refl _ _).alloc (Nat.le_refl _) _, _, heap_alloc_new w _, by simp [Value.cells], fun j hj => absurd hj (by omega)⟩
  have HW := Lib.hid hW
  have HT := Lib.hid hT
  clear hW hT
  go_enter Try.func93, Try.ntmps93
  go_wp2_with (refine wpList_alloc_zero rfl 104 rfl _ zero104 ?_; rw [HW.out])
  go_loopw [4] (fun i wr => ∃ n : Nat, n ≤ 256 ∧ i = .int .i64 (n : Int) ∧ Hid (TRel w wr n)) (fun i _ => 256 - (intOf i).toNat)
  case atStart => exact ⟨0, by omega, rfl, HT⟩
  case round =>
    obtain ⟨n, hn, rfl, HR⟩ := hrel
    clear HW HT
    by_cases hlt : n < 256
    · go_wp2
      go_loop [3, 9] (fun v k => ∃ j : Nat, j ≤ 8 ∧ k = .int .i64 (j : Int) ∧ v = .int .u32 ((bitN j n : Nat) : Int)) (fun _ k => 8 - (intOf k).toNat)
      case atStart => exact ⟨0, by omega, rfl, rfl⟩
      case round =>
        obtain ⟨j, hj, rfl, rfl⟩ := hrel
        by_cases hjl : j < 8
        · have hb := bitN_lt j (w := n) (by omega)
          obtain ⟨m, hm⟩ : ∃ m, bitN j n = m := ⟨_, rfl⟩
          rw [hm] at hb ⊢
          have HM := Lib.hid hm
          clear hm
          go_wp2
          go_round
          case rel => exact ⟨j + 1, by omega, by go_num, by rw [step_bit m hb]; simp only [bitN]; rw [HM.out]⟩
          case measure => simp [intOf]; omega
        · obtain rfl : j = 8 := by omega
          obtain ⟨v, hv⟩ := HR.out.cell n hlt
          have hf := HR.out.frozen n
          rw [bitN_8]
          go_wp2
          go_roundw
          case rel => exact ⟨n + 1, by omega, by go_num, HR.out.step hlt⟩
          case measure => simp [intOf]; omega
    · obtain rfl : n = 256 := by omega
      go_wp2
      go_ret
      exact ⟨rfl, HR.out⟩
end Go.Proofs.Ytbcienbnhchdeaa.Hand
