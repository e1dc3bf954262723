-- Printed by a program of this session (wip/patch_print.py over the kit's print); Lean checks it.
import Derived.Test.YtbcienbnhchdeaaPrint0
import Derived.Test.YtbcienbnhchdeaaPrint1
import Derived.Test.YtbcienbnhchdeaaPrint5
namespace Go.Proofs.Ytbcienbnhchdeaa.Print
open Go.RowKit Go.Proofs.YtbcienbnhchdeaaW.PrintWords Go.Proofs.YtbcienbnhchdeaaW.PrintLast Go.Proofs.YtbcienbnhchdeaaW.PrintMore
attribute [local go_sem] max2_int min2_int max_two min_two max_three min_three max_four min_four   -- for this text's walks alone
set_option linter.unusedVariables false
set_option linter.unusedSimpArgs false

-- NOT PRINTED: function 102 (slices_Grow_byte_byte)

-- NOT PRINTED: function 97 (slices_Concat_byte_byte)

/-! ### crc_Seal: function 47 -/
def crc_Seal.f (l0 : List Int) : Option (List Int) := if l0.length < 140737488355000 then ((crc_Sum.f l0).bind fun t => (crc_Bytes.f t).bind fun b => if b.length = 4 then (some (l0 ++ b)) else none) else (none)
set_option maxRecDepth 100000 in
set_option maxHeartbeats 1000000 in
theorem crc_Seal.calls (A0 : Option Addr) (c0 : Nat) (l0 : List Int) (r : List Int) (w : World) (hr0 : Kd.C (Kd.int .u8) w A0 l0.length l0) (hc0 : l0.length ≤ c0) (h : crc_Seal.f l0 = some r) :
    Calls Try.prog 47 #[.slice A0 l0.length c0] w fun e w' => ∃ v0_ : Value, e = .returned (v0_) ∧ Kd.R (Kd.int .u8) 5 w' w.heap.size (fun _ => True) v0_ r ∧ Below w.heap.size w w' := by
  unfold crc_Seal.f at h
  by_cases h0 : l0.length < 140737488355000
  · rw [if_pos h0] at h
    obtain ⟨t, ht, h⟩ := Option.bind_eq_some_iff.mp h
    obtain ⟨b, hb, h⟩ := Option.bind_eq_some_iff.mp h
    by_cases h4 : b.length = 4
    · rw [if_pos h4] at h
      obtain rfl := Option.some.inj h
      have HR := Aside0.mk hr0
      have HC := Aside0.mk hc0
      have HT := Aside0.mk ht
      have HBy := Aside0.mk hb
      have H4 := Aside0.mk h4
      have H0 := Aside0.mk h0
      clear hr0 hc0 ht hb h4 h0 h
      go_enter Try.func47, Try.ntmps47
      go_wp2_with (first
        | (go_at_call 30; refine (crc_Sum.calls A0 c0 l0 t _ HR.out HC.out HT.out).mono ?_; rintro e w1 ⟨rfl, hb1⟩; have HB1 := Aside0.mk hb1; clear hb1)
        | (go_at_call 33; refine (crc_Bytes.calls t b _ HBy.out).mono ?_; rintro e w2 ⟨v, rfl, ho, hb2⟩; obtain ⟨B, d, hv, hd, hB⟩ := Kd.R_reads ho; rw [hv]; clear hv ho; have HB2 := Aside0.mk ((HB1.out.trans (hb2.mono HB1.out.size))); have HD := Aside0.mk hd; have HBr := Aside0.mk hB; clear hd hB hb2)
        | (go_at_call 97; refine (Hand.concat_any _ _ [l0, b] _ (Hand.rows2 (Kd.C_below HR.out HB2.out) HC.out HBr.out HD.out) ?hT).mono ?_; (case hT => have := H0.out; have := H4.out; simp [Hand.total]; omega); rintro e w3 ⟨v3, rfl, ho3, hb3⟩; have HO3 := Aside0.mk ho3; have HB3 := Aside0.mk hb3; clear ho3 hb3))
      go_ret
      have hs : w.heap.size ≤ (w2.alloc (.cells #[.slice A0 l0.length c0, .slice B b.length d] 22)).heap.size := by have := HB2.out.size; simp; omega
      exact ⟨_, rfl, by simpa using Kd.R_lower HO3.out hs, (HB2.out.alloc HB2.out.size _).trans (HB3.out.mono hs)⟩
    · rw [if_neg h4] at h
      exact absurd h (by simp)
  · rw [if_neg h0] at h
    exact absurd h (by simp)

end Go.Proofs.Ytbcienbnhchdeaa.Print
