/- A row with its check behind it is good, one with a single bit turned is not, and turned back it is good again: for all bytes and every bit, with no condition. -/
import Derived.Test.YtbcienbnhchdeaaPrint13
import Derived.Test.YtbcienbnhchdeaaCrcK
namespace Go.Proofs.Ytbcienbnhchdeaa.Pure
open Go.RowKit Go.Proofs.Ytbcienbnhchdeaa.Print Go.Proofs.YtbcienbnhchdeaaW.PrintWords Go.Proofs.YtbcienbnhchdeaaW.PrintLast Go.Proofs.YtbcienbnhchdeaaW.PrintMore Hand CrcM CrcL CrcK

theorem turn_bit {x : Int} (hx : 0 ≤ x ∧ x < 256) : ∀ q : Int, 0 ≤ q → q < 8 → (0 ≤ Go.bits .xor .u8 x (shl .u8 1 q) ∧ Go.bits .xor .u8 x (shl .u8 1 q) < 256) ∧ Go.bits .xor .u8 x (shl .u8 1 q) ≠ x ∧ Go.bits .xor .u8 (Go.bits .xor .u8 x (shl .u8 1 q)) (shl .u8 1 q) = x := by
  intro q h0 h1
  have hm : ∃ m : Nat, shl .u8 1 q = (m : Int) ∧ m < 256 ∧ m ≠ 0 := by
    rcases (by omega : q = 0 ∨ q = 1 ∨ q = 2 ∨ q = 3 ∨ q = 4 ∨ q = 5 ∨ q = 6 ∨ q = 7) with rfl | rfl | rfl | rfl | rfl | rfl | rfl | rfl
    · exact ⟨1, by decide, by decide, by decide⟩
    · exact ⟨2, by decide, by decide, by decide⟩
    · exact ⟨4, by decide, by decide, by decide⟩
    · exact ⟨8, by decide, by decide, by decide⟩
    · exact ⟨16, by decide, by decide, by decide⟩
    · exact ⟨32, by decide, by decide, by decide⟩
    · exact ⟨64, by decide, by decide, by decide⟩
    · exact ⟨128, by decide, by decide, by decide⟩
  obtain ⟨m, e, hm, hne⟩ := hm
  obtain ⟨x, rfl⟩ := Int.eq_ofNat_of_zero_le hx.1
  have hxm : x ^^^ m < 256 := Nat.xor_lt_two_pow (n := 8) (by omega) hm
  rw [e, u8_xor_nat _ _ (by omega) hm, u8_xor_nat _ _ hxm hm]
  refine ⟨⟨by omega, by omega⟩, ?_, ?_⟩
  · intro h
    have h2 : x ^^^ m = x ^^^ 0 := by rw [Nat.xor_zero]; omega
    exact hne (xor_left_cancel h2)
  · rw [Nat.xor_assoc, Nat.xor_self, Nat.xor_zero]
theorem CrcTurns : pacesetterlaw01_CrcTurns.Pure := by
  intro l a _ _ hwf _
  refine ⟨1, ?_⟩
  unfold pacesetterlaw01_CrcTurns.f
  rw [lives_ok]
  simp only [bind_s, if_true]
  obtain ⟨h0, h1, hb, hl⟩ := few l hwf
  rw [if_pos h0, if_pos h1]
  generalize l.take (mn (l.length : Int) 300).toNat = t at hb hl ⊢
  rw [seal_eq hb (by omega)]
  simp only [bind_s]
  have hlen : (t ++ bytesN (crcN t)).length = t.length + 4 := by simp [bytesN_len]
  have hsb : okB (t ++ bytesN (crcN t)) = true := okB_append.2 ⟨hb, bytesN_ok _⟩
  have hsg : GoodP (t ++ bytesN (crcN t)) := by rw [goodP_app _ _ (bytesN_len _), rdN_bytes (crcN_lt t)]
  generalize t ++ bytesN (crcN t) = s at hlen hsb hsg ⊢
  rw [if_neg (by omega), good_p hsb (by omega)]
  simp only [bind_s, hsg, decide_true, Bool.not_true]
  rw [pacesetterlaw01_CrcTurns.j0, if_neg (by decide)]
  obtain ⟨e1, b0, b1⟩ := at_lt a (m := 8 * (s.length : Int)) (by omega) (by omega)
  rw [e1, if_neg (by omega)]
  generalize wrap64 (Int.tmod (IntKind.u64.wrap a) (8 * (s.length : Int))) = b at b0 b1 ⊢
  have ep : wrap64 (Int.tdiv b 8) = b / 8 := by rw [Int.tdiv_eq_ediv_of_nonneg b0]; unfold wrap64; omega
  have eq : Int.tmod b 8 = b % 8 := Int.tmod_eq_emod_of_nonneg b0
  rw [ep, eq, if_pos (by omega), if_pos (by omega), if_pos (by omega)]
  obtain ⟨p, hp⟩ := Int.eq_ofNat_of_zero_le (show 0 ≤ b / 8 by omega)
  rw [hp]
  have hps : p < s.length := by omega
  rw [Int.toNat_natCast, rd_at hps]
  obtain ⟨ty, tn, tb⟩ := turn_bit (okB_mem hsb (List.getElem_mem hps)) (b % 8) (by omega) (by omega)
  simp only [bind_s]
  have hset := okB_set hsb ty p
  have hlen' : (s.set p (Go.bits .xor .u8 s[p] (shl .u8 1 (b % 8)))).length = s.length := List.length_set
  rw [good_p hset (by omega)]
  have hng := good_turn hsb hsg hps ty tn
  simp only [bind_s, hng, decide_false]
  rw [if_neg (by decide)]
  have hps' : p < (s.set p (Go.bits .xor .u8 s[p] (shl .u8 1 (b % 8)))).length := by omega
  rw [rd_at hps', List.getElem_set_self, tb, List.set_set, List.set_getElem_self, good_p hsb (by omega)]
  simp [hsg]
end Go.Proofs.Ytbcienbnhchdeaa.Pure
