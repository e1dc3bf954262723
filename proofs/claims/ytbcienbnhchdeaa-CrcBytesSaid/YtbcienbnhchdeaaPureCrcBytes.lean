/- The four bytes of a check read back as it, and four bytes read are written back as they were: for all bytes, with no condition. -/
import Derived.Test.YtbcienbnhchdeaaPrint7
import Derived.Test.YtbcienbnhchdeaaCrcK
namespace Go.Proofs.Ytbcienbnhchdeaa.Pure
open Go.RowKit Go.Proofs.Ytbcienbnhchdeaa.Print Go.Proofs.YtbcienbnhchdeaaW.PrintWords Go.Proofs.YtbcienbnhchdeaaW.PrintLast Go.Proofs.YtbcienbnhchdeaaW.PrintMore Hand CrcM CrcL CrcK

theorem CrcBytes : pacesetterlaw01_CrcBytes.Pure := by
  intro l _ _ hwf
  unfold pacesetterlaw01_CrcBytes.f
  rw [lives_ok]
  simp only [bind_s, if_true]
  obtain ⟨h0, h1, hb, hl⟩ := few l hwf
  rw [if_pos h0, if_pos h1]
  generalize l.take (mn (l.length : Int) 300).toNat = t at hb hl ⊢
  rw [sum_eq hb (by omega)]
  simp only [bind_s]
  rw [bytes_eq]
  simp only [bind_s]
  rw [read_eq (bytesN_ok _), read_eq hb, if_pos (bytesN_len _)]
  simp only [bind_s]
  rw [if_pos (by rw [bytesN_len]; rfl), if_pos (rdN_bytes (crcN_lt t))]
  simp only [if_true]
  by_cases h4 : t.length = 4
  · simp only [h4, if_true]
    obtain ⟨n0, n1⟩ := rdN_lt hb h4
    obtain ⟨n, hn⟩ := Int.eq_ofNat_of_zero_le n0
    have hw := bytesN_rd hb h4
    rw [hn] at hw ⊢
    rw [Int.toNat_natCast] at hw
    rw [bytes_eq, hw]
    simp
  · have h4' : ¬ ((t.length : Int) = 4) := by omega
    simp only [h4, if_false]
    simp [h4']
end Go.Proofs.Ytbcienbnhchdeaa.Pure
