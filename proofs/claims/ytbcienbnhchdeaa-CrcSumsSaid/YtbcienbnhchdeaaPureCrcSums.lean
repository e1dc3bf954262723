/- The check, the check of more and the four bytes of it are what the second reading says: for all bytes, with no condition. -/
import Derived.Test.YtbcienbnhchdeaaPrint6
import Derived.Test.YtbcienbnhchdeaaCrcK
namespace Go.Proofs.Ytbcienbnhchdeaa.Pure
open Go.RowKit Go.Proofs.Ytbcienbnhchdeaa.Print Go.Proofs.YtbcienbnhchdeaaW.PrintWords Go.Proofs.YtbcienbnhchdeaaW.PrintLast Go.Proofs.YtbcienbnhchdeaaW.PrintMore Hand CrcM CrcL CrcK

theorem CrcSums : pacesetterlaw01_CrcSums.Pure := by
  intro l r _ _ hwf _ _ hwf'
  refine ⟨5000, ?_⟩
  unfold pacesetterlaw01_CrcSums.f
  rw [lives_ok]
  simp only [Option.bind_some, if_true]
  obtain ⟨h0, h1, hb, hl⟩ := few l hwf
  obtain ⟨h0', h1', hb', hl'⟩ := few r hwf'
  rw [if_pos h0, if_pos h1, if_pos h0', if_pos h1']
  generalize l.take (mn (l.length : Int) 300).toNat = t at hb hl ⊢
  generalize r.take (mn (r.length : Int) 300).toNat = u at hb' hl' ⊢
  rw [sum_eq hb (by omega), ref_sum hb (by omega) (by omega)]
  simp only [Option.bind_some, if_true]
  rw [more_eq t hb' (by omega), ref_More t hb' (by omega) (by omega)]
  simp only [Option.bind_some, if_true]
  rw [bytes_eq, ref_bytes _ (crcN_lt t)]
  simp
end Go.Proofs.Ytbcienbnhchdeaa.Pure
