/- What the four bytes say, whether a row of bytes ends in its own check and the row with its check behind it are what the second reading says: for all bytes, with no condition. -/
import Derived.Test.YtbcienbnhchdeaaPrint12
import Derived.Test.YtbcienbnhchdeaaCrcK
namespace Go.Proofs.Ytbcienbnhchdeaa.Pure
open Go.RowKit Go.Proofs.Ytbcienbnhchdeaa.Print Go.Proofs.YtbcienbnhchdeaaW.PrintWords Go.Proofs.YtbcienbnhchdeaaW.PrintLast Go.Proofs.YtbcienbnhchdeaaW.PrintMore Hand CrcM CrcL CrcK

theorem CrcReads : pacesetterlaw01_CrcReads.Pure := by
  intro l _ _ hwf
  refine ⟨5000, ?_⟩
  unfold pacesetterlaw01_CrcReads.f
  rw [lives_ok]
  simp only [Option.bind_some, if_true]
  obtain ⟨h0, h1, hb, hl⟩ := few l hwf
  rw [if_pos h0, if_pos h1]
  generalize l.take (mn (l.length : Int) 300).toNat = t at hb hl ⊢
  rw [read_eq hb, ref_read hb, good_p hb (by omega), ref_good hb (by omega) (by omega), seal_eq hb (by omega), ref_seal hb (by omega) (by omega)]
  simp
end Go.Proofs.Ytbcienbnhchdeaa.Pure
