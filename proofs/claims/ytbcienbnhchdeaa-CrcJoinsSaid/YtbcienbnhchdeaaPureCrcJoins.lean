/- The check of a whole is the check of its first part followed by the rest, and nothing added changes it: for all bytes and every place of the cut, with no condition. -/
import Derived.Test.YtbcienbnhchdeaaPrint3
import Derived.Test.YtbcienbnhchdeaaCrcK
namespace Go.Proofs.Ytbcienbnhchdeaa.Pure
open Go.RowKit Go.Proofs.Ytbcienbnhchdeaa.Print Go.Proofs.YtbcienbnhchdeaaW.PrintWords Go.Proofs.YtbcienbnhchdeaaW.PrintLast Go.Proofs.YtbcienbnhchdeaaW.PrintMore Hand CrcM CrcL CrcK

theorem CrcJoins : pacesetterlaw01_CrcJoins.Pure := by
  intro l a _ _ hwf _
  unfold pacesetterlaw01_CrcJoins.f
  rw [lives_ok]
  simp only [bind_s, if_true]
  obtain ⟨h0, h1, hb, hl⟩ := few l hwf
  rw [if_pos h0, if_pos h1]
  generalize l.take (mn (l.length : Int) 300).toNat = t at hb hl ⊢
  obtain ⟨e1, b0, b1⟩ := at_lt a (m := (t.length : Int) + 1) (by omega) (by omega)
  rw [e1, if_neg (by omega), if_pos b0, if_pos (by omega)]
  generalize wrap64 (Int.tmod (IntKind.u64.wrap a) ((t.length : Int) + 1)) = c at b0 b1 ⊢
  rw [sum_eq (okB_take hb c.toNat) (by rw [List.length_take]; omega)]
  simp only [bind_s]
  rw [more_eq (t.take c.toNat) (okB_drop hb c.toNat) (by rw [List.length_drop]; omega), List.take_append_drop, sum_eq hb (by omega)]
  simp only [bind_s, if_true]
  rw [more_eq t (b := []) rfl (by simp), List.append_nil]
  simp
end Go.Proofs.Ytbcienbnhchdeaa.Pure
