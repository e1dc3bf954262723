/- A row with its check behind it, two neighbours of it swapped, is good exactly when the two are alike: for all bytes and every place, with no condition. -/
import Derived.Test.YtbcienbnhchdeaaPrint14
import Derived.Test.YtbcienbnhchdeaaCrcK
namespace Go.Proofs.Ytbcienbnhchdeaa.Pure
open Go.RowKit Go.Proofs.Ytbcienbnhchdeaa.Print Go.Proofs.YtbcienbnhchdeaaW.PrintWords Go.Proofs.YtbcienbnhchdeaaW.PrintLast Go.Proofs.YtbcienbnhchdeaaW.PrintMore Hand CrcM CrcL CrcK

theorem CrcSwaps : pacesetterlaw01_CrcSwaps.Pure := by
  intro l a _ _ hwf _
  unfold pacesetterlaw01_CrcSwaps.f
  rw [lives_ok]
  simp only [Option.bind_some, if_true]
  obtain ⟨h0, h1, hb, hl⟩ := few l hwf
  rw [if_pos h0, if_pos h1]
  generalize l.take (mn (l.length : Int) 300).toNat = t at hb hl ⊢
  rw [seal_eq hb (by omega)]
  simp only [Option.bind_some]
  have hlen : (t ++ bytesN (crcN t)).length = t.length + 4 := by simp [bytesN_len]
  have hsb : okB (t ++ bytesN (crcN t)) = true := okB_append.2 ⟨hb, bytesN_ok _⟩
  have hsg : GoodP (t ++ bytesN (crcN t)) := by rw [goodP_app _ _ (bytesN_len _), rdN_bytes (crcN_lt t)]
  generalize t ++ bytesN (crcN t) = s at hlen hsb hsg ⊢
  obtain ⟨e1, b0, b1⟩ := at_lt a (m := (s.length : Int) - 1) (by omega) (by omega)
  rw [if_neg (by omega), e1, if_neg (by omega)]
  generalize wrap64 (Int.tmod (IntKind.u64.wrap a) ((s.length : Int) - 1)) = b at b0 b1 ⊢
  have ew : wrap64 (b + 1) = b + 1 := by unfold wrap64; omega
  rw [ew, if_pos b0, if_pos (by omega), if_pos (by omega), if_pos (by omega)]
  obtain ⟨p, rfl⟩ := Int.eq_ofNat_of_zero_le b0
  have e2 : ((p : Int) + 1) = ((p + 1 : Nat) : Int) := by omega
  have hp : p < s.length := by omega
  have hp1 : p + 1 < s.length := by omega
  rw [e2, rd_at hp1, rd_at hp, Int.toNat_natCast, Int.toNat_natCast]
  have hs : s = s.take p ++ s[p] :: s[p + 1] :: s.drop (p + 2) := by
    rw [List.getElem_cons_drop, List.getElem_cons_drop, List.take_append_drop]
  have hpl : (s.take p).length = p := by rw [List.length_take]; omega
  have hset : (s.set p s[p + 1]).set (p + 1) s[p] = s.take p ++ s[p + 1] :: s[p] :: s.drop (p + 2) := by
    have := set_two (s.take p) (s.drop (p + 2)) s[p] s[p + 1] s[p + 1] s[p]
    rw [hpl, ← hs] at this
    exact this
  have hob : okB ((s.set p s[p + 1]).set (p + 1) s[p]) = true := okB_set (okB_set hsb (okB_mem hsb (List.getElem_mem hp1)) _) (okB_mem hsb (List.getElem_mem hp)) _
  have hsl : ((s.set p s[p + 1]).set (p + 1) s[p]).length = s.length := by rw [List.length_set, List.length_set]
  rw [good_p hob (by omega)]
  simp only [Option.bind_some, Option.some.injEq]
  have hg := good_swap hsb hsg (s.take p) (s.drop (p + 2)) hs
  rw [hset]
  by_cases c : s[p] = s[p + 1]
  · have := hg.2 c
    simp only [this, decide_true]
    simp [c]
  · have : ¬ GoodP (s.take p ++ s[p + 1] :: s[p] :: s.drop (p + 2)) := fun hh => c (hg.1 hh)
    simp only [this, decide_false]
    simp [c]
end Go.Proofs.Ytbcienbnhchdeaa.Pure
