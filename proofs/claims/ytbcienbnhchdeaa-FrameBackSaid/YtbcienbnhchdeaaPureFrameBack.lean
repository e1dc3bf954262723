/- What is put is got, whatever stands behind it: for any payload and any bytes behind it, with no condition. -/
import Derived.Test.YtbcienbnhchdeaaPrint11
import Derived.Test.YtbcienbnhchdeaaFrameL
namespace Go.Proofs.Ytbcienbnhchdeaa.Pure
open Go.RowKit Go.Proofs.Ytbcienbnhchdeaa.Print Go.Proofs.YtbcienbnhchdeaaW.PrintWords Go.Proofs.YtbcienbnhchdeaaW.PrintLast Go.Proofs.YtbcienbnhchdeaaW.PrintMore Hand CrcM FrameC FrameL

theorem cut1100 (l : List Int) (h : ∀ x ∈ l, (Lit.int .u8 x).wf = true) : 0 ≤ mn (l.length : Int) 1100 ∧ mn (l.length : Int) 1100 ≤ l.length ∧ okB (l.take (mn (l.length : Int) 1100).toNat) = true ∧ (l.take (mn (l.length : Int) 1100).toNat).length ≤ 1100 := by
  have hm : 0 ≤ mn (l.length : Int) 1100 ∧ mn (l.length : Int) 1100 ≤ l.length ∧ mn (l.length : Int) 1100 ≤ 1100 := by unfold mn; split <;> omega
  refine ⟨hm.1, hm.2.1, okB_take (okB_wf h) _, ?_⟩
  rw [List.length_take]
  omega
theorem FrameBack : pacesetterlaw04_FrameBack.Pure := by
  intro p r _ _ hp _ _ hr
  refine ⟨1, ?_⟩
  unfold pacesetterlaw04_FrameBack.f
  rw [lives_one]
  simp only [bind_s, if_true]
  obtain ⟨a0, a1, pb, pl⟩ := cut1100 p hp
  obtain ⟨b0, b1, rb, rl⟩ := cut1100 r hr
  rw [if_pos a0, if_pos a1, if_pos b0, if_pos b1]
  generalize p.take (mn (p.length : Int) 1100).toNat = t at pb pl ⊢
  generalize r.take (mn (r.length : Int) 1100).toNat = u at rb rl ⊢
  have hn : ([] : List Int).length = 0 := rfl
  rw [put_eq pb (by omega) (by omega)]
  simp only [bind_s]
  by_cases h0 : t.length = 0
  · rw [if_pos h0, if_neg (by decide), if_pos (by rfl), if_pos (by omega)]
  · rw [if_neg h0]
    by_cases h1 : 1000 < t.length
    · have h2 : decide ((t.length : Int) > 1000) = true := decide_eq_true (by omega)
      rw [if_pos h1, if_neg (by decide), if_pos (by rfl), if_neg (by omega), h2]
    · have hl := frameOf_len t
      rw [if_neg h1, if_pos rfl, if_pos (by simp only [List.nil_append, hl, hn]; omega)]
      simp only [List.nil_append]
      rw [if_pos (by rw [hl]; omega), get_eq (okB_append.2 ⟨frameOf_ok pb, rb⟩) (by rw [List.length_append, hl]; omega) 0, get_frame (by omega) (by omega)]
      simp only [bind_s]
      rw [if_pos trivial, if_pos (by rw [hl])]
      rfl
end Go.Proofs.Ytbcienbnhchdeaa.Pure
