/- The frames of two rows of payloads, one behind the other, are those of both: for any rows, with no condition. -/
import Derived.Test.YtbcienbnhchdeaaPrint17
import Derived.Test.YtbcienbnhchdeaaFrameR
namespace Go.Proofs.Ytbcienbnhchdeaa.Pure
open Go.RowKit Go.Proofs.Ytbcienbnhchdeaa.Print Go.Proofs.YtbcienbnhchdeaaW.PrintWords Go.Proofs.YtbcienbnhchdeaaW.PrintLast Go.Proofs.YtbcienbnhchdeaaW.PrintMore Hand CrcM FrameC FrameL FrameS FrameR

theorem lives_any (k : Nat) : pacesetterlaw04_lives.f (k + 1) = some true := by
  rw [← lives_one]
  unfold pacesetterlaw04_lives.f
  have h7 : okB [7] = true := rfl
  have hb : okB ([] ++ frameOf [7]) = true := frameOf_ok h7
  have hl : ([] ++ frameOf [7]).length ≤ 1000000 := by rw [List.nil_append, frameOf_len]; decide
  rw [put_eq h7 (by decide) (by decide)]
  simp only [bind_s]
  rw [if_neg (by decide), if_neg (by decide), get_eq hb hl k, get_eq hb hl 0]
theorem FrameJoins (x y : List (List Int)) (hx : ∀ p ∈ x, okB p = true) (hy : ∀ p ∈ y, okB p = true) : ∃ k, pacesetterlaw04_FrameJoins.f k x y = some true := by
  refine ⟨1000 + 1, ?_⟩
  unfold pacesetterlaw04_FrameJoins.f
  rw [lives_any]
  simp only [bind_s, if_true]
  have gx := good_f (l := x) (most := 6) (by omega) (k := 1000 + 1) (by omega)
  have gy := good_f (l := y) (most := 6) (by omega) (k := 1000 + 1) (by omega)
  rw [show (6 : Int) = ((6 : Nat) : Int) from rfl, gx, gy]
  obtain ⟨ax, lx⟩ := goodL_ok 6 0 x hx
  obtain ⟨ay, ly⟩ := goodL_ok 6 0 y hy
  generalize goodL 6 0 x = a at ax lx ⊢
  generalize goodL 6 0 y = b at ay ly ⊢
  have sx := allF_small ax
  have sy := allF_small ay
  have e0 : ([] : List (List Int)).length = 0 := rfl
  have e1 : ([] : List Int).length = 0 := rfl
  simp only [bind_s, List.nil_append]
  rw [if_pos (by omega), if_pos (by omega), all_f (by omega) ax (by omega)]
  simp only [bind_s]
  rw [if_pos (by omega), all_f (by omega) ay (by omega)]
  simp only [bind_s]
  have hab : ∀ p ∈ a ++ b, OkP p := by
    intro p hp
    rcases List.mem_append.1 hp with h | h
    · exact (ax p h).1
    · exact (ay p h).1
  have hs := scan_frames hab (by rw [allF_append, List.length_append]; omega)
  rw [allF_append] at hs
  rw [if_pos (by omega), hs]
  simp only [bind_s]
  rw [same_f (by rw [List.length_append]; omega) (fun p hp => (hab p hp).1) (fun p hp => (hab p hp).1) (by rw [List.length_append]; omega)]
  simp
end Go.Proofs.Ytbcienbnhchdeaa.Pure
