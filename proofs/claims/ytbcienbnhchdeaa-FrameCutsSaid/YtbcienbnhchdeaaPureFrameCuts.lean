/- Of frames, one behind the other, cut anywhere, just those that are whole are got: for any payloads and every place of the cut, with no condition. -/
import Derived.Test.YtbcienbnhchdeaaPrint16
import Derived.Test.YtbcienbnhchdeaaFrameR
namespace Go.Proofs.Ytbcienbnhchdeaa.Pure
open Go.RowKit Go.Proofs.Ytbcienbnhchdeaa.Print Go.Proofs.YtbcienbnhchdeaaW.PrintWords Go.Proofs.YtbcienbnhchdeaaW.PrintLast Go.Proofs.YtbcienbnhchdeaaW.PrintMore Hand CrcM FrameC FrameL FrameS FrameR

theorem lives_any_c (k : Nat) : pacesetterlaw04_lives.f (k + 1) = some true := by
  rw [← lives_one]
  unfold pacesetterlaw04_lives.f
  have h7 : okB [7] = true := rfl
  have hb : okB ([] ++ frameOf [7]) = true := frameOf_ok h7
  have hl : ([] ++ frameOf [7]).length ≤ 1000000 := by rw [List.nil_append, frameOf_len]; decide
  rw [put_eq h7 (by decide) (by decide)]
  simp only [bind_s]
  rw [if_neg (by decide), if_neg (by decide), get_eq hb hl k, get_eq hb hl 0]
/-- Where a cut falls. -/
theorem cut_frames : ∀ (ps : List (List Int)) (n : Nat), n ≤ (allF ps).length → ∃ done rest r, ps = done ++ rest ∧ (allF ps).take n = allF done ++ r ∧
    ((r = [] ∧ n = (allF done).length) ∨ ∃ p rest' j, rest = p :: rest' ∧ 1 ≤ j ∧ j < p.length + 6 ∧ r = (frameOf p).take j ∧ n = (allF done).length + j)
  | [], n, h => ⟨[], [], [], rfl, by simp [allF_nil], .inl ⟨rfl, by simp [allF_nil] at h ⊢; exact h⟩⟩
  | p :: ps, n, h => by
    rw [allF_cons, List.length_append, frameOf_len] at h
    by_cases c : n < p.length + 6
    · by_cases c0 : n = 0
      · subst c0
        exact ⟨[], p :: ps, [], rfl, by simp [allF_nil], .inl ⟨rfl, rfl⟩⟩
      · refine ⟨[], p :: ps, (frameOf p).take n, rfl, ?_, .inr ⟨p, ps, n, rfl, by omega, c, rfl, by simp [allF_nil]⟩⟩
        rw [allF_cons, allF_nil, List.nil_append, List.take_append_of_le_length (by rw [frameOf_len]; omega)]
    · obtain ⟨done, rest, r, h1, h2, h3⟩ := cut_frames ps (n - (p.length + 6)) (by omega)
      refine ⟨p :: done, rest, r, by rw [h1]; rfl, ?_, ?_⟩
      · rw [allF_cons, allF_cons, List.append_assoc, ← h2, List.take_append, frameOf_len, List.take_of_length_le (by rw [frameOf_len]; omega)]
      · rcases h3 with ⟨h4, h5⟩ | ⟨q, rest', j, h4, h5, h6, h7, h8⟩
        · exact .inl ⟨h4, by rw [allF_cons, List.length_append, frameOf_len]; omega⟩
        · exact .inr ⟨q, rest', j, h4, h5, h6, h7, by rw [allF_cons, List.length_append, frameOf_len]; omega⟩
theorem FrameCuts (l : List (List Int)) (at_ : Int) (hx : ∀ p ∈ l, okB p = true) (_ : (Lit.int .i64 at_).wf = true) : ∃ k, pacesetterlaw04_FrameCuts.f k l at_ = some true := by
  refine ⟨1000 + 1, ?_⟩
  unfold pacesetterlaw04_FrameCuts.f
  rw [lives_any_c]
  simp only [bind_s, if_true]
  have gx := good_f (l := l) (most := 8) (by omega) (k := 1000 + 1) (by omega)
  rw [show (8 : Int) = ((8 : Nat) : Int) from rfl, gx]
  obtain ⟨ax, lx⟩ := goodL_ok 8 0 l hx
  generalize goodL 8 0 l = a at ax lx ⊢
  have sx := allF_small ax
  have aok : ∀ p ∈ a, OkP p := fun p hp => (ax p hp).1
  have abk : ∀ p ∈ a, okB p = true := fun p hp => (ax p hp).1.1
  simp only [bind_s]
  rw [all_f (by omega) ax (by omega)]
  simp only [bind_s]
  obtain ⟨e1, b0, b1⟩ := at_lt at_ (m := ((allF a).length : Int) + 1) (by omega) (by omega)
  rw [e1, if_neg (by omega), if_pos b0, if_pos (by omega)]
  generalize wrap64 (Int.tmod (IntKind.u64.wrap at_) (((allF a).length : Int) + 1)) = c at b0 b1 ⊢
  obtain ⟨n, rfl⟩ := Int.eq_ofNat_of_zero_le b0
  rw [Int.toNat_natCast]
  obtain ⟨done, rest, r, h1, h2, h3⟩ := cut_frames a n (by omega)
  have dok : ∀ p ∈ done, OkP p := fun p hp => aok p (by rw [h1]; simp [hp])
  have dsm := allF_small (x := done) (fun p hp => ax p (by rw [h1]; simp [hp]))
  have dl : done.length ≤ a.length := by rw [h1, List.length_append]; omega
  have dtake : a.take done.length = done := by rw [h1, List.take_left]
  have hscan : ∃ e : Int, frame_Scan.f ((allF a).take n) = some (done, ((allF done).length : Int), e) ∧ ((e = 0 ∧ n = (allF done).length) ∨ (e = 2 ∧ ∃ p rest' j, rest = p :: rest' ∧ 1 ≤ j ∧ j < p.length + 6 ∧ n = (allF done).length + j)) := by
    rw [h2]
    rcases h3 with ⟨rfl, h5⟩ | ⟨p, rest', j, h4, h5, h6, rfl, h8⟩
    · refine ⟨0, ?_, .inl ⟨rfl, h5⟩⟩
      rw [List.append_nil, scan_frames dok (by omega)]
    · have pok : OkP p := aok p (by rw [h1, h4]; simp)
      exact ⟨2, scan_cut dok pok h5 h6 (by omega), .inr ⟨rfl, p, rest', j, h4, h5, h6, h8⟩⟩
  obtain ⟨e, hs, he⟩ := hscan
  rw [hs]
  simp only [bind_s]
  rw [scan_frames aok (by omega)]
  simp only [bind_s]
  rw [same_f (by omega) abk abk (by omega)]
  simp only [bind_s, decide_true, if_true]
  rw [if_neg (by omega), if_pos (by omega), if_pos (by omega), Int.toNat_natCast, dtake, same_f (by omega) (fun p hp => (dok p hp).1) (fun p hp => (dok p hp).1) (by omega)]
  simp only [bind_s, decide_true, if_true]
  have hle : (allF done).length ≤ n := by
    rcases he with ⟨_, h5⟩ | ⟨_, p, rest', j, h4, h5, h6, h7⟩ <;> omega
  have hf : decide (((allF done).length : Int) > (n : Int)) = false := decide_eq_false (by omega)
  rw [hf, pacesetterlaw04_FrameCuts.j0, if_neg (by decide)]
  by_cases c : (done.length : Int) < (a.length : Int)
  · obtain ⟨p, rest', hr⟩ : ∃ p rest', rest = p :: rest' := by
      cases rest with
      | nil => rw [h1, List.append_nil] at c; omega
      | cons p rest' => exact ⟨p, rest', rfl⟩
    have hd : a.drop done.length = p :: rest' := by rw [h1, List.drop_left, hr]
    have pok : OkP p := aok p (by rw [h1, hr]; simp)
    have hp1 := pok.2.1
    have hp2 := pok.2.2
    rw [if_pos c, if_pos (by omega), rdL_drop hd, size_eq, if_pos ⟨hp1, hp2⟩]
    simp only [bind_s]
    have hw : wrap64 (((allF done).length : Int) + ((p.length + 6 : Nat) : Int)) = (((allF done).length + (p.length + 6) : Nat) : Int) := by unfold wrap64; omega
    rw [hw]
    rcases he with ⟨rfl, h5⟩ | ⟨rfl, p', rest'', j, h4, h5, h6, h7⟩
    · have e2 : (((allF done).length : Int) == (n : Int)) = true := beq_iff_eq.mpr (by omega)
      rw [e2, if_pos (by decide), if_pos rfl, if_neg (by omega)]
      have : decide ((n : Int) < (((allF done).length + (p.length + 6) : Nat) : Int)) = true := decide_eq_true (by omega)
      rw [this]
    · have hpp : p' = p := by
        rw [hr] at h4
        exact ((List.cons.inj h4).1).symm
      subst hpp
      have e2 : (((allF done).length : Int) == (n : Int)) = false := beq_eq_false_iff_ne.mpr (by omega)
      rw [e2, if_pos (by decide), if_neg (by decide), if_pos rfl, if_neg (by omega)]
      have : decide ((n : Int) < (((allF done).length + (p'.length + 6) : Nat) : Int)) = true := decide_eq_true (by omega)
      rw [this]
  · rw [if_neg c]
    have hrest : rest = [] := by
      have := congrArg List.length h1
      rw [List.length_append] at this
      exact List.length_eq_zero_iff.1 (by omega)
    rcases he with ⟨rfl, h5⟩ | ⟨rfl, p', rest'', j, h4, h5, h6, h7⟩
    · have e2 : (((allF done).length : Int) == (n : Int)) = true := beq_iff_eq.mpr (by omega)
      rw [e2, if_pos (by decide), if_pos rfl, if_pos (by omega)]
    · rw [hrest] at h4
      exact absurd h4 (by simp)
end Go.Proofs.Ytbcienbnhchdeaa.Pure
