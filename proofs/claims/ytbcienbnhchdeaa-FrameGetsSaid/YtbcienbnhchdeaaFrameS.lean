/- Frames one behind the other: plain lemmas. -/
import Derived.Test.YtbcienbnhchdeaaPrint14
import Derived.Test.YtbcienbnhchdeaaFrameL
namespace Go.Proofs.Ytbcienbnhchdeaa.FrameS
open Go.RowKit Go.Proofs.Ytbcienbnhchdeaa.Print Go.Proofs.YtbcienbnhchdeaaW.PrintWords Go.Proofs.YtbcienbnhchdeaaW.PrintLast Go.Proofs.YtbcienbnhchdeaaW.PrintMore Hand CrcM FrameC FrameL

/-- The frames of payloads, one behind the other. -/
def allF (ps : List (List Int)) : List Int := (ps.map frameOf).flatten
theorem allF_nil : allF [] = [] := rfl
theorem allF_cons (p : List Int) (ps : List (List Int)) : allF (p :: ps) = frameOf p ++ allF ps := by simp [allF]
theorem allF_append (a b : List (List Int)) : allF (a ++ b) = allF a ++ allF b := by simp [allF]
/-- A payload that may be. -/
def OkP (p : List Int) : Prop := okB p = true ∧ 1 ≤ p.length ∧ p.length ≤ 1000
theorem allF_ok : ∀ {ps : List (List Int)}, (∀ p ∈ ps, OkP p) → okB (allF ps) = true
  | [], _ => rfl
  | p :: ps, h => by
    rw [allF_cons, okB_append]
    exact ⟨frameOf_ok (h p (by simp)).1, allF_ok fun q hq => h q (by simp [hq])⟩
theorem allF_len : ∀ (ps : List (List Int)), ps.length ≤ (allF ps).length
  | [] => Nat.le_refl _
  | p :: ps => by
    have := allF_len ps
    rw [allF_cons, List.length_append, frameOf_len, List.length_cons]
    omega
theorem scan_step {b r p : List Int} {acc : List (List Int)} {k i : Nat} (hb : okB b = true) (hl : b.length ≤ 1000000) (hi : i ≤ b.length) (hd : b.drop i = frameOf p ++ r) (hp : OkP p) (ha : acc.length ≤ 1000000) :
    frame_Scan.l0 (k + 1) b acc (i : Int) = frame_Scan.l0 k b (acc ++ [p]) ((i + (p.length + 6) : Nat) : Int) := by
  have hlen := congrArg List.length hd
  rw [List.length_drop, List.length_append, frameOf_len] at hlen
  rw [frame_Scan.l0, if_neg (by omega), if_pos ⟨by omega, by omega⟩, Int.toNat_natCast, get_eq (okB_drop hb i) (by rw [List.length_drop]; omega) 0, hd, get_frame hp.2.1 hp.2.2]
  simp only [bind_s]
  rw [if_pos trivial, if_pos (by omega)]
  congr 1
  have := hp.2.2
  unfold wrap64
  omega
theorem scan_all : ∀ (ps : List (List Int)) {b r : List Int} {acc : List (List Int)} {k i : Nat}, okB b = true → b.length ≤ 1000000 → i ≤ b.length → (∀ p ∈ ps, OkP p) → b.drop i = allF ps ++ r → acc.length + ps.length ≤ 1000000 →
    frame_Scan.l0 (k + ps.length) b acc (i : Int) = frame_Scan.l0 k b (acc ++ ps) ((i + (allF ps).length : Nat) : Int)
  | [], b, r, acc, k, i, _, _, _, _, _, _ => by simp [allF_nil]
  | p :: ps, b, r, acc, k, i, hb, hl, hi, hp, hd, ha => by
    rw [allF_cons, List.append_assoc] at hd
    have hlen := congrArg List.length hd
    rw [List.length_drop, List.length_append, frameOf_len] at hlen
    rw [List.length_cons] at ha
    have e : k + (p :: ps).length = (k + ps.length) + 1 := by rw [List.length_cons]; omega
    rw [e, scan_step hb hl hi hd (hp p (by simp)) (by omega)]
    have hd2 : b.drop (i + (p.length + 6)) = allF ps ++ r := by
      rw [← List.drop_drop, hd, ← frameOf_len p, List.drop_left]
    rw [scan_all ps hb hl (by omega) (fun q hq => hp q (by simp [hq])) hd2 (by rw [List.length_append, List.length_singleton]; omega)]
    rw [allF_cons, List.length_append, frameOf_len, List.append_assoc, List.singleton_append]
    congr 1
    omega
theorem scan_end {b : List Int} {acc : List (List Int)} {k : Nat} : frame_Scan.l0 (k + 1) b acc (b.length : Int) = some (acc, (b.length : Int), 0) := by
  rw [frame_Scan.l0, if_pos rfl]
theorem scan_stop {b q : List Int} {acc : List (List Int)} {k i : Nat} {n e : Int} (hb : okB b = true) (hl : b.length ≤ 1000000) (hi : i < b.length) (hg : getF (b.drop i) = (q, n, e)) (he : e ≠ 0) :
    frame_Scan.l0 (k + 1) b acc (i : Int) = some (acc, (i : Int), e) := by
  rw [frame_Scan.l0, if_neg (by omega), if_pos ⟨by omega, by omega⟩, Int.toNat_natCast, get_eq (okB_drop hb i) (by rw [List.length_drop]; omega) 0, hg]
  simp only [bind_s]
  rw [if_neg he]
/-- Frames alone. -/
theorem scan_frames {ps : List (List Int)} (hp : ∀ p ∈ ps, OkP p) (hl : (allF ps).length ≤ 1000000) : frame_Scan.f (allF ps) = some (ps, ((allF ps).length : Int), 0) := by
  unfold frame_Scan.f
  have hn := allF_len ps
  have e : (allF ps).length + 2 = ((allF ps).length - ps.length + 1 + 1) + ps.length := by omega
  rw [e, show (0 : Int) = ((0 : Nat) : Int) from rfl, scan_all ps (r := []) (allF_ok hp) hl (by omega) hp (by simp) (by simp; omega), Nat.zero_add, scan_end, List.nil_append]
  rfl
theorem frame_parts (p : List Int) : ∃ t, frameOf p = ((p.length / 256 % 256 : Nat) : Int) :: ((p.length % 256 : Nat) : Int) :: t := ⟨p ++ bytesN (crcN (withHead p)), by simp [frameOf, withHead, headN]⟩
theorem lenOf_head {p t : List Int} (hp : p.length ≤ 1000) : lenOf (((p.length / 256 % 256 : Nat) : Int) :: ((p.length % 256 : Nat) : Int) :: t) = p.length := by
  have e0 : rd (((p.length / 256 % 256 : Nat) : Int) :: ((p.length % 256 : Nat) : Int) :: t) 0 = ((p.length / 256 % 256 : Nat) : Int) := rfl
  have e1 : rd (((p.length / 256 % 256 : Nat) : Int) :: ((p.length % 256 : Nat) : Int) :: t) 1 = ((p.length % 256 : Nat) : Int) := rfl
  unfold lenOf
  rw [e0, e1]
  omega
/-- A part of a frame. -/
theorem get_cut {p : List Int} (hp : OkP p) {j : Nat} (h1 : j < p.length + 6) : getF ((frameOf p).take j) = ([], 0, 2) := by
  have hl : ((frameOf p).take j).length = j := by rw [List.length_take, frameOf_len]; omega
  unfold getF
  rw [hl]
  by_cases h2 : j < 2
  · rw [if_pos h2]
  · rw [if_neg h2]
    obtain ⟨t, ht⟩ := frame_parts p
    obtain ⟨m, rfl⟩ : ∃ m, j = m + 2 := ⟨j - 2, by omega⟩
    have e : (frameOf p).take (m + 2) = ((p.length / 256 % 256 : Nat) : Int) :: ((p.length % 256 : Nat) : Int) :: t.take m := by rw [ht]; rfl
    rw [e, lenOf_head hp.2.2, if_neg (by omega)]
theorem scan_cut {ps : List (List Int)} {p : List Int} {j : Nat} (hp : ∀ q ∈ ps, OkP q) (hq : OkP p) (h0 : 1 ≤ j) (h1 : j < p.length + 6) (hl : (allF ps).length ≤ 900000) :
    frame_Scan.f (allF ps ++ (frameOf p).take j) = some (ps, ((allF ps).length : Int), 2) := by
  have hj : ((frameOf p).take j).length = j := by rw [List.length_take, frameOf_len]; omega
  have hpl := hq.2.2
  have hn := allF_len ps
  have hbl : (allF ps ++ (frameOf p).take j).length = (allF ps).length + j := by rw [List.length_append, hj]
  have hb : okB (allF ps ++ (frameOf p).take j) = true := okB_append.2 ⟨allF_ok hp, okB_take (frameOf_ok hq.1) _⟩
  unfold frame_Scan.f
  rw [hbl]
  have e : (allF ps).length + j + 2 = ((allF ps).length - ps.length + j + 1 + 1) + ps.length := by omega
  rw [e, show (0 : Int) = ((0 : Nat) : Int) from rfl, scan_all ps (r := (frameOf p).take j) hb (by omega) (by omega) hp (by simp) (by simp; omega), Nat.zero_add, List.nil_append]
  refine scan_stop hb (by omega) (by omega) (q := []) (n := 0) ?_ (by decide)
  rw [List.drop_left]
  exact get_cut hq h1
end Go.Proofs.Ytbcienbnhchdeaa.FrameS
