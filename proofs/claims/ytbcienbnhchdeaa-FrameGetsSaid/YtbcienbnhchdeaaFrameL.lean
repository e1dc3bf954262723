/- Frames: plain lemmas. -/
import Derived.Test.YtbcienbnhchdeaaPrint1
import Derived.Test.YtbcienbnhchdeaaPrint2
import Derived.Test.YtbcienbnhchdeaaPrint4
import Derived.Test.YtbcienbnhchdeaaPrint5
import Derived.Test.YtbcienbnhchdeaaPrint6
import Derived.Test.YtbcienbnhchdeaaFrameC
namespace Go.Proofs.Ytbcienbnhchdeaa.FrameL
open Go.RowKit Go.Proofs.Ytbcienbnhchdeaa.Print Go.Proofs.YtbcienbnhchdeaaW.PrintWords Go.Proofs.YtbcienbnhchdeaaW.PrintLast Go.Proofs.YtbcienbnhchdeaaW.PrintMore Hand CrcM FrameC

theorem lives_one : pacesetterlaw04_lives.f 1 = some true := by decide +kernel
theorem size_eq (n : Nat) : frame_Size.f (n : Int) = some (if 1 ≤ n ∧ n ≤ 1000 then ((n + 6 : Nat) : Int) else 0) := by
  unfold frame_Size.f
  by_cases h0 : (n : Int) < 1
  · rw [if_pos h0, if_neg (by omega)]
  · rw [if_neg h0]
    by_cases h1 : (n : Int) > 1000
    · rw [if_pos h1, if_neg (by omega)]
    · rw [if_neg h1, if_pos (by omega)]
      congr 1
      unfold wrap64
      omega
/-- What stands ahead of a payload: its length. -/
def headN (n : Nat) : List Int := [((n / 256 % 256 : Nat) : Int), ((n % 256 : Nat) : Int)]
/-- A payload with its length ahead. -/
def withHead (p : List Int) : List Int := headN p.length ++ p
/-- A frame. -/
def frameOf (p : List Int) : List Int := withHead p ++ bytesN (crcN (withHead p))
theorem headN_ok (n : Nat) : okB (headN n) = true := by
  rw [okB_iff]
  intro x hx
  simp only [headN, List.mem_cons, List.not_mem_nil, or_false] at hx
  rcases hx with rfl | rfl <;> omega
theorem withHead_ok {p : List Int} (h : okB p = true) : okB (withHead p) = true := okB_append.2 ⟨headN_ok _, h⟩
theorem withHead_len (p : List Int) : (withHead p).length = p.length + 2 := by simp [withHead, headN]
theorem frameOf_ok {p : List Int} (h : okB p = true) : okB (frameOf p) = true := okB_append.2 ⟨withHead_ok h, bytesN_ok _⟩
theorem frameOf_len (p : List Int) : (frameOf p).length = p.length + 6 := by
  unfold frameOf
  rw [List.length_append, withHead_len, bytesN_len]
theorem put_eq {l p : List Int} (hp : okB p = true) (hpl : p.length ≤ 100000) (hl : l.length ≤ 1000000) :
    frame_Put.f l p = some (if p.length = 0 then (l, 1) else if 1000 < p.length then (l, 12) else (l ++ frameOf p, 0)) := by
  unfold frame_Put.f
  by_cases h0 : p.length = 0
  · rw [if_pos (by omega), if_pos h0]
  · rw [if_neg (by omega), if_neg h0, size_eq]
    by_cases h1 : 1000 < p.length
    · simp only [Option.bind_some]
      rw [if_pos (by rw [if_neg (by omega)]), if_pos h1]
    · simp only [Option.bind_some]
      rw [if_neg (by rw [if_pos (by omega)]; omega), if_neg h1]
      have e : ([([((p.length : Int) / 256) % 256, ((p.length : Int)) % 256] : List Int), p] : List (List Int)).flatten = withHead p := by
        simp [withHead, headN]
      unfold slices_Concat_byte_byte.f
      rw [e, if_pos (by rw [withHead_len]; omega)]
      simp only [Option.bind_some]
      rw [seal_eq (withHead_ok hp) (by rw [withHead_len]; omega)]
      simp only [Option.bind_some]
      have e2 : ([l, withHead p ++ bytesN (crcN (withHead p))] : List (List Int)).flatten = l ++ frameOf p := by simp [frameOf]
      rw [e2, if_pos (by rw [List.length_append, frameOf_len]; omega)]
      simp only [Option.bind_some]
/-- The length that stands ahead. -/
def lenOf (b : List Int) : Nat := (rd b 0).toNat * 256 + (rd b 1).toNat
theorem i64_or_nat (a b : Nat) (ha : a < 1048576) (hb : b < 1048576) : Go.bits .or .i64 (a : Int) (b : Int) = ((a ||| b : Nat) : Int) := by
  have hx : a ||| b < 2 ^ 20 := Nat.or_lt_two_pow (by omega) (by omega)
  show IntKind.i64.wrap ((BitVec.ofInt 64 (a : Int) ||| BitVec.ofInt 64 (b : Int)).toNat : Int) = _
  rw [BitVec.toNat_or, ofInt_u64 a (by omega), ofInt_u64 b (by omega)]
  have e : ∀ n : Nat, n < 9223372036854775808 → IntKind.i64.wrap (n : Int) = (n : Int) := by
    intro n h
    have e : (n : Int) % 2 ^ 64 = n := Int.emod_eq_of_lt (by omega) (by omega)
    simp only [IntKind.wrap, IntKind.bits, IntKind.signed, e]
    rw [if_neg]
    simp
    omega
  exact e _ (by omega)
theorem or16 {a b : Nat} (ha : a < 256) (hb : b < 256) : Go.bits .or .i64 (wrap64 ((wrap64 (a : Int)) * 256)) (wrap64 (b : Int)) = ((a * 256 + b : Nat) : Int) := by
  have e1 : wrap64 ((wrap64 (a : Int)) * 256) = ((a * 256 : Nat) : Int) := by unfold wrap64; omega
  have e2 : wrap64 (b : Int) = ((b : Nat) : Int) := by unfold wrap64; omega
  rw [e1, e2, i64_or_nat _ _ (by omega) (by omega)]
  have := or_add a b 8 (by omega)
  rw [show a * 256 = 2 ^ 8 * a by omega, this]
/-- What is got. -/
def getF (b : List Int) : List Int × Int × Int :=
  if b.length < 2 then ([], 0, 2)
  else if 1 ≤ lenOf b ∧ lenOf b ≤ 1000 ∧ lenOf b + 6 ≤ b.length then
    (if GoodP (b.take (lenOf b + 6)) then ((b.take (lenOf b + 2)).drop 2, ((lenOf b + 6 : Nat) : Int), 0) else ([], 0, 3))
  else ([], 0, 2)
theorem get_eq {b : List Int} (hb : okB b = true) (hl : b.length ≤ 1000000) (k : Nat) : frame_Get.f (k + 1) b = some (getF b) := by
  unfold frame_Get.f getF
  by_cases h2 : b.length < 2
  · rw [if_pos (by omega), if_pos h2]
  · rw [if_neg (by omega), if_neg h2, if_pos (by omega), if_pos (by omega)]
    obtain ⟨x, hx, hx1, _⟩ := okB_rd hb (n := 0) (by omega)
    obtain ⟨y, hy, hy1, _⟩ := okB_rd hb (n := 1) (by omega)
    have ex : rd b 0 = (x : Int) := hx1
    have ey : rd b 1 = (y : Int) := hy1
    have en : lenOf b = x * 256 + y := by unfold lenOf; rw [ex, ey]; omega
    rw [ex, ey, or16 hx hy, ← en, size_eq]
    generalize lenOf b = n at en
    simp only [Option.bind_some]
    by_cases h3 : 1 ≤ n ∧ n ≤ 1000
    · simp only [if_pos h3]
      rw [if_neg (by omega), frame_Get.j0]
      by_cases h4 : n + 6 ≤ b.length
      · have hd : decide (((n + 6 : Nat) : Int) > (b.length : Int)) = false := decide_eq_false (by omega)
        rw [if_pos (show 1 ≤ n ∧ n ≤ 1000 ∧ n + 6 ≤ b.length from ⟨h3.1, h3.2, h4⟩), hd, if_neg (by decide), if_pos (by omega), if_pos (by omega), Int.toNat_natCast]
        rw [good_p (okB_take hb _) (by rw [List.length_take]; omega)]
        simp only [Option.bind_some]
        have ew : wrap64 (2 + (n : Int)) = ((n + 2 : Nat) : Int) := by unfold wrap64; omega
        by_cases h5 : GoodP (b.take (n + 6))
        · rw [if_pos (decide_eq_true h5), if_pos h5, ew, if_pos (by omega), if_pos (by omega), Int.toNat_natCast]
          unfold slices_Clone_byte_byte.f
          rw [if_pos (by rw [List.length_drop, List.length_take]; omega)]
          simp only [Option.bind_some]
        · rw [if_neg (by rw [decide_eq_true_iff]; exact h5), if_neg h5]
      · have hd : decide (((n + 6 : Nat) : Int) > (b.length : Int)) = true := decide_eq_true (by omega)
        rw [if_neg (show ¬ (1 ≤ n ∧ n ≤ 1000 ∧ n + 6 ≤ b.length) from fun h => h4 h.2.2), hd, if_pos rfl]
    · simp only [if_neg h3, if_true]
      rw [frame_Get.j0, if_pos rfl, if_neg (show ¬ (1 ≤ n ∧ n ≤ 1000 ∧ n + 6 ≤ b.length) from fun h => h3 ⟨h.1, h.2.1⟩)]
theorem frameOf_rd (p r : List Int) (hp : p.length ≤ 1000) : lenOf (frameOf p ++ r) = p.length := by
  have e : frameOf p ++ r = ((p.length / 256 % 256 : Nat) : Int) :: ((p.length % 256 : Nat) : Int) :: (p ++ (bytesN (crcN (withHead p)) ++ r)) := by
    simp [frameOf, withHead, headN]
  rw [e]
  have e0 : rd (((p.length / 256 % 256 : Nat) : Int) :: ((p.length % 256 : Nat) : Int) :: (p ++ (bytesN (crcN (withHead p)) ++ r))) 0 = ((p.length / 256 % 256 : Nat) : Int) := rfl
  have e1 : rd (((p.length / 256 % 256 : Nat) : Int) :: ((p.length % 256 : Nat) : Int) :: (p ++ (bytesN (crcN (withHead p)) ++ r))) 1 = ((p.length % 256 : Nat) : Int) := rfl
  unfold lenOf
  rw [e0, e1]
  omega
theorem frameOf_good (p : List Int) : GoodP (frameOf p) := by
  unfold frameOf
  rw [goodP_app _ _ (bytesN_len _), rdN_bytes (crcN_lt _)]
theorem get_frame {p r : List Int} (h0 : 1 ≤ p.length) (h1 : p.length ≤ 1000) : getF (frameOf p ++ r) = (p, ((p.length + 6 : Nat) : Int), 0) := by
  have hl := frameOf_len p
  have ht : (frameOf p ++ r).take (p.length + 6) = frameOf p := by rw [← hl, List.take_left]
  have ht2 : (frameOf p ++ r).take (p.length + 2) = withHead p := by
    have e : frameOf p ++ r = withHead p ++ (bytesN (crcN (withHead p)) ++ r) := by simp [frameOf]
    rw [e, ← withHead_len, List.take_left]
  unfold getF
  rw [frameOf_rd p r h1, if_neg (by rw [List.length_append, hl]; omega), if_pos ⟨h0, h1, by rw [List.length_append, hl]; omega⟩, ht, if_pos (frameOf_good p), ht2]
  have e3 : (withHead p).drop 2 = p := rfl
  rw [e3]
end Go.Proofs.Ytbcienbnhchdeaa.FrameL
