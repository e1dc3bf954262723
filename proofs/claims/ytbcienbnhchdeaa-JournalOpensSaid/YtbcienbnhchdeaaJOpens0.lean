/- LawJournalOpens: the texts Enter, CrcM, HandT, HandM, HandC, HandD, HandE, HandK, HandJ, Print0, Print8, Print9, Print10, Print12, Print13, Print15, Print1, Print3, Print4, joined: contracts of the functions that the statement reaches, and plain laws. -/
import Derived.Test.YtbcienbnhchdeaaRows
import Derived.WalkKit
import Derived.JoinedOf
import Derived.Test.YtbcienbnhchdeaaProg
import Derived.KernelRfl
import Derived.Outline
import Derived.Below
import Derived.Lib.Hide
import Derived.Laws.CopyOwn
import Derived.Test.YtbcienbnhchdeaaWWords
import Derived.Test.YtbcienbnhchdeaaWMore
import Derived.Test.YtbcienbnhchdeaaWZeros
import Derived.Lib.SliceRun
import Derived.Test.YtbcienbnhchdeaaWKept
import Derived.StillTailTactics
import Derived.RangeFuncBox
import Derived.RangeFuncNested
import Derived.RangeFuncBound
import Derived.RangeFuncCalls
import Derived.RangeFuncLeaves
import Derived.Shelf.Abstract
import Derived.Shelf.RegionOpen
import Derived.OwnWalkIn
import Derived.TacticsInMore
import Derived.LoopNIn
import Derived.LoopIn
import Derived.Maps.AppendAt
import Derived.Test.YtbcienbnhchdeaaWApart
import Derived.ScopeJumps
import Derived.WalkMore
import Derived.Deep.Draws
import Derived.Deep.AppendLies
import Derived.OwnWalk
import Derived.Laws.BytesArg
import Derived.Laws.MakeOwn
import Derived.Laws.OwnMore
import Derived.Deep.OwnRows
import Derived.Tactics
import Derived.Lib.ConvBytes
import Derived.Laws.Slices
import Derived.RowKit3
import Derived.Deep.LoopGhost
import Derived.Deep.QuietTactic
import Derived.BigQuiet
import Derived.WideLaws
import Derived.Deep.DeepCutAuto
import Derived.Deep.CutBlock
import Derived.Deep.RegionHeld3
import Derived.Laws.Rows
import Derived.Lib.AppendStr
import Derived.ArgAppend
import Derived.Laws.IdiomCopy
import Derived.OrdersHeld
import Derived.Laws.BitsLemmas
import Derived.RowKit
import Derived.Lib.SlBytesConst
import Derived.Test.YtbcienbnhchdeaaWLast
import Derived.Test.YtbcienbnhchdeaaWTab
import Derived.Test.YtbcienbnhchdeaaWFour
import Derived.Test.YtbcienbnhchdeaaWQPut
import Derived.Test.YtbcienbnhchdeaaWArr
import Derived.Test.YtbcienbnhchdeaaWFoot
import Derived.Test.YtbcienbnhchdeaaWShare
import Derived.Test.YtbcienbnhchdeaaWN
import Derived.Test.YtbcienbnhchdeaaWFootNe
import Derived.Test.YtbcienbnhchdeaaWAt
import Derived.Test.YtbcienbnhchdeaaWEqStruct
import Derived.Test.YtbcienbnhchdeaaWRepsOne
import Derived.Test.YtbcienbnhchdeaaWInv
import Derived.Test.YtbcienbnhchdeaaWInvWords
import Derived.Test.YtbcienbnhchdeaaWGuard
import Derived.Test.YtbcienbnhchdeaaWNEv

/- The dump's head: a list of words; only the first three are looked at. -/
namespace Go.Proofs.Ytbcienbnhchdeaa.Enter
def restL : List Char := [97, 116, 32, 112, 97, 99, 101, 115, 101, 116, 116, 101, 114, 47, 112, 97, 99, 101, 115, 101, 116, 116, 101, 114, 108, 97, 119, 48, 49, 46, 67, 114, 99, 74, 111, 105, 110, 115, 32, 112, 97, 99, 101, 115, 101, 116, 116, 101, 114, 47, 112, 97, 99, 101, 115, 101, 116, 116, 101, 114, 108, 97, 119, 48, 49, 46, 67, 114, 99, 83, 117, 109, 115, 32, 112, 97, 99, 101, 115, 101, 116, 116, 101, 114, 47, 112, 97, 99, 101, 115, 101, 116, 116, 101, 114, 108, 97, 119, 48, 49, 46, 67, 114, 99, 66, 121, 116, 101, 115, 32, 112, 97, 99, 101, 115, 101, 116, 116, 101, 114, 47, 112, 97, 99, 101, 115, 101, 116, 116, 101, 114, 108, 97, 119, 48, 53, 46, 68, 105, 115, 107, 75, 101, 101, 112, 115, 32, 112, 97, 99, 101, 115, 101, 116, 116, 101, 114, 47, 112, 97, 99, 101, 115, 101, 116, 116, 101, 114, 108, 97, 119, 48, 53, 46, 68, 105, 115, 107, 83, 97, 102, 101, 32, 112, 97, 99, 101, 115, 101, 116, 116, 101, 114, 47, 112, 97, 99, 101, 115, 101, 116, 116, 101, 114, 108, 97, 119, 48, 49, 46, 67, 114, 99, 82, 101, 97, 100, 115, 32, 112, 97, 99, 101, 115, 101, 116, 116, 101, 114, 47, 112, 97, 99, 101, 115, 101, 116, 116, 101, 114, 108, 97, 119, 48, 49, 46, 67, 114, 99, 84, 117, 114, 110, 115, 32, 112, 97, 99, 101, 115, 101, 116, 116, 101, 114, 47, 112, 97, 99, 101, 115, 101, 116, 116, 101, 114, 108, 97, 119, 48, 49, 46, 67, 114, 99, 83, 119, 97, 112, 115, 32, 112, 97, 99, 101, 115, 101, 116, 116, 101, 114, 47, 112, 97, 99, 101, 115, 101, 116, 116, 101, 114, 108, 97, 119, 48, 53, 46, 68, 105, 115, 107, 79, 119, 110, 115, 32, 112, 97, 99, 101, 115, 101, 116, 116, 101, 114, 47, 112, 97, 99, 101, 115, 101, 116, 116, 101, 114, 108, 97, 119, 48, 53, 46, 68, 105, 115, 107, 80, 108, 97, 121, 115, 32, 112, 97, 99, 101, 115, 101, 116, 116, 101, 114, 47, 112, 97, 99, 101, 115, 101, 116, 116, 101, 114, 108, 97, 119, 48, 53, 46, 68, 105, 115, 107, 82, 111, 111, 109, 32, 112, 97, 99, 101, 115, 101, 116, 116, 101, 114, 47, 112, 97, 99, 101, 115, 101, 116, 116, 101, 114, 108, 97, 119, 48, 53, 46, 68, 105, 115, 107, 78, 105, 108, 32, 112, 97, 99, 101, 115, 101, 116, 116, 101, 114, 47, 112, 97, 99, 101, 115, 101, 116, 116, 101, 114, 108, 97, 119, 48, 52, 46, 70, 114, 97, 109, 101, 80, 117, 116, 115, 32, 112, 97, 99, 101, 115, 101, 116, 116, 101, 114, 47, 112, 97, 99, 101, 115, 101, 116, 116, 101, 114, 108, 97, 119, 48, 52, 46, 70, 114, 97, 109, 101, 66, 97, 99, 107, 32, 112, 97, 99, 101, 115, 101, 116, 116, 101, 114, 47, 112, 97, 99, 101, 115, 101, 116, 116, 101, 114, 108, 97, 119, 48, 52, 46, 70, 114, 97, 109, 101, 67, 117, 116, 115, 32, 112, 97, 99, 101, 115, 101, 116, 116, 101, 114, 47, 112, 97, 99, 101, 115, 101, 116, 116, 101, 114, 108, 97, 119, 48, 52, 46, 70, 114, 97, 109, 101, 74, 111, 105, 110, 115, 32, 112, 97, 99, 101, 115, 101, 116, 116, 101, 114, 47, 112, 97, 99, 101, 115, 101, 116, 116, 101, 114, 108, 97, 119, 48, 52, 46, 70, 114, 97, 109, 101, 71, 101, 116, 115, 32, 112, 97, 99, 101, 115, 101, 116, 116, 101, 114, 47, 112, 97, 99, 101, 115, 101, 116, 116, 101, 114, 108, 97, 119, 48, 52, 46, 70, 114, 97, 109, 101, 84, 111, 114, 110, 32, 112, 97, 99, 101, 115, 101, 116, 116, 101, 114, 47, 112, 97, 99, 101, 115, 101, 116, 116, 101, 114, 108, 97, 119, 48, 54, 46, 74, 111, 117, 114, 110, 97, 108, 67, 114, 97, 115, 104, 32, 112, 97, 99, 101, 115, 101, 116, 116, 101, 114, 47, 112, 97, 99, 101, 115, 101, 116, 116, 101, 114, 108, 97, 119, 48, 54, 46, 74, 111, 117, 114, 110, 97, 108, 79, 112, 101, 110, 115, 32, 112, 97, 99, 101, 115, 101, 116, 116, 101, 114, 47, 112, 97, 99, 101, 115, 101, 116, 116, 101, 114, 108, 97, 119, 48, 54, 46, 74, 111, 117, 114, 110, 97, 108, 84, 111, 114, 110, 32, 112, 97, 99, 101, 115, 101, 116, 116, 101, 114, 47, 112, 97, 99, 101, 115, 101, 116, 116, 101, 114, 108, 97, 119, 48, 54, 46, 74, 111, 117, 114, 110, 97, 108, 83, 119, 97, 112, 115, 32, 112, 97, 99, 101, 115, 101, 116, 116, 101, 114, 47, 112, 97, 99, 101, 115, 101, 116, 116, 101, 114, 108, 97, 119, 48, 54, 46, 74, 111, 117, 114, 110, 97, 108, 80, 108, 97, 121, 115, 32, 112, 97, 99, 101, 115, 101, 116, 116, 101, 114, 47, 112, 97, 99, 101, 115, 101, 116, 116, 101, 114, 108, 97, 119, 48, 54, 46, 74, 111, 117, 114, 110, 97, 108, 78, 105, 108].map Char.ofNat
def sumL : List Char := [55, 51, 48, 53, 55, 56, 102, 97, 53, 49, 101, 98, 54, 51, 50, 97, 52, 98, 102, 99, 57, 55, 51, 97, 57, 98, 100, 56, 100, 98, 49, 51, 55, 98, 101, 99, 57, 48, 102, 53, 102, 49, 53, 97, 100, 49, 57, 54, 57, 98, 56, 102, 53, 56, 97, 56, 48, 52, 54, 51, 56, 102, 56, 101].map Char.ofNat
theorem order : Try.prog.initOrder = String.ofList ([Char.ofNat 104, Char.ofNat 97, Char.ofNat 114, Char.ofNat 110, Char.ofNat 101, Char.ofNat 115, Char.ofNat 115] ++ Char.ofNat 32 :: (sumL ++ Char.ofNat 32 :: ([Char.ofNat 99, Char.ofNat 117, Char.ofNat 116] ++ Char.ofNat 32 :: restL))) := by kernel_rfl
theorem word : ∀ (a r : List Char), a.all (· != Char.ofNat 32) = true → wordsSigns (a ++ Char.ofNat 32 :: r) = a :: wordsSigns r
  | [], r, _ => rfl
  | c :: a, r, h => by
    simp only [List.all_cons, Bool.and_eq_true, bne_iff_ne, ne_eq] at h
    have ih := word a r h.2
    rw [List.cons_append, wordsSigns, ih]
    intro hc
    exact absurd hc h.1
theorem words : ∃ R, wordsSigns Try.prog.initOrder.toList = [Char.ofNat 104, Char.ofNat 97, Char.ofNat 114, Char.ofNat 110, Char.ofNat 101, Char.ofNat 115, Char.ofNat 115] :: sumL :: [Char.ofNat 99, Char.ofNat 117, Char.ofNat 116] :: R := by
  refine ⟨wordsSigns restL, ?_⟩
  rw [order, String.toList_ofList, word _ _ (by decide +kernel), word _ _ (by decide +kernel), word _ _ (by decide +kernel)]
theorem behind : ∃ R, behindMainWord (wordsSigns Try.prog.initOrder.toList) = [Char.ofNat 99, Char.ofNat 117, Char.ofNat 116] :: R := by
  obtain ⟨R, h⟩ := words
  refine ⟨R, ?_⟩
  rw [h]
  kernel_rfl
theorem head_of {P : Program} {R : List (List Char)} (h : behindMainWord (wordsSigns P.initOrder.toList) = [Char.ofNat 99, Char.ofNat 117, Char.ofNat 116] :: R) : P.headLifts = [] := by
  unfold Program.headLifts
  rw [h]
  rfl
theorem enter_of {P : Program} {R : List (List Char)} (h : behindMainWord (wordsSigns P.initOrder.toList) = [Char.ofNat 99, Char.ofNat 117, Char.ofNat 116] :: R) (h1 : P.laysLater = false) (h2 : P.bearsReflect = false) (h3 : P.doorFits [] = true) : P.mayEnter = true := by
  unfold Program.mayEnter
  rw [h, h1, h2]
  have e : (stripLifts liftWords ([Char.ofNat 99, Char.ofNat 117, Char.ofNat 116] :: R)) = ([], [Char.ofNat 99, Char.ofNat 117, Char.ofNat 116] :: R) := rfl
  simp only [e, h3]
  rfl
theorem lifts_of {P : Program} {R : List (List Char)} (h : behindMainWord (wordsSigns P.initOrder.toList) = [Char.ofNat 99, Char.ofNat 117, Char.ofNat 116] :: R) : P.liftsFinal = false := by
  unfold Program.liftsFinal
  rw [h, head_of h]
  rfl
theorem mk_of {P : Program} {R : List (List Char)} (h : behindMainWord (wordsSigns P.initOrder.toList) = [Char.ofNat 99, Char.ofNat 117, Char.ofNat 116] :: R) : P.make = some .cut := by
  unfold Program.make
  rw [h]
  rfl
theorem enter : Try.prog.mayEnter = true := by
  obtain ⟨R, h⟩ := behind
  exact enter_of h (by kernel_rfl) (by kernel_rfl) (by kernel_rfl)
theorem lifts : Try.prog.liftsFinal = false := by
  obtain ⟨R, h⟩ := behind
  exact lifts_of h
theorem mk : Try.prog.make = some .cut := by
  obtain ⟨R, h⟩ := behind
  exact mk_of h
theorem enterP : Try.pinned.checked.prog.mayEnter = true := enter
theorem liftsP : Try.pinned.checked.prog.liftsFinal = false := lifts
theorem mkP : Try.pinned.checked.prog.make = some .cut := mk
end Go.Proofs.Ytbcienbnhchdeaa.Enter

/- The plain law of the check of bytes: numbers and lists alone. -/
namespace Go.Proofs.Ytbcienbnhchdeaa.CrcM

theorem xor_eq_zero {a b : Nat} : a ^^^ b = 0 ↔ a = b := by
  constructor
  · intro h
    apply Nat.eq_of_testBit_eq
    intro i
    have h1 := congrArg (fun n => n.testBit i) h
    simp only [Nat.testBit_xor, Nat.zero_testBit] at h1
    revert h1
    cases a.testBit i <;> cases b.testBit i <;> simp
  · rintro rfl
    exact Nat.xor_self _
theorem xor_right_cancel {a b c : Nat} (h : a ^^^ c = b ^^^ c) : a = b := by
  have := congrArg (fun n => n ^^^ c) h
  simpa [Nat.xor_assoc] using this
theorem xor_left_cancel {a b c : Nat} (h : c ^^^ a = c ^^^ b) : a = b := by
  rw [Nat.xor_comm c, Nat.xor_comm c] at h
  exact xor_right_cancel h

def poly : Nat := 3988292384
def bit1 (w : Nat) : Nat := w / 2 ^^^ (poly * (w % 2))
def bit8 (w : Nat) : Nat := bit1 (bit1 (bit1 (bit1 (bit1 (bit1 (bit1 (bit1 w)))))))
def upd (w : Nat) (c : UInt8) : Nat := bit8 (w ^^^ c.toNat)
def fold (w : Nat) (l : List UInt8) : Nat := l.foldl upd w

theorem xor_div2 (a b : Nat) : (a ^^^ b) / 2 = a / 2 ^^^ b / 2 := by
  simpa [Nat.shiftRight_eq_div_pow] using Nat.shiftRight_xor_distrib (a := a) (b := b) (i := 1)
theorem xor_mod2 (a b : Nat) : (a ^^^ b) % 2 = (a % 2) ^^^ (b % 2) := by
  simpa using Nat.xor_mod_two_pow (a := a) (b := b) (n := 1)
theorem xor_div256 (a b : Nat) : (a ^^^ b) / 256 = a / 256 ^^^ b / 256 := by
  simpa [Nat.shiftRight_eq_div_pow] using Nat.shiftRight_xor_distrib (a := a) (b := b) (i := 8)
theorem xor_mod256 (a b : Nat) : (a ^^^ b) % 256 = (a % 256) ^^^ (b % 256) := by
  simpa using Nat.xor_mod_two_pow (a := a) (b := b) (n := 8)
theorem bit1_xor (a b : Nat) : bit1 (a ^^^ b) = bit1 a ^^^ bit1 b := by
  unfold bit1
  rw [xor_div2, xor_mod2]
  have ha : a % 2 = 0 ∨ a % 2 = 1 := by omega
  have hb : b % 2 = 0 ∨ b % 2 = 1 := by omega
  rcases ha with ha | ha <;> rcases hb with hb | hb <;> simp only [ha, hb]
  · simp
  · simp [Nat.xor_assoc]
  · simp only [Nat.xor_zero, Nat.mul_one, Nat.mul_zero]
    rw [Nat.xor_assoc, Nat.xor_assoc, Nat.xor_comm (b / 2) poly]
  · simp only [Nat.xor_self, Nat.mul_zero, Nat.xor_zero, Nat.mul_one]
    rw [Nat.xor_assoc, ← Nat.xor_assoc poly, Nat.xor_comm poly (b / 2), Nat.xor_assoc, Nat.xor_self, Nat.xor_zero]
theorem bit8_xor (a b : Nat) : bit8 (a ^^^ b) = bit8 a ^^^ bit8 b := by
  unfold bit8
  simp only [bit1_xor]
theorem bit1_lt {w : Nat} (h : w < 4294967296) : bit1 w < 4294967296 := by
  unfold bit1
  apply Nat.xor_lt_two_pow (n := 32)
  · omega
  · unfold poly; omega
theorem bit8_lt {w : Nat} (h : w < 4294967296) : bit8 w < 4294967296 := by
  unfold bit8
  exact bit1_lt (bit1_lt (bit1_lt (bit1_lt (bit1_lt (bit1_lt (bit1_lt (bit1_lt h)))))))
theorem bit1_even (m : Nat) : bit1 (2 * m) = m := by
  unfold bit1
  simp
theorem bit8_high (q : Nat) : bit8 (256 * q) = q := by
  unfold bit8
  rw [show 256 * q = 2 * (2 * (2 * (2 * (2 * (2 * (2 * (2 * q))))))) by omega]
  simp only [bit1_even]
theorem bit1_zero {w : Nat} (h : w < 4294967296) (h0 : bit1 w = 0) : w = 0 := by
  unfold bit1 at h0
  have h1 := xor_eq_zero.1 h0
  unfold poly at h1
  omega
theorem bit8_zero {w : Nat} (h : w < 4294967296) (h0 : bit8 w = 0) : w = 0 := by
  unfold bit8 at h0
  have l1 := bit1_lt h
  have l2 := bit1_lt l1
  have l3 := bit1_lt l2
  have l4 := bit1_lt l3
  have l5 := bit1_lt l4
  have l6 := bit1_lt l5
  have l7 := bit1_lt l6
  exact bit1_zero h (bit1_zero l1 (bit1_zero l2 (bit1_zero l3 (bit1_zero l4 (bit1_zero l5 (bit1_zero l6 (bit1_zero l7 h0)))))))
theorem bit8_inj {a b : Nat} (ha : a < 4294967296) (hb : b < 4294967296) (h : bit8 a = bit8 b) : a = b := by
  have h1 : bit8 (a ^^^ b) = 0 := by rw [bit8_xor, h, Nat.xor_self]
  exact xor_eq_zero.1 (bit8_zero (Nat.xor_lt_two_pow (n := 32) ha hb) h1)
theorem byte_lt (c : UInt8) : c.toNat < 256 := c.toNat_lt
theorem xor_byte_lt {w : Nat} (h : w < 4294967296) (c : UInt8) : w ^^^ c.toNat < 4294967296 :=
  Nat.xor_lt_two_pow (n := 32) h (by have := byte_lt c; omega)
theorem upd_lt {w : Nat} (h : w < 4294967296) (c : UInt8) : upd w c < 4294967296 := bit8_lt (xor_byte_lt h c)
theorem fold_lt (l : List UInt8) : ∀ {w : Nat}, w < 4294967296 → fold w l < 4294967296 := by
  induction l with
  | nil => intro w h; exact h
  | cons c l ih => intro w h; exact ih (upd_lt h c)
/-- A byte by the table: what the program does. -/
theorem table_step {w : Nat} (c : UInt8) : bit8 ((w % 256) ^^^ c.toNat) ^^^ (w / 256) = upd w c := by
  unfold upd
  have hc : c.toNat % 256 = c.toNat := Nat.mod_eq_of_lt (byte_lt c)
  have hc0 : c.toNat / 256 = 0 := Nat.div_eq_of_lt (byte_lt c)
  have e : w ^^^ c.toNat = ((w % 256) ^^^ c.toNat) ^^^ (256 * (w / 256)) := by
    apply Nat.eq_of_testBit_eq
    intro i
    have h256 : w = 2 ^ 8 * (w / 256) + w % 256 := by omega
    have hlt : w % 256 < 2 ^ 8 := by omega
    have hcl : c.toNat < 2 ^ 8 := byte_lt c
    rw [show 256 * (w / 256) = 2 ^ 8 * (w / 256) by rfl]
    simp only [Nat.testBit_xor]
    by_cases hi : i < 8
    · rw [Nat.testBit_two_pow_mul]
      have : w.testBit i = (w % 256).testBit i := by
        rw [show (256 : Nat) = 2 ^ 8 by rfl, Nat.testBit_mod_two_pow]; simp [hi]
      rw [this]
      simp [show ¬ 8 ≤ i by omega]
    · have h1 : (w % 256).testBit i = false := Nat.testBit_lt_two_pow (Nat.lt_of_lt_of_le hlt (Nat.pow_le_pow_right (by omega) (by omega)))
      have h2 : c.toNat.testBit i = false := Nat.testBit_lt_two_pow (Nat.lt_of_lt_of_le hcl (Nat.pow_le_pow_right (by omega) (by omega)))
      rw [h1, h2, Nat.testBit_two_pow_mul]
      have h3 : w.testBit i = (w / 256).testBit (i - 8) := by
        rw [show (256 : Nat) = 2 ^ 8 by rfl, Nat.testBit_div_two_pow]
        congr 1
        omega
      rw [h3]
      simp [show 8 ≤ i by omega]
  rw [e, bit8_xor _ (256 * (w / 256)), bit8_high]
theorem fold_append (w : Nat) (a b : List UInt8) : fold w (a ++ b) = fold (fold w a) b := List.foldl_append ..
theorem fold_inj (l : List UInt8) : ∀ {a b : Nat}, a < 4294967296 → b < 4294967296 → fold a l = fold b l → a = b := by
  induction l with
  | nil => intro a b _ _ h; exact h
  | cons c l ih =>
    intro a b ha hb h
    have h1 := ih (upd_lt ha c) (upd_lt hb c) h
    have h2 := bit8_inj (xor_byte_lt ha c) (xor_byte_lt hb c) h1
    exact xor_right_cancel h2
theorem upd_byte_inj {w : Nat} (h : w < 4294967296) {x y : UInt8} (e : upd w x = upd w y) : x = y := by
  have h2 := bit8_inj (xor_byte_lt h x) (xor_byte_lt h y) e
  exact UInt8.toNat_inj.1 (xor_left_cancel h2)
/-- One byte turned: another check. -/
theorem fold_turn (p q : List UInt8) {x y : UInt8} {w : Nat} (hw : w < 4294967296) (h : fold w (p ++ x :: q) = fold w (p ++ y :: q)) : x = y := by
  rw [fold_append, fold_append] at h
  exact upd_byte_inj (fold_lt p hw) (fold_inj q (upd_lt (fold_lt p hw) x) (upd_lt (fold_lt p hw) y) h)

theorem xor_swap {a b x y : Nat} (h : a ^^^ y = b ^^^ x) : a ^^^ b = x ^^^ y := by
  apply Nat.eq_of_testBit_eq
  intro i
  have h1 := congrArg (fun n => n.testBit i) h
  simp only [Nat.testBit_xor] at h1 ⊢
  revert h1
  cases a.testBit i <;> cases b.testBit i <;> cases x.testBit i <;> cases y.testBit i <;> simp
theorem same_byte : ∀ d : Nat, d < 256 → bit8 d = d → d = 0 := by decide +kernel
theorem high_byte : ∀ d : Nat, d < 256 → bit8 d = d * 16777216 → d = 0 := by decide +kernel
/-- Two neighbours swapped: another check. -/
theorem fold_swap (p q : List UInt8) {x y : UInt8} {w : Nat} (hw : w < 4294967296) (h : fold w (p ++ x :: y :: q) = fold w (p ++ y :: x :: q)) : x = y := by
  rw [fold_append, fold_append] at h
  have hp := fold_lt p hw
  generalize fold w p = v at h hp
  have h1 : upd (upd v x) y = upd (upd v y) x := fold_inj q (upd_lt (upd_lt hp x) y) (upd_lt (upd_lt hp y) x) h
  have h2 := bit8_inj (xor_byte_lt (upd_lt hp x) y) (xor_byte_lt (upd_lt hp y) x) h1
  unfold upd at h2
  rw [bit8_xor, bit8_xor] at h2
  have h3 : bit8 x.toNat ^^^ y.toNat = bit8 y.toNat ^^^ x.toNat := by
    rw [Nat.xor_assoc, Nat.xor_assoc] at h2
    exact xor_left_cancel h2
  have h4 : bit8 (x.toNat ^^^ y.toNat) = x.toNat ^^^ y.toNat := by
    rw [bit8_xor]
    exact xor_swap h3
  have h5 := same_byte _ (Nat.xor_lt_two_pow (n := 8) (byte_lt x) (byte_lt y)) h4
  exact UInt8.toNat_inj.1 (xor_eq_zero.1 h5)
end Go.Proofs.Ytbcienbnhchdeaa.CrcM

/- The table of the check: what each byte does to a word. -/
namespace Go.Proofs.Ytbcienbnhchdeaa.Hand
open Go.RowKit CrcM
set_option linter.unusedVariables false

theorem wpList_alloc_zero {P : Program} {ops : Array Oper} {rest : List Oper} {o : Oper} {a : Act} {w : World} {Q : Exit → Act → World → Prop} (hgd : o.guard = none) (t : TypeId) (ho : o.op = .alloc t)
    (z : Value) (hz : (P.info? t).map (·.zero) = some (some z))
    (h : wpList P ops Q rest (a.put o.dst (.pointer (some ⟨w.heap.size, 0, none⟩))) (w.alloc (.cells z.cells t))) : wpList P ops Q (o :: rest) a w := by
  refine wpList_plain hgd fun _ hK => ?_
  cases hq : P.info? t with
  | none => simp [hq] at hz
  | some i =>
    have hz' : i.zero = some z := by simpa [hq] using hz
    have hr : (Instr.alloc t true (.tuple #[])).run P w = .ok (.pointer (some ⟨w.heap.size, 0, none⟩)) (w.alloc (.cells z.cells t)) := by
      simp [Instr.alloc, zeroValue, typeInfo, hq, hz', newVar, newRow]
    unfold Oper.wp execOp
    simp only [ho, Sem.run_bind, hr, Result.andThen_ok, Sem.run_pure]
    exact hK _ _ h

/-- Block g is a row of n cells, f tells each; none is frozen. -/
def Blk (w : World) (g : Nat) (t : TypeId) (cs : Array Value) : Prop := w.heap[g]? = some (.cells cs t (0, 0))
theorem Blk.cell {w : World} {g : Nat} {t : TypeId} {cs : Array Value} (h : Blk w g t cs) (i : Nat) : w.cell? ⟨g, i, none⟩ = cs[i]? := by
  unfold Blk at h
  simp [World.cell?, h]
theorem Blk.frozen {w : World} {g : Nat} {t : TypeId} {cs : Array Value} (h : Blk w g t cs) (i : Nat) : w.frozen? ⟨g, i, none⟩ = false := by
  unfold Blk at h
  simp [World.frozen?, h]
theorem Blk.set_ {w : World} {g : Nat} {t : TypeId} {cs : Array Value} (h : Blk w g t cs) (i : Nat) (u : Value) : Blk (w.setCell ⟨g, i, none⟩ u) g t (cs.setIfInBounds i u) := by
  unfold Blk at h ⊢
  simp [World.setCell, Array.getElem?_modify, h]

theorem zero104 : (Try.prog.info? 104).map (·.zero) = some (some (.agg (Array.replicate 256 (.int .u32 0)))) := by kernel_rfl

theorem bits_and1 (w : Nat) (h : w < 4294967296) : bits .and .u32 (w : Int) 1 = ((w % 2 : Nat) : Int) := by
  have := u32_and_nat w 1 h (by omega)
  simpa using this
/-- One bit's step, as the walk spells it. -/
theorem step_bit (w : Nat) (h : w < 4294967296) : bits .xor .u32 ((w : Int) / 2) (3988292384 * bits .and .u32 (w : Int) 1 % 4294967296) = ((bit1 w : Nat) : Int) := by
  rw [bits_and1 w h]
  have e : (3988292384 * ((w % 2 : Nat) : Int)) % 4294967296 = ((poly * (w % 2) : Nat) : Int) := by unfold poly; omega
  rw [e]
  have e2 : (w : Int) / 2 = ((w / 2 : Nat) : Int) := by omega
  rw [e2, u32_xor_nat _ _ (by omega) (by unfold poly; omega)]
  rfl

theorem bit8_it (w : Nat) : bit8 w = bit1 (bit1 (bit1 (bit1 (bit1 (bit1 (bit1 (bit1 w))))))) := rfl
/-- j bits' steps. -/
def bitN : Nat → Nat → Nat
  | 0, w => w
  | j + 1, w => bit1 (bitN j w)
theorem bitN_lt (j : Nat) {w : Nat} (h : w < 4294967296) : bitN j w < 4294967296 := by
  induction j with
  | zero => exact h
  | succ j ih => exact bit1_lt ih
theorem bitN_8 (w : Nat) : bitN 8 w = bit8 w := rfl
/-- The row of the table, of which the first i are told. -/
def TabOk (cs : Array Value) (i : Nat) : Prop := cs.size = 256 ∧ ∀ j, j < i → cs[j]? = some (.int .u32 ((bit8 j : Nat) : Int))
theorem TabOk.step {cs : Array Value} {i : Nat} (h : TabOk cs i) (hi : i < 256) : TabOk (cs.setIfInBounds i (.int .u32 ((bit8 i : Nat) : Int))) (i + 1) := by
  refine ⟨by simp [h.1], fun j hj => ?_⟩
  rw [Array.getElem?_setIfInBounds]
  by_cases e : i = j
  · subst e
    rw [if_pos rfl, if_pos (by rw [h.1]; exact hi)]
  · rw [if_neg e]
    exact h.2 j (by omega)

/-- The world in the table's making: block w.heap.size is the row, the first n are told. -/
structure TRel (w wr : World) (n : Nat) : Prop where
  below : Below w.heap.size w wr
  row : ∃ cs, Blk wr w.heap.size 104 cs ∧ TabOk cs n
theorem TRel.cell {w wr : World} {n : Nat} (h : TRel w wr n) (j : Nat) (hj : j < 256) : ∃ v, wr.cell? ⟨w.heap.size, j, none⟩ = some v := by
  obtain ⟨cs, hb, hs, _⟩ := h.row
  rw [hb.cell]
  exact ⟨_, Array.getElem?_eq_getElem (by rw [hs]; exact hj)⟩
theorem TRel.frozen {w wr : World} {n : Nat} (h : TRel w wr n) (j : Nat) : wr.frozen? ⟨w.heap.size, j, none⟩ = false := by
  obtain ⟨cs, hb, _⟩ := h.row
  exact hb.frozen j
theorem TRel.step {w wr : World} {n : Nat} (h : TRel w wr n) (hn : n < 256) : TRel w (wr.setCell ⟨w.heap.size, n, none⟩ (.int .u32 ((bit8 n : Nat) : Int))) (n + 1) := by
  obtain ⟨cs, hb, hs⟩ := h.row
  exact ⟨h.below.setCell (Nat.le_refl _) _, _, hb.set_ n _, hs.step hn⟩

set_option maxRecDepth 100000 in
set_option maxHeartbeats 1000000 in
theorem table_any (w : World) : Calls Try.prog 93 #[] w fun e w' => e = .returned (.pointer (some ⟨w.heap.size, 0, none⟩)) ∧ TRel w w' 256 := by
  obtain ⟨W, hW, hT⟩ : ∃ W, w.alloc (.cells (Value.agg (Array.replicate 256 (.int .u32 0))).cells 104) = W ∧ TRel w W 0 :=
    ⟨_, rfl, (Below.refl _ _).alloc (Nat.le_refl _) _, _, heap_alloc_new w _, by simp [Value.cells], fun j hj => absurd hj (by omega)⟩
  have HW := Lib.hid hW
  have HT := Lib.hid hT
  clear hW hT
  go_enter Try.func93, Try.ntmps93
  go_wp2_with (refine wpList_alloc_zero rfl 104 rfl _ zero104 ?_; rw [HW.out])
  go_loopw [4] (fun i wr => ∃ n : Nat, n ≤ 256 ∧ i = .int .i64 (n : Int) ∧ Hid (TRel w wr n)) (fun i _ => 256 - (intOf i).toNat)
  case atStart => exact ⟨0, by omega, rfl, HT⟩
  case round =>
    obtain ⟨n, hn, rfl, HR⟩ := hrel
    clear HW HT
    by_cases hlt : n < 256
    · go_wp2
      go_loop [3, 9] (fun v k => ∃ j : Nat, j ≤ 8 ∧ k = .int .i64 (j : Int) ∧ v = .int .u32 ((bitN j n : Nat) : Int)) (fun _ k => 8 - (intOf k).toNat)
      case atStart => exact ⟨0, by omega, rfl, rfl⟩
      case round =>
        obtain ⟨j, hj, rfl, rfl⟩ := hrel
        by_cases hjl : j < 8
        · have hb := bitN_lt j (w := n) (by omega)
          obtain ⟨m, hm⟩ : ∃ m, bitN j n = m := ⟨_, rfl⟩
          rw [hm] at hb ⊢
          have HM := Lib.hid hm
          clear hm
          go_wp2
          go_round
          case rel => exact ⟨j + 1, by omega, by go_num, by rw [step_bit m hb]; simp only [bitN]; rw [HM.out]⟩
          case measure => simp [intOf]; omega
        · obtain rfl : j = 8 := by omega
          obtain ⟨v, hv⟩ := HR.out.cell n hlt
          have hf := HR.out.frozen n
          rw [bitN_8]
          go_wp2
          go_roundw
          case rel => exact ⟨n + 1, by omega, by go_num, HR.out.step hlt⟩
          case measure => simp [intOf]; omega
    · obtain rfl : n = 256 := by omega
      go_wp2
      go_ret
      exact ⟨rfl, HR.out⟩
end Go.Proofs.Ytbcienbnhchdeaa.Hand

/- The check of bytes: what crc.More answers. -/
namespace Go.Proofs.Ytbcienbnhchdeaa.Hand
open Go.RowKit CrcM Go.Proofs.YtbcienbnhchdeaaW.PrintWords
set_option linter.unusedVariables false

/-- Numbers that are bytes. -/
def okB (l : List Int) : Bool := l.all fun x => decide (0 ≤ x) && decide (x < 256)
def byteL (l : List Int) : List UInt8 := l.map fun x => UInt8.ofNat x.toNat
def okW (s : Int) : Bool := decide (0 ≤ s) && decide (s < 4294967296)
def moreI (s : Int) (l : List Int) : Int := 4294967295 - (fold (4294967295 - s.toNat) (byteL l) : Nat)

theorem okB_rd {l : List Int} (h : okB l = true) {n : Nat} (hn : n < l.length) : ∃ c : Nat, c < 256 ∧ l.getD n 0 = (c : Int) ∧ l[n]? = some (c : Int) := by
  have h1 := List.all_eq_true.1 h (l[n]'hn) (List.getElem_mem hn)
  simp only [Bool.and_eq_true, decide_eq_true_eq] at h1
  refine ⟨(l[n]'hn).toNat, by omega, ?_, ?_⟩
  · rw [List.getD_eq_getElem?_getD, List.getElem?_eq_getElem hn]
    simp only [Option.getD_some]
    omega
  · rw [List.getElem?_eq_getElem hn]
    congr 1
    omega
theorem byteL_snoc {l : List Int} {n c : Nat} (hn : n < l.length) (h : l[n]? = some (c : Int)) : byteL (l.take (n + 1)) = byteL (l.take n) ++ [UInt8.ofNat c] := by
  unfold byteL
  rw [List.take_add_one, h]
  simp
theorem fold_snoc (w : Nat) (l : List UInt8) (c : UInt8) : fold w (l ++ [c]) = upd (fold w l) c := by
  rw [fold_append]
  rfl
theorem xor_max {s : Nat} (h : s < 4294967296) : 4294967295 ^^^ s = 4294967295 - s := by
  have e : (4294967295 ^^^ s) = (BitVec.allOnes 32 ^^^ BitVec.ofNat 32 s).toNat := by
    rw [BitVec.toNat_xor]
    simp only [BitVec.toNat_allOnes, BitVec.toNat_ofNat]
    rw [Nat.mod_eq_of_lt (show s < 2 ^ 32 by omega)]
  rw [e, BitVec.allOnes_xor, BitVec.toNat_not]
  simp only [BitVec.toNat_ofNat]
  omega
theorem not_u32 {s : Nat} (h : s < 4294967296) : bits .xor .u32 IntKind.u32.max (s : Int) = ((4294967295 - s : Nat) : Int) := by
  have e : IntKind.u32.max = ((4294967295 : Nat) : Int) := by decide
  rw [e, u32_xor_nat _ _ (by omega) h, xor_max h]
/-- A cell of a byte slice, by its number. -/
theorem byte_at {w : World} {A : Option Addr} {l : List Int} (hr : Kd.C (Kd.int .u8) w A l.length l) {n : Nat} (hn : n < l.length) : ∃ ad, A = some ad ∧ w.cell? (ad.add n) = some (.int .u8 (l.getD n 0)) := by
  obtain ⟨ad, e, hc⟩ := hr.2.2 (by omega)
  refine ⟨ad, e, ?_⟩
  obtain ⟨c, _, hcs, hcell⟩ := hc n (l[n]'hn) (List.getElem?_eq_getElem hn)
  have hcs' : c = [.int .u8 (l[n]'hn)] := hcs
  subst hcs'
  have := hcell 0 (.int .u8 (l[n]'hn)) rfl
  have e2 : n * (Kd.int .u8).sz + 0 = n := by show n * 1 + 0 = n; omega
  rw [e2] at this
  rw [this, List.getD_eq_getElem?_getD, List.getElem?_eq_getElem hn]
  rfl

set_option maxRecDepth 100000 in
set_option maxHeartbeats 1000000 in
theorem more_any (s : Nat) (A : Option Addr) (c : Nat) (l : List Int) (w : World) (hs : s < 4294967296) (hl : okB l = true) (hlen : l.length ≤ 140737488355328) (hr : Kd.C (Kd.int .u8) w A l.length l) :
    Calls Try.prog 29 #[.int .u32 (s : Int), .slice A l.length c] w fun e w' => e = .returned (.int .u32 (moreI s l)) ∧ Below w.heap.size w w' := by
  have HR := Aside0.mk hr
  have HL := Lib.hid hl
  have hx := not_u32 hs
  clear hr hl
  obtain ⟨W, hW⟩ : ∃ W, 4294967295 - s = W := ⟨_, rfl⟩
  have hWl : W < 4294967296 := by omega
  rw [hW] at hx
  have HW := Lib.hid hW
  clear hW
  go_enter Try.func29, Try.ntmps29
  go_wp2_with (go_at_call 93; refine (table_any _).mono ?_; rintro e w1 ⟨rfl, hT⟩; have HT := Lib.hid hT; clear hT)
  clear hx
  go_loop [6, 14] (fun v i => ∃ n : Nat, n ≤ l.length ∧ i = .int .i64 (n : Int) ∧ v = .int .u32 ((fold W (byteL (l.take n)) : Nat) : Int)) (fun _ i => l.length - (intOf i).toNat)
  case atStart => exact ⟨0, by omega, rfl, by simp [byteL, fold]⟩
  case round =>
    obtain ⟨n, hn, rfl, rfl⟩ := hrel
    have hF := fold_lt (byteL (l.take n)) hWl
    by_cases hlt : n < l.length
    · obtain ⟨b, hb, hbd, hbg⟩ := okB_rd HL.out hlt
      have hst := fold_snoc W (byteL (l.take n)) (UInt8.ofNat b)
      rw [← byteL_snoc hlt hbg] at hst
      have HST := Lib.hid hst
      clear hst
      generalize fold W (byteL (l.take n)) = v at hF HST ⊢
      have hcB := Kd.C_below HR.out HT.out.below
      obtain ⟨ad, rfl, hcell⟩ := byte_at hcB hlt
      rw [hbd] at hcell
      clear hcB hbd hbg
      obtain ⟨x, hx⟩ : ∃ x, (v % 256) ^^^ b = x := ⟨_, rfl⟩
      have hxl : x < 256 := by rw [← hx]; exact Nat.xor_lt_two_pow (n := 8) (by omega) (by omega)
      have hx8 : bits .xor .u8 ((v : Int) % 256) (b : Int) = (x : Int) := by
        rw [show ((v : Int) % 256) = ((v % 256 : Nat) : Int) by omega, u8_xor_nat _ _ (by omega) hb, hx]
      have hup : upd v (UInt8.ofNat b) = bit8 x ^^^ (v / 256) := by
        rw [← table_step, ← hx]
        have e : (UInt8.ofNat b).toNat = b := by simp; omega
        rw [e]
      have hy : bit8 x < 4294967296 := bit8_lt (by omega)
      have hcx : w1.cell? ⟨w.heap.size, x, none⟩ = some (.int .u32 ((bit8 x : Nat) : Int)) := by
        obtain ⟨cs, hb1, _, hb2⟩ := HT.out.row
        rw [hb1.cell]
        exact hb2 x hxl
      rw [hup] at HST
      clear hx hup
      generalize bit8 x = y at HST hcx hy
      have hxy : bits .xor .u32 (y : Int) ((v : Int) / 256) = ((y ^^^ (v / 256) : Nat) : Int) := by
        rw [show ((v : Int) / 256) = ((v / 256 : Nat) : Int) by omega, u32_xor_nat _ _ hy (by omega)]
      go_wp2
      go_round
      case rel => exact ⟨n + 1, by omega, by go_num, by rw [HST.out]⟩
      case measure => simp [intOf]; omega
    · obtain rfl : n = l.length := by omega
      rw [List.take_length] at hF ⊢
      have hq := not_u32 hF
      have hfin : ((4294967295 - fold W (byteL l) : Nat) : Int) = moreI (s : Int) l := by
        unfold moreI
        rw [← HW.out]
        simp only [Int.toNat_natCast]
        have := HW.out
        rw [this]
        omega
      rw [hfin] at hq
      have HQ := Lib.hid hq
      clear hq hfin
      go_wp2
      go_ret
      exact ⟨by rw [← HQ.out]; rfl, HT.out.below⟩
end Go.Proofs.Ytbcienbnhchdeaa.Hand

/- slices.Clone, slices.Grow and slices.Concat over bytes. -/
namespace Go.Proofs.Ytbcienbnhchdeaa.Hand
open Go.RowKit Go.Proofs.YtbcienbnhchdeaaW.PrintWords
set_option linter.unusedVariables false

theorem info5 : (Try.prog.info? 5).map (fun i => (i.zero, i.size, i.bytes)) = some (some (.int .u8 0), 1, 1) := by kernel_rfl

/-- 'S{}': an empty row of the call's own. -/
theorem R_empty (w : World) (ok : Nat → Prop) (hok : ok w.heap.size) : Kd.R (Kd.int .u8) 5 (w.alloc (.cells #[] 5)) w.heap.size ok (.slice (some ⟨w.heap.size, 0, none⟩) 0 0) [] := by
  refine Kd.R_of_own ?_ (fun k hk => ?_)
  · exact ⟨rfl, .inr ⟨w.heap.size, 0, #[], rfl, Nat.le_refl _, heap_alloc_new w _, by simp, by simp [maxLen], by simp [encs]⟩⟩
  · have : w.heap.size = k := by simpa [Value.ownBlock] using hk
    subst this
    exact hok

set_option maxRecDepth 100000 in
set_option maxHeartbeats 1000000 in
theorem clone_any (A : Option Addr) (c : Nat) (l : List Int) (w : World) (hr : Kd.C (Kd.int .u8) w A l.length l) (hlen : l.length ≤ 140737488355328) :
    Calls Try.prog 96 #[.slice A l.length c] w fun e w' => ∃ v, e = .returned v ∧ Kd.R (Kd.int .u8) 5 w' w.heap.size (fun _ => True) v l ∧ Below w.heap.size w w' := by
  have HR := Aside0.mk hr
  cases A with
  | none =>
    have hl : l = [] := by
      rcases Nat.eq_zero_or_pos l.length with h | h
      · exact List.eq_nil_of_length_eq_zero h
      · obtain ⟨ad, e, _⟩ := hr.2.2 h
        cases e
    clear hr
    subst hl
    have hq : ∀ W : World, (binOp .eql 22 (.slice none 0 c) (.slice none 0 0)).run Try.prog W = .ok (.bool true) W := fun W => Lib.run_eql_slice_nil W 22 5 none 0 c 0 0 Try.underlying22
    go_enter Try.func96, Try.ntmps96
    go_wp2
    go_ret
    exact ⟨_, rfl, Kd.R_nil _ _ _ _ _, Below.refl _ _⟩
  | some ad =>
    clear hr
    have hq : ∀ W : World, (binOp .eql 22 (.slice (some ad) l.length c) (.slice none 0 0)).run Try.prog W = .ok (.bool false) W := fun W => Lib.run_eql_slice_nil W 22 5 (some ad) l.length c 0 0 Try.underlying22
    go_enter Try.func96, Try.ntmps96
    go_wp2_with (at_builtin; refine Kd.R_append_row (Value.int .u8) (0 : Int) (h1 := fun _ => rfl) (w0 := w) w.heap.size rfl (.tmp 5) (.tmp 6) 22 5 (.int .u8 0) 1 rfl Try.underlying22 info5 rfl (by omega) _ [] l _ _ _ (fun _ => True) rfl rfl (fun _ _ => trivial) ?aO ?aR ?aB ?aS ?aL ?_; (case aO => exact R_empty w _ trivial); (case aR => exact Kd.C_alloc HR.out _); (case aB => exact (Below.refl _ _).alloc (Nat.le_refl _) _); (case aS => simp); (case aL => simp; omega); intro v1 w1 ho hb hg hat; have HO := Aside0.mk ho; have HB := Aside0.mk hb; clear ho hb hg hat)
    go_ret
    exact ⟨_, rfl, HO.out, HB.out⟩

set_option maxRecDepth 100000 in
set_option maxHeartbeats 1000000 in
theorem grow_nil (n : Nat) (w : World) (hn : n ≤ 140737488355328) :
    Calls Try.prog 102 #[.slice none 0 0, .int .i64 (n : Int)] w fun e w' => ∃ v, e = .returned v ∧ Kd.R (Kd.int .u8) 5 w' w.heap.size (fun _ => True) v [] ∧ Below w.heap.size w w' := by
  by_cases h0 : n = 0
  · subst h0
    go_enter Try.func102, Try.ntmps102
    go_wp2
    go_ret
    exact ⟨_, rfl, Kd.R_nil _ _ _ _ _, Below.refl _ _⟩
  · have hp : (0 : Int) < (n : Int) := by omega
    go_enter Try.func102, Try.ntmps102
    go_wp2_with (at_builtin; refine Kd.R_append_zeros (Kd.int .u8) (w0 := w) w.heap.size rfl (.tmp 20) (.tmp 21) 22 3 5 (.int .u8 0) 1 rfl Try.underlying22 Try.underlying3 info5 rfl (by decide) (by omega) (.slice none 0 0) [] 0 (n : Int) (fun _ => True) rfl rfl rfl (fun _ _ => trivial) (Kd.R_nil _ _ _ _ _) (by omega) (Below.refl _ _) (Nat.le_refl _) ?aL ?_; (case aL => simp; omega); intro v1 w1 ho hb hg hat; simp only [Int.toNat_natCast, List.nil_append] at ho; obtain ⟨g, cap, hv, _, _, _⟩ := Kd.R_form ho (by simp; omega); rw [hv] at ho ⊢; clear hv hg hat; rw [List.length_replicate] at ho ⊢; have ho := Kd.R_take (m := 0) ho (by omega); have HO := Aside0.mk ho; have HB := Aside0.mk hb; clear ho hb)
    go_ret
    exact ⟨_, rfl, HO.out, HB.out⟩

/-- A row of rows, read: its element. -/
theorem row_at {w : World} {A : Option Addr} {ls : List (List Int)} (hr : Kd.C (Kd.slice 5 (Kd.int .u8)) w A ls.length ls) {n : Nat} (hn : n < ls.length) :
    ∃ ad Ai ci, A = some ad ∧ w.cell? (ad.add n) = some (.slice Ai (ls[n]'hn).length ci) ∧ (ls[n]'hn).length ≤ ci ∧ Kd.C (Kd.int .u8) w Ai (ls[n]'hn).length (ls[n]'hn) := by
  obtain ⟨ad, e, hc⟩ := hr.2.2 (by omega)
  obtain ⟨c, _, hcs, hcell⟩ := hc n (ls[n]'hn) (List.getElem?_eq_getElem hn)
  obtain ⟨Ai, ci, hcs', hle, hC⟩ := hcs
  subst hcs'
  have h := hcell 0 _ rfl
  have e2 : n * (Kd.slice 5 (Kd.int .u8)).sz + 0 = n := by show n * 1 + 0 = n; omega
  rw [e2] at h
  exact ⟨ad, Ai, ci, e, h, hle, hC⟩

/-- Two rows in a literal. -/
theorem rows2 {W : World} {A B : Option Addr} {c d : Nat} {l m : List Int} (hA : Kd.C (Kd.int .u8) W A l.length l) (hc : l.length ≤ c) (hB : Kd.C (Kd.int .u8) W B m.length m) (hd : m.length ≤ d) :
    Kd.C (Kd.slice 5 (Kd.int .u8)) (W.alloc (.cells #[.slice A l.length c, .slice B m.length d] 22)) (some ⟨W.heap.size, 0, none⟩) [l, m].length [l, m] := by
  refine ⟨rfl, by simp, fun _ => ⟨_, rfl, fun j p hj => ?_⟩⟩
  match j, hj with
  | 0, hj =>
    obtain rfl : l = p := by simpa using hj
    refine ⟨[.slice A l.length c], rfl, ⟨A, c, rfl, hc, Kd.C_alloc hA _⟩, fun i u hu => ?_⟩
    match i, hu with
    | 0, hu =>
      obtain rfl : Value.slice A l.length c = u := by simpa using hu
      rw [add_plain, World.cell?_alloc_at _ _ _ _ rfl]
      rfl
  | 1, hj =>
    obtain rfl : m = p := by simpa using hj
    refine ⟨[.slice B m.length d], rfl, ⟨B, d, rfl, hd, Kd.C_alloc hB _⟩, fun i u hu => ?_⟩
    match i, hu with
    | 0, hu =>
      obtain rfl : Value.slice B m.length d = u := by simpa using hu
      rw [add_plain, World.cell?_alloc_at _ _ _ _ rfl]
      rfl

def total (ls : List (List Int)) : Nat := (ls.map List.length).sum
theorem total_take {ls : List (List Int)} {n : Nat} (hn : n < ls.length) : total (ls.take (n + 1)) = total (ls.take n) + (ls[n]'hn).length := by
  unfold total
  rw [List.take_add_one, List.getElem?_eq_getElem hn]
  simp only [Option.toList_some, List.map_append, List.map_cons, List.map_nil, List.sum_append, List.sum_cons, List.sum_nil, Nat.add_zero]
theorem total_le (ls : List (List Int)) (n : Nat) : total (ls.take n) ≤ total ls := by
  unfold total
  conv => rhs; rw [← List.take_append_drop n ls]
  rw [List.map_append, List.sum_append]
  omega
theorem flat_take {ls : List (List Int)} {n : Nat} (hn : n < ls.length) : (ls.take (n + 1)).flatten = (ls.take n).flatten ++ (ls[n]'hn) := by
  rw [List.take_add_one, List.getElem?_eq_getElem hn]
  simp only [Option.toList_some, List.flatten_append, List.flatten_cons, List.flatten_nil, List.append_nil]
theorem flat_len (ls : List (List Int)) : ls.flatten.length = total ls := by
  unfold total
  rw [List.length_flatten]

/-- The world in Concat's second loop. -/
structure CRel (w wr : World) (v : Value) (l : List Int) : Prop where
  row : Kd.R (Kd.int .u8) 5 wr w.heap.size (fun _ => True) v l
  below : Below w.heap.size w wr

set_option maxRecDepth 100000 in
set_option maxHeartbeats 1000000 in
theorem concat_any (A : Option Addr) (c : Nat) (ls : List (List Int)) (w : World) (hr : Kd.C (Kd.slice 5 (Kd.int .u8)) w A ls.length ls) (ht : total ls ≤ 140737488355328) :
    Calls Try.prog 97 #[.slice A ls.length c] w fun e w' => ∃ v, e = .returned v ∧ Kd.R (Kd.int .u8) 5 w' w.heap.size (fun _ => True) v ls.flatten ∧ Below w.heap.size w w' := by
  have hl63 : ls.length ≤ 9223372036854775807 := hr.2.1
  have HR := Aside0.mk hr
  clear hr
  go_enter Try.func97, Try.ntmps97
  go_wp2
  go_loop [3, 11] (fun v i => ∃ n : Nat, n ≤ ls.length ∧ i = .int .i64 (n : Int) ∧ v = .int .i64 ((total (ls.take n) : Nat) : Int)) (fun _ i => ls.length - (intOf i).toNat)
  case atStart => exact ⟨0, by omega, rfl, by simp [total]⟩
  case round =>
    obtain ⟨n, hn, rfl, rfl⟩ := hrel
    by_cases hlt : n < ls.length
    · have hle := total_le ls (n + 1)
      have htk := total_take hlt
      rw [htk] at hle
      have HTK := Lib.hid htk
      clear htk
      obtain ⟨ad, Ai, ci, rfl, hcell, hci, hC⟩ := row_at HR.out hlt
      clear hC hci
      generalize (ls[n]'hlt).length = m at hcell hle HTK
      generalize total (ls.take n) = s at hle HTK ⊢
      go_wp2
      go_round
      case rel => exact ⟨n + 1, by omega, by go_num, by rw [HTK.out]; go_num⟩
      case measure => simp [intOf]; omega
    · obtain rfl : n = ls.length := by omega
      rw [List.take_length]
      go_wp2_with (go_at_call 102; refine (grow_nil _ _ ht).mono ?_; rintro e w1 ⟨v, rfl, ho, hb⟩; have HC := Lib.hid (CRel.mk ho hb); clear ho hb)
      go_loopw [6, 27] (fun v i wr => ∃ n : Nat, n ≤ ls.length ∧ i = .int .i64 (n : Int) ∧ Hid (CRel w wr v (ls.take n).flatten)) (fun _ i _ => ls.length - (intOf i).toNat)
      case atStart => exact ⟨0, by omega, rfl, HC⟩
      case round =>
        obtain ⟨n, hn, rfl, HC⟩ := hrel
        by_cases hlt : n < ls.length
        · obtain ⟨ad, Ai, ci, rfl, hcell, hci, hC⟩ := row_at (Kd.C_below HR.out HC.out.below) hlt
          have hle := total_le ls (n + 1)
          rw [total_take hlt, ← flat_len] at hle
          have hfl := flat_take hlt
          generalize (ls[n]'hlt) = l at hcell hci hC hle hfl
          have HFL := Lib.hid hfl
          have HCi := Lib.hid hC
          clear hfl hci hC
          go_wp2_with (at_builtin; refine Kd.R_append_row (Value.int .u8) (0 : Int) (h1 := fun _ => rfl) (w0 := w) w.heap.size rfl (.tmp 31) (.tmp 32) 22 5 (.int .u8 0) 1 rfl Try.underlying22 info5 rfl (by omega) _ (ls.take n).flatten l _ _ _ (fun _ => True) rfl rfl (fun _ _ => trivial) HC.out.row HCi.out HC.out.below HC.out.below.size ?aL ?_; (case aL => omega); intro v1 w2 ho hb hg hat; have HC2 := Lib.hid (CRel.mk ho hb); clear ho hb hg hat)
          go_roundw
          case rel => exact ⟨n + 1, by omega, by go_num, by rw [HFL.out]; exact HC2⟩
          case measure => simp [intOf]; omega
        · obtain rfl : n = ls.length := by omega
          rw [List.take_length] at HC
          go_wp2
          go_ret
          exact ⟨_, rfl, HC.out.row, HC.out.below⟩

/-- A literal's bytes, marked or not. -/
theorem C_lit (W : World) (xs : List Int) (fr : Nat × Nat) (hx : xs.length ≤ 9223372036854775807) : Kd.C (Kd.int .u8) (W.alloc (.cells (xs.map (Value.int .u8)).toArray 5 fr)) (some ⟨W.heap.size, 0, none⟩) xs.length xs := by
  refine ⟨rfl, hx, fun _ => ⟨_, rfl, fun j p hj => ⟨[.int .u8 p], rfl, rfl, fun i u hu => ?_⟩⟩⟩
  match i, hu with
  | 0, hu =>
    obtain rfl : Value.int .u8 p = u := by simpa using hu
    have e : j * (Kd.int .u8).sz + 0 = j := by show j * 1 + 0 = j; omega
    rw [e, add_plain]
    have hh : (W.alloc (.cells (xs.map (Value.int .u8)).toArray 5 fr)).heap[W.heap.size]? = some (.cells (xs.map (Value.int .u8)).toArray 5 fr) := heap_alloc_new W _
    simp only [World.cell?, hh]
    simp [hj]

/-! ### Spellings that the walk comes to -/
theorem take_len {α : Type} {l : List α} {j : Int} (h : j ≤ (l.length : Int)) : (((l.take j.toNat).length : Nat) : Int) = max j 0 := by
  rw [List.length_take]
  omega
theorem wrap_small {x : Int} (h0 : 0 ≤ x) (h1 : x ≤ 1000000) : IntKind.u64.wrap (wrap64 (x + 1)) = x + 1 := by
  rw [IntKind.wrap_u64]
  unfold wrap64
  omega
theorem at_cut {α : Type} {l : List α} {j : Int} (a : Int) (h : j ≤ (l.length : Int)) (hj : j ≤ 1000000) :
    wrap64 ((IntKind.u64.wrap a).tmod (max j 0 + 1)) = wrap64 (Int.tmod (IntKind.u64.wrap (a)) (IntKind.u64.wrap (wrap64 (((l.take ((j) : Int).toNat).length : Int) + 1)))) := by
  rw [take_len h, wrap_small (by omega) (by omega)]
theorem take_len2 {α : Type} {l : List α} {j : Int} (h : j ≤ (l.length : Int)) : (l.take j.toNat).length = j.toNat := by
  rw [List.length_take]
  omega
theorem ne_nil_eq (l : List UInt8) : (l != []) = !l.isEmpty := by cases l <;> rfl
theorem eq_nil_eq (l : List UInt8) : (l == []) = l.isEmpty := by cases l <;> rfl
end Go.Proofs.Ytbcienbnhchdeaa.Hand

/- A row of bytes of the call's own whose capacity may be less than its block: read, cut, appended to. -/
namespace Go.Proofs.Ytbcienbnhchdeaa.Hand
open Go Go.RowKit Go.Proofs.YtbcienbnhchdeaaW.PrintWords
set_option linter.unusedVariables false

/-- v is nil and empty, or it begins a block of bytes (ok) in which it may write up to its capacity. -/
def BRow (w : World) (ok : Nat → Prop) (v : Value) (xs : List Int) : Prop :=
  (v = .slice none 0 0 ∧ xs = []) ∨ ∃ k cap cur, v = .slice (some ⟨k, 0, none⟩) xs.length cap ∧ ok k ∧ w.heap[k]? = some (.cells cur 5 (0, 0)) ∧ xs.length ≤ cap ∧ cap ≤ cur.size ∧ cap ≤ maxLen ∧ cur.toList.take xs.length = xs.map (Value.int .u8)

section
variable {w w1 : World} {ok ok' : Nat → Prop} {v : Value} {xs : List Int}
theorem B_nil (w : World) (ok : Nat → Prop) : BRow w ok (.slice none 0 0) [] := .inl ⟨rfl, rfl⟩
theorem B_mono (h : BRow w ok v xs) (hok : ∀ k, ok k → ok' k) : BRow w ok' v xs := by
  rcases h with h | ⟨k, cap, cur, h1, h2, h3⟩
  · exact .inl h
  · exact .inr ⟨k, cap, cur, h1, hok k h2, h3⟩
theorem B_bound (h : BRow w ok v xs) : BRow w (fun k => ok k ∧ k < w.heap.size ∧ ∃ cells, w.heap[k]? = some (.cells cells 5 (0, 0))) v xs := by
  rcases h with h | ⟨k, cap, cur, h1, h2, h3, h4⟩
  · exact .inl h
  · exact .inr ⟨k, cap, cur, h1, ⟨h2, blk_lt h3, cur, h3⟩, h3, h4⟩
theorem B_move (h : BRow w ok v xs) (hm : ∀ k, ok k → w1.heap[k]? = w.heap[k]?) : BRow w1 ok v xs := by
  rcases h with h | ⟨k, cap, cur, h1, h2, h3, h4⟩
  · exact .inl h
  · exact .inr ⟨k, cap, cur, h1, h2, (hm k h2).trans h3, h4⟩
theorem B_step (h : BRow w ok v xs) (hm : ∀ k, ok k → k < w.heap.size → w1.heap[k]? = w.heap[k]?) : BRow w1 ok v xs :=
  B_mono (B_move (B_bound h) (fun k hk => hm k hk.1 hk.2.1)) (fun k hk => hk.1)
theorem B_below (h : BRow w ok v xs) (hb : Below w.heap.size w w1) : BRow w1 ok v xs := B_step h (fun k _ hk => hb.block k hk)
theorem B_alloc (h : BRow w ok v xs) (o : Obj) : BRow (w.alloc o) ok v xs := B_below h (below_alloc (Below.refl _ _) o)
theorem B_kept (h : BRow w ok v xs) {S : Nat → Prop} (hk : Kept w w1 S) (hne : ∀ k, ok k → ¬ S k) : BRow w1 ok v xs := B_step h (fun k ho hlt => hk.2 k hlt (hne k ho))
theorem B_ok (h : BRow w ok v xs) : ∀ k, v.ownBlock = some k → ok k ∧ k < w.heap.size ∧ ∃ cells, w.heap[k]? = some (.cells cells 5 (0, 0)) := by
  intro k hk
  rcases h with ⟨rfl, _⟩ | ⟨k', cap, cur, rfl, h2, h3, h4⟩
  · simp [Value.ownBlock] at hk
  · obtain rfl : k' = k := by simpa [Value.ownBlock] using hk
    exact ⟨h2, blk_lt h3, cur, h3⟩
/-- Told of its own block alone. -/
theorem B_tight (h : BRow w ok v xs) : BRow w (fun k => v.ownBlock = some k) v xs := by
  rcases h with ⟨rfl, rfl⟩ | ⟨k', cap, cur, rfl, h2, h3⟩
  · exact B_nil _ _
  · exact .inr ⟨k', cap, cur, rfl, by simp [Value.ownBlock], h3⟩
/-- A store into a block of another type. -/
theorem B_set (h : BRow w ok v xs) {g t : Nat} {cells : Array Value} (hb : w.heap[g]? = some (.cells cells t (0, 0))) (ht : 5 ≠ t) (j : Nat) (u : Value) : BRow (w.setCell ⟨g, j, none⟩ u) ok v xs := by
  refine B_step (B_bound h) (fun k hk _ => ?_) |> fun h' => B_mono h' (fun k hk => hk.1)
  obtain ⟨_, _, c, hc⟩ := hk
  exact Below.heap_setCell w _ u k (fun e => blk_ne hc hb ht e)
theorem B_C (h : BRow w ok v xs) : ∃ A c, v = .slice A xs.length c ∧ xs.length ≤ c ∧ Kd.C (Kd.int .u8) w A xs.length xs := by
  rcases h with ⟨rfl, rfl⟩ | ⟨k, cap, cur, rfl, h2, h3, h4, h5, h6, h7⟩
  · exact ⟨none, 0, rfl, Nat.le_refl _, Kd.C_nil _ _⟩
  · refine ⟨_, cap, rfl, h4, rfl, ?_, fun hn => ⟨_, rfl, fun j p hj => ⟨[.int .u8 p], rfl, rfl, fun i u hu => ?_⟩⟩⟩
    · simp only [maxLen] at h6
      omega
    · match i, hu with
      | 0, hu =>
        obtain rfl : Value.int .u8 p = u := by simpa using hu
        have hjl : j < xs.length := (List.getElem?_eq_some_iff.1 hj).1
        have e : j * (Kd.int .u8).sz + 0 = j := by show j * 1 + 0 = j; omega
        rw [e, add_plain, cell_of_row w k _ cur 5 (0, 0) h3]
        have h8 : (cur.toList.take xs.length)[j]? = some (Value.int .u8 p) := by rw [h7, List.getElem?_map, hj]; rfl
        rw [List.getElem?_take_of_lt hjl] at h8
        simpa using h8
theorem B_C' {A : Option Addr} {n c : Nat} (h : BRow w ok (.slice A n c) xs) : n = xs.length ∧ n ≤ c ∧ Kd.C (Kd.int .u8) w A xs.length xs := by
  obtain ⟨A', c', e, hl, hC⟩ := B_C h
  injection e with e1 e2 e3
  subst e1; subst e2; subst e3
  exact ⟨rfl, hl, hC⟩
/-- 'xs[:m:m]'. -/
theorem B_cut {A : Option Addr} {n c m : Nat} (h : BRow w ok (.slice A n c) xs) (hm : m ≤ xs.length) : BRow w ok (.slice A m m) (xs.take m) := by
  rcases h with ⟨e, rfl⟩ | ⟨k, cap, cur, e, h2, h3, h4, h5, h6, h7⟩
  · injection e with e1 e2 e3
    subst e1; subst e2; subst e3
    obtain rfl : m = 0 := by simpa using hm
    exact .inl ⟨rfl, rfl⟩
  · injection e with e1 e2 e3
    subst e1; subst e2; subst e3
    have hl : (xs.take m).length = m := by rw [List.length_take]; omega
    refine .inr ⟨k, m, cur, by rw [hl], h2, h3, by omega, by omega, by omega, ?_⟩
    rw [hl, List.map_take, ← h7, List.take_take, Nat.min_eq_left hm]
theorem B_of_R {base : Nat} (h : Kd.R (Kd.int .u8) 5 w base ok v xs) : BRow w (fun k => ok k ∧ base ≤ k) v xs := by
  have ho := Kd.own_of_R h
  have hok := h.1
  rcases ho.2 with ⟨rfl, hn⟩ | ⟨g, cap, cur, rfl, hb, hg, hnc, hcm, hcs, ht⟩
  · exact .inl ⟨rfl, List.eq_nil_of_length_eq_zero hn⟩
  · refine .inr ⟨g, cap, cur, rfl, ⟨hok g (by simp [Value.ownBlock]), hb⟩, hg, hnc, by omega, hcm, ?_⟩
    rw [Nat.mul_one] at ht
    exact ht
end

section
variable {P : Program}
/-- append(v, ys...). -/
theorem B_run (w : World) (t ty : TypeId) (i : TypeInfo) (ht : P.underlying t = some (.slice 5)) (hi : P.info? 5 = some i) (hz : i.zero = some (.int .u8 0)) (hsz : i.size = 1) (hby : i.bytes = 1)
    (ok : Nat → Prop) (v : Value) (xs ys : List Int) (A : Option Addr) (c : Nat) (h : BRow w ok v xs) (hr : Kd.C (Kd.int .u8) w A ys.length ys) (hok : ∀ k, w.heap.size ≤ k → ok k) (hl : xs.length + ys.length ≤ 140737488355328) :
    ∃ v1 w1, (Builtin.append_ #[t, t] ty #[v, .slice A ys.length c]).run P w = .ok v1 w1 ∧ BRow w1 ok v1 (xs ++ ys) ∧ w.grownBy w1 v.ownBlock ∧ (v1.ownBlock = v.ownBlock ∨ ∃ b, v1.ownBlock = some b ∧ w.heap.size ≤ b) := by
  have hR : ReadsOf (Value.int .u8) (0 : Int) w A ys.length ys := Kd.reads_of_C hr
  have hone : ∀ u ∈ ys.map (Value.int .u8), u.oneCell' = true := by
    intro u hu
    obtain ⟨q, _, rfl⟩ := List.mem_map.1 hu
    rfl
  have hm63 : (140737488355328 : Nat) ≤ maxLen := by simp [maxLen]
  have grown : ∀ (v' : Value) (w' : World), w'.ownsRow w.heap.size 5 1 v' (xs.length + ys.length) (xs.map (Value.int .u8) ++ ys.map (Value.int .u8)) → BRow w' ok v' (xs ++ ys) := by
    intro v' w' ho
    rcases ho.2 with ⟨rfl, hn⟩ | ⟨g, cap, cur, rfl, hb, hg, hnc, hcm, hcs, htk⟩
    · exact .inl ⟨rfl, List.eq_nil_of_length_eq_zero (by rw [List.length_append]; omega)⟩
    · refine .inr ⟨g, cap, cur, by rw [List.length_append], hok g hb, hg, by rw [List.length_append]; exact hnc, by omega, hcm, ?_⟩
      rw [List.length_append, ← Nat.mul_one (xs.length + ys.length), htk, List.map_append]
  cases A with
  | none =>
    obtain rfl : ys = [] := by
      rcases Nat.eq_zero_or_pos ys.length with h0 | h0
      · exact List.eq_nil_of_length_eq_zero h0
      · obtain ⟨ad, e, _⟩ := hr.2.2 h0
        cases e
    refine ⟨v, w, ?_, by rw [List.append_nil]; exact h, World.grownBy.refl w _, .inl rfl⟩
    rcases h with ⟨rfl, rfl⟩ | ⟨g, cap, cur, rfl, _, _, hnc, _⟩
    · simp [Builtin.append_, run_underlying ht, sizeOf, typeInfo, hi, Builtin.lenOf, Builtin.firstCells]
    · simp [Builtin.append_, run_underlying ht, sizeOf, typeInfo, hi, Builtin.lenOf, Builtin.firstCells, hnc, storeCells]
  | some ad =>
    have hcells : ∀ j u, (ys.map (Value.int .u8))[j]? = some u → w.cell? (ad.add j) = some u := by
      intro j u hu
      have hj : j < ys.length := by
        rcases Nat.lt_or_ge j ys.length with h | h
        · exact h
        · simp [List.getElem?_eq_none h] at hu
      obtain ⟨ad', h', hc⟩ := hR.2.2 (by omega)
      injection h' with h'
      subst h'
      rw [List.getElem?_map, List.getElem?_eq_getElem hj] at hu
      rw [hc j hj, ← hu]
      simp [List.getD_eq_getElem?_getD, List.getElem?_eq_getElem hj]
    rcases h with ⟨rfl, rfl⟩ | ⟨g, cap, cur, rfl, h2, h3, h4, h5, h6, h7⟩
    · obtain ⟨v1, w1, hr1, ho, hg, _, hat⟩ := run_append_own_at (P := P) w w.heap.size t ty 5 i (.int .u8 0) 1 1 ht hi hz hsz hby rfl (by omega) (.slice none 0 0) 0 [] ⟨rfl, .inl ⟨rfl, rfl⟩⟩ ad ys.length c (ys.map (Value.int .u8)) (by simp) hcells hone (by simp at hl; omega) (by simpa using hl) (Nat.le_refl _)
      refine ⟨v1, w1, hr1, grown v1 w1 (by simpa using ho), hg, ?_⟩
      rcases hat with hat | hat
      · exact .inl hat
      · exact .inr ⟨_, hat, Nat.le_refl _⟩
    · by_cases hroom : xs.length + ys.length ≤ cap
      · have hr1 := run_append_room (P := P) w t ty 5 i ht hi g xs.length cap cur h3 ad ys.length c (ys.map (Value.int .u8)) (by rw [hsz]; simp) hcells hone hroom (by rw [hsz]; simp; omega)
        refine ⟨_, _, hr1, ?_, ⟨rfl, rfl, rfl, by simp, fun k _ hk => setRow_other w g k _ (fun e => hk (by simp [Value.ownBlock, e]))⟩, .inl rfl⟩
        refine .inr ⟨g, cap, _, by rw [List.length_append], h2, setRow_heap w g cur _ 5 _ h3, by rw [List.length_append]; exact hroom, ?_, h6, ?_⟩
        · rw [hsz]
          simp only [List.size_toArray, List.length_append, List.length_take, List.length_drop, Array.length_toList, List.length_map]
          omega
        · rw [hsz, Nat.mul_one, h7, List.map_append]
          exact List.take_left' (by simp)
      · have holds : ∀ j u, (xs.map (Value.int .u8))[j]? = some u → w.cell? ((⟨g, 0, none⟩ : Addr).add j) = some u := by
          intro j u hu
          have hj : j < xs.length := by
            rcases Nat.lt_or_ge j xs.length with h | h
            · exact h
            · simp [List.getElem?_eq_none h] at hu
          rw [add_plain, cell_of_row w g _ cur 5 (0, 0) h3]
          rw [← h7, List.getElem?_take_of_lt hj] at hu
          simpa using hu
        obtain ⟨v1, w1, hr1, ho, hg⟩ := run_append_arg_grows (P := P) (w := w) t ty 5 i (.int .u8 0) 1 1 ht hi hz hsz hby rfl (by omega) ⟨g, 0, none⟩ xs.length cap (xs.map (Value.int .u8)) (by simp) holds ad ys.length c (ys.map (Value.int .u8)) (by simp) hcells (by omega) (by omega) (by simpa using hl)
        refine ⟨v1, w1, hr1, grown v1 w1 ho, ⟨hg.os, hg.tape, hg.output, hg.size, fun k hk _ => hg.block k hk (by simp)⟩, ?_⟩
        obtain ⟨g', cap', he, hb, _⟩ := ho.form (by omega)
        exact .inr ⟨g', by rw [he]; simp [Value.ownBlock], hb⟩
end
end Go.Proofs.Ytbcienbnhchdeaa.Hand

/- A disk in memory, and what its methods do. -/
namespace Go.Proofs.Ytbcienbnhchdeaa.Hand
open Go Go.RowKit Go.Proofs.YtbcienbnhchdeaaW.PrintWords Go.Proofs.YtbcienbnhchdeaaW.PrintMore
set_option linter.unusedVariables false
set_option linter.unusedSimpArgs false
attribute [local go_sem] max2_int min2_int max_two min_two

/-- w' is w but for the blocks of S, and for what is new. -/
structure Moved (w w' : World) (S : Nat → Prop) : Prop where
  os : w'.os = w.os
  tape : w'.tape = w.tape
  output : w'.output = w.output
  kept : Kept w w' S
namespace Moved
variable {w w1 w2 : World} {S S' : Nat → Prop}
theorem refl (w : World) (S : Nat → Prop) : Moved w w S := ⟨rfl, rfl, rfl, Kept.refl w S⟩
theorem of_below (h : Below w.heap.size w w1) (S : Nat → Prop) : Moved w w1 S := ⟨h.os, h.tape, h.output, Kept.of_below h S⟩
theorem mono (h : Moved w w1 S) (hs : ∀ k, S k → S' k) : Moved w w1 S' := ⟨h.os, h.tape, h.output, h.kept.mono hs⟩
theorem trans (h : Moved w w1 S) (k : Moved w1 w2 S') (hs : ∀ k, S' k → S k ∨ w.heap.size ≤ k) : Moved w w2 S := ⟨k.os.trans h.os, k.tape.trans h.tape, k.output.trans h.output, h.kept.then_ k.kept hs⟩
theorem below (h : Moved w w1 S) (hb : Below w1.heap.size w1 w2) : Moved w w2 S := h.trans (of_below hb (fun _ => False)) (fun _ hk => hk.elim)
theorem size (h : Moved w w1 S) : w.heap.size ≤ w1.heap.size := h.kept.1
theorem toBelow (h : Moved w w1 S) {B : Nat} (hB : B ≤ w.heap.size) (hs : ∀ k, S k → B ≤ k) : Below B w w1 :=
  ⟨h.os, h.tape, h.output, h.size, fun i hi => h.kept.2 i (by omega) (fun hk => by have := hs i hk; omega)⟩
theorem setCell (h : Moved w w1 S) {p : Addr} (hp : S p.block ∨ w.heap.size ≤ p.block) (u : Value) : Moved w (w1.setCell p u) S := ⟨h.os, h.tape, h.output, h.kept.setCell hp u⟩
theorem grown (h : Moved w w1 S) {row : Option Nat} (hg : w1.grownBy w2 row) (hr : ∀ k, row = some k → S k ∨ w.heap.size ≤ k) : Moved w w2 S := ⟨hg.os.trans h.os, hg.tape.trans h.tape, hg.output.trans h.output, Kept.of_grown hg h.kept hr⟩
theorem drewN (h : Moved w w1 S) (n : Nat) : Moved w (w1.drewN n) S := ⟨h.os, h.tape, h.output, h.kept⟩
theorem drew (h : Moved w w1 S) : Moved w w1.drew S := ⟨h.os, h.tape, h.output, h.kept⟩
theorem from_below {w0 : World} {B : Nat} (h : Below B w0 w) (k : Moved w w1 S) (hs : ∀ k, S k → B ≤ k) (hB : B ≤ w.heap.size) : Below B w0 w1 :=
  let h2 := k.toBelow hB hs
  ⟨h2.os.trans h.os, h2.tape.trans h.tape, h2.output.trans h.output, Nat.le_trans h.size h2.size, fun i hi => (h2.block i hi).trans (h.block i hi)⟩
end Moved

/-- The disk at block g: its room, how many are safe, its bytes; the block of its row is ok. -/
structure DiskAt (w : World) (g : Nat) (ok : Nat → Prop) (room safe : Nat) (bs : List Int) : Prop where
  cells : ∃ v, w.heap[g]? = some (.cells #[.int .i64 (room : Int), .int .i64 (safe : Int), v] 96 (0, 0)) ∧ BRow w ok v bs
  safeLe : safe ≤ bs.length
  roomLe : bs.length ≤ room
  most : room ≤ 1048576
  bytes : okB bs = true

/-- What a disk's method may turn. -/
def OfDisk (g : Nat) (ok : Nat → Prop) (k : Nat) : Prop := k = g ∨ ok k

section
variable {w w1 : World} {g : Nat} {ok ok' : Nat → Prop} {room safe : Nat} {bs : List Int}
theorem DiskAt.mono (h : DiskAt w g ok room safe bs) (hok : ∀ k, ok k → ok' k) : DiskAt w g ok' room safe bs := by
  obtain ⟨⟨v, h1, h2⟩, a, b, c, d⟩ := h
  exact ⟨⟨v, h1, B_mono h2 hok⟩, a, b, c, d⟩
theorem DiskAt.lt (h : DiskAt w g ok room safe bs) : g < w.heap.size := by
  obtain ⟨v, h1, h2⟩ := h.cells
  exact blk_lt h1
theorem DiskAt.step (h : DiskAt w g ok room safe bs) (hg : w1.heap[g]? = w.heap[g]?) (hm : ∀ k, ok k → k < w.heap.size → w1.heap[k]? = w.heap[k]?) : DiskAt w1 g ok room safe bs := by
  obtain ⟨⟨v, h1, h2⟩, a, b, c, d⟩ := h
  exact ⟨⟨v, hg.trans h1, B_step h2 hm⟩, a, b, c, d⟩
theorem DiskAt.below (h : DiskAt w g ok room safe bs) (hb : Below w.heap.size w w1) : DiskAt w1 g ok room safe bs := h.step (hb.block g h.lt) (fun k _ hk => hb.block k hk)
theorem DiskAt.kept (h : DiskAt w g ok room safe bs) {S : Nat → Prop} (hk : Kept w w1 S) (hg : ¬ S g) (hne : ∀ k, ok k → ¬ S k) : DiskAt w1 g ok room safe bs := h.step (hk.2 g h.lt hg) (fun k ho hlt => hk.2 k hlt (hne k ho))
/-- Told of its own blocks alone. -/
theorem DiskAt.bound (h : DiskAt w g ok room safe bs) : DiskAt w g (fun k => ok k ∧ k < w.heap.size) room safe bs := by
  obtain ⟨⟨v, h1, h2⟩, a, b, c, d⟩ := h
  exact ⟨⟨v, h1, B_mono (B_bound h2) (fun k hk => ⟨hk.1, hk.2.1⟩)⟩, a, b, c, d⟩
/-- The cells, as the walk asks for them. -/
theorem disk_cells {v : Value} {a b : Value} (h : w.heap[g]? = some (.cells #[a, b, v] 96 (0, 0))) :
    w.cell? ⟨g, 0, none⟩ = some a ∧ w.cell? ⟨g, 1, none⟩ = some b ∧ w.cell? ⟨g, 2, none⟩ = some v ∧ (∀ i, w.frozen? ⟨g, i, none⟩ = false) :=
  ⟨by rw [blk_cell h]; rfl, by rw [blk_cell h]; rfl, by rw [blk_cell h]; rfl, fun i => blk_frozen h i⟩
end

theorem okB_append2 {a b : List Int} (ha : okB a = true) (hb : okB b = true) : okB (a ++ b) = true := by
  simp only [okB, List.all_append, Bool.and_eq_true] at *
  exact ⟨ha, hb⟩
theorem B_ne {w : World} {ok : Nat → Prop} {v : Value} {xs : List Int} (h : BRow w ok v xs) {g t : Nat} {cells : Array Value} (hb : w.heap[g]? = some (.cells cells t (0, 0))) (ht : t ≠ 5) : some g ≠ v.ownBlock := by
  intro e
  obtain ⟨_, _, c, hc⟩ := B_ok h g e.symm
  exact blk_ne hb hc ht rfl
/-- The disk whose row was stored anew. -/
theorem DiskAt.stored {w1 : World} {g : Nat} {ok : Nat → Prop} {room safe : Nat} {xs : List Int} {v0 v1 : Value} (h1 : w1.heap[g]? = some (.cells #[.int .i64 (room : Int), .int .i64 (safe : Int), v0] 96 (0, 0))) (hB : BRow w1 ok v1 xs) (ha : safe ≤ xs.length) (hb : xs.length ≤ room) (hm : room ≤ 1048576) (hd : okB xs = true) :
    DiskAt (w1.setCell ⟨g, 2, none⟩ v1) g ok room safe xs := by
  have h2 := blk_set h1 2 v1
  exact ⟨⟨v1, h2, B_set hB h1 (by decide) 2 v1⟩, ha, hb, hm, hd⟩
def roomOf (n : Int) : Nat := if n < 0 then 0 else if 1048576 < n then 1048576 else n.toNat

set_option maxRecDepth 100000 in
theorem new_any (n : Int) (w : World) (ok : Nat → Prop) : Calls Try.prog 37 #[.int .i64 n] w fun e w' =>
    e = .returned (.pointer (some ⟨w.heap.size, 0, none⟩)) ∧ DiskAt w' w.heap.size ok (roomOf n) 0 [] ∧ Below w.heap.size w w' := by
  have key : ∀ m : Nat, m ≤ 1048576 → DiskAt (w.alloc (.cells #[.int .i64 (m : Int), .int .i64 0, .slice none 0 0] 96)) w.heap.size ok m 0 [] := fun m hm =>
    ⟨⟨_, heap_alloc_new w _, B_nil _ _⟩, Nat.le_refl _, Nat.zero_le _, hm, rfl⟩
  unfold roomOf
  by_cases h1 : n < 0
  · rw [if_pos h1]
    go_enter Try.func37, Try.ntmps37
    go_wp2
    go_ret
    exact ⟨rfl, key 0 (by omega), (Below.refl _ _).alloc (Nat.le_refl _) _⟩
  · rw [if_neg h1]
    by_cases h2 : 1048576 < n
    · rw [if_pos h2]
      go_enter Try.func37, Try.ntmps37
      go_wp2
      go_ret
      exact ⟨rfl, key 1048576 (by omega), (Below.refl _ _).alloc (Nat.le_refl _) _⟩
    · rw [if_neg h2]
      obtain ⟨m, rfl⟩ := Int.eq_ofNat_of_zero_le (by omega : 0 ≤ n)
      rw [Int.toNat_natCast]
      go_enter Try.func37, Try.ntmps37
      go_wp2
      go_ret
      exact ⟨rfl, key m (by omega), (Below.refl _ _).alloc (Nat.le_refl _) _⟩

section
variable {w : World} {g : Nat} {ok : Nat → Prop} {room safe : Nat} {bs : List Int}
set_option maxRecDepth 100000 in
theorem room_any (h : DiskAt w g ok room safe bs) : Calls Try.prog 59 #[.pointer (some ⟨g, 0, none⟩)] w fun e w' => e = .returned (.int .i64 ((room : Int) - (bs.length : Int))) ∧ ∃ n, w' = w.drewN n := by
  obtain ⟨⟨v, h1, h2⟩, a, b, c, d⟩ := h
  obtain ⟨A, k, rfl, hl, hC⟩ := B_C h2
  obtain ⟨c0, c1, c2, fr⟩ := disk_cells h1
  clear h2 hC d h1 fr
  go_enter Try.func59, Try.ntmps59
  go_wp2
  go_quiet (fail)
  go_wp2
  go_ret
  exact ⟨rfl, _, rfl⟩
set_option maxRecDepth 100000 in
theorem len_any (h : DiskAt w g ok room safe bs) : Calls Try.prog 43 #[.pointer (some ⟨g, 0, none⟩)] w fun e w' => e = .returned (.int .i64 (bs.length : Int)) ∧ w = w' := by
  obtain ⟨⟨v, h1, h2⟩, a, b, c, d⟩ := h
  obtain ⟨A, k, rfl, hl, hC⟩ := B_C h2
  obtain ⟨c0, c1, c2, fr⟩ := disk_cells h1
  clear h2 hC d h1 fr
  go_enter Try.func43, Try.ntmps43
  go_wp2
  go_ret
  exact ⟨rfl, rfl⟩
set_option maxRecDepth 100000 in
theorem safe_any (h : DiskAt w g ok room safe bs) : Calls Try.prog 42 #[.pointer (some ⟨g, 0, none⟩)] w fun e w' => e = .returned (.int .i64 (safe : Int)) ∧ w = w' := by
  obtain ⟨⟨v, h1, h2⟩, a, b, c, d⟩ := h
  obtain ⟨c0, c1, c2, fr⟩ := disk_cells h1
  clear h2 d h1 fr
  go_enter Try.func42, Try.ntmps42
  go_wp2
  go_ret
  exact ⟨rfl, rfl⟩
set_option maxRecDepth 100000 in
theorem all_any (h : DiskAt w g ok room safe bs) : Calls Try.prog 41 #[.pointer (some ⟨g, 0, none⟩)] w fun e w' => ∃ v, e = .returned v ∧ Kd.R (Kd.int .u8) 5 w' w.heap.size (fun _ => True) v bs ∧ Below w.heap.size w w' := by
  obtain ⟨⟨v, h1, h2⟩, a, b, c, d⟩ := h
  obtain ⟨A, k, rfl, hl, hC⟩ := B_C h2
  obtain ⟨c0, c1, c2, fr⟩ := disk_cells h1
  have HC := Aside0.mk hC
  clear h2 hC d h1 fr
  go_enter Try.func41, Try.ntmps41
  go_wp2_with (go_at_call 96; refine (clone_any A k bs w HC.out (by omega)).mono ?_; rintro e w1 ⟨v1, rfl, ho, hb⟩; have HO := Aside0.mk ho; have HB := Aside0.mk hb; clear ho hb)
  go_ret
  exact ⟨_, rfl, HO.out, HB.out⟩
end

section
variable {P : Program} {ops : Array Oper} {rest : List Oper} {o : Oper} {a : Act} {Q : Exit → Act → World → Prop}
/-- append(v, ys...), behind 'at_builtin'. -/
theorem B_append {W : World} (hgd : o.guard = none) (s x : Operand) (t : TypeId) (ho : o.op = .call { callee := .builtin .append, args := #[s, x], argTypes := #[t, t] })
    (ht : P.underlying t = some (.slice 5)) (hinfo : (P.info? 5).map (fun i => (i.zero, i.size, i.bytes)) = some (some (.int .u8 0), 1, 1))
    (ok : Nat → Prop) (v : Value) (xs ys : List Int) (A : Option Addr) (c : Nat) (hs : a.eval s = v) (hx : a.eval x = .slice A ys.length c) (h : BRow W ok v xs) (hr : Kd.C (Kd.int .u8) W A ys.length ys) (hok : ∀ k, W.heap.size ≤ k → ok k) (hl : xs.length + ys.length ≤ 140737488355328)
    (hK : ∀ v1 w1, BRow w1 ok v1 (xs ++ ys) → W.grownBy w1 v.ownBlock → (v1.ownBlock = v.ownBlock ∨ ∃ b, v1.ownBlock = some b ∧ W.heap.size ≤ b) → wpList P ops Q rest (a.put o.dst v1) w1) : wpList P ops Q (o :: rest) a W := by
  obtain ⟨i0, hi, hzz⟩ := Option.map_eq_some_iff.1 hinfo
  simp only [Prod.mk.injEq] at hzz
  obtain ⟨hz0, hz1, hz2⟩ := hzz
  obtain ⟨v1, w1, hrun, hB, hg, hat⟩ := B_run (P := P) W t o.type i0 ht hi hz0 hz1 hz2 ok v xs ys A c h hr hok hl
  refine wpList_plain hgd fun K hKK => ?_
  unfold Oper.wp execOp
  simp only [ho, resolve, invoke, builtin, Sem.run_bind, Sem.run_pure, Result.andThen_ok, List.map_toArray, List.map_cons, List.map_nil, hs, hx, hrun]
  exact hKK _ _ (hK v1 w1 hB hg hat)
end
section
variable {w : World} {g : Nat} {ok : Nat → Prop} {room safe : Nat} {bs : List Int}
set_option maxRecDepth 100000 in
theorem write_ok (h : DiskAt w g ok room safe bs) (hok : ∀ k, w.heap.size ≤ k → ok k) (A : Option Addr) (c : Nat) (l : List Int) (hr : Kd.C (Kd.int .u8) w A l.length l) (hb : okB l = true) (hfit : bs.length + l.length ≤ room) :
    Calls Try.prog 38 #[.pointer (some ⟨g, 0, none⟩), .slice A l.length c] w fun e w' => e = .returned (.int .i64 0) ∧ DiskAt w' g ok room safe (bs ++ l) ∧ Moved w w' (OfDisk g ok) := by
  have H := Aside0.mk h
  obtain ⟨⟨v, h1, h2⟩, ha, hb0, hm, hd⟩ := h
  obtain ⟨A', k, rfl, hl, hC⟩ := B_C h2
  have H1 := Aside0.mk h1
  have H2 := Aside0.mk h2
  have HNE := Aside0.mk (B_ne h2 h1 (by decide))
  have HR := Aside0.mk hr
  have HOK := Aside0.mk hok
  have HD := Aside0.mk (okB_append2 hd hb)
  have hle : (l.length : Int) ≤ (room : Int) - (bs.length : Int) := by omega
  clear h2 hC hd h1 hr hb hok
  go_enter Try.func38, Try.ntmps38
  go_wp2_with (first
    | (go_at_call 59; refine (room_any H.out).mono ?_; rintro e w1 ⟨rfl, n, rfl⟩; obtain ⟨c0, c1, c2, fr⟩ := disk_cells (show (w.drewN n).heap[g]? = _ from H1.out); have f2 := fr 2; clear fr)
    | (at_builtin; refine B_append rfl (.tmp 18) (.tmp 19) 22 rfl Try.underlying22 info5 ok (.slice A' bs.length k) bs l A c rfl rfl ?aB ?aR ?aO ?aL ?_; (case aB => exact H2.out); (case aR => exact HR.out); (case aO => exact HOK.out); (case aL => omega); intro v1 w1 hB hg hat; obtain ⟨A1, k1, rfl, _, _⟩ := B_C hB; rw [List.length_append] at hB; have HB := Aside0.mk hB; have h1' := blk_grown (w := w.drewN n) H1.out hg HNE.out; have HG := Aside0.mk hg; have HH := Aside0.mk h1'; obtain ⟨c0', c1', c2', fr'⟩ := disk_cells h1'; have f2' := fr' 2; clear fr' hB hg hat h1'))
  go_ret
  refine ⟨rfl, DiskAt.stored HH.out HB.out (by rw [List.length_append]; omega) (by rw [List.length_append]; omega) hm HD.out, ?_⟩
  exact (((Moved.refl w (OfDisk g ok)).drewN n).grown HG.out (fun k hk => .inl (.inr (B_ok H2.out k hk).1))).setCell (.inl (.inl rfl)) _
set_option maxRecDepth 100000 in
theorem write_full (h : DiskAt w g ok room safe bs) (A : Option Addr) (c : Nat) (l : List Int) (hl63 : l.length ≤ 9223372036854775807) (hfull : room < bs.length + l.length) :
    Calls Try.prog 38 #[.pointer (some ⟨g, 0, none⟩), .slice A l.length c] w fun e w' => e = .returned (.int .i64 4) ∧ ∃ n, w' = w.drewN n := by
  have H := Aside0.mk h
  obtain ⟨⟨v, h1, h2⟩, ha, hb0, hm, hd⟩ := h
  have hle : (room : Int) - (bs.length : Int) < (l.length : Int) := by omega
  clear h2 hd h1
  go_enter Try.func38, Try.ntmps38
  go_wp2_with (go_at_call 59; refine (room_any H.out).mono ?_; rintro e w1 ⟨rfl, n, rfl⟩)
  go_ret
  exact ⟨rfl, _, rfl⟩
/-- The disk whose count of safe bytes was stored anew. -/
theorem DiskAt.synced {w1 : World} {g : Nat} {ok : Nat → Prop} {room safe m : Nat} {xs : List Int} {v : Value} (h1 : w1.heap[g]? = some (.cells #[.int .i64 (room : Int), .int .i64 (safe : Int), v] 96 (0, 0))) (hB : BRow w1 ok v xs) (ha : m ≤ xs.length) (hb : xs.length ≤ room) (hm : room ≤ 1048576) (hd : okB xs = true) :
    DiskAt (w1.setCell ⟨g, 1, none⟩ (.int .i64 (m : Int))) g ok room m xs := by
  have h2 := blk_set h1 1 (.int .i64 (m : Int))
  exact ⟨⟨v, h2, B_set hB h1 (by decide) 1 _⟩, ha, hb, hm, hd⟩
set_option maxRecDepth 100000 in
theorem sync_any (h : DiskAt w g ok room safe bs) : Calls Try.prog 39 #[.pointer (some ⟨g, 0, none⟩)] w fun e w' => e = .returned (.int .i64 ((bs.length : Int) - (safe : Int))) ∧ DiskAt w' g ok room bs.length bs ∧ Moved w w' (OfDisk g ok) := by
  obtain ⟨⟨v, h1, h2⟩, a, b, c, d⟩ := h
  obtain ⟨A, k, rfl, hl, hC⟩ := B_C h2
  have H1 := Aside0.mk h1
  have H2 := Aside0.mk h2
  have HD := Aside0.mk d
  obtain ⟨c0, c1, c2, fr⟩ := disk_cells h1
  have f1 := fr 1
  clear h2 hC d h1 fr
  go_enter Try.func39, Try.ntmps39
  go_wp2
  go_quiet (fail)
  go_wp2
  go_ret
  exact ⟨rfl, DiskAt.synced (w1 := w.drewN _) H1.out H2.out (Nat.le_refl _) b c HD.out, ((Moved.refl w (OfDisk g ok)).drewN _).setCell (.inl (.inl rfl)) _⟩
/-- Both stored anew. -/
theorem DiskAt.both {w1 : World} {g : Nat} {ok : Nat → Prop} {room m : Nat} {xs : List Int} {u v0 v1 : Value} (h1 : w1.heap[g]? = some (.cells #[.int .i64 (room : Int), u, v0] 96 (0, 0))) (hB : BRow w1 ok v1 xs) (ha : m ≤ xs.length) (hb : xs.length ≤ room) (hm : room ≤ 1048576) (hd : okB xs = true) :
    DiskAt ((w1.setCell ⟨g, 2, none⟩ v1).setCell ⟨g, 1, none⟩ (.int .i64 (m : Int))) g ok room m xs := by
  have h2 := blk_set h1 2 v1
  have h3 := blk_set h2 1 (.int .i64 (m : Int))
  exact ⟨⟨v1, h3, B_set (B_set hB h1 (by decide) 2 v1) h2 (by decide) 1 _⟩, ha, hb, hm, hd⟩
theorem okB_take2 {l : List Int} (h : okB l = true) (n : Nat) : okB (l.take n) = true := by
  unfold okB at h ⊢
  rw [List.all_eq_true] at h ⊢
  exact fun x hx => h x (List.mem_of_mem_take hx)
set_option maxRecDepth 100000 in
theorem left_any (n : Nat) (h : DiskAt w g ok room safe bs) (hn : n ≤ bs.length) : Calls Try.prog 95 #[.pointer (some ⟨g, 0, none⟩), .int .i64 (n : Int)] w fun e w' =>
    e = .returned (.int .i64 ((bs.length : Int) - (n : Int))) ∧ DiskAt w' g ok room n (bs.take n) ∧ Moved w w' (OfDisk g ok) := by
  obtain ⟨⟨v, h1, h2⟩, a, b, c, d⟩ := h
  obtain ⟨A, k, rfl, hl, hC⟩ := B_C h2
  have H1 := Aside0.mk h1
  have H2 := Aside0.mk (B_cut h2 hn)
  have HD := Aside0.mk d
  obtain ⟨c0, c1, c2, fr⟩ := disk_cells h1
  have f1 := fr 1
  have f2 := fr 2
  clear h2 hC d h1 fr
  go_enter Try.func95, Try.ntmps95
  go_wp2
  go_ret
  exact ⟨rfl, DiskAt.both H1.out H2.out (by rw [List.length_take]; omega) (by rw [List.length_take]; omega) c (okB_take2 HD.out _), ((Moved.refl w (OfDisk g ok)).setCell (.inl (.inl rfl)) _).setCell (.inl (.inl rfl)) _⟩
set_option maxRecDepth 100000 in
theorem cut_ok (n : Nat) (h : DiskAt w g ok room safe bs) (hn : n ≤ bs.length) : Calls Try.prog 57 #[.pointer (some ⟨g, 0, none⟩), .int .i64 (n : Int)] w fun e w' =>
    e = .returned (.int .i64 0) ∧ DiskAt w' g ok room n (bs.take n) ∧ Moved w w' (OfDisk g ok) := by
  have H := Aside0.mk h
  have hb := h.roomLe
  have hm := h.most
  clear h
  go_enter Try.func57, Try.ntmps57
  go_wp2_with (first
    | (go_at_call 43; refine (len_any H.out).mono ?_; rintro e w1 ⟨rfl, rfl⟩)
    | (go_at_call 95; refine (left_any n H.out hn).mono ?_; rintro e w1 ⟨rfl, hd, hm'⟩; have HD := Aside0.mk hd; have HM := Aside0.mk hm'; clear hd hm'))
  go_ret
  exact ⟨rfl, HD.out, HM.out⟩
set_option maxRecDepth 100000 in
theorem cut_bad (n : Int) (h : DiskAt w g ok room safe bs) (hn : n < 0 ∨ (bs.length : Int) < n) : Calls Try.prog 57 #[.pointer (some ⟨g, 0, none⟩), .int .i64 n] w fun e w' =>
    e = .returned (.int .i64 1) ∧ w = w' := by
  have H := Aside0.mk h
  have hb := h.roomLe
  have hm := h.most
  clear h
  by_cases h0 : n < 0
  · clear hn
    go_enter Try.func57, Try.ntmps57
    go_wp2
    go_ret
    exact ⟨rfl, rfl⟩
  · have h1 : (bs.length : Int) < n := by omega
    clear hn
    go_enter Try.func57, Try.ntmps57
    go_wp2_with (go_at_call 43; refine (len_any H.out).mono ?_; rintro e w1 ⟨rfl, rfl⟩)
    go_ret
    exact ⟨rfl, rfl⟩
set_option maxRecDepth 100000 in
theorem swap_ok (h : DiskAt w g ok room safe bs) (hok : ∀ k, w.heap.size ≤ k → ok k) (A : Option Addr) (c : Nat) (l : List Int) (hr : Kd.C (Kd.int .u8) w A l.length l) (hb : okB l = true) (hfit : l.length ≤ room) :
    Calls Try.prog 49 #[.pointer (some ⟨g, 0, none⟩), .slice A l.length c] w fun e w' => e = .returned (.int .i64 0) ∧ DiskAt w' g ok room l.length l ∧ Moved w w' (OfDisk g ok) := by
  obtain ⟨⟨v, h1, h2⟩, ha, hb0, hm, hd⟩ := h
  obtain ⟨A', k, rfl, hl, hC⟩ := B_C h2
  have H1 := Aside0.mk h1
  have HR := Aside0.mk hr
  have HOK := Aside0.mk hok
  have HD := Aside0.mk hb
  have hle : (l.length : Int) ≤ (room : Int) := by omega
  obtain ⟨c0, c1, c2, fr⟩ := disk_cells h1
  clear h2 hC hd h1 hr hb hok fr
  go_enter Try.func49, Try.ntmps49
  go_wp2_with (go_at_call 96; refine (clone_any A c l w HR.out (by omega)).mono ?_; rintro e w1 ⟨v1, rfl, ho, hb⟩; have hB := B_of_R ho; obtain ⟨A1, k1, rfl, _, _⟩ := B_C hB; have h1' := (hb.block g (blk_lt H1.out)).trans H1.out; obtain ⟨c0', c1', c2', fr'⟩ := disk_cells h1'; have f1' := fr' 1; have f2' := fr' 2; have HB := Aside0.mk (B_mono hB (fun k hk => HOK.out k hk.2)); have HW := Aside0.mk hb; have HH := Aside0.mk h1'; clear fr' ho hb hB h1')
  go_ret
  exact ⟨rfl, DiskAt.both HH.out HB.out (Nat.le_refl _) hfit hm HD.out, (((Moved.of_below HW.out (OfDisk g ok))).setCell (.inl (.inl rfl)) _).setCell (.inl (.inl rfl)) _⟩
set_option maxRecDepth 100000 in
theorem swap_full (h : DiskAt w g ok room safe bs) (A : Option Addr) (c : Nat) (l : List Int) (hl63 : l.length ≤ 9223372036854775807) (hfull : room < l.length) :
    Calls Try.prog 49 #[.pointer (some ⟨g, 0, none⟩), .slice A l.length c] w fun e w' => e = .returned (.int .i64 4) ∧ w = w' := by
  obtain ⟨⟨v, h1, h2⟩, ha, hb0, hm, hd⟩ := h
  have hle : (room : Int) < (l.length : Int) := by omega
  obtain ⟨c0, c1, c2, fr⟩ := disk_cells h1
  clear h2 hd h1 fr
  go_enter Try.func49, Try.ntmps49
  go_wp2
  go_ret
  exact ⟨rfl, rfl⟩
/-- How many of m a crash keeps. -/
def keepOf (keep : Int) (m : Nat) : Nat := if keep < 0 then 0 else if (m : Int) < keep then m else keep.toNat
theorem keepOf_le (keep : Int) (m : Nat) : keepOf keep m ≤ m := by unfold keepOf; split <;> try split
                                                                   all_goals omega
theorem DiskAt.drewN (h : DiskAt w g ok room safe bs) (n : Nat) : DiskAt (w.drewN n) g ok room safe bs := ⟨h.cells, h.safeLe, h.roomLe, h.most, h.bytes⟩
theorem DiskAt.drew (h : DiskAt w g ok room safe bs) : DiskAt w.drew g ok room safe bs := ⟨h.cells, h.safeLe, h.roomLe, h.most, h.bytes⟩
theorem left_int (x : Int) (n : Nat) (hx : x = (n : Int)) (h : DiskAt w g ok room safe bs) (hn : n ≤ bs.length) : Calls Try.prog 95 #[.pointer (some ⟨g, 0, none⟩), .int .i64 x] w fun e w' =>
    e = .returned (.int .i64 ((bs.length : Int) - (n : Int))) ∧ DiskAt w' g ok room n (bs.take n) ∧ Moved w w' (OfDisk g ok) := by
  subst hx
  exact left_any n h hn
set_option maxRecDepth 100000 in
set_option maxHeartbeats 1000000 in
theorem crash_any (keep : Int) (h : DiskAt w g ok room safe bs) : Calls Try.prog 40 #[.pointer (some ⟨g, 0, none⟩), .int .i64 keep] w fun e w' =>
    e = .returned (.int .i64 ((bs.length : Int) - ((safe + keepOf keep (bs.length - safe) : Nat) : Int))) ∧ DiskAt w' g ok room (safe + keepOf keep (bs.length - safe)) (bs.take (safe + keepOf keep (bs.length - safe))) ∧ Moved w w' (OfDisk g ok) := by
  have H := Aside0.mk h
  obtain ⟨⟨v, h1, h2⟩, ha, hb0, hm, hd⟩ := h
  obtain ⟨A', k, rfl, hl, hC⟩ := B_C h2
  obtain ⟨c0, c1, c2, fr⟩ := disk_cells h1
  clear h2 hC hd h1 fr
  obtain ⟨m, hmm⟩ : ∃ m, bs.length - safe = m := ⟨_, rfl⟩
  rw [hmm]
  have e1 : IntKind.i64.wrap ((bs.length : Int) - (safe : Int)) = (m : Int) := by rw [IntWalk.i64_in _ (by omega)]; omega
  have m0 : ¬ (m : Int) < 0 := by omega
  have m1 : m ≤ bs.length - safe := by omega
  clear hmm
  by_cases k0 : keep < 0
  · have e : keepOf keep m = 0 := if_pos k0
    rw [e, Nat.add_zero]
    have e2 : IntKind.i64.wrap (safe : Int) = (safe : Int) := IntWalk.i64_in _ (by omega)
    clear e
    go_enter Try.func40, Try.ntmps40
    go_wp2
    go_still_tail 19, (by kernel_rfl)
    change wpList _ _ _ _ _ w.drew
    go_wp2_with (go_at_call 95; refine (left_any safe H.out.drew ha).mono ?_; rintro e w1 ⟨rfl, hd, hm'⟩; have HD := Aside0.mk hd; have HM := Aside0.mk hm'; clear hd hm')
    go_ret
    exact ⟨rfl, HD.out, ((Moved.refl w _).drew).trans HM.out (fun _ hk => .inl hk)⟩
  · by_cases k1 : (m : Int) < keep
    · have e : keepOf keep m = m := by unfold keepOf; rw [if_neg k0, if_pos k1]
      rw [e]
      have HX := Aside0.mk (show (safe : Int) + (m : Int) = ((safe + m : Nat) : Int) by omega)
      have HY := Aside0.mk (show safe + m ≤ bs.length by omega)
      have e2 : IntKind.i64.wrap ((safe : Int) + (m : Int)) = ((safe + m : Nat) : Int) := by rw [IntWalk.i64_in _ (by omega)]; omega
      clear e
      go_enter Try.func40, Try.ntmps40
      go_wp2
      go_still_tail 19, (by kernel_rfl)
      change wpList _ _ _ _ _ w.drew
      go_wp2_with (go_at_call 95; refine (left_int _ (safe + m) HX.out H.out.drew HY.out).mono ?_; rintro e w1 ⟨rfl, hd, hm'⟩; have HD := Aside0.mk hd; have HM := Aside0.mk hm'; clear hd hm')
      go_ret
      exact ⟨rfl, HD.out, ((Moved.refl w _).drew).trans HM.out (fun _ hk => .inl hk)⟩
    · obtain ⟨q, rfl⟩ := Int.eq_ofNat_of_zero_le (by omega : 0 ≤ keep)
      have e : keepOf (q : Int) m = q := by unfold keepOf; rw [if_neg k0, if_neg k1, Int.toNat_natCast]
      rw [e]
      have HX := Aside0.mk (show (safe : Int) + (q : Int) = ((safe + q : Nat) : Int) by omega)
      have HY := Aside0.mk (show safe + q ≤ bs.length by omega)
      have e2 : IntKind.i64.wrap ((safe : Int) + (q : Int)) = ((safe + q : Nat) : Int) := by rw [IntWalk.i64_in _ (by omega)]; omega
      clear e
      go_enter Try.func40, Try.ntmps40
      go_wp2
      go_still_tail 19, (by kernel_rfl)
      change wpList _ _ _ _ _ w.drew
      go_wp2_with (go_at_call 95; refine (left_int _ (safe + q) HX.out H.out.drew HY.out).mono ?_; rintro e w1 ⟨rfl, hd, hm'⟩; have HD := Aside0.mk hd; have HM := Aside0.mk hm'; clear hd hm')
      go_ret
      exact ⟨rfl, HD.out, ((Moved.refl w _).drew).trans HM.out (fun _ hk => .inl hk)⟩
end
section
variable {w : World}
theorem write_nil (A : Option Addr) (n c : Nat) : Calls Try.prog 38 #[.pointer none, .slice A n c] w fun e w' => e = .returned (.int .i64 1) ∧ w = w' := by
  go_enter Try.func38, Try.ntmps38
  go_wp2
  go_ret
  exact ⟨rfl, rfl⟩
theorem sync_nil : Calls Try.prog 39 #[.pointer none] w fun e w' => e = .returned (.int .i64 0) ∧ w = w' := by
  go_enter Try.func39, Try.ntmps39
  go_wp2
  go_ret
  exact ⟨rfl, rfl⟩
theorem crash_nil (k : Int) : Calls Try.prog 40 #[.pointer none, .int .i64 k] w fun e w' => e = .returned (.int .i64 0) ∧ w = w' := by
  go_enter Try.func40, Try.ntmps40
  go_wp2
  go_ret
  exact ⟨rfl, rfl⟩
theorem swap_nil (A : Option Addr) (n c : Nat) : Calls Try.prog 49 #[.pointer none, .slice A n c] w fun e w' => e = .returned (.int .i64 1) ∧ w = w' := by
  go_enter Try.func49, Try.ntmps49
  go_wp2
  go_ret
  exact ⟨rfl, rfl⟩
theorem all_nil : Calls Try.prog 41 #[.pointer none] w fun e w' => e = .returned (.slice none 0 0) ∧ w = w' := by
  go_enter Try.func41, Try.ntmps41
  go_wp2
  go_ret
  exact ⟨rfl, rfl⟩
theorem len_nil : Calls Try.prog 43 #[.pointer none] w fun e w' => e = .returned (.int .i64 0) ∧ w = w' := by
  go_enter Try.func43, Try.ntmps43
  go_wp2
  go_ret
  exact ⟨rfl, rfl⟩
theorem safe_nil : Calls Try.prog 42 #[.pointer none] w fun e w' => e = .returned (.int .i64 0) ∧ w = w' := by
  go_enter Try.func42, Try.ntmps42
  go_wp2
  go_ret
  exact ⟨rfl, rfl⟩
theorem room_nil : Calls Try.prog 59 #[.pointer none] w fun e w' => e = .returned (.int .i64 0) ∧ w = w' := by
  go_enter Try.func59, Try.ntmps59
  go_wp2
  go_ret
  exact ⟨rfl, rfl⟩
theorem cut_nil (n : Int) : Calls Try.prog 57 #[.pointer none, .int .i64 n] w fun e w' => e = .returned (.int .i64 1) ∧ w = w' := by
  by_cases h0 : n < 0
  · go_enter Try.func57, Try.ntmps57
    go_wp2
    go_ret
    exact ⟨rfl, rfl⟩
  · by_cases h1 : 0 < n
    all_goals
      go_enter Try.func57, Try.ntmps57
      go_wp2_with (go_at_call 43; refine len_nil.mono ?_; rintro e w1 ⟨rfl, rfl⟩)
      go_ret
      exact ⟨rfl, rfl⟩
end
end Go.Proofs.Ytbcienbnhchdeaa.Hand

/- A loop over a function that hands out a journal's entries, one by one. -/
namespace Go.Proofs.Ytbcienbnhchdeaa.Hand
open Go Go.RowKit Go.Shelf Go.Proofs.YtbcienbnhchdeaaW.PrintWords Go.Proofs.YtbcienbnhchdeaaW.PrintMore
set_option linter.unusedVariables false
set_option linter.unusedSimpArgs false
attribute [local go_sem] Oper.semAt_some
/-- The rows of bytes. -/
def KS : Kd (List Int) := Kd.slice 5 (Kd.int .u8)
/-- What is neither a row of rows nor a box of one lies as it lay. -/
structure Keep (W W' : World) : Prop where
  size : W.heap.size ≤ W'.heap.size
  same : ∀ (k t : Nat) (cs : Array Value), t ≠ 22 → t ≠ 65 → W.heap[k]? = some (.cells cs t (0, 0)) → W'.heap[k]? = some (.cells cs t (0, 0))
theorem Keep.refl (W : World) : Keep W W := ⟨Nat.le_refl _, fun _ _ _ _ _ h => h⟩
theorem Keep.trans {A B C : World} (h : Keep A B) (k : Keep B C) : Keep A C := ⟨Nat.le_trans h.size k.size, fun i t cs h1 h2 h3 => k.same i t cs h1 h2 (h.same i t cs h1 h2 h3)⟩
theorem Keep.below {W W' : World} (h : Below W.heap.size W W') : Keep W W' := ⟨h.size, fun k t cs _ _ hk => (h.block k (blk_lt hk)).trans hk⟩
/-- What v holds. -/
def Held (W : World) (v : Value) (x : List Int) : Prop := Kd.R (Kd.int .u8) 5 W 0 (fun _ => True) v x
theorem Held.keep {W W' : World} {v : Value} {x : List Int} (h : Held W v x) (hk : Keep W W') : Held W' v x := by
  refine Kd.R_mono (Kd.R_move (Kd.R_bound h) (fun k hk2 => ?_)) (fun _ _ => trivial)
  obtain ⟨_, _, _, q, hq, cs, hc⟩ := hk2
  have hq5 : q = 5 := by simpa [Kd.int, Kd.scalar] using hq
  subst hq5
  exact (hk.same k _ cs (by decide) (by decide) hc).trans hc.symm
set_option maxRecDepth 100000 in
theorem each_any (p : Option Addr) (w : World) : Calls Try.prog 101 #[.pointer p] w fun e w' => e = .returned (.func (.func 103) #[] #[.pointer (some ⟨w.heap.size, 0, none⟩)]) ∧ w.alloc (.cells #[.pointer p] 74) = w' := by
  go_enter Try.func101, Try.ntmps101
  go_wp2
  go_ret
  exact ⟨rfl, rfl⟩
/-- A journal's cells: its disk, its row, how many are safe. -/
def JCells (w : World) (gj : Nat) (d v : Value) (s : Int) : Prop := w.heap[gj]? = some (.cells #[d, v, .int .i64 s] 99 (0, 0))
theorem j_cells {w : World} {gj : Nat} {d v : Value} {s : Int} (h : JCells w gj d v s) :
    w.cell? ⟨gj, 0, none⟩ = some d ∧ w.cell? ⟨gj, 1, none⟩ = some v ∧ w.cell? ⟨gj, 2, none⟩ = some (.int .i64 s) ∧ (∀ i, w.frozen? ⟨gj, i, none⟩ = false) :=
  ⟨by rw [blk_cell h]; rfl, by rw [blk_cell h]; rfl, by rw [blk_cell h]; rfl, fun i => blk_frozen h i⟩
set_option maxRecDepth 100000 in
theorem jlen_any {w : World} {gj : Nat} {d : Value} {A : Option Addr} {n c : Nat} {s : Int} (h : JCells w gj d (.slice A n c) s) : Calls Try.prog 78 #[.pointer (some ⟨gj, 0, none⟩)] w fun e w' => e = .returned (.int .i64 (n : Int)) ∧ w = w' := by
  obtain ⟨c0, c1, c2, fr⟩ := j_cells h
  clear h fr c0 c2
  go_enter Try.func78, Try.ntmps78
  go_wp2
  go_ret
  exact ⟨rfl, rfl⟩
theorem jlen_nil {w : World} : Calls Try.prog 78 #[.pointer none] w fun e w' => e = .returned (.int .i64 0) ∧ w = w' := by
  go_enter Try.func78, Try.ntmps78
  go_wp2
  go_ret
  exact ⟨rfl, rfl⟩
set_option maxRecDepth 100000 in
set_option maxHeartbeats 4000000 in
theorem each1_any (n0 l b gj : Nat) (d : Value) (s : Int) (A : Option Addr) (c : Nat) (xs : List (List Int)) (J : List Value → World → Prop) (W : World)
    (hJ : ∀ pre W W', J pre W → Below W.heap.size W W' → J pre W')
    (hY : ∀ pre A n c W, J pre W → pre.length < xs.length → YieldAt Fence.wide 2 Try.prog l #[.slice A n c] W fun e W' => e = .returned (.bool true) ∧ J (pre ++ [.slice A n c]) W' ∧ Keep W W' ∧ Below n0 W W')
    (hb : W.heap[b]? = some (.cells #[.pointer (some ⟨gj, 0, none⟩)] 74 (0, 0))) (hj : JCells W gj d (.slice A xs.length c) s) (hjn : gj < n0) (hr : ∀ W', Below n0 W W' → Kd.C KS W' A xs.length xs) (hc : xs.length ≤ c) (hx : ∀ x ∈ xs, x.length ≤ 1000000) (h0 : J [] W) (hn0 : n0 ≤ W.heap.size) :
    CallsIn Fence.wide 3 Try.prog 103 #[.func (.yield l) #[] #[], .pointer (some ⟨b, 0, none⟩)] W fun e W' => (∃ v, e = .returned v) ∧ ∃ vs : List Value, J vs W' ∧ vs.length = xs.length ∧ (∀ (i : Nat) (v : Value) (x : List Int), vs[i]? = some v → xs[i]? = some x → Held W' v x) ∧ Keep W W' ∧ Below n0 W W' := by
  have HJ := Aside0.mk hJ
  have HY := Aside0.mk hY
  have HR := Aside0.mk hr
  have HX := Aside0.mk hx
  have H0 := Aside0.mk h0
  have HJC := Aside0.mk hj
  have HB := Aside0.mk hb
  have hl63 := (hr W (Below.refl _ _)).2.1
  have cb := (blk_cell hb 0).trans rfl
  clear hJ hY hr hx h0 hj hb
  refine callsIn_of_wp Try.func103 rfl trivial ?_ rfl
  simp only [Try.ntmps103, List.size_toArray, List.length_cons, List.length_nil, Nat.reduceAdd, Nat.reduceSub, Array.replicate_succ, Array.replicate_zero, List.push_toArray, List.append_toArray, List.nil_append, List.cons_append]
  gi_wp2_with (refine ⟨trivial, ?_⟩; gi_at_call 78; refine (callsIn_wide.2 (jlen_any HJC.out)).mono ?_; rintro e w1 ⟨rfl, rfl⟩)
  gi_loopw [6] (fun i wr => ∃ (k : Nat) (vs : List Value), k ≤ xs.length ∧ i = .int .i64 (k : Int) ∧ Hid (J vs wr ∧ vs.length = k ∧ (∀ (i : Nat) (v : Value) (x : List Int), vs[i]? = some v → xs[i]? = some x → Held wr v x) ∧ Keep W wr ∧ Below n0 W wr)) (fun i _ => xs.length - (intOf i).toNat)
  case atStart => exact ⟨0, [], by omega, rfl, Lib.hid ⟨H0.out, rfl, fun i v x h => by simp at h, Keep.refl _, Below.refl _ _⟩⟩
  case round =>
    obtain ⟨k, vs, hk, rfl, HC⟩ := hrel
    clear H0
    by_cases hlt : k < xs.length
    · have HB2 := Aside0.mk (HC.out.2.2.2.1.same b 74 _ (by decide) (by decide) HB.out)
      have hjc2 : JCells wr gj d (.slice A xs.length c) s := (HC.out.2.2.2.2.block gj hjn).trans HJC.out
      obtain ⟨c0, c1, c2, fr⟩ := j_cells hjc2
      have cb2 := (blk_cell HB2.out 0).trans rfl
      obtain ⟨ad, Ai, ci, rfl, hcell, hci, hCi⟩ := row_at (HR.out wr HC.out.2.2.2.2) hlt
      obtain ⟨x, hx⟩ : ∃ x, xs[k]'hlt = x := ⟨_, rfl⟩
      rw [hx] at hcell hci hCi
      have HXK := Aside0.mk (show xs[k]? = some x by rw [List.getElem?_eq_getElem hlt, hx])
      have hxl : x.length ≤ 1000000 := HX.out x (hx ▸ List.getElem_mem hlt)
      have HCI := Aside0.mk hCi
      clear hx hCi hjc2 cb fr c0 c2
      gi_wp2_with (first
        | (refine ⟨trivial, ?_⟩; gi_at_call 96; refine (callsIn_wide.2 (clone_any Ai ci x wr HCI.out (by omega))).mono ?_; rintro e w2 ⟨v, rfl, hR, hb⟩; obtain ⟨A2, c2, rfl⟩ := Kd.R_slice hR; have HR2 := Aside0.mk hR; have HB3 := Aside0.mk hb; obtain ⟨fn, tmps, assign, body, hy, hrd⟩ := HY.out vs A2 x.length c2 w2 (HJ.out _ _ _ HC.out.1 hb) (by have := HC.out.2.1; omega); clear hR hb))
      refine hrd.mono ?_
      rintro e w3 ⟨rfl, hj3, hk3, hb3⟩
      have HJ3 := Aside0.mk hj3
      have HK3 := Aside0.mk hk3
      have HB4 := Aside0.mk hb3
      clear hj3 hk3 hb3 hrd hy
      gi_wp2
      go_roundw
      case rel =>
        have hsz := HC.out.2.2.2.2.size
        have hb03 : Below n0 wr w2 := HB3.out.mono (by omega)
        refine ⟨k + 1, vs ++ [.slice A2 x.length c2], by omega, by go_num, Lib.hid ⟨HJ3.out, by rw [List.length_append, HC.out.2.1]; rfl, fun i v y hv hy => ?_, ((HC.out.2.2.2.1.trans (Keep.below HB3.out)).trans HK3.out), (HC.out.2.2.2.2.trans hb03).trans HB4.out⟩⟩
        by_cases hi : i < vs.length
        · rw [List.getElem?_append_left hi] at hv
          exact ((HC.out.2.2.1 i v y hv hy).keep (Keep.below HB3.out)).keep HK3.out
        · rw [List.getElem?_append_right (by omega)] at hv
          obtain ⟨hi2, rfl⟩ : i - vs.length = 0 ∧ (.slice A2 x.length c2 : Value) = v := by
            match hii : i - vs.length with
            | 0 => rw [hii] at hv; exact ⟨rfl, by simpa using hv⟩
            | q + 1 => rw [hii] at hv; simp at hv
          have hik : i = k := by have := HC.out.2.1; omega
          rw [hik, HXK.out] at hy
          injection hy with hy
          subst hy
          exact Held.keep (Kd.R_lower HR2.out (Nat.zero_le _)) HK3.out
      case measure => simp [intOf]; omega
    · have HE := Aside0.mk (show k = xs.length by omega)
      gi_wp2
      go_end0
      exact ⟨⟨_, rfl⟩, vs, HC.out.1, by rw [HC.out.2.1, HE.out], HC.out.2.2.1, HC.out.2.2.2.1, HC.out.2.2.2.2⟩
/-- A row of slices, each of which holds an entry, is a row of rows. -/
theorem rows_of_own {W : World} {base : Nat} {v : Value} {vs : List Value} {xs : List (List Int)} (h : W.ownsRow base 22 1 v vs.length vs) (hl : vs.length = xs.length) (hh : ∀ (i : Nat) (v : Value) (x : List Int), vs[i]? = some v → xs[i]? = some x → Held W v x) :
    ∃ A c, v = .slice A xs.length c ∧ xs.length ≤ c ∧ Kd.C KS W A xs.length xs := by
  rcases h.2 with ⟨rfl, h0⟩ | ⟨g, cap, cur, rfl, hb, hg, h1, h2, h3, h4⟩
  · have : xs = [] := List.eq_nil_of_length_eq_zero (by omega)
    subst this
    exact ⟨none, 0, rfl, Nat.le_refl _, Kd.C_nil _ _⟩
  · refine ⟨some ⟨g, 0, none⟩, cap, by rw [hl], by omega, rfl, by unfold maxLen at h2; omega, fun _ => ⟨_, rfl, fun j p hj => ?_⟩⟩
    have hjl := (List.getElem?_eq_some_iff.1 hj).1
    obtain ⟨u, hu⟩ : ∃ u, vs[j]? = some u := ⟨_, List.getElem?_eq_getElem (by omega)⟩
    obtain ⟨A, c, rfl, hc, hC⟩ := Kd.R_reads (hh j u p hu hj)
    refine ⟨[.slice A p.length c], rfl, ⟨A, c, rfl, hc, hC⟩, fun i u' hu' => ?_⟩
    match i, hu' with
    | 0, hu' =>
      have e : u' = .slice A p.length c := by simpa using hu'.symm
      rw [e]
      have h5 := h.cells (g := g) rfl j _ hu
      have e2 : j * KS.sz + 0 = j := by show j * 1 + 0 = j; omega
      rw [e2]
      exact h5
/-- A block of bytes. -/
def T5 (W : World) (k : Nat) : Prop := ∃ cs, W.heap[k]? = some (.cells cs 5 (0, 0))
theorem Held.five {W W' : World} {v : Value} {x : List Int} (h : Held W v x) (hk : ∀ k, T5 W k → W'.heap[k]? = W.heap[k]?) : Held W' v x := by
  refine Kd.R_mono (Kd.R_move (Kd.R_bound h) (fun k hk2 => ?_)) (fun _ _ => trivial)
  obtain ⟨_, _, _, q, hq, cs, hc⟩ := hk2
  have hq5 : q = 5 := by simpa [Kd.int, Kd.scalar] using hq
  subst hq5
  exact hk k ⟨cs, hc⟩
theorem rowsF_of_own {W : World} {base : Nat} {v : Value} {vs : List Value} {xs : List (List Int)} (h : W.ownsRow base 22 1 v vs.length vs) (hl : vs.length = xs.length) (hh : ∀ (i : Nat) (v : Value) (x : List Int), vs[i]? = some v → xs[i]? = some x → Held W v x) :
    ∃ A c, v = .slice A xs.length c ∧ xs.length ≤ c ∧ Kd.F KS W (fun k => base ≤ k ∨ T5 W k) A xs.length xs := by
  obtain ⟨A, c, rfl, hc, _⟩ := rows_of_own h hl hh
  refine ⟨A, c, rfl, hc, fun W' hW => ?_⟩
  have h' : W'.ownsRow base 22 1 (.slice A xs.length c) vs.length vs := own_move h (fun k hk => by
    obtain ⟨cs, hcs⟩ := own_typed h k hk
    exact hW k (.inl (own_base h k hk)) (blk_lt hcs))
  obtain ⟨A2, c2, e, _, hC⟩ := rows_of_own h' hl (fun i v x h1 h2 => (hh i v x h1 h2).five (fun k hk => hW k (.inr hk) (blk_lt hk.choose_spec)))
  injection e with e1 _ _
  rw [e1]
  exact hC
/-- What All's loop has between two rounds. -/
structure Coll (w W : World) (B l D : Nat) (r : Loop) (pre : List Value) : Prop where
  box : ∃ v, Boxed W B 65 v ∧ W.ownsRow w.heap.size 22 1 v pre.length pre
  lp : W.heap[l]? = some (.loop r)
  df : W.heap[D]? = some (.deferred (some []))
  below : Below w.heap.size w W
theorem Coll.next {w W W' : World} {B l D : Nat} {r : Loop} {pre : List Value} (h : Coll w W B l D r pre) (hb : Below W.heap.size W W') : Coll w W' B l D r pre := by
  obtain ⟨⟨v, h1, h2⟩, h3, h4, h5⟩ := h
  exact ⟨⟨v, (hb.block B h1.lt).trans h1, own_move h2 (fun k hk => by
    obtain ⟨cs, hc⟩ := own_typed h2 k hk
    exact hb.block k (blk_lt hc))⟩, (hb.block l (Array.getElem?_eq_some_iff.1 h3).1).trans h3, (hb.block D (Array.getElem?_eq_some_iff.1 h4).1).trans h4, below_step h5 hb⟩
theorem info22' : (Try.prog.info? 22).map (fun i => (i.zero, i.size, i.bytes)) = some (some (.slice none 0 0), 1, 24) := by kernel_rfl
/-- The statement over whatever a round has to be told: the loop's record, where it lies, is named; the rest is the function's contract. -/
theorem range_told {P : Program} {n : Nat} {g : Operand} {ps : Array Tmp} {assign body : Code} {Q : Exit → Act → World → Prop} {a : Act} {w : World} {gf : Nat} {lb : Array Value}
    (hg : a.eval g = .func (.func gf) #[] lb) (eg : ∀ args w, (callFunc gf args).run P w = .ok (.enter gf args) w)
    (h : ∀ (fn : FuncId) (r : Loop), r = { state := .ready, pending := none, fn, tmps := a.tmps, params := ps, assign, body, defers := w.heap.size } →
      CallsIn Fence.wide n P gf (#[.func (.yield (w.heap.size + 1)) #[] #[]] ++ lb) ((w.alloc (.deferred (some []))).alloc (.loop r)) (rangePost Fence.wide (n + 1) P (w.heap.size + 1) Q { a with defers := { target := .collected w.heap.size, args := #[] } :: a.defers })) :
    (Code.rangeFunc g ps assign body).wpIn Fence.wide (n + 1) P Q a w := by
  refine wpIn_rangeFunc fun fn _ => ?_
  obtain ⟨W1, hW1⟩ : ∃ W1, (w.alloc (.deferred (some []))).alloc (.loop { state := .ready, pending := none, fn, tmps := a.tmps, params := ps, assign, body, defers := w.heap.size }) = W1 := ⟨_, rfl⟩
  have hc := h fn _ rfl
  rw [hW1] at hc
  exact ⟨w.heap.size + 1, [{ target := .collected w.heap.size, args := #[] }], W1, { target := .fn (.func gf) lb, args := #[.func (.yield (w.heap.size + 1)) #[] #[]] }, W1, gf, _, W1,
    by rw [← hW1]; exact run_enterLoop_outer fn a.tmps ps assign body, by simp only [resolve, hg]; simp [go_sem], fun _ _ => trivial, by simp [invoke, go_sem, eg], fun _ => by omega, hc⟩
set_option maxRecDepth 100000 in
set_option maxHeartbeats 4000000 in
theorem jallF_gen {w : World} {p : Option Addr} {xs : List (List Int)} (hxl : xs.length ≤ 1000000)
    (E : ∀ (l b : Nat) (J : List Value → World → Prop) (W : World), (∀ pre W W', J pre W → Below W.heap.size W W' → J pre W') →
      (∀ pre A n c W, J pre W → pre.length < xs.length → YieldAt Fence.wide 2 Try.prog l #[.slice A n c] W fun e W' => e = .returned (.bool true) ∧ J (pre ++ [.slice A n c]) W' ∧ Keep W W' ∧ Below w.heap.size W W') →
      W.heap[b]? = some (.cells #[.pointer p] 74 (0, 0)) → J [] W → Below w.heap.size w W →
      CallsIn Fence.wide 3 Try.prog 103 #[.func (.yield l) #[] #[], .pointer (some ⟨b, 0, none⟩)] W fun e W' => (∃ v, e = .returned v) ∧ ∃ vs : List Value, J vs W' ∧ vs.length = xs.length ∧ (∀ (i : Nat) (v : Value) (x : List Int), vs[i]? = some v → xs[i]? = some x → Held W' v x) ∧ Keep W W' ∧ Below w.heap.size W W') :
    Calls Try.prog 80 #[.pointer p] w fun e w' => ∃ (A' : Option Addr) (c' : Nat), e = .returned (.slice A' xs.length c') ∧ xs.length ≤ c' ∧ Kd.F KS w' (fun k => w.heap.size ≤ k ∨ T5 w' k) A' xs.length xs ∧ Below w.heap.size w w' := by
  have EE := Aside0.mk E
  clear E
  obtain ⟨i0, hi, hz0, hz1, hz2⟩ := info_parts info22'
  refine (callsIn_wide (n := 4)).1 ?_
  refine callsIn_of_wp_marks Try.func80 rfl trivial ?_ rfl
  simp only [Try.ntmps80, List.size_toArray, List.length_cons, List.length_nil, Nat.reduceAdd, Nat.reduceSub, Array.replicate_succ, Array.replicate_zero, List.push_toArray, List.append_toArray, List.nil_append, List.cons_append]
  gi_wp2_with (refine ⟨trivial, ?_⟩; gi_at_call 101; refine (callsIn_wide.2 (each_any _ _)).mono ?_; rintro e w1 ⟨rfl, rfl⟩)
  have bO := Boxed.new w 65 (.slice none 0 0)
  have bN := heap_alloc_new (w.alloc (.cells #[.slice none 0 0] 65)) (.cells #[.pointer p] 74)
  rw [World.size_alloc] at bN
  have bO2 := bO.alloc (.cells #[.pointer p] 74)
  have hB0 : Below w.heap.size w ((w.alloc (.cells #[.slice none 0 0] 65)).alloc (.cells #[.pointer p] 74)) := ((Below.refl _ w).alloc (Nat.le_refl _) _).alloc (by simp) _
  have hsz : ((w.alloc (.cells #[.slice none 0 0] 65)).alloc (.cells #[.pointer p] 74)).heap.size = w.heap.size + 2 := by simp
  clear bO
  obtain ⟨W, hW⟩ : ∃ W, (w.alloc (.cells #[.slice none 0 0] 65)).alloc (.cells #[.pointer p] 74) = W := ⟨_, rfl⟩
  rw [hW] at bN bO2 hB0 hsz
  rw [hW]
  clear hW
  refine range_told (n := 3) (gf := 103) (lb := #[.pointer (some ⟨w.heap.size + 1, 0, none⟩)]) rfl (enters_of Try.func103 (by kernel_rfl) rfl) ?_
  intro fn r hrr
  have hK1 : ((W.alloc (.deferred (some []))).alloc (.loop r)).heap[W.heap.size]? = some (.deferred (some [])) := (Below.heap_alloc _ _ _ (by simp)).trans (World.alloc_heap_new W _)
  have hL1 : ((W.alloc (.deferred (some []))).alloc (.loop r)).heap[W.heap.size + 1]? = some (.loop r) := by
    have h := World.alloc_heap_new (W.alloc (.deferred (some []))) (.loop r)
    rwa [World.size_alloc] at h
  have hb1 : Below W.heap.size W ((W.alloc (.deferred (some []))).alloc (.loop r)) := ((Below.refl _ W).alloc (Nat.le_refl _) _).alloc (by simp) _
  have hB1 := hB0.trans (hb1.mono (by omega) : Below w.heap.size W _)
  obtain ⟨W1, hW1⟩ : ∃ W1, (W.alloc (.deferred (some []))).alloc (.loop r) = W1 := ⟨_, rfl⟩
  rw [hW1] at hK1 hL1 hb1 hB1
  rw [hW1]
  clear hW1
  have hbD : w.heap.size + 1 < W.heap.size := by omega
  have hN := (hb1.block _ (by omega)).trans bN
  have hO := (hb1.block _ bO2.lt).trans bO2
  have HRR := Lib.hid hrr
  clear hsz hb1 bN bO2 hrr hB0
  generalize W.heap.size = D at *
  clear W
  refine (EE.out (D + 1) (w.heap.size + 1) (fun pre W' => Coll w W' w.heap.size (D + 1) D r pre) W1 (fun pre X Y h hb => h.next hb) ?hY hN ⟨⟨_, hO, World.ownsRow_nil _ _ _ _⟩, hL1, hK1, hB1⟩ hB1).mono ?_
  case hY =>
    intro pre A' n' c' X hJ hlen
    obtain ⟨⟨v, hv, hrow⟩, hl, hd, hbl⟩ := hJ
    have hy := run_yield (P := Try.prog) (args := #[.slice A' n' c']) hl (by rw [HRR.out]; rfl)
    rw [HRR.out] at hy
    have hbr := run_beginRound (P := Try.prog) hl (by rw [HRR.out])
    refine ⟨_, _, _, _, hy, roundIn_of_wpIn trivial ?_⟩
    dsimp only
    clear hy hN hO hL1 hK1 hB1
    have hlt := (Array.getElem?_eq_some_iff.1 hl).1
    have hDl := (Array.getElem?_eq_some_iff.1 hd).1
    have hl2 : (X.putObj (D + 1) (.loop { r with state := .busy })).heap[D + 1]? = some (.loop { r with state := .busy }) := World.putObj_heap_same hlt
    have hd2 : (X.putObj (D + 1) (.loop { r with state := .busy })).heap[D]? = some (.deferred (some [])) := (World.putObj_heap_other (by omega)).trans hd
    have hv2 : Boxed (X.putObj (D + 1) (.loop { r with state := .busy })) w.heap.size 65 v := (World.putObj_heap_other (by omega)).trans hv
    have hrow2 := ownsRow_putObj hrow (.loop { r with state := .busy }) hl rfl
    have hk2 : Keep X (X.putObj (D + 1) (.loop { r with state := .busy })) := ⟨by simp, fun k t cs _ _ hk => (World.putObj_heap_other (fun e => by subst e; rw [hl] at hk; cases hk)).trans hk⟩
    have hbl2 : Below w.heap.size X (X.putObj (D + 1) (.loop { r with state := .busy })) := (Below.refl _ X).grown (grownBy_putObj' X _ _) hbl.size (fun k e => by cases e; omega)
    generalize X.putObj (D + 1) (.loop { r with state := .busy }) = X2 at *
    have hc2 := hv2.cell
    have hn0 : w.heap.size ≤ X2.heap.size := Nat.le_trans hbl.size hbl2.size
    have HV := Aside0.mk hv2
    have HRW := Aside0.mk hrow2
    have HL2 := Aside0.mk hl2
    have HD2 := Aside0.mk hd2
    clear hv hrow hl hd hv2 hrow2 hl2 hd2
    gi_wp2_with (gi_at_builtin; refine wpListIn_append_own _ rfl _ _ 65 rfl w.heap.size 22 i0 (.slice none 0 0) 1 24 Try.underlying65 hi hz0 hz1 hz2 rfl (by decide) _ _ _ rfl (HRW.out.alloc _) ⟨X2.heap.size, 0, none⟩ 1 1 [.slice A' n' c'] rfl rfl (cell_one_new _ _ _) (by simp [Value.oneCell']) (by unfold maxLen; omega) (by omega) (by simp; omega) ?_; intro v' w1 hown' hgrow _; obtain ⟨g', cap', rfl⟩ := ownsRow_succ hown'; obtain ⟨hv1, hv3, hr3, hk3, hb3⟩ := HV.out.appended (by decide) HRW.out hn0 (Nat.le_refl _) hown' hgrow; have hc1 := hv1.cell; have hf1 := hv1.frozen)
    have hl3 := hk3.same _ _ HL2.out rfl
    have hd3 := hk3.same _ _ HD2.out rfl
    have hend := run_endRound (P := Try.prog) none hl3
    have hrec : ({ { r with state := LoopState.busy } with state := if (none : Option Code).isNone = true then LoopState.ready else LoopState.done, pending := none } : Loop) = r := by rw [HRR.out]; rfl
    rw [hrec] at hend
    have hk4 : Keep X2 (w1.setCell ⟨w.heap.size, 0, none⟩ (.slice (some ⟨g', 0, none⟩) (pre.length + 1) cap')) := ⟨hk3.size, fun k t cs h1 h2 hk => by
      have e1 : k ≠ w.heap.size := fun e => by
        subst e
        have := HV.out.symm.trans hk
        injection this with this
        injection this with _ this _
        exact h2 this.symm
      have e2 : some k ≠ v.ownBlock := fun e => by
        obtain ⟨cs2, hcs2⟩ := own_typed HRW.out k e.symm
        have := hcs2.symm.trans hk
        injection this with this
        injection this with _ this _
        exact h1 this.symm
      have hkl := blk_lt hk
      exact (Below.heap_setCell w1 ⟨w.heap.size, 0, none⟩ _ k e1).trans ((hgrow.block k (by simp; omega) e2).trans ((Below.heap_alloc X2 _ k hkl).trans hk))⟩
    generalize w1.setCell ⟨w.heap.size, 0, none⟩ (.slice (some ⟨g', 0, none⟩) (pre.length + 1) cap') = X3 at *
    have hlt3 := (Array.getElem?_eq_some_iff.1 hl3).1
    refine ⟨_, _, hend, rfl, ⟨⟨_, (World.putObj_heap_other (by omega)).trans hv3, ?_⟩, World.putObj_heap_same hlt3, (World.putObj_heap_other (by omega)).trans hd3, ?_⟩, ?_, ?_⟩
    · have h := ownsRow_putObj hr3 (.loop r) hl3 rfl
      rw [List.length_append]
      exact h
    · exact ((hbl.trans hbl2).trans hb3).trans ((Below.refl _ X3).grown (grownBy_putObj' X3 _ _) (Nat.le_trans hn0 hb3.size) (fun k e => by cases e; omega))
    · exact (hk2.trans hk4).trans ⟨by simp, fun k t cs _ _ hk => (World.putObj_heap_other (fun e => by subst e; rw [hl3] at hk; cases hk)).trans hk⟩
    · exact (hbl2.trans hb3).trans ((Below.refl _ X3).grown (grownBy_putObj' X3 _ _) (Nat.le_trans hn0 hb3.size) (fun k e => by cases e; omega))
  · rintro e W2 ⟨⟨v0, rfl⟩, vs, hcoll, hvl, hheld, hkeep, hbel⟩
    obtain ⟨⟨v, hv, hrow⟩, hl, hd, hbl⟩ := hcoll
    have hend := run_endLoop (P := Try.prog) hl (by rw [HRR.out]; simp)
    refine ⟨_, _, hend, ?_⟩
    have hlt2 := (Array.getElem?_eq_some_iff.1 hl).1
    have hv4 : Boxed (W2.putObj (D + 1) (.loop { r with state := .exhausted })) w.heap.size 65 v := (World.putObj_heap_other (by omega)).trans hv
    have hrow4 := ownsRow_putObj hrow (.loop { r with state := .exhausted }) hl rfl
    have hd4 : (W2.putObj (D + 1) (.loop { r with state := .exhausted })).heap[D]? = some (.deferred (some [])) := (World.putObj_heap_other (by omega)).trans hd
    have hk4 : Keep W2 (W2.putObj (D + 1) (.loop { r with state := .exhausted })) := ⟨by simp, fun k t cs _ _ hk => (World.putObj_heap_other (fun e => by subst e; rw [hl] at hk; cases hk)).trans hk⟩
    have hb4 : Below w.heap.size w (W2.putObj (D + 1) (.loop { r with state := .exhausted })) := hbl.trans ((Below.refl _ W2).grown (grownBy_putObj' W2 _ _) hbl.size (fun k e => by cases e; omega))
    generalize W2.putObj (D + 1) (.loop { r with state := .exhausted }) = W4 at *
    have hlt4 := (Array.getElem?_eq_some_iff.1 hd4).1
    have hk5 : Keep W4 (W4.putObj D (.deferred none)) := ⟨by simp, fun k t cs _ _ hk => (World.putObj_heap_other (fun e => by subst e; rw [hd4] at hk; cases hk)).trans hk⟩
    obtain ⟨A', c', hvv, hcc, hC⟩ := rowsF_of_own (ownsRow_putObj hrow4 (.deferred none) hd4 rfl) hvl (fun i v x h1 h2 => ((hheld i v x h1 h2).keep hk4).keep hk5)
    have HC := Aside0.mk hC
    have HB5 := Aside0.mk (hb4.trans ((Below.refl _ W4).grown (grownBy_putObj' W4 D (.deferred none)) hb4.size (fun k e => by cases e; omega)))
    subst hvv
    have hc4 := hv4.cell
    have HD4 := Aside0.mk hd4
    clear hrow4 hv4 hd4 hk4 hb4 hk5 hC hend hl hd hv hrow hbl hheld hkeep hbel hB1 hK1 hL1 hN hO
    rw [show r.pending = none from by rw [HRR.out]]
    show Exit.inBlock 0 _ Exit.normal _ W4
    gi_wp2
    refine ⟨by simp, .inl ⟨_, _, rfl, run_takeDeferred HD4.out, ?_⟩⟩
    exact ⟨_, results_tmp rfl _ _ _, A', c', rfl, hcc, HC.out, HB5.out⟩
theorem jall_gen {w : World} {p : Option Addr} {xs : List (List Int)} (hxl : xs.length ≤ 1000000)
    (E : ∀ (l b : Nat) (J : List Value → World → Prop) (W : World), (∀ pre W W', J pre W → Below W.heap.size W W' → J pre W') →
      (∀ pre A n c W, J pre W → pre.length < xs.length → YieldAt Fence.wide 2 Try.prog l #[.slice A n c] W fun e W' => e = .returned (.bool true) ∧ J (pre ++ [.slice A n c]) W' ∧ Keep W W' ∧ Below w.heap.size W W') →
      W.heap[b]? = some (.cells #[.pointer p] 74 (0, 0)) → J [] W → Below w.heap.size w W →
      CallsIn Fence.wide 3 Try.prog 103 #[.func (.yield l) #[] #[], .pointer (some ⟨b, 0, none⟩)] W fun e W' => (∃ v, e = .returned v) ∧ ∃ vs : List Value, J vs W' ∧ vs.length = xs.length ∧ (∀ (i : Nat) (v : Value) (x : List Int), vs[i]? = some v → xs[i]? = some x → Held W' v x) ∧ Keep W W' ∧ Below w.heap.size W W') :
    Calls Try.prog 80 #[.pointer p] w fun e w' => ∃ (A' : Option Addr) (c' : Nat), e = .returned (.slice A' xs.length c') ∧ xs.length ≤ c' ∧ Kd.C KS w' A' xs.length xs ∧ Below w.heap.size w w' :=
  (jallF_gen hxl E).mono fun e w' ⟨A', c', he, h1, h2, h3⟩ => ⟨A', c', he, h1, Kd.F_now h2, h3⟩
theorem jallF_any {w : World} {gj : Nat} {d : Value} {s : Int} {A : Option Addr} {c : Nat} {xs : List (List Int)} (hj : JCells w gj d (.slice A xs.length c) s) (hr : Kd.C KS w A xs.length xs) (hc : xs.length ≤ c) (hx : ∀ x ∈ xs, x.length ≤ 1000000) (hxl : xs.length ≤ 1000000) :
    Calls Try.prog 80 #[.pointer (some ⟨gj, 0, none⟩)] w fun e w' => ∃ (A' : Option Addr) (c' : Nat), e = .returned (.slice A' xs.length c') ∧ xs.length ≤ c' ∧ Kd.F KS w' (fun k => w.heap.size ≤ k ∨ T5 w' k) A' xs.length xs ∧ Below w.heap.size w w' :=
  jallF_gen hxl fun l b J W hJ hY hb h0 hB => each1_any w.heap.size l b gj d s A c xs J W hJ hY hb ((hB.block gj (blk_lt hj)).trans hj) (blk_lt hj) (fun W' hW' => Kd.C_below hr (hB.trans hW')) hc hx h0 hB.size
theorem jall_any {w : World} {gj : Nat} {d : Value} {s : Int} {A : Option Addr} {c : Nat} {xs : List (List Int)} (hj : JCells w gj d (.slice A xs.length c) s) (hr : Kd.C KS w A xs.length xs) (hc : xs.length ≤ c) (hx : ∀ x ∈ xs, x.length ≤ 1000000) (hxl : xs.length ≤ 1000000) :
    Calls Try.prog 80 #[.pointer (some ⟨gj, 0, none⟩)] w fun e w' => ∃ (A' : Option Addr) (c' : Nat), e = .returned (.slice A' xs.length c') ∧ xs.length ≤ c' ∧ Kd.C KS w' A' xs.length xs ∧ Below w.heap.size w w' :=
  jall_gen hxl fun l b J W hJ hY hb h0 hB => each1_any w.heap.size l b gj d s A c xs J W hJ hY hb ((hB.block gj (blk_lt hj)).trans hj) (blk_lt hj) (fun W' hW' => Kd.C_below hr (hB.trans hW')) hc hx h0 hB.size
set_option maxRecDepth 100000 in
theorem each1_nil (n0 l b : Nat) (J : List Value → World → Prop) (W : World) (hb : W.heap[b]? = some (.cells #[.pointer none] 74 (0, 0))) (h0 : J [] W) :
    CallsIn Fence.wide 3 Try.prog 103 #[.func (.yield l) #[] #[], .pointer (some ⟨b, 0, none⟩)] W fun e W' => (∃ v, e = .returned v) ∧ ∃ vs : List Value, J vs W' ∧ vs.length = ([] : List (List Int)).length ∧ (∀ (i : Nat) (v : Value) (x : List Int), vs[i]? = some v → ([] : List (List Int))[i]? = some x → Held W' v x) ∧ Keep W W' ∧ Below n0 W W' := by
  have H0 := Aside0.mk h0
  have cb := (blk_cell hb 0).trans rfl
  clear h0 hb
  refine callsIn_of_wp Try.func103 rfl trivial ?_ rfl
  simp only [Try.ntmps103, List.size_toArray, List.length_cons, List.length_nil, Nat.reduceAdd, Nat.reduceSub, Array.replicate_succ, Array.replicate_zero, List.push_toArray, List.append_toArray, List.nil_append, List.cons_append]
  gi_wp2_with (refine ⟨trivial, ?_⟩; gi_at_call 78; refine (callsIn_wide.2 jlen_nil).mono ?_; rintro e w1 ⟨rfl, rfl⟩)
  gi_loopw [6] (fun i wr => i = .int .i64 0 ∧ W = wr) (fun i _ => 0)
  case atStart => exact ⟨rfl, rfl⟩
  case round =>
    obtain ⟨rfl, rfl⟩ := hrel
    gi_wp2
    go_end0
    exact ⟨⟨_, rfl⟩, [], H0.out, rfl, fun i v x h => by simp at h, Keep.refl _, Below.refl _ _⟩
theorem jall_nil {w : World} : Calls Try.prog 80 #[.pointer none] w fun e w' => ∃ (A' : Option Addr) (c' : Nat), e = .returned (.slice A' 0 c') ∧ Below w.heap.size w w' :=
  (jall_gen (xs := []) (by simp) fun l b J W hJ hY hb h0 hB => each1_nil w.heap.size l b J W hb h0).mono fun e w' ⟨A', c', he, _, _, hb⟩ => ⟨A', c', he, hb⟩
end Go.Proofs.Ytbcienbnhchdeaa.Hand

/- A scope in which the run jumps back to one label: what holds at each jump bears a number, which every pass lowers. -/
namespace Go.Proofs.Ytbcienbnhchdeaa.Hand
open Go Go.RowKit Go.Proofs.YtbcienbnhchdeaaW.PrintWords

theorem wp_scope_ghost {P : Program} {a : Act} {w : World} {Q : Exit → Act → World → Prop} {c rest : Code} (l : Nat) (J : Nat → Act → World → Prop) (hf : findLabel c l = some rest)
    (pass : ∀ n a w, J n a w → rest.wp P (Exit.jump l (fun a' w' => ∃ m, m < n ∧ J m a' w') Q) a w)
    (first : (∀ n a w, J n a w → rest.wp P (Exit.jump l (fun a' w' => ∃ m, J m a' w') Q) a w) → c.wp P (Exit.jump l (fun a' w' => ∃ m, J m a' w') Q) a w) : (Code.scope c).wp P Q a w := by
  intro b k cs
  have hg : gotoIn l (.inScope c :: k) = some (.code rest :: .inScope c :: k) := by simp [gotoIn, hf]
  have key : ∀ n a w, J n a w → ∃ e a' w', Q e a' w' ∧ Arrives P (lone (b.at a (.code rest :: .inScope c :: k)) cs w) b k cs e a' w' := by
    intro n
    induction n using Nat.strongRecOn with
    | _ n ih =>
      intro a w hJ
      obtain ⟨e, a₁, w₁, hq, harr⟩ := pass n a w hJ b (.inScope c :: k) cs
      cases e with
      | normal => exact ⟨.normal, a₁, w₁, hq, Steps.trans harr (.one step_inScope)⟩
      | exit id => exact ⟨.exit id, a₁, w₁, hq, fun k' hk => harr k' (by simp [exitTo, hk])⟩
      | goto l' =>
        obtain ⟨rfl, m, hlt, hJ'⟩ := hq
        obtain ⟨e₂, a₂, w₂, hq₂, harr₂⟩ := ih m hlt a₁ w₁ hJ'
        exact ⟨e₂, a₂, w₂, hq₂, .of_steps (harr _ hg) harr₂⟩
      | ret => exact ⟨_, a₁, w₁, hq, harr⟩
      | panic ch => exact ⟨_, a₁, w₁, hq, harr⟩
      | outgrown => exact ⟨_, a₁, w₁, hq, harr⟩
  have pass' : ∀ n a w, J n a w → rest.wp P (Exit.jump l (fun a' w' => ∃ m, J m a' w') Q) a w := by
    intro n a w hJ b' k' cs'
    obtain ⟨e, a₁, w₁, hq, harr⟩ := pass n a w hJ b' k' cs'
    refine ⟨e, a₁, w₁, ?_, harr⟩
    cases e with
    | goto l' => exact ⟨hq.1, hq.2.choose, hq.2.choose_spec.2⟩
    | normal => exact hq
    | exit id => exact hq
    | ret => exact hq
    | panic ch => exact hq
    | outgrown => exact hq
  obtain ⟨e, a₁, w₁, hq, harr⟩ := first pass' b (.inScope c :: k) cs
  cases e with
  | normal => exact ⟨.normal, a₁, w₁, hq, .head step_scope (Steps.trans harr (.one step_inScope))⟩
  | exit id => exact ⟨.exit id, a₁, w₁, hq, fun k' hk => .head step_scope (harr k' (by simp [exitTo, hk]))⟩
  | goto l' =>
    obtain ⟨rfl, m, hJ'⟩ := hq
    obtain ⟨e₂, a₂, w₂, hq₂, harr₂⟩ := key m a₁ w₁ hJ'
    exact ⟨e₂, a₂, w₂, hq₂, .of_steps (.head step_scope (harr _ hg)) harr₂⟩
  | ret => exact ⟨_, a₁, w₁, hq, .of_steps (.one step_scope) harr⟩
  | panic ch => exact ⟨_, a₁, w₁, hq, .of_steps (.one step_scope) harr⟩
  | outgrown => exact ⟨_, a₁, w₁, hq, .of_steps (.one step_scope) harr⟩

theorem wp_scope_ghost_s {P : Program} {a : Act} {w : World} {Q : Exit → Act → World → Prop} {c X : Code} (l : Nat) (J : Nat → Act → World → Prop) (hf : findLabel c l = some (Code.skip.seq X))
    (pass : ∀ n a w, J n a w → X.wp P (Exit.jump l (fun a' w' => ∃ m, m < n ∧ J m a' w') Q) a w)
    (first : (∀ n a w, J n a w → X.wp P (Exit.jump l (fun a' w' => ∃ m, J m a' w') Q) a w) → c.wp P (Exit.jump l (fun a' w' => ∃ m, J m a' w') Q) a w) : (Code.scope c).wp P Q a w := by
  refine wp_scope_ghost l J hf (fun n a w hJ => wp_seq (wp_skip (pass n a w hJ))) (fun _ => first fun n a w hJ => wp_mono (pass n a w hJ) ?_)
  intro e a' w' hq
  cases e with
  | goto l' => exact ⟨hq.1, hq.2.choose, hq.2.choose_spec.2⟩
  | normal => exact hq
  | exit id => exact hq
  | ret => exact hq
  | panic ch => exact hq
  | outgrown => exact hq

/-- Rows of bytes that were made, in a world. -/
structure Rows2 (w wr : World) (v : Value) (l : List (List Int)) : Prop where
  row : Kd.S (Kd.slice 5 (Kd.int .u8)) 22 wr w.heap.size (fun _ => True) v l
  below : Below w.heap.size w wr
end Go.Proofs.Ytbcienbnhchdeaa.Hand

-- Printed by a program of this session (wip/patch_print.py over the kit's print); Lean checks it.
namespace Go.Proofs.Ytbcienbnhchdeaa.Print
open Go.RowKit Go.Proofs.YtbcienbnhchdeaaW.PrintWords Go.Proofs.YtbcienbnhchdeaaW.PrintLast Go.Proofs.YtbcienbnhchdeaaW.PrintMore
attribute [local go_sem] max2_int min2_int max_two min_two max_three min_three max_four min_four   -- for this text's walks alone
set_option linter.unusedVariables false
set_option linter.unusedSimpArgs false



def errW : Option Int → Value
  | none => .nilIface
  | some c => .iface 0 (.int .i64 c)
theorem errW_none : errW none = .nilIface := rfl
theorem errW_some (c : Int) : errW (some c) = .iface 0 (.int .i64 c) := rfl

theorem info5 : (Try.prog.info? 5).map (fun i => (i.zero, i.size, i.bytes)) = some (some (.int .u8 0), 1, 1) := by kernel_rfl
theorem info22 : (Try.prog.info? 22).map (fun i => (i.zero, i.size, i.bytes)) = some (some (.slice none 0 0), 1, 24) := by kernel_rfl
-- the values' own types
def rd_L1 (xs : List (List Int)) (i : Int) : (List Int) := xs.getD i.toNat ([] : List Int)
theorem at_L1 {w : World} {A : Option Addr} {n : Nat} {xs : List (List Int)} (h : Kd.C (Kd.slice 5 (Kd.int .u8)) w A n xs) (i : Int) (h0 : 0 ≤ i) (h1 : i < n) : ∃ ad A0 c0, A = some ad ∧ w.cell? (ad.add i.toNat) = some (.slice A0 (rd_L1 xs i).length c0) ∧ (rd_L1 xs i).length ≤ c0 ∧ (Kd.int .u8).C w A0 (rd_L1 xs i).length (rd_L1 xs i) := by
  obtain ⟨ad, c, e, _, hK, hc0⟩ := Kd.C_get h ([] : List Int) i h0 h1
  have hc : ∀ j u, c[j]? = some u → w.cell? (ad.add (i.toNat * 1 + j)) = some u := hc0
  obtain ⟨A0, c0, rfl, l0, g0⟩ := hK
  exact ⟨ad, A0, c0, e, by have hq := hc 0 _ rfl; rwa [Nat.mul_one, Nat.add_zero] at hq, l0, g0⟩

def rd_L2 (xs : List (List (List Int))) (i : Int) : (List (List Int)) := xs.getD i.toNat ([] : List (List Int))
theorem at_L2 {w : World} {A : Option Addr} {n : Nat} {xs : List (List (List Int))} (h : Kd.C (Kd.slice 22 (Kd.slice 5 (Kd.int .u8))) w A n xs) (i : Int) (h0 : 0 ≤ i) (h1 : i < n) : ∃ ad A0 c0, A = some ad ∧ w.cell? (ad.add i.toNat) = some (.slice A0 (rd_L2 xs i).length c0) ∧ (rd_L2 xs i).length ≤ c0 ∧ (Kd.slice 5 (Kd.int .u8)).C w A0 (rd_L2 xs i).length (rd_L2 xs i) := by
  obtain ⟨ad, c, e, _, hK, hc0⟩ := Kd.C_get h ([] : List (List Int)) i h0 h1
  have hc : ∀ j u, c[j]? = some u → w.cell? (ad.add (i.toNat * 1 + j)) = some u := hc0
  obtain ⟨A0, c0, rfl, l0, g0⟩ := hK
  exact ⟨ad, A0, c0, e, by have hq := hc 0 _ rfl; rwa [Nat.mul_one, Nat.add_zero] at hq, l0, g0⟩

end Go.Proofs.Ytbcienbnhchdeaa.Print

-- Printed by a program of this session (wip/patch_print.py over the kit's print); Lean checks it.
namespace Go.Proofs.Ytbcienbnhchdeaa.Print
open Go.RowKit Go.Proofs.YtbcienbnhchdeaaW.PrintWords Go.Proofs.YtbcienbnhchdeaaW.PrintLast Go.Proofs.YtbcienbnhchdeaaW.PrintMore
attribute [local go_sem] max2_int min2_int max_two min_two max_three min_three max_four min_four   -- for this text's walks alone
set_option linter.unusedVariables false
set_option linter.unusedSimpArgs false

/-! ### pacesetterref01_more: function 94 -/
mutual
def pacesetterref01_more.l0 : Nat → Int → List Int → Int → Option (Int)
  | 0, _, _, _ => none
  | k + 1, x0, x1, x5 => if x5 < (x1.length : Int) then (if 0 ≤ x5 then (pacesetterref01_more.l1 k (Go.bits .xor .u32 x0 ((rd x1 x5) % 4294967296)) x1 x5 0) else (none)) else (some x0)
def pacesetterref01_more.l1 : Nat → Int → List Int → Int → Int → Option (Int)
  | 0, _, _, _, _ => none
  | k + 1, x0, x1, x5, x6 => if x6 < 8 then (if (Int.tmod x0 2) = 1 then (pacesetterref01_more.l1 k (Go.bits .xor .u32 ((Int.tdiv x0 2) % 4294967296) 3988292384) x1 x5 (wrap64 (x6 + 1))) else (pacesetterref01_more.l1 k ((Int.tdiv x0 2) % 4294967296) x1 x5 (wrap64 (x6 + 1)))) else (pacesetterref01_more.l0 k x0 x1 (wrap64 (x5 + 1)))
end
def pacesetterref01_more.f (k : Nat) (a0 : Int) (l1 : List Int) : Option (Int) := pacesetterref01_more.l0 k a0 l1 0
theorem pacesetterref01_more.mono_l : ∀ k, (∀ y0 y1 y2, LeO (pacesetterref01_more.l0 k y0 y1 y2) (pacesetterref01_more.l0 (k + 1) y0 y1 y2)) ∧ (∀ y0 y1 y2 y3, LeO (pacesetterref01_more.l1 k y0 y1 y2 y3) (pacesetterref01_more.l1 (k + 1) y0 y1 y2 y3))
  | 0 => ⟨fun _ _ _ r h => by simp [pacesetterref01_more.l0] at h, fun _ _ _ _ r h => by simp [pacesetterref01_more.l1] at h⟩
  | k + 1 => by
    obtain ⟨ih0, ih1⟩ := pacesetterref01_more.mono_l k
    refine ⟨?_, ?_⟩
    · intro y0 y1 y2
      unfold pacesetterref01_more.l0
      repeat' first
      | (with_reducible exact ih0 _ _ _)
      | (with_reducible exact ih1 _ _ _ _)
      | (with_reducible exact LeO.refl _)
      | (with_reducible exact LeO.none _)
      | (with_reducible refine LeO.ite ?_ ?_)
      | (with_reducible refine LeO.bind ?_ (fun _ => ?_))
      | exact ih0 _ _ _
      | exact ih1 _ _ _ _
      | exact LeO.none _
      | refine LeO.ite ?_ ?_
      | refine LeO.bind ?_ (fun _ => ?_)
    · intro y0 y1 y2 y3
      unfold pacesetterref01_more.l1
      repeat' first
      | (with_reducible exact ih0 _ _ _)
      | (with_reducible exact ih1 _ _ _ _)
      | (with_reducible exact LeO.refl _)
      | (with_reducible exact LeO.none _)
      | (with_reducible refine LeO.ite ?_ ?_)
      | (with_reducible refine LeO.bind ?_ (fun _ => ?_))
      | exact ih0 _ _ _
      | exact ih1 _ _ _ _
      | exact LeO.none _
      | refine LeO.ite ?_ ?_
      | refine LeO.bind ?_ (fun _ => ?_)
theorem pacesetterref01_more.mono : ∀ a0 a1 k, LeO (pacesetterref01_more.f k a0 a1) (pacesetterref01_more.f (k + 1) a0 a1) := by
  intro a0 a1 k
  obtain ⟨ih0, ih1⟩ := pacesetterref01_more.mono_l k
  unfold pacesetterref01_more.f
  repeat' first
      | (with_reducible exact ih0 _ _ _)
      | (with_reducible exact ih1 _ _ _ _)
      | (with_reducible exact LeO.refl _)
      | (with_reducible exact LeO.none _)
      | (with_reducible refine LeO.ite ?_ ?_)
      | (with_reducible refine LeO.bind ?_ (fun _ => ?_))
      | exact ih0 _ _ _
      | exact ih1 _ _ _ _
      | exact LeO.none _
      | refine LeO.ite ?_ ?_
      | refine LeO.bind ?_ (fun _ => ?_)
set_option maxHeartbeats 8000000 in
set_option maxRecDepth 100000 in
theorem pacesetterref01_more.calls (k : Nat) (a0 : Int) (A1 : Option Addr) (c1 : Nat) (l1 : List Int) (r : Int) (w : World) (hr1 : Kd.C (Kd.int .u8) w A1 l1.length l1) (hc1 : l1.length ≤ c1) (h : pacesetterref01_more.f k a0 l1 = some r) :
    Calls Try.prog 94 #[.int .u32 a0, .slice A1 l1.length c1] w fun e w' => e = .returned (.int .u32 r) ∧ Drawn0 w w' := by
  have HR1 := Aside0.mk hr1
  have HC1 := Aside0.mk hc1
  clear hr1 hc1
  have H : (pacesetterref01_more.l0 k a0 l1 0) = some r := h
  clear h
  have H' := Aside0.mk H
  clear H
  go_enter Try.func94, Try.ntmps94
  go_wp2
  go_loopg [0, 5] k (fun kq v0 v5 w' => ∃ (x0_1 : Int) (x5_1 : Int), v0 = .int .u32 x0_1 ∧ v5 = .int .i64 x5_1 ∧ Aside0 (pacesetterref01_more.l0 kq x0_1 l1 x5_1 = some r) ∧ Aside0 (kq ≤ k) ∧ Drawn0 w w')
  case atStart => exact ⟨(a0), (0), (by first | rfl | (simp; done) | (simp [*]; done)), (by first | rfl | (simp; done) | (simp [*]; done)), H', ⟨Nat.le_refl _⟩, by repeat (first | exact Drawn0.refl _ | apply Drawn0.step)⟩
  case round =>
    clear H'
    try clear c1
    try clear p2
    obtain ⟨x0_1, x5_1, rfl, rfl, HA, HK1, ⟨m1, rfl⟩⟩ := hrel
    cases gk with
    | zero => exact absurd HA.out (by simp [pacesetterref01_more.l0])
    | succ k1 =>
      have H := HA.out
      clear HA
      simp only [pacesetterref01_more.l0] at H
      by_cases c3 : x5_1 < (l1.length : Int)
      · rw [if_pos c3] at H
        have c3b0 : decide (x5_1 < (l1.length : Int)) = true := decide_eq_true c3
        clear c3
        by_cases c4 : 0 ≤ x5_1
        · rw [if_pos c4] at H
          have c4b0 : decide (0 ≤ x5_1) = true := decide_eq_true c4
          clear c4
          have H' := Aside0.mk H
          clear H
          have p158 : 0 ≤ (x5_1 : Int) := of_decide_eq_true (by first | (with_reducible assumption) | assumption)
          have q158 : x5_1 < (l1.length : Int) := of_decide_eq_true (by first | (with_reducible assumption) | assumption)
          obtain ⟨ad158, e158, hx158_0⟩ := Kd.at_int HR1.out x5_1 p158 q158
          cases e158
          replace p158 := eq_true p158
          replace q158 := eq_true q158
          go_wp2
          go_loopg [0, 6] k1 (fun kq v0 v6 w' => ∃ (x0_2 : Int) (x6_2 : Int), v0 = .int .u32 x0_2 ∧ v6 = .int .i64 x6_2 ∧ Aside0 (pacesetterref01_more.l1 kq x0_2 l1 x5_1 x6_2 = some r) ∧ Aside0 (kq ≤ k1) ∧ Drawn0 w w')
          case atStart => exact ⟨(Go.bits .xor .u32 x0_1 ((rd l1 x5_1) % 4294967296)), (0), (by first | rfl | (simp; done) | (simp [*]; done)), (by first | rfl | (simp; done) | (simp [*]; done)), H', ⟨Nat.le_refl _⟩, by repeat (first | exact Drawn0.refl _ | apply Drawn0.step)⟩
          case round =>
            clear H'
            try clear c1
            try clear p1
            try clear q1
            try clear hx1
            try clear p2
            try clear c3
            try clear c3b0
            try clear c4
            try clear c4b0
            try clear hx158_0
            try clear p158
            try clear p2
            try clear q158
            obtain ⟨x0_2, x6_2, rfl, rfl, HA, HK2, ⟨m2, rfl⟩⟩ := hrel
            cases gk with
            | zero => exact absurd HA.out (by simp [pacesetterref01_more.l1])
            | succ k2 =>
              have H := HA.out
              clear HA
              simp only [pacesetterref01_more.l1] at H
              by_cases c5 : x6_2 < 8
              · rw [if_pos c5] at H
                have c5b0 : decide (x6_2 < 8) = true := decide_eq_true c5
                clear c5
                by_cases c6 : (Int.tmod x0_2 2) = 1
                · rw [if_pos c6] at H
                  have c6b0 : ((Int.tmod x0_2 2) == 1) = true := beq_iff_eq.mpr c6
                  have c6b1 : ((Int.tmod x0_2 2) != 1) = false := bne_eq_false_iff_eq.mpr c6
                  clear c6
                  have H' := Aside0.mk H
                  clear H
                  go_wp2
                  go_roundg k2
                  case measure => have := HK1.out; have := HK2.out; omega
                  case rel => exact ⟨(Go.bits .xor .u32 ((Int.tdiv x0_2 2) % 4294967296) 3988292384), (wrap64 (x6_2 + 1)), (by first | rfl | (simp; done) | (simp [*]; done)), (by first | rfl | (simp; done) | (simp [*]; done)), H', ⟨by have := HK1.out; have := HK2.out; omega⟩, by repeat (first | exact Drawn0.refl _ | apply Drawn0.step)⟩
                · rw [if_neg c6] at H
                  have c6b0 : ((Int.tmod x0_2 2) == 1) = false := beq_eq_false_iff_ne.mpr c6
                  have c6b1 : ((Int.tmod x0_2 2) != 1) = true := bne_iff_ne.mpr c6
                  have H' := Aside0.mk H
                  clear H
                  go_wp2
                  go_roundg k2
                  case measure => have := HK1.out; have := HK2.out; omega
                  case rel => exact ⟨((Int.tdiv x0_2 2) % 4294967296), (wrap64 (x6_2 + 1)), (by first | rfl | (simp; done) | (simp [*]; done)), (by first | rfl | (simp; done) | (simp [*]; done)), H', ⟨by have := HK1.out; have := HK2.out; omega⟩, by repeat (first | exact Drawn0.refl _ | apply Drawn0.step)⟩
              · rw [if_neg c5] at H
                have c5b0 : decide (x6_2 < 8) = false := decide_eq_false c5
                clear c5
                have H' := Aside0.mk H
                clear H
                go_wp2
                go_roundg k2
                case measure => have := HK1.out; have := HK2.out; omega
                case rel => exact ⟨(x0_2), (wrap64 (x5_1 + 1)), (by first | rfl | (simp; done) | (simp [*]; done)), (by first | rfl | (simp; done) | (simp [*]; done)), H', ⟨by have := HK1.out; have := HK2.out; omega⟩, by repeat (first | exact Drawn0.refl _ | apply Drawn0.step)⟩
        · rw [if_neg c4] at H
          exact absurd H (by simp)
      · rw [if_neg c3] at H
        have c3b0 : decide (x5_1 < (l1.length : Int)) = false := decide_eq_false c3
        clear c3
        obtain rfl := Option.some.inj H
        go_wp2
        go_ret
        exact ⟨by first | rfl | (simp; done) | (simp [*]; done), by repeat (first | exact Drawn0.refl _ | apply Drawn0.step)⟩

end Go.Proofs.Ytbcienbnhchdeaa.Print

-- Printed by a program of this session (wip/patch_print.py over the kit's print); Lean checks it.
namespace Go.Proofs.Ytbcienbnhchdeaa.Print
open Go.RowKit Go.Proofs.YtbcienbnhchdeaaW.PrintWords Go.Proofs.YtbcienbnhchdeaaW.PrintLast Go.Proofs.YtbcienbnhchdeaaW.PrintMore
attribute [local go_sem] max2_int min2_int max_two min_two max_three min_three max_four min_four   -- for this text's walks alone
set_option linter.unusedVariables false
set_option linter.unusedSimpArgs false

/-! ### pacesetterref01_Sum: function 31 -/
def pacesetterref01_Sum.f (k : Nat) (l0 : List Int) : Option (Int) := (pacesetterref01_more.f k 4294967295 l0).bind fun t159 => (some ((4294967295 - t159) % 4294967296))
theorem pacesetterref01_Sum.mono : ∀ a0 k, LeO (pacesetterref01_Sum.f k a0) (pacesetterref01_Sum.f (k + 1) a0) := by
  intro a0 k
  unfold pacesetterref01_Sum.f
  repeat' first
      | (with_reducible exact pacesetterref01_more.mono _ _ _)
      | (with_reducible exact LeO.refl _)
      | (with_reducible exact LeO.none _)
      | (with_reducible refine LeO.ite ?_ ?_)
      | (with_reducible refine LeO.bind ?_ (fun _ => ?_))
      | exact pacesetterref01_more.mono _ _ _
      | exact LeO.none _
      | refine LeO.ite ?_ ?_
      | refine LeO.bind ?_ (fun _ => ?_)
set_option maxHeartbeats 8000000 in
set_option maxRecDepth 100000 in
theorem pacesetterref01_Sum.calls (k : Nat) (A0 : Option Addr) (c0 : Nat) (l0 : List Int) (r : Int) (w : World) (hr0 : Kd.C (Kd.int .u8) w A0 l0.length l0) (hc0 : l0.length ≤ c0) (h : pacesetterref01_Sum.f k l0 = some r) :
    Calls Try.prog 31 #[.slice A0 l0.length c0] w fun e w' => e = .returned (.int .u32 r) ∧ Drawn0 w w' := by
  have HR0 := Aside0.mk hr0
  have HC0 := Aside0.mk hc0
  clear hr0 hc0
  have H : ((pacesetterref01_more.f k 4294967295 l0).bind fun t159 => (some ((4294967295 - t159) % 4294967296))) = some r := h
  clear h
  replace H := Option.bind_eq_some_iff.mp H
  obtain ⟨t159, A20, H⟩ := H
  replace H : (some ((4294967295 - t159) % 4294967296)) = some r := H
  have A2 := Aside0.mk A20
  clear A20
  obtain rfl := Option.some.inj H
  go_enter Try.func31, Try.ntmps31
  go_wp2_with (first | ((with_reducible refine gate_callee (f := 94) rfl ?_); refine goesL_ (some 4) rfl rfl Try.func94 (by kernel_rfl) rfl #[.int .u32 4294967295, .slice A0 l0.length c0] rfl (by (try simp only [List.map_toArray, List.map_cons, List.map_nil]); first | done | rfl | (simp only [List.length_drop, List.length_take]; rfl)) ?_; (with_reducible refine (pacesetterref01_more.calls k 4294967295 _ _ l0 t159 _ ?side1 ?side2 A2.out).mono ?_); (case side1 => repeat (first | exact HR0.out | (with_reducible refine Kd.C_alloc ?_ _) | (with_reducible refine Kd.C_drewN ?_ _) | (with_reducible refine Kd.C_drew ?_))); (case side2 => exact HC0.out); rintro e w' ⟨rfl, ⟨nd, rfl⟩⟩; refine ⟨_, rfl, ?_⟩))
  go_ret
  exact ⟨by first | rfl | (simp; done) | (simp [*]; done), by repeat (first | exact Drawn0.refl _ | apply Drawn0.step)⟩

/-! ### pacesetterref01_Bytes: function 34 -/
def pacesetterref01_Bytes.f (a0 : Int) : Option (List Int) := some (([((Int.tdiv a0 16777216) % 4294967296) % 256, ((Int.tdiv a0 65536) % 4294967296) % 256, ((Int.tdiv a0 256) % 4294967296) % 256, (Int.tmod a0 256) % 256] : List Int))
set_option maxHeartbeats 8000000 in
set_option maxRecDepth 100000 in
theorem pacesetterref01_Bytes.calls (a0 : Int) (r : List Int) (w : World) (h : pacesetterref01_Bytes.f a0 = some r) :
    Calls Try.prog 34 #[.int .u32 a0] w fun e w' => ∃ v0_ : Value, e = .returned (v0_) ∧ Kd.R (Kd.int .u8) 5 w' w.heap.size (fun _ => True) v0_ r ∧ Below w.heap.size w w' := by
  have HB := Aside0.mk (Below.refl w.heap.size w)
  have H : (some (([((Int.tdiv a0 16777216) % 4294967296) % 256, ((Int.tdiv a0 65536) % 4294967296) % 256, ((Int.tdiv a0 256) % 4294967296) % 256, (Int.tmod a0 256) % 256] : List Int))) = some r := h
  clear h
  obtain ⟨y160, hy160⟩ : ∃ y_ : List Int, y_ = (([((Int.tdiv a0 16777216) % 4294967296) % 256, ((Int.tdiv a0 65536) % 4294967296) % 256, ((Int.tdiv a0 256) % 4294967296) % 256, (Int.tmod a0 256) % 256] : List Int)) := ⟨_, rfl⟩
  replace H : (some y160) = some r := by first | (rw [hy160]; with_reducible exact H) | (have H2_ := (Option.bind_some _ _).symm.trans H; rw [hy160]; with_reducible exact H2_) | (have H2_ := (Option.bind_some _ _).symm.trans H; with_reducible exact H2_) | with_reducible exact H | (rw [hy160]; exact H) | exact H
  have Ny160 := Aside0.mk hy160
  clear hy160
  obtain rfl := Option.some.inj H
  go_enter Try.func34, Try.ntmps34
  go_wp2_with (first | ((with_reducible refine gate_dst (N := 17) rfl ?_); refine Kd.R_lit (Kd.int .u8) _ 5 ?hg (N := 17) ?hd (xs := ([((Int.tdiv a0 16777216) % 4294967296) % 256, ((Int.tdiv a0 65536) % 4294967296) % 256, ((Int.tdiv a0 256) % 4294967296) % 256, (Int.tmod a0 256) % 256] : List Int)) (inner := [.int .u8 (((Int.tdiv a0 16777216) % 4294967296) % 256), .int .u8 (((Int.tdiv a0 65536) % 4294967296) % 256), .int .u8 (((Int.tdiv a0 256) % 4294967296) % 256), .int .u8 ((Int.tmod a0 256) % 256)]) (ok := fun _ => True) (okp := fun _ => True) ?hr ?hp (fun _ hk => hk) trivial (Below.refl _ _) (Nat.le_refl _) (by simp) ?_; (case hd => rfl); (case hg => rfl); (case hr => first | (go_simp; done) | (go_simp; rfl)); (case hp => exact (Reps.one (show Kd.M (Kd.int .u8) _ _ _ (((Int.tdiv a0 16777216) % 4294967296) % 256) [.int .u8 (((Int.tdiv a0 16777216) % 4294967296) % 256)] from rfl) (Reps.one (show Kd.M (Kd.int .u8) _ _ _ (((Int.tdiv a0 65536) % 4294967296) % 256) [.int .u8 (((Int.tdiv a0 65536) % 4294967296) % 256)] from rfl) (Reps.one (show Kd.M (Kd.int .u8) _ _ _ (((Int.tdiv a0 256) % 4294967296) % 256) [.int .u8 (((Int.tdiv a0 256) % 4294967296) % 256)] from rfl) (Reps.one (show Kd.M (Kd.int .u8) _ _ _ ((Int.tmod a0 256) % 256) [.int .u8 ((Int.tmod a0 256) % 256)] from rfl) (Reps.none _ _)))))); intro v161 w2 ho3 hb hg_ hnew_; clear hg_ hnew_; (first | rw [← Ny160.out] at ho3 | (simp only [Int.reduceToNat] at ho3; rw [← Ny160.out] at ho3)); have n0_ := Aside0.mk (Kd.R_lower ho3 (below_size (by repeat (first | (with_reducible first | exact HB.out | apply below_alloc | apply pw_below_drewN | apply below_drew1) | exact HB.out)))); have n1_ := Aside0.mk (below_step (by repeat (first | (with_reducible first | exact HB.out | apply below_alloc | apply pw_below_drewN | apply below_drew1) | exact HB.out)) hb); clear HB; have HO162 := n0_; have HB := n1_; clear n0_ n1_; clear hb ho3))
  go_ret
  exact ⟨_, by first | rfl | (simp [errW_none, errW_some] <;> rfl) | (simp [*, errW_none, errW_some] <;> rfl), by (with_reducible repeat (first | apply Kd.R_alloc | apply Kd.R_drewN | apply Kd.R_drew)); exact HO162.out, by repeat (first | (with_reducible first | exact HB.out | apply below_alloc | apply pw_below_drewN | apply below_drew1) | exact HB.out)⟩

/-! ### pacesetterref01_Seal: function 48 -/
def pacesetterref01_Seal.f (k : Nat) (l0 : List Int) : Option (List Int) := if ([] : List Int).length + l0.length < 140737488355328 then ((some (([] : List Int) ++ l0 : List Int)).bind fun y163 => ((pacesetterref01_Sum.f k l0).bind fun t166 => ((pacesetterref01_Bytes.f t166).bind fun t167 => (if y163.length + t167.length < 140737488355328 then (some (y163 ++ t167)) else (none))))) else (none)
theorem pacesetterref01_Seal.mono : ∀ a0 k, LeO (pacesetterref01_Seal.f k a0) (pacesetterref01_Seal.f (k + 1) a0) := by
  intro a0 k
  unfold pacesetterref01_Seal.f
  repeat' first
      | (with_reducible exact pacesetterref01_Sum.mono _ _)
      | (with_reducible exact LeO.refl _)
      | (with_reducible exact LeO.none _)
      | (with_reducible refine LeO.ite ?_ ?_)
      | (with_reducible refine LeO.bind ?_ (fun _ => ?_))
      | exact pacesetterref01_Sum.mono _ _
      | exact LeO.none _
      | refine LeO.ite ?_ ?_
      | refine LeO.bind ?_ (fun _ => ?_)
set_option maxHeartbeats 8000000 in
set_option maxRecDepth 100000 in
theorem pacesetterref01_Seal.calls (k : Nat) (A0 : Option Addr) (c0 : Nat) (l0 : List Int) (r : List Int) (w : World) (hr0 : Kd.C (Kd.int .u8) w A0 l0.length l0) (hc0 : l0.length ≤ c0) (h : pacesetterref01_Seal.f k l0 = some r) :
    Calls Try.prog 48 #[.slice A0 l0.length c0] w fun e w' => ∃ v0_ : Value, e = .returned (v0_) ∧ Kd.R (Kd.int .u8) 5 w' w.heap.size (fun _ => True) v0_ r ∧ Below w.heap.size w w' := by
  have HR0 := Aside0.mk hr0
  have HC0 := Aside0.mk hc0
  clear hr0 hc0
  have HB := Aside0.mk (Below.refl w.heap.size w)
  have H : (if ([] : List Int).length + l0.length < 140737488355328 then ((some (([] : List Int) ++ l0 : List Int)).bind fun y163 => ((pacesetterref01_Sum.f k l0).bind fun t166 => ((pacesetterref01_Bytes.f t166).bind fun t167 => (if y163.length + t167.length < 140737488355328 then (some (y163 ++ t167)) else (none))))) else (none)) = some r := h
  clear h
  by_cases c2 : ([] : List Int).length + l0.length < 140737488355328
  · rw [if_pos c2] at H
    have LMc2 := Aside0.mk c2
    clear c2
    obtain ⟨y163, hy163⟩ : ∃ y_ : List Int, y_ = (([] : List Int) ++ l0) := ⟨_, rfl⟩
    replace H : ((pacesetterref01_Sum.f k l0).bind fun t166 => ((pacesetterref01_Bytes.f t166).bind fun t167 => (if y163.length + t167.length < 140737488355328 then (some (y163 ++ t167)) else (none)))) = some r := by first | (rw [hy163]; with_reducible exact H) | (have H2_ := (Option.bind_some _ _).symm.trans H; rw [hy163]; with_reducible exact H2_) | (have H2_ := (Option.bind_some _ _).symm.trans H; with_reducible exact H2_) | with_reducible exact H | (rw [hy163]; exact H) | exact H
    have Ny163 := Aside0.mk hy163
    clear hy163
    replace H := Option.bind_eq_some_iff.mp H
    obtain ⟨t166, A30, H⟩ := H
    replace H : ((pacesetterref01_Bytes.f t166).bind fun t167 => (if y163.length + t167.length < 140737488355328 then (some (y163 ++ t167)) else (none))) = some r := H
    have A3 := Aside0.mk A30
    clear A30
    replace H := Option.bind_eq_some_iff.mp H
    obtain ⟨t167, A40, H⟩ := H
    replace H : (if y163.length + t167.length < 140737488355328 then (some (y163 ++ t167)) else (none)) = some r := H
    have A4 := Aside0.mk A40
    clear A40
    by_cases c5 : y163.length + t167.length < 140737488355328
    · rw [if_pos c5] at H
      have LMc5 := Aside0.mk c5
      clear c5
      obtain ⟨y170, hy170⟩ : ∃ y_ : List Int, y_ = (y163 ++ t167) := ⟨_, rfl⟩
      replace H : (some y170) = some r := by first | (rw [hy170]; with_reducible exact H) | (have H2_ := (Option.bind_some _ _).symm.trans H; rw [hy170]; with_reducible exact H2_) | (have H2_ := (Option.bind_some _ _).symm.trans H; with_reducible exact H2_) | with_reducible exact H | (rw [hy170]; exact H) | exact H
      have Ny170 := Aside0.mk hy170
      clear hy170
      obtain rfl := Option.some.inj H
      go_enter Try.func48, Try.ntmps48
      go_wp2_with (first | ((with_reducible refine gate_builtin (b := .append) (xs := #[.tmp 4, .tmp 5]) rfl ?_); at_builtin; refine Kd.R_append_rows (Kd.int .u8) (w0 := w) w.heap.size rfl (.tmp 4) (.tmp 5) 22 5 (.int .u8 0) 1 rfl Try.underlying22 info5 rfl (by decide) (by omega) (.slice none 0 0) ([] : List Int) l0 _ _ _ (fun _ => True) (fun _ => False) rfl rfl ?aO ?aR (fun _ _ h => h) (fun _ h => h.elim) ?aF ?aB ?aS ?aL ?_; (case aR => repeat (first | exact HR0.out | (with_reducible refine Kd.C_alloc ?_ _) | (with_reducible refine Kd.C_drewN ?_ _) | (with_reducible refine Kd.C_drew ?_))); (case aB => exact (by repeat (first | (with_reducible first | exact HB.out | apply below_alloc | apply pw_below_drewN | apply below_drew1) | exact HB.out))); (case aF => exact (fun _ _ => trivial)); (case aO => exact ((Kd.R_nil _ _ _ _ (fun _ => True)))); (case aS => exact (below_size (by repeat (first | (with_reducible first | exact HB.out | apply below_alloc | apply pw_below_drewN | apply below_drew1) | exact HB.out)))); (case aL => have := LMc2.out; omega); intro v164 w6 ho hb hg hat; rw [← Ny163.out] at ho; have n0_ := Aside0.mk (hb); have n1_ := Aside0.mk (ho); clear HB; have HB := n0_; have HO165 := n1_; clear n0_ n1_; clear ho hb hg hat) | ((with_reducible refine gate_callee (f := 31) rfl ?_); refine goesL_ (some 9) rfl rfl Try.func31 (by kernel_rfl) rfl #[.slice A0 l0.length c0] rfl (by (try simp only [List.map_toArray, List.map_cons, List.map_nil]); first | done | rfl | (simp only [List.length_drop, List.length_take]; rfl)) ?_; (with_reducible refine (pacesetterref01_Sum.calls k _ _ l0 t166 _ ?side1 ?side2 A3.out).mono ?_); (case side1 => repeat (first | exact (Kd.C_below HR0.out HB.out) | (with_reducible refine Kd.C_alloc ?_ _) | (with_reducible refine Kd.C_drewN ?_ _) | (with_reducible refine Kd.C_drew ?_))); (case side2 => exact HC0.out); rintro e w' ⟨rfl, ⟨nd, rfl⟩⟩; refine ⟨_, rfl, ?_⟩) | ((with_reducible refine gate_callee (f := 34) rfl ?_); refine goesL_ (some 10) rfl rfl Try.func34 (by kernel_rfl) rfl #[.int .u32 t166] rfl (by (try simp only [List.map_toArray, List.map_cons, List.map_nil]); first | done | rfl | (simp only [List.length_drop, List.length_take]; rfl)) ?_; (with_reducible refine (pacesetterref01_Bytes.calls t166 t167 _ A4.out).mono ?_); rintro e w7 ⟨v168, rfl, ho0, hb⟩; refine ⟨_, rfl, ?_⟩; have n0_ := Aside0.mk (Kd.R_elder' (by (with_reducible repeat (first | apply Kd.R_alloc | apply Kd.R_drewN | apply Kd.R_drew)); exact HO165.out) (Kd.R_base ho0) hb); have n1_ := Aside0.mk (Kd.R_lower (Kd.R_new' ho0 (Kd.R_lt (by (with_reducible repeat (first | apply Kd.R_alloc | apply Kd.R_drewN | apply Kd.R_drew)); exact HO165.out))) (below_size (by repeat (first | (with_reducible first | exact HB.out | apply below_alloc | apply pw_below_drewN | apply below_drew1) | exact HB.out)))); have n2_ := Aside0.mk (below_step (by repeat (first | (with_reducible first | exact HB.out | apply below_alloc | apply pw_below_drewN | apply below_drew1) | exact HB.out)) hb); clear HO165; clear HB; have HO165 := n0_; have HO169 := n1_; have HB := n2_; clear n0_ n1_ n2_; (try clear hb); (try clear hb2); (try clear hk); (try clear hi); (try clear ho0); obtain ⟨Ao9, co9, eo9⟩ := Kd.R_slice HO169.out; subst eo9) | ((with_reducible refine gate_builtin (b := .append) (xs := #[.tmp 7, .tmp 10]) rfl ?_); at_builtin; refine Kd.R_append_rows (Kd.int .u8) (w0 := w) w.heap.size rfl (.tmp 7) (.tmp 10) 22 5 (.int .u8 0) 1 rfl Try.underlying22 info5 rfl (by decide) (by omega) v164 y163 t167 _ _ _ (fun k_ => some k_ ≠ (.slice Ao9 t167.length co9 : Value).ownBlock) (fun _ => False) rfl rfl ?aO ?aR (fun _ _ h => h) (fun _ h => h.elim) ?aF ?aB ?aS ?aL ?_; (case aR => repeat (first | exact (Kd.R_reads' HO169.out).2.2 | (with_reducible refine Kd.C_alloc ?_ _) | (with_reducible refine Kd.C_drewN ?_ _) | (with_reducible refine Kd.C_drew ?_))); (case aB => exact (by repeat (first | (with_reducible first | exact HB.out | apply below_alloc | apply pw_below_drewN | apply below_drew1) | exact HB.out))); (case aF => exact (fun k_ hk => Kd.fresh' (Kd.R_lt (by (with_reducible repeat (first | apply Kd.R_alloc | apply Kd.R_drewN | apply Kd.R_drew)); exact HO169.out)) k_ hk)); (case aO => exact (by (with_reducible repeat (first | apply Kd.R_alloc | apply Kd.R_drewN | apply Kd.R_drew)); exact Kd.R_mono HO165.out (fun _ hk => hk.2))); (case aS => exact (below_size (by repeat (first | (with_reducible first | exact HB.out | apply below_alloc | apply pw_below_drewN | apply below_drew1) | exact HB.out)))); (case aL => have := LMc5.out; omega); intro v171 w8 ho hb hg hat; rw [← Ny170.out] at ho; have n0_ := Aside0.mk (Kd.R_after (ok := (fun _ => True)) (by (with_reducible repeat (first | apply Kd.R_alloc | apply Kd.R_drewN | apply Kd.R_drew)); exact HO169.out) hg hat); have n1_ := Aside0.mk (hb); have n2_ := Aside0.mk (ho); clear HO169; clear HB; clear HO165; have HO169 := n0_; have HB := n1_; have HO172 := n2_; clear n0_ n1_ n2_; clear ho hb hg hat))
      go_ret
      exact ⟨_, by first | rfl | (simp [errW_none, errW_some] <;> rfl) | (simp [*, errW_none, errW_some] <;> rfl), by (with_reducible repeat (first | apply Kd.R_alloc | apply Kd.R_drewN | apply Kd.R_drew)); exact Kd.R_mono HO172.out (fun _ hk => trivial), by repeat (first | (with_reducible first | exact HB.out | apply below_alloc | apply pw_below_drewN | apply below_drew1) | exact HB.out)⟩
    · rw [if_neg c5] at H
      exact absurd H (by simp)
  · rw [if_neg c2] at H
    exact absurd H (by simp)

end Go.Proofs.Ytbcienbnhchdeaa.Print

-- Printed by a program of this session (wip/patch_print.py over the kit's print); Lean checks it.
namespace Go.Proofs.Ytbcienbnhchdeaa.Print
open Go.RowKit Go.Proofs.YtbcienbnhchdeaaW.PrintWords Go.Proofs.YtbcienbnhchdeaaW.PrintLast Go.Proofs.YtbcienbnhchdeaaW.PrintMore
attribute [local go_sem] max2_int min2_int max_two min_two max_three min_three max_four min_four   -- for this text's walks alone
set_option linter.unusedVariables false
set_option linter.unusedSimpArgs false

/-! ### pacesetterref04_of: function 98 -/
def pacesetterref04_of.f (k : Nat) (l0 : List Int) : Option (List Int) := (some (([(wrap64 ((l0.length : Int) / 256)) % 256, (l0.length : Int) % 256] : List Int) : List Int)).bind fun y173 => (if y173.length + l0.length < 140737488355328 then ((pacesetterref01_Seal.f k (y173 ++ l0)).bind fun t179 => (some t179)) else (none))
theorem pacesetterref04_of.mono : ∀ a0 k, LeO (pacesetterref04_of.f k a0) (pacesetterref04_of.f (k + 1) a0) := by
  intro a0 k
  unfold pacesetterref04_of.f
  repeat' first
      | (with_reducible exact pacesetterref01_Seal.mono _ _)
      | (with_reducible exact LeO.refl _)
      | (with_reducible exact LeO.none _)
      | (with_reducible refine LeO.ite ?_ ?_)
      | (with_reducible refine LeO.bind ?_ (fun _ => ?_))
      | exact pacesetterref01_Seal.mono _ _
      | exact LeO.none _
      | refine LeO.ite ?_ ?_
      | refine LeO.bind ?_ (fun _ => ?_)
set_option maxHeartbeats 8000000 in
set_option maxRecDepth 100000 in
theorem pacesetterref04_of.calls (k : Nat) (A0 : Option Addr) (c0 : Nat) (l0 : List Int) (r : List Int) (w : World) (hr0 : Kd.C (Kd.int .u8) w A0 l0.length l0) (hc0 : l0.length ≤ c0) (h : pacesetterref04_of.f k l0 = some r) :
    Calls Try.prog 98 #[.slice A0 l0.length c0] w fun e w' => ∃ v0_ : Value, e = .returned (v0_) ∧ Kd.R (Kd.int .u8) 5 w' w.heap.size (fun _ => True) v0_ r ∧ Below w.heap.size w w' := by
  have HR0 := Aside0.mk hr0
  have HC0 := Aside0.mk hc0
  clear hr0 hc0
  have HB := Aside0.mk (Below.refl w.heap.size w)
  have H : ((some (([(wrap64 ((l0.length : Int) / 256)) % 256, (l0.length : Int) % 256] : List Int) : List Int)).bind fun y173 => (if y173.length + l0.length < 140737488355328 then ((pacesetterref01_Seal.f k (y173 ++ l0)).bind fun t179 => (some t179)) else (none))) = some r := h
  clear h
  obtain ⟨y173, hy173⟩ : ∃ y_ : List Int, y_ = (([(wrap64 ((l0.length : Int) / 256)) % 256, (l0.length : Int) % 256] : List Int)) := ⟨_, rfl⟩
  replace H : (if y173.length + l0.length < 140737488355328 then ((pacesetterref01_Seal.f k (y173 ++ l0)).bind fun t179 => (some t179)) else (none)) = some r := by first | (rw [hy173]; with_reducible exact H) | (have H2_ := (Option.bind_some _ _).symm.trans H; rw [hy173]; with_reducible exact H2_) | (have H2_ := (Option.bind_some _ _).symm.trans H; with_reducible exact H2_) | with_reducible exact H | (rw [hy173]; exact H) | exact H
  have Ny173 := Aside0.mk hy173
  clear hy173
  by_cases c2 : y173.length + l0.length < 140737488355328
  · rw [if_pos c2] at H
    have LMc2 := Aside0.mk c2
    clear c2
    obtain ⟨y176, hy176⟩ : ∃ y_ : List Int, y_ = (y173 ++ l0) := ⟨_, rfl⟩
    replace H : ((pacesetterref01_Seal.f k y176).bind fun t179 => (some t179)) = some r := by first | (rw [hy176]; with_reducible exact H) | (have H2_ := (Option.bind_some _ _).symm.trans H; rw [hy176]; with_reducible exact H2_) | (have H2_ := (Option.bind_some _ _).symm.trans H; with_reducible exact H2_) | with_reducible exact H | (rw [hy176]; exact H) | exact H
    have Ny176 := Aside0.mk hy176
    clear hy176
    replace H := Option.bind_eq_some_iff.mp H
    obtain ⟨t179, A30, H⟩ := H
    replace H : (some t179) = some r := H
    have A3 := Aside0.mk A30
    clear A30
    obtain rfl := Option.some.inj H
    go_enter Try.func98, Try.ntmps98
    go_wp2_with (first | ((with_reducible refine gate_dst (N := 12) rfl ?_); refine Kd.R_lit (Kd.int .u8) _ 5 ?hg (N := 12) ?hd (xs := ([(wrap64 ((l0.length : Int) / 256)) % 256, (l0.length : Int) % 256] : List Int)) (inner := [.int .u8 ((wrap64 ((l0.length : Int) / 256)) % 256), .int .u8 ((l0.length : Int) % 256)]) (ok := fun _ => True) (okp := fun _ => True) ?hr ?hp (fun _ hk => hk) trivial (Below.refl _ _) (Nat.le_refl _) (by simp) ?_; (case hd => rfl); (case hg => rfl); (case hr => first | (go_simp; done) | (go_simp; rfl)); (case hp => exact (Reps.one (show Kd.M (Kd.int .u8) _ _ _ ((wrap64 ((l0.length : Int) / 256)) % 256) [.int .u8 ((wrap64 ((l0.length : Int) / 256)) % 256)] from rfl) (Reps.one (show Kd.M (Kd.int .u8) _ _ _ ((l0.length : Int) % 256) [.int .u8 ((l0.length : Int) % 256)] from rfl) (Reps.none _ _)))); intro v174 w4 ho5 hb hg_ hnew_; clear hg_ hnew_; (first | rw [← Ny173.out] at ho5 | (simp only [Int.reduceToNat] at ho5; rw [← Ny173.out] at ho5)); have n0_ := Aside0.mk (Kd.R_lower ho5 (below_size (by repeat (first | (with_reducible first | exact HB.out | apply below_alloc | apply pw_below_drewN | apply below_drew1) | exact HB.out)))); have n1_ := Aside0.mk (below_step (by repeat (first | (with_reducible first | exact HB.out | apply below_alloc | apply pw_below_drewN | apply below_drew1) | exact HB.out)) hb); clear HB; have HO175 := n0_; have HB := n1_; clear n0_ n1_; clear hb ho5) | ((with_reducible refine gate_builtin (b := .append) (xs := #[.tmp 13, .tmp 14]) rfl ?_); at_builtin; refine Kd.R_append_rows (Kd.int .u8) (w0 := w) w.heap.size rfl (.tmp 13) (.tmp 14) 22 5 (.int .u8 0) 1 rfl Try.underlying22 info5 rfl (by decide) (by omega) v174 y173 l0 _ _ _ (fun _ => True) (fun _ => False) rfl rfl ?aO ?aR (fun _ _ h => h) (fun _ h => h.elim) ?aF ?aB ?aS ?aL ?_; (case aR => repeat (first | exact (Kd.C_below HR0.out HB.out) | (with_reducible refine Kd.C_alloc ?_ _) | (with_reducible refine Kd.C_drewN ?_ _) | (with_reducible refine Kd.C_drew ?_))); (case aB => exact (by repeat (first | (with_reducible first | exact HB.out | apply below_alloc | apply pw_below_drewN | apply below_drew1) | exact HB.out))); (case aF => exact (fun _ _ => trivial)); (case aO => exact (by (with_reducible repeat (first | apply Kd.R_alloc | apply Kd.R_drewN | apply Kd.R_drew)); exact HO175.out)); (case aS => exact (below_size (by repeat (first | (with_reducible first | exact HB.out | apply below_alloc | apply pw_below_drewN | apply below_drew1) | exact HB.out)))); (case aL => have := LMc2.out; omega); intro v177 w6 ho hb hg hat; rw [← Ny176.out] at ho; have n0_ := Aside0.mk (hb); have n1_ := Aside0.mk (ho); clear HB; clear HO175; have HB := n0_; have HO178 := n1_; clear n0_ n1_; clear ho hb hg hat; obtain ⟨Ao7, co7, eo7⟩ := Kd.R_slice HO178.out; subst eo7) | ((with_reducible refine gate_callee (f := 48) rfl ?_); refine goesL_ (some 16) rfl rfl Try.func48 (by kernel_rfl) rfl #[.slice Ao7 y176.length co7] rfl (by (try simp only [List.map_toArray, List.map_cons, List.map_nil]); first | done | rfl | (simp only [List.length_drop, List.length_take]; rfl)) ?_; (with_reducible refine (pacesetterref01_Seal.calls k _ _ y176 t179 _ ?side1 ?side2 A3.out).mono ?_); (case side1 => repeat (first | exact (Kd.R_reads' HO178.out).2.2 | (with_reducible refine Kd.C_alloc ?_ _) | (with_reducible refine Kd.C_drewN ?_ _) | (with_reducible refine Kd.C_drew ?_))); (case side2 => exact (Kd.R_reads' HO178.out).2.1); rintro e w8 ⟨v180, rfl, ho0, hb⟩; refine ⟨_, rfl, ?_⟩; have n0_ := Aside0.mk (Kd.R_elder' (by (with_reducible repeat (first | apply Kd.R_alloc | apply Kd.R_drewN | apply Kd.R_drew)); exact HO178.out) (Kd.R_base ho0) hb); have n1_ := Aside0.mk (Kd.R_lower (Kd.R_new' ho0 (Kd.R_lt (by (with_reducible repeat (first | apply Kd.R_alloc | apply Kd.R_drewN | apply Kd.R_drew)); exact HO178.out))) (below_size (by repeat (first | (with_reducible first | exact HB.out | apply below_alloc | apply pw_below_drewN | apply below_drew1) | exact HB.out)))); have n2_ := Aside0.mk (below_step (by repeat (first | (with_reducible first | exact HB.out | apply below_alloc | apply pw_below_drewN | apply below_drew1) | exact HB.out)) hb); clear HO178; clear HB; have HO178 := n0_; have HO181 := n1_; have HB := n2_; clear n0_ n1_ n2_; (try clear hb); (try clear hb2); (try clear hk); (try clear hi); (try clear ho0)))
    go_ret
    exact ⟨_, by first | rfl | (simp [errW_none, errW_some] <;> rfl) | (simp [*, errW_none, errW_some] <;> rfl), by (with_reducible repeat (first | apply Kd.R_alloc | apply Kd.R_drewN | apply Kd.R_drew)); exact Kd.R_mono HO181.out (fun _ hk => trivial), by repeat (first | (with_reducible first | exact HB.out | apply below_alloc | apply pw_below_drewN | apply below_drew1) | exact HB.out)⟩
  · rw [if_neg c2] at H
    exact absurd H (by simp)

/-! ### pacesetterref04_Put: function 63 -/
def pacesetterref04_Put.f (k : Nat) (l0 : List Int) (l1 : List Int) : Option (List Int × Int) := if (l1.length : Int) = 0 then (some (l0, 1)) else (if (l1.length : Int) > 1000 then (some (l0, 12)) else (if ([] : List Int).length + l0.length < 140737488355328 then ((some (([] : List Int) ++ l0 : List Int)).bind fun y182 => ((pacesetterref04_of.f k l1).bind fun t185 => (if y182.length + t185.length < 140737488355328 then (some ((y182 ++ t185), 0)) else (none)))) else (none)))
theorem pacesetterref04_Put.mono : ∀ a0 a1 k, LeO (pacesetterref04_Put.f k a0 a1) (pacesetterref04_Put.f (k + 1) a0 a1) := by
  intro a0 a1 k
  unfold pacesetterref04_Put.f
  repeat' first
      | (with_reducible exact pacesetterref04_of.mono _ _)
      | (with_reducible exact LeO.refl _)
      | (with_reducible exact LeO.none _)
      | (with_reducible refine LeO.ite ?_ ?_)
      | (with_reducible refine LeO.bind ?_ (fun _ => ?_))
      | exact pacesetterref04_of.mono _ _
      | exact LeO.none _
      | refine LeO.ite ?_ ?_
      | refine LeO.bind ?_ (fun _ => ?_)
set_option maxHeartbeats 8000000 in
set_option maxRecDepth 100000 in
theorem pacesetterref04_Put.calls (k : Nat) (P0_ : Nat → Prop) (u9000_ : Value) (l0 : List Int) (A1 : Option Addr) (c1 : Nat) (l1 : List Int) (r1 : List Int) (r2 : Int) (w0 w : World) (hB : Below w0.heap.size w0 w) (ho0 : Kd.R (Kd.int .u8) 5 w w0.heap.size P0_ u9000_ l0) (hr1 : ∀ W_, Kept w W_ (fun k_ => P0_ k_) → Kd.C (Kd.int .u8) W_ A1 l1.length l1) (hc1 : l1.length ≤ c1) (h : pacesetterref04_Put.f k l0 l1 = some (r1, r2)) :
    Calls Try.prog 63 #[u9000_, .slice A1 l1.length c1] w fun e w' => ∃ v0_ : Value, e = .returned (.tuple #[v0_, .int .i64 r2]) ∧ Kd.R (Kd.int .u8) 5 w' w0.heap.size (fun k_ => (P0_ k_ ∨ w.heap.size ≤ k_)) v0_ r1 ∧ Below w0.heap.size w0 w' ∧ Kept w w' (fun k_ => P0_ k_) := by
  have HO0 := Aside0.mk (show Kd.R (Kd.int .u8) 5 w w0.heap.size (fun k_ => (P0_ k_ ∨ w.heap.size ≤ k_)) u9000_ l0 from Kd.R_mono ho0 (fun k_ hk => (.inl hk)))
  have HR1 := Aside0.mk hr1
  have HC1 := Aside0.mk hc1
  clear hr1 hc1
  have HK := Aside0.mk (Kept.refl w (fun k_ => P0_ k_))
  have HW0 := Aside0.mk hB.size
  have HB := Aside0.mk hB
  clear hB
  have H : (if (l1.length : Int) = 0 then (some (l0, 1)) else (if (l1.length : Int) > 1000 then (some (l0, 12)) else (if ([] : List Int).length + l0.length < 140737488355328 then ((some (([] : List Int) ++ l0 : List Int)).bind fun y182 => ((pacesetterref04_of.f k l1).bind fun t185 => (if y182.length + t185.length < 140737488355328 then (some ((y182 ++ t185), 0)) else (none)))) else (none)))) = some (r1, r2) := h
  clear h
  by_cases c3 : (l1.length : Int) = 0
  · rw [if_pos c3] at H
    have c3b0 : ((l1.length : Int) == 0) = true := beq_iff_eq.mpr c3
    have c3b1 : ((l1.length : Int) != 0) = false := bne_eq_false_iff_eq.mpr c3
    clear c3
    simp only [Option.some.injEq, Prod.mk.injEq] at H
    obtain ⟨rfl, rfl⟩ := H
    go_enter Try.func63, Try.ntmps63
    go_wp2
    go_ret2
    exact ⟨_, by first | rfl | (simp [errW_none, errW_some] <;> rfl) | (simp [*, errW_none, errW_some] <;> rfl), by (with_reducible repeat (first | apply Kd.R_alloc | apply Kd.R_drewN | apply Kd.R_drew)); exact HO0.out, by repeat (first | (with_reducible first | exact HB.out | apply below_alloc | apply pw_below_drewN | apply below_drew1) | exact HB.out), by repeat (first | (with_reducible first | exact HK.out | apply Kept.alloc | apply Kept.drewN | apply Kept.drew) | exact HK.out)⟩
  · rw [if_neg c3] at H
    have c3b0 : ((l1.length : Int) == 0) = false := beq_eq_false_iff_ne.mpr c3
    have c3b1 : ((l1.length : Int) != 0) = true := bne_iff_ne.mpr c3
    have c3b2 : ¬ (l1 = []) := fun h_ => c3 (by rw [h_]; rfl)
    by_cases c4 : (l1.length : Int) > 1000
    · rw [if_pos c4] at H
      have c4b0 : decide (1000 < (l1.length : Int)) = true := decide_eq_true c4
      have c4b1 : decide (1000 < l1.length) = true := decide_eq_true (by omega)
      clear c4
      simp only [Option.some.injEq, Prod.mk.injEq] at H
      obtain ⟨rfl, rfl⟩ := H
      go_enter Try.func63, Try.ntmps63
      go_wp2
      go_ret2
      exact ⟨_, by first | rfl | (simp [errW_none, errW_some] <;> rfl) | (simp [*, errW_none, errW_some] <;> rfl), by (with_reducible repeat (first | apply Kd.R_alloc | apply Kd.R_drewN | apply Kd.R_drew)); exact HO0.out, by repeat (first | (with_reducible first | exact HB.out | apply below_alloc | apply pw_below_drewN | apply below_drew1) | exact HB.out), by repeat (first | (with_reducible first | exact HK.out | apply Kept.alloc | apply Kept.drewN | apply Kept.drew) | exact HK.out)⟩
    · rw [if_neg c4] at H
      have c4b0 : decide (1000 < (l1.length : Int)) = false := decide_eq_false c4
      have c4b1 : decide (1000 < l1.length) = false := decide_eq_false (by omega)
      clear c4
      by_cases c5 : ([] : List Int).length + l0.length < 140737488355328
      · rw [if_pos c5] at H
        have LMc5 := Aside0.mk c5
        clear c5
        obtain ⟨y182, hy182⟩ : ∃ y_ : List Int, y_ = (([] : List Int) ++ l0) := ⟨_, rfl⟩
        replace H : ((pacesetterref04_of.f k l1).bind fun t185 => (if y182.length + t185.length < 140737488355328 then (some ((y182 ++ t185), 0)) else (none))) = some (r1, r2) := by first | (rw [hy182]; with_reducible exact H) | (have H2_ := (Option.bind_some _ _).symm.trans H; rw [hy182]; with_reducible exact H2_) | (have H2_ := (Option.bind_some _ _).symm.trans H; with_reducible exact H2_) | with_reducible exact H | (rw [hy182]; exact H) | exact H
        have Ny182 := Aside0.mk hy182
        clear hy182
        replace H := Option.bind_eq_some_iff.mp H
        obtain ⟨t185, A60, H⟩ := H
        replace H : (if y182.length + t185.length < 140737488355328 then (some ((y182 ++ t185), 0)) else (none)) = some (r1, r2) := H
        have A6 := Aside0.mk A60
        clear A60
        by_cases c7 : y182.length + t185.length < 140737488355328
        · rw [if_pos c7] at H
          have LMc7 := Aside0.mk c7
          clear c7
          obtain ⟨y188, hy188⟩ : ∃ y_ : List Int, y_ = (y182 ++ t185) := ⟨_, rfl⟩
          replace H : (some (y188, 0)) = some (r1, r2) := by first | (rw [hy188]; with_reducible exact H) | (have H2_ := (Option.bind_some _ _).symm.trans H; rw [hy188]; with_reducible exact H2_) | (have H2_ := (Option.bind_some _ _).symm.trans H; with_reducible exact H2_) | with_reducible exact H | (rw [hy188]; exact H) | exact H
          have Ny188 := Aside0.mk hy188
          clear hy188
          simp only [Option.some.injEq, Prod.mk.injEq] at H
          obtain ⟨rfl, rfl⟩ := H
          obtain ⟨Ao9, co9, eo9⟩ := Kd.R_slice HO0.out
          subst eo9
          go_enter Try.func63, Try.ntmps63
          go_wp2_with (first | ((with_reducible refine gate_builtin (b := .append) (xs := #[.tmp 15, .tmp 16]) rfl ?_); at_builtin; refine Kd.R_append_rows (Kd.int .u8) (w0 := w0) w0.heap.size rfl (.tmp 15) (.tmp 16) 22 5 (.int .u8 0) 1 rfl Try.underlying22 info5 rfl (by decide) (by omega) (.slice none 0 0) ([] : List Int) l0 _ _ _ (fun k_ => (P0_ k_ ∨ w.heap.size ≤ k_) ∧ some k_ ≠ (.slice Ao9 l0.length co9 : Value).ownBlock) (fun _ => False) rfl rfl ?aO ?aR (fun _ _ h => h) (fun _ h => h.elim) ?aF ?aB ?aS ?aL ?_; (case aR => repeat (first | exact (Kd.R_reads' HO0.out).2.2 | (with_reducible refine Kd.C_alloc ?_ _) | (with_reducible refine Kd.C_drewN ?_ _) | (with_reducible refine Kd.C_drew ?_))); (case aB => exact (by repeat (first | (with_reducible first | exact HB.out | apply below_alloc | apply pw_below_drewN | apply below_drew1) | exact HB.out))); (case aF => exact (fun k_ hk => ⟨(.inr (Nat.le_trans (by first | exact HK.out.1 | exact (show Kept w _ (fun k_ => P0_ k_) from by repeat (first | (with_reducible first | exact HK.out | apply Kept.alloc | apply Kept.drewN | apply Kept.drew) | exact HK.out)).1) hk)), Kd.fresh' (Kd.R_lt (by (with_reducible repeat (first | apply Kd.R_alloc | apply Kd.R_drewN | apply Kd.R_drew)); exact HO0.out)) k_ hk⟩)); (case aO => exact ((Kd.R_nil _ _ _ _ (fun k_ => (P0_ k_ ∨ w.heap.size ≤ k_) ∧ some k_ ≠ (.slice Ao9 l0.length co9 : Value).ownBlock)))); (case aS => exact (below_size (by repeat (first | (with_reducible first | exact HB.out | apply below_alloc | apply pw_below_drewN | apply below_drew1) | exact HB.out)))); (case aL => have := LMc5.out; omega); intro v183 w8 ho hb hg hat; rw [← Ny182.out] at ho; have n0_ := Aside0.mk (Kd.R_after (Kd.R_apart_nil (by (with_reducible repeat (first | apply Kd.R_alloc | apply Kd.R_drewN | apply Kd.R_drew)); exact HO0.out)) hg hat); have n1_ := Aside0.mk (hb); have n2_ := Aside0.mk (Kept.of_grown (S := (fun k_ => P0_ k_)) hg (by repeat (first | (with_reducible first | exact HK.out | apply Kept.alloc | apply Kept.drewN | apply Kept.drew) | exact HK.out)) (fun k_ e_ => by simp [Value.ownBlock] at e_)); have n3_ := Aside0.mk (ho); clear HO0; clear HB; clear HK; have HO0 := n0_; have HB := n1_; have HK := n2_; have HO184 := n3_; clear n0_ n1_ n2_ n3_; clear ho hb hg hat) | ((with_reducible refine gate_callee (f := 98) rfl ?_); refine goesL_ (some 20) rfl rfl Try.func98 (by kernel_rfl) rfl #[.slice A1 l1.length c1] rfl (by (try simp only [List.map_toArray, List.map_cons, List.map_nil]); first | done | rfl | (simp only [List.length_drop, List.length_take]; rfl)) ?_; (with_reducible refine (pacesetterref04_of.calls k _ _ l1 t185 _ ?side1 ?side2 A6.out).mono ?_); (case side1 => exact Kd.C_kept_now HR1.out (by repeat (first | (with_reducible first | exact HK.out | apply Kept.alloc | apply Kept.drewN | apply Kept.drew) | exact HK.out))); (case side2 => exact HC1.out); rintro e w10 ⟨v186, rfl, ho0, hb⟩; refine ⟨_, rfl, ?_⟩; have n0_ := Aside0.mk (Kd.R_elder' (by (with_reducible repeat (first | apply Kd.R_alloc | apply Kd.R_drewN | apply Kd.R_drew)); exact HO0.out) (Kd.R_base ho0) hb); have n1_ := Aside0.mk (Kd.R_elder' (by (with_reducible repeat (first | apply Kd.R_alloc | apply Kd.R_drewN | apply Kd.R_drew)); exact HO184.out) (Kd.R_base ho0) hb); have n2_ := Aside0.mk (Kd.R_lower (Kd.R_new' (Kd.R_new' (Kd.R_newM (M := fun k_ => (P0_ k_ ∨ w.heap.size ≤ k_)) ho0 (by first | exact HK.out.1 | exact (show Kept w _ (fun k_ => P0_ k_) from by repeat (first | (with_reducible first | exact HK.out | apply Kept.alloc | apply Kept.drewN | apply Kept.drew) | exact HK.out)).1) (fun k_ h_ => .inr h_)) (Kd.R_lt (by (with_reducible repeat (first | apply Kd.R_alloc | apply Kd.R_drewN | apply Kd.R_drew)); exact HO0.out))) (Kd.R_lt (by (with_reducible repeat (first | apply Kd.R_alloc | apply Kd.R_drewN | apply Kd.R_drew)); exact HO184.out))) (below_size (by repeat (first | (with_reducible first | exact HB.out | apply below_alloc | apply pw_below_drewN | apply below_drew1) | exact HB.out)))); have n3_ := Aside0.mk (Kept.below (S := (fun k_ => P0_ k_)) (by repeat (first | (with_reducible first | exact HK.out | apply Kept.alloc | apply Kept.drewN | apply Kept.drew) | exact HK.out)) hb); have n4_ := Aside0.mk (below_step (by repeat (first | (with_reducible first | exact HB.out | apply below_alloc | apply pw_below_drewN | apply below_drew1) | exact HB.out)) hb); clear HO0; clear HO184; clear HK; clear HB; have HO0 := n0_; have HO184 := n1_; have HO187 := n2_; have HK := n3_; have HB := n4_; clear n0_ n1_ n2_ n3_ n4_; (try clear hb); (try clear hb2); (try clear hk); (try clear hi); (try clear ho0); obtain ⟨Ao12, co12, eo12⟩ := Kd.R_slice HO187.out; subst eo12) | ((with_reducible refine gate_builtin (b := .append) (xs := #[.tmp 18, .tmp 20]) rfl ?_); at_builtin; refine Kd.R_append_rows (Kd.int .u8) (w0 := w0) w0.heap.size rfl (.tmp 18) (.tmp 20) 22 5 (.int .u8 0) 1 rfl Try.underlying22 info5 rfl (by decide) (by omega) v183 y182 t185 _ _ _ (fun k_ => (P0_ k_ ∨ w.heap.size ≤ k_) ∧ some k_ ≠ (.slice Ao9 l0.length co9 : Value).ownBlock ∧ some k_ ≠ (.slice Ao12 t185.length co12 : Value).ownBlock) (fun _ => False) rfl rfl ?aO ?aR (fun _ _ h => h) (fun _ h => h.elim) ?aF ?aB ?aS ?aL ?_; (case aR => repeat (first | exact (Kd.R_reads' HO187.out).2.2 | (with_reducible refine Kd.C_alloc ?_ _) | (with_reducible refine Kd.C_drewN ?_ _) | (with_reducible refine Kd.C_drew ?_))); (case aB => exact (by repeat (first | (with_reducible first | exact HB.out | apply below_alloc | apply pw_below_drewN | apply below_drew1) | exact HB.out))); (case aF => exact (fun k_ hk => ⟨(.inr (Nat.le_trans (by first | exact HK.out.1 | exact (show Kept w _ (fun k_ => P0_ k_) from by repeat (first | (with_reducible first | exact HK.out | apply Kept.alloc | apply Kept.drewN | apply Kept.drew) | exact HK.out)).1) hk)), Kd.fresh' (Kd.R_lt (by (with_reducible repeat (first | apply Kd.R_alloc | apply Kd.R_drewN | apply Kd.R_drew)); exact HO0.out)) k_ hk, Kd.fresh' (Kd.R_lt (by (with_reducible repeat (first | apply Kd.R_alloc | apply Kd.R_drewN | apply Kd.R_drew)); exact HO187.out)) k_ hk⟩)); (case aO => exact (by (with_reducible repeat (first | apply Kd.R_alloc | apply Kd.R_drewN | apply Kd.R_drew)); exact Kd.R_mono HO184.out (fun _ hk => ⟨hk.1.1, ⟨hk.1.2, hk.2⟩⟩))); (case aS => exact (below_size (by repeat (first | (with_reducible first | exact HB.out | apply below_alloc | apply pw_below_drewN | apply below_drew1) | exact HB.out)))); (case aL => have := LMc7.out; omega); intro v189 w11 ho hb hg hat; rw [← Ny188.out] at ho; have n0_ := Aside0.mk (Kd.R_after (ok := (fun k_ => (P0_ k_ ∨ w.heap.size ≤ k_) ∧ some k_ ≠ (.slice Ao12 t185.length co12 : Value).ownBlock)) (by (with_reducible repeat (first | apply Kd.R_alloc | apply Kd.R_drewN | apply Kd.R_drew)); exact Kd.R_mono HO0.out (fun _ hk => ⟨⟨hk.1.1, hk.2⟩, hk.1.2⟩)) hg hat); have n1_ := Aside0.mk (Kd.R_after (ok := (fun k_ => (P0_ k_ ∨ w.heap.size ≤ k_) ∧ some k_ ≠ (.slice Ao9 l0.length co9 : Value).ownBlock)) (by (with_reducible repeat (first | apply Kd.R_alloc | apply Kd.R_drewN | apply Kd.R_drew)); exact Kd.R_mono HO187.out (fun _ hk => ⟨⟨hk.1.1.1, hk.1.2⟩, hk.2⟩)) hg hat); have n2_ := Aside0.mk (hb); have n3_ := Aside0.mk (Kept.of_grown (S := (fun k_ => P0_ k_)) hg (by repeat (first | (with_reducible first | exact HK.out | apply Kept.alloc | apply Kept.drewN | apply Kept.drew) | exact HK.out)) (fun k_ e_ => (HO184.out.1 k_ e_).1.1)); have n4_ := Aside0.mk (ho); clear HO0; clear HO187; clear HB; clear HK; clear HO184; have HO0 := n0_; have HO187 := n1_; have HB := n2_; have HK := n3_; have HO190 := n4_; clear n0_ n1_ n2_ n3_ n4_; clear ho hb hg hat))
          go_ret2
          exact ⟨_, by first | rfl | (simp [errW_none, errW_some] <;> rfl) | (simp [*, errW_none, errW_some] <;> rfl), by (with_reducible repeat (first | apply Kd.R_alloc | apply Kd.R_drewN | apply Kd.R_drew)); exact Kd.R_mono HO190.out (fun _ hk => hk.1), by repeat (first | (with_reducible first | exact HB.out | apply below_alloc | apply pw_below_drewN | apply below_drew1) | exact HB.out), by repeat (first | (with_reducible first | exact HK.out | apply Kept.alloc | apply Kept.drewN | apply Kept.drew) | exact HK.out)⟩
        · rw [if_neg c7] at H
          exact absurd H (by simp)
      · rw [if_neg c5] at H
        exact absurd H (by simp)

-- NOT PRINTED: function 15 (pacesetterlaw04_FramePuts)

end Go.Proofs.Ytbcienbnhchdeaa.Print

-- Printed by a program of this session (wip/patch_print.py over the kit's print); Lean checks it.
-- cut_print: 2
namespace Go.Proofs.Ytbcienbnhchdeaa.Print
open Go.RowKit Go.Proofs.YtbcienbnhchdeaaW.PrintWords Go.Proofs.YtbcienbnhchdeaaW.PrintLast Go.Proofs.YtbcienbnhchdeaaW.PrintMore
attribute [local go_sem] max2_int min2_int max_two min_two max_three min_three max_four min_four   -- for this text's walks alone
set_option linter.unusedVariables false
set_option linter.unusedSimpArgs false

/-! ### pacesetterref04_Good: function 66 -/
mutual
def pacesetterref04_Good.l0 : Nat → List (List Int) → Int → List (List Int) → Int → Option ((List (List Int)))
  | 0, _, _, _, _ => none
  | k + 1, x0, x1, x5, x6 => if x6 < (x0.length : Int) then (pacesetterref04_Good.j1 k x0 x1 x5 x6 (decide (x6 < x1))) else (pacesetterref04_Good.j1 k x0 x1 x5 x6 false)
def pacesetterref04_Good.j1 : Nat → List (List Int) → Int → List (List Int) → Int → Bool → Option ((List (List Int)))
  | 0, _, _, _, _, _ => none
  | k + 1, x0, x1, x5, x6, x16 => if x16 = true then (if 0 ≤ x6 then (if x6 < (x0.length : Int) then (if 0 ≤ (mn ((rd_L1 x0 x6).length : Int) 30) then (if (mn ((rd_L1 x0 x6).length : Int) 30) ≤ ((rd_L1 x0 x6).length : Int) then ((some ((rd_L1 x0 x6).take ((mn ((rd_L1 x0 x6).length : Int) 30) : Int).toNat : List Int)).bind fun y218 => (if (y218.length : Int) = 0 then (if x5.length < 5864062014805 then (pacesetterref04_Good.l0 k x0 x1 (x5 ++ [(([(x6) % 256] : List Int))]) (wrap64 (x6 + 1))) else (none)) else (if x5.length < 5864062014805 then (pacesetterref04_Good.l0 k x0 x1 (x5 ++ [y218]) (wrap64 (x6 + 1))) else (none)))) else (none)) else (none)) else (none)) else (none)) else (some x5)
end
def pacesetterref04_Good.f (k : Nat) (l0 : List (List Int)) (a1 : Int) : Option ((List (List Int))) := pacesetterref04_Good.l0 k l0 a1 ([] : List (List Int)) 0
theorem pacesetterref04_Good.mono_l : ∀ k, (∀ y0 y1 y2 y3, LeO (pacesetterref04_Good.l0 k y0 y1 y2 y3) (pacesetterref04_Good.l0 (k + 1) y0 y1 y2 y3)) ∧ (∀ y0 y1 y2 y3 y4, LeO (pacesetterref04_Good.j1 k y0 y1 y2 y3 y4) (pacesetterref04_Good.j1 (k + 1) y0 y1 y2 y3 y4))
  | 0 => ⟨fun _ _ _ _ r h => by simp [pacesetterref04_Good.l0] at h, fun _ _ _ _ _ r h => by simp [pacesetterref04_Good.j1] at h⟩
  | k + 1 => by
    obtain ⟨ih0, ih1⟩ := pacesetterref04_Good.mono_l k
    refine ⟨?_, ?_⟩
    · intro y0 y1 y2 y3
      unfold pacesetterref04_Good.l0
      repeat' first
      | (with_reducible exact ih0 _ _ _ _)
      | (with_reducible exact ih1 _ _ _ _ _)
      | (with_reducible exact LeO.refl _)
      | (with_reducible exact LeO.none _)
      | (with_reducible refine LeO.ite ?_ ?_)
      | (with_reducible refine LeO.bind ?_ (fun _ => ?_))
      | exact ih0 _ _ _ _
      | exact ih1 _ _ _ _ _
      | exact LeO.none _
      | refine LeO.ite ?_ ?_
      | refine LeO.bind ?_ (fun _ => ?_)
    · intro y0 y1 y2 y3 y4
      unfold pacesetterref04_Good.j1
      repeat' first
      | (with_reducible exact ih0 _ _ _ _)
      | (with_reducible exact ih1 _ _ _ _ _)
      | (with_reducible exact LeO.refl _)
      | (with_reducible exact LeO.none _)
      | (with_reducible refine LeO.ite ?_ ?_)
      | (with_reducible refine LeO.bind ?_ (fun _ => ?_))
      | exact ih0 _ _ _ _
      | exact ih1 _ _ _ _ _
      | exact LeO.none _
      | refine LeO.ite ?_ ?_
      | refine LeO.bind ?_ (fun _ => ?_)
theorem pacesetterref04_Good.mono : ∀ a0 a1 k, LeO (pacesetterref04_Good.f k a0 a1) (pacesetterref04_Good.f (k + 1) a0 a1) := by
  intro a0 a1 k
  obtain ⟨ih0, ih1⟩ := pacesetterref04_Good.mono_l k
  unfold pacesetterref04_Good.f
  repeat' first
      | (with_reducible exact ih0 _ _ _ _)
      | (with_reducible exact ih1 _ _ _ _ _)
      | (with_reducible exact LeO.refl _)
      | (with_reducible exact LeO.none _)
      | (with_reducible refine LeO.ite ?_ ?_)
      | (with_reducible refine LeO.bind ?_ (fun _ => ?_))
      | exact ih0 _ _ _ _
      | exact ih1 _ _ _ _ _
      | exact LeO.none _
      | refine LeO.ite ?_ ?_
      | refine LeO.bind ?_ (fun _ => ?_)
set_option maxHeartbeats 8000000 in
set_option maxRecDepth 100000 in
theorem pacesetterref04_Good.calls (k : Nat) (P0_ : Nat → Prop) (A0 : Option Addr) (c0 : Nat) (l0 : List (List Int)) (a1 : Int) (r : List (List Int)) (w : World) (hs0 : Kd.V (Kd.slice 5 (Kd.int .u8)) 22 w w.heap.size (fun k_ => P0_ k_) (.slice A0 l0.length c0) l0) (h : pacesetterref04_Good.f k l0 a1 = some r) :
    Calls Try.prog 66 #[.slice A0 l0.length c0, .int .i64 a1] w fun e w' => ∃ v0_ : Value, e = .returned (v0_) ∧ Kd.N (Kd.slice 5 (Kd.int .u8)) 22 w' w.heap.size (fun k_ => (P0_ k_ ∨ w.heap.size ≤ k_)) v0_ r ∧ Below w.heap.size w w' := by
  have HO0 := Aside0.mk (show Kd.V (Kd.slice 5 (Kd.int .u8)) 22 w w.heap.size (fun k_ => (P0_ k_ ∨ w.heap.size ≤ k_)) (.slice A0 l0.length c0) l0 from Kd.V_mono hs0 (fun k_ hk => .inl hk))
  have HB := Aside0.mk (Below.refl w.heap.size w)
  have H : (pacesetterref04_Good.l0 k l0 a1 ([] : List (List Int)) 0) = some r := h
  clear h
  have H' := Aside0.mk H
  clear H
  go_enter Try.func66, Try.ntmps66
  go_wp2
  repeat (go_quiet (fail); try go_wp2)
  go_loopg [5, 6] k (fun kq v5 v6 w' => ∃ (x5_1 : List (List Int)) (x6_1 : Int), v6 = .int .i64 x6_1 ∧ Aside0 (pacesetterref04_Good.l0 kq l0 a1 x5_1 x6_1 = some r) ∧ Aside0 (kq ≤ k) ∧ Aside0 (Kd.V (Kd.slice 5 (Kd.int .u8)) 22 w' w.heap.size (fun k_ => (P0_ k_ ∨ w.heap.size ≤ k_) ∧ some k_ ≠ (v5 : Value).ownBlock) (.slice A0 l0.length c0) l0) ∧ Aside0 (Kd.N (Kd.slice 5 (Kd.int .u8)) 22 w' w.heap.size (fun k_ => (P0_ k_ ∨ w.heap.size ≤ k_)) v5 x5_1) ∧ Aside0 (Below w.heap.size w w'))
  case atStart => exact ⟨(([] : List (List Int))), (0), (by first | rfl | (simp; done) | (simp [*]; done)), H', ⟨Nat.le_refl _⟩, ⟨by (with_reducible repeat (first | apply Kd.V_alloc | apply Kd.V_drewN | apply Kd.V_drew)); exact Kd.V_mono HO0.out (fun _ hk => ⟨hk, (by simp [Value.ownBlock])⟩)⟩, ⟨by first | exact Kd.S_nil _ _ _ _ _ | exact Kd.N_nil _ _ _ _ _ | exact Kd.V_nil _ _ _ _ _ | exact Kd.Q_nil _ _ _ _ _ | exact Kd.R_nil _ _ _ _ _⟩, ⟨by repeat (first | (with_reducible first | exact HB.out | apply below_alloc | apply pw_below_drewN | apply below_drew1) | exact HB.out)⟩⟩
  case round =>
    clear H'
    try clear p2
    obtain ⟨x5_1, x6_1, rfl, HA, HK1, HO_0, HO_5, HB⟩ := hrel
    cases gk with
    | zero => exact absurd HA.out (by simp [pacesetterref04_Good.l0])
    | succ k1 =>
      have H := HA.out
      clear HA
      simp only [pacesetterref04_Good.l0] at H
      have HC3 := Aside0.mk H
      clear H
      go_upto_region 3 with (fail)
      repeat (go_quiet (fail); go_upto_region 3 with (fail))
      go_cut [16] (fun v16 wc => ∃ (kq : Nat) (x16_2 : Bool), v16 = .bool x16_2 ∧ Aside0 (pacesetterref04_Good.j1 kq l0 a1 x5_1 x6_1 x16_2 = some r) ∧ Aside0 (kq ≤ k1) ∧ Aside0 (Kd.V (Kd.slice 5 (Kd.int .u8)) 22 wc w.heap.size (fun k_ => (P0_ k_ ∨ w.heap.size ≤ k_) ∧ some k_ ≠ (u5 : Value).ownBlock) (.slice A0 l0.length c0) l0) ∧ Aside0 (Kd.N (Kd.slice 5 (Kd.int .u8)) 22 wc w.heap.size (fun k_ => (P0_ k_ ∨ w.heap.size ≤ k_)) u5 x5_1) ∧ Aside0 (Below w.heap.size w wc))
      case first =>
        have H := HC3.out
        clear HC3
        by_cases c4 : x6_1 < (l0.length : Int)
        · rw [if_pos c4] at H
          have c4b0 : decide (x6_1 < (l0.length : Int)) = true := decide_eq_true c4
          clear c4
          (first | rw [c4b0] | (simp only [i64_w, i32_w]; rw [c4b0]) | skip)
          have H' := Aside0.mk H
          clear H
          go_wp2
          repeat (go_quiet (fail); try go_wp2)
          go_meet
          case rel => exact ⟨_, (decide (x6_1 < a1)), (by first | rfl | (simp; done) | (simp [*]; done)), H', ⟨by have := HK1.out; first | omega | exact Nat.le_refl _⟩, ⟨by (with_reducible repeat (first | apply Kd.V_alloc | apply Kd.V_drewN | apply Kd.V_drew)); exact HO_0.out⟩, ⟨by (with_reducible repeat (first | apply Kd.N_alloc | apply Kd.N_drewN | apply Kd.N_drew)); exact HO_5.out⟩, ⟨by repeat (first | (with_reducible first | exact HB.out | apply below_alloc | apply pw_below_drewN | apply below_drew1) | exact HB.out)⟩⟩
        · rw [if_neg c4] at H
          have c4b0 : decide (x6_1 < (l0.length : Int)) = false := decide_eq_false c4
          clear c4
          (first | rw [c4b0] | (simp only [i64_w, i32_w]; rw [c4b0]) | skip)
          have H' := Aside0.mk H
          clear H
          go_wp2
          repeat (go_quiet (fail); try go_wp2)
          go_meet
          case rel => exact ⟨_, (false), (by first | rfl | (simp; done) | (simp [*]; done)), H', ⟨by have := HK1.out; first | omega | exact Nat.le_refl _⟩, ⟨by (with_reducible repeat (first | apply Kd.V_alloc | apply Kd.V_drewN | apply Kd.V_drew)); exact HO_0.out⟩, ⟨by (with_reducible repeat (first | apply Kd.N_alloc | apply Kd.N_drewN | apply Kd.N_drew)); exact HO_5.out⟩, ⟨by repeat (first | (with_reducible first | exact HB.out | apply below_alloc | apply pw_below_drewN | apply below_drew1) | exact HB.out)⟩⟩
      case rest =>
        clear HC3
        try clear p2
        try clear c4
        try clear c4b0
        try clear p2
        obtain ⟨kq, x16_2, rfl, HA, HJ2, HO_0, HO_5, HB⟩ := hcut
        cases kq with
        | zero => exact absurd HA.out (by simp [pacesetterref04_Good.j1])
        | succ kj2 =>
          have H := HA.out
          clear HA
          simp only [pacesetterref04_Good.j1] at H
          by_cases c5 : x16_2 = true
          · subst c5
            have H1 : (if 0 ≤ x6_1 then (if x6_1 < (l0.length : Int) then (if 0 ≤ (mn ((rd_L1 l0 x6_1).length : Int) 30) then (if (mn ((rd_L1 l0 x6_1).length : Int) 30) ≤ ((rd_L1 l0 x6_1).length : Int) then ((some ((rd_L1 l0 x6_1).take ((mn ((rd_L1 l0 x6_1).length : Int) 30) : Int).toNat : List Int)).bind fun y218 => (if (y218.length : Int) = 0 then (if x5_1.length < 5864062014805 then (pacesetterref04_Good.l0 kj2 l0 a1 (x5_1 ++ [(([(x6_1) % 256] : List Int))]) (wrap64 (x6_1 + 1))) else (none)) else (if x5_1.length < 5864062014805 then (pacesetterref04_Good.l0 kj2 l0 a1 (x5_1 ++ [y218]) (wrap64 (x6_1 + 1))) else (none)))) else (none)) else (none)) else (none)) else (none)) = some r := by rw [if_pos rfl] at H; exact H
            clear H
            have H := H1
            clear H1
            by_cases c6 : 0 ≤ x6_1
            · rw [if_pos c6] at H
              have c6b0 : decide (0 ≤ x6_1) = true := decide_eq_true c6
              clear c6
              by_cases c7 : x6_1 < (l0.length : Int)
              · rw [if_pos c7] at H
                have c7b0 : decide (x6_1 < (l0.length : Int)) = true := decide_eq_true c7
                clear c7
                obtain ⟨ji8, hji8⟩ : ∃ j_ : Int, (mn ((rd_L1 l0 x6_1).length : Int) 30) = j_ := ⟨_, rfl⟩
                replace H : (if 0 ≤ (ji8) then (if (ji8) ≤ ((rd_L1 l0 x6_1).length : Int) then ((some ((rd_L1 l0 x6_1).take ((ji8) : Int).toNat : List Int)).bind fun y218 => (if (y218.length : Int) = 0 then (if x5_1.length < 5864062014805 then (pacesetterref04_Good.l0 kj2 l0 a1 (x5_1 ++ [(([(x6_1) % 256] : List Int))]) (wrap64 (x6_1 + 1))) else (none)) else (if x5_1.length < 5864062014805 then (pacesetterref04_Good.l0 kj2 l0 a1 (x5_1 ++ [y218]) (wrap64 (x6_1 + 1))) else (none)))) else (none)) else (none)) = some r := by first | (rw [hji8] at H; exact H) | (simp only [hji8] at H ⊢; exact H)
                have hji8_ : (if 30 < ((rd_L1 l0 x6_1).length : Int) then 30 else ((rd_L1 l0 x6_1).length : Int)) = ji8 := hji8
                by_cases c9 : 0 ≤ (ji8)
                · rw [if_pos c9] at H
                  have c9b0 := eq_true c9
                  have c9b1 : decide (0 ≤ (ji8)) = true := decide_eq_true c9
                  clear c9
                  by_cases c10 : (ji8) ≤ ((rd_L1 l0 x6_1).length : Int)
                  · rw [if_pos c10] at H
                    have c10b0 := eq_true c10
                    have c10b1 : decide ((ji8) ≤ ((rd_L1 l0 x6_1).length : Int)) = true := decide_eq_true c10
                    clear c10
                    obtain ⟨y218, hy218⟩ : ∃ y_ : List Int, y_ = ((rd_L1 l0 x6_1).take ((ji8) : Int).toNat) := ⟨_, rfl⟩
                    replace H : (if (y218.length : Int) = 0 then (if x5_1.length < 5864062014805 then (pacesetterref04_Good.l0 kj2 l0 a1 (x5_1 ++ [(([(x6_1) % 256] : List Int))]) (wrap64 (x6_1 + 1))) else (none)) else (if x5_1.length < 5864062014805 then (pacesetterref04_Good.l0 kj2 l0 a1 (x5_1 ++ [y218]) (wrap64 (x6_1 + 1))) else (none))) = some r := by first | (rw [hy218]; with_reducible exact H) | (have H2_ := (Option.bind_some _ _).symm.trans H; rw [hy218]; with_reducible exact H2_) | (have H2_ := (Option.bind_some _ _).symm.trans H; with_reducible exact H2_) | with_reducible exact H | (rw [hy218]; exact H) | exact H
                    have Ny218 := Aside0.mk hy218
                    clear hy218
                    by_cases c11 : (y218.length : Int) = 0
                    · rw [if_pos c11] at H
                      have c11b0 : ((y218.length : Int) == 0) = true := beq_iff_eq.mpr c11
                      have c11b1 : ((y218.length : Int) != 0) = false := bne_eq_false_iff_eq.mpr c11
                      clear c11
                      obtain ⟨y223, hy223⟩ : ∃ y_ : List Int, y_ = (([(x6_1) % 256] : List Int)) := ⟨_, rfl⟩
                      replace H : (if x5_1.length < 5864062014805 then (pacesetterref04_Good.l0 kj2 l0 a1 (x5_1 ++ [y223]) (wrap64 (x6_1 + 1))) else (none)) = some r := by first | (rw [hy223]; with_reducible exact H) | (have H2_ := (Option.bind_some _ _).symm.trans H; rw [hy223]; with_reducible exact H2_) | (have H2_ := (Option.bind_some _ _).symm.trans H; with_reducible exact H2_) | with_reducible exact H | (rw [hy223]; exact H) | exact H
                      have Ny223 := Aside0.mk hy223
                      clear hy223
                      by_cases c12 : x5_1.length < 5864062014805
                      · rw [if_pos c12] at H
                        have LMc12 := Aside0.mk c12
                        clear c12
                        obtain ⟨y226, hy226⟩ : ∃ y_ : List (List Int), y_ = (x5_1 ++ [y223]) := ⟨_, rfl⟩
                        replace H : (pacesetterref04_Good.l0 kj2 l0 a1 y226 (wrap64 (x6_1 + 1))) = some r := by first | (rw [hy226]; with_reducible exact H) | (have H2_ := (Option.bind_some _ _).symm.trans H; rw [hy226]; with_reducible exact H2_) | (have H2_ := (Option.bind_some _ _).symm.trans H; with_reducible exact H2_) | with_reducible exact H | (rw [hy226]; exact H) | exact H
                        have Ny226 := Aside0.mk hy226
                        clear hy226
                        have H' := Aside0.mk H
                        clear H
                        have p216 : 0 ≤ (x6_1 : Int) := of_decide_eq_true (by first | (with_reducible assumption) | assumption)
                        have q216 : x6_1 < (l0.length : Int) := of_decide_eq_true (by first | (with_reducible assumption) | assumption)
                        obtain ⟨ad216, A216_0, c216_0, e216, hx216_0, hl216_0, hi216_0⟩ := at_L1 (Kd.V_reads' HO_0.out).2.2 x6_1 p216 q216
                        cases e216
                        obtain ⟨ce216, hce216, hMe216, hcc216⟩ := Kd.V_get HO_0.out [] x6_1 p216 (by first | exact q216 | exact of_decide_eq_true (by first | (with_reducible assumption) | assumption) | (have e_ := (Kd.V_reads' HO_0.out).1; omega))
                        obtain ⟨ua216_0, uc216_0, rfl, ul216_0, ge216_0⟩ := Kd.FK_slice_open hMe216
                        have hv216_0 := hcc216 0 _ rfl
                        rw [Nat.add_zero, show ((Kd.slice 5 (Kd.int .u8))).sz = 1 from rfl, Nat.mul_one] at hv216_0
                        replace hv216_0 := Option.some.inj (hv216_0.symm.trans hx216_0)
                        injection hv216_0 with hva_ hvn_ hvc_
                        rw [hva_] at ge216_0
                        rw [hvc_] at ul216_0
                        have HL216_0 := Aside0.mk (show Kd.V (Kd.int .u8) 5 _ w.heap.size _ _ (rd_L1 l0 x6_1) from Kd.V_mk ul216_0 ge216_0)
                        clear hva_ hvn_ hvc_ ge216_0 ul216_0
                        clear hcc216 hce216
                        have HR216_0 := Aside0.mk hi216_0
                        have HC216_0 := Aside0.mk hl216_0
                        clear hi216_0 hl216_0
                        replace p216 := eq_true p216
                        replace q216 := eq_true q216
                        have p217 : 0 ≤ (x6_1 : Int) := of_decide_eq_true (by first | (with_reducible assumption) | assumption)
                        have q217 : x6_1 < (l0.length : Int) := of_decide_eq_true (by first | (with_reducible assumption) | assumption)
                        obtain ⟨ad217, A217_0, c217_0, e217, hx217_0, hl217_0, hi217_0⟩ := at_L1 (Kd.V_reads' HO_0.out).2.2 x6_1 p217 q217
                        obtain rfl : ad216 = ad217 := (by injection e217)
                        obtain ⟨ce217, hce217, hMe217, hcc217⟩ := Kd.V_get HO_0.out [] x6_1 p217 (by first | exact q217 | exact of_decide_eq_true (by first | (with_reducible assumption) | assumption) | (have e_ := (Kd.V_reads' HO_0.out).1; omega))
                        obtain ⟨ua217_0, uc217_0, rfl, ul217_0, ge217_0⟩ := Kd.FK_slice_open hMe217
                        have hv217_0 := hcc217 0 _ rfl
                        rw [Nat.add_zero, show ((Kd.slice 5 (Kd.int .u8))).sz = 1 from rfl, Nat.mul_one] at hv217_0
                        replace hv217_0 := Option.some.inj (hv217_0.symm.trans hx217_0)
                        injection hv217_0 with hva_ hvn_ hvc_
                        rw [hva_] at ge217_0
                        rw [hvc_] at ul217_0
                        have HL217_0 := Aside0.mk (show Kd.V (Kd.int .u8) 5 _ w.heap.size _ _ (rd_L1 l0 x6_1) from Kd.V_mk ul217_0 ge217_0)
                        clear hva_ hvn_ hvc_ ge217_0 ul217_0
                        clear hcc217 hce217
                        have HR217_0 := Aside0.mk hi217_0
                        have HC217_0 := Aside0.mk hl217_0
                        clear hi217_0 hl217_0
                        replace p217 := eq_true p217
                        replace q217 := eq_true q217
                        have ea_ := Option.some.inj (hx216_0.symm.trans hx217_0)
                        injection ea_ with ea_ en_ ec_
                        subst ea_
                        subst ec_
                        clear en_
                        have q13 : ((ji8) : Int) ≤ (((rd_L1 l0 x6_1).length : Int) : Int) := of_decide_eq_true (by first | (with_reducible assumption) | assumption)
                        obtain ⟨i013, hi013, _, hsz13, _⟩ := info_parts info5
                        have hroom13 : (rd_L1 l0 x6_1).length ≤ c216_0 := HC216_0.out
                        have hC13 : Kd.F (Kd.int .u8) _ _ A216_0 (rd_L1 l0 x6_1).length (rd_L1 l0 x6_1) := (Kd.V_at (base := w.heap.size) HL216_0.out).2.2
                        have hcut13 := cut_to (P := Try.prog) 22 5 .i64 Try.underlying22 hi013 A216_0 (rd_L1 l0 x6_1).length c216_0 (ji8) (of_decide_eq_true (by first | (with_reducible assumption) | assumption)) q13 hroom13
                        have hr13 := Kd.F_take (m := ((ji8) : Int).toNat) hC13 (by omega)
                        have hy13 : y218.length = ((ji8) : Int).toNat := (by rw [Ny218.out, List.length_take]; omega)
                        rw [← Ny218.out] at hr13
                        rw [← hy13] at hcut13
                        have HO222 := Aside0.mk (show Kd.V (Kd.int .u8) 5 _ w.heap.size _ (.slice A216_0 y218.length c216_0) y218 from Kd.V_mk (by omega) hr13)
                        have HC222 := Aside0.mk (show y218.length ≤ c216_0 from by omega)
                        clear hr13 hC13 hroom13 hi013 hsz13
                        have KY13 := Aside0.mk hy13
                        clear hy13
                        replace q13 := eq_true q13
                        go_wp2_with (first | ((with_reducible refine gate_dst (N := 35) rfl ?_); refine Kd.R_lit (Kd.int .u8) _ 5 ?hg (N := 35) ?hd (xs := ([(x6_1) % 256] : List Int)) (inner := [.int .u8 ((x6_1) % 256)]) (ok := fun _ => True) (okp := fun _ => True) ?hr ?hp (fun _ hk => hk) trivial (Below.refl _ _) (Nat.le_refl _) (by simp) ?_; (case hd => rfl); (case hg => rfl); (case hr => first | (go_simp; done) | (go_simp; rfl)); (case hp => exact (Reps.one (show Kd.M (Kd.int .u8) _ _ _ ((x6_1) % 256) [.int .u8 ((x6_1) % 256)] from rfl) (Reps.none _ _))); intro v224 w14 ho15 hb hg_ hnew_; clear hg_ hnew_; (first | rw [← Ny223.out] at ho15 | (simp only [Int.reduceToNat] at ho15; rw [← Ny223.out] at ho15)); have n0_ := Aside0.mk (Kd.V_elder' (by (with_reducible repeat (first | apply Kd.V_alloc | apply Kd.V_drewN | apply Kd.V_drew)); exact HO_0.out) (Kd.R_base ho15) hb); have n1_ := Aside0.mk (Kd.N_elder' (by (with_reducible repeat (first | apply Kd.N_alloc | apply Kd.N_drewN | apply Kd.N_drew)); exact HO_5.out) (Kd.R_base ho15) hb); have n2_ := Aside0.mk (Kd.V_elder' (by (with_reducible repeat (first | apply Kd.V_alloc | apply Kd.V_drewN | apply Kd.V_drew)); exact HL216_0.out) (Kd.R_base ho15) hb); have n3_ := Aside0.mk (Kd.V_elder' (by (with_reducible repeat (first | apply Kd.V_alloc | apply Kd.V_drewN | apply Kd.V_drew)); exact HL217_0.out) (Kd.R_base ho15) hb); have n4_ := Aside0.mk (Kd.V_elder' (by (with_reducible repeat (first | apply Kd.V_alloc | apply Kd.V_drewN | apply Kd.V_drew)); exact HO222.out) (Kd.R_base ho15) hb); have n5_ := Aside0.mk (Kd.R_lower (Kd.R_newM (M := fun k_ => (w.heap.size ≤ k_)) ho15 (below_size (by repeat (first | (with_reducible first | exact HB.out | apply below_alloc | apply pw_below_drewN | apply below_drew1) | exact HB.out))) (fun k_ h_ => h_)) (below_size (by repeat (first | (with_reducible first | exact HB.out | apply below_alloc | apply pw_below_drewN | apply below_drew1) | exact HB.out)))); have n6_ := Aside0.mk (Kd.C_below (by repeat (first | (with_reducible exact HR216_0.out) | (with_reducible refine Kd.C_alloc ?_ _) | (with_reducible refine Kd.C_drewN ?_ _) | (with_reducible refine Kd.C_drew ?_) | exact HR216_0.out)) hb); have n7_ := Aside0.mk (Kd.C_below (by repeat (first | (with_reducible exact HR217_0.out) | (with_reducible refine Kd.C_alloc ?_ _) | (with_reducible refine Kd.C_drewN ?_ _) | (with_reducible refine Kd.C_drew ?_) | exact HR217_0.out)) hb); have n8_ := Aside0.mk (below_step (by repeat (first | (with_reducible first | exact HB.out | apply below_alloc | apply pw_below_drewN | apply below_drew1) | exact HB.out)) hb); clear HO_0; clear HO_5; clear HL216_0; clear HL217_0; clear HO222; clear HR216_0; clear HR217_0; clear HB; have HO_0 := n0_; have HO_5 := n1_; have HL216_0 := n2_; have HL217_0 := n3_; have HO222 := n4_; have HO225 := n5_; have HR216_0 := n6_; have HR217_0 := n7_; have HB := n8_; clear n0_ n1_ n2_ n3_ n4_ n5_ n6_ n7_ n8_; clear hb ho15; obtain ⟨Ao17, co17, eo17⟩ := Kd.R_slice HO225.out; subst eo17) | ((with_reducible refine gate_builtin (b := .append) (xs := #[.tmp 36, .tmp 38]) rfl ?_); at_builtin; refine Kd.N_append (Kd.slice 5 (Kd.int .u8)) (w0 := w) w.heap.size rfl (.tmp 36) (.tmp 38) 65 22 (.slice none 0 0) 24 rfl Try.underlying65 info22 rfl (by decide) (by omega) u5 x5_1 y223 [.slice Ao17 y223.length co17] (fun k_ => (P0_ k_ ∨ w.heap.size ≤ k_)) (fun k_ => ((fun k_ => (P0_ k_ ∨ w.heap.size ≤ k_))) k_ ∧ some k_ ≠ (u5 : Value).ownBlock) rfl rfl ?aP (fun _ hk => hk) ?aF ?aO ?aB ?aS ?aL ?_; (case aP => exact (Kd.FK_slice_mk (Kd.R_reads' (Kd.R_mono (ok' := (fun k_ => ((fun k_ => (P0_ k_ ∨ w.heap.size ≤ k_))) k_ ∧ some k_ ≠ (u5 : Value).ownBlock)) (Kd.R_apart' (HO225.out) (Kd.N_typed HO_5.out) (by decide)) (fun k_ hk => ⟨(.inr (hk.1.1)), hk.2⟩))).2.1 (Kd.R_F (Kd.R_mono (ok' := (fun k_ => ((fun k_ => (P0_ k_ ∨ w.heap.size ≤ k_))) k_ ∧ some k_ ≠ (u5 : Value).ownBlock)) (Kd.R_apart' (HO225.out) (Kd.N_typed HO_5.out) (by decide)) (fun k_ hk => ⟨(.inr (hk.1.1)), hk.2⟩))))); (case aB => exact (by repeat (first | (with_reducible first | exact HB.out | apply below_alloc | apply pw_below_drewN | apply below_drew1) | exact HB.out))); (case aF => exact (fun k_ hk => (.inr (Nat.le_trans (below_size (by repeat (first | (with_reducible first | exact HB.out | apply below_alloc | apply pw_below_drewN | apply below_drew1) | exact HB.out))) hk)))); (case aO => exact (by (with_reducible repeat (first | apply Kd.N_alloc | apply Kd.N_drewN | apply Kd.N_drew)); exact Kd.N_mono HO_5.out (fun _ hk => hk.1))); (case aS => exact (below_size (by repeat (first | (with_reducible first | exact HB.out | apply below_alloc | apply pw_below_drewN | apply below_drew1) | exact HB.out)))); (case aL => have := LMc12.out; omega); intro v227 w16 ho hb hg hat; rw [← Ny226.out] at ho; have n0_ := Aside0.mk (Kd.V_afterv (ok := (fun k_ => (P0_ k_ ∨ w.heap.size ≤ k_) ∧ some k_ ≠ (.slice Ao17 y223.length co17 : Value).ownBlock)) (by (with_reducible repeat (first | apply Kd.V_alloc | apply Kd.V_drewN | apply Kd.V_drew)); exact Kd.V_mono HO_0.out (fun _ hk => ⟨⟨hk.1.1, hk.2⟩, hk.1.2⟩)) hg hat); have n1_ := Aside0.mk (Kd.V_afterv (ok := (fun k_ => (P0_ k_ ∨ w.heap.size ≤ k_) ∧ some k_ ≠ (.slice Ao17 y223.length co17 : Value).ownBlock)) (by (with_reducible repeat (first | apply Kd.V_alloc | apply Kd.V_drewN | apply Kd.V_drew)); exact Kd.V_mono HL216_0.out (fun _ hk => ⟨⟨hk.1.1, hk.2⟩, hk.1.2⟩)) hg hat); have n2_ := Aside0.mk (Kd.V_afterv (ok := (fun k_ => (P0_ k_ ∨ w.heap.size ≤ k_) ∧ some k_ ≠ (.slice Ao17 y223.length co17 : Value).ownBlock)) (by (with_reducible repeat (first | apply Kd.V_alloc | apply Kd.V_drewN | apply Kd.V_drew)); exact Kd.V_mono HL217_0.out (fun _ hk => ⟨⟨hk.1.1, hk.2⟩, hk.1.2⟩)) hg hat); have n3_ := Aside0.mk (Kd.V_afterv (ok := (fun k_ => (P0_ k_ ∨ w.heap.size ≤ k_) ∧ some k_ ≠ (.slice Ao17 y223.length co17 : Value).ownBlock)) (by (with_reducible repeat (first | apply Kd.V_alloc | apply Kd.V_drewN | apply Kd.V_drew)); exact Kd.V_mono HO222.out (fun _ hk => ⟨⟨hk.1.1, hk.2⟩, hk.1.2⟩)) hg hat); have n4_ := Aside0.mk (hb); have n5_ := Aside0.mk (ho); clear HO_0; clear HL216_0; clear HL217_0; clear HO222; clear HB; clear HO_5; clear HO225; have HO_0 := n0_; have HL216_0 := n1_; have HL217_0 := n2_; have HO222 := n3_; have HB := n4_; have HO228 := n5_; clear n0_ n1_ n2_ n3_ n4_ n5_; clear ho hb hg hat))
                        repeat (go_quiet (first | ((with_reducible refine gate_dst (N := 35) rfl ?_); refine Kd.R_lit (Kd.int .u8) _ 5 ?hg (N := 35) ?hd (xs := ([(x6_1) % 256] : List Int)) (inner := [.int .u8 ((x6_1) % 256)]) (ok := fun _ => True) (okp := fun _ => True) ?hr ?hp (fun _ hk => hk) trivial (Below.refl _ _) (Nat.le_refl _) (by simp) ?_; (case hd => rfl); (case hg => rfl); (case hr => first | (go_simp; done) | (go_simp; rfl)); (case hp => exact (Reps.one (show Kd.M (Kd.int .u8) _ _ _ ((x6_1) % 256) [.int .u8 ((x6_1) % 256)] from rfl) (Reps.none _ _))); intro v224 w14 ho15 hb hg_ hnew_; clear hg_ hnew_; (first | rw [← Ny223.out] at ho15 | (simp only [Int.reduceToNat] at ho15; rw [← Ny223.out] at ho15)); have n0_ := Aside0.mk (Kd.V_elder' (by (with_reducible repeat (first | apply Kd.V_alloc | apply Kd.V_drewN | apply Kd.V_drew)); exact HO_0.out) (Kd.R_base ho15) hb); have n1_ := Aside0.mk (Kd.N_elder' (by (with_reducible repeat (first | apply Kd.N_alloc | apply Kd.N_drewN | apply Kd.N_drew)); exact HO_5.out) (Kd.R_base ho15) hb); have n2_ := Aside0.mk (Kd.V_elder' (by (with_reducible repeat (first | apply Kd.V_alloc | apply Kd.V_drewN | apply Kd.V_drew)); exact HL216_0.out) (Kd.R_base ho15) hb); have n3_ := Aside0.mk (Kd.V_elder' (by (with_reducible repeat (first | apply Kd.V_alloc | apply Kd.V_drewN | apply Kd.V_drew)); exact HL217_0.out) (Kd.R_base ho15) hb); have n4_ := Aside0.mk (Kd.V_elder' (by (with_reducible repeat (first | apply Kd.V_alloc | apply Kd.V_drewN | apply Kd.V_drew)); exact HO222.out) (Kd.R_base ho15) hb); have n5_ := Aside0.mk (Kd.R_lower (Kd.R_newM (M := fun k_ => (w.heap.size ≤ k_)) ho15 (below_size (by repeat (first | (with_reducible first | exact HB.out | apply below_alloc | apply pw_below_drewN | apply below_drew1) | exact HB.out))) (fun k_ h_ => h_)) (below_size (by repeat (first | (with_reducible first | exact HB.out | apply below_alloc | apply pw_below_drewN | apply below_drew1) | exact HB.out)))); have n6_ := Aside0.mk (Kd.C_below (by repeat (first | (with_reducible exact HR216_0.out) | (with_reducible refine Kd.C_alloc ?_ _) | (with_reducible refine Kd.C_drewN ?_ _) | (with_reducible refine Kd.C_drew ?_) | exact HR216_0.out)) hb); have n7_ := Aside0.mk (Kd.C_below (by repeat (first | (with_reducible exact HR217_0.out) | (with_reducible refine Kd.C_alloc ?_ _) | (with_reducible refine Kd.C_drewN ?_ _) | (with_reducible refine Kd.C_drew ?_) | exact HR217_0.out)) hb); have n8_ := Aside0.mk (below_step (by repeat (first | (with_reducible first | exact HB.out | apply below_alloc | apply pw_below_drewN | apply below_drew1) | exact HB.out)) hb); clear HO_0; clear HO_5; clear HL216_0; clear HL217_0; clear HO222; clear HR216_0; clear HR217_0; clear HB; have HO_0 := n0_; have HO_5 := n1_; have HL216_0 := n2_; have HL217_0 := n3_; have HO222 := n4_; have HO225 := n5_; have HR216_0 := n6_; have HR217_0 := n7_; have HB := n8_; clear n0_ n1_ n2_ n3_ n4_ n5_ n6_ n7_ n8_; clear hb ho15; obtain ⟨Ao17, co17, eo17⟩ := Kd.R_slice HO225.out; subst eo17) | ((with_reducible refine gate_builtin (b := .append) (xs := #[.tmp 36, .tmp 38]) rfl ?_); at_builtin; refine Kd.N_append (Kd.slice 5 (Kd.int .u8)) (w0 := w) w.heap.size rfl (.tmp 36) (.tmp 38) 65 22 (.slice none 0 0) 24 rfl Try.underlying65 info22 rfl (by decide) (by omega) u5 x5_1 y223 [.slice Ao17 y223.length co17] (fun k_ => (P0_ k_ ∨ w.heap.size ≤ k_)) (fun k_ => ((fun k_ => (P0_ k_ ∨ w.heap.size ≤ k_))) k_ ∧ some k_ ≠ (u5 : Value).ownBlock) rfl rfl ?aP (fun _ hk => hk) ?aF ?aO ?aB ?aS ?aL ?_; (case aP => exact (Kd.FK_slice_mk (Kd.R_reads' (Kd.R_mono (ok' := (fun k_ => ((fun k_ => (P0_ k_ ∨ w.heap.size ≤ k_))) k_ ∧ some k_ ≠ (u5 : Value).ownBlock)) (Kd.R_apart' (HO225.out) (Kd.N_typed HO_5.out) (by decide)) (fun k_ hk => ⟨(.inr (hk.1.1)), hk.2⟩))).2.1 (Kd.R_F (Kd.R_mono (ok' := (fun k_ => ((fun k_ => (P0_ k_ ∨ w.heap.size ≤ k_))) k_ ∧ some k_ ≠ (u5 : Value).ownBlock)) (Kd.R_apart' (HO225.out) (Kd.N_typed HO_5.out) (by decide)) (fun k_ hk => ⟨(.inr (hk.1.1)), hk.2⟩))))); (case aB => exact (by repeat (first | (with_reducible first | exact HB.out | apply below_alloc | apply pw_below_drewN | apply below_drew1) | exact HB.out))); (case aF => exact (fun k_ hk => (.inr (Nat.le_trans (below_size (by repeat (first | (with_reducible first | exact HB.out | apply below_alloc | apply pw_below_drewN | apply below_drew1) | exact HB.out))) hk)))); (case aO => exact (by (with_reducible repeat (first | apply Kd.N_alloc | apply Kd.N_drewN | apply Kd.N_drew)); exact Kd.N_mono HO_5.out (fun _ hk => hk.1))); (case aS => exact (below_size (by repeat (first | (with_reducible first | exact HB.out | apply below_alloc | apply pw_below_drewN | apply below_drew1) | exact HB.out)))); (case aL => have := LMc12.out; omega); intro v227 w16 ho hb hg hat; rw [← Ny226.out] at ho; have n0_ := Aside0.mk (Kd.V_afterv (ok := (fun k_ => (P0_ k_ ∨ w.heap.size ≤ k_) ∧ some k_ ≠ (.slice Ao17 y223.length co17 : Value).ownBlock)) (by (with_reducible repeat (first | apply Kd.V_alloc | apply Kd.V_drewN | apply Kd.V_drew)); exact Kd.V_mono HO_0.out (fun _ hk => ⟨⟨hk.1.1, hk.2⟩, hk.1.2⟩)) hg hat); have n1_ := Aside0.mk (Kd.V_afterv (ok := (fun k_ => (P0_ k_ ∨ w.heap.size ≤ k_) ∧ some k_ ≠ (.slice Ao17 y223.length co17 : Value).ownBlock)) (by (with_reducible repeat (first | apply Kd.V_alloc | apply Kd.V_drewN | apply Kd.V_drew)); exact Kd.V_mono HL216_0.out (fun _ hk => ⟨⟨hk.1.1, hk.2⟩, hk.1.2⟩)) hg hat); have n2_ := Aside0.mk (Kd.V_afterv (ok := (fun k_ => (P0_ k_ ∨ w.heap.size ≤ k_) ∧ some k_ ≠ (.slice Ao17 y223.length co17 : Value).ownBlock)) (by (with_reducible repeat (first | apply Kd.V_alloc | apply Kd.V_drewN | apply Kd.V_drew)); exact Kd.V_mono HL217_0.out (fun _ hk => ⟨⟨hk.1.1, hk.2⟩, hk.1.2⟩)) hg hat); have n3_ := Aside0.mk (Kd.V_afterv (ok := (fun k_ => (P0_ k_ ∨ w.heap.size ≤ k_) ∧ some k_ ≠ (.slice Ao17 y223.length co17 : Value).ownBlock)) (by (with_reducible repeat (first | apply Kd.V_alloc | apply Kd.V_drewN | apply Kd.V_drew)); exact Kd.V_mono HO222.out (fun _ hk => ⟨⟨hk.1.1, hk.2⟩, hk.1.2⟩)) hg hat); have n4_ := Aside0.mk (hb); have n5_ := Aside0.mk (ho); clear HO_0; clear HL216_0; clear HL217_0; clear HO222; clear HB; clear HO_5; clear HO225; have HO_0 := n0_; have HL216_0 := n1_; have HL217_0 := n2_; have HO222 := n3_; have HB := n4_; have HO228 := n5_; clear n0_ n1_ n2_ n3_ n4_ n5_; clear ho hb hg hat)); try go_wp2_with (first | ((with_reducible refine gate_dst (N := 35) rfl ?_); refine Kd.R_lit (Kd.int .u8) _ 5 ?hg (N := 35) ?hd (xs := ([(x6_1) % 256] : List Int)) (inner := [.int .u8 ((x6_1) % 256)]) (ok := fun _ => True) (okp := fun _ => True) ?hr ?hp (fun _ hk => hk) trivial (Below.refl _ _) (Nat.le_refl _) (by simp) ?_; (case hd => rfl); (case hg => rfl); (case hr => first | (go_simp; done) | (go_simp; rfl)); (case hp => exact (Reps.one (show Kd.M (Kd.int .u8) _ _ _ ((x6_1) % 256) [.int .u8 ((x6_1) % 256)] from rfl) (Reps.none _ _))); intro v224 w14 ho15 hb hg_ hnew_; clear hg_ hnew_; (first | rw [← Ny223.out] at ho15 | (simp only [Int.reduceToNat] at ho15; rw [← Ny223.out] at ho15)); have n0_ := Aside0.mk (Kd.V_elder' (by (with_reducible repeat (first | apply Kd.V_alloc | apply Kd.V_drewN | apply Kd.V_drew)); exact HO_0.out) (Kd.R_base ho15) hb); have n1_ := Aside0.mk (Kd.N_elder' (by (with_reducible repeat (first | apply Kd.N_alloc | apply Kd.N_drewN | apply Kd.N_drew)); exact HO_5.out) (Kd.R_base ho15) hb); have n2_ := Aside0.mk (Kd.V_elder' (by (with_reducible repeat (first | apply Kd.V_alloc | apply Kd.V_drewN | apply Kd.V_drew)); exact HL216_0.out) (Kd.R_base ho15) hb); have n3_ := Aside0.mk (Kd.V_elder' (by (with_reducible repeat (first | apply Kd.V_alloc | apply Kd.V_drewN | apply Kd.V_drew)); exact HL217_0.out) (Kd.R_base ho15) hb); have n4_ := Aside0.mk (Kd.V_elder' (by (with_reducible repeat (first | apply Kd.V_alloc | apply Kd.V_drewN | apply Kd.V_drew)); exact HO222.out) (Kd.R_base ho15) hb); have n5_ := Aside0.mk (Kd.R_lower (Kd.R_newM (M := fun k_ => (w.heap.size ≤ k_)) ho15 (below_size (by repeat (first | (with_reducible first | exact HB.out | apply below_alloc | apply pw_below_drewN | apply below_drew1) | exact HB.out))) (fun k_ h_ => h_)) (below_size (by repeat (first | (with_reducible first | exact HB.out | apply below_alloc | apply pw_below_drewN | apply below_drew1) | exact HB.out)))); have n6_ := Aside0.mk (Kd.C_below (by repeat (first | (with_reducible exact HR216_0.out) | (with_reducible refine Kd.C_alloc ?_ _) | (with_reducible refine Kd.C_drewN ?_ _) | (with_reducible refine Kd.C_drew ?_) | exact HR216_0.out)) hb); have n7_ := Aside0.mk (Kd.C_below (by repeat (first | (with_reducible exact HR217_0.out) | (with_reducible refine Kd.C_alloc ?_ _) | (with_reducible refine Kd.C_drewN ?_ _) | (with_reducible refine Kd.C_drew ?_) | exact HR217_0.out)) hb); have n8_ := Aside0.mk (below_step (by repeat (first | (with_reducible first | exact HB.out | apply below_alloc | apply pw_below_drewN | apply below_drew1) | exact HB.out)) hb); clear HO_0; clear HO_5; clear HL216_0; clear HL217_0; clear HO222; clear HR216_0; clear HR217_0; clear HB; have HO_0 := n0_; have HO_5 := n1_; have HL216_0 := n2_; have HL217_0 := n3_; have HO222 := n4_; have HO225 := n5_; have HR216_0 := n6_; have HR217_0 := n7_; have HB := n8_; clear n0_ n1_ n2_ n3_ n4_ n5_ n6_ n7_ n8_; clear hb ho15; obtain ⟨Ao17, co17, eo17⟩ := Kd.R_slice HO225.out; subst eo17) | ((with_reducible refine gate_builtin (b := .append) (xs := #[.tmp 36, .tmp 38]) rfl ?_); at_builtin; refine Kd.N_append (Kd.slice 5 (Kd.int .u8)) (w0 := w) w.heap.size rfl (.tmp 36) (.tmp 38) 65 22 (.slice none 0 0) 24 rfl Try.underlying65 info22 rfl (by decide) (by omega) u5 x5_1 y223 [.slice Ao17 y223.length co17] (fun k_ => (P0_ k_ ∨ w.heap.size ≤ k_)) (fun k_ => ((fun k_ => (P0_ k_ ∨ w.heap.size ≤ k_))) k_ ∧ some k_ ≠ (u5 : Value).ownBlock) rfl rfl ?aP (fun _ hk => hk) ?aF ?aO ?aB ?aS ?aL ?_; (case aP => exact (Kd.FK_slice_mk (Kd.R_reads' (Kd.R_mono (ok' := (fun k_ => ((fun k_ => (P0_ k_ ∨ w.heap.size ≤ k_))) k_ ∧ some k_ ≠ (u5 : Value).ownBlock)) (Kd.R_apart' (HO225.out) (Kd.N_typed HO_5.out) (by decide)) (fun k_ hk => ⟨(.inr (hk.1.1)), hk.2⟩))).2.1 (Kd.R_F (Kd.R_mono (ok' := (fun k_ => ((fun k_ => (P0_ k_ ∨ w.heap.size ≤ k_))) k_ ∧ some k_ ≠ (u5 : Value).ownBlock)) (Kd.R_apart' (HO225.out) (Kd.N_typed HO_5.out) (by decide)) (fun k_ hk => ⟨(.inr (hk.1.1)), hk.2⟩))))); (case aB => exact (by repeat (first | (with_reducible first | exact HB.out | apply below_alloc | apply pw_below_drewN | apply below_drew1) | exact HB.out))); (case aF => exact (fun k_ hk => (.inr (Nat.le_trans (below_size (by repeat (first | (with_reducible first | exact HB.out | apply below_alloc | apply pw_below_drewN | apply below_drew1) | exact HB.out))) hk)))); (case aO => exact (by (with_reducible repeat (first | apply Kd.N_alloc | apply Kd.N_drewN | apply Kd.N_drew)); exact Kd.N_mono HO_5.out (fun _ hk => hk.1))); (case aS => exact (below_size (by repeat (first | (with_reducible first | exact HB.out | apply below_alloc | apply pw_below_drewN | apply below_drew1) | exact HB.out)))); (case aL => have := LMc12.out; omega); intro v227 w16 ho hb hg hat; rw [← Ny226.out] at ho; have n0_ := Aside0.mk (Kd.V_afterv (ok := (fun k_ => (P0_ k_ ∨ w.heap.size ≤ k_) ∧ some k_ ≠ (.slice Ao17 y223.length co17 : Value).ownBlock)) (by (with_reducible repeat (first | apply Kd.V_alloc | apply Kd.V_drewN | apply Kd.V_drew)); exact Kd.V_mono HO_0.out (fun _ hk => ⟨⟨hk.1.1, hk.2⟩, hk.1.2⟩)) hg hat); have n1_ := Aside0.mk (Kd.V_afterv (ok := (fun k_ => (P0_ k_ ∨ w.heap.size ≤ k_) ∧ some k_ ≠ (.slice Ao17 y223.length co17 : Value).ownBlock)) (by (with_reducible repeat (first | apply Kd.V_alloc | apply Kd.V_drewN | apply Kd.V_drew)); exact Kd.V_mono HL216_0.out (fun _ hk => ⟨⟨hk.1.1, hk.2⟩, hk.1.2⟩)) hg hat); have n2_ := Aside0.mk (Kd.V_afterv (ok := (fun k_ => (P0_ k_ ∨ w.heap.size ≤ k_) ∧ some k_ ≠ (.slice Ao17 y223.length co17 : Value).ownBlock)) (by (with_reducible repeat (first | apply Kd.V_alloc | apply Kd.V_drewN | apply Kd.V_drew)); exact Kd.V_mono HL217_0.out (fun _ hk => ⟨⟨hk.1.1, hk.2⟩, hk.1.2⟩)) hg hat); have n3_ := Aside0.mk (Kd.V_afterv (ok := (fun k_ => (P0_ k_ ∨ w.heap.size ≤ k_) ∧ some k_ ≠ (.slice Ao17 y223.length co17 : Value).ownBlock)) (by (with_reducible repeat (first | apply Kd.V_alloc | apply Kd.V_drewN | apply Kd.V_drew)); exact Kd.V_mono HO222.out (fun _ hk => ⟨⟨hk.1.1, hk.2⟩, hk.1.2⟩)) hg hat); have n4_ := Aside0.mk (hb); have n5_ := Aside0.mk (ho); clear HO_0; clear HL216_0; clear HL217_0; clear HO222; clear HB; clear HO_5; clear HO225; have HO_0 := n0_; have HL216_0 := n1_; have HL217_0 := n2_; have HO222 := n3_; have HB := n4_; have HO228 := n5_; clear n0_ n1_ n2_ n3_ n4_ n5_; clear ho hb hg hat)))
                        go_roundg kj2
                        case measure => have := HK1.out; have := HJ2.out; omega
                        case rel => exact ⟨(y226), (wrap64 (x6_1 + 1)), (by first | rfl | (simp; done) | (simp [*]; done)), H', ⟨by have := HK1.out; have := HJ2.out; omega⟩, ⟨by (with_reducible repeat (first | apply Kd.V_alloc | apply Kd.V_drewN | apply Kd.V_drew)); exact Kd.V_mono HO_0.out (fun _ hk => ⟨hk.1.1, hk.2⟩)⟩, ⟨by (with_reducible repeat (first | apply Kd.N_alloc | apply Kd.N_drewN | apply Kd.N_drew)); exact HO228.out⟩, ⟨by repeat (first | (with_reducible first | exact HB.out | apply below_alloc | apply pw_below_drewN | apply below_drew1) | exact HB.out)⟩⟩
                      · rw [if_neg c12] at H
                        exact absurd H (by simp)
                    · rw [if_neg c11] at H
                      have c11b0 : ((y218.length : Int) == 0) = false := beq_eq_false_iff_ne.mpr c11
                      have c11b1 : ((y218.length : Int) != 0) = true := bne_iff_ne.mpr c11
                      have c11b2 : ¬ (y218 = []) := fun h_ => c11 (by rw [h_]; rfl)
                      by_cases c18 : x5_1.length < 5864062014805
                      · rw [if_pos c18] at H
                        have LMc18 := Aside0.mk c18
                        clear c18
                        obtain ⟨y229, hy229⟩ : ∃ y_ : List (List Int), y_ = (x5_1 ++ [y218]) := ⟨_, rfl⟩
                        replace H : (pacesetterref04_Good.l0 kj2 l0 a1 y229 (wrap64 (x6_1 + 1))) = some r := by first | (rw [hy229]; with_reducible exact H) | (have H2_ := (Option.bind_some _ _).symm.trans H; rw [hy229]; with_reducible exact H2_) | (have H2_ := (Option.bind_some _ _).symm.trans H; with_reducible exact H2_) | with_reducible exact H | (rw [hy229]; exact H) | exact H
                        have Ny229 := Aside0.mk hy229
                        clear hy229
                        have H' := Aside0.mk H
                        clear H
                        have p216 : 0 ≤ (x6_1 : Int) := of_decide_eq_true (by first | (with_reducible assumption) | assumption)
                        have q216 : x6_1 < (l0.length : Int) := of_decide_eq_true (by first | (with_reducible assumption) | assumption)
                        obtain ⟨ad216, A216_0, c216_0, e216, hx216_0, hl216_0, hi216_0⟩ := at_L1 (Kd.V_reads' HO_0.out).2.2 x6_1 p216 q216
                        cases e216
                        obtain ⟨ce216, hce216, hMe216, hcc216⟩ := Kd.V_get HO_0.out [] x6_1 p216 (by first | exact q216 | exact of_decide_eq_true (by first | (with_reducible assumption) | assumption) | (have e_ := (Kd.V_reads' HO_0.out).1; omega))
                        obtain ⟨ua216_0, uc216_0, rfl, ul216_0, ge216_0⟩ := Kd.FK_slice_open hMe216
                        have hv216_0 := hcc216 0 _ rfl
                        rw [Nat.add_zero, show ((Kd.slice 5 (Kd.int .u8))).sz = 1 from rfl, Nat.mul_one] at hv216_0
                        replace hv216_0 := Option.some.inj (hv216_0.symm.trans hx216_0)
                        injection hv216_0 with hva_ hvn_ hvc_
                        rw [hva_] at ge216_0
                        rw [hvc_] at ul216_0
                        have HL216_0 := Aside0.mk (show Kd.V (Kd.int .u8) 5 _ w.heap.size _ _ (rd_L1 l0 x6_1) from Kd.V_mk ul216_0 ge216_0)
                        clear hva_ hvn_ hvc_ ge216_0 ul216_0
                        clear hcc216 hce216
                        have HR216_0 := Aside0.mk hi216_0
                        have HC216_0 := Aside0.mk hl216_0
                        clear hi216_0 hl216_0
                        replace p216 := eq_true p216
                        replace q216 := eq_true q216
                        have p217 : 0 ≤ (x6_1 : Int) := of_decide_eq_true (by first | (with_reducible assumption) | assumption)
                        have q217 : x6_1 < (l0.length : Int) := of_decide_eq_true (by first | (with_reducible assumption) | assumption)
                        obtain ⟨ad217, A217_0, c217_0, e217, hx217_0, hl217_0, hi217_0⟩ := at_L1 (Kd.V_reads' HO_0.out).2.2 x6_1 p217 q217
                        obtain rfl : ad216 = ad217 := (by injection e217)
                        obtain ⟨ce217, hce217, hMe217, hcc217⟩ := Kd.V_get HO_0.out [] x6_1 p217 (by first | exact q217 | exact of_decide_eq_true (by first | (with_reducible assumption) | assumption) | (have e_ := (Kd.V_reads' HO_0.out).1; omega))
                        obtain ⟨ua217_0, uc217_0, rfl, ul217_0, ge217_0⟩ := Kd.FK_slice_open hMe217
                        have hv217_0 := hcc217 0 _ rfl
                        rw [Nat.add_zero, show ((Kd.slice 5 (Kd.int .u8))).sz = 1 from rfl, Nat.mul_one] at hv217_0
                        replace hv217_0 := Option.some.inj (hv217_0.symm.trans hx217_0)
                        injection hv217_0 with hva_ hvn_ hvc_
                        rw [hva_] at ge217_0
                        rw [hvc_] at ul217_0
                        have HL217_0 := Aside0.mk (show Kd.V (Kd.int .u8) 5 _ w.heap.size _ _ (rd_L1 l0 x6_1) from Kd.V_mk ul217_0 ge217_0)
                        clear hva_ hvn_ hvc_ ge217_0 ul217_0
                        clear hcc217 hce217
                        have HR217_0 := Aside0.mk hi217_0
                        have HC217_0 := Aside0.mk hl217_0
                        clear hi217_0 hl217_0
                        replace p217 := eq_true p217
                        replace q217 := eq_true q217
                        have ea_ := Option.some.inj (hx216_0.symm.trans hx217_0)
                        injection ea_ with ea_ en_ ec_
                        subst ea_
                        subst ec_
                        clear en_
                        have q19 : ((ji8) : Int) ≤ (((rd_L1 l0 x6_1).length : Int) : Int) := of_decide_eq_true (by first | (with_reducible assumption) | assumption)
                        obtain ⟨i019, hi019, _, hsz19, _⟩ := info_parts info5
                        have hroom19 : (rd_L1 l0 x6_1).length ≤ c216_0 := HC216_0.out
                        have hC19 : Kd.F (Kd.int .u8) _ _ A216_0 (rd_L1 l0 x6_1).length (rd_L1 l0 x6_1) := (Kd.V_at (base := w.heap.size) HL216_0.out).2.2
                        have hcut19 := cut_to (P := Try.prog) 22 5 .i64 Try.underlying22 hi019 A216_0 (rd_L1 l0 x6_1).length c216_0 (ji8) (of_decide_eq_true (by first | (with_reducible assumption) | assumption)) q19 hroom19
                        have hr19 := Kd.F_take (m := ((ji8) : Int).toNat) hC19 (by omega)
                        have hy19 : y218.length = ((ji8) : Int).toNat := (by rw [Ny218.out, List.length_take]; omega)
                        rw [← Ny218.out] at hr19
                        rw [← hy19] at hcut19
                        have HO222 := Aside0.mk (show Kd.V (Kd.int .u8) 5 _ w.heap.size _ (.slice A216_0 y218.length c216_0) y218 from Kd.V_mk (by omega) hr19)
                        have HC222 := Aside0.mk (show y218.length ≤ c216_0 from by omega)
                        clear hr19 hC19 hroom19 hi019 hsz19
                        have KY19 := Aside0.mk hy19
                        clear hy19
                        replace q19 := eq_true q19
                        go_wp2_with (first | ((with_reducible refine gate_builtin (b := .append) (xs := #[.tmp 36, .tmp 38]) rfl ?_); at_builtin; refine Kd.N_append (Kd.slice 5 (Kd.int .u8)) (w0 := w) w.heap.size rfl (.tmp 36) (.tmp 38) 65 22 (.slice none 0 0) 24 rfl Try.underlying65 info22 rfl (by decide) (by omega) u5 x5_1 y218 [.slice A216_0 y218.length c216_0] (fun k_ => (P0_ k_ ∨ w.heap.size ≤ k_)) (fun k_ => ((fun k_ => (P0_ k_ ∨ w.heap.size ≤ k_))) k_ ∧ some k_ ≠ (u5 : Value).ownBlock) rfl rfl ?aP (fun _ hk => hk) ?aF ?aO ?aB ?aS ?aL ?_; (case aP => exact (Kd.FK_slice_mk (Kd.V_reads' (Kd.V_mono (ok' := (fun k_ => ((fun k_ => (P0_ k_ ∨ w.heap.size ≤ k_))) k_ ∧ some k_ ≠ (u5 : Value).ownBlock)) (Kd.V_drewN HO222.out nq) (fun k_ hk => ⟨hk.1, hk.2⟩))).2.1 (Kd.V_F (Kd.V_mono (ok' := (fun k_ => ((fun k_ => (P0_ k_ ∨ w.heap.size ≤ k_))) k_ ∧ some k_ ≠ (u5 : Value).ownBlock)) (Kd.V_drewN HO222.out nq) (fun k_ hk => ⟨hk.1, hk.2⟩))))); (case aB => exact (by repeat (first | (with_reducible first | exact HB.out | apply below_alloc | apply pw_below_drewN | apply below_drew1) | exact HB.out))); (case aF => exact (fun k_ hk => (.inr (Nat.le_trans (below_size (by repeat (first | (with_reducible first | exact HB.out | apply below_alloc | apply pw_below_drewN | apply below_drew1) | exact HB.out))) hk)))); (case aO => exact (by (with_reducible repeat (first | apply Kd.N_alloc | apply Kd.N_drewN | apply Kd.N_drew)); exact HO_5.out)); (case aS => exact (below_size (by repeat (first | (with_reducible first | exact HB.out | apply below_alloc | apply pw_below_drewN | apply below_drew1) | exact HB.out)))); (case aL => have := LMc18.out; omega); intro v230 w20 ho hb hg hat; rw [← Ny229.out] at ho; have n0_ := Aside0.mk (Kd.V_afterv (ok := (fun k_ => (P0_ k_ ∨ w.heap.size ≤ k_))) (by (with_reducible repeat (first | apply Kd.V_alloc | apply Kd.V_drewN | apply Kd.V_drew)); exact HO_0.out) hg hat); have n1_ := Aside0.mk (Kd.V_afterv (ok := (fun k_ => (P0_ k_ ∨ w.heap.size ≤ k_))) (by (with_reducible repeat (first | apply Kd.V_alloc | apply Kd.V_drewN | apply Kd.V_drew)); exact HL216_0.out) hg hat); have n2_ := Aside0.mk (Kd.V_afterv (ok := (fun k_ => (P0_ k_ ∨ w.heap.size ≤ k_))) (by (with_reducible repeat (first | apply Kd.V_alloc | apply Kd.V_drewN | apply Kd.V_drew)); exact HL217_0.out) hg hat); have n3_ := Aside0.mk (Kd.V_afterv (ok := (fun k_ => (P0_ k_ ∨ w.heap.size ≤ k_))) (by (with_reducible repeat (first | apply Kd.V_alloc | apply Kd.V_drewN | apply Kd.V_drew)); exact HO222.out) hg hat); have n4_ := Aside0.mk (hb); have n5_ := Aside0.mk (ho); clear HO_0; clear HL216_0; clear HL217_0; clear HO222; clear HB; clear HO_5; have HO_0 := n0_; have HL216_0 := n1_; have HL217_0 := n2_; have HO222 := n3_; have HB := n4_; have HO231 := n5_; clear n0_ n1_ n2_ n3_ n4_ n5_; clear ho hb hg hat))
                        repeat (go_quiet (first | ((with_reducible refine gate_builtin (b := .append) (xs := #[.tmp 36, .tmp 38]) rfl ?_); at_builtin; refine Kd.N_append (Kd.slice 5 (Kd.int .u8)) (w0 := w) w.heap.size rfl (.tmp 36) (.tmp 38) 65 22 (.slice none 0 0) 24 rfl Try.underlying65 info22 rfl (by decide) (by omega) u5 x5_1 y218 [.slice A216_0 y218.length c216_0] (fun k_ => (P0_ k_ ∨ w.heap.size ≤ k_)) (fun k_ => ((fun k_ => (P0_ k_ ∨ w.heap.size ≤ k_))) k_ ∧ some k_ ≠ (u5 : Value).ownBlock) rfl rfl ?aP (fun _ hk => hk) ?aF ?aO ?aB ?aS ?aL ?_; (case aP => exact (Kd.FK_slice_mk (Kd.V_reads' (Kd.V_mono (ok' := (fun k_ => ((fun k_ => (P0_ k_ ∨ w.heap.size ≤ k_))) k_ ∧ some k_ ≠ (u5 : Value).ownBlock)) (Kd.V_drewN HO222.out nq) (fun k_ hk => ⟨hk.1, hk.2⟩))).2.1 (Kd.V_F (Kd.V_mono (ok' := (fun k_ => ((fun k_ => (P0_ k_ ∨ w.heap.size ≤ k_))) k_ ∧ some k_ ≠ (u5 : Value).ownBlock)) (Kd.V_drewN HO222.out nq) (fun k_ hk => ⟨hk.1, hk.2⟩))))); (case aB => exact (by repeat (first | (with_reducible first | exact HB.out | apply below_alloc | apply pw_below_drewN | apply below_drew1) | exact HB.out))); (case aF => exact (fun k_ hk => (.inr (Nat.le_trans (below_size (by repeat (first | (with_reducible first | exact HB.out | apply below_alloc | apply pw_below_drewN | apply below_drew1) | exact HB.out))) hk)))); (case aO => exact (by (with_reducible repeat (first | apply Kd.N_alloc | apply Kd.N_drewN | apply Kd.N_drew)); exact HO_5.out)); (case aS => exact (below_size (by repeat (first | (with_reducible first | exact HB.out | apply below_alloc | apply pw_below_drewN | apply below_drew1) | exact HB.out)))); (case aL => have := LMc18.out; omega); intro v230 w20 ho hb hg hat; rw [← Ny229.out] at ho; have n0_ := Aside0.mk (Kd.V_afterv (ok := (fun k_ => (P0_ k_ ∨ w.heap.size ≤ k_))) (by (with_reducible repeat (first | apply Kd.V_alloc | apply Kd.V_drewN | apply Kd.V_drew)); exact HO_0.out) hg hat); have n1_ := Aside0.mk (Kd.V_afterv (ok := (fun k_ => (P0_ k_ ∨ w.heap.size ≤ k_))) (by (with_reducible repeat (first | apply Kd.V_alloc | apply Kd.V_drewN | apply Kd.V_drew)); exact HL216_0.out) hg hat); have n2_ := Aside0.mk (Kd.V_afterv (ok := (fun k_ => (P0_ k_ ∨ w.heap.size ≤ k_))) (by (with_reducible repeat (first | apply Kd.V_alloc | apply Kd.V_drewN | apply Kd.V_drew)); exact HL217_0.out) hg hat); have n3_ := Aside0.mk (Kd.V_afterv (ok := (fun k_ => (P0_ k_ ∨ w.heap.size ≤ k_))) (by (with_reducible repeat (first | apply Kd.V_alloc | apply Kd.V_drewN | apply Kd.V_drew)); exact HO222.out) hg hat); have n4_ := Aside0.mk (hb); have n5_ := Aside0.mk (ho); clear HO_0; clear HL216_0; clear HL217_0; clear HO222; clear HB; clear HO_5; have HO_0 := n0_; have HL216_0 := n1_; have HL217_0 := n2_; have HO222 := n3_; have HB := n4_; have HO231 := n5_; clear n0_ n1_ n2_ n3_ n4_ n5_; clear ho hb hg hat)); try go_wp2_with (first | ((with_reducible refine gate_builtin (b := .append) (xs := #[.tmp 36, .tmp 38]) rfl ?_); at_builtin; refine Kd.N_append (Kd.slice 5 (Kd.int .u8)) (w0 := w) w.heap.size rfl (.tmp 36) (.tmp 38) 65 22 (.slice none 0 0) 24 rfl Try.underlying65 info22 rfl (by decide) (by omega) u5 x5_1 y218 [.slice A216_0 y218.length c216_0] (fun k_ => (P0_ k_ ∨ w.heap.size ≤ k_)) (fun k_ => ((fun k_ => (P0_ k_ ∨ w.heap.size ≤ k_))) k_ ∧ some k_ ≠ (u5 : Value).ownBlock) rfl rfl ?aP (fun _ hk => hk) ?aF ?aO ?aB ?aS ?aL ?_; (case aP => exact (Kd.FK_slice_mk (Kd.V_reads' (Kd.V_mono (ok' := (fun k_ => ((fun k_ => (P0_ k_ ∨ w.heap.size ≤ k_))) k_ ∧ some k_ ≠ (u5 : Value).ownBlock)) (Kd.V_drewN HO222.out nq) (fun k_ hk => ⟨hk.1, hk.2⟩))).2.1 (Kd.V_F (Kd.V_mono (ok' := (fun k_ => ((fun k_ => (P0_ k_ ∨ w.heap.size ≤ k_))) k_ ∧ some k_ ≠ (u5 : Value).ownBlock)) (Kd.V_drewN HO222.out nq) (fun k_ hk => ⟨hk.1, hk.2⟩))))); (case aB => exact (by repeat (first | (with_reducible first | exact HB.out | apply below_alloc | apply pw_below_drewN | apply below_drew1) | exact HB.out))); (case aF => exact (fun k_ hk => (.inr (Nat.le_trans (below_size (by repeat (first | (with_reducible first | exact HB.out | apply below_alloc | apply pw_below_drewN | apply below_drew1) | exact HB.out))) hk)))); (case aO => exact (by (with_reducible repeat (first | apply Kd.N_alloc | apply Kd.N_drewN | apply Kd.N_drew)); exact HO_5.out)); (case aS => exact (below_size (by repeat (first | (with_reducible first | exact HB.out | apply below_alloc | apply pw_below_drewN | apply below_drew1) | exact HB.out)))); (case aL => have := LMc18.out; omega); intro v230 w20 ho hb hg hat; rw [← Ny229.out] at ho; have n0_ := Aside0.mk (Kd.V_afterv (ok := (fun k_ => (P0_ k_ ∨ w.heap.size ≤ k_))) (by (with_reducible repeat (first | apply Kd.V_alloc | apply Kd.V_drewN | apply Kd.V_drew)); exact HO_0.out) hg hat); have n1_ := Aside0.mk (Kd.V_afterv (ok := (fun k_ => (P0_ k_ ∨ w.heap.size ≤ k_))) (by (with_reducible repeat (first | apply Kd.V_alloc | apply Kd.V_drewN | apply Kd.V_drew)); exact HL216_0.out) hg hat); have n2_ := Aside0.mk (Kd.V_afterv (ok := (fun k_ => (P0_ k_ ∨ w.heap.size ≤ k_))) (by (with_reducible repeat (first | apply Kd.V_alloc | apply Kd.V_drewN | apply Kd.V_drew)); exact HL217_0.out) hg hat); have n3_ := Aside0.mk (Kd.V_afterv (ok := (fun k_ => (P0_ k_ ∨ w.heap.size ≤ k_))) (by (with_reducible repeat (first | apply Kd.V_alloc | apply Kd.V_drewN | apply Kd.V_drew)); exact HO222.out) hg hat); have n4_ := Aside0.mk (hb); have n5_ := Aside0.mk (ho); clear HO_0; clear HL216_0; clear HL217_0; clear HO222; clear HB; clear HO_5; have HO_0 := n0_; have HL216_0 := n1_; have HL217_0 := n2_; have HO222 := n3_; have HB := n4_; have HO231 := n5_; clear n0_ n1_ n2_ n3_ n4_ n5_; clear ho hb hg hat)))
                        go_roundg kj2
                        case measure => have := HK1.out; have := HJ2.out; omega
                        case rel => exact ⟨(y229), (wrap64 (x6_1 + 1)), (by first | rfl | (simp; done) | (simp [*]; done)), H', ⟨by have := HK1.out; have := HJ2.out; omega⟩, ⟨by (with_reducible repeat (first | apply Kd.V_alloc | apply Kd.V_drewN | apply Kd.V_drew)); exact HO_0.out⟩, ⟨by (with_reducible repeat (first | apply Kd.N_alloc | apply Kd.N_drewN | apply Kd.N_drew)); exact HO231.out⟩, ⟨by repeat (first | (with_reducible first | exact HB.out | apply below_alloc | apply pw_below_drewN | apply below_drew1) | exact HB.out)⟩⟩
                      · rw [if_neg c18] at H
                        exact absurd H (by simp)
                  · rw [if_neg c10] at H
                    exact absurd H (by simp)
                · rw [if_neg c9] at H
                  exact absurd H (by simp)
              · rw [if_neg c7] at H
                exact absurd H (by simp)
            · rw [if_neg c6] at H
              exact absurd H (by simp)
          · replace c5 := Bool.eq_false_iff.mpr c5
            subst c5
            have H1 : (some x5_1) = some r := by rw [if_neg (show ¬ (false = true) by decide)] at H; exact H
            clear H
            have H := H1
            clear H1
            obtain rfl := Option.some.inj H
            go_wp2
            repeat (go_quiet (fail); try go_wp2)
            go_ret
            exact ⟨_, by first | rfl | (simp [errW_none, errW_some] <;> rfl) | (simp [*, errW_none, errW_some] <;> rfl), by (with_reducible repeat (first | apply Kd.N_alloc | apply Kd.N_drewN | apply Kd.N_drew)); exact HO_5.out, by repeat (first | (with_reducible first | exact HB.out | apply below_alloc | apply pw_below_drewN | apply below_drew1) | exact HB.out)⟩

end Go.Proofs.Ytbcienbnhchdeaa.Print

-- Printed by a program of this session (wip/patch_print.py over the kit's print); Lean checks it.
namespace Go.Proofs.Ytbcienbnhchdeaa.Print
open Go.RowKit Go.Proofs.YtbcienbnhchdeaaW.PrintWords Go.Proofs.YtbcienbnhchdeaaW.PrintLast Go.Proofs.YtbcienbnhchdeaaW.PrintMore
attribute [local go_sem] max2_int min2_int max_two min_two max_three min_three max_four min_four   -- for this text's walks alone
set_option linter.unusedVariables false
set_option linter.unusedSimpArgs false

/-! ### pacesetterref04_All: function 67 -/
def pacesetterref04_All.l0 : Nat → List (List Int) → List Int → Int → Option (List Int)
  | 0, _, _, _ => none
  | k + 1, x0, x3, x4 => if x4 < (x0.length : Int) then (if 0 ≤ x4 then ((pacesetterref04_Put.f k x3 (rd_L1 x0 x4)).bind fun bt233 => (pacesetterref04_All.l0 k x0 bt233.1 (wrap64 (x4 + 1)))) else (none)) else (some x3)
def pacesetterref04_All.f (k : Nat) (l0 : List (List Int)) : Option (List Int) := pacesetterref04_All.l0 k l0 ([] : List Int) 0
theorem pacesetterref04_All.mono_l : ∀ k, (∀ y0 y1 y2, LeO (pacesetterref04_All.l0 k y0 y1 y2) (pacesetterref04_All.l0 (k + 1) y0 y1 y2))
  | 0 => fun _ _ _ r h => by simp [pacesetterref04_All.l0] at h
  | k + 1 => by
    have ih0 := pacesetterref04_All.mono_l k
    · intro y0 y1 y2
      unfold pacesetterref04_All.l0
      repeat' first
      | (with_reducible exact ih0 _ _ _)
      | (with_reducible exact pacesetterref04_Put.mono _ _ _)
      | (with_reducible exact LeO.refl _)
      | (with_reducible exact LeO.none _)
      | (with_reducible refine LeO.ite ?_ ?_)
      | (with_reducible refine LeO.bind ?_ (fun _ => ?_))
      | exact ih0 _ _ _
      | exact pacesetterref04_Put.mono _ _ _
      | exact LeO.none _
      | refine LeO.ite ?_ ?_
      | refine LeO.bind ?_ (fun _ => ?_)
theorem pacesetterref04_All.mono : ∀ a0 k, LeO (pacesetterref04_All.f k a0) (pacesetterref04_All.f (k + 1) a0) := by
  intro a0 k
  have ih0 := pacesetterref04_All.mono_l k
  unfold pacesetterref04_All.f
  repeat' first
      | (with_reducible exact ih0 _ _ _)
      | (with_reducible exact pacesetterref04_Put.mono _ _ _)
      | (with_reducible exact LeO.refl _)
      | (with_reducible exact LeO.none _)
      | (with_reducible refine LeO.ite ?_ ?_)
      | (with_reducible refine LeO.bind ?_ (fun _ => ?_))
      | exact ih0 _ _ _
      | exact pacesetterref04_Put.mono _ _ _
      | exact LeO.none _
      | refine LeO.ite ?_ ?_
      | refine LeO.bind ?_ (fun _ => ?_)
set_option maxHeartbeats 8000000 in
set_option maxRecDepth 100000 in
theorem pacesetterref04_All.calls (k : Nat) (A0 : Option Addr) (c0 : Nat) (l0 : List (List Int)) (r : List Int) (w : World) (hr0 : Kd.C (Kd.slice 5 (Kd.int .u8)) w A0 l0.length l0) (hc0 : l0.length ≤ c0) (h : pacesetterref04_All.f k l0 = some r) :
    Calls Try.prog 67 #[.slice A0 l0.length c0] w fun e w' => ∃ v0_ : Value, e = .returned (v0_) ∧ Kd.R (Kd.int .u8) 5 w' w.heap.size (fun _ => True) v0_ r ∧ Below w.heap.size w w' := by
  have HR0 := Aside0.mk hr0
  have HC0 := Aside0.mk hc0
  clear hr0 hc0
  have HB := Aside0.mk (Below.refl w.heap.size w)
  have H : (pacesetterref04_All.l0 k l0 ([] : List Int) 0) = some r := h
  clear h
  have H' := Aside0.mk H
  clear H
  go_enter Try.func67, Try.ntmps67
  go_wp2
  go_loopg [3, 4] k (fun kq v3 v4 w' => ∃ (x3_1 : List Int) (x4_1 : Int), v4 = .int .i64 x4_1 ∧ Aside0 (pacesetterref04_All.l0 kq l0 x3_1 x4_1 = some r) ∧ Aside0 (kq ≤ k) ∧ Aside0 (Kd.R (Kd.int .u8) 5 w' w.heap.size (fun _ => True) v3 x3_1) ∧ Aside0 (Below w.heap.size w w'))
  case atStart => exact ⟨(([] : List Int)), (0), (by first | rfl | (simp; done) | (simp [*]; done)), H', ⟨Nat.le_refl _⟩, ⟨by first | exact Kd.R_nil _ _ _ _ _ | exact Kd.N_nil _ _ _ _ _ | exact Kd.V_nil _ _ _ _ _ | exact Kd.Q_nil _ _ _ _ _ | exact Kd.S_nil _ _ _ _ _⟩, ⟨by repeat (first | (with_reducible first | exact HB.out | apply below_alloc | apply pw_below_drewN | apply below_drew1) | exact HB.out)⟩⟩
  case round =>
    clear H'
    obtain ⟨x3_1, x4_1, rfl, HA, HK1, HO_3, HB⟩ := hrel
    cases gk with
    | zero => exact absurd HA.out (by simp [pacesetterref04_All.l0])
    | succ k1 =>
      have H := HA.out
      clear HA
      simp only [pacesetterref04_All.l0] at H
      by_cases c2 : x4_1 < (l0.length : Int)
      · rw [if_pos c2] at H
        have c2b0 : decide (x4_1 < (l0.length : Int)) = true := decide_eq_true c2
        clear c2
        by_cases c3 : 0 ≤ x4_1
        · rw [if_pos c3] at H
          have c3b0 : decide (0 ≤ x4_1) = true := decide_eq_true c3
          clear c3
          replace H := Option.bind_eq_some_iff.mp H
          obtain ⟨⟨t233, t236⟩, A40, H⟩ := H
          replace H : (pacesetterref04_All.l0 k1 l0 t233 (wrap64 (x4_1 + 1))) = some r := H
          have A4 := Aside0.mk A40
          clear A40
          have H' := Aside0.mk H
          clear H
          have p232 : 0 ≤ (x4_1 : Int) := of_decide_eq_true (by first | (with_reducible assumption) | assumption)
          have q232 : x4_1 < (l0.length : Int) := of_decide_eq_true (by first | (with_reducible assumption) | assumption)
          obtain ⟨ad232, A232_0, c232_0, e232, hx232_0, hl232_0, hi232_0⟩ := at_L1 HR0.out x4_1 p232 q232
          cases e232
          replace hx232_0 := (HB.out.cell (World.block_lt_of_cell? w _ hx232_0)).trans hx232_0
          have HR232_0 := Aside0.mk hi232_0
          have HC232_0 := Aside0.mk hl232_0
          clear hi232_0 hl232_0
          replace p232 := eq_true p232
          replace q232 := eq_true q232
          obtain ⟨Ao5, co5, eo5⟩ := Kd.R_slice HO_3.out
          subst eo5
          go_wp2_with (first | ((with_reducible refine gate_callee (f := 63) rfl ?_); refine goesL_ (some 19) rfl rfl Try.func63 (by kernel_rfl) rfl #[.slice Ao5 x3_1.length co5, .slice A232_0 (rd_L1 l0 x4_1).length c232_0] rfl (by (try simp only [List.map_toArray, List.map_cons, List.map_nil]); first | done | rfl | (simp only [List.length_drop, List.length_take]; rfl)) ?_; (with_reducible refine (pacesetterref04_Put.calls k1 (fun k_ => some k_ = (.slice Ao5 x3_1.length co5 : Value).ownBlock) (.slice Ao5 x3_1.length co5) x3_1 _ _ (rd_L1 l0 x4_1) t233 t236 w _ ?side1 ?side2 ?side3 ?side4 A4.out).mono ?_); (case side1 => repeat (first | (with_reducible first | exact HB.out | apply below_alloc | apply pw_below_drewN | apply below_drew1) | exact HB.out)); (case side2 => exact Kd.R_tight rfl HO_3.out); (case side3 => exact Kd.C_kept_came (Kd.heap_int .u8) HR232_0.out (by repeat (first | (with_reducible first | exact HB.out | apply below_alloc | apply pw_below_drewN | apply below_drew1) | exact HB.out)) (fun k_ hs_ => (fun e_ => Kd.R_base HO_3.out k_ e_.symm) hs_)); (case side4 => exact HC232_0.out); rintro e w6 ⟨v234, rfl, ho0, hb, hkp⟩; refine ⟨_, rfl, ?_⟩; have n0_ := Aside0.mk (Kd.R_mono (ok' := fun k_ => True) ho0 (fun k_ hk_ => trivial)); have n1_ := Aside0.mk (hb); clear HB; clear HO_3; have HO235 := n0_; have HB := n1_; clear n0_ n1_; (try clear hb); (try clear hkp); (try clear ho0)))
          go_roundg k1
          case measure => have := HK1.out; omega
          case rel => exact ⟨(t233), (wrap64 (x4_1 + 1)), (by first | rfl | (simp; done) | (simp [*]; done)), H', ⟨by have := HK1.out; omega⟩, ⟨by (with_reducible repeat (first | apply Kd.R_alloc | apply Kd.R_drewN | apply Kd.R_drew)); exact HO235.out⟩, ⟨by repeat (first | (with_reducible first | exact HB.out | apply below_alloc | apply pw_below_drewN | apply below_drew1) | exact HB.out)⟩⟩
        · rw [if_neg c3] at H
          exact absurd H (by simp)
      · rw [if_neg c2] at H
        have c2b0 : decide (x4_1 < (l0.length : Int)) = false := decide_eq_false c2
        clear c2
        obtain rfl := Option.some.inj H
        go_wp2
        go_ret
        exact ⟨_, by first | rfl | (simp [errW_none, errW_some] <;> rfl) | (simp [*, errW_none, errW_some] <;> rfl), by (with_reducible repeat (first | apply Kd.R_alloc | apply Kd.R_drewN | apply Kd.R_drew)); exact HO_3.out, by repeat (first | (with_reducible first | exact HB.out | apply below_alloc | apply pw_below_drewN | apply below_drew1) | exact HB.out)⟩

end Go.Proofs.Ytbcienbnhchdeaa.Print

-- Printed by a program of this session (wip/patch_print.py over the kit's print); Lean checks it.
-- cut_print: 4
namespace Go.Proofs.Ytbcienbnhchdeaa.Print
open Go.RowKit Go.Proofs.YtbcienbnhchdeaaW.PrintWords Go.Proofs.YtbcienbnhchdeaaW.PrintLast Go.Proofs.YtbcienbnhchdeaaW.PrintMore
attribute [local go_sem] max2_int min2_int max_two min_two max_three min_three max_four min_four   -- for this text's walks alone
set_option linter.unusedVariables false
set_option linter.unusedSimpArgs false

/-! ### pacesetterref04_Same: function 69 -/
def pacesetterref04_Same.l0 : Nat → List (List Int) → List (List Int) → Int → Option (Bool)
  | 0, _, _, _ => none
  | k + 1, x0, x1, x5 => if x5 < (x0.length : Int) then (if 0 ≤ x5 then (if x5 < (x1.length : Int) then (if (strOfNums (rd_L1 x0 x5)).toList = (strOfNums (rd_L1 x1 x5)).toList then (pacesetterref04_Same.l0 k x0 x1 (wrap64 (x5 + 1))) else (some false)) else (none)) else (none)) else (some true)
def pacesetterref04_Same.f (k : Nat) (l0 : List (List Int)) (l1 : List (List Int)) : Option (Bool) := if (l0.length : Int) = (l1.length : Int) then (pacesetterref04_Same.l0 k l0 l1 0) else (some false)
theorem pacesetterref04_Same.mono_l : ∀ k, (∀ y0 y1 y2, LeO (pacesetterref04_Same.l0 k y0 y1 y2) (pacesetterref04_Same.l0 (k + 1) y0 y1 y2))
  | 0 => fun _ _ _ r h => by simp [pacesetterref04_Same.l0] at h
  | k + 1 => by
    have ih0 := pacesetterref04_Same.mono_l k
    · intro y0 y1 y2
      unfold pacesetterref04_Same.l0
      repeat' first
      | (with_reducible exact ih0 _ _ _)
      | (with_reducible exact LeO.refl _)
      | (with_reducible exact LeO.none _)
      | (with_reducible refine LeO.ite ?_ ?_)
      | (with_reducible refine LeO.bind ?_ (fun _ => ?_))
      | exact ih0 _ _ _
      | exact LeO.none _
      | refine LeO.ite ?_ ?_
      | refine LeO.bind ?_ (fun _ => ?_)
theorem pacesetterref04_Same.mono : ∀ a0 a1 k, LeO (pacesetterref04_Same.f k a0 a1) (pacesetterref04_Same.f (k + 1) a0 a1) := by
  intro a0 a1 k
  have ih0 := pacesetterref04_Same.mono_l k
  unfold pacesetterref04_Same.f
  repeat' first
      | (with_reducible exact ih0 _ _ _)
      | (with_reducible exact LeO.refl _)
      | (with_reducible exact LeO.none _)
      | (with_reducible refine LeO.ite ?_ ?_)
      | (with_reducible refine LeO.bind ?_ (fun _ => ?_))
      | exact ih0 _ _ _
      | exact LeO.none _
      | refine LeO.ite ?_ ?_
      | refine LeO.bind ?_ (fun _ => ?_)
set_option maxHeartbeats 8000000 in
set_option maxRecDepth 100000 in
theorem pacesetterref04_Same.calls (k : Nat) (A0 : Option Addr) (c0 : Nat) (l0 : List (List Int)) (A1 : Option Addr) (c1 : Nat) (l1 : List (List Int)) (r : Bool) (w : World) (hr0 : Kd.C (Kd.slice 5 (Kd.int .u8)) w A0 l0.length l0) (hc0 : l0.length ≤ c0) (hr1 : Kd.C (Kd.slice 5 (Kd.int .u8)) w A1 l1.length l1) (hc1 : l1.length ≤ c1) (h : pacesetterref04_Same.f k l0 l1 = some r) :
    Calls Try.prog 69 #[.slice A0 l0.length c0, .slice A1 l1.length c1] w fun e w' => e = .returned (.bool r) ∧ Drawn0 w w' := by
  have HR0 := Aside0.mk hr0
  have HC0 := Aside0.mk hc0
  clear hr0 hc0
  have HR1 := Aside0.mk hr1
  have HC1 := Aside0.mk hc1
  clear hr1 hc1
  have H : (if (l0.length : Int) = (l1.length : Int) then (pacesetterref04_Same.l0 k l0 l1 0) else (some false)) = some r := h
  clear h
  by_cases c3 : (l0.length : Int) = (l1.length : Int)
  · rw [if_pos c3] at H
    have c3b0 : ((l0.length : Int) == (l1.length : Int)) = true := beq_iff_eq.mpr c3
    have c3b1 : ((l0.length : Int) != (l1.length : Int)) = false := bne_eq_false_iff_eq.mpr c3
    have c3b2 : (l0.length == l1.length) = true := by first | simpa using c3 | (simp at c3 ⊢; omega)
    clear c3
    have H' := Aside0.mk H
    clear H
    go_enter Try.func69, Try.ntmps69
    go_wp2
    repeat (go_quiet (fail); try go_wp2)
    go_loopg [5] k (fun kq v5 w' => ∃ (x5_1 : Int), v5 = .int .i64 x5_1 ∧ Aside0 (pacesetterref04_Same.l0 kq l0 l1 x5_1 = some r) ∧ Aside0 (kq ≤ k) ∧ Drawn0 w w')
    case atStart => exact ⟨(0), (by first | rfl | (simp; done) | (simp [*]; done)), H', ⟨Nat.le_refl _⟩, by repeat (first | exact Drawn0.refl _ | apply Drawn0.step)⟩
    case round =>
      clear H'
      try clear c1
      try clear p2
      try clear c3
      try clear c3b0
      try clear c3b1
      try clear c3b2
      obtain ⟨x5_1, rfl, HA, HK1, ⟨m1, rfl⟩⟩ := hrel
      cases gk with
      | zero => exact absurd HA.out (by simp [pacesetterref04_Same.l0])
      | succ k1 =>
        have H := HA.out
        clear HA
        simp only [pacesetterref04_Same.l0] at H
        by_cases c4 : x5_1 < (l0.length : Int)
        · rw [if_pos c4] at H
          have c4b0 : decide (x5_1 < (l0.length : Int)) = true := decide_eq_true c4
          clear c4
          by_cases c5 : 0 ≤ x5_1
          · rw [if_pos c5] at H
            have c5b0 : decide (0 ≤ x5_1) = true := decide_eq_true c5
            clear c5
            by_cases c6 : x5_1 < (l1.length : Int)
            · rw [if_pos c6] at H
              have c6b0 : decide (x5_1 < (l1.length : Int)) = true := decide_eq_true c6
              clear c6
              by_cases c7 : (strOfNums (rd_L1 l0 x5_1)).toList = (strOfNums (rd_L1 l1 x5_1)).toList
              · rw [if_pos c7] at H
                have c7b0 : ((strOfNums (rd_L1 l0 x5_1)).toList == (strOfNums (rd_L1 l1 x5_1)).toList) = true := beq_iff_eq.mpr c7
                have c7b1 : ((strOfNums (rd_L1 l0 x5_1)).toList != (strOfNums (rd_L1 l1 x5_1)).toList) = false := bne_eq_false_iff_eq.mpr c7
                clear c7
                have H' := Aside0.mk H
                clear H
                have p237 : 0 ≤ (x5_1 : Int) := of_decide_eq_true (by first | (with_reducible assumption) | assumption)
                have q237 : x5_1 < (l0.length : Int) := of_decide_eq_true (by first | (with_reducible assumption) | assumption)
                obtain ⟨ad237, A237_0, c237_0, e237, hx237_0, hl237_0, hi237_0⟩ := at_L1 HR0.out x5_1 p237 q237
                cases e237
                have HR237_0 := Aside0.mk hi237_0
                have HC237_0 := Aside0.mk hl237_0
                clear hi237_0 hl237_0
                replace p237 := eq_true p237
                replace q237 := eq_true q237
                have hcv8 := Kd.C_string (P := Try.prog) (A := A237_0) (c := c237_0) Try.underlying22 Try.underlying5 Try.underlying9 HR237_0.out
                have hcv8b := fun (n_ : Nat) => Kd.C_string (P := Try.prog) (A := A237_0) (c := c237_0) Try.underlying22 Try.underlying5 Try.underlying9 (Kd.C_drewN HR237_0.out n_)
                have hcv8c := fun (m_ n_ : Nat) => Kd.C_string (P := Try.prog) (A := A237_0) (c := c237_0) Try.underlying22 Try.underlying5 Try.underlying9 (Kd.C_drewN (Kd.C_drewN HR237_0.out m_) n_)
                have p238 : 0 ≤ (x5_1 : Int) := of_decide_eq_true (by first | (with_reducible assumption) | assumption)
                have q238 : x5_1 < (l1.length : Int) := of_decide_eq_true (by first | (with_reducible assumption) | assumption)
                obtain ⟨ad238, A238_0, c238_0, e238, hx238_0, hl238_0, hi238_0⟩ := at_L1 HR1.out x5_1 p238 q238
                cases e238
                have HR238_0 := Aside0.mk hi238_0
                have HC238_0 := Aside0.mk hl238_0
                clear hi238_0 hl238_0
                replace p238 := eq_true p238
                replace q238 := eq_true q238
                have hcv9 := Kd.C_string (P := Try.prog) (A := A238_0) (c := c238_0) Try.underlying22 Try.underlying5 Try.underlying9 HR238_0.out
                have hcv9b := fun (n_ : Nat) => Kd.C_string (P := Try.prog) (A := A238_0) (c := c238_0) Try.underlying22 Try.underlying5 Try.underlying9 (Kd.C_drewN HR238_0.out n_)
                have hcv9c := fun (m_ n_ : Nat) => Kd.C_string (P := Try.prog) (A := A238_0) (c := c238_0) Try.underlying22 Try.underlying5 Try.underlying9 (Kd.C_drewN (Kd.C_drewN HR238_0.out m_) n_)
                go_wp2
                repeat (go_quiet (fail); try go_wp2)
                go_roundg k1
                case measure => have := HK1.out; omega
                case rel => exact ⟨(wrap64 (x5_1 + 1)), (by first | rfl | (simp; done) | (simp [*]; done)), H', ⟨by have := HK1.out; omega⟩, by repeat (first | exact Drawn0.refl _ | apply Drawn0.step)⟩
              · rw [if_neg c7] at H
                have c7b0 : ((strOfNums (rd_L1 l0 x5_1)).toList == (strOfNums (rd_L1 l1 x5_1)).toList) = false := beq_eq_false_iff_ne.mpr c7
                have c7b1 : ((strOfNums (rd_L1 l0 x5_1)).toList != (strOfNums (rd_L1 l1 x5_1)).toList) = true := bne_iff_ne.mpr c7
                obtain rfl := Option.some.inj H
                have p237 : 0 ≤ (x5_1 : Int) := of_decide_eq_true (by first | (with_reducible assumption) | assumption)
                have q237 : x5_1 < (l0.length : Int) := of_decide_eq_true (by first | (with_reducible assumption) | assumption)
                obtain ⟨ad237, A237_0, c237_0, e237, hx237_0, hl237_0, hi237_0⟩ := at_L1 HR0.out x5_1 p237 q237
                cases e237
                have HR237_0 := Aside0.mk hi237_0
                have HC237_0 := Aside0.mk hl237_0
                clear hi237_0 hl237_0
                replace p237 := eq_true p237
                replace q237 := eq_true q237
                have hcv10 := Kd.C_string (P := Try.prog) (A := A237_0) (c := c237_0) Try.underlying22 Try.underlying5 Try.underlying9 HR237_0.out
                have hcv10b := fun (n_ : Nat) => Kd.C_string (P := Try.prog) (A := A237_0) (c := c237_0) Try.underlying22 Try.underlying5 Try.underlying9 (Kd.C_drewN HR237_0.out n_)
                have hcv10c := fun (m_ n_ : Nat) => Kd.C_string (P := Try.prog) (A := A237_0) (c := c237_0) Try.underlying22 Try.underlying5 Try.underlying9 (Kd.C_drewN (Kd.C_drewN HR237_0.out m_) n_)
                have p238 : 0 ≤ (x5_1 : Int) := of_decide_eq_true (by first | (with_reducible assumption) | assumption)
                have q238 : x5_1 < (l1.length : Int) := of_decide_eq_true (by first | (with_reducible assumption) | assumption)
                obtain ⟨ad238, A238_0, c238_0, e238, hx238_0, hl238_0, hi238_0⟩ := at_L1 HR1.out x5_1 p238 q238
                cases e238
                have HR238_0 := Aside0.mk hi238_0
                have HC238_0 := Aside0.mk hl238_0
                clear hi238_0 hl238_0
                replace p238 := eq_true p238
                replace q238 := eq_true q238
                have hcv11 := Kd.C_string (P := Try.prog) (A := A238_0) (c := c238_0) Try.underlying22 Try.underlying5 Try.underlying9 HR238_0.out
                have hcv11b := fun (n_ : Nat) => Kd.C_string (P := Try.prog) (A := A238_0) (c := c238_0) Try.underlying22 Try.underlying5 Try.underlying9 (Kd.C_drewN HR238_0.out n_)
                have hcv11c := fun (m_ n_ : Nat) => Kd.C_string (P := Try.prog) (A := A238_0) (c := c238_0) Try.underlying22 Try.underlying5 Try.underlying9 (Kd.C_drewN (Kd.C_drewN HR238_0.out m_) n_)
                go_wp2
                repeat (go_quiet (fail); try go_wp2)
                go_ret
                exact ⟨by first | rfl | (simp; done) | (simp [*]; done), by repeat (first | exact Drawn0.refl _ | apply Drawn0.step)⟩
            · rw [if_neg c6] at H
              exact absurd H (by simp)
          · rw [if_neg c5] at H
            exact absurd H (by simp)
        · rw [if_neg c4] at H
          have c4b0 : decide (x5_1 < (l0.length : Int)) = false := decide_eq_false c4
          clear c4
          obtain rfl := Option.some.inj H
          go_wp2
          repeat (go_quiet (fail); try go_wp2)
          go_ret
          exact ⟨by first | rfl | (simp; done) | (simp [*]; done), by repeat (first | exact Drawn0.refl _ | apply Drawn0.step)⟩
  · rw [if_neg c3] at H
    have c3b0 : ((l0.length : Int) == (l1.length : Int)) = false := beq_eq_false_iff_ne.mpr c3
    have c3b1 : ((l0.length : Int) != (l1.length : Int)) = true := bne_iff_ne.mpr c3
    have c3b2 : (l0.length == l1.length) = false := by first | simpa using c3 | (simp at c3 ⊢; omega)
    obtain rfl := Option.some.inj H
    go_enter Try.func69, Try.ntmps69
    go_wp2
    repeat (go_quiet (fail); try go_wp2)
    go_ret
    exact ⟨by first | rfl | (simp; done) | (simp [*]; done), by repeat (first | exact Drawn0.refl _ | apply Drawn0.step)⟩

end Go.Proofs.Ytbcienbnhchdeaa.Print

-- Printed by a program of this session (wip/patch_print.py over the kit's print); Lean checks it.
namespace Go.Proofs.Ytbcienbnhchdeaa.Print
open Go.RowKit Go.Proofs.YtbcienbnhchdeaaW.PrintWords Go.Proofs.YtbcienbnhchdeaaW.PrintLast Go.Proofs.YtbcienbnhchdeaaW.PrintMore
attribute [local go_sem] max2_int min2_int max_two min_two max_three min_three max_four min_four   -- for this text's walks alone
set_option linter.unusedVariables false
set_option linter.unusedSimpArgs false

-- NOT PRINTED: function 93 (crc_table)

/-! ### crc_More: function 29 -/
def crc_More.f (a0 : Int) (l1 : List Int) : Option (Int) := if Hand.okW a0 = true then (if Hand.okB l1 = true then (if l1.length < 140737488355328 then (some (Hand.moreI a0 l1)) else (none)) else (none)) else (none)
theorem crc_More.calls (a0 : Int) (A1 : Option Addr) (c1 : Nat) (l1 : List Int) (r : Int) (w : World) (hr1 : Kd.C (Kd.int .u8) w A1 l1.length l1) (hc1 : l1.length ≤ c1) (h : crc_More.f a0 l1 = some r) :
    Calls Try.prog 29 #[.int .u32 a0, .slice A1 l1.length c1] w fun e w' => e = .returned (.int .u32 r) ∧ Below w.heap.size w w' := by
  unfold crc_More.f at h
  by_cases h0 : Hand.okW a0 = true
  · by_cases h1 : Hand.okB l1 = true
    · by_cases h2 : l1.length < 140737488355328
      · rw [if_pos h0, if_pos h1, if_pos h2] at h
        obtain rfl := Option.some.inj h
        simp only [Hand.okW, Bool.and_eq_true, decide_eq_true_eq] at h0
        obtain ⟨s, rfl⟩ := Int.eq_ofNat_of_zero_le h0.1
        exact Hand.more_any s A1 c1 l1 w (by omega) h1 (by omega) hr1
      · rw [if_pos h0, if_pos h1, if_neg h2] at h
        exact absurd h (by simp)
    · rw [if_pos h0, if_neg h1] at h
      exact absurd h (by simp)
  · rw [if_neg h0] at h
    exact absurd h (by simp)

/-! ### crc_Sum: function 30 -/
def crc_Sum.f (l0 : List Int) : Option (Int) := (crc_More.f 0 l0).bind fun t101 => (some t101)
set_option maxHeartbeats 8000000 in
set_option maxRecDepth 100000 in
theorem crc_Sum.calls (A0 : Option Addr) (c0 : Nat) (l0 : List Int) (r : Int) (w : World) (hr0 : Kd.C (Kd.int .u8) w A0 l0.length l0) (hc0 : l0.length ≤ c0) (h : crc_Sum.f l0 = some r) :
    Calls Try.prog 30 #[.slice A0 l0.length c0] w fun e w' => e = .returned (.int .u32 r) ∧ Below w.heap.size w w' := by
  have HR0 := Aside0.mk hr0
  have HC0 := Aside0.mk hc0
  clear hr0 hc0
  have HB := Aside0.mk (Below.refl w.heap.size w)
  have H : ((crc_More.f 0 l0).bind fun t101 => (some t101)) = some r := h
  clear h
  replace H := Option.bind_eq_some_iff.mp H
  obtain ⟨t101, A20, H⟩ := H
  replace H : (some t101) = some r := H
  have A2 := Aside0.mk A20
  clear A20
  obtain rfl := Option.some.inj H
  go_enter Try.func30, Try.ntmps30
  go_wp2_with (first | ((with_reducible refine gate_callee (f := 29) rfl ?_); refine goesL_ (some 4) rfl rfl Try.func29 (by kernel_rfl) rfl #[.int .u32 0, .slice A0 l0.length c0] rfl (by (try simp only [List.map_toArray, List.map_cons, List.map_nil]); first | done | rfl | (simp only [List.length_drop, List.length_take]; rfl)) ?_; (with_reducible refine (crc_More.calls 0 _ _ l0 t101 _ ?side1 ?side2 A2.out).mono ?_); (case side1 => repeat (first | exact HR0.out | (with_reducible refine Kd.C_alloc ?_ _) | (with_reducible refine Kd.C_drewN ?_ _) | (with_reducible refine Kd.C_drew ?_))); (case side2 => exact HC0.out); rintro e w3 ⟨rfl, hb⟩; refine ⟨_, rfl, ?_⟩; have n0_ := Aside0.mk (below_step (by repeat (first | (with_reducible first | exact HB.out | apply below_alloc | apply pw_below_drewN | apply below_drew1) | exact HB.out)) hb); clear HB; have HB := n0_; clear n0_; (try clear hb); (try clear hb2); (try clear hk); (try clear hi)))
  go_ret
  exact ⟨by first | rfl | (simp [errW_none, errW_some] <;> rfl) | (simp [*, errW_none, errW_some] <;> rfl), by repeat (first | (with_reducible first | exact HB.out | apply below_alloc | apply pw_below_drewN | apply below_drew1) | exact HB.out)⟩

/-! ### crc_Bytes: function 33 -/
def crc_Bytes.f (a0 : Int) : Option (List Int) := some (([(a0 / 16777216) % 256, (a0 / 65536) % 256, (a0 / 256) % 256, (a0) % 256] : List Int))
set_option maxHeartbeats 8000000 in
set_option maxRecDepth 100000 in
theorem crc_Bytes.calls (a0 : Int) (r : List Int) (w : World) (h : crc_Bytes.f a0 = some r) :
    Calls Try.prog 33 #[.int .u32 a0] w fun e w' => ∃ v0_ : Value, e = .returned (v0_) ∧ Kd.R (Kd.int .u8) 5 w' w.heap.size (fun _ => True) v0_ r ∧ Below w.heap.size w w' := by
  have HB := Aside0.mk (Below.refl w.heap.size w)
  have H : (some (([(a0 / 16777216) % 256, (a0 / 65536) % 256, (a0 / 256) % 256, (a0) % 256] : List Int))) = some r := h
  clear h
  obtain ⟨y102, hy102⟩ : ∃ y_ : List Int, y_ = (([(a0 / 16777216) % 256, (a0 / 65536) % 256, (a0 / 256) % 256, (a0) % 256] : List Int)) := ⟨_, rfl⟩
  replace H : (some y102) = some r := by first | (rw [hy102]; with_reducible exact H) | (have H2_ := (Option.bind_some _ _).symm.trans H; rw [hy102]; with_reducible exact H2_) | (have H2_ := (Option.bind_some _ _).symm.trans H; with_reducible exact H2_) | with_reducible exact H | (rw [hy102]; exact H) | exact H
  have Ny102 := Aside0.mk hy102
  clear hy102
  obtain rfl := Option.some.inj H
  go_enter Try.func33, Try.ntmps33
  go_wp2_with (first | ((with_reducible refine gate_dst (N := 14) rfl ?_); refine Kd.R_lit (Kd.int .u8) _ 5 ?hg (N := 14) ?hd (xs := ([(a0 / 16777216) % 256, (a0 / 65536) % 256, (a0 / 256) % 256, (a0) % 256] : List Int)) (inner := [.int .u8 ((a0 / 16777216) % 256), .int .u8 ((a0 / 65536) % 256), .int .u8 ((a0 / 256) % 256), .int .u8 ((a0) % 256)]) (ok := fun _ => True) (okp := fun _ => True) ?hr ?hp (fun _ hk => hk) trivial (Below.refl _ _) (Nat.le_refl _) (by simp) ?_; (case hd => rfl); (case hg => rfl); (case hr => first | (go_simp; done) | (go_simp; rfl)); (case hp => exact (Reps.one (show Kd.M (Kd.int .u8) _ _ _ ((a0 / 16777216) % 256) [.int .u8 ((a0 / 16777216) % 256)] from rfl) (Reps.one (show Kd.M (Kd.int .u8) _ _ _ ((a0 / 65536) % 256) [.int .u8 ((a0 / 65536) % 256)] from rfl) (Reps.one (show Kd.M (Kd.int .u8) _ _ _ ((a0 / 256) % 256) [.int .u8 ((a0 / 256) % 256)] from rfl) (Reps.one (show Kd.M (Kd.int .u8) _ _ _ ((a0) % 256) [.int .u8 ((a0) % 256)] from rfl) (Reps.none _ _)))))); intro v103 w2 ho3 hb hg_ hnew_; clear hg_ hnew_; (first | rw [← Ny102.out] at ho3 | (simp only [Int.reduceToNat] at ho3; rw [← Ny102.out] at ho3)); have n0_ := Aside0.mk (Kd.R_lower ho3 (below_size (by repeat (first | (with_reducible first | exact HB.out | apply below_alloc | apply pw_below_drewN | apply below_drew1) | exact HB.out)))); have n1_ := Aside0.mk (below_step (by repeat (first | (with_reducible first | exact HB.out | apply below_alloc | apply pw_below_drewN | apply below_drew1) | exact HB.out)) hb); clear HB; have HO104 := n0_; have HB := n1_; clear n0_ n1_; clear hb ho3))
  go_ret
  exact ⟨_, by first | rfl | (simp [errW_none, errW_some] <;> rfl) | (simp [*, errW_none, errW_some] <;> rfl), by (with_reducible repeat (first | apply Kd.R_alloc | apply Kd.R_drewN | apply Kd.R_drew)); exact HO104.out, by repeat (first | (with_reducible first | exact HB.out | apply below_alloc | apply pw_below_drewN | apply below_drew1) | exact HB.out)⟩

-- NOT PRINTED: function 102 (slices_Grow_byte_byte)

/-! ### slices_Concat_byte_byte: function 97 -/
def slices_Concat_byte_byte.f (l0 : List (List Int)) : Option (List Int) := if l0.flatten.length < 140737488355328 then (some l0.flatten) else (none)
theorem slices_Concat_byte_byte.calls (A0 : Option Addr) (c0 : Nat) (l0 : List (List Int)) (r : List Int) (w : World) (hr0 : Kd.C (Kd.slice 5 (Kd.int .u8)) w A0 l0.length l0) (hc0 : l0.length ≤ c0) (h : slices_Concat_byte_byte.f l0 = some r) :
    Calls Try.prog 97 #[.slice A0 l0.length c0] w fun e w' => ∃ v0_ : Value, e = .returned (v0_) ∧ Kd.R (Kd.int .u8) 5 w' w.heap.size (fun _ => True) v0_ r ∧ Below w.heap.size w w' := by
  unfold slices_Concat_byte_byte.f at h
  by_cases h0 : l0.flatten.length < 140737488355328
  · rw [if_pos h0] at h
    obtain rfl := Option.some.inj h
    exact Hand.concat_any A0 c0 l0 w hr0 (by rw [← Hand.flat_len]; omega)
  · rw [if_neg h0] at h
    exact absurd h (by simp)

/-! ### crc_Seal: function 47 -/
def crc_Seal.f (l0 : List Int) : Option (List Int) := if l0.length < 140737488355000 then ((crc_Sum.f l0).bind fun t => (crc_Bytes.f t).bind fun b => if b.length = 4 then (some (l0 ++ b)) else none) else (none)
set_option maxRecDepth 100000 in
set_option maxHeartbeats 1000000 in
theorem crc_Seal.calls (A0 : Option Addr) (c0 : Nat) (l0 : List Int) (r : List Int) (w : World) (hr0 : Kd.C (Kd.int .u8) w A0 l0.length l0) (hc0 : l0.length ≤ c0) (h : crc_Seal.f l0 = some r) :
    Calls Try.prog 47 #[.slice A0 l0.length c0] w fun e w' => ∃ v0_ : Value, e = .returned (v0_) ∧ Kd.R (Kd.int .u8) 5 w' w.heap.size (fun _ => True) v0_ r ∧ Below w.heap.size w w' := by
  unfold crc_Seal.f at h
  by_cases h0 : l0.length < 140737488355000
  · rw [if_pos h0] at h
    obtain ⟨t, ht, h⟩ := Option.bind_eq_some_iff.mp h
    obtain ⟨b, hb, h⟩ := Option.bind_eq_some_iff.mp h
    by_cases h4 : b.length = 4
    · rw [if_pos h4] at h
      obtain rfl := Option.some.inj h
      have HR := Aside0.mk hr0
      have HC := Aside0.mk hc0
      have HT := Aside0.mk ht
      have HBy := Aside0.mk hb
      have H4 := Aside0.mk h4
      have H0 := Aside0.mk h0
      clear hr0 hc0 ht hb h4 h0 h
      go_enter Try.func47, Try.ntmps47
      go_wp2_with (first
        | (go_at_call 30; refine (crc_Sum.calls A0 c0 l0 t _ HR.out HC.out HT.out).mono ?_; rintro e w1 ⟨rfl, hb1⟩; have HB1 := Aside0.mk hb1; clear hb1)
        | (go_at_call 33; refine (crc_Bytes.calls t b _ HBy.out).mono ?_; rintro e w2 ⟨v, rfl, ho, hb2⟩; obtain ⟨B, d, hv, hd, hB⟩ := Kd.R_reads ho; rw [hv]; clear hv ho; have HB2 := Aside0.mk ((HB1.out.trans (hb2.mono HB1.out.size))); have HD := Aside0.mk hd; have HBr := Aside0.mk hB; clear hd hB hb2)
        | (go_at_call 97; refine (Hand.concat_any _ _ [l0, b] _ (Hand.rows2 (Kd.C_below HR.out HB2.out) HC.out HBr.out HD.out) ?hT).mono ?_; (case hT => have := H0.out; have := H4.out; simp [Hand.total]; omega); rintro e w3 ⟨v3, rfl, ho3, hb3⟩; have HO3 := Aside0.mk ho3; have HB3 := Aside0.mk hb3; clear ho3 hb3))
      go_ret
      have hs : w.heap.size ≤ (w2.alloc (.cells #[.slice A0 l0.length c0, .slice B b.length d] 22)).heap.size := by have := HB2.out.size; simp; omega
      exact ⟨_, rfl, by simpa using Kd.R_lower HO3.out hs, (HB2.out.alloc HB2.out.size _).trans (HB3.out.mono hs)⟩
    · rw [if_neg h4] at h
      exact absurd h (by simp)
  · rw [if_neg h0] at h
    exact absurd h (by simp)

/-! ### frame_Size: function 64 -/
def frame_Size.f (a0 : Int) : Option (Int) := if a0 < 1 then (some 0) else (if a0 > 1000 then (some 0) else (some (wrap64 ((wrap64 (2 + a0)) + 4))))
set_option maxHeartbeats 8000000 in
set_option maxRecDepth 100000 in
theorem frame_Size.calls (a0 : Int) (r : Int) (w : World) (h : frame_Size.f a0 = some r) :
    Calls Try.prog 64 #[.int .i64 a0] w fun e w' => e = .returned (.int .i64 r) ∧ Drawn0 w w' := by
  have H : (if a0 < 1 then (some 0) else (if a0 > 1000 then (some 0) else (some (wrap64 ((wrap64 (2 + a0)) + 4))))) = some r := h
  clear h
  by_cases c2 : a0 < 1
  · rw [if_pos c2] at H
    have c2b0 : decide (a0 < 1) = true := decide_eq_true c2
    clear c2
    obtain rfl := Option.some.inj H
    go_enter Try.func64, Try.ntmps64
    go_wp2
    go_ret
    exact ⟨by first | rfl | (simp; done) | (simp [*]; done), by repeat (first | exact Drawn0.refl _ | apply Drawn0.step)⟩
  · rw [if_neg c2] at H
    have c2b0 : decide (a0 < 1) = false := decide_eq_false c2
    clear c2
    by_cases c3 : a0 > 1000
    · rw [if_pos c3] at H
      have c3b0 : decide (1000 < a0) = true := decide_eq_true c3
      clear c3
      obtain rfl := Option.some.inj H
      go_enter Try.func64, Try.ntmps64
      go_wp2
      go_ret
      exact ⟨by first | rfl | (simp; done) | (simp [*]; done), by repeat (first | exact Drawn0.refl _ | apply Drawn0.step)⟩
    · rw [if_neg c3] at H
      have c3b0 : decide (1000 < a0) = false := decide_eq_false c3
      clear c3
      obtain rfl := Option.some.inj H
      go_enter Try.func64, Try.ntmps64
      go_wp2
      go_ret
      exact ⟨by first | rfl | (simp; done) | (simp [*]; done), by repeat (first | exact Drawn0.refl _ | apply Drawn0.step)⟩

end Go.Proofs.Ytbcienbnhchdeaa.Print

-- Printed by a program of this session (wip/patch_print.py over the kit's print); Lean checks it.
namespace Go.Proofs.Ytbcienbnhchdeaa.Print
open Go.RowKit Go.Proofs.YtbcienbnhchdeaaW.PrintWords Go.Proofs.YtbcienbnhchdeaaW.PrintLast Go.Proofs.YtbcienbnhchdeaaW.PrintMore
attribute [local go_sem] max2_int min2_int max_two min_two max_three min_three max_four min_four   -- for this text's walks alone
set_option linter.unusedVariables false
set_option linter.unusedSimpArgs false

/-! ### crc_Read: function 35 -/
def crc_Read.f (l0 : List Int) : Option (Int × Int) := if (l0.length : Int) = 4 then (if 0 < (l0.length : Int) then (if 1 < (l0.length : Int) then (if 2 < (l0.length : Int) then (if 3 < (l0.length : Int) then (some (Go.bits .or .u32 (Go.bits .or .u32 (Go.bits .or .u32 ((((rd l0 0) % 4294967296) * 16777216) % 4294967296) ((((rd l0 1) % 4294967296) * 65536) % 4294967296)) ((((rd l0 2) % 4294967296) * 256) % 4294967296)) ((rd l0 3) % 4294967296), 0)) else (none)) else (none)) else (none)) else (none)) else (some (0, 2))
set_option maxHeartbeats 8000000 in
set_option maxRecDepth 100000 in
theorem crc_Read.calls (A0 : Option Addr) (c0 : Nat) (l0 : List Int) (r1 : Int) (r2 : Int) (w : World) (hr0 : Kd.C (Kd.int .u8) w A0 l0.length l0) (hc0 : l0.length ≤ c0) (h : crc_Read.f l0 = some (r1, r2)) :
    Calls Try.prog 35 #[.slice A0 l0.length c0] w fun e w' => e = .returned (.tuple #[.int .u32 r1, .int .i64 r2]) ∧ Drawn0 w w' := by
  have HR0 := Aside0.mk hr0
  have HC0 := Aside0.mk hc0
  clear hr0 hc0
  have H : (if (l0.length : Int) = 4 then (if 0 < (l0.length : Int) then (if 1 < (l0.length : Int) then (if 2 < (l0.length : Int) then (if 3 < (l0.length : Int) then (some (Go.bits .or .u32 (Go.bits .or .u32 (Go.bits .or .u32 ((((rd l0 0) % 4294967296) * 16777216) % 4294967296) ((((rd l0 1) % 4294967296) * 65536) % 4294967296)) ((((rd l0 2) % 4294967296) * 256) % 4294967296)) ((rd l0 3) % 4294967296), 0)) else (none)) else (none)) else (none)) else (none)) else (some (0, 2))) = some (r1, r2) := h
  clear h
  by_cases c2 : (l0.length : Int) = 4
  · rw [if_pos c2] at H
    have c2b0 : ((l0.length : Int) == 4) = true := beq_iff_eq.mpr c2
    have c2b1 : ((l0.length : Int) != 4) = false := bne_eq_false_iff_eq.mpr c2
    clear c2
    by_cases c3 : 0 < (l0.length : Int)
    · rw [if_pos c3] at H
      have c3b0 : decide (0 < (l0.length : Int)) = true := decide_eq_true c3
      have c3b1 : decide (0 < l0.length) = true := decide_eq_true (by omega)
      clear c3
      by_cases c4 : 1 < (l0.length : Int)
      · rw [if_pos c4] at H
        have c4b0 : decide (1 < (l0.length : Int)) = true := decide_eq_true c4
        have c4b1 : decide (1 < l0.length) = true := decide_eq_true (by omega)
        clear c4
        by_cases c5 : 2 < (l0.length : Int)
        · rw [if_pos c5] at H
          have c5b0 : decide (2 < (l0.length : Int)) = true := decide_eq_true c5
          have c5b1 : decide (2 < l0.length) = true := decide_eq_true (by omega)
          clear c5
          by_cases c6 : 3 < (l0.length : Int)
          · rw [if_pos c6] at H
            have c6b0 : decide (3 < (l0.length : Int)) = true := decide_eq_true c6
            have c6b1 : decide (3 < l0.length) = true := decide_eq_true (by omega)
            clear c6
            simp only [Option.some.injEq, Prod.mk.injEq] at H
            obtain ⟨rfl, rfl⟩ := H
            have p124 : 0 ≤ (0 : Int) := (by omega)
            have q124 : 0 < (l0.length : Int) := of_decide_eq_true (by first | (with_reducible assumption) | assumption)
            obtain ⟨ad124, e124, hx124_0⟩ := Kd.at_int HR0.out 0 p124 q124
            cases e124
            have qi124 : (0 < l0.length) = True := eq_true (by omega)
            (try rw [show ((0 : Int)).toNat = 0 from rfl] at hx124_0)
            (try rw [Addr.add_zero'] at hx124_0)
            replace p124 := eq_true p124
            replace q124 := eq_true q124
            have p125 : 0 ≤ (1 : Int) := (by omega)
            have q125 : 1 < (l0.length : Int) := of_decide_eq_true (by first | (with_reducible assumption) | assumption)
            obtain ⟨ad125, e125, hx125_0⟩ := Kd.at_int HR0.out 1 p125 q125
            obtain rfl : ad124 = ad125 := (by injection e125)
            (try simp only [show (1 : Int).toNat = 1 from rfl, Nat.reduceMul, Nat.reduceEqDiff, Go.Addr.add, ↓reduceIte] at hx125_0)
            have qi125 : (1 < l0.length) = True := eq_true (by omega)
            (try rw [show ((1 : Int)).toNat = 1 from rfl] at hx125_0)
            replace p125 := eq_true p125
            replace q125 := eq_true q125
            have p126 : 0 ≤ (2 : Int) := (by omega)
            have q126 : 2 < (l0.length : Int) := of_decide_eq_true (by first | (with_reducible assumption) | assumption)
            obtain ⟨ad126, e126, hx126_0⟩ := Kd.at_int HR0.out 2 p126 q126
            obtain rfl : ad124 = ad126 := (by injection e126)
            (try simp only [show (2 : Int).toNat = 2 from rfl, Nat.reduceMul, Nat.reduceEqDiff, Go.Addr.add, ↓reduceIte] at hx126_0)
            have qi126 : (2 < l0.length) = True := eq_true (by omega)
            (try rw [show ((2 : Int)).toNat = 2 from rfl] at hx126_0)
            replace p126 := eq_true p126
            replace q126 := eq_true q126
            have p127 : 0 ≤ (3 : Int) := (by omega)
            have q127 : 3 < (l0.length : Int) := of_decide_eq_true (by first | (with_reducible assumption) | assumption)
            obtain ⟨ad127, e127, hx127_0⟩ := Kd.at_int HR0.out 3 p127 q127
            obtain rfl : ad124 = ad127 := (by injection e127)
            (try simp only [show (3 : Int).toNat = 3 from rfl, Nat.reduceMul, Nat.reduceEqDiff, Go.Addr.add, ↓reduceIte] at hx127_0)
            have qi127 : (3 < l0.length) = True := eq_true (by omega)
            (try rw [show ((3 : Int)).toNat = 3 from rfl] at hx127_0)
            replace p127 := eq_true p127
            replace q127 := eq_true q127
            go_enter Try.func35, Try.ntmps35
            go_wp2
            repeat (go_quiet (fail); try go_wp2)
            go_ret2
            exact ⟨by first | rfl | (simp; done) | (simp [*]; done), by repeat (first | exact Drawn0.refl _ | apply Drawn0.step)⟩
          · rw [if_neg c6] at H
            exact absurd H (by simp)
        · rw [if_neg c5] at H
          exact absurd H (by simp)
      · rw [if_neg c4] at H
        exact absurd H (by simp)
    · rw [if_neg c3] at H
      exact absurd H (by simp)
  · rw [if_neg c2] at H
    have c2b0 : ((l0.length : Int) == 4) = false := beq_eq_false_iff_ne.mpr c2
    have c2b1 : ((l0.length : Int) != 4) = true := bne_iff_ne.mpr c2
    simp only [Option.some.injEq, Prod.mk.injEq] at H
    obtain ⟨rfl, rfl⟩ := H
    go_enter Try.func35, Try.ntmps35
    go_wp2
    repeat (go_quiet (fail); try go_wp2)
    go_ret2
    exact ⟨by first | rfl | (simp; done) | (simp [*]; done), by repeat (first | exact Drawn0.refl _ | apply Drawn0.step)⟩

end Go.Proofs.Ytbcienbnhchdeaa.Print

-- Printed by a program of this session (wip/patch_print.py over the kit's print); Lean checks it.
namespace Go.Proofs.Ytbcienbnhchdeaa.Print
open Go.RowKit Go.Proofs.YtbcienbnhchdeaaW.PrintWords Go.Proofs.YtbcienbnhchdeaaW.PrintLast Go.Proofs.YtbcienbnhchdeaaW.PrintMore
attribute [local go_sem] max2_int min2_int max_two min_two max_three min_three max_four min_four   -- for this text's walks alone
set_option linter.unusedVariables false
set_option linter.unusedSimpArgs false

/-! ### crc_Good: function 45 -/
def crc_Good.f (l0 : List Int) : Option (Bool) := if (wrap64 ((l0.length : Int) - 4)) < 0 then (some false) else (if 0 ≤ (wrap64 ((l0.length : Int) - 4)) then (if (wrap64 ((l0.length : Int) - 4)) ≤ (l0.length : Int) then ((crc_Read.f (l0.drop ((wrap64 ((l0.length : Int) - 4)) : Int).toNat)).bind fun bt129 => ((crc_Sum.f (l0.take ((wrap64 ((l0.length : Int) - 4)) : Int).toNat)).bind fun t132 => (some (t132 == bt129.1)))) else (none)) else (none))
set_option maxHeartbeats 8000000 in
set_option maxRecDepth 100000 in
theorem crc_Good.calls (A0 : Option Addr) (c0 : Nat) (l0 : List Int) (r : Bool) (w : World) (hr0 : Kd.C (Kd.int .u8) w A0 l0.length l0) (hc0 : l0.length ≤ c0) (h : crc_Good.f l0 = some r) :
    Calls Try.prog 45 #[.slice A0 l0.length c0] w fun e w' => e = .returned (.bool r) ∧ Below w.heap.size w w' := by
  have HR0 := Aside0.mk hr0
  have HC0 := Aside0.mk hc0
  clear hr0 hc0
  have HB := Aside0.mk (Below.refl w.heap.size w)
  have H : (if (wrap64 ((l0.length : Int) - 4)) < 0 then (some false) else (if 0 ≤ (wrap64 ((l0.length : Int) - 4)) then (if (wrap64 ((l0.length : Int) - 4)) ≤ (l0.length : Int) then ((crc_Read.f (l0.drop ((wrap64 ((l0.length : Int) - 4)) : Int).toNat)).bind fun bt129 => ((crc_Sum.f (l0.take ((wrap64 ((l0.length : Int) - 4)) : Int).toNat)).bind fun t132 => (some (t132 == bt129.1)))) else (none)) else (none))) = some r := h
  clear h
  by_cases c2 : (wrap64 ((l0.length : Int) - 4)) < 0
  · rw [if_pos c2] at H
    have c2b0 : decide ((wrap64 ((l0.length : Int) - 4)) < 0) = true := decide_eq_true c2
    clear c2
    obtain rfl := Option.some.inj H
    go_enter Try.func45, Try.ntmps45
    go_wp2
    go_ret
    exact ⟨by first | rfl | (simp [errW_none, errW_some] <;> rfl) | (simp [*, errW_none, errW_some] <;> rfl), by repeat (first | (with_reducible first | exact HB.out | apply below_alloc | apply pw_below_drewN | apply below_drew1) | exact HB.out)⟩
  · rw [if_neg c2] at H
    have c2b0 : decide ((wrap64 ((l0.length : Int) - 4)) < 0) = false := decide_eq_false c2
    clear c2
    obtain ⟨ji3, hji3⟩ : ∃ j_ : Int, (wrap64 ((l0.length : Int) - 4)) = j_ := ⟨_, rfl⟩
    replace H : (if 0 ≤ (ji3) then (if (ji3) ≤ (l0.length : Int) then ((crc_Read.f (l0.drop ((ji3) : Int).toNat)).bind fun bt129 => ((crc_Sum.f (l0.take ((ji3) : Int).toNat)).bind fun t132 => (some (t132 == bt129.1)))) else (none)) else (none)) = some r := by first | (rw [hji3] at H; exact H) | (simp only [hji3] at H ⊢; exact H)
    (try rw [hji3] at c2b0)
    have hji3w : (IntKind.i64.wrap ((l0.length : Int) - 4)) = ji3 := (i64_w _).trans hji3
    by_cases c4 : 0 ≤ (ji3)
    · rw [if_pos c4] at H
      have c4b0 := eq_true c4
      have c4b1 : decide (0 ≤ (ji3)) = true := decide_eq_true c4
      clear c4
      by_cases c5 : (ji3) ≤ (l0.length : Int)
      · rw [if_pos c5] at H
        have c5b0 := eq_true c5
        have c5b1 : decide ((ji3) ≤ (l0.length : Int)) = true := decide_eq_true c5
        clear c5
        replace H := Option.bind_eq_some_iff.mp H
        obtain ⟨⟨t129, t130⟩, A60, H⟩ := H
        replace H : ((crc_Sum.f (l0.take ((ji3) : Int).toNat)).bind fun t132 => (some (t132 == t129))) = some r := H
        have A6 := Aside0.mk A60
        clear A60
        have c7b0 := eq_true (of_decide_eq_true (by first | (with_reducible assumption) | assumption) : 0 ≤ (ji3))
        have c8b0 := eq_true (of_decide_eq_true (by first | (with_reducible assumption) | assumption) : (ji3) ≤ (l0.length : Int))
        replace H := Option.bind_eq_some_iff.mp H
        obtain ⟨t132, A90, H⟩ := H
        replace H : (some (t132 == t129)) = some r := H
        have A9 := Aside0.mk A90
        clear A90
        obtain rfl := Option.some.inj H
        obtain ⟨i010, hi010, _, hsz10, _⟩ := info_parts info5
        obtain ⟨A10, hcut10, hA10, hC10⟩ := print_drop_of (P := Try.prog) (Value.int .u8) 0 22 5 .i64 Try.underlying22 hi010 hsz10 A0 c0 l0 (ji3) (of_decide_eq_true (by first | (with_reducible assumption) | assumption)) (of_decide_eq_true (by first | (with_reducible assumption) | assumption)) HC0.out
        have HR128 := Aside0.mk (Kd.C_of_reads (h1 := fun _ => rfl) (hA10 _ (Kd.reads_of_C HR0.out)))
        have HC128 := Aside0.mk hC10
        clear hA10 hC10 hi010 hsz10
        go_enter Try.func45, Try.ntmps45
        go_wp2_with (first | ((with_reducible refine gate_callee (f := 35) rfl ?_); refine goesL_ (some 15) rfl rfl Try.func35 (by kernel_rfl) rfl #[.slice A10 (l0.drop ((ji3) : Int).toNat).length (c0 - (ji3).toNat)] rfl (by (try simp only [List.map_toArray, List.map_cons, List.map_nil]); first | done | (rw [show (l0.drop ((ji3) : Int).toNat).length = (l0.length - (ji3).toNat) from List.length_drop] <;> rfl) | (simp only [hji3]; rfl) | rfl | (simp only [List.length_drop, List.length_take]; rfl)) ?_; (with_reducible refine (crc_Read.calls _ _ (l0.drop ((ji3) : Int).toNat) t129 t130 _ ?side1 ?side2 A6.out).mono ?_); (case side1 => repeat (first | exact HR128.out | (with_reducible refine Kd.C_alloc ?_ _) | (with_reducible refine Kd.C_drewN ?_ _) | (with_reducible refine Kd.C_drew ?_))); (case side2 => exact HC128.out); rintro e w' ⟨rfl, ⟨nd, rfl⟩⟩; refine ⟨_, rfl, ?_⟩; obtain ⟨i011, hi011, _, hsz11, _⟩ := info_parts info5; obtain ⟨hcut11, hA11, hC11⟩ := print_take_of (P := Try.prog) (Value.int .u8) 0 22 5 .i64 Try.underlying22 hi011 hsz11 A0 c0 l0 (ji3) (of_decide_eq_true (by first | (with_reducible assumption) | assumption)) (of_decide_eq_true (by first | (with_reducible assumption) | assumption)) HC0.out; have HR131 := Aside0.mk (Kd.C_of_reads (h1 := fun _ => rfl) (hA11 _ (Kd.reads_of_C HR0.out))); have HC131 := Aside0.mk hC11; clear hA11 hC11 hi011 hsz11) | ((with_reducible refine gate_callee (f := 30) rfl ?_); refine goesL_ (some 21) rfl rfl Try.func30 (by kernel_rfl) rfl #[.slice A0 (l0.take ((ji3) : Int).toNat).length c0] rfl (by (try simp only [List.map_toArray, List.map_cons, List.map_nil]); first | done | (rw [show (l0.take ((ji3) : Int).toNat).length = (ji3).toNat from (by rw [List.length_take]; have h_ : ((ji3) : Int) ≤ (l0.length : Int) := of_decide_eq_true (by first | (with_reducible assumption) | assumption); omega)] <;> rfl) | (simp only [hji3]; rfl) | rfl | (simp only [List.length_drop, List.length_take]; rfl)) ?_; (with_reducible refine (crc_Sum.calls _ _ (l0.take ((ji3) : Int).toNat) t132 _ ?side1 ?side2 A9.out).mono ?_); (case side1 => repeat (first | exact HR131.out | (with_reducible refine Kd.C_alloc ?_ _) | (with_reducible refine Kd.C_drewN ?_ _) | (with_reducible refine Kd.C_drew ?_))); (case side2 => exact HC131.out); rintro e w12 ⟨rfl, hb⟩; refine ⟨_, rfl, ?_⟩; have n0_ := Aside0.mk (below_step (by repeat (first | (with_reducible first | exact HB.out | apply below_alloc | apply pw_below_drewN | apply below_drew1) | exact HB.out)) hb); clear HB; have HB := n0_; clear n0_; (try clear hb); (try clear hb2); (try clear hk); (try clear hi)))
        go_ret
        exact ⟨by first | rfl | (simp [errW_none, errW_some] <;> rfl) | (simp only [← hji3]; first | rfl | (simp [errW_none, errW_some] <;> rfl)) | (simp [*, errW_none, errW_some] <;> rfl), by repeat (first | (with_reducible first | exact HB.out | apply below_alloc | apply pw_below_drewN | apply below_drew1) | exact HB.out)⟩
      · rw [if_neg c5] at H
        exact absurd H (by simp)
    · rw [if_neg c4] at H
      exact absurd H (by simp)

/-! ### slices_Clone_byte_byte: function 96 -/
def slices_Clone_byte_byte.f (l0 : List Int) : Option (List Int) := if l0.length < 140737488355328 then (some l0) else (none)
theorem slices_Clone_byte_byte.calls (A0 : Option Addr) (c0 : Nat) (l0 : List Int) (r : List Int) (w : World) (hr0 : Kd.C (Kd.int .u8) w A0 l0.length l0) (hc0 : l0.length ≤ c0) (h : slices_Clone_byte_byte.f l0 = some r) :
    Calls Try.prog 96 #[.slice A0 l0.length c0] w fun e w' => ∃ v0_ : Value, e = .returned (v0_) ∧ Kd.R (Kd.int .u8) 5 w' w.heap.size (fun _ => True) v0_ r ∧ Below w.heap.size w w' := by
  unfold slices_Clone_byte_byte.f at h
  by_cases h0 : l0.length < 140737488355328
  · rw [if_pos h0] at h
    obtain rfl := Option.some.inj h
    exact Hand.clone_any A0 c0 l0 w hr0 (by omega)
  · rw [if_neg h0] at h
    exact absurd h (by simp)

end Go.Proofs.Ytbcienbnhchdeaa.Print
