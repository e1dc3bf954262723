/- LawJournalPlays: the texts Enter, CrcM, HandT, HandM, HandC, HandJ, Print0, JStep, PrD0, PrD2, PrD3, HandP, DiskS, HandO, HandD, HandE, HandK, Print8, Print9, Print10, joined: contracts of the functions that the statement reaches, and plain laws. -/
import Derived.Test.YtbcienbnhchdeaaRows
import Derived.WalkKit
import Derived.JoinedOf
import Derived.Test.YtbcienbnhchdeaaProg
import Derived.KernelRfl
import Derived.Outline
import Derived.Below
import Derived.Lib.Hide
import Derived.Laws.CopyOwn
import Derived.Test.YtbcienbnhchdeaaWWords
import Derived.Test.YtbcienbnhchdeaaWMore
import Derived.Test.YtbcienbnhchdeaaWZeros
import Derived.Lib.SliceRun
import Derived.Test.YtbcienbnhchdeaaWApart
import Derived.ScopeJumps
import Derived.WalkMore
import Derived.Deep.Draws
import Derived.Deep.AppendLies
import Derived.Maps.AppendAt
import Derived.OwnWalk
import Derived.Laws.BytesArg
import Derived.Laws.MakeOwn
import Derived.Laws.OwnMore
import Derived.Deep.OwnRows
import Derived.Tactics
import Derived.Lib.ConvBytes
import Derived.Laws.Slices
import Derived.RowKit3
import Derived.Deep.LoopGhost
import Derived.Deep.QuietTactic
import Derived.BigQuiet
import Derived.WideLaws
import Derived.Deep.DeepCutAuto
import Derived.Deep.CutBlock
import Derived.Deep.RegionHeld3
import Derived.Laws.Rows
import Derived.Lib.AppendStr
import Derived.ArgAppend
import Derived.Laws.IdiomCopy
import Derived.OrdersHeld
import Derived.Laws.BitsLemmas
import Derived.RowKit
import Derived.Lib.SlBytesConst
import Derived.Test.YtbcienbnhchdeaaWLast
import Derived.Test.YtbcienbnhchdeaaWTab
import Derived.Test.YtbcienbnhchdeaaWFour
import Derived.Test.YtbcienbnhchdeaaWQPut
import Derived.Test.YtbcienbnhchdeaaWArr
import Derived.Test.YtbcienbnhchdeaaWFoot
import Derived.Test.YtbcienbnhchdeaaWKept
import Derived.Test.YtbcienbnhchdeaaWShare
import Derived.Test.YtbcienbnhchdeaaWN
import Derived.Test.YtbcienbnhchdeaaWFootNe
import Derived.Test.YtbcienbnhchdeaaWAt
import Derived.Test.YtbcienbnhchdeaaWEqStruct
import Derived.Test.YtbcienbnhchdeaaWRepsOne
import Derived.Test.YtbcienbnhchdeaaWInv
import Derived.Test.YtbcienbnhchdeaaWInvWords
import Derived.Test.YtbcienbnhchdeaaWGuard
import Derived.Test.YtbcienbnhchdeaaWNEv
import Derived.ProofKit
import Derived.OpenShut
import Derived.Deep.Slices
import Derived.Deep.Matrix
import Derived.StillTailTactics
import Derived.RangeFuncBox
import Derived.RangeFuncNested
import Derived.RangeFuncBound
import Derived.RangeFuncCalls
import Derived.RangeFuncLeaves
import Derived.Shelf.Abstract
import Derived.Shelf.RegionOpen
import Derived.OwnWalkIn
import Derived.TacticsInMore
import Derived.LoopNIn
import Derived.LoopIn

/- The dump's head: a list of words; only the first three are looked at. -/
namespace Go.Proofs.Ytbcienbnhchdeaa.Enter
def restL : List Char := [97, 116, 32, 112, 97, 99, 101, 115, 101, 116, 116, 101, 114, 47, 112, 97, 99, 101, 115, 101, 116, 116, 101, 114, 108, 97, 119, 48, 49, 46, 67, 114, 99, 74, 111, 105, 110, 115, 32, 112, 97, 99, 101, 115, 101, 116, 116, 101, 114, 47, 112, 97, 99, 101, 115, 101, 116, 116, 101, 114, 108, 97, 119, 48, 49, 46, 67, 114, 99, 83, 117, 109, 115, 32, 112, 97, 99, 101, 115, 101, 116, 116, 101, 114, 47, 112, 97, 99, 101, 115, 101, 116, 116, 101, 114, 108, 97, 119, 48, 49, 46, 67, 114, 99, 66, 121, 116, 101, 115, 32, 112, 97, 99, 101, 115, 101, 116, 116, 101, 114, 47, 112, 97, 99, 101, 115, 101, 116, 116, 101, 114, 108, 97, 119, 48, 53, 46, 68, 105, 115, 107, 75, 101, 101, 112, 115, 32, 112, 97, 99, 101, 115, 101, 116, 116, 101, 114, 47, 112, 97, 99, 101, 115, 101, 116, 116, 101, 114, 108, 97, 119, 48, 53, 46, 68, 105, 115, 107, 83, 97, 102, 101, 32, 112, 97, 99, 101, 115, 101, 116, 116, 101, 114, 47, 112, 97, 99, 101, 115, 101, 116, 116, 101, 114, 108, 97, 119, 48, 49, 46, 67, 114, 99, 82, 101, 97, 100, 115, 32, 112, 97, 99, 101, 115, 101, 116, 116, 101, 114, 47, 112, 97, 99, 101, 115, 101, 116, 116, 101, 114, 108, 97, 119, 48, 49, 46, 67, 114, 99, 84, 117, 114, 110, 115, 32, 112, 97, 99, 101, 115, 101, 116, 116, 101, 114, 47, 112, 97, 99, 101, 115, 101, 116, 116, 101, 114, 108, 97, 119, 48, 49, 46, 67, 114, 99, 83, 119, 97, 112, 115, 32, 112, 97, 99, 101, 115, 101, 116, 116, 101, 114, 47, 112, 97, 99, 101, 115, 101, 116, 116, 101, 114, 108, 97, 119, 48, 53, 46, 68, 105, 115, 107, 79, 119, 110, 115, 32, 112, 97, 99, 101, 115, 101, 116, 116, 101, 114, 47, 112, 97, 99, 101, 115, 101, 116, 116, 101, 114, 108, 97, 119, 48, 53, 46, 68, 105, 115, 107, 80, 108, 97, 121, 115, 32, 112, 97, 99, 101, 115, 101, 116, 116, 101, 114, 47, 112, 97, 99, 101, 115, 101, 116, 116, 101, 114, 108, 97, 119, 48, 53, 46, 68, 105, 115, 107, 82, 111, 111, 109, 32, 112, 97, 99, 101, 115, 101, 116, 116, 101, 114, 47, 112, 97, 99, 101, 115, 101, 116, 116, 101, 114, 108, 97, 119, 48, 53, 46, 68, 105, 115, 107, 78, 105, 108, 32, 112, 97, 99, 101, 115, 101, 116, 116, 101, 114, 47, 112, 97, 99, 101, 115, 101, 116, 116, 101, 114, 108, 97, 119, 48, 52, 46, 70, 114, 97, 109, 101, 80, 117, 116, 115, 32, 112, 97, 99, 101, 115, 101, 116, 116, 101, 114, 47, 112, 97, 99, 101, 115, 101, 116, 116, 101, 114, 108, 97, 119, 48, 52, 46, 70, 114, 97, 109, 101, 66, 97, 99, 107, 32, 112, 97, 99, 101, 115, 101, 116, 116, 101, 114, 47, 112, 97, 99, 101, 115, 101, 116, 116, 101, 114, 108, 97, 119, 48, 52, 46, 70, 114, 97, 109, 101, 67, 117, 116, 115, 32, 112, 97, 99, 101, 115, 101, 116, 116, 101, 114, 47, 112, 97, 99, 101, 115, 101, 116, 116, 101, 114, 108, 97, 119, 48, 52, 46, 70, 114, 97, 109, 101, 74, 111, 105, 110, 115, 32, 112, 97, 99, 101, 115, 101, 116, 116, 101, 114, 47, 112, 97, 99, 101, 115, 101, 116, 116, 101, 114, 108, 97, 119, 48, 52, 46, 70, 114, 97, 109, 101, 71, 101, 116, 115, 32, 112, 97, 99, 101, 115, 101, 116, 116, 101, 114, 47, 112, 97, 99, 101, 115, 101, 116, 116, 101, 114, 108, 97, 119, 48, 52, 46, 70, 114, 97, 109, 101, 84, 111, 114, 110, 32, 112, 97, 99, 101, 115, 101, 116, 116, 101, 114, 47, 112, 97, 99, 101, 115, 101, 116, 116, 101, 114, 108, 97, 119, 48, 54, 46, 74, 111, 117, 114, 110, 97, 108, 67, 114, 97, 115, 104, 32, 112, 97, 99, 101, 115, 101, 116, 116, 101, 114, 47, 112, 97, 99, 101, 115, 101, 116, 116, 101, 114, 108, 97, 119, 48, 54, 46, 74, 111, 117, 114, 110, 97, 108, 79, 112, 101, 110, 115, 32, 112, 97, 99, 101, 115, 101, 116, 116, 101, 114, 47, 112, 97, 99, 101, 115, 101, 116, 116, 101, 114, 108, 97, 119, 48, 54, 46, 74, 111, 117, 114, 110, 97, 108, 84, 111, 114, 110, 32, 112, 97, 99, 101, 115, 101, 116, 116, 101, 114, 47, 112, 97, 99, 101, 115, 101, 116, 116, 101, 114, 108, 97, 119, 48, 54, 46, 74, 111, 117, 114, 110, 97, 108, 83, 119, 97, 112, 115, 32, 112, 97, 99, 101, 115, 101, 116, 116, 101, 114, 47, 112, 97, 99, 101, 115, 101, 116, 116, 101, 114, 108, 97, 119, 48, 54, 46, 74, 111, 117, 114, 110, 97, 108, 80, 108, 97, 121, 115, 32, 112, 97, 99, 101, 115, 101, 116, 116, 101, 114, 47, 112, 97, 99, 101, 115, 101, 116, 116, 101, 114, 108, 97, 119, 48, 54, 46, 74, 111, 117, 114, 110, 97, 108, 78, 105, 108].map Char.ofNat
def sumL : List Char := [55, 51, 48, 53, 55, 56, 102, 97, 53, 49, 101, 98, 54, 51, 50, 97, 52, 98, 102, 99, 57, 55, 51, 97, 57, 98, 100, 56, 100, 98, 49, 51, 55, 98, 101, 99, 57, 48, 102, 53, 102, 49, 53, 97, 100, 49, 57, 54, 57, 98, 56, 102, 53, 56, 97, 56, 48, 52, 54, 51, 56, 102, 56, 101].map Char.ofNat
theorem order : Try.prog.initOrder = String.ofList ([Char.ofNat 104, Char.ofNat 97, Char.ofNat 114, Char.ofNat 110, Char.ofNat 101, Char.ofNat 115, Char.ofNat 115] ++ Char.ofNat 32 :: (sumL ++ Char.ofNat 32 :: ([Char.ofNat 99, Char.ofNat 117, Char.ofNat 116] ++ Char.ofNat 32 :: restL))) := by kernel_rfl
theorem word : ∀ (a r : List Char), a.all (· != Char.ofNat 32) = true → wordsSigns (a ++ Char.ofNat 32 :: r) = a :: wordsSigns r
  | [], r, _ => rfl
  | c :: a, r, h => by
    simp only [List.all_cons, Bool.and_eq_true, bne_iff_ne, ne_eq] at h
    have ih := word a r h.2
    rw [List.cons_append, wordsSigns, ih]
    intro hc
    exact absurd hc h.1
theorem words : ∃ R, wordsSigns Try.prog.initOrder.toList = [Char.ofNat 104, Char.ofNat 97, Char.ofNat 114, Char.ofNat 110, Char.ofNat 101, Char.ofNat 115, Char.ofNat 115] :: sumL :: [Char.ofNat 99, Char.ofNat 117, Char.ofNat 116] :: R := by
  refine ⟨wordsSigns restL, ?_⟩
  rw [order, String.toList_ofList, word _ _ (by decide +kernel), word _ _ (by decide +kernel), word _ _ (by decide +kernel)]
theorem behind : ∃ R, behindMainWord (wordsSigns Try.prog.initOrder.toList) = [Char.ofNat 99, Char.ofNat 117, Char.ofNat 116] :: R := by
  obtain ⟨R, h⟩ := words
  refine ⟨R, ?_⟩
  rw [h]
  kernel_rfl
theorem head_of {P : Program} {R : List (List Char)} (h : behindMainWord (wordsSigns P.initOrder.toList) = [Char.ofNat 99, Char.ofNat 117, Char.ofNat 116] :: R) : P.headLifts = [] := by
  unfold Program.headLifts
  rw [h]
  rfl
theorem enter_of {P : Program} {R : List (List Char)} (h : behindMainWord (wordsSigns P.initOrder.toList) = [Char.ofNat 99, Char.ofNat 117, Char.ofNat 116] :: R) (h1 : P.laysLater = false) (h2 : P.bearsReflect = false) (h3 : P.doorFits [] = true) : P.mayEnter = true := by
  unfold Program.mayEnter
  rw [h, h1, h2]
  have e : (stripLifts liftWords ([Char.ofNat 99, Char.ofNat 117, Char.ofNat 116] :: R)) = ([], [Char.ofNat 99, Char.ofNat 117, Char.ofNat 116] :: R) := rfl
  simp only [e, h3]
  rfl
theorem lifts_of {P : Program} {R : List (List Char)} (h : behindMainWord (wordsSigns P.initOrder.toList) = [Char.ofNat 99, Char.ofNat 117, Char.ofNat 116] :: R) : P.liftsFinal = false := by
  unfold Program.liftsFinal
  rw [h, head_of h]
  rfl
theorem mk_of {P : Program} {R : List (List Char)} (h : behindMainWord (wordsSigns P.initOrder.toList) = [Char.ofNat 99, Char.ofNat 117, Char.ofNat 116] :: R) : P.make = some .cut := by
  unfold Program.make
  rw [h]
  rfl
theorem enter : Try.prog.mayEnter = true := by
  obtain ⟨R, h⟩ := behind
  exact enter_of h (by kernel_rfl) (by kernel_rfl) (by kernel_rfl)
theorem lifts : Try.prog.liftsFinal = false := by
  obtain ⟨R, h⟩ := behind
  exact lifts_of h
theorem mk : Try.prog.make = some .cut := by
  obtain ⟨R, h⟩ := behind
  exact mk_of h
theorem enterP : Try.pinned.checked.prog.mayEnter = true := enter
theorem liftsP : Try.pinned.checked.prog.liftsFinal = false := lifts
theorem mkP : Try.pinned.checked.prog.make = some .cut := mk
end Go.Proofs.Ytbcienbnhchdeaa.Enter

/- The plain law of the check of bytes: numbers and lists alone. -/
namespace Go.Proofs.Ytbcienbnhchdeaa.CrcM

theorem xor_eq_zero {a b : Nat} : a ^^^ b = 0 ↔ a = b := by
  constructor
  · intro h
    apply Nat.eq_of_testBit_eq
    intro i
    have h1 := congrArg (fun n => n.testBit i) h
    simp only [Nat.testBit_xor, Nat.zero_testBit] at h1
    revert h1
    cases a.testBit i <;> cases b.testBit i <;> simp
  · rintro rfl
    exact Nat.xor_self _
theorem xor_right_cancel {a b c : Nat} (h : a ^^^ c = b ^^^ c) : a = b := by
  have := congrArg (fun n => n ^^^ c) h
  simpa [Nat.xor_assoc] using this
theorem xor_left_cancel {a b c : Nat} (h : c ^^^ a = c ^^^ b) : a = b := by
  rw [Nat.xor_comm c, Nat.xor_comm c] at h
  exact xor_right_cancel h

def poly : Nat := 3988292384
def bit1 (w : Nat) : Nat := w / 2 ^^^ (poly * (w % 2))
def bit8 (w : Nat) : Nat := bit1 (bit1 (bit1 (bit1 (bit1 (bit1 (bit1 (bit1 w)))))))
def upd (w : Nat) (c : UInt8) : Nat := bit8 (w ^^^ c.toNat)
def fold (w : Nat) (l : List UInt8) : Nat := l.foldl upd w

theorem xor_div2 (a b : Nat) : (a ^^^ b) / 2 = a / 2 ^^^ b / 2 := by
  simpa [Nat.shiftRight_eq_div_pow] using Nat.shiftRight_xor_distrib (a := a) (b := b) (i := 1)
theorem xor_mod2 (a b : Nat) : (a ^^^ b) % 2 = (a % 2) ^^^ (b % 2) := by
  simpa using Nat.xor_mod_two_pow (a := a) (b := b) (n := 1)
theorem xor_div256 (a b : Nat) : (a ^^^ b) / 256 = a / 256 ^^^ b / 256 := by
  simpa [Nat.shiftRight_eq_div_pow] using Nat.shiftRight_xor_distrib (a := a) (b := b) (i := 8)
theorem xor_mod256 (a b : Nat) : (a ^^^ b) % 256 = (a % 256) ^^^ (b % 256) := by
  simpa using Nat.xor_mod_two_pow (a := a) (b := b) (n := 8)
theorem bit1_xor (a b : Nat) : bit1 (a ^^^ b) = bit1 a ^^^ bit1 b := by
  unfold bit1
  rw [xor_div2, xor_mod2]
  have ha : a % 2 = 0 ∨ a % 2 = 1 := by omega
  have hb : b % 2 = 0 ∨ b % 2 = 1 := by omega
  rcases ha with ha | ha <;> rcases hb with hb | hb <;> simp only [ha, hb]
  · simp
  · simp [Nat.xor_assoc]
  · simp only [Nat.xor_zero, Nat.mul_one, Nat.mul_zero]
    rw [Nat.xor_assoc, Nat.xor_assoc, Nat.xor_comm (b / 2) poly]
  · simp only [Nat.xor_self, Nat.mul_zero, Nat.xor_zero, Nat.mul_one]
    rw [Nat.xor_assoc, ← Nat.xor_assoc poly, Nat.xor_comm poly (b / 2), Nat.xor_assoc, Nat.xor_self, Nat.xor_zero]
theorem bit8_xor (a b : Nat) : bit8 (a ^^^ b) = bit8 a ^^^ bit8 b := by
  unfold bit8
  simp only [bit1_xor]
theorem bit1_lt {w : Nat} (h : w < 4294967296) : bit1 w < 4294967296 := by
  unfold bit1
  apply Nat.xor_lt_two_pow (n := 32)
  · omega
  · unfold poly; omega
theorem bit8_lt {w : Nat} (h : w < 4294967296) : bit8 w < 4294967296 := by
  unfold bit8
  exact bit1_lt (bit1_lt (bit1_lt (bit1_lt (bit1_lt (bit1_lt (bit1_lt (bit1_lt h)))))))
theorem bit1_even (m : Nat) : bit1 (2 * m) = m := by
  unfold bit1
  simp
theorem bit8_high (q : Nat) : bit8 (256 * q) = q := by
  unfold bit8
  rw [show 256 * q = 2 * (2 * (2 * (2 * (2 * (2 * (2 * (2 * q))))))) by omega]
  simp only [bit1_even]
theorem bit1_zero {w : Nat} (h : w < 4294967296) (h0 : bit1 w = 0) : w = 0 := by
  unfold bit1 at h0
  have h1 := xor_eq_zero.1 h0
  unfold poly at h1
  omega
theorem bit8_zero {w : Nat} (h : w < 4294967296) (h0 : bit8 w = 0) : w = 0 := by
  unfold bit8 at h0
  have l1 := bit1_lt h
  have l2 := bit1_lt l1
  have l3 := bit1_lt l2
  have l4 := bit1_lt l3
  have l5 := bit1_lt l4
  have l6 := bit1_lt l5
  have l7 := bit1_lt l6
  exact bit1_zero h (bit1_zero l1 (bit1_zero l2 (bit1_zero l3 (bit1_zero l4 (bit1_zero l5 (bit1_zero l6 (bit1_zero l7 h0)))))))
theorem bit8_inj {a b : Nat} (ha : a < 4294967296) (hb : b < 4294967296) (h : bit8 a = bit8 b) : a = b := by
  have h1 : bit8 (a ^^^ b) = 0 := by rw [bit8_xor, h, Nat.xor_self]
  exact xor_eq_zero.1 (bit8_zero (Nat.xor_lt_two_pow (n := 32) ha hb) h1)
theorem byte_lt (c : UInt8) : c.toNat < 256 := c.toNat_lt
theorem xor_byte_lt {w : Nat} (h : w < 4294967296) (c : UInt8) : w ^^^ c.toNat < 4294967296 :=
  Nat.xor_lt_two_pow (n := 32) h (by have := byte_lt c; omega)
theorem upd_lt {w : Nat} (h : w < 4294967296) (c : UInt8) : upd w c < 4294967296 := bit8_lt (xor_byte_lt h c)
theorem fold_lt (l : List UInt8) : ∀ {w : Nat}, w < 4294967296 → fold w l < 4294967296 := by
  induction l with
  | nil => intro w h; exact h
  | cons c l ih => intro w h; exact ih (upd_lt h c)
/-- A byte by the table: what the program does. -/
theorem table_step {w : Nat} (c : UInt8) : bit8 ((w % 256) ^^^ c.toNat) ^^^ (w / 256) = upd w c := by
  unfold upd
  have hc : c.toNat % 256 = c.toNat := Nat.mod_eq_of_lt (byte_lt c)
  have hc0 : c.toNat / 256 = 0 := Nat.div_eq_of_lt (byte_lt c)
  have e : w ^^^ c.toNat = ((w % 256) ^^^ c.toNat) ^^^ (256 * (w / 256)) := by
    apply Nat.eq_of_testBit_eq
    intro i
    have h256 : w = 2 ^ 8 * (w / 256) + w % 256 := by omega
    have hlt : w % 256 < 2 ^ 8 := by omega
    have hcl : c.toNat < 2 ^ 8 := byte_lt c
    rw [show 256 * (w / 256) = 2 ^ 8 * (w / 256) by rfl]
    simp only [Nat.testBit_xor]
    by_cases hi : i < 8
    · rw [Nat.testBit_two_pow_mul]
      have : w.testBit i = (w % 256).testBit i := by
        rw [show (256 : Nat) = 2 ^ 8 by rfl, Nat.testBit_mod_two_pow]; simp [hi]
      rw [this]
      simp [show ¬ 8 ≤ i by omega]
    · have h1 : (w % 256).testBit i = false := Nat.testBit_lt_two_pow (Nat.lt_of_lt_of_le hlt (Nat.pow_le_pow_right (by omega) (by omega)))
      have h2 : c.toNat.testBit i = false := Nat.testBit_lt_two_pow (Nat.lt_of_lt_of_le hcl (Nat.pow_le_pow_right (by omega) (by omega)))
      rw [h1, h2, Nat.testBit_two_pow_mul]
      have h3 : w.testBit i = (w / 256).testBit (i - 8) := by
        rw [show (256 : Nat) = 2 ^ 8 by rfl, Nat.testBit_div_two_pow]
        congr 1
        omega
      rw [h3]
      simp [show 8 ≤ i by omega]
  rw [e, bit8_xor _ (256 * (w / 256)), bit8_high]
theorem fold_append (w : Nat) (a b : List UInt8) : fold w (a ++ b) = fold (fold w a) b := List.foldl_append ..
theorem fold_inj (l : List UInt8) : ∀ {a b : Nat}, a < 4294967296 → b < 4294967296 → fold a l = fold b l → a = b := by
  induction l with
  | nil => intro a b _ _ h; exact h
  | cons c l ih =>
    intro a b ha hb h
    have h1 := ih (upd_lt ha c) (upd_lt hb c) h
    have h2 := bit8_inj (xor_byte_lt ha c) (xor_byte_lt hb c) h1
    exact xor_right_cancel h2
theorem upd_byte_inj {w : Nat} (h : w < 4294967296) {x y : UInt8} (e : upd w x = upd w y) : x = y := by
  have h2 := bit8_inj (xor_byte_lt h x) (xor_byte_lt h y) e
  exact UInt8.toNat_inj.1 (xor_left_cancel h2)
/-- One byte turned: another check. -/
theorem fold_turn (p q : List UInt8) {x y : UInt8} {w : Nat} (hw : w < 4294967296) (h : fold w (p ++ x :: q) = fold w (p ++ y :: q)) : x = y := by
  rw [fold_append, fold_append] at h
  exact upd_byte_inj (fold_lt p hw) (fold_inj q (upd_lt (fold_lt p hw) x) (upd_lt (fold_lt p hw) y) h)

theorem xor_swap {a b x y : Nat} (h : a ^^^ y = b ^^^ x) : a ^^^ b = x ^^^ y := by
  apply Nat.eq_of_testBit_eq
  intro i
  have h1 := congrArg (fun n => n.testBit i) h
  simp only [Nat.testBit_xor] at h1 ⊢
  revert h1
  cases a.testBit i <;> cases b.testBit i <;> cases x.testBit i <;> cases y.testBit i <;> simp
theorem same_byte : ∀ d : Nat, d < 256 → bit8 d = d → d = 0 := by decide +kernel
theorem high_byte : ∀ d : Nat, d < 256 → bit8 d = d * 16777216 → d = 0 := by decide +kernel
/-- Two neighbours swapped: another check. -/
theorem fold_swap (p q : List UInt8) {x y : UInt8} {w : Nat} (hw : w < 4294967296) (h : fold w (p ++ x :: y :: q) = fold w (p ++ y :: x :: q)) : x = y := by
  rw [fold_append, fold_append] at h
  have hp := fold_lt p hw
  generalize fold w p = v at h hp
  have h1 : upd (upd v x) y = upd (upd v y) x := fold_inj q (upd_lt (upd_lt hp x) y) (upd_lt (upd_lt hp y) x) h
  have h2 := bit8_inj (xor_byte_lt (upd_lt hp x) y) (xor_byte_lt (upd_lt hp y) x) h1
  unfold upd at h2
  rw [bit8_xor, bit8_xor] at h2
  have h3 : bit8 x.toNat ^^^ y.toNat = bit8 y.toNat ^^^ x.toNat := by
    rw [Nat.xor_assoc, Nat.xor_assoc] at h2
    exact xor_left_cancel h2
  have h4 : bit8 (x.toNat ^^^ y.toNat) = x.toNat ^^^ y.toNat := by
    rw [bit8_xor]
    exact xor_swap h3
  have h5 := same_byte _ (Nat.xor_lt_two_pow (n := 8) (byte_lt x) (byte_lt y)) h4
  exact UInt8.toNat_inj.1 (xor_eq_zero.1 h5)
end Go.Proofs.Ytbcienbnhchdeaa.CrcM

/- The table of the check: what each byte does to a word. -/
namespace Go.Proofs.Ytbcienbnhchdeaa.Hand
open Go.RowKit CrcM
set_option linter.unusedVariables false

theorem wpList_alloc_zero {P : Program} {ops : Array Oper} {rest : List Oper} {o : Oper} {a : Act} {w : World} {Q : Exit → Act → World → Prop} (hgd : o.guard = none) (t : TypeId) (ho : o.op = .alloc t)
    (z : Value) (hz : (P.info? t).map (·.zero) = some (some z))
    (h : wpList P ops Q rest (a.put o.dst (.pointer (some ⟨w.heap.size, 0, none⟩))) (w.alloc (.cells z.cells t))) : wpList P ops Q (o :: rest) a w := by
  refine wpList_plain hgd fun _ hK => ?_
  cases hq : P.info? t with
  | none => simp [hq] at hz
  | some i =>
    have hz' : i.zero = some z := by simpa [hq] using hz
    have hr : (Instr.alloc t true (.tuple #[])).run P w = .ok (.pointer (some ⟨w.heap.size, 0, none⟩)) (w.alloc (.cells z.cells t)) := by
      simp [Instr.alloc, zeroValue, typeInfo, hq, hz', newVar, newRow]
    unfold Oper.wp execOp
    simp only [ho, Sem.run_bind, hr, Result.andThen_ok, Sem.run_pure]
    exact hK _ _ h

/-- Block g is a row of n cells, f tells each; none is frozen. -/
def Blk (w : World) (g : Nat) (t : TypeId) (cs : Array Value) : Prop := w.heap[g]? = some (.cells cs t (0, 0))
theorem Blk.cell {w : World} {g : Nat} {t : TypeId} {cs : Array Value} (h : Blk w g t cs) (i : Nat) : w.cell? ⟨g, i, none⟩ = cs[i]? := by
  unfold Blk at h
  simp [World.cell?, h]
theorem Blk.frozen {w : World} {g : Nat} {t : TypeId} {cs : Array Value} (h : Blk w g t cs) (i : Nat) : w.frozen? ⟨g, i, none⟩ = false := by
  unfold Blk at h
  simp [World.frozen?, h]
theorem Blk.set_ {w : World} {g : Nat} {t : TypeId} {cs : Array Value} (h : Blk w g t cs) (i : Nat) (u : Value) : Blk (w.setCell ⟨g, i, none⟩ u) g t (cs.setIfInBounds i u) := by
  unfold Blk at h ⊢
  simp [World.setCell, Array.getElem?_modify, h]

theorem zero104 : (Try.prog.info? 104).map (·.zero) = some (some (.agg (Array.replicate 256 (.int .u32 0)))) := by kernel_rfl

theorem bits_and1 (w : Nat) (h : w < 4294967296) : bits .and .u32 (w : Int) 1 = ((w % 2 : Nat) : Int) := by
  have := u32_and_nat w 1 h (by omega)
  simpa using this
/-- One bit's step, as the walk spells it. -/
theorem step_bit (w : Nat) (h : w < 4294967296) : bits .xor .u32 ((w : Int) / 2) (3988292384 * bits .and .u32 (w : Int) 1 % 4294967296) = ((bit1 w : Nat) : Int) := by
  rw [bits_and1 w h]
  have e : (3988292384 * ((w % 2 : Nat) : Int)) % 4294967296 = ((poly * (w % 2) : Nat) : Int) := by unfold poly; omega
  rw [e]
  have e2 : (w : Int) / 2 = ((w / 2 : Nat) : Int) := by omega
  rw [e2, u32_xor_nat _ _ (by omega) (by unfold poly; omega)]
  rfl

theorem bit8_it (w : Nat) : bit8 w = bit1 (bit1 (bit1 (bit1 (bit1 (bit1 (bit1 (bit1 w))))))) := rfl
/-- j bits' steps. -/
def bitN : Nat → Nat → Nat
  | 0, w => w
  | j + 1, w => bit1 (bitN j w)
theorem bitN_lt (j : Nat) {w : Nat} (h : w < 4294967296) : bitN j w < 4294967296 := by
  induction j with
  | zero => exact h
  | succ j ih => exact bit1_lt ih
theorem bitN_8 (w : Nat) : bitN 8 w = bit8 w := rfl
/-- The row of the table, of which the first i are told. -/
def TabOk (cs : Array Value) (i : Nat) : Prop := cs.size = 256 ∧ ∀ j, j < i → cs[j]? = some (.int .u32 ((bit8 j : Nat) : Int))
theorem TabOk.step {cs : Array Value} {i : Nat} (h : TabOk cs i) (hi : i < 256) : TabOk (cs.setIfInBounds i (.int .u32 ((bit8 i : Nat) : Int))) (i + 1) := by
  refine ⟨by simp [h.1], fun j hj => ?_⟩
  rw [Array.getElem?_setIfInBounds]
  by_cases e : i = j
  · subst e
    rw [if_pos rfl, if_pos (by rw [h.1]; exact hi)]
  · rw [if_neg e]
    exact h.2 j (by omega)

/-- The world in the table's making: block w.heap.size is the row, the first n are told. -/
structure TRel (w wr : World) (n : Nat) : Prop where
  below : Below w.heap.size w wr
  row : ∃ cs, Blk wr w.heap.size 104 cs ∧ TabOk cs n
theorem TRel.cell {w wr : World} {n : Nat} (h : TRel w wr n) (j : Nat) (hj : j < 256) : ∃ v, wr.cell? ⟨w.heap.size, j, none⟩ = some v := by
  obtain ⟨cs, hb, hs, _⟩ := h.row
  rw [hb.cell]
  exact ⟨_, Array.getElem?_eq_getElem (by rw [hs]; exact hj)⟩
theorem TRel.frozen {w wr : World} {n : Nat} (h : TRel w wr n) (j : Nat) : wr.frozen? ⟨w.heap.size, j, none⟩ = false := by
  obtain ⟨cs, hb, _⟩ := h.row
  exact hb.frozen j
theorem TRel.step {w wr : World} {n : Nat} (h : TRel w wr n) (hn : n < 256) : TRel w (wr.setCell ⟨w.heap.size, n, none⟩ (.int .u32 ((bit8 n : Nat) : Int))) (n + 1) := by
  obtain ⟨cs, hb, hs⟩ := h.row
  exact ⟨h.below.setCell (Nat.le_refl _) _, _, hb.set_ n _, hs.step hn⟩

set_option maxRecDepth 100000 in
set_option maxHeartbeats 1000000 in
theorem table_any (w : World) : Calls Try.prog 93 #[] w fun e w' => e = .returned (.pointer (some ⟨w.heap.size, 0, none⟩)) ∧ TRel w w' 256 := by
  obtain ⟨W, hW, hT⟩ : ∃ W, w.alloc (.cells (Value.agg (Array.replicate 256 (.int .u32 0))).cells 104) = W ∧ TRel w W 0 :=
    ⟨_, rfl, (Below.refl _ _).alloc (Nat.le_refl _) _, _, heap_alloc_new w _, by simp [Value.cells], fun j hj => absurd hj (by omega)⟩
  have HW := Lib.hid hW
  have HT := Lib.hid hT
  clear hW hT
  go_enter Try.func93, Try.ntmps93
  go_wp2_with (refine wpList_alloc_zero rfl 104 rfl _ zero104 ?_; rw [HW.out])
  go_loopw [4] (fun i wr => ∃ n : Nat, n ≤ 256 ∧ i = .int .i64 (n : Int) ∧ Hid (TRel w wr n)) (fun i _ => 256 - (intOf i).toNat)
  case atStart => exact ⟨0, by omega, rfl, HT⟩
  case round =>
    obtain ⟨n, hn, rfl, HR⟩ := hrel
    clear HW HT
    by_cases hlt : n < 256
    · go_wp2
      go_loop [3, 9] (fun v k => ∃ j : Nat, j ≤ 8 ∧ k = .int .i64 (j : Int) ∧ v = .int .u32 ((bitN j n : Nat) : Int)) (fun _ k => 8 - (intOf k).toNat)
      case atStart => exact ⟨0, by omega, rfl, rfl⟩
      case round =>
        obtain ⟨j, hj, rfl, rfl⟩ := hrel
        by_cases hjl : j < 8
        · have hb := bitN_lt j (w := n) (by omega)
          obtain ⟨m, hm⟩ : ∃ m, bitN j n = m := ⟨_, rfl⟩
          rw [hm] at hb ⊢
          have HM := Lib.hid hm
          clear hm
          go_wp2
          go_round
          case rel => exact ⟨j + 1, by omega, by go_num, by rw [step_bit m hb]; simp only [bitN]; rw [HM.out]⟩
          case measure => simp [intOf]; omega
        · obtain rfl : j = 8 := by omega
          obtain ⟨v, hv⟩ := HR.out.cell n hlt
          have hf := HR.out.frozen n
          rw [bitN_8]
          go_wp2
          go_roundw
          case rel => exact ⟨n + 1, by omega, by go_num, HR.out.step hlt⟩
          case measure => simp [intOf]; omega
    · obtain rfl : n = 256 := by omega
      go_wp2
      go_ret
      exact ⟨rfl, HR.out⟩
end Go.Proofs.Ytbcienbnhchdeaa.Hand

/- The check of bytes: what crc.More answers. -/
namespace Go.Proofs.Ytbcienbnhchdeaa.Hand
open Go.RowKit CrcM Go.Proofs.YtbcienbnhchdeaaW.PrintWords
set_option linter.unusedVariables false

/-- Numbers that are bytes. -/
def okB (l : List Int) : Bool := l.all fun x => decide (0 ≤ x) && decide (x < 256)
def byteL (l : List Int) : List UInt8 := l.map fun x => UInt8.ofNat x.toNat
def okW (s : Int) : Bool := decide (0 ≤ s) && decide (s < 4294967296)
def moreI (s : Int) (l : List Int) : Int := 4294967295 - (fold (4294967295 - s.toNat) (byteL l) : Nat)

theorem okB_rd {l : List Int} (h : okB l = true) {n : Nat} (hn : n < l.length) : ∃ c : Nat, c < 256 ∧ l.getD n 0 = (c : Int) ∧ l[n]? = some (c : Int) := by
  have h1 := List.all_eq_true.1 h (l[n]'hn) (List.getElem_mem hn)
  simp only [Bool.and_eq_true, decide_eq_true_eq] at h1
  refine ⟨(l[n]'hn).toNat, by omega, ?_, ?_⟩
  · rw [List.getD_eq_getElem?_getD, List.getElem?_eq_getElem hn]
    simp only [Option.getD_some]
    omega
  · rw [List.getElem?_eq_getElem hn]
    congr 1
    omega
theorem byteL_snoc {l : List Int} {n c : Nat} (hn : n < l.length) (h : l[n]? = some (c : Int)) : byteL (l.take (n + 1)) = byteL (l.take n) ++ [UInt8.ofNat c] := by
  unfold byteL
  rw [List.take_add_one, h]
  simp
theorem fold_snoc (w : Nat) (l : List UInt8) (c : UInt8) : fold w (l ++ [c]) = upd (fold w l) c := by
  rw [fold_append]
  rfl
theorem xor_max {s : Nat} (h : s < 4294967296) : 4294967295 ^^^ s = 4294967295 - s := by
  have e : (4294967295 ^^^ s) = (BitVec.allOnes 32 ^^^ BitVec.ofNat 32 s).toNat := by
    rw [BitVec.toNat_xor]
    simp only [BitVec.toNat_allOnes, BitVec.toNat_ofNat]
    rw [Nat.mod_eq_of_lt (show s < 2 ^ 32 by omega)]
  rw [e, BitVec.allOnes_xor, BitVec.toNat_not]
  simp only [BitVec.toNat_ofNat]
  omega
theorem not_u32 {s : Nat} (h : s < 4294967296) : bits .xor .u32 IntKind.u32.max (s : Int) = ((4294967295 - s : Nat) : Int) := by
  have e : IntKind.u32.max = ((4294967295 : Nat) : Int) := by decide
  rw [e, u32_xor_nat _ _ (by omega) h, xor_max h]
/-- A cell of a byte slice, by its number. -/
theorem byte_at {w : World} {A : Option Addr} {l : List Int} (hr : Kd.C (Kd.int .u8) w A l.length l) {n : Nat} (hn : n < l.length) : ∃ ad, A = some ad ∧ w.cell? (ad.add n) = some (.int .u8 (l.getD n 0)) := by
  obtain ⟨ad, e, hc⟩ := hr.2.2 (by omega)
  refine ⟨ad, e, ?_⟩
  obtain ⟨c, _, hcs, hcell⟩ := hc n (l[n]'hn) (List.getElem?_eq_getElem hn)
  have hcs' : c = [.int .u8 (l[n]'hn)] := hcs
  subst hcs'
  have := hcell 0 (.int .u8 (l[n]'hn)) rfl
  have e2 : n * (Kd.int .u8).sz + 0 = n := by show n * 1 + 0 = n; omega
  rw [e2] at this
  rw [this, List.getD_eq_getElem?_getD, List.getElem?_eq_getElem hn]
  rfl

set_option maxRecDepth 100000 in
set_option maxHeartbeats 1000000 in
theorem more_any (s : Nat) (A : Option Addr) (c : Nat) (l : List Int) (w : World) (hs : s < 4294967296) (hl : okB l = true) (hlen : l.length ≤ 140737488355328) (hr : Kd.C (Kd.int .u8) w A l.length l) :
    Calls Try.prog 29 #[.int .u32 (s : Int), .slice A l.length c] w fun e w' => e = .returned (.int .u32 (moreI s l)) ∧ Below w.heap.size w w' := by
  have HR := Aside0.mk hr
  have HL := Lib.hid hl
  have hx := not_u32 hs
  clear hr hl
  obtain ⟨W, hW⟩ : ∃ W, 4294967295 - s = W := ⟨_, rfl⟩
  have hWl : W < 4294967296 := by omega
  rw [hW] at hx
  have HW := Lib.hid hW
  clear hW
  go_enter Try.func29, Try.ntmps29
  go_wp2_with (go_at_call 93; refine (table_any _).mono ?_; rintro e w1 ⟨rfl, hT⟩; have HT := Lib.hid hT; clear hT)
  clear hx
  go_loop [6, 14] (fun v i => ∃ n : Nat, n ≤ l.length ∧ i = .int .i64 (n : Int) ∧ v = .int .u32 ((fold W (byteL (l.take n)) : Nat) : Int)) (fun _ i => l.length - (intOf i).toNat)
  case atStart => exact ⟨0, by omega, rfl, by simp [byteL, fold]⟩
  case round =>
    obtain ⟨n, hn, rfl, rfl⟩ := hrel
    have hF := fold_lt (byteL (l.take n)) hWl
    by_cases hlt : n < l.length
    · obtain ⟨b, hb, hbd, hbg⟩ := okB_rd HL.out hlt
      have hst := fold_snoc W (byteL (l.take n)) (UInt8.ofNat b)
      rw [← byteL_snoc hlt hbg] at hst
      have HST := Lib.hid hst
      clear hst
      generalize fold W (byteL (l.take n)) = v at hF HST ⊢
      have hcB := Kd.C_below HR.out HT.out.below
      obtain ⟨ad, rfl, hcell⟩ := byte_at hcB hlt
      rw [hbd] at hcell
      clear hcB hbd hbg
      obtain ⟨x, hx⟩ : ∃ x, (v % 256) ^^^ b = x := ⟨_, rfl⟩
      have hxl : x < 256 := by rw [← hx]; exact Nat.xor_lt_two_pow (n := 8) (by omega) (by omega)
      have hx8 : bits .xor .u8 ((v : Int) % 256) (b : Int) = (x : Int) := by
        rw [show ((v : Int) % 256) = ((v % 256 : Nat) : Int) by omega, u8_xor_nat _ _ (by omega) hb, hx]
      have hup : upd v (UInt8.ofNat b) = bit8 x ^^^ (v / 256) := by
        rw [← table_step, ← hx]
        have e : (UInt8.ofNat b).toNat = b := by simp; omega
        rw [e]
      have hy : bit8 x < 4294967296 := bit8_lt (by omega)
      have hcx : w1.cell? ⟨w.heap.size, x, none⟩ = some (.int .u32 ((bit8 x : Nat) : Int)) := by
        obtain ⟨cs, hb1, _, hb2⟩ := HT.out.row
        rw [hb1.cell]
        exact hb2 x hxl
      rw [hup] at HST
      clear hx hup
      generalize bit8 x = y at HST hcx hy
      have hxy : bits .xor .u32 (y : Int) ((v : Int) / 256) = ((y ^^^ (v / 256) : Nat) : Int) := by
        rw [show ((v : Int) / 256) = ((v / 256 : Nat) : Int) by omega, u32_xor_nat _ _ hy (by omega)]
      go_wp2
      go_round
      case rel => exact ⟨n + 1, by omega, by go_num, by rw [HST.out]⟩
      case measure => simp [intOf]; omega
    · obtain rfl : n = l.length := by omega
      rw [List.take_length] at hF ⊢
      have hq := not_u32 hF
      have hfin : ((4294967295 - fold W (byteL l) : Nat) : Int) = moreI (s : Int) l := by
        unfold moreI
        rw [← HW.out]
        simp only [Int.toNat_natCast]
        have := HW.out
        rw [this]
        omega
      rw [hfin] at hq
      have HQ := Lib.hid hq
      clear hq hfin
      go_wp2
      go_ret
      exact ⟨by rw [← HQ.out]; rfl, HT.out.below⟩
end Go.Proofs.Ytbcienbnhchdeaa.Hand

/- slices.Clone, slices.Grow and slices.Concat over bytes. -/
namespace Go.Proofs.Ytbcienbnhchdeaa.Hand
open Go.RowKit Go.Proofs.YtbcienbnhchdeaaW.PrintWords
set_option linter.unusedVariables false

theorem info5 : (Try.prog.info? 5).map (fun i => (i.zero, i.size, i.bytes)) = some (some (.int .u8 0), 1, 1) := by kernel_rfl

/-- 'S{}': an empty row of the call's own. -/
theorem R_empty (w : World) (ok : Nat → Prop) (hok : ok w.heap.size) : Kd.R (Kd.int .u8) 5 (w.alloc (.cells #[] 5)) w.heap.size ok (.slice (some ⟨w.heap.size, 0, none⟩) 0 0) [] := by
  refine Kd.R_of_own ?_ (fun k hk => ?_)
  · exact ⟨rfl, .inr ⟨w.heap.size, 0, #[], rfl, Nat.le_refl _, heap_alloc_new w _, by simp, by simp [maxLen], by simp [encs]⟩⟩
  · have : w.heap.size = k := by simpa [Value.ownBlock] using hk
    subst this
    exact hok

set_option maxRecDepth 100000 in
set_option maxHeartbeats 1000000 in
theorem clone_any (A : Option Addr) (c : Nat) (l : List Int) (w : World) (hr : Kd.C (Kd.int .u8) w A l.length l) (hlen : l.length ≤ 140737488355328) :
    Calls Try.prog 96 #[.slice A l.length c] w fun e w' => ∃ v, e = .returned v ∧ Kd.R (Kd.int .u8) 5 w' w.heap.size (fun _ => True) v l ∧ Below w.heap.size w w' := by
  have HR := Aside0.mk hr
  cases A with
  | none =>
    have hl : l = [] := by
      rcases Nat.eq_zero_or_pos l.length with h | h
      · exact List.eq_nil_of_length_eq_zero h
      · obtain ⟨ad, e, _⟩ := hr.2.2 h
        cases e
    clear hr
    subst hl
    have hq : ∀ W : World, (binOp .eql 22 (.slice none 0 c) (.slice none 0 0)).run Try.prog W = .ok (.bool true) W := fun W => Lib.run_eql_slice_nil W 22 5 none 0 c 0 0 Try.underlying22
    go_enter Try.func96, Try.ntmps96
    go_wp2
    go_ret
    exact ⟨_, rfl, Kd.R_nil _ _ _ _ _, Below.refl _ _⟩
  | some ad =>
    clear hr
    have hq : ∀ W : World, (binOp .eql 22 (.slice (some ad) l.length c) (.slice none 0 0)).run Try.prog W = .ok (.bool false) W := fun W => Lib.run_eql_slice_nil W 22 5 (some ad) l.length c 0 0 Try.underlying22
    go_enter Try.func96, Try.ntmps96
    go_wp2_with (at_builtin; refine Kd.R_append_row (Value.int .u8) (0 : Int) (h1 := fun _ => rfl) (w0 := w) w.heap.size rfl (.tmp 5) (.tmp 6) 22 5 (.int .u8 0) 1 rfl Try.underlying22 info5 rfl (by omega) _ [] l _ _ _ (fun _ => True) rfl rfl (fun _ _ => trivial) ?aO ?aR ?aB ?aS ?aL ?_; (case aO => exact R_empty w _ trivial); (case aR => exact Kd.C_alloc HR.out _); (case aB => exact (Below.refl _ _).alloc (Nat.le_refl _) _); (case aS => simp); (case aL => simp; omega); intro v1 w1 ho hb hg hat; have HO := Aside0.mk ho; have HB := Aside0.mk hb; clear ho hb hg hat)
    go_ret
    exact ⟨_, rfl, HO.out, HB.out⟩

set_option maxRecDepth 100000 in
set_option maxHeartbeats 1000000 in
theorem grow_nil (n : Nat) (w : World) (hn : n ≤ 140737488355328) :
    Calls Try.prog 102 #[.slice none 0 0, .int .i64 (n : Int)] w fun e w' => ∃ v, e = .returned v ∧ Kd.R (Kd.int .u8) 5 w' w.heap.size (fun _ => True) v [] ∧ Below w.heap.size w w' := by
  by_cases h0 : n = 0
  · subst h0
    go_enter Try.func102, Try.ntmps102
    go_wp2
    go_ret
    exact ⟨_, rfl, Kd.R_nil _ _ _ _ _, Below.refl _ _⟩
  · have hp : (0 : Int) < (n : Int) := by omega
    go_enter Try.func102, Try.ntmps102
    go_wp2_with (at_builtin; refine Kd.R_append_zeros (Kd.int .u8) (w0 := w) w.heap.size rfl (.tmp 20) (.tmp 21) 22 3 5 (.int .u8 0) 1 rfl Try.underlying22 Try.underlying3 info5 rfl (by decide) (by omega) (.slice none 0 0) [] 0 (n : Int) (fun _ => True) rfl rfl rfl (fun _ _ => trivial) (Kd.R_nil _ _ _ _ _) (by omega) (Below.refl _ _) (Nat.le_refl _) ?aL ?_; (case aL => simp; omega); intro v1 w1 ho hb hg hat; simp only [Int.toNat_natCast, List.nil_append] at ho; obtain ⟨g, cap, hv, _, _, _⟩ := Kd.R_form ho (by simp; omega); rw [hv] at ho ⊢; clear hv hg hat; rw [List.length_replicate] at ho ⊢; have ho := Kd.R_take (m := 0) ho (by omega); have HO := Aside0.mk ho; have HB := Aside0.mk hb; clear ho hb)
    go_ret
    exact ⟨_, rfl, HO.out, HB.out⟩

/-- A row of rows, read: its element. -/
theorem row_at {w : World} {A : Option Addr} {ls : List (List Int)} (hr : Kd.C (Kd.slice 5 (Kd.int .u8)) w A ls.length ls) {n : Nat} (hn : n < ls.length) :
    ∃ ad Ai ci, A = some ad ∧ w.cell? (ad.add n) = some (.slice Ai (ls[n]'hn).length ci) ∧ (ls[n]'hn).length ≤ ci ∧ Kd.C (Kd.int .u8) w Ai (ls[n]'hn).length (ls[n]'hn) := by
  obtain ⟨ad, e, hc⟩ := hr.2.2 (by omega)
  obtain ⟨c, _, hcs, hcell⟩ := hc n (ls[n]'hn) (List.getElem?_eq_getElem hn)
  obtain ⟨Ai, ci, hcs', hle, hC⟩ := hcs
  subst hcs'
  have h := hcell 0 _ rfl
  have e2 : n * (Kd.slice 5 (Kd.int .u8)).sz + 0 = n := by show n * 1 + 0 = n; omega
  rw [e2] at h
  exact ⟨ad, Ai, ci, e, h, hle, hC⟩

/-- Two rows in a literal. -/
theorem rows2 {W : World} {A B : Option Addr} {c d : Nat} {l m : List Int} (hA : Kd.C (Kd.int .u8) W A l.length l) (hc : l.length ≤ c) (hB : Kd.C (Kd.int .u8) W B m.length m) (hd : m.length ≤ d) :
    Kd.C (Kd.slice 5 (Kd.int .u8)) (W.alloc (.cells #[.slice A l.length c, .slice B m.length d] 22)) (some ⟨W.heap.size, 0, none⟩) [l, m].length [l, m] := by
  refine ⟨rfl, by simp, fun _ => ⟨_, rfl, fun j p hj => ?_⟩⟩
  match j, hj with
  | 0, hj =>
    obtain rfl : l = p := by simpa using hj
    refine ⟨[.slice A l.length c], rfl, ⟨A, c, rfl, hc, Kd.C_alloc hA _⟩, fun i u hu => ?_⟩
    match i, hu with
    | 0, hu =>
      obtain rfl : Value.slice A l.length c = u := by simpa using hu
      rw [add_plain, World.cell?_alloc_at _ _ _ _ rfl]
      rfl
  | 1, hj =>
    obtain rfl : m = p := by simpa using hj
    refine ⟨[.slice B m.length d], rfl, ⟨B, d, rfl, hd, Kd.C_alloc hB _⟩, fun i u hu => ?_⟩
    match i, hu with
    | 0, hu =>
      obtain rfl : Value.slice B m.length d = u := by simpa using hu
      rw [add_plain, World.cell?_alloc_at _ _ _ _ rfl]
      rfl

def total (ls : List (List Int)) : Nat := (ls.map List.length).sum
theorem total_take {ls : List (List Int)} {n : Nat} (hn : n < ls.length) : total (ls.take (n + 1)) = total (ls.take n) + (ls[n]'hn).length := by
  unfold total
  rw [List.take_add_one, List.getElem?_eq_getElem hn]
  simp only [Option.toList_some, List.map_append, List.map_cons, List.map_nil, List.sum_append, List.sum_cons, List.sum_nil, Nat.add_zero]
theorem total_le (ls : List (List Int)) (n : Nat) : total (ls.take n) ≤ total ls := by
  unfold total
  conv => rhs; rw [← List.take_append_drop n ls]
  rw [List.map_append, List.sum_append]
  omega
theorem flat_take {ls : List (List Int)} {n : Nat} (hn : n < ls.length) : (ls.take (n + 1)).flatten = (ls.take n).flatten ++ (ls[n]'hn) := by
  rw [List.take_add_one, List.getElem?_eq_getElem hn]
  simp only [Option.toList_some, List.flatten_append, List.flatten_cons, List.flatten_nil, List.append_nil]
theorem flat_len (ls : List (List Int)) : ls.flatten.length = total ls := by
  unfold total
  rw [List.length_flatten]

/-- The world in Concat's second loop. -/
structure CRel (w wr : World) (v : Value) (l : List Int) : Prop where
  row : Kd.R (Kd.int .u8) 5 wr w.heap.size (fun _ => True) v l
  below : Below w.heap.size w wr

set_option maxRecDepth 100000 in
set_option maxHeartbeats 1000000 in
theorem concat_any (A : Option Addr) (c : Nat) (ls : List (List Int)) (w : World) (hr : Kd.C (Kd.slice 5 (Kd.int .u8)) w A ls.length ls) (ht : total ls ≤ 140737488355328) :
    Calls Try.prog 97 #[.slice A ls.length c] w fun e w' => ∃ v, e = .returned v ∧ Kd.R (Kd.int .u8) 5 w' w.heap.size (fun _ => True) v ls.flatten ∧ Below w.heap.size w w' := by
  have hl63 : ls.length ≤ 9223372036854775807 := hr.2.1
  have HR := Aside0.mk hr
  clear hr
  go_enter Try.func97, Try.ntmps97
  go_wp2
  go_loop [3, 11] (fun v i => ∃ n : Nat, n ≤ ls.length ∧ i = .int .i64 (n : Int) ∧ v = .int .i64 ((total (ls.take n) : Nat) : Int)) (fun _ i => ls.length - (intOf i).toNat)
  case atStart => exact ⟨0, by omega, rfl, by simp [total]⟩
  case round =>
    obtain ⟨n, hn, rfl, rfl⟩ := hrel
    by_cases hlt : n < ls.length
    · have hle := total_le ls (n + 1)
      have htk := total_take hlt
      rw [htk] at hle
      have HTK := Lib.hid htk
      clear htk
      obtain ⟨ad, Ai, ci, rfl, hcell, hci, hC⟩ := row_at HR.out hlt
      clear hC hci
      generalize (ls[n]'hlt).length = m at hcell hle HTK
      generalize total (ls.take n) = s at hle HTK ⊢
      go_wp2
      go_round
      case rel => exact ⟨n + 1, by omega, by go_num, by rw [HTK.out]; go_num⟩
      case measure => simp [intOf]; omega
    · obtain rfl : n = ls.length := by omega
      rw [List.take_length]
      go_wp2_with (go_at_call 102; refine (grow_nil _ _ ht).mono ?_; rintro e w1 ⟨v, rfl, ho, hb⟩; have HC := Lib.hid (CRel.mk ho hb); clear ho hb)
      go_loopw [6, 27] (fun v i wr => ∃ n : Nat, n ≤ ls.length ∧ i = .int .i64 (n : Int) ∧ Hid (CRel w wr v (ls.take n).flatten)) (fun _ i _ => ls.length - (intOf i).toNat)
      case atStart => exact ⟨0, by omega, rfl, HC⟩
      case round =>
        obtain ⟨n, hn, rfl, HC⟩ := hrel
        by_cases hlt : n < ls.length
        · obtain ⟨ad, Ai, ci, rfl, hcell, hci, hC⟩ := row_at (Kd.C_below HR.out HC.out.below) hlt
          have hle := total_le ls (n + 1)
          rw [total_take hlt, ← flat_len] at hle
          have hfl := flat_take hlt
          generalize (ls[n]'hlt) = l at hcell hci hC hle hfl
          have HFL := Lib.hid hfl
          have HCi := Lib.hid hC
          clear hfl hci hC
          go_wp2_with (at_builtin; refine Kd.R_append_row (Value.int .u8) (0 : Int) (h1 := fun _ => rfl) (w0 := w) w.heap.size rfl (.tmp 31) (.tmp 32) 22 5 (.int .u8 0) 1 rfl Try.underlying22 info5 rfl (by omega) _ (ls.take n).flatten l _ _ _ (fun _ => True) rfl rfl (fun _ _ => trivial) HC.out.row HCi.out HC.out.below HC.out.below.size ?aL ?_; (case aL => omega); intro v1 w2 ho hb hg hat; have HC2 := Lib.hid (CRel.mk ho hb); clear ho hb hg hat)
          go_roundw
          case rel => exact ⟨n + 1, by omega, by go_num, by rw [HFL.out]; exact HC2⟩
          case measure => simp [intOf]; omega
        · obtain rfl : n = ls.length := by omega
          rw [List.take_length] at HC
          go_wp2
          go_ret
          exact ⟨_, rfl, HC.out.row, HC.out.below⟩

/-- A literal's bytes, marked or not. -/
theorem C_lit (W : World) (xs : List Int) (fr : Nat × Nat) (hx : xs.length ≤ 9223372036854775807) : Kd.C (Kd.int .u8) (W.alloc (.cells (xs.map (Value.int .u8)).toArray 5 fr)) (some ⟨W.heap.size, 0, none⟩) xs.length xs := by
  refine ⟨rfl, hx, fun _ => ⟨_, rfl, fun j p hj => ⟨[.int .u8 p], rfl, rfl, fun i u hu => ?_⟩⟩⟩
  match i, hu with
  | 0, hu =>
    obtain rfl : Value.int .u8 p = u := by simpa using hu
    have e : j * (Kd.int .u8).sz + 0 = j := by show j * 1 + 0 = j; omega
    rw [e, add_plain]
    have hh : (W.alloc (.cells (xs.map (Value.int .u8)).toArray 5 fr)).heap[W.heap.size]? = some (.cells (xs.map (Value.int .u8)).toArray 5 fr) := heap_alloc_new W _
    simp only [World.cell?, hh]
    simp [hj]

/-! ### Spellings that the walk comes to -/
theorem take_len {α : Type} {l : List α} {j : Int} (h : j ≤ (l.length : Int)) : (((l.take j.toNat).length : Nat) : Int) = max j 0 := by
  rw [List.length_take]
  omega
theorem wrap_small {x : Int} (h0 : 0 ≤ x) (h1 : x ≤ 1000000) : IntKind.u64.wrap (wrap64 (x + 1)) = x + 1 := by
  rw [IntKind.wrap_u64]
  unfold wrap64
  omega
theorem at_cut {α : Type} {l : List α} {j : Int} (a : Int) (h : j ≤ (l.length : Int)) (hj : j ≤ 1000000) :
    wrap64 ((IntKind.u64.wrap a).tmod (max j 0 + 1)) = wrap64 (Int.tmod (IntKind.u64.wrap (a)) (IntKind.u64.wrap (wrap64 (((l.take ((j) : Int).toNat).length : Int) + 1)))) := by
  rw [take_len h, wrap_small (by omega) (by omega)]
theorem take_len2 {α : Type} {l : List α} {j : Int} (h : j ≤ (l.length : Int)) : (l.take j.toNat).length = j.toNat := by
  rw [List.length_take]
  omega
theorem ne_nil_eq (l : List UInt8) : (l != []) = !l.isEmpty := by cases l <;> rfl
theorem eq_nil_eq (l : List UInt8) : (l == []) = l.isEmpty := by cases l <;> rfl
end Go.Proofs.Ytbcienbnhchdeaa.Hand

/- A scope in which the run jumps back to one label: what holds at each jump bears a number, which every pass lowers. -/
namespace Go.Proofs.Ytbcienbnhchdeaa.Hand
open Go Go.RowKit Go.Proofs.YtbcienbnhchdeaaW.PrintWords

theorem wp_scope_ghost {P : Program} {a : Act} {w : World} {Q : Exit → Act → World → Prop} {c rest : Code} (l : Nat) (J : Nat → Act → World → Prop) (hf : findLabel c l = some rest)
    (pass : ∀ n a w, J n a w → rest.wp P (Exit.jump l (fun a' w' => ∃ m, m < n ∧ J m a' w') Q) a w)
    (first : (∀ n a w, J n a w → rest.wp P (Exit.jump l (fun a' w' => ∃ m, J m a' w') Q) a w) → c.wp P (Exit.jump l (fun a' w' => ∃ m, J m a' w') Q) a w) : (Code.scope c).wp P Q a w := by
  intro b k cs
  have hg : gotoIn l (.inScope c :: k) = some (.code rest :: .inScope c :: k) := by simp [gotoIn, hf]
  have key : ∀ n a w, J n a w → ∃ e a' w', Q e a' w' ∧ Arrives P (lone (b.at a (.code rest :: .inScope c :: k)) cs w) b k cs e a' w' := by
    intro n
    induction n using Nat.strongRecOn with
    | _ n ih =>
      intro a w hJ
      obtain ⟨e, a₁, w₁, hq, harr⟩ := pass n a w hJ b (.inScope c :: k) cs
      cases e with
      | normal => exact ⟨.normal, a₁, w₁, hq, Steps.trans harr (.one step_inScope)⟩
      | exit id => exact ⟨.exit id, a₁, w₁, hq, fun k' hk => harr k' (by simp [exitTo, hk])⟩
      | goto l' =>
        obtain ⟨rfl, m, hlt, hJ'⟩ := hq
        obtain ⟨e₂, a₂, w₂, hq₂, harr₂⟩ := ih m hlt a₁ w₁ hJ'
        exact ⟨e₂, a₂, w₂, hq₂, .of_steps (harr _ hg) harr₂⟩
      | ret => exact ⟨_, a₁, w₁, hq, harr⟩
      | panic ch => exact ⟨_, a₁, w₁, hq, harr⟩
      | outgrown => exact ⟨_, a₁, w₁, hq, harr⟩
  have pass' : ∀ n a w, J n a w → rest.wp P (Exit.jump l (fun a' w' => ∃ m, J m a' w') Q) a w := by
    intro n a w hJ b' k' cs'
    obtain ⟨e, a₁, w₁, hq, harr⟩ := pass n a w hJ b' k' cs'
    refine ⟨e, a₁, w₁, ?_, harr⟩
    cases e with
    | goto l' => exact ⟨hq.1, hq.2.choose, hq.2.choose_spec.2⟩
    | normal => exact hq
    | exit id => exact hq
    | ret => exact hq
    | panic ch => exact hq
    | outgrown => exact hq
  obtain ⟨e, a₁, w₁, hq, harr⟩ := first pass' b (.inScope c :: k) cs
  cases e with
  | normal => exact ⟨.normal, a₁, w₁, hq, .head step_scope (Steps.trans harr (.one step_inScope))⟩
  | exit id => exact ⟨.exit id, a₁, w₁, hq, fun k' hk => .head step_scope (harr k' (by simp [exitTo, hk]))⟩
  | goto l' =>
    obtain ⟨rfl, m, hJ'⟩ := hq
    obtain ⟨e₂, a₂, w₂, hq₂, harr₂⟩ := key m a₁ w₁ hJ'
    exact ⟨e₂, a₂, w₂, hq₂, .of_steps (.head step_scope (harr _ hg)) harr₂⟩
  | ret => exact ⟨_, a₁, w₁, hq, .of_steps (.one step_scope) harr⟩
  | panic ch => exact ⟨_, a₁, w₁, hq, .of_steps (.one step_scope) harr⟩
  | outgrown => exact ⟨_, a₁, w₁, hq, .of_steps (.one step_scope) harr⟩

theorem wp_scope_ghost_s {P : Program} {a : Act} {w : World} {Q : Exit → Act → World → Prop} {c X : Code} (l : Nat) (J : Nat → Act → World → Prop) (hf : findLabel c l = some (Code.skip.seq X))
    (pass : ∀ n a w, J n a w → X.wp P (Exit.jump l (fun a' w' => ∃ m, m < n ∧ J m a' w') Q) a w)
    (first : (∀ n a w, J n a w → X.wp P (Exit.jump l (fun a' w' => ∃ m, J m a' w') Q) a w) → c.wp P (Exit.jump l (fun a' w' => ∃ m, J m a' w') Q) a w) : (Code.scope c).wp P Q a w := by
  refine wp_scope_ghost l J hf (fun n a w hJ => wp_seq (wp_skip (pass n a w hJ))) (fun _ => first fun n a w hJ => wp_mono (pass n a w hJ) ?_)
  intro e a' w' hq
  cases e with
  | goto l' => exact ⟨hq.1, hq.2.choose, hq.2.choose_spec.2⟩
  | normal => exact hq
  | exit id => exact hq
  | ret => exact hq
  | panic ch => exact hq
  | outgrown => exact hq

/-- Rows of bytes that were made, in a world. -/
structure Rows2 (w wr : World) (v : Value) (l : List (List Int)) : Prop where
  row : Kd.S (Kd.slice 5 (Kd.int .u8)) 22 wr w.heap.size (fun _ => True) v l
  below : Below w.heap.size w wr
end Go.Proofs.Ytbcienbnhchdeaa.Hand

-- Printed by a program of this session (wip/patch_print.py over the kit's print); Lean checks it.
namespace Go.Proofs.Ytbcienbnhchdeaa.Print
open Go.RowKit Go.Proofs.YtbcienbnhchdeaaW.PrintWords Go.Proofs.YtbcienbnhchdeaaW.PrintLast Go.Proofs.YtbcienbnhchdeaaW.PrintMore
attribute [local go_sem] max2_int min2_int max_two min_two max_three min_three max_four min_four   -- for this text's walks alone
set_option linter.unusedVariables false
set_option linter.unusedSimpArgs false



def errW : Option Int → Value
  | none => .nilIface
  | some c => .iface 0 (.int .i64 c)
theorem errW_none : errW none = .nilIface := rfl
theorem errW_some (c : Int) : errW (some c) = .iface 0 (.int .i64 c) := rfl

theorem info5 : (Try.prog.info? 5).map (fun i => (i.zero, i.size, i.bytes)) = some (some (.int .u8 0), 1, 1) := by kernel_rfl
theorem info22 : (Try.prog.info? 22).map (fun i => (i.zero, i.size, i.bytes)) = some (some (.slice none 0 0), 1, 24) := by kernel_rfl
-- the values' own types
def rd_L1 (xs : List (List Int)) (i : Int) : (List Int) := xs.getD i.toNat ([] : List Int)
theorem at_L1 {w : World} {A : Option Addr} {n : Nat} {xs : List (List Int)} (h : Kd.C (Kd.slice 5 (Kd.int .u8)) w A n xs) (i : Int) (h0 : 0 ≤ i) (h1 : i < n) : ∃ ad A0 c0, A = some ad ∧ w.cell? (ad.add i.toNat) = some (.slice A0 (rd_L1 xs i).length c0) ∧ (rd_L1 xs i).length ≤ c0 ∧ (Kd.int .u8).C w A0 (rd_L1 xs i).length (rd_L1 xs i) := by
  obtain ⟨ad, c, e, _, hK, hc0⟩ := Kd.C_get h ([] : List Int) i h0 h1
  have hc : ∀ j u, c[j]? = some u → w.cell? (ad.add (i.toNat * 1 + j)) = some u := hc0
  obtain ⟨A0, c0, rfl, l0, g0⟩ := hK
  exact ⟨ad, A0, c0, e, by have hq := hc 0 _ rfl; rwa [Nat.mul_one, Nat.add_zero] at hq, l0, g0⟩

def rd_L2 (xs : List (List (List Int))) (i : Int) : (List (List Int)) := xs.getD i.toNat ([] : List (List Int))
theorem at_L2 {w : World} {A : Option Addr} {n : Nat} {xs : List (List (List Int))} (h : Kd.C (Kd.slice 22 (Kd.slice 5 (Kd.int .u8))) w A n xs) (i : Int) (h0 : 0 ≤ i) (h1 : i < n) : ∃ ad A0 c0, A = some ad ∧ w.cell? (ad.add i.toNat) = some (.slice A0 (rd_L2 xs i).length c0) ∧ (rd_L2 xs i).length ≤ c0 ∧ (Kd.slice 5 (Kd.int .u8)).C w A0 (rd_L2 xs i).length (rd_L2 xs i) := by
  obtain ⟨ad, c, e, _, hK, hc0⟩ := Kd.C_get h ([] : List (List Int)) i h0 h1
  have hc : ∀ j u, c[j]? = some u → w.cell? (ad.add (i.toNat * 1 + j)) = some u := hc0
  obtain ⟨A0, c0, rfl, l0, g0⟩ := hK
  exact ⟨ad, A0, c0, e, by have hq := hc 0 _ rfl; rwa [Nat.mul_one, Nat.add_zero] at hq, l0, g0⟩

end Go.Proofs.Ytbcienbnhchdeaa.Print

-- Printed by a program of this session (wip/patch_print.py over the kit's print): the steps' type and kind; Lean checks it.
namespace Go.Proofs.Ytbcienbnhchdeaa.Print
open Go.RowKit Go.Proofs.YtbcienbnhchdeaaW.PrintWords Go.Proofs.YtbcienbnhchdeaaW.PrintLast Go.Proofs.YtbcienbnhchdeaaW.PrintMore
attribute [local go_sem] max2_int min2_int max_two min_two max_three min_three max_four min_four
set_option linter.unusedVariables false
set_option linter.unusedSimpArgs false
/-! #### struct type 87 -/
structure S87 where
  f0 : Int
  f1 : Int
  f2 : (List Int)
  f3 : (List (List Int))
def z87 : S87 := ⟨(0 : Int), (0 : Int), ([] : List Int), ([] : List (List Int))⟩
def k87 : Kd S87 := Kd.iso (Kd.pair (Kd.int .i64) (Kd.pair (Kd.int .i64) (Kd.pair (Kd.slice 5 (Kd.int .u8)) (Kd.slice 22 (Kd.slice 5 (Kd.int .u8)))))) (fun x : S87 => (x.f0, x.f1, x.f2, x.f3))
theorem k87_heap : Kd.Heap k87 := Kd.heap_iso _ (Kd.heap_pair (Kd.heap_int .i64) (Kd.heap_pair (Kd.heap_int .i64) (Kd.heap_pair (Kd.heap_slice 5 (Kd.heap_int .u8)) (Kd.heap_slice 22 (Kd.heap_slice 5 (Kd.heap_int .u8))))))
theorem k87_open {w : World} {x : S87} {cs : List Value} (h : k87.K w x cs) : ∃ A2 c2 A3 c3, cs = [.int .i64 x.f0, .int .i64 x.f1, .slice A2 x.f2.length c2, .slice A3 x.f3.length c3] ∧ x.f2.length ≤ c2 ∧ (Kd.int .u8).C w A2 x.f2.length x.f2 ∧ x.f3.length ≤ c3 ∧ (Kd.slice 5 (Kd.int .u8)).C w A3 x.f3.length x.f3 := by
  obtain ⟨_, _, rfl, rfl, ⟨_, _, rfl, rfl, ⟨_, _, rfl, ⟨A2, c2, rfl, l2, g2⟩, ⟨A3, c3, rfl, l3, g3⟩⟩⟩⟩ := h
  exact ⟨A2, c2, A3, c3, rfl, l2, g2, l3, g3⟩
theorem k87_openM {w : World} {base : Nat} {ok : Nat → Prop} {x : S87} {cs : List Value} (h : k87.M w base ok x cs) : ∃ v2 v3, cs = [.int .i64 x.f0, .int .i64 x.f1, v2, v3] ∧ (Kd.int .u8).R 5 w base ok v2 x.f2 ∧ (Kd.slice 5 (Kd.int .u8)).R 22 w base ok v3 x.f3 := by
  obtain ⟨_, _, rfl, rfl, ⟨_, _, rfl, rfl, ⟨_, _, rfl, ⟨v2, rfl, g2⟩, ⟨v3, rfl, g3⟩⟩⟩⟩ := h
  exact ⟨v2, v3, rfl, g2, g3⟩
theorem k87_mk (w : World) (x : S87) {A2 : Option Addr} {c2 : Nat} (l2 : x.f2.length ≤ c2) (g2 : (Kd.int .u8).C w A2 x.f2.length x.f2) {A3 : Option Addr} {c3 : Nat} (l3 : x.f3.length ≤ c3) (g3 : (Kd.slice 5 (Kd.int .u8)).C w A3 x.f3.length x.f3) : k87.K w x [.int .i64 x.f0, .int .i64 x.f1, .slice A2 x.f2.length c2, .slice A3 x.f3.length c3] := ⟨[.int .i64 x.f0], [.int .i64 x.f1, .slice A2 x.f2.length c2, .slice A3 x.f3.length c3], rfl, rfl, ⟨[.int .i64 x.f1], [.slice A2 x.f2.length c2, .slice A3 x.f3.length c3], rfl, rfl, ⟨[.slice A2 x.f2.length c2], [.slice A3 x.f3.length c3], rfl, ⟨A2, c2, rfl, l2, g2⟩, ⟨A3, c3, rfl, l3, g3⟩⟩⟩⟩
theorem k87_mkM (w : World) (base : Nat) (ok : Nat → Prop) (x : S87) {v2 : Value} (g2 : (Kd.int .u8).R 5 w base ok v2 x.f2) {v3 : Value} (g3 : (Kd.slice 5 (Kd.int .u8)).R 22 w base ok v3 x.f3) : k87.M w base ok x [.int .i64 x.f0, .int .i64 x.f1, v2, v3] := ⟨[.int .i64 x.f0], [.int .i64 x.f1, v2, v3], rfl, rfl, ⟨[.int .i64 x.f1], [v2, v3], rfl, rfl, ⟨[v2], [v3], rfl, ⟨v2, rfl, g2⟩, ⟨v3, rfl, g3⟩⟩⟩⟩
theorem k87_openF {W : World} {ok : Nat → Prop} {x : S87} {cs : List Value} (h : Kd.FK k87 W ok x cs) : ∃ A2 c2 A3 c3, cs = [.int .i64 x.f0, .int .i64 x.f1, .slice A2 x.f2.length c2, .slice A3 x.f3.length c3] ∧ x.f2.length ≤ c2 ∧ Kd.F (Kd.int .u8) W ok A2 x.f2.length x.f2 ∧ x.f3.length ≤ c3 ∧ Kd.F (Kd.slice 5 (Kd.int .u8)) W ok A3 x.f3.length x.f3 := by
  obtain ⟨A2, c2, A3, c3, rfl, l2, _, l3, _⟩ := k87_open (Kd.FK_now h)
  exact ⟨A2, c2, A3, c3, rfl, l2, (fun W' hW => by obtain ⟨A2_, c2_, A3_, c3_, he, l2_, g2_, l3_, g3_⟩ := k87_open (h W' hW); injection (Option.some.inj (show some (Value.slice A2 x.f2.length c2) = some (Value.slice A2_ x.f2.length c2_) from congrArg (fun l => l[2]?) he)) with ha_ _ _; rw [ha_]; exact g2_), l3, (fun W' hW => by obtain ⟨A2_, c2_, A3_, c3_, he, l2_, g2_, l3_, g3_⟩ := k87_open (h W' hW); injection (Option.some.inj (show some (Value.slice A3 x.f3.length c3) = some (Value.slice A3_ x.f3.length c3_) from congrArg (fun l => l[3]?) he)) with ha_ _ _; rw [ha_]; exact g3_)⟩
theorem k87_mkF (W : World) (ok : Nat → Prop) (x : S87) {A2 : Option Addr} {c2 : Nat} (l2 : x.f2.length ≤ c2) (g2 : Kd.F (Kd.int .u8) W ok A2 x.f2.length x.f2) {A3 : Option Addr} {c3 : Nat} (l3 : x.f3.length ≤ c3) (g3 : Kd.F (Kd.slice 5 (Kd.int .u8)) W ok A3 x.f3.length x.f3) : Kd.FK k87 W ok x [.int .i64 x.f0, .int .i64 x.f1, .slice A2 x.f2.length c2, .slice A3 x.f3.length c3] := fun W2 hW => k87_mk W2 x l2 (g2 W2 hW) l3 (g3 W2 hW)
def rd_T87 (xs : List S87) (i : Int) : S87 := xs.getD i.toNat z87
theorem at_T87 {w : World} {A : Option Addr} {n : Nat} {xs : List S87} (h : Kd.C k87 w A n xs) (i : Int) (h0 : 0 ≤ i) (h1 : i < n) : ∃ ad A2 c2 A3 c3, A = some ad ∧ w.cell? (ad.add (i.toNat * 4)) = some (.int .i64 (rd_T87 xs i).f0) ∧ w.cell? ⟨(ad.add (i.toNat * 4)).block, (ad.add (i.toNat * 4)).off + 1, none⟩ = some (.int .i64 (rd_T87 xs i).f1) ∧ w.cell? ⟨(ad.add (i.toNat * 4)).block, (ad.add (i.toNat * 4)).off + 2, none⟩ = some (.slice A2 (rd_T87 xs i).f2.length c2) ∧ w.cell? ⟨(ad.add (i.toNat * 4)).block, (ad.add (i.toNat * 4)).off + 3, none⟩ = some (.slice A3 (rd_T87 xs i).f3.length c3) ∧ (rd_T87 xs i).f2.length ≤ c2 ∧ (Kd.int .u8).C w A2 (rd_T87 xs i).f2.length (rd_T87 xs i).f2 ∧ (rd_T87 xs i).f3.length ≤ c3 ∧ (Kd.slice 5 (Kd.int .u8)).C w A3 (rd_T87 xs i).f3.length (rd_T87 xs i).f3 := by
  obtain ⟨ad, c, e, _, hK, hc0⟩ := Kd.C_get h z87 i h0 h1
  have hc : ∀ j u, c[j]? = some u → w.cell? (ad.add (i.toNat * 4 + j)) = some u := hc0
  obtain ⟨A2, c2, A3, c3, rfl, l2, g2, l3, g3⟩ := k87_open hK
  exact ⟨ad, A2, c2, A3, c3, e, hc 0 _ rfl, by rw [← add_field _ _ 1 (by omega)]; exact hc 1 _ rfl, by rw [← add_field _ _ 2 (by omega)]; exact hc 2 _ rfl, by rw [← add_field _ _ 3 (by omega)]; exact hc 3 _ rfl, l2, g2, l3, g3⟩

/-! ### pacesetterlaw06_Step_kind: function 87 -/
def pacesetterlaw06_Step_kind.f (a0_0 : Int) (a0_1 : Int) (l0_2 : List Int) (l0_3 : List (List Int)) : Option (Int) := some (wrap64 (Int.tmod (IntKind.u64.wrap (a0_0)) 6))
set_option maxHeartbeats 8000000 in
set_option maxRecDepth 100000 in
theorem pacesetterlaw06_Step_kind.calls (a0_0 : Int) (a0_1 : Int) (A0_2 : Option Addr) (c0_2 : Nat) (l0_2 : List Int) (A0_3 : Option Addr) (c0_3 : Nat) (l0_3 : List (List Int)) (r : Int) (w : World) (hr0_2 : Kd.C (Kd.int .u8) w A0_2 l0_2.length l0_2) (hc0_2 : l0_2.length ≤ c0_2) (hr0_3 : Kd.C (Kd.slice 5 (Kd.int .u8)) w A0_3 l0_3.length l0_3) (hc0_3 : l0_3.length ≤ c0_3) (h : pacesetterlaw06_Step_kind.f a0_0 a0_1 l0_2 l0_3 = some r) :
    Calls Try.prog 87 #[.agg #[.int .i64 a0_0, .int .i64 a0_1, .slice A0_2 l0_2.length c0_2, .slice A0_3 l0_3.length c0_3]] w fun e w' => e = .returned (.int .i64 r) ∧ Below w.heap.size w w' := by
  have hu87 := Try.underlying87
  have HR0_2 := Aside0.mk hr0_2
  have HC0_2 := Aside0.mk hc0_2
  clear hr0_2 hc0_2
  have HR0_3 := Aside0.mk hr0_3
  have HC0_3 := Aside0.mk hc0_3
  clear hr0_3 hc0_3
  have HB := Aside0.mk (Below.refl w.heap.size w)
  have H : (some (wrap64 (Int.tmod (IntKind.u64.wrap (a0_0)) 6))) = some r := h
  clear h
  obtain rfl := Option.some.inj H
  go_enter Try.func87, Try.ntmps87
  go_wp2_with (first | ((with_reducible refine gate_dst (N := 1) rfl ?_); refine box_event ?hg (N := 1) ?hd (cs := #[.int .i64 a0_0, .int .i64 a0_1, .slice A0_2 l0_2.length c0_2, .slice A0_3 l0_3.length c0_3]) (t := 87) ?hr ?_; (case hd => rfl); (case hg => rfl); (case hr => first | (go_simp; done) | (go_simp; rfl)); intro gb205 hg w2 hbox hb; have n0_ := Aside0.mk (below_step (by repeat (first | (with_reducible first | exact HB.out | apply below_alloc | apply pw_below_drewN | apply below_drew1) | exact HB.out)) hb); have n1_ := Aside0.mk (hbox); have n2_ := Aside0.mk ((by rw [hg]; exact (below_size (by repeat (first | (with_reducible first | exact HB.out | apply below_alloc | apply pw_below_drewN | apply below_drew1) | exact HB.out))) : w.heap.size ≤ gb205)); have n3_ := Aside0.mk ((by rw [hg]; exact (below_size (by repeat (first | (with_reducible first | exact HB.out | apply below_alloc | apply pw_below_drewN | apply below_drew1) | exact HB.out))) : w.heap.size ≤ gb205)); clear HB; have HB := n0_; have BK205 := n1_; have GW205 := n2_; have GE205 := n3_; clear n0_ n1_ n2_ n3_; clear hb hbox hg; have hcz3_0 : w2.cell? ⟨gb205, 0, none⟩ = some (.int .i64 a0_0) := (blk_cell BK205.out 0).trans rfl; have hcz3_1 : w2.cell? ⟨gb205, 1, none⟩ = some (.int .i64 a0_1) := (blk_cell BK205.out 1).trans rfl; have hcz3_2 : w2.cell? ⟨gb205, 2, none⟩ = some (.slice A0_2 l0_2.length c0_2) := (blk_cell BK205.out 2).trans rfl; have hcz3_3 : w2.cell? ⟨gb205, 3, none⟩ = some (.slice A0_3 l0_3.length c0_3) := (blk_cell BK205.out 3).trans rfl; have hfz3_0 := blk_frozen BK205.out 0; have hfz3_1 := blk_frozen BK205.out 1; have hfz3_2 := blk_frozen BK205.out 2; have hfz3_3 := blk_frozen BK205.out 3))
  go_ret
  exact ⟨by first | rfl | (simp [errW_none, errW_some] <;> rfl) | (simp [*, errW_none, errW_some] <;> rfl), by repeat (first | (with_reducible first | exact HB.out | apply below_alloc | apply pw_below_drewN | apply below_drew1 | refine below_set ?_ GE205.out) | exact HB.out)⟩

end Go.Proofs.Ytbcienbnhchdeaa.Print

-- Printed by a program of this session (wip/patch_print.py over the kit's print); Lean checks it.
namespace Go.Proofs.Ytbcienbnhchdeaa.PrD
open Go.RowKit Go.Proofs.YtbcienbnhchdeaaW.PrintWords Go.Proofs.YtbcienbnhchdeaaW.PrintLast Go.Proofs.YtbcienbnhchdeaaW.PrintMore
attribute [local go_sem] max2_int min2_int max_two min_two max_three min_three max_four min_four   -- for this text's walks alone
set_option linter.unusedVariables false
set_option linter.unusedSimpArgs false



def errW : Option Int → Value
  | none => .nilIface
  | some c => .iface 0 (.int .i64 c)
theorem errW_none : errW none = .nilIface := rfl
theorem errW_some (c : Int) : errW (some c) = .iface 0 (.int .i64 c) := rfl

theorem info5 : (Try.prog.info? 5).map (fun i => (i.zero, i.size, i.bytes)) = some (some (.int .u8 0), 1, 1) := by kernel_rfl
theorem info52 : (Try.prog.info? 52).map (fun i => (i.zero, i.size, i.bytes)) = some (some (.agg #[(.int .i64 0), (.int .i64 0), (.slice none 0 0)]), 3, 40) := by kernel_rfl
-- the values' own types
def rd_L1 (xs : List (List Int)) (i : Int) : (List Int) := xs.getD i.toNat ([] : List Int)
theorem at_L1 {w : World} {A : Option Addr} {n : Nat} {xs : List (List Int)} (h : Kd.C (Kd.slice 5 (Kd.int .u8)) w A n xs) (i : Int) (h0 : 0 ≤ i) (h1 : i < n) : ∃ ad A0 c0, A = some ad ∧ w.cell? (ad.add i.toNat) = some (.slice A0 (rd_L1 xs i).length c0) ∧ (rd_L1 xs i).length ≤ c0 ∧ (Kd.int .u8).C w A0 (rd_L1 xs i).length (rd_L1 xs i) := by
  obtain ⟨ad, c, e, _, hK, hc0⟩ := Kd.C_get h ([] : List Int) i h0 h1
  have hc : ∀ j u, c[j]? = some u → w.cell? (ad.add (i.toNat * 1 + j)) = some u := hc0
  obtain ⟨A0, c0, rfl, l0, g0⟩ := hK
  exact ⟨ad, A0, c0, e, by have hq := hc 0 _ rfl; rwa [Nat.mul_one, Nat.add_zero] at hq, l0, g0⟩

/-! #### struct type 52 -/
structure S52 where
  f0 : Int
  f1 : Int
  f2 : (List Int)
def z52 : S52 := ⟨(0 : Int), (0 : Int), ([] : List Int)⟩
def k52 : Kd S52 := Kd.iso (Kd.pair (Kd.int .i64) (Kd.pair (Kd.int .i64) (Kd.slice 5 (Kd.int .u8)))) (fun x : S52 => (x.f0, x.f1, x.f2))
theorem k52_open {w : World} {x : S52} {cs : List Value} (h : k52.K w x cs) : ∃ A2 c2, cs = [.int .i64 x.f0, .int .i64 x.f1, .slice A2 x.f2.length c2] ∧ x.f2.length ≤ c2 ∧ (Kd.int .u8).C w A2 x.f2.length x.f2 := by
  obtain ⟨_, _, rfl, rfl, ⟨_, _, rfl, rfl, ⟨A2, c2, rfl, l2, g2⟩⟩⟩ := h
  exact ⟨A2, c2, rfl, l2, g2⟩
theorem k52_openM {w : World} {base : Nat} {ok : Nat → Prop} {x : S52} {cs : List Value} (h : k52.M w base ok x cs) : ∃ v2, cs = [.int .i64 x.f0, .int .i64 x.f1, v2] ∧ (Kd.int .u8).R 5 w base ok v2 x.f2 := by
  obtain ⟨_, _, rfl, rfl, ⟨_, _, rfl, rfl, ⟨v2, rfl, g2⟩⟩⟩ := h
  exact ⟨v2, rfl, g2⟩
theorem k52_mk (w : World) (x : S52) {A2 : Option Addr} {c2 : Nat} (l2 : x.f2.length ≤ c2) (g2 : (Kd.int .u8).C w A2 x.f2.length x.f2) : k52.K w x [.int .i64 x.f0, .int .i64 x.f1, .slice A2 x.f2.length c2] := ⟨[.int .i64 x.f0], [.int .i64 x.f1, .slice A2 x.f2.length c2], rfl, rfl, ⟨[.int .i64 x.f1], [.slice A2 x.f2.length c2], rfl, rfl, ⟨A2, c2, rfl, l2, g2⟩⟩⟩
theorem k52_mkM (w : World) (base : Nat) (ok : Nat → Prop) (x : S52) {v2 : Value} (g2 : (Kd.int .u8).R 5 w base ok v2 x.f2) : k52.M w base ok x [.int .i64 x.f0, .int .i64 x.f1, v2] := ⟨[.int .i64 x.f0], [.int .i64 x.f1, v2], rfl, rfl, ⟨[.int .i64 x.f1], [v2], rfl, rfl, ⟨v2, rfl, g2⟩⟩⟩
theorem k52_openF {W : World} {ok : Nat → Prop} {x : S52} {cs : List Value} (h : Kd.FK k52 W ok x cs) : ∃ A2 c2, cs = [.int .i64 x.f0, .int .i64 x.f1, .slice A2 x.f2.length c2] ∧ x.f2.length ≤ c2 ∧ Kd.F (Kd.int .u8) W ok A2 x.f2.length x.f2 := by
  obtain ⟨A2, c2, rfl, l2, _⟩ := k52_open (Kd.FK_now h)
  exact ⟨A2, c2, rfl, l2, (fun W' hW => by obtain ⟨A2_, c2_, he, l2_, g2_⟩ := k52_open (h W' hW); injection (Option.some.inj (show some (Value.slice A2 x.f2.length c2) = some (Value.slice A2_ x.f2.length c2_) from congrArg (fun l => l[2]?) he)) with ha_ _ _; rw [ha_]; exact g2_)⟩
theorem k52_mkF (W : World) (ok : Nat → Prop) (x : S52) {A2 : Option Addr} {c2 : Nat} (l2 : x.f2.length ≤ c2) (g2 : Kd.F (Kd.int .u8) W ok A2 x.f2.length x.f2) : Kd.FK k52 W ok x [.int .i64 x.f0, .int .i64 x.f1, .slice A2 x.f2.length c2] := fun W2 hW => k52_mk W2 x l2 (g2 W2 hW)
def rd_T52 (xs : List S52) (i : Int) : S52 := xs.getD i.toNat z52
theorem at_T52 {w : World} {A : Option Addr} {n : Nat} {xs : List S52} (h : Kd.C k52 w A n xs) (i : Int) (h0 : 0 ≤ i) (h1 : i < n) : ∃ ad A2 c2, A = some ad ∧ w.cell? (ad.add (i.toNat * 3)) = some (.int .i64 (rd_T52 xs i).f0) ∧ w.cell? ⟨(ad.add (i.toNat * 3)).block, (ad.add (i.toNat * 3)).off + 1, none⟩ = some (.int .i64 (rd_T52 xs i).f1) ∧ w.cell? ⟨(ad.add (i.toNat * 3)).block, (ad.add (i.toNat * 3)).off + 2, none⟩ = some (.slice A2 (rd_T52 xs i).f2.length c2) ∧ (rd_T52 xs i).f2.length ≤ c2 ∧ (Kd.int .u8).C w A2 (rd_T52 xs i).f2.length (rd_T52 xs i).f2 := by
  obtain ⟨ad, c, e, _, hK, hc0⟩ := Kd.C_get h z52 i h0 h1
  have hc : ∀ j u, c[j]? = some u → w.cell? (ad.add (i.toNat * 3 + j)) = some u := hc0
  obtain ⟨A2, c2, rfl, l2, g2⟩ := k52_open hK
  exact ⟨ad, A2, c2, e, hc 0 _ rfl, by rw [← add_field _ _ 1 (by omega)]; exact hc 1 _ rfl, by rw [← add_field _ _ 2 (by omega)]; exact hc 2 _ rfl, l2, g2⟩

end Go.Proofs.Ytbcienbnhchdeaa.PrD

-- Printed by a program of this session (wip/patch_print.py over the kit's print); Lean checks it.
namespace Go.Proofs.Ytbcienbnhchdeaa.PrD
open Go.RowKit Go.Proofs.YtbcienbnhchdeaaW.PrintWords Go.Proofs.YtbcienbnhchdeaaW.PrintLast Go.Proofs.YtbcienbnhchdeaaW.PrintMore
attribute [local go_sem] max2_int min2_int max_two min_two max_three min_three max_four min_four   -- for this text's walks alone
set_option linter.unusedVariables false
set_option linter.unusedSimpArgs false

/-! ### pacesetterlaw05_early: function 51 -/
def pacesetterlaw05_early.l0 : Nat → List (S52) → List (S52) → Int → Option ((List (S52)))
  | 0, _, _, _ => none
  | k + 1, x0, x3, x4 => if x4 < (x0.length : Int) then (if x4 < 80 then (if 0 ≤ x4 then (if 0 ≤ (mn (((rd_T52 x0 x4).f2).length : Int) 40) then (if (mn (((rd_T52 x0 x4).f2).length : Int) 40) ≤ (((rd_T52 x0 x4).f2).length : Int) then (if x3.length < 3518437208883 then (pacesetterlaw05_early.l0 k x0 (x3 ++ [(⟨(rd_T52 x0 x4).f0, (rd_T52 x0 x4).f1, (((rd_T52 x0 x4).f2).take ((mn (((rd_T52 x0 x4).f2).length : Int) 40) : Int).toNat)⟩ : S52)]) (wrap64 (x4 + 1))) else (none)) else (none)) else (none)) else (none)) else (some x3)) else (some x3)
def pacesetterlaw05_early.f (k : Nat) (l0 : List (S52)) : Option ((List (S52))) := pacesetterlaw05_early.l0 k l0 ([] : List (S52)) 0
theorem pacesetterlaw05_early.mono_l : ∀ k, (∀ y0 y1 y2, LeO (pacesetterlaw05_early.l0 k y0 y1 y2) (pacesetterlaw05_early.l0 (k + 1) y0 y1 y2))
  | 0 => fun _ _ _ r h => by simp [pacesetterlaw05_early.l0] at h
  | k + 1 => by
    have ih0 := pacesetterlaw05_early.mono_l k
    · intro y0 y1 y2
      unfold pacesetterlaw05_early.l0
      repeat' first
      | (with_reducible exact ih0 _ _ _)
      | (with_reducible exact LeO.refl _)
      | (with_reducible exact LeO.none _)
      | (with_reducible refine LeO.ite ?_ ?_)
      | (with_reducible refine LeO.bind ?_ (fun _ => ?_))
      | exact ih0 _ _ _
      | exact LeO.none _
      | refine LeO.ite ?_ ?_
      | refine LeO.bind ?_ (fun _ => ?_)
theorem pacesetterlaw05_early.mono : ∀ a0 k, LeO (pacesetterlaw05_early.f k a0) (pacesetterlaw05_early.f (k + 1) a0) := by
  intro a0 k
  have ih0 := pacesetterlaw05_early.mono_l k
  unfold pacesetterlaw05_early.f
  repeat' first
      | (with_reducible exact ih0 _ _ _)
      | (with_reducible exact LeO.refl _)
      | (with_reducible exact LeO.none _)
      | (with_reducible refine LeO.ite ?_ ?_)
      | (with_reducible refine LeO.bind ?_ (fun _ => ?_))
      | exact ih0 _ _ _
      | exact LeO.none _
      | refine LeO.ite ?_ ?_
      | refine LeO.bind ?_ (fun _ => ?_)
set_option maxHeartbeats 8000000 in
set_option maxRecDepth 100000 in
theorem pacesetterlaw05_early.calls (k : Nat) (P0_ : Nat → Prop) (A0 : Option Addr) (c0 : Nat) (l0 : List (S52)) (r : List (S52)) (w : World) (hs0 : Kd.V k52 52 w w.heap.size (fun k_ => P0_ k_) (.slice A0 l0.length c0) l0) (h : pacesetterlaw05_early.f k l0 = some r) :
    Calls Try.prog 51 #[.slice A0 l0.length c0] w fun e w' => ∃ v0_ : Value, e = .returned (v0_) ∧ Kd.N k52 52 w' w.heap.size (fun k_ => (P0_ k_ ∨ w.heap.size ≤ k_)) v0_ r ∧ Below w.heap.size w w' := by
  have hu52 := Try.underlying52
  have HO0 := Aside0.mk (show Kd.V k52 52 w w.heap.size (fun k_ => (P0_ k_ ∨ w.heap.size ≤ k_)) (.slice A0 l0.length c0) l0 from Kd.V_mono hs0 (fun k_ hk => .inl hk))
  have HB := Aside0.mk (Below.refl w.heap.size w)
  have H : (pacesetterlaw05_early.l0 k l0 ([] : List (S52)) 0) = some r := h
  clear h
  have H' := Aside0.mk H
  clear H
  go_enter Try.func51, Try.ntmps51
  go_wp2
  go_loopg [3, 4] k (fun kq v3 v4 w' => ∃ (x3_1 : List (S52)) (x4_1 : Int), v4 = .int .i64 x4_1 ∧ Aside0 (pacesetterlaw05_early.l0 kq l0 x3_1 x4_1 = some r) ∧ Aside0 (kq ≤ k) ∧ Aside0 (Kd.V k52 52 w' w.heap.size (fun k_ => (P0_ k_ ∨ w.heap.size ≤ k_) ∧ some k_ ≠ (v3 : Value).ownBlock) (.slice A0 l0.length c0) l0) ∧ Aside0 (Kd.N k52 52 w' w.heap.size (fun k_ => (P0_ k_ ∨ w.heap.size ≤ k_)) v3 x3_1) ∧ Aside0 (Below w.heap.size w w'))
  case atStart => exact ⟨(([] : List (S52))), (0), (by first | rfl | (simp; done) | (simp [*]; done)), H', ⟨Nat.le_refl _⟩, ⟨by (with_reducible repeat (first | apply Kd.V_alloc | apply Kd.V_drewN | apply Kd.V_drew)); exact Kd.V_mono HO0.out (fun _ hk => ⟨hk, (by simp [Value.ownBlock])⟩)⟩, ⟨by first | exact Kd.S_nil _ _ _ _ _ | exact Kd.N_nil _ _ _ _ _ | exact Kd.V_nil _ _ _ _ _ | exact Kd.Q_nil _ _ _ _ _ | exact Kd.R_nil _ _ _ _ _⟩, ⟨by repeat (first | (with_reducible first | exact HB.out | apply below_alloc | apply pw_below_drewN | apply below_drew1) | exact HB.out)⟩⟩
  case round =>
    clear H'
    obtain ⟨x3_1, x4_1, rfl, HA, HK1, HO_0, HO_3, HB⟩ := hrel
    cases gk with
    | zero => exact absurd HA.out (by simp [pacesetterlaw05_early.l0])
    | succ k1 =>
      have H := HA.out
      clear HA
      simp only [pacesetterlaw05_early.l0] at H
      by_cases c2 : x4_1 < (l0.length : Int)
      · rw [if_pos c2] at H
        have c2b0 : decide (x4_1 < (l0.length : Int)) = true := decide_eq_true c2
        clear c2
        by_cases c3 : x4_1 < 80
        · rw [if_pos c3] at H
          have c3b0 : decide (x4_1 < 80) = true := decide_eq_true c3
          clear c3
          by_cases c4 : 0 ≤ x4_1
          · rw [if_pos c4] at H
            have c4b0 : decide (0 ≤ x4_1) = true := decide_eq_true c4
            clear c4
            obtain ⟨ji5, hji5⟩ : ∃ j_ : Int, (mn (((rd_T52 l0 x4_1).f2).length : Int) 40) = j_ := ⟨_, rfl⟩
            replace H : (if 0 ≤ (ji5) then (if (ji5) ≤ (((rd_T52 l0 x4_1).f2).length : Int) then (if x3_1.length < 3518437208883 then (pacesetterlaw05_early.l0 k1 l0 (x3_1 ++ [(⟨(rd_T52 l0 x4_1).f0, (rd_T52 l0 x4_1).f1, (((rd_T52 l0 x4_1).f2).take ((ji5) : Int).toNat)⟩ : S52)]) (wrap64 (x4_1 + 1))) else (none)) else (none)) else (none)) = some r := by first | (rw [hji5] at H; exact H) | (simp only [hji5] at H ⊢; exact H)
            have hji5_ : (if 40 < (((rd_T52 l0 x4_1).f2).length : Int) then 40 else (((rd_T52 l0 x4_1).f2).length : Int)) = ji5 := hji5
            by_cases c6 : 0 ≤ (ji5)
            · rw [if_pos c6] at H
              have c6b0 := eq_true c6
              have c6b1 : decide (0 ≤ (ji5)) = true := decide_eq_true c6
              clear c6
              by_cases c7 : (ji5) ≤ (((rd_T52 l0 x4_1).f2).length : Int)
              · rw [if_pos c7] at H
                have c7b0 := eq_true c7
                have c7b1 : decide ((ji5) ≤ (((rd_T52 l0 x4_1).f2).length : Int)) = true := decide_eq_true c7
                clear c7
                obtain ⟨y111, hy111⟩ : ∃ y_ : List Int, y_ = (((rd_T52 l0 x4_1).f2).take ((ji5) : Int).toNat) := ⟨_, rfl⟩
                replace H : (if x3_1.length < 3518437208883 then (pacesetterlaw05_early.l0 k1 l0 (x3_1 ++ [(⟨(rd_T52 l0 x4_1).f0, (rd_T52 l0 x4_1).f1, y111⟩ : S52)]) (wrap64 (x4_1 + 1))) else (none)) = some r := by first | (rw [hy111]; with_reducible exact H) | (have H2_ := (Option.bind_some _ _).symm.trans H; rw [hy111]; with_reducible exact H2_) | (have H2_ := (Option.bind_some _ _).symm.trans H; with_reducible exact H2_) | with_reducible exact H | (rw [hy111]; exact H) | exact H
                have Ny111 := Aside0.mk hy111
                clear hy111
                by_cases c8 : x3_1.length < 3518437208883
                · rw [if_pos c8] at H
                  have LMc8 := Aside0.mk c8
                  clear c8
                  obtain ⟨y116, hy116⟩ : ∃ y_ : List (S52), y_ = (x3_1 ++ [(⟨(rd_T52 l0 x4_1).f0, (rd_T52 l0 x4_1).f1, y111⟩ : S52)]) := ⟨_, rfl⟩
                  replace H : (pacesetterlaw05_early.l0 k1 l0 y116 (wrap64 (x4_1 + 1))) = some r := by first | (rw [hy116]; with_reducible exact H) | (have H2_ := (Option.bind_some _ _).symm.trans H; rw [hy116]; with_reducible exact H2_) | (have H2_ := (Option.bind_some _ _).symm.trans H; with_reducible exact H2_) | with_reducible exact H | (rw [hy116]; exact H) | exact H
                  have Ny116 := Aside0.mk hy116
                  clear hy116
                  have H' := Aside0.mk H
                  clear H
                  have p109 : 0 ≤ (x4_1 : Int) := of_decide_eq_true (by first | (with_reducible assumption) | assumption)
                  have q109 : x4_1 < (l0.length : Int) := of_decide_eq_true (by first | (with_reducible assumption) | assumption)
                  obtain ⟨ad109, A109_2, c109_2, e109, hx109_0, hx109_1, hx109_2, hl109_2, hi109_2⟩ := at_T52 (Kd.V_reads' HO_0.out).2.2 x4_1 p109 q109
                  cases e109
                  obtain ⟨ce109, hce109, hMe109, hcc109⟩ := Kd.V_get HO_0.out z52 x4_1 p109 (by first | exact q109 | exact of_decide_eq_true (by first | (with_reducible assumption) | assumption) | (have e_ := (Kd.V_reads' HO_0.out).1; omega))
                  obtain ⟨ua109_2, uc109_2, rfl, ul109_2, ge109_2⟩ := k52_openF hMe109
                  have hv109_2 := hcc109 2 _ rfl
                  rw [add_field _ _ 2 (by omega)] at hv109_2
                  replace hv109_2 := Option.some.inj (hv109_2.symm.trans hx109_2)
                  injection hv109_2 with hva_ hvn_ hvc_
                  rw [hva_] at ge109_2
                  rw [hvc_] at ul109_2
                  have HL109_2 := Aside0.mk (show Kd.V (Kd.int .u8) 5 _ w.heap.size _ _ ((rd_T52 l0 x4_1).f2) from Kd.V_mk ul109_2 ge109_2)
                  clear hva_ hvn_ hvc_ ge109_2 ul109_2
                  clear hcc109 hce109
                  have HR109_2 := Aside0.mk hi109_2
                  have HC109_2 := Aside0.mk hl109_2
                  clear hi109_2 hl109_2
                  replace p109 := eq_true p109
                  replace q109 := eq_true q109
                  go_wp2_with (first | ((with_reducible refine gate_dst (N := 5) rfl ?_); refine box_event ?hg (N := 5) ?hd (cs := #[.int .i64 0, .int .i64 0, .slice none 0 0]) (t := 52) ?hr ?_; (case hd => rfl); (case hg => rfl); (case hr => first | (go_simp; done) | (go_simp; rfl)); intro gb110 hg w9 hbox hb; have n0_ := Aside0.mk (Kd.V_below (Kd.V_elderB (by (with_reducible repeat (first | apply Kd.V_alloc | apply Kd.V_drewN | apply Kd.V_drew)); exact HO_0.out) gb110 (Nat.le_of_eq hg.symm)) hb); have n1_ := Aside0.mk (Kd.N_below (Kd.N_elderB (by (with_reducible repeat (first | apply Kd.N_alloc | apply Kd.N_drewN | apply Kd.N_drew)); exact HO_3.out) gb110 (Nat.le_of_eq hg.symm)) hb); have n2_ := Aside0.mk (Kd.V_below (Kd.V_elderB (by (with_reducible repeat (first | apply Kd.V_alloc | apply Kd.V_drewN | apply Kd.V_drew)); exact HL109_2.out) gb110 (Nat.le_of_eq hg.symm)) hb); have n3_ := Aside0.mk (Kd.C_below (by repeat (first | (with_reducible exact HR109_2.out) | (with_reducible refine Kd.C_alloc ?_ _) | (with_reducible refine Kd.C_drewN ?_ _) | (with_reducible refine Kd.C_drew ?_) | exact HR109_2.out)) hb); have n4_ := Aside0.mk (below_step (by repeat (first | (with_reducible first | exact HB.out | apply below_alloc | apply pw_below_drewN | apply below_drew1) | exact HB.out)) hb); have n5_ := Aside0.mk (hbox); have n6_ := Aside0.mk ((by rw [hg]; exact (below_size (by repeat (first | (with_reducible first | exact HB.out | apply below_alloc | apply pw_below_drewN | apply below_drew1) | exact HB.out))) : w.heap.size ≤ gb110)); have n7_ := Aside0.mk ((by rw [hg]; exact (below_size (by repeat (first | (with_reducible first | exact HB.out | apply below_alloc | apply pw_below_drewN | apply below_drew1) | exact HB.out))) : w.heap.size ≤ gb110)); clear HO_0; clear HO_3; clear HL109_2; clear HR109_2; clear HB; have HO_0 := n0_; have HO_3 := n1_; have HL109_2 := n2_; have HR109_2 := n3_; have HB := n4_; have BK110 := n5_; have GW110 := n6_; have GE110 := n7_; clear n0_ n1_ n2_ n3_ n4_ n5_ n6_ n7_; clear hb hbox hg; have hcz10_0 : w9.cell? ⟨gb110, 0, none⟩ = some (.int .i64 0) := (blk_cell BK110.out 0).trans rfl; have hcz10_1 : w9.cell? ⟨gb110, 1, none⟩ = some (.int .i64 0) := (blk_cell BK110.out 1).trans rfl; have hcz10_2 : w9.cell? ⟨gb110, 2, none⟩ = some (.slice none 0 0) := (blk_cell BK110.out 2).trans rfl; have hfz10_0 := blk_frozen BK110.out 0; have hfz10_1 := blk_frozen BK110.out 1; have hfz10_2 := blk_frozen BK110.out 2) | ((with_reducible refine gate_store (t := 52) (p := 5) rfl ?_); refine store_event (t := 52) (p := 5) (v := ?vo_w11) (w1 := (((w9.setCell ⟨gb110, 0, none⟩ (.int .i64 ((rd_T52 l0 x4_1).f0))).setCell ⟨gb110, 1, none⟩ (.int .i64 ((rd_T52 l0 x4_1).f1))).setCell ⟨gb110, 2, none⟩ (.slice A109_2 ((rd_T52 l0 x4_1).f2).length c109_2))) ?hg ?ho ?hn ?hr ?_; (case ho => rfl); (case hg => rfl); (case hn => rfl); (case hr => first | (go_simp; done) | (go_simp; rfl)); intro w11 hw; have n0_ : Aside0 (Kd.V k52 52 w11 w.heap.size (fun k_ => (P0_ k_ ∨ w.heap.size ≤ k_) ∧ some k_ ≠ (u3 : Value).ownBlock ∧ k_ ≠ gb110) (.slice (some ad109) l0.length c0) l0) := ⟨(by rw [hw]; exact (by (with_reducible repeat (first | apply Kd.V_alloc | apply Kd.V_drewN | apply Kd.V_drew)); exact Kd.V_mono (Kd.V_far (p := ⟨gb110, 2, none⟩) (Kd.V_far (p := ⟨gb110, 1, none⟩) (Kd.V_far (p := ⟨gb110, 0, none⟩) (Kd.V_mono HO_0.out (fun k_ hk => (⟨hk, hk.2⟩ : _ ∧ k_ ≠ gb110))) (fun _ hk => hk.2) (.int .i64 ((rd_T52 l0 x4_1).f0))) (fun _ hk => hk.2) (.int .i64 ((rd_T52 l0 x4_1).f1))) (fun _ hk => hk.2) (.slice A109_2 ((rd_T52 l0 x4_1).f2).length c109_2)) (fun _ hk => ⟨hk.1.1.1, ⟨hk.1.1.2, hk.1.2⟩⟩)))⟩; have n1_ : Aside0 (Kd.N k52 52 w11 w.heap.size (fun k_ => (P0_ k_ ∨ w.heap.size ≤ k_) ∧ k_ ≠ gb110) u3 x3_1) := ⟨(by rw [hw]; exact (by (with_reducible repeat (first | apply Kd.N_alloc | apply Kd.N_drewN | apply Kd.N_drew)); exact Kd.N_mono (Kd.N_far (p := ⟨gb110, 2, none⟩) (Kd.N_far (p := ⟨gb110, 1, none⟩) (Kd.N_far (p := ⟨gb110, 0, none⟩) (Kd.N_mono HO_3.out (fun k_ hk => (⟨hk, hk.2⟩ : _ ∧ k_ ≠ gb110))) (fun _ hk => hk.2) (.int .i64 ((rd_T52 l0 x4_1).f0))) (fun _ hk => hk.2) (.int .i64 ((rd_T52 l0 x4_1).f1))) (fun _ hk => hk.2) (.slice A109_2 ((rd_T52 l0 x4_1).f2).length c109_2)) (fun _ hk => ⟨hk.1.1, hk.1.2⟩)))⟩; have n2_ : Aside0 (Kd.V (Kd.int .u8) 5 w11 w.heap.size (fun k_ => (P0_ k_ ∨ w.heap.size ≤ k_) ∧ some k_ ≠ (u3 : Value).ownBlock ∧ k_ ≠ gb110) (.slice A109_2 ((rd_T52 l0 x4_1).f2).length c109_2) ((rd_T52 l0 x4_1).f2)) := ⟨(by rw [hw]; exact (by (with_reducible repeat (first | apply Kd.V_alloc | apply Kd.V_drewN | apply Kd.V_drew)); exact Kd.V_mono (Kd.V_far (p := ⟨gb110, 2, none⟩) (Kd.V_far (p := ⟨gb110, 1, none⟩) (Kd.V_far (p := ⟨gb110, 0, none⟩) (Kd.V_mono HL109_2.out (fun k_ hk => (⟨hk, hk.2⟩ : _ ∧ k_ ≠ gb110))) (fun _ hk => hk.2) (.int .i64 ((rd_T52 l0 x4_1).f0))) (fun _ hk => hk.2) (.int .i64 ((rd_T52 l0 x4_1).f1))) (fun _ hk => hk.2) (.slice A109_2 ((rd_T52 l0 x4_1).f2).length c109_2)) (fun _ hk => ⟨hk.1.1.1, ⟨hk.1.1.2, hk.1.2⟩⟩)))⟩; have n3_ : Aside0 (w11.heap[gb110]? = some (.cells #[.int .i64 ((rd_T52 l0 x4_1).f0), .int .i64 ((rd_T52 l0 x4_1).f1), .slice A109_2 ((rd_T52 l0 x4_1).f2).length c109_2] 52 (0, 0))) := ⟨(by rw [hw]; exact (by (with_reducible repeat (first | refine blk_drewN ?_ _ | refine blk_drew ?_ | refine blk_alloc ?_ _)); refine blk_put (cs := #[.int .i64 ((rd_T52 l0 x4_1).f0), .int .i64 ((rd_T52 l0 x4_1).f1), .slice none 0 0]) ?_ 2 _ rfl; (with_reducible repeat (first | refine blk_drewN ?_ _ | refine blk_drew ?_ | refine blk_alloc ?_ _)); refine blk_put (cs := #[.int .i64 ((rd_T52 l0 x4_1).f0), .int .i64 0, .slice none 0 0]) ?_ 1 _ rfl; (with_reducible repeat (first | refine blk_drewN ?_ _ | refine blk_drew ?_ | refine blk_alloc ?_ _)); refine blk_put (cs := #[.int .i64 0, .int .i64 0, .slice none 0 0]) ?_ 0 _ rfl; (with_reducible repeat (first | refine blk_drewN ?_ _ | refine blk_drew ?_ | refine blk_alloc ?_ _)); exact BK110.out))⟩; have n4_ : Aside0 (Below w.heap.size w w11) := ⟨(by rw [hw]; exact (by repeat (first | (with_reducible first | exact HB.out | apply below_alloc | apply pw_below_drewN | apply below_drew1 | refine below_set ?_ GE110.out) | exact HB.out)))⟩; clear hw; clear HO_0; clear HO_3; clear HL109_2; clear BK110; clear HB; have HO_0 := n0_; have HO_3 := n1_; have HL109_2 := n2_; have BK110 := n3_; have HB := n4_; clear n0_ n1_ n2_ n3_ n4_; have hcz12_0 : w11.cell? ⟨gb110, 0, none⟩ = some (.int .i64 ((rd_T52 l0 x4_1).f0)) := (blk_cell BK110.out 0).trans rfl; have hcz12_1 : w11.cell? ⟨gb110, 1, none⟩ = some (.int .i64 ((rd_T52 l0 x4_1).f1)) := (blk_cell BK110.out 1).trans rfl; have hcz12_2 : w11.cell? ⟨gb110, 2, none⟩ = some (.slice A109_2 ((rd_T52 l0 x4_1).f2).length c109_2) := (blk_cell BK110.out 2).trans rfl; have hfz12_0 := blk_frozen BK110.out 0; have hfz12_1 := blk_frozen BK110.out 1; have hfz12_2 := blk_frozen BK110.out 2; have q13 : ((ji5) : Int) ≤ ((((rd_T52 l0 x4_1).f2).length : Int) : Int) := of_decide_eq_true (by first | (with_reducible assumption) | assumption); obtain ⟨i013, hi013, _, hsz13, _⟩ := info_parts info5; have hroom13 : ((rd_T52 l0 x4_1).f2).length ≤ c109_2 := HC109_2.out; have hC13 : Kd.F (Kd.int .u8) _ _ A109_2 ((rd_T52 l0 x4_1).f2).length ((rd_T52 l0 x4_1).f2) := (Kd.V_at (base := w.heap.size) HL109_2.out).2.2; have hcut13 := cut_to (P := Try.prog) 22 5 .i64 Try.underlying22 hi013 A109_2 ((rd_T52 l0 x4_1).f2).length c109_2 (ji5) (of_decide_eq_true (by first | (with_reducible assumption) | assumption)) q13 hroom13; have hr13 := Kd.F_take (m := ((ji5) : Int).toNat) hC13 (by omega); have hy13 : y111.length = ((ji5) : Int).toNat := (by rw [Ny111.out, List.length_take]; omega); rw [← Ny111.out] at hr13; rw [← hy13] at hcut13; have HO115 := Aside0.mk (show Kd.V (Kd.int .u8) 5 _ w.heap.size _ (.slice A109_2 y111.length c109_2) y111 from Kd.V_mk (by omega) hr13); have HC115 := Aside0.mk (show y111.length ≤ c109_2 from by omega); clear hr13 hC13 hroom13 hi013 hsz13; have KY13 := Aside0.mk hy13; clear hy13; replace q13 := eq_true q13) | ((with_reducible refine gate_store (t := 22) (p := 27) rfl ?_); refine store_event (t := 22) (p := 27) (v := ?vo_w14) (w1 := (w11.setCell ⟨gb110, 2, none⟩ (.slice A109_2 y111.length c109_2))) ?hg ?ho ?hn ?hr ?_; (case ho => rfl); (case hg => rfl); (case hn => rfl); (case hr => first | (go_simp; done) | (go_simp; rfl)); intro w14 hw; have n0_ : Aside0 (Kd.V k52 52 w14 w.heap.size (fun k_ => (P0_ k_ ∨ w.heap.size ≤ k_) ∧ some k_ ≠ (u3 : Value).ownBlock ∧ k_ ≠ gb110) (.slice (some ad109) l0.length c0) l0) := ⟨(by rw [hw]; exact (by (with_reducible repeat (first | apply Kd.V_alloc | apply Kd.V_drewN | apply Kd.V_drew)); exact Kd.V_mono (Kd.V_far (p := ⟨gb110, 2, none⟩) (Kd.V_mono HO_0.out (fun k_ hk => (⟨hk, hk.2.2⟩ : _ ∧ k_ ≠ gb110))) (fun _ hk => hk.2) (.slice A109_2 y111.length c109_2)) (fun _ hk => ⟨hk.1.1, ⟨hk.1.2.1, hk.1.2.2⟩⟩)))⟩; have n1_ : Aside0 (Kd.N k52 52 w14 w.heap.size (fun k_ => (P0_ k_ ∨ w.heap.size ≤ k_) ∧ k_ ≠ gb110) u3 x3_1) := ⟨(by rw [hw]; exact (by (with_reducible repeat (first | apply Kd.N_alloc | apply Kd.N_drewN | apply Kd.N_drew)); exact Kd.N_mono (Kd.N_far (p := ⟨gb110, 2, none⟩) (Kd.N_mono HO_3.out (fun k_ hk => (⟨hk, hk.2⟩ : _ ∧ k_ ≠ gb110))) (fun _ hk => hk.2) (.slice A109_2 y111.length c109_2)) (fun _ hk => ⟨hk.1.1, hk.1.2⟩)))⟩; have n2_ : Aside0 (Kd.V (Kd.int .u8) 5 w14 w.heap.size (fun k_ => (P0_ k_ ∨ w.heap.size ≤ k_) ∧ some k_ ≠ (u3 : Value).ownBlock ∧ k_ ≠ gb110) (.slice A109_2 ((rd_T52 l0 x4_1).f2).length c109_2) ((rd_T52 l0 x4_1).f2)) := ⟨(by rw [hw]; exact (by (with_reducible repeat (first | apply Kd.V_alloc | apply Kd.V_drewN | apply Kd.V_drew)); exact Kd.V_mono (Kd.V_far (p := ⟨gb110, 2, none⟩) (Kd.V_mono HL109_2.out (fun k_ hk => (⟨hk, hk.2.2⟩ : _ ∧ k_ ≠ gb110))) (fun _ hk => hk.2) (.slice A109_2 y111.length c109_2)) (fun _ hk => ⟨hk.1.1, ⟨hk.1.2.1, hk.1.2.2⟩⟩)))⟩; have n3_ : Aside0 (Kd.V (Kd.int .u8) 5 w14 w.heap.size (fun k_ => (P0_ k_ ∨ w.heap.size ≤ k_) ∧ some k_ ≠ (u3 : Value).ownBlock ∧ k_ ≠ gb110) (.slice A109_2 y111.length c109_2) y111) := ⟨(by rw [hw]; exact (by (with_reducible repeat (first | apply Kd.V_alloc | apply Kd.V_drewN | apply Kd.V_drew)); exact Kd.V_mono (Kd.V_far (p := ⟨gb110, 2, none⟩) (Kd.V_mono HO115.out (fun k_ hk => (⟨hk, hk.2.2⟩ : _ ∧ k_ ≠ gb110))) (fun _ hk => hk.2) (.slice A109_2 y111.length c109_2)) (fun _ hk => ⟨hk.1.1, ⟨hk.1.2.1, hk.1.2.2⟩⟩)))⟩; have n4_ : Aside0 (w14.heap[gb110]? = some (.cells #[.int .i64 ((rd_T52 l0 x4_1).f0), .int .i64 ((rd_T52 l0 x4_1).f1), .slice A109_2 y111.length c109_2] 52 (0, 0))) := ⟨(by rw [hw]; exact (by (with_reducible repeat (first | refine blk_drewN ?_ _ | refine blk_drew ?_ | refine blk_alloc ?_ _)); refine blk_put (cs := #[.int .i64 ((rd_T52 l0 x4_1).f0), .int .i64 ((rd_T52 l0 x4_1).f1), .slice A109_2 ((rd_T52 l0 x4_1).f2).length c109_2]) ?_ 2 _ rfl; (with_reducible repeat (first | refine blk_drewN ?_ _ | refine blk_drew ?_ | refine blk_alloc ?_ _)); exact BK110.out))⟩; have n5_ : Aside0 (Below w.heap.size w w14) := ⟨(by rw [hw]; exact (by repeat (first | (with_reducible first | exact HB.out | apply below_alloc | apply pw_below_drewN | apply below_drew1 | refine below_set ?_ GE110.out) | exact HB.out)))⟩; clear hw; clear HO_0; clear HO_3; clear HL109_2; clear HO115; clear BK110; clear HB; have HO_0 := n0_; have HO_3 := n1_; have HL109_2 := n2_; have HO115 := n3_; have BK110 := n4_; have HB := n5_; clear n0_ n1_ n2_ n3_ n4_ n5_; have hcz15_0 : w14.cell? ⟨gb110, 0, none⟩ = some (.int .i64 ((rd_T52 l0 x4_1).f0)) := (blk_cell BK110.out 0).trans rfl; have hcz15_1 : w14.cell? ⟨gb110, 1, none⟩ = some (.int .i64 ((rd_T52 l0 x4_1).f1)) := (blk_cell BK110.out 1).trans rfl; have hcz15_2 : w14.cell? ⟨gb110, 2, none⟩ = some (.slice A109_2 y111.length c109_2) := (blk_cell BK110.out 2).trans rfl; have hfz15_0 := blk_frozen BK110.out 0; have hfz15_1 := blk_frozen BK110.out 1; have hfz15_2 := blk_frozen BK110.out 2) | ((with_reducible refine gate_builtin (b := .append) (xs := #[.tmp 28, .tmp 30]) rfl ?_); at_builtin; refine Kd.N_append k52 (w0 := w) w.heap.size rfl (.tmp 28) (.tmp 30) 46 52 (.agg #[(.int .i64 0), (.int .i64 0), (.slice none 0 0)]) 40 rfl Try.underlying46 info52 rfl (by decide) (by omega) u3 x3_1 (⟨(rd_T52 l0 x4_1).f0, (rd_T52 l0 x4_1).f1, y111⟩ : S52) [.int .i64 ((rd_T52 l0 x4_1).f0), .int .i64 ((rd_T52 l0 x4_1).f1), .slice A109_2 y111.length c109_2] (fun k_ => (P0_ k_ ∨ w.heap.size ≤ k_) ∧ k_ ≠ gb110) (fun k_ => ((fun k_ => (P0_ k_ ∨ w.heap.size ≤ k_) ∧ k_ ≠ gb110)) k_ ∧ some k_ ≠ (u3 : Value).ownBlock) rfl rfl ?aP (fun _ hk => hk) ?aF ?aO ?aB ?aS ?aL ?_; (case aP => exact (k52_mkF _ _ (⟨(rd_T52 l0 x4_1).f0, (rd_T52 l0 x4_1).f1, y111⟩ : S52) (Kd.V_reads' (Kd.V_mono (ok' := (fun k_ => ((fun k_ => (P0_ k_ ∨ w.heap.size ≤ k_) ∧ k_ ≠ gb110)) k_ ∧ some k_ ≠ (u3 : Value).ownBlock)) (HO115.out) (fun k_ hk => ⟨⟨hk.1, hk.2.2⟩, hk.2.1⟩))).2.1 (Kd.V_F (Kd.V_mono (ok' := (fun k_ => ((fun k_ => (P0_ k_ ∨ w.heap.size ≤ k_) ∧ k_ ≠ gb110)) k_ ∧ some k_ ≠ (u3 : Value).ownBlock)) (HO115.out) (fun k_ hk => ⟨⟨hk.1, hk.2.2⟩, hk.2.1⟩))))); (case aB => exact (by repeat (first | (with_reducible first | exact HB.out | apply below_alloc | apply pw_below_drewN | apply below_drew1 | refine below_set ?_ GE110.out) | exact HB.out))); (case aF => exact (fun k_ hk => ⟨(.inr (Nat.le_trans (below_size (by repeat (first | (with_reducible first | exact HB.out | apply below_alloc | apply pw_below_drewN | apply below_drew1 | refine below_set ?_ GE110.out) | exact HB.out))) hk)), Kd.freshB (g := gb110) (o := .cells #[.int .i64 ((rd_T52 l0 x4_1).f0), .int .i64 ((rd_T52 l0 x4_1).f1), .slice A109_2 y111.length c109_2] 52 (0, 0)) (by (with_reducible repeat (first | refine blk_drewN ?_ _ | refine blk_drew ?_ | refine blk_alloc ?_ _)); exact BK110.out) k_ hk⟩)); (case aO => exact (by (with_reducible repeat (first | apply Kd.N_alloc | apply Kd.N_drewN | apply Kd.N_drew)); exact HO_3.out)); (case aS => exact (below_size (by repeat (first | (with_reducible first | exact HB.out | apply below_alloc | apply pw_below_drewN | apply below_drew1 | refine below_set ?_ GE110.out) | exact HB.out)))); (case aL => have := LMc8.out; omega); intro v117 w16 ho hb hg hat; rw [← Ny116.out] at ho; have n0_ := Aside0.mk (Kd.V_afterv (ok := (fun k_ => (P0_ k_ ∨ w.heap.size ≤ k_) ∧ k_ ≠ gb110)) (by (with_reducible repeat (first | apply Kd.V_alloc | apply Kd.V_drewN | apply Kd.V_drew)); exact Kd.V_mono HO_0.out (fun _ hk => ⟨⟨hk.1, hk.2.2⟩, hk.2.1⟩)) hg hat); have n1_ := Aside0.mk (Kd.V_afterv (ok := (fun k_ => (P0_ k_ ∨ w.heap.size ≤ k_) ∧ k_ ≠ gb110)) (by (with_reducible repeat (first | apply Kd.V_alloc | apply Kd.V_drewN | apply Kd.V_drew)); exact Kd.V_mono HL109_2.out (fun _ hk => ⟨⟨hk.1, hk.2.2⟩, hk.2.1⟩)) hg hat); have n2_ := Aside0.mk (blk_grown (g := gb110) (o := .cells #[.int .i64 ((rd_T52 l0 x4_1).f0), .int .i64 ((rd_T52 l0 x4_1).f1), .slice A109_2 y111.length c109_2] 52 (0, 0)) (by (with_reducible repeat (first | refine blk_drewN ?_ _ | refine blk_drew ?_ | refine blk_alloc ?_ _)); exact BK110.out) hg (Kd.N_away HO_3.out (fun _ hk => hk.2))); have n3_ := Aside0.mk (Kd.V_afterv (ok := (fun k_ => (P0_ k_ ∨ w.heap.size ≤ k_) ∧ k_ ≠ gb110)) (by (with_reducible repeat (first | apply Kd.V_alloc | apply Kd.V_drewN | apply Kd.V_drew)); exact Kd.V_mono HO115.out (fun _ hk => ⟨⟨hk.1, hk.2.2⟩, hk.2.1⟩)) hg hat); have n4_ := Aside0.mk (hb); have n5_ := Aside0.mk (ho); clear HO_0; clear HL109_2; clear BK110; clear HO115; clear HB; clear HO_3; have HO_0 := n0_; have HL109_2 := n1_; have BK110 := n2_; have HO115 := n3_; have HB := n4_; have HO118 := n5_; clear n0_ n1_ n2_ n3_ n4_ n5_; clear ho hb hg hat))
                  go_roundg k1
                  case measure => have := HK1.out; omega
                  case rel => exact ⟨(y116), (wrap64 (x4_1 + 1)), (by first | rfl | (simp; done) | (simp [*]; done)), H', ⟨by have := HK1.out; omega⟩, ⟨by (with_reducible repeat (first | apply Kd.V_alloc | apply Kd.V_drewN | apply Kd.V_drew)); exact Kd.V_mono HO_0.out (fun _ hk => ⟨hk.1.1, hk.2⟩)⟩, ⟨by (with_reducible repeat (first | apply Kd.N_alloc | apply Kd.N_drewN | apply Kd.N_drew)); exact Kd.N_mono HO118.out (fun _ hk => hk.1)⟩, ⟨by repeat (first | (with_reducible first | exact HB.out | apply below_alloc | apply pw_below_drewN | apply below_drew1 | refine below_set ?_ GE110.out) | exact HB.out)⟩⟩
                · rw [if_neg c8] at H
                  exact absurd H (by simp)
              · rw [if_neg c7] at H
                exact absurd H (by simp)
            · rw [if_neg c6] at H
              exact absurd H (by simp)
          · rw [if_neg c4] at H
            exact absurd H (by simp)
        · rw [if_neg c3] at H
          have c3b0 : decide (x4_1 < 80) = false := decide_eq_false c3
          clear c3
          obtain rfl := Option.some.inj H
          go_wp2
          go_ret
          exact ⟨_, by first | rfl | (simp [errW_none, errW_some] <;> rfl) | (simp [*, errW_none, errW_some] <;> rfl), by (with_reducible repeat (first | apply Kd.N_alloc | apply Kd.N_drewN | apply Kd.N_drew)); exact HO_3.out, by repeat (first | (with_reducible first | exact HB.out | apply below_alloc | apply pw_below_drewN | apply below_drew1) | exact HB.out)⟩
      · rw [if_neg c2] at H
        have c2b0 : decide (x4_1 < (l0.length : Int)) = false := decide_eq_false c2
        clear c2
        obtain rfl := Option.some.inj H
        go_wp2
        go_ret
        exact ⟨_, by first | rfl | (simp [errW_none, errW_some] <;> rfl) | (simp [*, errW_none, errW_some] <;> rfl), by (with_reducible repeat (first | apply Kd.N_alloc | apply Kd.N_drewN | apply Kd.N_drew)); exact HO_3.out, by repeat (first | (with_reducible first | exact HB.out | apply below_alloc | apply pw_below_drewN | apply below_drew1) | exact HB.out)⟩

end Go.Proofs.Ytbcienbnhchdeaa.PrD

-- Printed by a program of this session (wip/patch_print.py over the kit's print); Lean checks it.
namespace Go.Proofs.Ytbcienbnhchdeaa.PrD
open Go.RowKit Go.Proofs.YtbcienbnhchdeaaW.PrintWords Go.Proofs.YtbcienbnhchdeaaW.PrintLast Go.Proofs.YtbcienbnhchdeaaW.PrintMore
attribute [local go_sem] max2_int min2_int max_two min_two max_three min_three max_four min_four   -- for this text's walks alone
set_option linter.unusedVariables false
set_option linter.unusedSimpArgs false

/-! ### pacesetterlaw05_Step_kind: function 52 -/
def pacesetterlaw05_Step_kind.f (a0_0 : Int) (a0_1 : Int) (l0_2 : List Int) : Option (Int) := some (wrap64 (Int.tmod (IntKind.u64.wrap (a0_0)) 6))
set_option maxHeartbeats 8000000 in
set_option maxRecDepth 100000 in
theorem pacesetterlaw05_Step_kind.calls (a0_0 : Int) (a0_1 : Int) (A0_2 : Option Addr) (c0_2 : Nat) (l0_2 : List Int) (r : Int) (w : World) (hr0_2 : Kd.C (Kd.int .u8) w A0_2 l0_2.length l0_2) (hc0_2 : l0_2.length ≤ c0_2) (h : pacesetterlaw05_Step_kind.f a0_0 a0_1 l0_2 = some r) :
    Calls Try.prog 52 #[.agg #[.int .i64 a0_0, .int .i64 a0_1, .slice A0_2 l0_2.length c0_2]] w fun e w' => e = .returned (.int .i64 r) ∧ Below w.heap.size w w' := by
  have hu52 := Try.underlying52
  have HR0_2 := Aside0.mk hr0_2
  have HC0_2 := Aside0.mk hc0_2
  clear hr0_2 hc0_2
  have HB := Aside0.mk (Below.refl w.heap.size w)
  have H : (some (wrap64 (Int.tmod (IntKind.u64.wrap (a0_0)) 6))) = some r := h
  clear h
  obtain rfl := Option.some.inj H
  go_enter Try.func52, Try.ntmps52
  go_wp2_with (first | ((with_reducible refine gate_dst (N := 1) rfl ?_); refine box_event ?hg (N := 1) ?hd (cs := #[.int .i64 a0_0, .int .i64 a0_1, .slice A0_2 l0_2.length c0_2]) (t := 52) ?hr ?_; (case hd => rfl); (case hg => rfl); (case hr => first | (go_simp; done) | (go_simp; rfl)); intro gb119 hg w2 hbox hb; have n0_ := Aside0.mk (below_step (by repeat (first | (with_reducible first | exact HB.out | apply below_alloc | apply pw_below_drewN | apply below_drew1) | exact HB.out)) hb); have n1_ := Aside0.mk (hbox); have n2_ := Aside0.mk ((by rw [hg]; exact (below_size (by repeat (first | (with_reducible first | exact HB.out | apply below_alloc | apply pw_below_drewN | apply below_drew1) | exact HB.out))) : w.heap.size ≤ gb119)); have n3_ := Aside0.mk ((by rw [hg]; exact (below_size (by repeat (first | (with_reducible first | exact HB.out | apply below_alloc | apply pw_below_drewN | apply below_drew1) | exact HB.out))) : w.heap.size ≤ gb119)); clear HB; have HB := n0_; have BK119 := n1_; have GW119 := n2_; have GE119 := n3_; clear n0_ n1_ n2_ n3_; clear hb hbox hg; have hcz3_0 : w2.cell? ⟨gb119, 0, none⟩ = some (.int .i64 a0_0) := (blk_cell BK119.out 0).trans rfl; have hcz3_1 : w2.cell? ⟨gb119, 1, none⟩ = some (.int .i64 a0_1) := (blk_cell BK119.out 1).trans rfl; have hcz3_2 : w2.cell? ⟨gb119, 2, none⟩ = some (.slice A0_2 l0_2.length c0_2) := (blk_cell BK119.out 2).trans rfl; have hfz3_0 := blk_frozen BK119.out 0; have hfz3_1 := blk_frozen BK119.out 1; have hfz3_2 := blk_frozen BK119.out 2))
  go_ret
  exact ⟨by first | rfl | (simp [errW_none, errW_some] <;> rfl) | (simp [*, errW_none, errW_some] <;> rfl), by repeat (first | (with_reducible first | exact HB.out | apply below_alloc | apply pw_below_drewN | apply below_drew1 | refine below_set ?_ GE119.out) | exact HB.out)⟩

-- NOT PRINTED: function 57 (disk_Disk_Cut)

-- NOT PRINTED: function 13 (pacesetterlaw05_DiskRoom)

/-! ### pacesetterref05_New: function 50 -/
def pacesetterref05_New.f (a0 : Int) : Option (Int × ByteArray × ByteArray) := some (mn (mx a0 0) 1048576, (⟨#[]⟩ : ByteArray), (⟨#[]⟩ : ByteArray))
set_option maxHeartbeats 8000000 in
set_option maxRecDepth 100000 in
theorem pacesetterref05_New.calls (a0 : Int) (r1 : Int) (r2 : ByteArray) (r3 : ByteArray) (w : World) (h : pacesetterref05_New.f a0 = some (r1, r2, r3)) :
    Calls Try.prog 50 #[.int .i64 a0] w fun e w' => e = .returned (.agg #[.int .i64 r1, .string r2, .string r3]) ∧ Below w.heap.size w w' := by
  have hu48 := Try.underlying48
  have HB := Aside0.mk (Below.refl w.heap.size w)
  have H : (some (mn (mx a0 0) 1048576, (⟨#[]⟩ : ByteArray), (⟨#[]⟩ : ByteArray))) = some (r1, r2, r3) := h
  clear h
  obtain ⟨ji2, hji2⟩ : ∃ j_ : Int, (mx a0 0) = j_ := ⟨_, rfl⟩
  replace H : (some (mn (ji2) 1048576, (⟨#[]⟩ : ByteArray), (⟨#[]⟩ : ByteArray))) = some (r1, r2, r3) := by first | (rw [hji2] at H; exact H) | (simp only [hji2] at H ⊢; exact H)
  (try (have hji2l : 0 ≤ ji2 := by (rw [← hji2]; unfold mx; (repeat' split) <;> omega)))
  (try (have hji2m : 0 ≤ ji2 := by omega))
  have hji2_ : (if a0 < 0 then 0 else a0) = ji2 := hji2
  obtain ⟨ji3, hji3⟩ : ∃ j_ : Int, (mn (ji2) 1048576) = j_ := ⟨_, rfl⟩
  replace H : (some (ji3, (⟨#[]⟩ : ByteArray), (⟨#[]⟩ : ByteArray))) = some (r1, r2, r3) := by first | (rw [hji3] at H; exact H) | (simp only [hji3] at H ⊢; exact H)
  have hji3_ : (if 1048576 < (ji2) then 1048576 else (ji2)) = ji3 := hji3
  simp only [Option.some.injEq, Prod.mk.injEq] at H
  obtain ⟨rfl, rfl, rfl⟩ := H
  go_enter Try.func50, Try.ntmps50
  go_wp2_with (first | ((with_reducible refine gate_dst (N := 2) rfl ?_); refine box_event ?hg (N := 2) ?hd (cs := #[.int .i64 0, .string (⟨#[]⟩ : ByteArray), .string (⟨#[]⟩ : ByteArray)]) (t := 48) ?hr ?_; (case hd => rfl); (case hg => rfl); (case hr => first | (go_simp; done) | (go_simp; rfl)); intro gb120 hg w4 hbox hb; have n0_ := Aside0.mk (below_step (by repeat (first | (with_reducible first | exact HB.out | apply below_alloc | apply pw_below_drewN | apply below_drew1) | exact HB.out)) hb); have n1_ := Aside0.mk (hbox); have n2_ := Aside0.mk ((by rw [hg]; exact (below_size (by repeat (first | (with_reducible first | exact HB.out | apply below_alloc | apply pw_below_drewN | apply below_drew1) | exact HB.out))) : w.heap.size ≤ gb120)); have n3_ := Aside0.mk ((by rw [hg]; exact (below_size (by repeat (first | (with_reducible first | exact HB.out | apply below_alloc | apply pw_below_drewN | apply below_drew1) | exact HB.out))) : w.heap.size ≤ gb120)); clear HB; have HB := n0_; have BK120 := n1_; have GW120 := n2_; have GE120 := n3_; clear n0_ n1_ n2_ n3_; clear hb hbox hg; have hcz5_0 : w4.cell? ⟨gb120, 0, none⟩ = some (.int .i64 0) := (blk_cell BK120.out 0).trans rfl; have hcz5_1 : w4.cell? ⟨gb120, 1, none⟩ = some (.string (⟨#[]⟩ : ByteArray)) := (blk_cell BK120.out 1).trans rfl; have hcz5_2 : w4.cell? ⟨gb120, 2, none⟩ = some (.string (⟨#[]⟩ : ByteArray)) := (blk_cell BK120.out 2).trans rfl; have hfz5_0 := blk_frozen BK120.out 0; have hfz5_1 := blk_frozen BK120.out 1; have hfz5_2 := blk_frozen BK120.out 2))
  refine bodyPost_ret (results_cell_row rfl _ _ gb120 48 #[.int .i64 ji3, .string (⟨#[]⟩ : ByteArray), .string (⟨#[]⟩ : ByteArray)] (0, 0) _ rfl (by (with_reducible repeat (first | refine blk_drewN ?_ _ | refine blk_drew ?_ | refine blk_alloc ?_ _)); refine blk_put (cs := #[.int .i64 ji3, .string (⟨#[]⟩ : ByteArray), .string (⟨#[]⟩ : ByteArray)]) ?_ 2 _ rfl; (with_reducible repeat (first | refine blk_drewN ?_ _ | refine blk_drew ?_ | refine blk_alloc ?_ _)); refine blk_put (cs := #[.int .i64 ji3, .string (⟨#[]⟩ : ByteArray), .string (⟨#[]⟩ : ByteArray)]) ?_ 1 _ rfl; (with_reducible repeat (first | refine blk_drewN ?_ _ | refine blk_drew ?_ | refine blk_alloc ?_ _)); refine blk_put (cs := #[.int .i64 0, .string (⟨#[]⟩ : ByteArray), .string (⟨#[]⟩ : ByteArray)]) ?_ 0 _ rfl; (with_reducible repeat (first | refine blk_drewN ?_ _ | refine blk_drew ?_ | refine blk_alloc ?_ _)); exact BK120.out) Try.underlying48 rfl (by kernel_rfl)) rfl ?_
  exact ⟨by first | rfl | (simp [errW_none, errW_some] <;> rfl) | (simp only [← hji2, ← hji3]; first | rfl | (simp [errW_none, errW_some] <;> rfl)) | (simp [*, errW_none, errW_some] <;> rfl), by repeat (first | (with_reducible first | exact HB.out | apply below_alloc | apply pw_below_drewN | apply below_drew1 | refine below_set ?_ GE120.out) | exact HB.out)⟩

/-! ### pacesetterref05_Write: function 53 -/
def pacesetterref05_Write.f (a0_0 : Int) (a0_1 : ByteArray) (a0_2 : ByteArray) (a1 : ByteArray) : Option (Int × ByteArray × ByteArray × Int) := if (wrap64 ((wrap64 ((a0_1.size : Int) + (a0_2.size : Int))) + (a1.size : Int))) > a0_0 then (some (a0_0, a0_1, a0_2, 4)) else (if a0_2.size + a1.size ≤ 9223372036854775807 then (some (a0_0, a0_1, a0_2 ++ a1, 0)) else (none))
set_option maxHeartbeats 8000000 in
set_option maxRecDepth 100000 in
theorem pacesetterref05_Write.calls (a0_0 : Int) (a0_1 : ByteArray) (a0_2 : ByteArray) (a1 : ByteArray) (r1 : Int) (r2 : ByteArray) (r3 : ByteArray) (r4 : Int) (w : World) (h : pacesetterref05_Write.f a0_0 a0_1 a0_2 a1 = some (r1, r2, r3, r4)) :
    Calls Try.prog 53 #[.agg #[.int .i64 a0_0, .string a0_1, .string a0_2], .string a1] w fun e w' => e = .returned (.tuple #[.agg #[.int .i64 r1, .string r2, .string r3], .int .i64 r4]) ∧ Below w.heap.size w w' := by
  have hu48 := Try.underlying48
  have HB := Aside0.mk (Below.refl w.heap.size w)
  have H : (if (wrap64 ((wrap64 ((a0_1.size : Int) + (a0_2.size : Int))) + (a1.size : Int))) > a0_0 then (some (a0_0, a0_1, a0_2, 4)) else (if a0_2.size + a1.size ≤ 9223372036854775807 then (some (a0_0, a0_1, a0_2 ++ a1, 0)) else (none))) = some (r1, r2, r3, r4) := h
  clear h
  by_cases c3 : (wrap64 ((wrap64 ((a0_1.size : Int) + (a0_2.size : Int))) + (a1.size : Int))) > a0_0
  · rw [if_pos c3] at H
    have c3b0 : decide (a0_0 < (wrap64 ((wrap64 ((a0_1.size : Int) + (a0_2.size : Int))) + (a1.size : Int)))) = true := decide_eq_true c3
    clear c3
    simp only [Option.some.injEq, Prod.mk.injEq] at H
    obtain ⟨rfl, rfl, rfl, rfl⟩ := H
    go_enter Try.func53, Try.ntmps53
    go_wp2_with (first | ((with_reducible refine gate_dst (N := 2) rfl ?_); refine box_event ?hg (N := 2) ?hd (cs := #[.int .i64 a0_0, .string a0_1, .string a0_2]) (t := 48) ?hr ?_; (case hd => rfl); (case hg => rfl); (case hr => first | (go_simp; done) | (go_simp; rfl)); intro gb121 hg w4 hbox hb; have n0_ := Aside0.mk (below_step (by repeat (first | (with_reducible first | exact HB.out | apply below_alloc | apply pw_below_drewN | apply below_drew1) | exact HB.out)) hb); have n1_ := Aside0.mk (hbox); have n2_ := Aside0.mk ((by rw [hg]; exact (below_size (by repeat (first | (with_reducible first | exact HB.out | apply below_alloc | apply pw_below_drewN | apply below_drew1) | exact HB.out))) : w.heap.size ≤ gb121)); have n3_ := Aside0.mk ((by rw [hg]; exact (below_size (by repeat (first | (with_reducible first | exact HB.out | apply below_alloc | apply pw_below_drewN | apply below_drew1) | exact HB.out))) : w.heap.size ≤ gb121)); clear HB; have HB := n0_; have BK121 := n1_; have GW121 := n2_; have GE121 := n3_; clear n0_ n1_ n2_ n3_; clear hb hbox hg) | ((with_reducible refine gate_dst (N := 4) rfl ?_); refine box_event ?hg (N := 4) ?hd (cs := #[.int .i64 0, .string (⟨#[]⟩ : ByteArray), .string (⟨#[]⟩ : ByteArray)]) (t := 48) ?hr ?_; (case hd => rfl); (case hg => rfl); (case hr => first | (go_simp; done) | (go_simp; rfl)); intro gb122 hg w5 hbox hb; have n0_ := Aside0.mk (blk_below (g := gb121) (o := .cells #[.int .i64 a0_0, .string a0_1, .string a0_2] 48 (0, 0)) (by (with_reducible repeat (first | refine blk_drewN ?_ _ | refine blk_drew ?_ | refine blk_alloc ?_ _)); exact BK121.out) hb); have n1_ := Aside0.mk (below_step (by repeat (first | (with_reducible first | exact HB.out | apply below_alloc | apply pw_below_drewN | apply below_drew1 | refine below_set ?_ GE121.out) | exact HB.out)) hb); have n2_ := Aside0.mk (hbox); have n3_ := Aside0.mk ((by rw [hg]; exact (below_size (by repeat (first | (with_reducible first | exact HB.out | apply below_alloc | apply pw_below_drewN | apply below_drew1 | refine below_set ?_ GE121.out) | exact HB.out))) : w.heap.size ≤ gb122)); have n4_ := Aside0.mk ((by rw [hg]; exact (below_size (by repeat (first | (with_reducible first | exact HB.out | apply below_alloc | apply pw_below_drewN | apply below_drew1 | refine below_set ?_ GE121.out) | exact HB.out))) : w.heap.size ≤ gb122)); have n5_ := Aside0.mk ((by rw [hg]; exact Nat.ne_of_lt (blk_lt (g := gb121) (o := .cells #[.int .i64 a0_0, .string a0_1, .string a0_2] 48 (0, 0)) (by (with_reducible repeat (first | refine blk_drewN ?_ _ | refine blk_drew ?_ | refine blk_alloc ?_ _)); exact BK121.out)) : gb121 ≠ gb122)); have n6_ := Aside0.mk ((by rw [hg]; exact Nat.ne_of_gt (blk_lt (g := gb121) (o := .cells #[.int .i64 a0_0, .string a0_1, .string a0_2] 48 (0, 0)) (by (with_reducible repeat (first | refine blk_drewN ?_ _ | refine blk_drew ?_ | refine blk_alloc ?_ _)); exact BK121.out)) : gb122 ≠ gb121)); clear BK121; clear HB; have BK121 := n0_; have HB := n1_; have BK122 := n2_; have GW122 := n3_; have GE122 := n4_; have NB121_122 := n5_; have NB122_121 := n6_; clear n0_ n1_ n2_ n3_ n4_ n5_ n6_; clear hb hbox hg; have hnb6 := NB121_122.out; have hnc6 := NB122_121.out; have hcz7_0 : w5.cell? ⟨gb121, 0, none⟩ = some (.int .i64 a0_0) := (blk_cell BK121.out 0).trans rfl; have hcz7_1 : w5.cell? ⟨gb121, 1, none⟩ = some (.string a0_1) := (blk_cell BK121.out 1).trans rfl; have hcz7_2 : w5.cell? ⟨gb121, 2, none⟩ = some (.string a0_2) := (blk_cell BK121.out 2).trans rfl; have hfz7_0 := blk_frozen BK121.out 0; have hfz7_1 := blk_frozen BK121.out 1; have hfz7_2 := blk_frozen BK121.out 2; have hcz8_0 : w5.cell? ⟨gb122, 0, none⟩ = some (.int .i64 0) := (blk_cell BK122.out 0).trans rfl; have hcz8_1 : w5.cell? ⟨gb122, 1, none⟩ = some (.string (⟨#[]⟩ : ByteArray)) := (blk_cell BK122.out 1).trans rfl; have hcz8_2 : w5.cell? ⟨gb122, 2, none⟩ = some (.string (⟨#[]⟩ : ByteArray)) := (blk_cell BK122.out 2).trans rfl; have hfz8_0 := blk_frozen BK122.out 0; have hfz8_1 := blk_frozen BK122.out 1; have hfz8_2 := blk_frozen BK122.out 2))
    refine bodyPost_ret (results_ct rfl _ _ gb122 48 #[.int .i64 a0_0, .string a0_1, .string a0_2] (0, 0) _ rfl (by (with_reducible repeat (first | refine blk_drewN ?_ _ | refine blk_drew ?_ | refine blk_alloc ?_ _)); refine blk_put (cs := #[.int .i64 a0_0, .string a0_1, .string (⟨#[]⟩ : ByteArray)]) ?_ 2 _ rfl; (with_reducible repeat (first | refine blk_drewN ?_ _ | refine blk_drew ?_ | refine blk_alloc ?_ _)); refine blk_put (cs := #[.int .i64 a0_0, .string (⟨#[]⟩ : ByteArray), .string (⟨#[]⟩ : ByteArray)]) ?_ 1 _ rfl; (with_reducible repeat (first | refine blk_drewN ?_ _ | refine blk_drew ?_ | refine blk_alloc ?_ _)); refine blk_put (cs := #[.int .i64 0, .string (⟨#[]⟩ : ByteArray), .string (⟨#[]⟩ : ByteArray)]) ?_ 0 _ rfl; (with_reducible repeat (first | refine blk_drewN ?_ _ | refine blk_drew ?_ | refine blk_alloc ?_ _)); exact BK122.out) Try.underlying48 rfl (by kernel_rfl)) rfl ?_
    exact ⟨by first | rfl | (simp [errW_none, errW_some] <;> rfl) | (simp [*, errW_none, errW_some] <;> rfl), by repeat (first | (with_reducible first | exact HB.out | apply below_alloc | apply pw_below_drewN | apply below_drew1 | refine below_set ?_ GE121.out | refine below_set ?_ GE122.out) | exact HB.out)⟩
  · rw [if_neg c3] at H
    have c3b0 : decide (a0_0 < (wrap64 ((wrap64 ((a0_1.size : Int) + (a0_2.size : Int))) + (a1.size : Int)))) = false := decide_eq_false c3
    clear c3
    by_cases c9 : a0_2.size + a1.size ≤ 9223372036854775807
    · rw [if_pos c9] at H
      have c9b0 := eq_true c9
      have c9b1 : decide (a0_2.size + a1.size ≤ 9223372036854775807) = true := decide_eq_true c9
      try have c9b2 : (9223372036854775807 < a0_2.size + a1.size) = False := eq_false (Nat.not_lt.2 c9)
      simp only [Option.some.injEq, Prod.mk.injEq] at H
      obtain ⟨rfl, rfl, rfl, rfl⟩ := H
      go_enter Try.func53, Try.ntmps53
      go_wp2_with (first | ((with_reducible refine gate_dst (N := 2) rfl ?_); refine box_event ?hg (N := 2) ?hd (cs := #[.int .i64 a0_0, .string a0_1, .string a0_2]) (t := 48) ?hr ?_; (case hd => rfl); (case hg => rfl); (case hr => first | (go_simp; done) | (go_simp; rfl)); intro gb121 hg w10 hbox hb; have n0_ := Aside0.mk (below_step (by repeat (first | (with_reducible first | exact HB.out | apply below_alloc | apply pw_below_drewN | apply below_drew1) | exact HB.out)) hb); have n1_ := Aside0.mk (hbox); have n2_ := Aside0.mk ((by rw [hg]; exact (below_size (by repeat (first | (with_reducible first | exact HB.out | apply below_alloc | apply pw_below_drewN | apply below_drew1) | exact HB.out))) : w.heap.size ≤ gb121)); have n3_ := Aside0.mk ((by rw [hg]; exact (below_size (by repeat (first | (with_reducible first | exact HB.out | apply below_alloc | apply pw_below_drewN | apply below_drew1) | exact HB.out))) : w.heap.size ≤ gb121)); clear HB; have HB := n0_; have BK121 := n1_; have GW121 := n2_; have GE121 := n3_; clear n0_ n1_ n2_ n3_; clear hb hbox hg) | ((with_reducible refine gate_dst (N := 4) rfl ?_); refine box_event ?hg (N := 4) ?hd (cs := #[.int .i64 0, .string (⟨#[]⟩ : ByteArray), .string (⟨#[]⟩ : ByteArray)]) (t := 48) ?hr ?_; (case hd => rfl); (case hg => rfl); (case hr => first | (go_simp; done) | (go_simp; rfl)); intro gb122 hg w11 hbox hb; have n0_ := Aside0.mk (blk_below (g := gb121) (o := .cells #[.int .i64 a0_0, .string a0_1, .string a0_2] 48 (0, 0)) (by (with_reducible repeat (first | refine blk_drewN ?_ _ | refine blk_drew ?_ | refine blk_alloc ?_ _)); exact BK121.out) hb); have n1_ := Aside0.mk (below_step (by repeat (first | (with_reducible first | exact HB.out | apply below_alloc | apply pw_below_drewN | apply below_drew1 | refine below_set ?_ GE121.out) | exact HB.out)) hb); have n2_ := Aside0.mk (hbox); have n3_ := Aside0.mk ((by rw [hg]; exact (below_size (by repeat (first | (with_reducible first | exact HB.out | apply below_alloc | apply pw_below_drewN | apply below_drew1 | refine below_set ?_ GE121.out) | exact HB.out))) : w.heap.size ≤ gb122)); have n4_ := Aside0.mk ((by rw [hg]; exact (below_size (by repeat (first | (with_reducible first | exact HB.out | apply below_alloc | apply pw_below_drewN | apply below_drew1 | refine below_set ?_ GE121.out) | exact HB.out))) : w.heap.size ≤ gb122)); have n5_ := Aside0.mk ((by rw [hg]; exact Nat.ne_of_lt (blk_lt (g := gb121) (o := .cells #[.int .i64 a0_0, .string a0_1, .string a0_2] 48 (0, 0)) (by (with_reducible repeat (first | refine blk_drewN ?_ _ | refine blk_drew ?_ | refine blk_alloc ?_ _)); exact BK121.out)) : gb121 ≠ gb122)); have n6_ := Aside0.mk ((by rw [hg]; exact Nat.ne_of_gt (blk_lt (g := gb121) (o := .cells #[.int .i64 a0_0, .string a0_1, .string a0_2] 48 (0, 0)) (by (with_reducible repeat (first | refine blk_drewN ?_ _ | refine blk_drew ?_ | refine blk_alloc ?_ _)); exact BK121.out)) : gb122 ≠ gb121)); clear BK121; clear HB; have BK121 := n0_; have HB := n1_; have BK122 := n2_; have GW122 := n3_; have GE122 := n4_; have NB121_122 := n5_; have NB122_121 := n6_; clear n0_ n1_ n2_ n3_ n4_ n5_ n6_; clear hb hbox hg; have hnb12 := NB121_122.out; have hnc12 := NB122_121.out; have hcz13_0 : w11.cell? ⟨gb121, 0, none⟩ = some (.int .i64 a0_0) := (blk_cell BK121.out 0).trans rfl; have hcz13_1 : w11.cell? ⟨gb121, 1, none⟩ = some (.string a0_1) := (blk_cell BK121.out 1).trans rfl; have hcz13_2 : w11.cell? ⟨gb121, 2, none⟩ = some (.string a0_2) := (blk_cell BK121.out 2).trans rfl; have hfz13_0 := blk_frozen BK121.out 0; have hfz13_1 := blk_frozen BK121.out 1; have hfz13_2 := blk_frozen BK121.out 2; have hcz14_0 : w11.cell? ⟨gb122, 0, none⟩ = some (.int .i64 0) := (blk_cell BK122.out 0).trans rfl; have hcz14_1 : w11.cell? ⟨gb122, 1, none⟩ = some (.string (⟨#[]⟩ : ByteArray)) := (blk_cell BK122.out 1).trans rfl; have hcz14_2 : w11.cell? ⟨gb122, 2, none⟩ = some (.string (⟨#[]⟩ : ByteArray)) := (blk_cell BK122.out 2).trans rfl; have hfz14_0 := blk_frozen BK122.out 0; have hfz14_1 := blk_frozen BK122.out 1; have hfz14_2 := blk_frozen BK122.out 2))
      refine bodyPost_ret (results_ct rfl _ _ gb122 48 #[.int .i64 a0_0, .string a0_1, .string (a0_2 ++ a1)] (0, 0) _ rfl (by (with_reducible repeat (first | refine blk_drewN ?_ _ | refine blk_drew ?_ | refine blk_alloc ?_ _)); refine blk_put (cs := #[.int .i64 a0_0, .string a0_1, .string (⟨#[]⟩ : ByteArray)]) ?_ 2 _ rfl; (with_reducible repeat (first | refine blk_drewN ?_ _ | refine blk_drew ?_ | refine blk_alloc ?_ _)); refine blk_put (cs := #[.int .i64 a0_0, .string (⟨#[]⟩ : ByteArray), .string (⟨#[]⟩ : ByteArray)]) ?_ 1 _ rfl; (with_reducible repeat (first | refine blk_drewN ?_ _ | refine blk_drew ?_ | refine blk_alloc ?_ _)); refine blk_put (cs := #[.int .i64 0, .string (⟨#[]⟩ : ByteArray), .string (⟨#[]⟩ : ByteArray)]) ?_ 0 _ rfl; (with_reducible repeat (first | refine blk_drewN ?_ _ | refine blk_drew ?_ | refine blk_alloc ?_ _)); refine blk_far ?_ NB122_121.out _; (with_reducible repeat (first | refine blk_drewN ?_ _ | refine blk_drew ?_ | refine blk_alloc ?_ _)); exact BK122.out) Try.underlying48 rfl (by kernel_rfl)) rfl ?_
      exact ⟨by first | rfl | (simp [errW_none, errW_some] <;> rfl) | (simp [*, errW_none, errW_some] <;> rfl), by repeat (first | (with_reducible first | exact HB.out | apply below_alloc | apply pw_below_drewN | apply below_drew1 | refine below_set ?_ GE121.out | refine below_set ?_ GE122.out) | exact HB.out)⟩
    · rw [if_neg c9] at H
      exact absurd H (by simp)

/-! ### pacesetterref05_Sync: function 54 -/
def pacesetterref05_Sync.f (a0_0 : Int) (a0_1 : ByteArray) (a0_2 : ByteArray) : Option (Int × ByteArray × ByteArray × Int) := if a0_1.size + a0_2.size ≤ 9223372036854775807 then (some (a0_0, a0_1 ++ a0_2, (⟨#[]⟩ : ByteArray), (a0_2.size : Int))) else (none)
set_option maxHeartbeats 8000000 in
set_option maxRecDepth 100000 in
theorem pacesetterref05_Sync.calls (a0_0 : Int) (a0_1 : ByteArray) (a0_2 : ByteArray) (r1 : Int) (r2 : ByteArray) (r3 : ByteArray) (r4 : Int) (w : World) (h : pacesetterref05_Sync.f a0_0 a0_1 a0_2 = some (r1, r2, r3, r4)) :
    Calls Try.prog 54 #[.agg #[.int .i64 a0_0, .string a0_1, .string a0_2]] w fun e w' => e = .returned (.tuple #[.agg #[.int .i64 r1, .string r2, .string r3], .int .i64 r4]) ∧ Below w.heap.size w w' := by
  have hu48 := Try.underlying48
  have HB := Aside0.mk (Below.refl w.heap.size w)
  have H : (if a0_1.size + a0_2.size ≤ 9223372036854775807 then (some (a0_0, a0_1 ++ a0_2, (⟨#[]⟩ : ByteArray), (a0_2.size : Int))) else (none)) = some (r1, r2, r3, r4) := h
  clear h
  by_cases c2 : a0_1.size + a0_2.size ≤ 9223372036854775807
  · rw [if_pos c2] at H
    have c2b0 := eq_true c2
    have c2b1 : decide (a0_1.size + a0_2.size ≤ 9223372036854775807) = true := decide_eq_true c2
    try have c2b2 : (9223372036854775807 < a0_1.size + a0_2.size) = False := eq_false (Nat.not_lt.2 c2)
    simp only [Option.some.injEq, Prod.mk.injEq] at H
    obtain ⟨rfl, rfl, rfl, rfl⟩ := H
    go_enter Try.func54, Try.ntmps54
    go_wp2_with (first | ((with_reducible refine gate_dst (N := 1) rfl ?_); refine box_event ?hg (N := 1) ?hd (cs := #[.int .i64 a0_0, .string a0_1, .string a0_2]) (t := 48) ?hr ?_; (case hd => rfl); (case hg => rfl); (case hr => first | (go_simp; done) | (go_simp; rfl)); intro gb123 hg w3 hbox hb; have n0_ := Aside0.mk (below_step (by repeat (first | (with_reducible first | exact HB.out | apply below_alloc | apply pw_below_drewN | apply below_drew1) | exact HB.out)) hb); have n1_ := Aside0.mk (hbox); have n2_ := Aside0.mk ((by rw [hg]; exact (below_size (by repeat (first | (with_reducible first | exact HB.out | apply below_alloc | apply pw_below_drewN | apply below_drew1) | exact HB.out))) : w.heap.size ≤ gb123)); have n3_ := Aside0.mk ((by rw [hg]; exact (below_size (by repeat (first | (with_reducible first | exact HB.out | apply below_alloc | apply pw_below_drewN | apply below_drew1) | exact HB.out))) : w.heap.size ≤ gb123)); clear HB; have HB := n0_; have BK123 := n1_; have GW123 := n2_; have GE123 := n3_; clear n0_ n1_ n2_ n3_; clear hb hbox hg) | ((with_reducible refine gate_dst (N := 2) rfl ?_); refine box_event ?hg (N := 2) ?hd (cs := #[.int .i64 0, .string (⟨#[]⟩ : ByteArray), .string (⟨#[]⟩ : ByteArray)]) (t := 48) ?hr ?_; (case hd => rfl); (case hg => rfl); (case hr => first | (go_simp; done) | (go_simp; rfl)); intro gb124 hg w4 hbox hb; have n0_ := Aside0.mk (blk_below (g := gb123) (o := .cells #[.int .i64 a0_0, .string a0_1, .string a0_2] 48 (0, 0)) (by (with_reducible repeat (first | refine blk_drewN ?_ _ | refine blk_drew ?_ | refine blk_alloc ?_ _)); exact BK123.out) hb); have n1_ := Aside0.mk (below_step (by repeat (first | (with_reducible first | exact HB.out | apply below_alloc | apply pw_below_drewN | apply below_drew1 | refine below_set ?_ GE123.out) | exact HB.out)) hb); have n2_ := Aside0.mk (hbox); have n3_ := Aside0.mk ((by rw [hg]; exact (below_size (by repeat (first | (with_reducible first | exact HB.out | apply below_alloc | apply pw_below_drewN | apply below_drew1 | refine below_set ?_ GE123.out) | exact HB.out))) : w.heap.size ≤ gb124)); have n4_ := Aside0.mk ((by rw [hg]; exact (below_size (by repeat (first | (with_reducible first | exact HB.out | apply below_alloc | apply pw_below_drewN | apply below_drew1 | refine below_set ?_ GE123.out) | exact HB.out))) : w.heap.size ≤ gb124)); have n5_ := Aside0.mk ((by rw [hg]; exact Nat.ne_of_lt (blk_lt (g := gb123) (o := .cells #[.int .i64 a0_0, .string a0_1, .string a0_2] 48 (0, 0)) (by (with_reducible repeat (first | refine blk_drewN ?_ _ | refine blk_drew ?_ | refine blk_alloc ?_ _)); exact BK123.out)) : gb123 ≠ gb124)); have n6_ := Aside0.mk ((by rw [hg]; exact Nat.ne_of_gt (blk_lt (g := gb123) (o := .cells #[.int .i64 a0_0, .string a0_1, .string a0_2] 48 (0, 0)) (by (with_reducible repeat (first | refine blk_drewN ?_ _ | refine blk_drew ?_ | refine blk_alloc ?_ _)); exact BK123.out)) : gb124 ≠ gb123)); clear BK123; clear HB; have BK123 := n0_; have HB := n1_; have BK124 := n2_; have GW124 := n3_; have GE124 := n4_; have NB123_124 := n5_; have NB124_123 := n6_; clear n0_ n1_ n2_ n3_ n4_ n5_ n6_; clear hb hbox hg; have hnb5 := NB123_124.out; have hnc5 := NB124_123.out; have hcz6_0 : w4.cell? ⟨gb123, 0, none⟩ = some (.int .i64 a0_0) := (blk_cell BK123.out 0).trans rfl; have hcz6_1 : w4.cell? ⟨gb123, 1, none⟩ = some (.string a0_1) := (blk_cell BK123.out 1).trans rfl; have hcz6_2 : w4.cell? ⟨gb123, 2, none⟩ = some (.string a0_2) := (blk_cell BK123.out 2).trans rfl; have hfz6_0 := blk_frozen BK123.out 0; have hfz6_1 := blk_frozen BK123.out 1; have hfz6_2 := blk_frozen BK123.out 2; have hcz7_0 : w4.cell? ⟨gb124, 0, none⟩ = some (.int .i64 0) := (blk_cell BK124.out 0).trans rfl; have hcz7_1 : w4.cell? ⟨gb124, 1, none⟩ = some (.string (⟨#[]⟩ : ByteArray)) := (blk_cell BK124.out 1).trans rfl; have hcz7_2 : w4.cell? ⟨gb124, 2, none⟩ = some (.string (⟨#[]⟩ : ByteArray)) := (blk_cell BK124.out 2).trans rfl; have hfz7_0 := blk_frozen BK124.out 0; have hfz7_1 := blk_frozen BK124.out 1; have hfz7_2 := blk_frozen BK124.out 2))
    refine bodyPost_ret (results_ct rfl _ _ gb124 48 #[.int .i64 a0_0, .string (a0_1 ++ a0_2), .string (⟨#[]⟩ : ByteArray)] (0, 0) _ rfl (by (with_reducible repeat (first | refine blk_drewN ?_ _ | refine blk_drew ?_ | refine blk_alloc ?_ _)); refine blk_put (cs := #[.int .i64 a0_0, .string (a0_1 ++ a0_2), .string (⟨#[]⟩ : ByteArray)]) ?_ 2 _ rfl; (with_reducible repeat (first | refine blk_drewN ?_ _ | refine blk_drew ?_ | refine blk_alloc ?_ _)); refine blk_put (cs := #[.int .i64 a0_0, .string (⟨#[]⟩ : ByteArray), .string (⟨#[]⟩ : ByteArray)]) ?_ 1 _ rfl; (with_reducible repeat (first | refine blk_drewN ?_ _ | refine blk_drew ?_ | refine blk_alloc ?_ _)); refine blk_put (cs := #[.int .i64 0, .string (⟨#[]⟩ : ByteArray), .string (⟨#[]⟩ : ByteArray)]) ?_ 0 _ rfl; (with_reducible repeat (first | refine blk_drewN ?_ _ | refine blk_drew ?_ | refine blk_alloc ?_ _)); refine blk_far ?_ NB124_123.out _; (with_reducible repeat (first | refine blk_drewN ?_ _ | refine blk_drew ?_ | refine blk_alloc ?_ _)); refine blk_far ?_ NB124_123.out _; (with_reducible repeat (first | refine blk_drewN ?_ _ | refine blk_drew ?_ | refine blk_alloc ?_ _)); exact BK124.out) Try.underlying48 rfl (by kernel_rfl)) rfl ?_
    exact ⟨by first | rfl | (simp [errW_none, errW_some] <;> rfl) | (simp [*, errW_none, errW_some] <;> rfl), by repeat (first | (with_reducible first | exact HB.out | apply below_alloc | apply pw_below_drewN | apply below_drew1 | refine below_set ?_ GE123.out | refine below_set ?_ GE124.out) | exact HB.out)⟩
  · rw [if_neg c2] at H
    exact absurd H (by simp)

end Go.Proofs.Ytbcienbnhchdeaa.PrD

/- What came in, opened: a row of bytes; two whole numbers in an array; a row of rows of bytes is told in HandO. -/
namespace Go.Proofs.Ytbcienbnhchdeaa.Hand
open Go Go.RowKit Go.Deep Go.ChangeShapes Go.Proofs.YtbcienbnhchdeaaW.PrintWords
set_option linter.unusedVariables false
theorem okB_of_wf {zs : List Int} (h : ∀ n ∈ zs, (Lit.int .u8 n).wf = true) : okB zs = true := by
  unfold okB
  rw [List.all_eq_true]
  intro n hn
  have h1 := h n hn
  simp only [Lit.wf, Bool.and_eq_true, decide_eq_true_eq] at h1
  have e1 : IntKind.u8.min = 0 := by decide
  have e2 : IntKind.u8.max = 255 := by decide
  simp
  omega
theorem open_bytes {H : Type} {enc : TypeId × Value → H} {w : World} {base : Nat} {held : Bool} {fuel : Nat} {a : Option Addr} {len cap : Nat} {x : DataW H × List MemPlace}
    (h : DataW.trod enc Try.prog w base (fun _ => true) held fuel 22 (Value.slice a len cap).cells.toList = some x) :
    ∃ zs : List Int, zs.length = len ∧ len ≤ cap ∧ Kd.C (Kd.int .u8) w a len zs ∧ okB zs = true := by
  rcases open_ints Try.underlying22 Try.underlying5 (by kernel_rfl) h with ⟨hcs, _⟩ | ⟨ad, l, c, zs, hcs, _, hl, hm, hz, _, hcell, hwz⟩
  · simp [Value.cells] at hcs
    obtain ⟨rfl, rfl, rfl⟩ := hcs
    exact ⟨[], rfl, Nat.le_refl _, Kd.C_nil _ _, rfl⟩
  · simp [Value.cells] at hcs
    obtain ⟨rfl, rfl, rfl⟩ := hcs
    have hml : maxLen ≤ 9223372036854775807 := by decide
    have hzc : zs.length = cap := by simpa using hz
    have hlen : (zs.take len).length = len := by rw [List.length_take]; omega
    refine ⟨zs.take len, hlen, hl, Kd.C_of_reads (enc := Value.int .u8) (d := (0 : Int)) (h1 := fun _ => rfl) ⟨hlen, by omega, fun _ => ⟨_, rfl, fun j hj => ?_⟩⟩, okB_of_wf fun n hn => hwz n (List.mem_of_mem_take hn)⟩
    rw [hcell j (by omega)]
    simp [List.getD_eq_getElem?_getD, hj]
set_option maxRecDepth 100000 in
/-- An array of two whole numbers. -/
theorem open_two {H : Type} {enc : TypeId × Value → H} {W : World} {base b0 : Nat} {held : Bool} {fuel : Nat} {sp : Nat → Bool} {v : Value} {x : DataW H × List MemPlace}
    (hv : Value.okWide Try.prog W .any b0 36 v) (h : DataW.trod enc Try.prog W base sp held fuel 36 v.cells.toList = some x) :
    ∃ x y : Int, v = .agg #[.int .i64 x, .int .i64 y] ∧ (Lit.int .i64 x).wf = true ∧ (Lit.int .i64 y).wf = true := by
  have hc36 : Try.prog.cellsOf 36 = 2 := by kernel_rfl
  have hc3 : Try.prog.cellsOf 3 = 1 := by kernel_rfl
  obtain ⟨cs, rfl⟩ : ∃ cs, v = .agg cs := by
    simp only [Value.okWide, Try.underlying36] at hv
    obtain ⟨cs, h1, _⟩ := hv
    exact ⟨cs, h1⟩
  obtain ⟨xs, m, _, _, hl, hxs, hall⟩ := DataW.trod_array Try.underlying36 h
  have h0 := hall 0 (by omega)
  have h1 := hall 1 (by omega)
  rw [List.getElem?_eq_getElem (by omega)] at h0 h1
  obtain ⟨a, ha, _, wa⟩ := DataW.trod_int Try.underlying3 h0
  obtain ⟨b, hb, _, wb⟩ := DataW.trod_int Try.underlying3 h1
  refine ⟨a, b, ?_, wa, wb⟩
  simp only [Value.cells] at ha hb hl
  rw [hc3] at ha hb
  have hl2 : cs.toList.length = 2 := hl.trans hc36
  have hcs : cs = cs.toList.toArray := by simp
  match hcl : cs.toList, hl2 with
  | [p, q], _ =>
    rw [hcl] at ha hb
    simp at ha hb
    subst ha hb
    exact congrArg Value.agg (hcs.trans (by rw [hcl]))

end Go.Proofs.Ytbcienbnhchdeaa.Hand

/- The steps of a script: the first ones; what came in, opened. -/
namespace Go.Proofs.Ytbcienbnhchdeaa.Hand
open Go Go.RowKit Go.Deep Go.ChangeShapes Go.Proofs.YtbcienbnhchdeaaW.PrintWords Go.Proofs.YtbcienbnhchdeaaW.PrintMore PrD
set_option linter.unusedVariables false

def okS5 (z : S52) : Prop := okB z.f2 = true
def cut5 (z : S52) : S52 := ⟨z.f0, z.f1, z.f2.take 40⟩
def early5 (l : List S52) : List S52 := (l.take 80).map cut5
theorem early5_ok {l : List S52} (h : ∀ z ∈ l, okS5 z) : ∀ z ∈ early5 l, okB z.f2 = true ∧ z.f2.length ≤ 40 := by
  intro z hz
  obtain ⟨y, hy, rfl⟩ := List.mem_map.1 hz
  have h1 := h y (List.mem_of_mem_take hy)
  refine ⟨?_, by show (y.f2.take 40).length ≤ 40; rw [List.length_take]; omega⟩
  unfold okS5 okB at h1
  show okB (y.f2.take 40) = true
  unfold okB
  rw [List.all_eq_true] at h1 ⊢
  exact fun x hx => h1 x (List.mem_of_mem_take hx)
theorem early5_len (l : List S52) : (early5 l).length ≤ 80 := by
  unfold early5
  rw [List.length_map, List.length_take]
  omega
theorem early5_l0 {l : List S52} (hl : l.length ≤ 9223372036854775807) : ∀ (m n k : Nat), n + m = min l.length 80 → m + 1 ≤ k →
    pacesetterlaw05_early.l0 k l ((l.take n).map cut5) (n : Int) = some (early5 l) := by
  intro m
  induction m with
  | zero =>
    intro n k hn hk
    obtain ⟨k, rfl⟩ : ∃ j, k = j + 1 := ⟨k - 1, by omega⟩
    have e : (l.take n).map cut5 = early5 l := by
      unfold early5
      congr 1
      by_cases h : l.length ≤ 80
      · rw [List.take_of_length_le (by omega), List.take_of_length_le (by omega)]
      · congr 1
        omega
    rw [pacesetterlaw05_early.l0, e]
    by_cases c : (n : Int) < (l.length : Int)
    · rw [if_pos c, if_neg (by omega)]
    · rw [if_neg c]
  | succ m ih =>
    intro n k hn hk
    obtain ⟨k, rfl⟩ : ∃ j, k = j + 1 := ⟨k - 1, by omega⟩
    have hlt : n < l.length := by omega
    have hx : rd_T52 l (n : Int) = l[n] := by
      unfold rd_T52
      rw [Int.toNat_natCast, List.getD_eq_getElem?_getD, List.getElem?_eq_getElem hlt]
      rfl
    have hmn : mn ((l[n].f2).length : Int) 40 = ((min (l[n].f2).length 40 : Nat) : Int) := by unfold mn; split <;> omega
    have hw : wrap64 ((n : Int) + 1) = ((n + 1 : Nat) : Int) := by unfold wrap64; omega
    have c1 : (n : Int) < (l.length : Int) := by omega
    have c2 : (n : Int) < 80 := by omega
    have c3 : (0 : Int) ≤ (n : Int) := by omega
    have c4 : (0 : Int) ≤ ((min (l[n].f2).length 40 : Nat) : Int) := by omega
    have c5 : ((min (l[n].f2).length 40 : Nat) : Int) ≤ ((l[n].f2).length : Int) := by omega
    have c6 : ((l.take n).map cut5).length < 3518437208883 := by rw [List.length_map, List.length_take]; omega
    have ht : (l[n].f2).take (min (l[n].f2).length 40) = (l[n].f2).take 40 := by
      by_cases h : (l[n].f2).length ≤ 40
      · rw [List.take_of_length_le (by omega), List.take_of_length_le (by omega)]
      · congr 1
        omega
    rw [pacesetterlaw05_early.l0, if_pos c1, if_pos c2, if_pos c3, hx, hmn, if_pos c4, if_pos c5, if_pos c6, Int.toNat_natCast, ht, hw]
    have e : (l.take n).map cut5 ++ [(⟨l[n].f0, l[n].f1, (l[n].f2).take 40⟩ : S52)] = (l.take (n + 1)).map cut5 := by
      rw [List.take_succ_eq_append_getElem hlt, List.map_append]
      rfl
    rw [e]
    exact ih (n + 1) k (by omega) (by omega)
theorem early5_f {l : List S52} (hl : l.length ≤ 9223372036854775807) : pacesetterlaw05_early.f 81 l = some (early5 l) := by
  unfold pacesetterlaw05_early.f
  exact early5_l0 hl (min l.length 80) 0 81 (by omega) (by omega)
theorem early5_any (P : Nat → Prop) (A : Option Addr) (c : Nat) (l : List S52) (w : World) (h : Kd.V k52 52 w w.heap.size P (.slice A l.length c) l) :
    Calls Try.prog 51 #[.slice A l.length c] w fun e w' => ∃ A' c', e = .returned (.slice A' (early5 l).length c') ∧ Kd.V k52 52 w' 0 (fun k => (P k ∨ w.heap.size ≤ k) ∧ k < w'.heap.size) (.slice A' (early5 l).length c') (early5 l) ∧ Below w.heap.size w w' := by
  refine (pacesetterlaw05_early.calls 81 P A c l (early5 l) w h (early5_f (Kd.V_reads' h).2.2.2.1)).mono fun e w' ⟨v, he, hN, hb⟩ => ?_
  have hV := Kd.V_bound (Kd.N_V (base' := 0) hN)
  obtain ⟨A', c', rfl⟩ := Kd.V_slice hV
  exact ⟨A', c', he, hV, hb⟩
theorem heap52 : Kd.Heap k52 := Kd.heap_iso _ (Kd.heap_pair (Kd.heap_int _) (Kd.heap_pair (Kd.heap_int _) (Kd.heap_slice 5 (Kd.heap_int _))))
/-- A script that came in. -/
theorem steps_V {w : World} {A : Option Addr} {c : Nat} {l : List S52} (h : Kd.C k52 w A l.length l) (hc : l.length ≤ c) : Kd.V k52 52 w w.heap.size (fun k => k < w.heap.size) (.slice A l.length c) l :=
  Kd.V_mk hc (Kd.C_F heap52 h)
/-- A step of a script, read: its cells, and its bytes. -/
theorem step_at {w : World} {ok : Nat → Prop} {A : Option Addr} {c : Nat} {l : List S52} (h : Kd.V k52 52 w 0 ok (.slice A l.length c) l) {n : Nat} (hn : n < l.length) :
    ∃ ad A2 c2, A = some ad ∧ w.cell? (ad.add (n * 3)) = some (.int .i64 (l[n]'hn).f0) ∧ w.cell? (ad.add (n * 3 + 1)) = some (.int .i64 (l[n]'hn).f1) ∧ w.cell? (ad.add (n * 3 + 2)) = some (.slice A2 (l[n]'hn).f2.length c2) ∧ (l[n]'hn).f2.length ≤ c2 ∧ Kd.C (Kd.int .u8) w A2 (l[n]'hn).f2.length (l[n]'hn).f2 := by
  have hC := (Kd.V_reads' h).2.2
  obtain ⟨ad, e, hc⟩ := hC.2.2 (by omega)
  obtain ⟨cs, hl, hK, hcell⟩ := hc n (l[n]'hn) (List.getElem?_eq_getElem hn)
  obtain ⟨A2, c2, rfl, h1, h2⟩ := k52_open hK
  have h3 : k52.sz = 3 := rfl
  rw [h3] at hcell
  exact ⟨ad, A2, c2, e, hcell 0 _ rfl, hcell 1 _ rfl, hcell 2 _ rfl, h1, h2⟩
theorem add_add (a : Addr) (i j : Nat) : (a.add i).add j = a.add (i + j) := Go.Deep.add_add a i j
instance inh52 : Inhabited S52 := ⟨z52⟩
theorem cells52 : Try.prog.cellsOf 52 = 3 := by kernel_rfl
theorem cells22 : Try.prog.cellsOf 22 = 1 := by kernel_rfl
theorem cells3 : Try.prog.cellsOf 3 = 1 := by kernel_rfl
set_option maxRecDepth 100000 in
/-- One step, opened. -/
theorem open_step5 {H : Type} {enc : TypeId × Value → H} {w : World} {base : Nat} {held : Bool} {fuel : Nat} {cs : List Value} {x : DataW H × List MemPlace}
    (h : DataW.trod enc Try.prog w base (fun _ => true) held fuel 52 cs = some x) : ∃ z : S52, k52.K w z cs ∧ okS5 z := by
  obtain ⟨xs, m, _, _, hl, hxs, hall⟩ := DataW.trod_struct Try.underlying52 h
  have hl3 : cs.length = 3 := hl.trans cells52
  have h0 := hall 0 _ rfl
  have h1 := hall 1 _ rfl
  have h2 := hall 2 _ rfl
  have hxl : xs.length = 3 := hxs
  rw [List.getElem?_eq_getElem (by omega)] at h0 h1 h2
  obtain ⟨a, ha, _, _⟩ := DataW.trod_int Try.underlying3 h0
  obtain ⟨b, hb, _, _⟩ := DataW.trod_int Try.underlying3 h1
  match cs, hl3 with
  | [p, q, r], _ =>
    have e2 : ([p, q, r].drop 2).take (Try.prog.cellsOf 22) = [r] := by rw [cells22]; rfl
    have h2' : DataW.trod enc Try.prog w base (fun _ => true) held m 22 [r] = some xs[2] := by rw [← e2]; exact h2
    have hr : ∃ A n c, r = .slice A n c := by
      rcases open_ints Try.underlying22 Try.underlying5 (by kernel_rfl) h2' with ⟨hcs, _⟩ | ⟨ad, l, c, zs, hcs, _⟩
      · exact ⟨_, _, _, (List.cons.inj hcs).1⟩
      · exact ⟨_, _, _, (List.cons.inj hcs).1⟩
    obtain ⟨A2, n2, c2, rfl⟩ := hr
    obtain ⟨zs, hz1, hz2, hz3, hz4⟩ := open_bytes (a := A2) (len := n2) (cap := c2) h2'
    subst hz1
    have ep : p = .int .i64 a := by
      have e : ([p, q, Value.slice A2 zs.length c2].drop 0).take (Try.prog.cellsOf 3) = [p] := by rw [cells3]; rfl
      exact (List.cons.inj (e.symm.trans ha)).1
    have eq : q = .int .i64 b := by
      have e : ([p, q, Value.slice A2 zs.length c2].drop 1).take (Try.prog.cellsOf 3) = [q] := by rw [cells3]; rfl
      exact (List.cons.inj (e.symm.trans hb)).1
    subst ep eq
    exact ⟨⟨a, b, zs⟩, ⟨[.int .i64 a], [.int .i64 b, .slice A2 zs.length c2], rfl, rfl, ⟨[.int .i64 b], [.slice A2 zs.length c2], rfl, rfl, ⟨A2, c2, rfl, hz2, hz3⟩⟩⟩, hz4⟩
theorem open_steps5 {H : Type} {enc : TypeId × Value → H} {w : World} {base : Nat} {held : Bool} {fuel : Nat} {a : Option Addr} {len cap : Nat} {x : DataW H × List MemPlace}
    (h : DataW.trod enc Try.prog w base (fun _ => true) held fuel 46 (Value.slice a len cap).cells.toList = some x) :
    ∃ zs : List S52, zs.length = len ∧ len ≤ cap ∧ Kd.C k52 w a len zs ∧ ∀ z ∈ zs, okS5 z := by
  rcases open_slice Try.underlying46 h with ⟨hcs, _⟩ | ⟨ad, l, c, m, n, D, Pl, hcs, _, hl, hm, hmm, _, hi⟩
  · simp [Value.cells] at hcs
    obtain ⟨rfl, rfl, rfl⟩ := hcs
    exact ⟨[], rfl, Nat.le_refl _, Kd.C_nil _ _, by simp⟩
  · simp [Value.cells] at hcs
    obtain ⟨rfl, rfl, rfl⟩ := hcs
    have hml : maxLen ≤ 9223372036854775807 := by decide
    have hmc : m = cap := by simpa using hmm
    obtain ⟨Z, hZ⟩ := choose_lt (α := S52) (n := len) (p := fun i z => okS5 z ∧ ∃ cs, cs.length = 3 ∧ k52.K w z cs ∧ ∀ j u, cs[j]? = some u → w.cell? (ad.add (i * 3 + j)) = some u) (fun i hlt => by
      obtain ⟨cs', h1, h2⟩ := hi i (by omega)
      rw [cells52] at h1
      obtain ⟨_, hlen, hcell⟩ := World.cells?_some h1
      obtain ⟨z, hz1, hz2⟩ := open_step5 h2
      refine ⟨z, hz2, cs', hlen, hz1, fun j u hu => ?_⟩
      have hj : j < 3 := by
        have := (List.getElem?_eq_some_iff.1 hu).1
        omega
      rw [← add_add, hcell j hj, hu])
    have hlz : ((List.range len).map Z).length = len := by simp
    refine ⟨(List.range len).map Z, hlz, hl, ⟨hlz, by omega, fun _ => ⟨ad, rfl, fun j p hj => ?_⟩⟩, ?_⟩
    · have hjl : j < len := by
        have := (List.getElem?_eq_some_iff.1 hj).1
        omega
      have hp : Z j = p := by
        rw [List.getElem?_map, List.getElem?_range hjl] at hj
        simpa using hj
      subst hp
      obtain ⟨_, cs, h1, h2, h3⟩ := hZ j hjl
      exact ⟨cs, h1, h2, h3⟩
    · intro z hz
      obtain ⟨i, hi', rfl⟩ := List.mem_map.1 hz
      exact (hZ i (List.mem_range.1 hi')).1
end Go.Proofs.Ytbcienbnhchdeaa.Hand

/- A row of rows of bytes that came in, opened. -/
namespace Go.Proofs.Ytbcienbnhchdeaa.Hand
open Go Go.RowKit Go.Deep Go.Proofs.YtbcienbnhchdeaaW.PrintWords
theorem open_rows {H : Type} {enc : TypeId × Value → H} {w : World} {base : Nat} {held : Bool} {fuel : Nat} {a : Option Addr} {len cap : Nat} {x : DataW H × List MemPlace}
    (h : DataW.trod enc Try.prog w base (fun _ => true) held fuel 65 (Value.slice a len cap).cells.toList = some x) :
    ∃ zs : List (List Int), zs.length = len ∧ len ≤ cap ∧ Kd.C (Kd.slice 5 (Kd.int .u8)) w a len zs ∧ ∀ z ∈ zs, okB z = true := by
  rcases open_int_rows Try.underlying65 Try.underlying22 Try.underlying5 (by kernel_rfl) (by kernel_rfl) h with ⟨hcs, _⟩ | ⟨ad, l, c, A, L, C, Z, hcs, _, hl, hm, _, hr⟩
  · simp [Value.cells] at hcs
    obtain ⟨rfl, rfl, rfl⟩ := hcs
    exact ⟨[], rfl, Nat.le_refl _, Kd.C_nil _ _, by simp⟩
  · simp [Value.cells] at hcs
    obtain ⟨rfl, rfl, rfl⟩ := hcs
    have hml : maxLen ≤ 9223372036854775807 := by decide
    refine ⟨(List.range len).map fun r => (Z r).take (L r), by simp, hl, ?_, ?_⟩
    · refine ⟨by simp, by omega, fun _ => ⟨ad, rfl, ?_⟩⟩
      intro j p hj
      have hjl : j < len := by
        have := (List.getElem?_eq_some_iff.1 hj).1
        simpa using this
      have hp : (Z j).take (L j) = p := by
        rw [List.getElem?_map, List.getElem?_range hjl] at hj
        simpa using hj
      subst hp
      obtain ⟨h1, h2, h3, h4, h5, h6, h7⟩ := hr j (by omega)
      have hlen : ((Z j).take (L j)).length = L j := by rw [List.length_take]; omega
      refine ⟨[.slice (A j) (L j) (C j)], rfl, ⟨A j, C j, by rw [hlen], by omega, ?_⟩, ?_⟩
      · refine ⟨rfl, by omega, ?_⟩
        intro h0
        rw [hlen] at h0
        cases hA : A j with
        | none => have := h6 hA; omega
        | some a' =>
          refine ⟨a', rfl, ?_⟩
          intro i q hi
          have hil : i < ((Z j).take (L j)).length := (List.getElem?_eq_some_iff.1 hi).1
          rw [hlen] at hil
          refine ⟨[.int .u8 q], rfl, rfl, ?_⟩
          intro i' u hu
          have hi' : i' = 0 := by
            have := (List.getElem?_eq_some_iff.1 hu).1
            simpa using this
          subst hi'
          have hu' : u = .int .u8 q := by simpa using hu.symm
          subst hu'
          have h8 := (h7 a' hA).2 i (by omega)
          have hq : (Z j).getD i 0 = q := by
            rw [List.getElem?_take_of_lt hil] at hi
            rw [List.getD_eq_getElem?_getD, hi]
            rfl
          rw [hq] at h8
          have e : i * (Kd.int .u8).sz + 0 = i := by show i * 1 + 0 = i; omega
          rw [e]
          exact h8
      · intro i' u hu
        have hi' : i' = 0 := by
          have := (List.getElem?_eq_some_iff.1 hu).1
          simpa using this
        subst hi'
        have hu' : u = .slice (A j) (L j) (C j) := by simpa using hu.symm
        subst hu'
        have e : j * (Kd.slice 5 (Kd.int .u8)).sz + 0 = j := by show j * 1 + 0 = j; omega
        rw [e]
        exact h1
    · intro z hz
      obtain ⟨r, hr', rfl⟩ := List.mem_map.1 hz
      obtain ⟨_, _, _, _, h5, _, _⟩ := hr r (by have := List.mem_range.1 hr'; omega)
      unfold okB
      rw [List.all_eq_true]
      intro n hn
      have h1 := h5 n (List.mem_of_mem_take hn)
      simp only [Lit.wf, Bool.and_eq_true, decide_eq_true_eq] at h1
      have e1 : IntKind.u8.min = 0 := by decide
      have e2 : IntKind.u8.max = 255 := by decide
      simp
      omega
end Go.Proofs.Ytbcienbnhchdeaa.Hand

/- A row of bytes of the call's own whose capacity may be less than its block: read, cut, appended to. -/
namespace Go.Proofs.Ytbcienbnhchdeaa.Hand
open Go Go.RowKit Go.Proofs.YtbcienbnhchdeaaW.PrintWords
set_option linter.unusedVariables false

/-- v is nil and empty, or it begins a block of bytes (ok) in which it may write up to its capacity. -/
def BRow (w : World) (ok : Nat → Prop) (v : Value) (xs : List Int) : Prop :=
  (v = .slice none 0 0 ∧ xs = []) ∨ ∃ k cap cur, v = .slice (some ⟨k, 0, none⟩) xs.length cap ∧ ok k ∧ w.heap[k]? = some (.cells cur 5 (0, 0)) ∧ xs.length ≤ cap ∧ cap ≤ cur.size ∧ cap ≤ maxLen ∧ cur.toList.take xs.length = xs.map (Value.int .u8)

section
variable {w w1 : World} {ok ok' : Nat → Prop} {v : Value} {xs : List Int}
theorem B_nil (w : World) (ok : Nat → Prop) : BRow w ok (.slice none 0 0) [] := .inl ⟨rfl, rfl⟩
theorem B_mono (h : BRow w ok v xs) (hok : ∀ k, ok k → ok' k) : BRow w ok' v xs := by
  rcases h with h | ⟨k, cap, cur, h1, h2, h3⟩
  · exact .inl h
  · exact .inr ⟨k, cap, cur, h1, hok k h2, h3⟩
theorem B_bound (h : BRow w ok v xs) : BRow w (fun k => ok k ∧ k < w.heap.size ∧ ∃ cells, w.heap[k]? = some (.cells cells 5 (0, 0))) v xs := by
  rcases h with h | ⟨k, cap, cur, h1, h2, h3, h4⟩
  · exact .inl h
  · exact .inr ⟨k, cap, cur, h1, ⟨h2, blk_lt h3, cur, h3⟩, h3, h4⟩
theorem B_move (h : BRow w ok v xs) (hm : ∀ k, ok k → w1.heap[k]? = w.heap[k]?) : BRow w1 ok v xs := by
  rcases h with h | ⟨k, cap, cur, h1, h2, h3, h4⟩
  · exact .inl h
  · exact .inr ⟨k, cap, cur, h1, h2, (hm k h2).trans h3, h4⟩
theorem B_step (h : BRow w ok v xs) (hm : ∀ k, ok k → k < w.heap.size → w1.heap[k]? = w.heap[k]?) : BRow w1 ok v xs :=
  B_mono (B_move (B_bound h) (fun k hk => hm k hk.1 hk.2.1)) (fun k hk => hk.1)
theorem B_below (h : BRow w ok v xs) (hb : Below w.heap.size w w1) : BRow w1 ok v xs := B_step h (fun k _ hk => hb.block k hk)
theorem B_alloc (h : BRow w ok v xs) (o : Obj) : BRow (w.alloc o) ok v xs := B_below h (below_alloc (Below.refl _ _) o)
theorem B_kept (h : BRow w ok v xs) {S : Nat → Prop} (hk : Kept w w1 S) (hne : ∀ k, ok k → ¬ S k) : BRow w1 ok v xs := B_step h (fun k ho hlt => hk.2 k hlt (hne k ho))
theorem B_ok (h : BRow w ok v xs) : ∀ k, v.ownBlock = some k → ok k ∧ k < w.heap.size ∧ ∃ cells, w.heap[k]? = some (.cells cells 5 (0, 0)) := by
  intro k hk
  rcases h with ⟨rfl, _⟩ | ⟨k', cap, cur, rfl, h2, h3, h4⟩
  · simp [Value.ownBlock] at hk
  · obtain rfl : k' = k := by simpa [Value.ownBlock] using hk
    exact ⟨h2, blk_lt h3, cur, h3⟩
/-- Told of its own block alone. -/
theorem B_tight (h : BRow w ok v xs) : BRow w (fun k => v.ownBlock = some k) v xs := by
  rcases h with ⟨rfl, rfl⟩ | ⟨k', cap, cur, rfl, h2, h3⟩
  · exact B_nil _ _
  · exact .inr ⟨k', cap, cur, rfl, by simp [Value.ownBlock], h3⟩
/-- A store into a block of another type. -/
theorem B_set (h : BRow w ok v xs) {g t : Nat} {cells : Array Value} (hb : w.heap[g]? = some (.cells cells t (0, 0))) (ht : 5 ≠ t) (j : Nat) (u : Value) : BRow (w.setCell ⟨g, j, none⟩ u) ok v xs := by
  refine B_step (B_bound h) (fun k hk _ => ?_) |> fun h' => B_mono h' (fun k hk => hk.1)
  obtain ⟨_, _, c, hc⟩ := hk
  exact Below.heap_setCell w _ u k (fun e => blk_ne hc hb ht e)
theorem B_C (h : BRow w ok v xs) : ∃ A c, v = .slice A xs.length c ∧ xs.length ≤ c ∧ Kd.C (Kd.int .u8) w A xs.length xs := by
  rcases h with ⟨rfl, rfl⟩ | ⟨k, cap, cur, rfl, h2, h3, h4, h5, h6, h7⟩
  · exact ⟨none, 0, rfl, Nat.le_refl _, Kd.C_nil _ _⟩
  · refine ⟨_, cap, rfl, h4, rfl, ?_, fun hn => ⟨_, rfl, fun j p hj => ⟨[.int .u8 p], rfl, rfl, fun i u hu => ?_⟩⟩⟩
    · simp only [maxLen] at h6
      omega
    · match i, hu with
      | 0, hu =>
        obtain rfl : Value.int .u8 p = u := by simpa using hu
        have hjl : j < xs.length := (List.getElem?_eq_some_iff.1 hj).1
        have e : j * (Kd.int .u8).sz + 0 = j := by show j * 1 + 0 = j; omega
        rw [e, add_plain, cell_of_row w k _ cur 5 (0, 0) h3]
        have h8 : (cur.toList.take xs.length)[j]? = some (Value.int .u8 p) := by rw [h7, List.getElem?_map, hj]; rfl
        rw [List.getElem?_take_of_lt hjl] at h8
        simpa using h8
theorem B_C' {A : Option Addr} {n c : Nat} (h : BRow w ok (.slice A n c) xs) : n = xs.length ∧ n ≤ c ∧ Kd.C (Kd.int .u8) w A xs.length xs := by
  obtain ⟨A', c', e, hl, hC⟩ := B_C h
  injection e with e1 e2 e3
  subst e1; subst e2; subst e3
  exact ⟨rfl, hl, hC⟩
/-- 'xs[:m:m]'. -/
theorem B_cut {A : Option Addr} {n c m : Nat} (h : BRow w ok (.slice A n c) xs) (hm : m ≤ xs.length) : BRow w ok (.slice A m m) (xs.take m) := by
  rcases h with ⟨e, rfl⟩ | ⟨k, cap, cur, e, h2, h3, h4, h5, h6, h7⟩
  · injection e with e1 e2 e3
    subst e1; subst e2; subst e3
    obtain rfl : m = 0 := by simpa using hm
    exact .inl ⟨rfl, rfl⟩
  · injection e with e1 e2 e3
    subst e1; subst e2; subst e3
    have hl : (xs.take m).length = m := by rw [List.length_take]; omega
    refine .inr ⟨k, m, cur, by rw [hl], h2, h3, by omega, by omega, by omega, ?_⟩
    rw [hl, List.map_take, ← h7, List.take_take, Nat.min_eq_left hm]
theorem B_of_R {base : Nat} (h : Kd.R (Kd.int .u8) 5 w base ok v xs) : BRow w (fun k => ok k ∧ base ≤ k) v xs := by
  have ho := Kd.own_of_R h
  have hok := h.1
  rcases ho.2 with ⟨rfl, hn⟩ | ⟨g, cap, cur, rfl, hb, hg, hnc, hcm, hcs, ht⟩
  · exact .inl ⟨rfl, List.eq_nil_of_length_eq_zero hn⟩
  · refine .inr ⟨g, cap, cur, rfl, ⟨hok g (by simp [Value.ownBlock]), hb⟩, hg, hnc, by omega, hcm, ?_⟩
    rw [Nat.mul_one] at ht
    exact ht
end

section
variable {P : Program}
/-- append(v, ys...). -/
theorem B_run (w : World) (t ty : TypeId) (i : TypeInfo) (ht : P.underlying t = some (.slice 5)) (hi : P.info? 5 = some i) (hz : i.zero = some (.int .u8 0)) (hsz : i.size = 1) (hby : i.bytes = 1)
    (ok : Nat → Prop) (v : Value) (xs ys : List Int) (A : Option Addr) (c : Nat) (h : BRow w ok v xs) (hr : Kd.C (Kd.int .u8) w A ys.length ys) (hok : ∀ k, w.heap.size ≤ k → ok k) (hl : xs.length + ys.length ≤ 140737488355328) :
    ∃ v1 w1, (Builtin.append_ #[t, t] ty #[v, .slice A ys.length c]).run P w = .ok v1 w1 ∧ BRow w1 ok v1 (xs ++ ys) ∧ w.grownBy w1 v.ownBlock ∧ (v1.ownBlock = v.ownBlock ∨ ∃ b, v1.ownBlock = some b ∧ w.heap.size ≤ b) := by
  have hR : ReadsOf (Value.int .u8) (0 : Int) w A ys.length ys := Kd.reads_of_C hr
  have hone : ∀ u ∈ ys.map (Value.int .u8), u.oneCell' = true := by
    intro u hu
    obtain ⟨q, _, rfl⟩ := List.mem_map.1 hu
    rfl
  have hm63 : (140737488355328 : Nat) ≤ maxLen := by simp [maxLen]
  have grown : ∀ (v' : Value) (w' : World), w'.ownsRow w.heap.size 5 1 v' (xs.length + ys.length) (xs.map (Value.int .u8) ++ ys.map (Value.int .u8)) → BRow w' ok v' (xs ++ ys) := by
    intro v' w' ho
    rcases ho.2 with ⟨rfl, hn⟩ | ⟨g, cap, cur, rfl, hb, hg, hnc, hcm, hcs, htk⟩
    · exact .inl ⟨rfl, List.eq_nil_of_length_eq_zero (by rw [List.length_append]; omega)⟩
    · refine .inr ⟨g, cap, cur, by rw [List.length_append], hok g hb, hg, by rw [List.length_append]; exact hnc, by omega, hcm, ?_⟩
      rw [List.length_append, ← Nat.mul_one (xs.length + ys.length), htk, List.map_append]
  cases A with
  | none =>
    obtain rfl : ys = [] := by
      rcases Nat.eq_zero_or_pos ys.length with h0 | h0
      · exact List.eq_nil_of_length_eq_zero h0
      · obtain ⟨ad, e, _⟩ := hr.2.2 h0
        cases e
    refine ⟨v, w, ?_, by rw [List.append_nil]; exact h, World.grownBy.refl w _, .inl rfl⟩
    rcases h with ⟨rfl, rfl⟩ | ⟨g, cap, cur, rfl, _, _, hnc, _⟩
    · simp [Builtin.append_, run_underlying ht, sizeOf, typeInfo, hi, Builtin.lenOf, Builtin.firstCells]
    · simp [Builtin.append_, run_underlying ht, sizeOf, typeInfo, hi, Builtin.lenOf, Builtin.firstCells, hnc, storeCells]
  | some ad =>
    have hcells : ∀ j u, (ys.map (Value.int .u8))[j]? = some u → w.cell? (ad.add j) = some u := by
      intro j u hu
      have hj : j < ys.length := by
        rcases Nat.lt_or_ge j ys.length with h | h
        · exact h
        · simp [List.getElem?_eq_none h] at hu
      obtain ⟨ad', h', hc⟩ := hR.2.2 (by omega)
      injection h' with h'
      subst h'
      rw [List.getElem?_map, List.getElem?_eq_getElem hj] at hu
      rw [hc j hj, ← hu]
      simp [List.getD_eq_getElem?_getD, List.getElem?_eq_getElem hj]
    rcases h with ⟨rfl, rfl⟩ | ⟨g, cap, cur, rfl, h2, h3, h4, h5, h6, h7⟩
    · obtain ⟨v1, w1, hr1, ho, hg, _, hat⟩ := run_append_own_at (P := P) w w.heap.size t ty 5 i (.int .u8 0) 1 1 ht hi hz hsz hby rfl (by omega) (.slice none 0 0) 0 [] ⟨rfl, .inl ⟨rfl, rfl⟩⟩ ad ys.length c (ys.map (Value.int .u8)) (by simp) hcells hone (by simp at hl; omega) (by simpa using hl) (Nat.le_refl _)
      refine ⟨v1, w1, hr1, grown v1 w1 (by simpa using ho), hg, ?_⟩
      rcases hat with hat | hat
      · exact .inl hat
      · exact .inr ⟨_, hat, Nat.le_refl _⟩
    · by_cases hroom : xs.length + ys.length ≤ cap
      · have hr1 := run_append_room (P := P) w t ty 5 i ht hi g xs.length cap cur h3 ad ys.length c (ys.map (Value.int .u8)) (by rw [hsz]; simp) hcells hone hroom (by rw [hsz]; simp; omega)
        refine ⟨_, _, hr1, ?_, ⟨rfl, rfl, rfl, by simp, fun k _ hk => setRow_other w g k _ (fun e => hk (by simp [Value.ownBlock, e]))⟩, .inl rfl⟩
        refine .inr ⟨g, cap, _, by rw [List.length_append], h2, setRow_heap w g cur _ 5 _ h3, by rw [List.length_append]; exact hroom, ?_, h6, ?_⟩
        · rw [hsz]
          simp only [List.size_toArray, List.length_append, List.length_take, List.length_drop, Array.length_toList, List.length_map]
          omega
        · rw [hsz, Nat.mul_one, h7, List.map_append]
          exact List.take_left' (by simp)
      · have holds : ∀ j u, (xs.map (Value.int .u8))[j]? = some u → w.cell? ((⟨g, 0, none⟩ : Addr).add j) = some u := by
          intro j u hu
          have hj : j < xs.length := by
            rcases Nat.lt_or_ge j xs.length with h | h
            · exact h
            · simp [List.getElem?_eq_none h] at hu
          rw [add_plain, cell_of_row w g _ cur 5 (0, 0) h3]
          rw [← h7, List.getElem?_take_of_lt hj] at hu
          simpa using hu
        obtain ⟨v1, w1, hr1, ho, hg⟩ := run_append_arg_grows (P := P) (w := w) t ty 5 i (.int .u8 0) 1 1 ht hi hz hsz hby rfl (by omega) ⟨g, 0, none⟩ xs.length cap (xs.map (Value.int .u8)) (by simp) holds ad ys.length c (ys.map (Value.int .u8)) (by simp) hcells (by omega) (by omega) (by simpa using hl)
        refine ⟨v1, w1, hr1, grown v1 w1 ho, ⟨hg.os, hg.tape, hg.output, hg.size, fun k hk _ => hg.block k hk (by simp)⟩, ?_⟩
        obtain ⟨g', cap', he, hb, _⟩ := ho.form (by omega)
        exact .inr ⟨g', by rw [he]; simp [Value.ownBlock], hb⟩
end
end Go.Proofs.Ytbcienbnhchdeaa.Hand

/- A disk in memory, and what its methods do. -/
namespace Go.Proofs.Ytbcienbnhchdeaa.Hand
open Go Go.RowKit Go.Proofs.YtbcienbnhchdeaaW.PrintWords Go.Proofs.YtbcienbnhchdeaaW.PrintMore
set_option linter.unusedVariables false
set_option linter.unusedSimpArgs false
attribute [local go_sem] max2_int min2_int max_two min_two

/-- w' is w but for the blocks of S, and for what is new. -/
structure Moved (w w' : World) (S : Nat → Prop) : Prop where
  os : w'.os = w.os
  tape : w'.tape = w.tape
  output : w'.output = w.output
  kept : Kept w w' S
namespace Moved
variable {w w1 w2 : World} {S S' : Nat → Prop}
theorem refl (w : World) (S : Nat → Prop) : Moved w w S := ⟨rfl, rfl, rfl, Kept.refl w S⟩
theorem of_below (h : Below w.heap.size w w1) (S : Nat → Prop) : Moved w w1 S := ⟨h.os, h.tape, h.output, Kept.of_below h S⟩
theorem mono (h : Moved w w1 S) (hs : ∀ k, S k → S' k) : Moved w w1 S' := ⟨h.os, h.tape, h.output, h.kept.mono hs⟩
theorem trans (h : Moved w w1 S) (k : Moved w1 w2 S') (hs : ∀ k, S' k → S k ∨ w.heap.size ≤ k) : Moved w w2 S := ⟨k.os.trans h.os, k.tape.trans h.tape, k.output.trans h.output, h.kept.then_ k.kept hs⟩
theorem below (h : Moved w w1 S) (hb : Below w1.heap.size w1 w2) : Moved w w2 S := h.trans (of_below hb (fun _ => False)) (fun _ hk => hk.elim)
theorem size (h : Moved w w1 S) : w.heap.size ≤ w1.heap.size := h.kept.1
theorem toBelow (h : Moved w w1 S) {B : Nat} (hB : B ≤ w.heap.size) (hs : ∀ k, S k → B ≤ k) : Below B w w1 :=
  ⟨h.os, h.tape, h.output, h.size, fun i hi => h.kept.2 i (by omega) (fun hk => by have := hs i hk; omega)⟩
theorem setCell (h : Moved w w1 S) {p : Addr} (hp : S p.block ∨ w.heap.size ≤ p.block) (u : Value) : Moved w (w1.setCell p u) S := ⟨h.os, h.tape, h.output, h.kept.setCell hp u⟩
theorem grown (h : Moved w w1 S) {row : Option Nat} (hg : w1.grownBy w2 row) (hr : ∀ k, row = some k → S k ∨ w.heap.size ≤ k) : Moved w w2 S := ⟨hg.os.trans h.os, hg.tape.trans h.tape, hg.output.trans h.output, Kept.of_grown hg h.kept hr⟩
theorem drewN (h : Moved w w1 S) (n : Nat) : Moved w (w1.drewN n) S := ⟨h.os, h.tape, h.output, h.kept⟩
theorem drew (h : Moved w w1 S) : Moved w w1.drew S := ⟨h.os, h.tape, h.output, h.kept⟩
theorem from_below {w0 : World} {B : Nat} (h : Below B w0 w) (k : Moved w w1 S) (hs : ∀ k, S k → B ≤ k) (hB : B ≤ w.heap.size) : Below B w0 w1 :=
  let h2 := k.toBelow hB hs
  ⟨h2.os.trans h.os, h2.tape.trans h.tape, h2.output.trans h.output, Nat.le_trans h.size h2.size, fun i hi => (h2.block i hi).trans (h.block i hi)⟩
end Moved

/-- The disk at block g: its room, how many are safe, its bytes; the block of its row is ok. -/
structure DiskAt (w : World) (g : Nat) (ok : Nat → Prop) (room safe : Nat) (bs : List Int) : Prop where
  cells : ∃ v, w.heap[g]? = some (.cells #[.int .i64 (room : Int), .int .i64 (safe : Int), v] 96 (0, 0)) ∧ BRow w ok v bs
  safeLe : safe ≤ bs.length
  roomLe : bs.length ≤ room
  most : room ≤ 1048576
  bytes : okB bs = true

/-- What a disk's method may turn. -/
def OfDisk (g : Nat) (ok : Nat → Prop) (k : Nat) : Prop := k = g ∨ ok k

section
variable {w w1 : World} {g : Nat} {ok ok' : Nat → Prop} {room safe : Nat} {bs : List Int}
theorem DiskAt.mono (h : DiskAt w g ok room safe bs) (hok : ∀ k, ok k → ok' k) : DiskAt w g ok' room safe bs := by
  obtain ⟨⟨v, h1, h2⟩, a, b, c, d⟩ := h
  exact ⟨⟨v, h1, B_mono h2 hok⟩, a, b, c, d⟩
theorem DiskAt.lt (h : DiskAt w g ok room safe bs) : g < w.heap.size := by
  obtain ⟨v, h1, h2⟩ := h.cells
  exact blk_lt h1
theorem DiskAt.step (h : DiskAt w g ok room safe bs) (hg : w1.heap[g]? = w.heap[g]?) (hm : ∀ k, ok k → k < w.heap.size → w1.heap[k]? = w.heap[k]?) : DiskAt w1 g ok room safe bs := by
  obtain ⟨⟨v, h1, h2⟩, a, b, c, d⟩ := h
  exact ⟨⟨v, hg.trans h1, B_step h2 hm⟩, a, b, c, d⟩
theorem DiskAt.below (h : DiskAt w g ok room safe bs) (hb : Below w.heap.size w w1) : DiskAt w1 g ok room safe bs := h.step (hb.block g h.lt) (fun k _ hk => hb.block k hk)
theorem DiskAt.kept (h : DiskAt w g ok room safe bs) {S : Nat → Prop} (hk : Kept w w1 S) (hg : ¬ S g) (hne : ∀ k, ok k → ¬ S k) : DiskAt w1 g ok room safe bs := h.step (hk.2 g h.lt hg) (fun k ho hlt => hk.2 k hlt (hne k ho))
/-- Told of its own blocks alone. -/
theorem DiskAt.bound (h : DiskAt w g ok room safe bs) : DiskAt w g (fun k => ok k ∧ k < w.heap.size) room safe bs := by
  obtain ⟨⟨v, h1, h2⟩, a, b, c, d⟩ := h
  exact ⟨⟨v, h1, B_mono (B_bound h2) (fun k hk => ⟨hk.1, hk.2.1⟩)⟩, a, b, c, d⟩
/-- The cells, as the walk asks for them. -/
theorem disk_cells {v : Value} {a b : Value} (h : w.heap[g]? = some (.cells #[a, b, v] 96 (0, 0))) :
    w.cell? ⟨g, 0, none⟩ = some a ∧ w.cell? ⟨g, 1, none⟩ = some b ∧ w.cell? ⟨g, 2, none⟩ = some v ∧ (∀ i, w.frozen? ⟨g, i, none⟩ = false) :=
  ⟨by rw [blk_cell h]; rfl, by rw [blk_cell h]; rfl, by rw [blk_cell h]; rfl, fun i => blk_frozen h i⟩
end

theorem okB_append2 {a b : List Int} (ha : okB a = true) (hb : okB b = true) : okB (a ++ b) = true := by
  simp only [okB, List.all_append, Bool.and_eq_true] at *
  exact ⟨ha, hb⟩
theorem B_ne {w : World} {ok : Nat → Prop} {v : Value} {xs : List Int} (h : BRow w ok v xs) {g t : Nat} {cells : Array Value} (hb : w.heap[g]? = some (.cells cells t (0, 0))) (ht : t ≠ 5) : some g ≠ v.ownBlock := by
  intro e
  obtain ⟨_, _, c, hc⟩ := B_ok h g e.symm
  exact blk_ne hb hc ht rfl
/-- The disk whose row was stored anew. -/
theorem DiskAt.stored {w1 : World} {g : Nat} {ok : Nat → Prop} {room safe : Nat} {xs : List Int} {v0 v1 : Value} (h1 : w1.heap[g]? = some (.cells #[.int .i64 (room : Int), .int .i64 (safe : Int), v0] 96 (0, 0))) (hB : BRow w1 ok v1 xs) (ha : safe ≤ xs.length) (hb : xs.length ≤ room) (hm : room ≤ 1048576) (hd : okB xs = true) :
    DiskAt (w1.setCell ⟨g, 2, none⟩ v1) g ok room safe xs := by
  have h2 := blk_set h1 2 v1
  exact ⟨⟨v1, h2, B_set hB h1 (by decide) 2 v1⟩, ha, hb, hm, hd⟩
def roomOf (n : Int) : Nat := if n < 0 then 0 else if 1048576 < n then 1048576 else n.toNat

set_option maxRecDepth 100000 in
theorem new_any (n : Int) (w : World) (ok : Nat → Prop) : Calls Try.prog 37 #[.int .i64 n] w fun e w' =>
    e = .returned (.pointer (some ⟨w.heap.size, 0, none⟩)) ∧ DiskAt w' w.heap.size ok (roomOf n) 0 [] ∧ Below w.heap.size w w' := by
  have key : ∀ m : Nat, m ≤ 1048576 → DiskAt (w.alloc (.cells #[.int .i64 (m : Int), .int .i64 0, .slice none 0 0] 96)) w.heap.size ok m 0 [] := fun m hm =>
    ⟨⟨_, heap_alloc_new w _, B_nil _ _⟩, Nat.le_refl _, Nat.zero_le _, hm, rfl⟩
  unfold roomOf
  by_cases h1 : n < 0
  · rw [if_pos h1]
    go_enter Try.func37, Try.ntmps37
    go_wp2
    go_ret
    exact ⟨rfl, key 0 (by omega), (Below.refl _ _).alloc (Nat.le_refl _) _⟩
  · rw [if_neg h1]
    by_cases h2 : 1048576 < n
    · rw [if_pos h2]
      go_enter Try.func37, Try.ntmps37
      go_wp2
      go_ret
      exact ⟨rfl, key 1048576 (by omega), (Below.refl _ _).alloc (Nat.le_refl _) _⟩
    · rw [if_neg h2]
      obtain ⟨m, rfl⟩ := Int.eq_ofNat_of_zero_le (by omega : 0 ≤ n)
      rw [Int.toNat_natCast]
      go_enter Try.func37, Try.ntmps37
      go_wp2
      go_ret
      exact ⟨rfl, key m (by omega), (Below.refl _ _).alloc (Nat.le_refl _) _⟩

section
variable {w : World} {g : Nat} {ok : Nat → Prop} {room safe : Nat} {bs : List Int}
set_option maxRecDepth 100000 in
theorem room_any (h : DiskAt w g ok room safe bs) : Calls Try.prog 59 #[.pointer (some ⟨g, 0, none⟩)] w fun e w' => e = .returned (.int .i64 ((room : Int) - (bs.length : Int))) ∧ ∃ n, w' = w.drewN n := by
  obtain ⟨⟨v, h1, h2⟩, a, b, c, d⟩ := h
  obtain ⟨A, k, rfl, hl, hC⟩ := B_C h2
  obtain ⟨c0, c1, c2, fr⟩ := disk_cells h1
  clear h2 hC d h1 fr
  go_enter Try.func59, Try.ntmps59
  go_wp2
  go_quiet (fail)
  go_wp2
  go_ret
  exact ⟨rfl, _, rfl⟩
set_option maxRecDepth 100000 in
theorem len_any (h : DiskAt w g ok room safe bs) : Calls Try.prog 43 #[.pointer (some ⟨g, 0, none⟩)] w fun e w' => e = .returned (.int .i64 (bs.length : Int)) ∧ w = w' := by
  obtain ⟨⟨v, h1, h2⟩, a, b, c, d⟩ := h
  obtain ⟨A, k, rfl, hl, hC⟩ := B_C h2
  obtain ⟨c0, c1, c2, fr⟩ := disk_cells h1
  clear h2 hC d h1 fr
  go_enter Try.func43, Try.ntmps43
  go_wp2
  go_ret
  exact ⟨rfl, rfl⟩
set_option maxRecDepth 100000 in
theorem safe_any (h : DiskAt w g ok room safe bs) : Calls Try.prog 42 #[.pointer (some ⟨g, 0, none⟩)] w fun e w' => e = .returned (.int .i64 (safe : Int)) ∧ w = w' := by
  obtain ⟨⟨v, h1, h2⟩, a, b, c, d⟩ := h
  obtain ⟨c0, c1, c2, fr⟩ := disk_cells h1
  clear h2 d h1 fr
  go_enter Try.func42, Try.ntmps42
  go_wp2
  go_ret
  exact ⟨rfl, rfl⟩
set_option maxRecDepth 100000 in
theorem all_any (h : DiskAt w g ok room safe bs) : Calls Try.prog 41 #[.pointer (some ⟨g, 0, none⟩)] w fun e w' => ∃ v, e = .returned v ∧ Kd.R (Kd.int .u8) 5 w' w.heap.size (fun _ => True) v bs ∧ Below w.heap.size w w' := by
  obtain ⟨⟨v, h1, h2⟩, a, b, c, d⟩ := h
  obtain ⟨A, k, rfl, hl, hC⟩ := B_C h2
  obtain ⟨c0, c1, c2, fr⟩ := disk_cells h1
  have HC := Aside0.mk hC
  clear h2 hC d h1 fr
  go_enter Try.func41, Try.ntmps41
  go_wp2_with (go_at_call 96; refine (clone_any A k bs w HC.out (by omega)).mono ?_; rintro e w1 ⟨v1, rfl, ho, hb⟩; have HO := Aside0.mk ho; have HB := Aside0.mk hb; clear ho hb)
  go_ret
  exact ⟨_, rfl, HO.out, HB.out⟩
end

section
variable {P : Program} {ops : Array Oper} {rest : List Oper} {o : Oper} {a : Act} {Q : Exit → Act → World → Prop}
/-- append(v, ys...), behind 'at_builtin'. -/
theorem B_append {W : World} (hgd : o.guard = none) (s x : Operand) (t : TypeId) (ho : o.op = .call { callee := .builtin .append, args := #[s, x], argTypes := #[t, t] })
    (ht : P.underlying t = some (.slice 5)) (hinfo : (P.info? 5).map (fun i => (i.zero, i.size, i.bytes)) = some (some (.int .u8 0), 1, 1))
    (ok : Nat → Prop) (v : Value) (xs ys : List Int) (A : Option Addr) (c : Nat) (hs : a.eval s = v) (hx : a.eval x = .slice A ys.length c) (h : BRow W ok v xs) (hr : Kd.C (Kd.int .u8) W A ys.length ys) (hok : ∀ k, W.heap.size ≤ k → ok k) (hl : xs.length + ys.length ≤ 140737488355328)
    (hK : ∀ v1 w1, BRow w1 ok v1 (xs ++ ys) → W.grownBy w1 v.ownBlock → (v1.ownBlock = v.ownBlock ∨ ∃ b, v1.ownBlock = some b ∧ W.heap.size ≤ b) → wpList P ops Q rest (a.put o.dst v1) w1) : wpList P ops Q (o :: rest) a W := by
  obtain ⟨i0, hi, hzz⟩ := Option.map_eq_some_iff.1 hinfo
  simp only [Prod.mk.injEq] at hzz
  obtain ⟨hz0, hz1, hz2⟩ := hzz
  obtain ⟨v1, w1, hrun, hB, hg, hat⟩ := B_run (P := P) W t o.type i0 ht hi hz0 hz1 hz2 ok v xs ys A c h hr hok hl
  refine wpList_plain hgd fun K hKK => ?_
  unfold Oper.wp execOp
  simp only [ho, resolve, invoke, builtin, Sem.run_bind, Sem.run_pure, Result.andThen_ok, List.map_toArray, List.map_cons, List.map_nil, hs, hx, hrun]
  exact hKK _ _ (hK v1 w1 hB hg hat)
end
section
variable {w : World} {g : Nat} {ok : Nat → Prop} {room safe : Nat} {bs : List Int}
set_option maxRecDepth 100000 in
theorem write_ok (h : DiskAt w g ok room safe bs) (hok : ∀ k, w.heap.size ≤ k → ok k) (A : Option Addr) (c : Nat) (l : List Int) (hr : Kd.C (Kd.int .u8) w A l.length l) (hb : okB l = true) (hfit : bs.length + l.length ≤ room) :
    Calls Try.prog 38 #[.pointer (some ⟨g, 0, none⟩), .slice A l.length c] w fun e w' => e = .returned (.int .i64 0) ∧ DiskAt w' g ok room safe (bs ++ l) ∧ Moved w w' (OfDisk g ok) := by
  have H := Aside0.mk h
  obtain ⟨⟨v, h1, h2⟩, ha, hb0, hm, hd⟩ := h
  obtain ⟨A', k, rfl, hl, hC⟩ := B_C h2
  have H1 := Aside0.mk h1
  have H2 := Aside0.mk h2
  have HNE := Aside0.mk (B_ne h2 h1 (by decide))
  have HR := Aside0.mk hr
  have HOK := Aside0.mk hok
  have HD := Aside0.mk (okB_append2 hd hb)
  have hle : (l.length : Int) ≤ (room : Int) - (bs.length : Int) := by omega
  clear h2 hC hd h1 hr hb hok
  go_enter Try.func38, Try.ntmps38
  go_wp2_with (first
    | (go_at_call 59; refine (room_any H.out).mono ?_; rintro e w1 ⟨rfl, n, rfl⟩; obtain ⟨c0, c1, c2, fr⟩ := disk_cells (show (w.drewN n).heap[g]? = _ from H1.out); have f2 := fr 2; clear fr)
    | (at_builtin; refine B_append rfl (.tmp 18) (.tmp 19) 22 rfl Try.underlying22 info5 ok (.slice A' bs.length k) bs l A c rfl rfl ?aB ?aR ?aO ?aL ?_; (case aB => exact H2.out); (case aR => exact HR.out); (case aO => exact HOK.out); (case aL => omega); intro v1 w1 hB hg hat; obtain ⟨A1, k1, rfl, _, _⟩ := B_C hB; rw [List.length_append] at hB; have HB := Aside0.mk hB; have h1' := blk_grown (w := w.drewN n) H1.out hg HNE.out; have HG := Aside0.mk hg; have HH := Aside0.mk h1'; obtain ⟨c0', c1', c2', fr'⟩ := disk_cells h1'; have f2' := fr' 2; clear fr' hB hg hat h1'))
  go_ret
  refine ⟨rfl, DiskAt.stored HH.out HB.out (by rw [List.length_append]; omega) (by rw [List.length_append]; omega) hm HD.out, ?_⟩
  exact (((Moved.refl w (OfDisk g ok)).drewN n).grown HG.out (fun k hk => .inl (.inr (B_ok H2.out k hk).1))).setCell (.inl (.inl rfl)) _
set_option maxRecDepth 100000 in
theorem write_full (h : DiskAt w g ok room safe bs) (A : Option Addr) (c : Nat) (l : List Int) (hl63 : l.length ≤ 9223372036854775807) (hfull : room < bs.length + l.length) :
    Calls Try.prog 38 #[.pointer (some ⟨g, 0, none⟩), .slice A l.length c] w fun e w' => e = .returned (.int .i64 4) ∧ ∃ n, w' = w.drewN n := by
  have H := Aside0.mk h
  obtain ⟨⟨v, h1, h2⟩, ha, hb0, hm, hd⟩ := h
  have hle : (room : Int) - (bs.length : Int) < (l.length : Int) := by omega
  clear h2 hd h1
  go_enter Try.func38, Try.ntmps38
  go_wp2_with (go_at_call 59; refine (room_any H.out).mono ?_; rintro e w1 ⟨rfl, n, rfl⟩)
  go_ret
  exact ⟨rfl, _, rfl⟩
/-- The disk whose count of safe bytes was stored anew. -/
theorem DiskAt.synced {w1 : World} {g : Nat} {ok : Nat → Prop} {room safe m : Nat} {xs : List Int} {v : Value} (h1 : w1.heap[g]? = some (.cells #[.int .i64 (room : Int), .int .i64 (safe : Int), v] 96 (0, 0))) (hB : BRow w1 ok v xs) (ha : m ≤ xs.length) (hb : xs.length ≤ room) (hm : room ≤ 1048576) (hd : okB xs = true) :
    DiskAt (w1.setCell ⟨g, 1, none⟩ (.int .i64 (m : Int))) g ok room m xs := by
  have h2 := blk_set h1 1 (.int .i64 (m : Int))
  exact ⟨⟨v, h2, B_set hB h1 (by decide) 1 _⟩, ha, hb, hm, hd⟩
set_option maxRecDepth 100000 in
theorem sync_any (h : DiskAt w g ok room safe bs) : Calls Try.prog 39 #[.pointer (some ⟨g, 0, none⟩)] w fun e w' => e = .returned (.int .i64 ((bs.length : Int) - (safe : Int))) ∧ DiskAt w' g ok room bs.length bs ∧ Moved w w' (OfDisk g ok) := by
  obtain ⟨⟨v, h1, h2⟩, a, b, c, d⟩ := h
  obtain ⟨A, k, rfl, hl, hC⟩ := B_C h2
  have H1 := Aside0.mk h1
  have H2 := Aside0.mk h2
  have HD := Aside0.mk d
  obtain ⟨c0, c1, c2, fr⟩ := disk_cells h1
  have f1 := fr 1
  clear h2 hC d h1 fr
  go_enter Try.func39, Try.ntmps39
  go_wp2
  go_quiet (fail)
  go_wp2
  go_ret
  exact ⟨rfl, DiskAt.synced (w1 := w.drewN _) H1.out H2.out (Nat.le_refl _) b c HD.out, ((Moved.refl w (OfDisk g ok)).drewN _).setCell (.inl (.inl rfl)) _⟩
/-- Both stored anew. -/
theorem DiskAt.both {w1 : World} {g : Nat} {ok : Nat → Prop} {room m : Nat} {xs : List Int} {u v0 v1 : Value} (h1 : w1.heap[g]? = some (.cells #[.int .i64 (room : Int), u, v0] 96 (0, 0))) (hB : BRow w1 ok v1 xs) (ha : m ≤ xs.length) (hb : xs.length ≤ room) (hm : room ≤ 1048576) (hd : okB xs = true) :
    DiskAt ((w1.setCell ⟨g, 2, none⟩ v1).setCell ⟨g, 1, none⟩ (.int .i64 (m : Int))) g ok room m xs := by
  have h2 := blk_set h1 2 v1
  have h3 := blk_set h2 1 (.int .i64 (m : Int))
  exact ⟨⟨v1, h3, B_set (B_set hB h1 (by decide) 2 v1) h2 (by decide) 1 _⟩, ha, hb, hm, hd⟩
theorem okB_take2 {l : List Int} (h : okB l = true) (n : Nat) : okB (l.take n) = true := by
  unfold okB at h ⊢
  rw [List.all_eq_true] at h ⊢
  exact fun x hx => h x (List.mem_of_mem_take hx)
set_option maxRecDepth 100000 in
theorem left_any (n : Nat) (h : DiskAt w g ok room safe bs) (hn : n ≤ bs.length) : Calls Try.prog 95 #[.pointer (some ⟨g, 0, none⟩), .int .i64 (n : Int)] w fun e w' =>
    e = .returned (.int .i64 ((bs.length : Int) - (n : Int))) ∧ DiskAt w' g ok room n (bs.take n) ∧ Moved w w' (OfDisk g ok) := by
  obtain ⟨⟨v, h1, h2⟩, a, b, c, d⟩ := h
  obtain ⟨A, k, rfl, hl, hC⟩ := B_C h2
  have H1 := Aside0.mk h1
  have H2 := Aside0.mk (B_cut h2 hn)
  have HD := Aside0.mk d
  obtain ⟨c0, c1, c2, fr⟩ := disk_cells h1
  have f1 := fr 1
  have f2 := fr 2
  clear h2 hC d h1 fr
  go_enter Try.func95, Try.ntmps95
  go_wp2
  go_ret
  exact ⟨rfl, DiskAt.both H1.out H2.out (by rw [List.length_take]; omega) (by rw [List.length_take]; omega) c (okB_take2 HD.out _), ((Moved.refl w (OfDisk g ok)).setCell (.inl (.inl rfl)) _).setCell (.inl (.inl rfl)) _⟩
set_option maxRecDepth 100000 in
theorem cut_ok (n : Nat) (h : DiskAt w g ok room safe bs) (hn : n ≤ bs.length) : Calls Try.prog 57 #[.pointer (some ⟨g, 0, none⟩), .int .i64 (n : Int)] w fun e w' =>
    e = .returned (.int .i64 0) ∧ DiskAt w' g ok room n (bs.take n) ∧ Moved w w' (OfDisk g ok) := by
  have H := Aside0.mk h
  have hb := h.roomLe
  have hm := h.most
  clear h
  go_enter Try.func57, Try.ntmps57
  go_wp2_with (first
    | (go_at_call 43; refine (len_any H.out).mono ?_; rintro e w1 ⟨rfl, rfl⟩)
    | (go_at_call 95; refine (left_any n H.out hn).mono ?_; rintro e w1 ⟨rfl, hd, hm'⟩; have HD := Aside0.mk hd; have HM := Aside0.mk hm'; clear hd hm'))
  go_ret
  exact ⟨rfl, HD.out, HM.out⟩
set_option maxRecDepth 100000 in
theorem cut_bad (n : Int) (h : DiskAt w g ok room safe bs) (hn : n < 0 ∨ (bs.length : Int) < n) : Calls Try.prog 57 #[.pointer (some ⟨g, 0, none⟩), .int .i64 n] w fun e w' =>
    e = .returned (.int .i64 1) ∧ w = w' := by
  have H := Aside0.mk h
  have hb := h.roomLe
  have hm := h.most
  clear h
  by_cases h0 : n < 0
  · clear hn
    go_enter Try.func57, Try.ntmps57
    go_wp2
    go_ret
    exact ⟨rfl, rfl⟩
  · have h1 : (bs.length : Int) < n := by omega
    clear hn
    go_enter Try.func57, Try.ntmps57
    go_wp2_with (go_at_call 43; refine (len_any H.out).mono ?_; rintro e w1 ⟨rfl, rfl⟩)
    go_ret
    exact ⟨rfl, rfl⟩
set_option maxRecDepth 100000 in
theorem swap_ok (h : DiskAt w g ok room safe bs) (hok : ∀ k, w.heap.size ≤ k → ok k) (A : Option Addr) (c : Nat) (l : List Int) (hr : Kd.C (Kd.int .u8) w A l.length l) (hb : okB l = true) (hfit : l.length ≤ room) :
    Calls Try.prog 49 #[.pointer (some ⟨g, 0, none⟩), .slice A l.length c] w fun e w' => e = .returned (.int .i64 0) ∧ DiskAt w' g ok room l.length l ∧ Moved w w' (OfDisk g ok) := by
  obtain ⟨⟨v, h1, h2⟩, ha, hb0, hm, hd⟩ := h
  obtain ⟨A', k, rfl, hl, hC⟩ := B_C h2
  have H1 := Aside0.mk h1
  have HR := Aside0.mk hr
  have HOK := Aside0.mk hok
  have HD := Aside0.mk hb
  have hle : (l.length : Int) ≤ (room : Int) := by omega
  obtain ⟨c0, c1, c2, fr⟩ := disk_cells h1
  clear h2 hC hd h1 hr hb hok fr
  go_enter Try.func49, Try.ntmps49
  go_wp2_with (go_at_call 96; refine (clone_any A c l w HR.out (by omega)).mono ?_; rintro e w1 ⟨v1, rfl, ho, hb⟩; have hB := B_of_R ho; obtain ⟨A1, k1, rfl, _, _⟩ := B_C hB; have h1' := (hb.block g (blk_lt H1.out)).trans H1.out; obtain ⟨c0', c1', c2', fr'⟩ := disk_cells h1'; have f1' := fr' 1; have f2' := fr' 2; have HB := Aside0.mk (B_mono hB (fun k hk => HOK.out k hk.2)); have HW := Aside0.mk hb; have HH := Aside0.mk h1'; clear fr' ho hb hB h1')
  go_ret
  exact ⟨rfl, DiskAt.both HH.out HB.out (Nat.le_refl _) hfit hm HD.out, (((Moved.of_below HW.out (OfDisk g ok))).setCell (.inl (.inl rfl)) _).setCell (.inl (.inl rfl)) _⟩
set_option maxRecDepth 100000 in
theorem swap_full (h : DiskAt w g ok room safe bs) (A : Option Addr) (c : Nat) (l : List Int) (hl63 : l.length ≤ 9223372036854775807) (hfull : room < l.length) :
    Calls Try.prog 49 #[.pointer (some ⟨g, 0, none⟩), .slice A l.length c] w fun e w' => e = .returned (.int .i64 4) ∧ w = w' := by
  obtain ⟨⟨v, h1, h2⟩, ha, hb0, hm, hd⟩ := h
  have hle : (room : Int) < (l.length : Int) := by omega
  obtain ⟨c0, c1, c2, fr⟩ := disk_cells h1
  clear h2 hd h1 fr
  go_enter Try.func49, Try.ntmps49
  go_wp2
  go_ret
  exact ⟨rfl, rfl⟩
/-- How many of m a crash keeps. -/
def keepOf (keep : Int) (m : Nat) : Nat := if keep < 0 then 0 else if (m : Int) < keep then m else keep.toNat
theorem keepOf_le (keep : Int) (m : Nat) : keepOf keep m ≤ m := by unfold keepOf; split <;> try split
                                                                   all_goals omega
theorem DiskAt.drewN (h : DiskAt w g ok room safe bs) (n : Nat) : DiskAt (w.drewN n) g ok room safe bs := ⟨h.cells, h.safeLe, h.roomLe, h.most, h.bytes⟩
theorem DiskAt.drew (h : DiskAt w g ok room safe bs) : DiskAt w.drew g ok room safe bs := ⟨h.cells, h.safeLe, h.roomLe, h.most, h.bytes⟩
theorem left_int (x : Int) (n : Nat) (hx : x = (n : Int)) (h : DiskAt w g ok room safe bs) (hn : n ≤ bs.length) : Calls Try.prog 95 #[.pointer (some ⟨g, 0, none⟩), .int .i64 x] w fun e w' =>
    e = .returned (.int .i64 ((bs.length : Int) - (n : Int))) ∧ DiskAt w' g ok room n (bs.take n) ∧ Moved w w' (OfDisk g ok) := by
  subst hx
  exact left_any n h hn
set_option maxRecDepth 100000 in
set_option maxHeartbeats 1000000 in
theorem crash_any (keep : Int) (h : DiskAt w g ok room safe bs) : Calls Try.prog 40 #[.pointer (some ⟨g, 0, none⟩), .int .i64 keep] w fun e w' =>
    e = .returned (.int .i64 ((bs.length : Int) - ((safe + keepOf keep (bs.length - safe) : Nat) : Int))) ∧ DiskAt w' g ok room (safe + keepOf keep (bs.length - safe)) (bs.take (safe + keepOf keep (bs.length - safe))) ∧ Moved w w' (OfDisk g ok) := by
  have H := Aside0.mk h
  obtain ⟨⟨v, h1, h2⟩, ha, hb0, hm, hd⟩ := h
  obtain ⟨A', k, rfl, hl, hC⟩ := B_C h2
  obtain ⟨c0, c1, c2, fr⟩ := disk_cells h1
  clear h2 hC hd h1 fr
  obtain ⟨m, hmm⟩ : ∃ m, bs.length - safe = m := ⟨_, rfl⟩
  rw [hmm]
  have e1 : IntKind.i64.wrap ((bs.length : Int) - (safe : Int)) = (m : Int) := by rw [IntWalk.i64_in _ (by omega)]; omega
  have m0 : ¬ (m : Int) < 0 := by omega
  have m1 : m ≤ bs.length - safe := by omega
  clear hmm
  by_cases k0 : keep < 0
  · have e : keepOf keep m = 0 := if_pos k0
    rw [e, Nat.add_zero]
    have e2 : IntKind.i64.wrap (safe : Int) = (safe : Int) := IntWalk.i64_in _ (by omega)
    clear e
    go_enter Try.func40, Try.ntmps40
    go_wp2
    go_still_tail 19, (by kernel_rfl)
    change wpList _ _ _ _ _ w.drew
    go_wp2_with (go_at_call 95; refine (left_any safe H.out.drew ha).mono ?_; rintro e w1 ⟨rfl, hd, hm'⟩; have HD := Aside0.mk hd; have HM := Aside0.mk hm'; clear hd hm')
    go_ret
    exact ⟨rfl, HD.out, ((Moved.refl w _).drew).trans HM.out (fun _ hk => .inl hk)⟩
  · by_cases k1 : (m : Int) < keep
    · have e : keepOf keep m = m := by unfold keepOf; rw [if_neg k0, if_pos k1]
      rw [e]
      have HX := Aside0.mk (show (safe : Int) + (m : Int) = ((safe + m : Nat) : Int) by omega)
      have HY := Aside0.mk (show safe + m ≤ bs.length by omega)
      have e2 : IntKind.i64.wrap ((safe : Int) + (m : Int)) = ((safe + m : Nat) : Int) := by rw [IntWalk.i64_in _ (by omega)]; omega
      clear e
      go_enter Try.func40, Try.ntmps40
      go_wp2
      go_still_tail 19, (by kernel_rfl)
      change wpList _ _ _ _ _ w.drew
      go_wp2_with (go_at_call 95; refine (left_int _ (safe + m) HX.out H.out.drew HY.out).mono ?_; rintro e w1 ⟨rfl, hd, hm'⟩; have HD := Aside0.mk hd; have HM := Aside0.mk hm'; clear hd hm')
      go_ret
      exact ⟨rfl, HD.out, ((Moved.refl w _).drew).trans HM.out (fun _ hk => .inl hk)⟩
    · obtain ⟨q, rfl⟩ := Int.eq_ofNat_of_zero_le (by omega : 0 ≤ keep)
      have e : keepOf (q : Int) m = q := by unfold keepOf; rw [if_neg k0, if_neg k1, Int.toNat_natCast]
      rw [e]
      have HX := Aside0.mk (show (safe : Int) + (q : Int) = ((safe + q : Nat) : Int) by omega)
      have HY := Aside0.mk (show safe + q ≤ bs.length by omega)
      have e2 : IntKind.i64.wrap ((safe : Int) + (q : Int)) = ((safe + q : Nat) : Int) := by rw [IntWalk.i64_in _ (by omega)]; omega
      clear e
      go_enter Try.func40, Try.ntmps40
      go_wp2
      go_still_tail 19, (by kernel_rfl)
      change wpList _ _ _ _ _ w.drew
      go_wp2_with (go_at_call 95; refine (left_int _ (safe + q) HX.out H.out.drew HY.out).mono ?_; rintro e w1 ⟨rfl, hd, hm'⟩; have HD := Aside0.mk hd; have HM := Aside0.mk hm'; clear hd hm')
      go_ret
      exact ⟨rfl, HD.out, ((Moved.refl w _).drew).trans HM.out (fun _ hk => .inl hk)⟩
end
section
variable {w : World}
theorem write_nil (A : Option Addr) (n c : Nat) : Calls Try.prog 38 #[.pointer none, .slice A n c] w fun e w' => e = .returned (.int .i64 1) ∧ w = w' := by
  go_enter Try.func38, Try.ntmps38
  go_wp2
  go_ret
  exact ⟨rfl, rfl⟩
theorem sync_nil : Calls Try.prog 39 #[.pointer none] w fun e w' => e = .returned (.int .i64 0) ∧ w = w' := by
  go_enter Try.func39, Try.ntmps39
  go_wp2
  go_ret
  exact ⟨rfl, rfl⟩
theorem crash_nil (k : Int) : Calls Try.prog 40 #[.pointer none, .int .i64 k] w fun e w' => e = .returned (.int .i64 0) ∧ w = w' := by
  go_enter Try.func40, Try.ntmps40
  go_wp2
  go_ret
  exact ⟨rfl, rfl⟩
theorem swap_nil (A : Option Addr) (n c : Nat) : Calls Try.prog 49 #[.pointer none, .slice A n c] w fun e w' => e = .returned (.int .i64 1) ∧ w = w' := by
  go_enter Try.func49, Try.ntmps49
  go_wp2
  go_ret
  exact ⟨rfl, rfl⟩
theorem all_nil : Calls Try.prog 41 #[.pointer none] w fun e w' => e = .returned (.slice none 0 0) ∧ w = w' := by
  go_enter Try.func41, Try.ntmps41
  go_wp2
  go_ret
  exact ⟨rfl, rfl⟩
theorem len_nil : Calls Try.prog 43 #[.pointer none] w fun e w' => e = .returned (.int .i64 0) ∧ w = w' := by
  go_enter Try.func43, Try.ntmps43
  go_wp2
  go_ret
  exact ⟨rfl, rfl⟩
theorem safe_nil : Calls Try.prog 42 #[.pointer none] w fun e w' => e = .returned (.int .i64 0) ∧ w = w' := by
  go_enter Try.func42, Try.ntmps42
  go_wp2
  go_ret
  exact ⟨rfl, rfl⟩
theorem room_nil : Calls Try.prog 59 #[.pointer none] w fun e w' => e = .returned (.int .i64 0) ∧ w = w' := by
  go_enter Try.func59, Try.ntmps59
  go_wp2
  go_ret
  exact ⟨rfl, rfl⟩
theorem cut_nil (n : Int) : Calls Try.prog 57 #[.pointer none, .int .i64 n] w fun e w' => e = .returned (.int .i64 1) ∧ w = w' := by
  by_cases h0 : n < 0
  · go_enter Try.func57, Try.ntmps57
    go_wp2
    go_ret
    exact ⟨rfl, rfl⟩
  · by_cases h1 : 0 < n
    all_goals
      go_enter Try.func57, Try.ntmps57
      go_wp2_with (go_at_call 43; refine len_nil.mono ?_; rintro e w1 ⟨rfl, rfl⟩)
      go_ret
      exact ⟨rfl, rfl⟩
end
end Go.Proofs.Ytbcienbnhchdeaa.Hand

/- A loop over a function that hands out a journal's entries, one by one. -/
namespace Go.Proofs.Ytbcienbnhchdeaa.Hand
open Go Go.RowKit Go.Shelf Go.Proofs.YtbcienbnhchdeaaW.PrintWords Go.Proofs.YtbcienbnhchdeaaW.PrintMore
set_option linter.unusedVariables false
set_option linter.unusedSimpArgs false
attribute [local go_sem] Oper.semAt_some
/-- The rows of bytes. -/
def KS : Kd (List Int) := Kd.slice 5 (Kd.int .u8)
/-- What is neither a row of rows nor a box of one lies as it lay. -/
structure Keep (W W' : World) : Prop where
  size : W.heap.size ≤ W'.heap.size
  same : ∀ (k t : Nat) (cs : Array Value), t ≠ 22 → t ≠ 65 → W.heap[k]? = some (.cells cs t (0, 0)) → W'.heap[k]? = some (.cells cs t (0, 0))
theorem Keep.refl (W : World) : Keep W W := ⟨Nat.le_refl _, fun _ _ _ _ _ h => h⟩
theorem Keep.trans {A B C : World} (h : Keep A B) (k : Keep B C) : Keep A C := ⟨Nat.le_trans h.size k.size, fun i t cs h1 h2 h3 => k.same i t cs h1 h2 (h.same i t cs h1 h2 h3)⟩
theorem Keep.below {W W' : World} (h : Below W.heap.size W W') : Keep W W' := ⟨h.size, fun k t cs _ _ hk => (h.block k (blk_lt hk)).trans hk⟩
/-- What v holds. -/
def Held (W : World) (v : Value) (x : List Int) : Prop := Kd.R (Kd.int .u8) 5 W 0 (fun _ => True) v x
theorem Held.keep {W W' : World} {v : Value} {x : List Int} (h : Held W v x) (hk : Keep W W') : Held W' v x := by
  refine Kd.R_mono (Kd.R_move (Kd.R_bound h) (fun k hk2 => ?_)) (fun _ _ => trivial)
  obtain ⟨_, _, _, q, hq, cs, hc⟩ := hk2
  have hq5 : q = 5 := by simpa [Kd.int, Kd.scalar] using hq
  subst hq5
  exact (hk.same k _ cs (by decide) (by decide) hc).trans hc.symm
set_option maxRecDepth 100000 in
theorem each_any (p : Option Addr) (w : World) : Calls Try.prog 101 #[.pointer p] w fun e w' => e = .returned (.func (.func 103) #[] #[.pointer (some ⟨w.heap.size, 0, none⟩)]) ∧ w.alloc (.cells #[.pointer p] 74) = w' := by
  go_enter Try.func101, Try.ntmps101
  go_wp2
  go_ret
  exact ⟨rfl, rfl⟩
/-- A journal's cells: its disk, its row, how many are safe. -/
def JCells (w : World) (gj : Nat) (d v : Value) (s : Int) : Prop := w.heap[gj]? = some (.cells #[d, v, .int .i64 s] 99 (0, 0))
theorem j_cells {w : World} {gj : Nat} {d v : Value} {s : Int} (h : JCells w gj d v s) :
    w.cell? ⟨gj, 0, none⟩ = some d ∧ w.cell? ⟨gj, 1, none⟩ = some v ∧ w.cell? ⟨gj, 2, none⟩ = some (.int .i64 s) ∧ (∀ i, w.frozen? ⟨gj, i, none⟩ = false) :=
  ⟨by rw [blk_cell h]; rfl, by rw [blk_cell h]; rfl, by rw [blk_cell h]; rfl, fun i => blk_frozen h i⟩
set_option maxRecDepth 100000 in
theorem jlen_any {w : World} {gj : Nat} {d : Value} {A : Option Addr} {n c : Nat} {s : Int} (h : JCells w gj d (.slice A n c) s) : Calls Try.prog 78 #[.pointer (some ⟨gj, 0, none⟩)] w fun e w' => e = .returned (.int .i64 (n : Int)) ∧ w = w' := by
  obtain ⟨c0, c1, c2, fr⟩ := j_cells h
  clear h fr c0 c2
  go_enter Try.func78, Try.ntmps78
  go_wp2
  go_ret
  exact ⟨rfl, rfl⟩
theorem jlen_nil {w : World} : Calls Try.prog 78 #[.pointer none] w fun e w' => e = .returned (.int .i64 0) ∧ w = w' := by
  go_enter Try.func78, Try.ntmps78
  go_wp2
  go_ret
  exact ⟨rfl, rfl⟩
set_option maxRecDepth 100000 in
set_option maxHeartbeats 4000000 in
theorem each1_any (n0 l b gj : Nat) (d : Value) (s : Int) (A : Option Addr) (c : Nat) (xs : List (List Int)) (J : List Value → World → Prop) (W : World)
    (hJ : ∀ pre W W', J pre W → Below W.heap.size W W' → J pre W')
    (hY : ∀ pre A n c W, J pre W → pre.length < xs.length → YieldAt Fence.wide 2 Try.prog l #[.slice A n c] W fun e W' => e = .returned (.bool true) ∧ J (pre ++ [.slice A n c]) W' ∧ Keep W W' ∧ Below n0 W W')
    (hb : W.heap[b]? = some (.cells #[.pointer (some ⟨gj, 0, none⟩)] 74 (0, 0))) (hj : JCells W gj d (.slice A xs.length c) s) (hjn : gj < n0) (hr : ∀ W', Below n0 W W' → Kd.C KS W' A xs.length xs) (hc : xs.length ≤ c) (hx : ∀ x ∈ xs, x.length ≤ 1000000) (h0 : J [] W) (hn0 : n0 ≤ W.heap.size) :
    CallsIn Fence.wide 3 Try.prog 103 #[.func (.yield l) #[] #[], .pointer (some ⟨b, 0, none⟩)] W fun e W' => (∃ v, e = .returned v) ∧ ∃ vs : List Value, J vs W' ∧ vs.length = xs.length ∧ (∀ (i : Nat) (v : Value) (x : List Int), vs[i]? = some v → xs[i]? = some x → Held W' v x) ∧ Keep W W' ∧ Below n0 W W' := by
  have HJ := Aside0.mk hJ
  have HY := Aside0.mk hY
  have HR := Aside0.mk hr
  have HX := Aside0.mk hx
  have H0 := Aside0.mk h0
  have HJC := Aside0.mk hj
  have HB := Aside0.mk hb
  have hl63 := (hr W (Below.refl _ _)).2.1
  have cb := (blk_cell hb 0).trans rfl
  clear hJ hY hr hx h0 hj hb
  refine callsIn_of_wp Try.func103 rfl trivial ?_ rfl
  simp only [Try.ntmps103, List.size_toArray, List.length_cons, List.length_nil, Nat.reduceAdd, Nat.reduceSub, Array.replicate_succ, Array.replicate_zero, List.push_toArray, List.append_toArray, List.nil_append, List.cons_append]
  gi_wp2_with (refine ⟨trivial, ?_⟩; gi_at_call 78; refine (callsIn_wide.2 (jlen_any HJC.out)).mono ?_; rintro e w1 ⟨rfl, rfl⟩)
  gi_loopw [6] (fun i wr => ∃ (k : Nat) (vs : List Value), k ≤ xs.length ∧ i = .int .i64 (k : Int) ∧ Hid (J vs wr ∧ vs.length = k ∧ (∀ (i : Nat) (v : Value) (x : List Int), vs[i]? = some v → xs[i]? = some x → Held wr v x) ∧ Keep W wr ∧ Below n0 W wr)) (fun i _ => xs.length - (intOf i).toNat)
  case atStart => exact ⟨0, [], by omega, rfl, Lib.hid ⟨H0.out, rfl, fun i v x h => by simp at h, Keep.refl _, Below.refl _ _⟩⟩
  case round =>
    obtain ⟨k, vs, hk, rfl, HC⟩ := hrel
    clear H0
    by_cases hlt : k < xs.length
    · have HB2 := Aside0.mk (HC.out.2.2.2.1.same b 74 _ (by decide) (by decide) HB.out)
      have hjc2 : JCells wr gj d (.slice A xs.length c) s := (HC.out.2.2.2.2.block gj hjn).trans HJC.out
      obtain ⟨c0, c1, c2, fr⟩ := j_cells hjc2
      have cb2 := (blk_cell HB2.out 0).trans rfl
      obtain ⟨ad, Ai, ci, rfl, hcell, hci, hCi⟩ := row_at (HR.out wr HC.out.2.2.2.2) hlt
      obtain ⟨x, hx⟩ : ∃ x, xs[k]'hlt = x := ⟨_, rfl⟩
      rw [hx] at hcell hci hCi
      have HXK := Aside0.mk (show xs[k]? = some x by rw [List.getElem?_eq_getElem hlt, hx])
      have hxl : x.length ≤ 1000000 := HX.out x (hx ▸ List.getElem_mem hlt)
      have HCI := Aside0.mk hCi
      clear hx hCi hjc2 cb fr c0 c2
      gi_wp2_with (first
        | (refine ⟨trivial, ?_⟩; gi_at_call 96; refine (callsIn_wide.2 (clone_any Ai ci x wr HCI.out (by omega))).mono ?_; rintro e w2 ⟨v, rfl, hR, hb⟩; obtain ⟨A2, c2, rfl⟩ := Kd.R_slice hR; have HR2 := Aside0.mk hR; have HB3 := Aside0.mk hb; obtain ⟨fn, tmps, assign, body, hy, hrd⟩ := HY.out vs A2 x.length c2 w2 (HJ.out _ _ _ HC.out.1 hb) (by have := HC.out.2.1; omega); clear hR hb))
      refine hrd.mono ?_
      rintro e w3 ⟨rfl, hj3, hk3, hb3⟩
      have HJ3 := Aside0.mk hj3
      have HK3 := Aside0.mk hk3
      have HB4 := Aside0.mk hb3
      clear hj3 hk3 hb3 hrd hy
      gi_wp2
      go_roundw
      case rel =>
        have hsz := HC.out.2.2.2.2.size
        have hb03 : Below n0 wr w2 := HB3.out.mono (by omega)
        refine ⟨k + 1, vs ++ [.slice A2 x.length c2], by omega, by go_num, Lib.hid ⟨HJ3.out, by rw [List.length_append, HC.out.2.1]; rfl, fun i v y hv hy => ?_, ((HC.out.2.2.2.1.trans (Keep.below HB3.out)).trans HK3.out), (HC.out.2.2.2.2.trans hb03).trans HB4.out⟩⟩
        by_cases hi : i < vs.length
        · rw [List.getElem?_append_left hi] at hv
          exact ((HC.out.2.2.1 i v y hv hy).keep (Keep.below HB3.out)).keep HK3.out
        · rw [List.getElem?_append_right (by omega)] at hv
          obtain ⟨hi2, rfl⟩ : i - vs.length = 0 ∧ (.slice A2 x.length c2 : Value) = v := by
            match hii : i - vs.length with
            | 0 => rw [hii] at hv; exact ⟨rfl, by simpa using hv⟩
            | q + 1 => rw [hii] at hv; simp at hv
          have hik : i = k := by have := HC.out.2.1; omega
          rw [hik, HXK.out] at hy
          injection hy with hy
          subst hy
          exact Held.keep (Kd.R_lower HR2.out (Nat.zero_le _)) HK3.out
      case measure => simp [intOf]; omega
    · have HE := Aside0.mk (show k = xs.length by omega)
      gi_wp2
      go_end0
      exact ⟨⟨_, rfl⟩, vs, HC.out.1, by rw [HC.out.2.1, HE.out], HC.out.2.2.1, HC.out.2.2.2.1, HC.out.2.2.2.2⟩
/-- A row of slices, each of which holds an entry, is a row of rows. -/
theorem rows_of_own {W : World} {base : Nat} {v : Value} {vs : List Value} {xs : List (List Int)} (h : W.ownsRow base 22 1 v vs.length vs) (hl : vs.length = xs.length) (hh : ∀ (i : Nat) (v : Value) (x : List Int), vs[i]? = some v → xs[i]? = some x → Held W v x) :
    ∃ A c, v = .slice A xs.length c ∧ xs.length ≤ c ∧ Kd.C KS W A xs.length xs := by
  rcases h.2 with ⟨rfl, h0⟩ | ⟨g, cap, cur, rfl, hb, hg, h1, h2, h3, h4⟩
  · have : xs = [] := List.eq_nil_of_length_eq_zero (by omega)
    subst this
    exact ⟨none, 0, rfl, Nat.le_refl _, Kd.C_nil _ _⟩
  · refine ⟨some ⟨g, 0, none⟩, cap, by rw [hl], by omega, rfl, by unfold maxLen at h2; omega, fun _ => ⟨_, rfl, fun j p hj => ?_⟩⟩
    have hjl := (List.getElem?_eq_some_iff.1 hj).1
    obtain ⟨u, hu⟩ : ∃ u, vs[j]? = some u := ⟨_, List.getElem?_eq_getElem (by omega)⟩
    obtain ⟨A, c, rfl, hc, hC⟩ := Kd.R_reads (hh j u p hu hj)
    refine ⟨[.slice A p.length c], rfl, ⟨A, c, rfl, hc, hC⟩, fun i u' hu' => ?_⟩
    match i, hu' with
    | 0, hu' =>
      have e : u' = .slice A p.length c := by simpa using hu'.symm
      rw [e]
      have h5 := h.cells (g := g) rfl j _ hu
      have e2 : j * KS.sz + 0 = j := by show j * 1 + 0 = j; omega
      rw [e2]
      exact h5
/-- A block of bytes. -/
def T5 (W : World) (k : Nat) : Prop := ∃ cs, W.heap[k]? = some (.cells cs 5 (0, 0))
theorem Held.five {W W' : World} {v : Value} {x : List Int} (h : Held W v x) (hk : ∀ k, T5 W k → W'.heap[k]? = W.heap[k]?) : Held W' v x := by
  refine Kd.R_mono (Kd.R_move (Kd.R_bound h) (fun k hk2 => ?_)) (fun _ _ => trivial)
  obtain ⟨_, _, _, q, hq, cs, hc⟩ := hk2
  have hq5 : q = 5 := by simpa [Kd.int, Kd.scalar] using hq
  subst hq5
  exact hk k ⟨cs, hc⟩
theorem rowsF_of_own {W : World} {base : Nat} {v : Value} {vs : List Value} {xs : List (List Int)} (h : W.ownsRow base 22 1 v vs.length vs) (hl : vs.length = xs.length) (hh : ∀ (i : Nat) (v : Value) (x : List Int), vs[i]? = some v → xs[i]? = some x → Held W v x) :
    ∃ A c, v = .slice A xs.length c ∧ xs.length ≤ c ∧ Kd.F KS W (fun k => base ≤ k ∨ T5 W k) A xs.length xs := by
  obtain ⟨A, c, rfl, hc, _⟩ := rows_of_own h hl hh
  refine ⟨A, c, rfl, hc, fun W' hW => ?_⟩
  have h' : W'.ownsRow base 22 1 (.slice A xs.length c) vs.length vs := own_move h (fun k hk => by
    obtain ⟨cs, hcs⟩ := own_typed h k hk
    exact hW k (.inl (own_base h k hk)) (blk_lt hcs))
  obtain ⟨A2, c2, e, _, hC⟩ := rows_of_own h' hl (fun i v x h1 h2 => (hh i v x h1 h2).five (fun k hk => hW k (.inr hk) (blk_lt hk.choose_spec)))
  injection e with e1 _ _
  rw [e1]
  exact hC
/-- What All's loop has between two rounds. -/
structure Coll (w W : World) (B l D : Nat) (r : Loop) (pre : List Value) : Prop where
  box : ∃ v, Boxed W B 65 v ∧ W.ownsRow w.heap.size 22 1 v pre.length pre
  lp : W.heap[l]? = some (.loop r)
  df : W.heap[D]? = some (.deferred (some []))
  below : Below w.heap.size w W
theorem Coll.next {w W W' : World} {B l D : Nat} {r : Loop} {pre : List Value} (h : Coll w W B l D r pre) (hb : Below W.heap.size W W') : Coll w W' B l D r pre := by
  obtain ⟨⟨v, h1, h2⟩, h3, h4, h5⟩ := h
  exact ⟨⟨v, (hb.block B h1.lt).trans h1, own_move h2 (fun k hk => by
    obtain ⟨cs, hc⟩ := own_typed h2 k hk
    exact hb.block k (blk_lt hc))⟩, (hb.block l (Array.getElem?_eq_some_iff.1 h3).1).trans h3, (hb.block D (Array.getElem?_eq_some_iff.1 h4).1).trans h4, below_step h5 hb⟩
theorem info22' : (Try.prog.info? 22).map (fun i => (i.zero, i.size, i.bytes)) = some (some (.slice none 0 0), 1, 24) := by kernel_rfl
/-- The statement over whatever a round has to be told: the loop's record, where it lies, is named; the rest is the function's contract. -/
theorem range_told {P : Program} {n : Nat} {g : Operand} {ps : Array Tmp} {assign body : Code} {Q : Exit → Act → World → Prop} {a : Act} {w : World} {gf : Nat} {lb : Array Value}
    (hg : a.eval g = .func (.func gf) #[] lb) (eg : ∀ args w, (callFunc gf args).run P w = .ok (.enter gf args) w)
    (h : ∀ (fn : FuncId) (r : Loop), r = { state := .ready, pending := none, fn, tmps := a.tmps, params := ps, assign, body, defers := w.heap.size } →
      CallsIn Fence.wide n P gf (#[.func (.yield (w.heap.size + 1)) #[] #[]] ++ lb) ((w.alloc (.deferred (some []))).alloc (.loop r)) (rangePost Fence.wide (n + 1) P (w.heap.size + 1) Q { a with defers := { target := .collected w.heap.size, args := #[] } :: a.defers })) :
    (Code.rangeFunc g ps assign body).wpIn Fence.wide (n + 1) P Q a w := by
  refine wpIn_rangeFunc fun fn _ => ?_
  obtain ⟨W1, hW1⟩ : ∃ W1, (w.alloc (.deferred (some []))).alloc (.loop { state := .ready, pending := none, fn, tmps := a.tmps, params := ps, assign, body, defers := w.heap.size }) = W1 := ⟨_, rfl⟩
  have hc := h fn _ rfl
  rw [hW1] at hc
  exact ⟨w.heap.size + 1, [{ target := .collected w.heap.size, args := #[] }], W1, { target := .fn (.func gf) lb, args := #[.func (.yield (w.heap.size + 1)) #[] #[]] }, W1, gf, _, W1,
    by rw [← hW1]; exact run_enterLoop_outer fn a.tmps ps assign body, by simp only [resolve, hg]; simp [go_sem], fun _ _ => trivial, by simp [invoke, go_sem, eg], fun _ => by omega, hc⟩
set_option maxRecDepth 100000 in
set_option maxHeartbeats 4000000 in
theorem jallF_gen {w : World} {p : Option Addr} {xs : List (List Int)} (hxl : xs.length ≤ 1000000)
    (E : ∀ (l b : Nat) (J : List Value → World → Prop) (W : World), (∀ pre W W', J pre W → Below W.heap.size W W' → J pre W') →
      (∀ pre A n c W, J pre W → pre.length < xs.length → YieldAt Fence.wide 2 Try.prog l #[.slice A n c] W fun e W' => e = .returned (.bool true) ∧ J (pre ++ [.slice A n c]) W' ∧ Keep W W' ∧ Below w.heap.size W W') →
      W.heap[b]? = some (.cells #[.pointer p] 74 (0, 0)) → J [] W → Below w.heap.size w W →
      CallsIn Fence.wide 3 Try.prog 103 #[.func (.yield l) #[] #[], .pointer (some ⟨b, 0, none⟩)] W fun e W' => (∃ v, e = .returned v) ∧ ∃ vs : List Value, J vs W' ∧ vs.length = xs.length ∧ (∀ (i : Nat) (v : Value) (x : List Int), vs[i]? = some v → xs[i]? = some x → Held W' v x) ∧ Keep W W' ∧ Below w.heap.size W W') :
    Calls Try.prog 80 #[.pointer p] w fun e w' => ∃ (A' : Option Addr) (c' : Nat), e = .returned (.slice A' xs.length c') ∧ xs.length ≤ c' ∧ Kd.F KS w' (fun k => w.heap.size ≤ k ∨ T5 w' k) A' xs.length xs ∧ Below w.heap.size w w' := by
  have EE := Aside0.mk E
  clear E
  obtain ⟨i0, hi, hz0, hz1, hz2⟩ := info_parts info22'
  refine (callsIn_wide (n := 4)).1 ?_
  refine callsIn_of_wp_marks Try.func80 rfl trivial ?_ rfl
  simp only [Try.ntmps80, List.size_toArray, List.length_cons, List.length_nil, Nat.reduceAdd, Nat.reduceSub, Array.replicate_succ, Array.replicate_zero, List.push_toArray, List.append_toArray, List.nil_append, List.cons_append]
  gi_wp2_with (refine ⟨trivial, ?_⟩; gi_at_call 101; refine (callsIn_wide.2 (each_any _ _)).mono ?_; rintro e w1 ⟨rfl, rfl⟩)
  have bO := Boxed.new w 65 (.slice none 0 0)
  have bN := heap_alloc_new (w.alloc (.cells #[.slice none 0 0] 65)) (.cells #[.pointer p] 74)
  rw [World.size_alloc] at bN
  have bO2 := bO.alloc (.cells #[.pointer p] 74)
  have hB0 : Below w.heap.size w ((w.alloc (.cells #[.slice none 0 0] 65)).alloc (.cells #[.pointer p] 74)) := ((Below.refl _ w).alloc (Nat.le_refl _) _).alloc (by simp) _
  have hsz : ((w.alloc (.cells #[.slice none 0 0] 65)).alloc (.cells #[.pointer p] 74)).heap.size = w.heap.size + 2 := by simp
  clear bO
  obtain ⟨W, hW⟩ : ∃ W, (w.alloc (.cells #[.slice none 0 0] 65)).alloc (.cells #[.pointer p] 74) = W := ⟨_, rfl⟩
  rw [hW] at bN bO2 hB0 hsz
  rw [hW]
  clear hW
  refine range_told (n := 3) (gf := 103) (lb := #[.pointer (some ⟨w.heap.size + 1, 0, none⟩)]) rfl (enters_of Try.func103 (by kernel_rfl) rfl) ?_
  intro fn r hrr
  have hK1 : ((W.alloc (.deferred (some []))).alloc (.loop r)).heap[W.heap.size]? = some (.deferred (some [])) := (Below.heap_alloc _ _ _ (by simp)).trans (World.alloc_heap_new W _)
  have hL1 : ((W.alloc (.deferred (some []))).alloc (.loop r)).heap[W.heap.size + 1]? = some (.loop r) := by
    have h := World.alloc_heap_new (W.alloc (.deferred (some []))) (.loop r)
    rwa [World.size_alloc] at h
  have hb1 : Below W.heap.size W ((W.alloc (.deferred (some []))).alloc (.loop r)) := ((Below.refl _ W).alloc (Nat.le_refl _) _).alloc (by simp) _
  have hB1 := hB0.trans (hb1.mono (by omega) : Below w.heap.size W _)
  obtain ⟨W1, hW1⟩ : ∃ W1, (W.alloc (.deferred (some []))).alloc (.loop r) = W1 := ⟨_, rfl⟩
  rw [hW1] at hK1 hL1 hb1 hB1
  rw [hW1]
  clear hW1
  have hbD : w.heap.size + 1 < W.heap.size := by omega
  have hN := (hb1.block _ (by omega)).trans bN
  have hO := (hb1.block _ bO2.lt).trans bO2
  have HRR := Lib.hid hrr
  clear hsz hb1 bN bO2 hrr hB0
  generalize W.heap.size = D at *
  clear W
  refine (EE.out (D + 1) (w.heap.size + 1) (fun pre W' => Coll w W' w.heap.size (D + 1) D r pre) W1 (fun pre X Y h hb => h.next hb) ?hY hN ⟨⟨_, hO, World.ownsRow_nil _ _ _ _⟩, hL1, hK1, hB1⟩ hB1).mono ?_
  case hY =>
    intro pre A' n' c' X hJ hlen
    obtain ⟨⟨v, hv, hrow⟩, hl, hd, hbl⟩ := hJ
    have hy := run_yield (P := Try.prog) (args := #[.slice A' n' c']) hl (by rw [HRR.out]; rfl)
    rw [HRR.out] at hy
    have hbr := run_beginRound (P := Try.prog) hl (by rw [HRR.out])
    refine ⟨_, _, _, _, hy, roundIn_of_wpIn trivial ?_⟩
    dsimp only
    clear hy hN hO hL1 hK1 hB1
    have hlt := (Array.getElem?_eq_some_iff.1 hl).1
    have hDl := (Array.getElem?_eq_some_iff.1 hd).1
    have hl2 : (X.putObj (D + 1) (.loop { r with state := .busy })).heap[D + 1]? = some (.loop { r with state := .busy }) := World.putObj_heap_same hlt
    have hd2 : (X.putObj (D + 1) (.loop { r with state := .busy })).heap[D]? = some (.deferred (some [])) := (World.putObj_heap_other (by omega)).trans hd
    have hv2 : Boxed (X.putObj (D + 1) (.loop { r with state := .busy })) w.heap.size 65 v := (World.putObj_heap_other (by omega)).trans hv
    have hrow2 := ownsRow_putObj hrow (.loop { r with state := .busy }) hl rfl
    have hk2 : Keep X (X.putObj (D + 1) (.loop { r with state := .busy })) := ⟨by simp, fun k t cs _ _ hk => (World.putObj_heap_other (fun e => by subst e; rw [hl] at hk; cases hk)).trans hk⟩
    have hbl2 : Below w.heap.size X (X.putObj (D + 1) (.loop { r with state := .busy })) := (Below.refl _ X).grown (grownBy_putObj' X _ _) hbl.size (fun k e => by cases e; omega)
    generalize X.putObj (D + 1) (.loop { r with state := .busy }) = X2 at *
    have hc2 := hv2.cell
    have hn0 : w.heap.size ≤ X2.heap.size := Nat.le_trans hbl.size hbl2.size
    have HV := Aside0.mk hv2
    have HRW := Aside0.mk hrow2
    have HL2 := Aside0.mk hl2
    have HD2 := Aside0.mk hd2
    clear hv hrow hl hd hv2 hrow2 hl2 hd2
    gi_wp2_with (gi_at_builtin; refine wpListIn_append_own _ rfl _ _ 65 rfl w.heap.size 22 i0 (.slice none 0 0) 1 24 Try.underlying65 hi hz0 hz1 hz2 rfl (by decide) _ _ _ rfl (HRW.out.alloc _) ⟨X2.heap.size, 0, none⟩ 1 1 [.slice A' n' c'] rfl rfl (cell_one_new _ _ _) (by simp [Value.oneCell']) (by unfold maxLen; omega) (by omega) (by simp; omega) ?_; intro v' w1 hown' hgrow _; obtain ⟨g', cap', rfl⟩ := ownsRow_succ hown'; obtain ⟨hv1, hv3, hr3, hk3, hb3⟩ := HV.out.appended (by decide) HRW.out hn0 (Nat.le_refl _) hown' hgrow; have hc1 := hv1.cell; have hf1 := hv1.frozen)
    have hl3 := hk3.same _ _ HL2.out rfl
    have hd3 := hk3.same _ _ HD2.out rfl
    have hend := run_endRound (P := Try.prog) none hl3
    have hrec : ({ { r with state := LoopState.busy } with state := if (none : Option Code).isNone = true then LoopState.ready else LoopState.done, pending := none } : Loop) = r := by rw [HRR.out]; rfl
    rw [hrec] at hend
    have hk4 : Keep X2 (w1.setCell ⟨w.heap.size, 0, none⟩ (.slice (some ⟨g', 0, none⟩) (pre.length + 1) cap')) := ⟨hk3.size, fun k t cs h1 h2 hk => by
      have e1 : k ≠ w.heap.size := fun e => by
        subst e
        have := HV.out.symm.trans hk
        injection this with this
        injection this with _ this _
        exact h2 this.symm
      have e2 : some k ≠ v.ownBlock := fun e => by
        obtain ⟨cs2, hcs2⟩ := own_typed HRW.out k e.symm
        have := hcs2.symm.trans hk
        injection this with this
        injection this with _ this _
        exact h1 this.symm
      have hkl := blk_lt hk
      exact (Below.heap_setCell w1 ⟨w.heap.size, 0, none⟩ _ k e1).trans ((hgrow.block k (by simp; omega) e2).trans ((Below.heap_alloc X2 _ k hkl).trans hk))⟩
    generalize w1.setCell ⟨w.heap.size, 0, none⟩ (.slice (some ⟨g', 0, none⟩) (pre.length + 1) cap') = X3 at *
    have hlt3 := (Array.getElem?_eq_some_iff.1 hl3).1
    refine ⟨_, _, hend, rfl, ⟨⟨_, (World.putObj_heap_other (by omega)).trans hv3, ?_⟩, World.putObj_heap_same hlt3, (World.putObj_heap_other (by omega)).trans hd3, ?_⟩, ?_, ?_⟩
    · have h := ownsRow_putObj hr3 (.loop r) hl3 rfl
      rw [List.length_append]
      exact h
    · exact ((hbl.trans hbl2).trans hb3).trans ((Below.refl _ X3).grown (grownBy_putObj' X3 _ _) (Nat.le_trans hn0 hb3.size) (fun k e => by cases e; omega))
    · exact (hk2.trans hk4).trans ⟨by simp, fun k t cs _ _ hk => (World.putObj_heap_other (fun e => by subst e; rw [hl3] at hk; cases hk)).trans hk⟩
    · exact (hbl2.trans hb3).trans ((Below.refl _ X3).grown (grownBy_putObj' X3 _ _) (Nat.le_trans hn0 hb3.size) (fun k e => by cases e; omega))
  · rintro e W2 ⟨⟨v0, rfl⟩, vs, hcoll, hvl, hheld, hkeep, hbel⟩
    obtain ⟨⟨v, hv, hrow⟩, hl, hd, hbl⟩ := hcoll
    have hend := run_endLoop (P := Try.prog) hl (by rw [HRR.out]; simp)
    refine ⟨_, _, hend, ?_⟩
    have hlt2 := (Array.getElem?_eq_some_iff.1 hl).1
    have hv4 : Boxed (W2.putObj (D + 1) (.loop { r with state := .exhausted })) w.heap.size 65 v := (World.putObj_heap_other (by omega)).trans hv
    have hrow4 := ownsRow_putObj hrow (.loop { r with state := .exhausted }) hl rfl
    have hd4 : (W2.putObj (D + 1) (.loop { r with state := .exhausted })).heap[D]? = some (.deferred (some [])) := (World.putObj_heap_other (by omega)).trans hd
    have hk4 : Keep W2 (W2.putObj (D + 1) (.loop { r with state := .exhausted })) := ⟨by simp, fun k t cs _ _ hk => (World.putObj_heap_other (fun e => by subst e; rw [hl] at hk; cases hk)).trans hk⟩
    have hb4 : Below w.heap.size w (W2.putObj (D + 1) (.loop { r with state := .exhausted })) := hbl.trans ((Below.refl _ W2).grown (grownBy_putObj' W2 _ _) hbl.size (fun k e => by cases e; omega))
    generalize W2.putObj (D + 1) (.loop { r with state := .exhausted }) = W4 at *
    have hlt4 := (Array.getElem?_eq_some_iff.1 hd4).1
    have hk5 : Keep W4 (W4.putObj D (.deferred none)) := ⟨by simp, fun k t cs _ _ hk => (World.putObj_heap_other (fun e => by subst e; rw [hd4] at hk; cases hk)).trans hk⟩
    obtain ⟨A', c', hvv, hcc, hC⟩ := rowsF_of_own (ownsRow_putObj hrow4 (.deferred none) hd4 rfl) hvl (fun i v x h1 h2 => ((hheld i v x h1 h2).keep hk4).keep hk5)
    have HC := Aside0.mk hC
    have HB5 := Aside0.mk (hb4.trans ((Below.refl _ W4).grown (grownBy_putObj' W4 D (.deferred none)) hb4.size (fun k e => by cases e; omega)))
    subst hvv
    have hc4 := hv4.cell
    have HD4 := Aside0.mk hd4
    clear hrow4 hv4 hd4 hk4 hb4 hk5 hC hend hl hd hv hrow hbl hheld hkeep hbel hB1 hK1 hL1 hN hO
    rw [show r.pending = none from by rw [HRR.out]]
    show Exit.inBlock 0 _ Exit.normal _ W4
    gi_wp2
    refine ⟨by simp, .inl ⟨_, _, rfl, run_takeDeferred HD4.out, ?_⟩⟩
    exact ⟨_, results_tmp rfl _ _ _, A', c', rfl, hcc, HC.out, HB5.out⟩
theorem jall_gen {w : World} {p : Option Addr} {xs : List (List Int)} (hxl : xs.length ≤ 1000000)
    (E : ∀ (l b : Nat) (J : List Value → World → Prop) (W : World), (∀ pre W W', J pre W → Below W.heap.size W W' → J pre W') →
      (∀ pre A n c W, J pre W → pre.length < xs.length → YieldAt Fence.wide 2 Try.prog l #[.slice A n c] W fun e W' => e = .returned (.bool true) ∧ J (pre ++ [.slice A n c]) W' ∧ Keep W W' ∧ Below w.heap.size W W') →
      W.heap[b]? = some (.cells #[.pointer p] 74 (0, 0)) → J [] W → Below w.heap.size w W →
      CallsIn Fence.wide 3 Try.prog 103 #[.func (.yield l) #[] #[], .pointer (some ⟨b, 0, none⟩)] W fun e W' => (∃ v, e = .returned v) ∧ ∃ vs : List Value, J vs W' ∧ vs.length = xs.length ∧ (∀ (i : Nat) (v : Value) (x : List Int), vs[i]? = some v → xs[i]? = some x → Held W' v x) ∧ Keep W W' ∧ Below w.heap.size W W') :
    Calls Try.prog 80 #[.pointer p] w fun e w' => ∃ (A' : Option Addr) (c' : Nat), e = .returned (.slice A' xs.length c') ∧ xs.length ≤ c' ∧ Kd.C KS w' A' xs.length xs ∧ Below w.heap.size w w' :=
  (jallF_gen hxl E).mono fun e w' ⟨A', c', he, h1, h2, h3⟩ => ⟨A', c', he, h1, Kd.F_now h2, h3⟩
theorem jallF_any {w : World} {gj : Nat} {d : Value} {s : Int} {A : Option Addr} {c : Nat} {xs : List (List Int)} (hj : JCells w gj d (.slice A xs.length c) s) (hr : Kd.C KS w A xs.length xs) (hc : xs.length ≤ c) (hx : ∀ x ∈ xs, x.length ≤ 1000000) (hxl : xs.length ≤ 1000000) :
    Calls Try.prog 80 #[.pointer (some ⟨gj, 0, none⟩)] w fun e w' => ∃ (A' : Option Addr) (c' : Nat), e = .returned (.slice A' xs.length c') ∧ xs.length ≤ c' ∧ Kd.F KS w' (fun k => w.heap.size ≤ k ∨ T5 w' k) A' xs.length xs ∧ Below w.heap.size w w' :=
  jallF_gen hxl fun l b J W hJ hY hb h0 hB => each1_any w.heap.size l b gj d s A c xs J W hJ hY hb ((hB.block gj (blk_lt hj)).trans hj) (blk_lt hj) (fun W' hW' => Kd.C_below hr (hB.trans hW')) hc hx h0 hB.size
theorem jall_any {w : World} {gj : Nat} {d : Value} {s : Int} {A : Option Addr} {c : Nat} {xs : List (List Int)} (hj : JCells w gj d (.slice A xs.length c) s) (hr : Kd.C KS w A xs.length xs) (hc : xs.length ≤ c) (hx : ∀ x ∈ xs, x.length ≤ 1000000) (hxl : xs.length ≤ 1000000) :
    Calls Try.prog 80 #[.pointer (some ⟨gj, 0, none⟩)] w fun e w' => ∃ (A' : Option Addr) (c' : Nat), e = .returned (.slice A' xs.length c') ∧ xs.length ≤ c' ∧ Kd.C KS w' A' xs.length xs ∧ Below w.heap.size w w' :=
  jall_gen hxl fun l b J W hJ hY hb h0 hB => each1_any w.heap.size l b gj d s A c xs J W hJ hY hb ((hB.block gj (blk_lt hj)).trans hj) (blk_lt hj) (fun W' hW' => Kd.C_below hr (hB.trans hW')) hc hx h0 hB.size
set_option maxRecDepth 100000 in
theorem each1_nil (n0 l b : Nat) (J : List Value → World → Prop) (W : World) (hb : W.heap[b]? = some (.cells #[.pointer none] 74 (0, 0))) (h0 : J [] W) :
    CallsIn Fence.wide 3 Try.prog 103 #[.func (.yield l) #[] #[], .pointer (some ⟨b, 0, none⟩)] W fun e W' => (∃ v, e = .returned v) ∧ ∃ vs : List Value, J vs W' ∧ vs.length = ([] : List (List Int)).length ∧ (∀ (i : Nat) (v : Value) (x : List Int), vs[i]? = some v → ([] : List (List Int))[i]? = some x → Held W' v x) ∧ Keep W W' ∧ Below n0 W W' := by
  have H0 := Aside0.mk h0
  have cb := (blk_cell hb 0).trans rfl
  clear h0 hb
  refine callsIn_of_wp Try.func103 rfl trivial ?_ rfl
  simp only [Try.ntmps103, List.size_toArray, List.length_cons, List.length_nil, Nat.reduceAdd, Nat.reduceSub, Array.replicate_succ, Array.replicate_zero, List.push_toArray, List.append_toArray, List.nil_append, List.cons_append]
  gi_wp2_with (refine ⟨trivial, ?_⟩; gi_at_call 78; refine (callsIn_wide.2 jlen_nil).mono ?_; rintro e w1 ⟨rfl, rfl⟩)
  gi_loopw [6] (fun i wr => i = .int .i64 0 ∧ W = wr) (fun i _ => 0)
  case atStart => exact ⟨rfl, rfl⟩
  case round =>
    obtain ⟨rfl, rfl⟩ := hrel
    gi_wp2
    go_end0
    exact ⟨⟨_, rfl⟩, [], H0.out, rfl, fun i v x h => by simp at h, Keep.refl _, Below.refl _ _⟩
theorem jall_nil {w : World} : Calls Try.prog 80 #[.pointer none] w fun e w' => ∃ (A' : Option Addr) (c' : Nat), e = .returned (.slice A' 0 c') ∧ Below w.heap.size w w' :=
  (jall_gen (xs := []) (by simp) fun l b J W hJ hY hb h0 hB => each1_nil w.heap.size l b J W hb h0).mono fun e w' ⟨A', c', he, _, _, hb⟩ => ⟨A', c', he, hb⟩
end Go.Proofs.Ytbcienbnhchdeaa.Hand

-- Printed by a program of this session (wip/patch_print.py over the kit's print); Lean checks it.
namespace Go.Proofs.Ytbcienbnhchdeaa.Print
open Go.RowKit Go.Proofs.YtbcienbnhchdeaaW.PrintWords Go.Proofs.YtbcienbnhchdeaaW.PrintLast Go.Proofs.YtbcienbnhchdeaaW.PrintMore
attribute [local go_sem] max2_int min2_int max_two min_two max_three min_three max_four min_four   -- for this text's walks alone
set_option linter.unusedVariables false
set_option linter.unusedSimpArgs false

/-! ### pacesetterref01_more: function 94 -/
mutual
def pacesetterref01_more.l0 : Nat → Int → List Int → Int → Option (Int)
  | 0, _, _, _ => none
  | k + 1, x0, x1, x5 => if x5 < (x1.length : Int) then (if 0 ≤ x5 then (pacesetterref01_more.l1 k (Go.bits .xor .u32 x0 ((rd x1 x5) % 4294967296)) x1 x5 0) else (none)) else (some x0)
def pacesetterref01_more.l1 : Nat → Int → List Int → Int → Int → Option (Int)
  | 0, _, _, _, _ => none
  | k + 1, x0, x1, x5, x6 => if x6 < 8 then (if (Int.tmod x0 2) = 1 then (pacesetterref01_more.l1 k (Go.bits .xor .u32 ((Int.tdiv x0 2) % 4294967296) 3988292384) x1 x5 (wrap64 (x6 + 1))) else (pacesetterref01_more.l1 k ((Int.tdiv x0 2) % 4294967296) x1 x5 (wrap64 (x6 + 1)))) else (pacesetterref01_more.l0 k x0 x1 (wrap64 (x5 + 1)))
end
def pacesetterref01_more.f (k : Nat) (a0 : Int) (l1 : List Int) : Option (Int) := pacesetterref01_more.l0 k a0 l1 0
theorem pacesetterref01_more.mono_l : ∀ k, (∀ y0 y1 y2, LeO (pacesetterref01_more.l0 k y0 y1 y2) (pacesetterref01_more.l0 (k + 1) y0 y1 y2)) ∧ (∀ y0 y1 y2 y3, LeO (pacesetterref01_more.l1 k y0 y1 y2 y3) (pacesetterref01_more.l1 (k + 1) y0 y1 y2 y3))
  | 0 => ⟨fun _ _ _ r h => by simp [pacesetterref01_more.l0] at h, fun _ _ _ _ r h => by simp [pacesetterref01_more.l1] at h⟩
  | k + 1 => by
    obtain ⟨ih0, ih1⟩ := pacesetterref01_more.mono_l k
    refine ⟨?_, ?_⟩
    · intro y0 y1 y2
      unfold pacesetterref01_more.l0
      repeat' first
      | (with_reducible exact ih0 _ _ _)
      | (with_reducible exact ih1 _ _ _ _)
      | (with_reducible exact LeO.refl _)
      | (with_reducible exact LeO.none _)
      | (with_reducible refine LeO.ite ?_ ?_)
      | (with_reducible refine LeO.bind ?_ (fun _ => ?_))
      | exact ih0 _ _ _
      | exact ih1 _ _ _ _
      | exact LeO.none _
      | refine LeO.ite ?_ ?_
      | refine LeO.bind ?_ (fun _ => ?_)
    · intro y0 y1 y2 y3
      unfold pacesetterref01_more.l1
      repeat' first
      | (with_reducible exact ih0 _ _ _)
      | (with_reducible exact ih1 _ _ _ _)
      | (with_reducible exact LeO.refl _)
      | (with_reducible exact LeO.none _)
      | (with_reducible refine LeO.ite ?_ ?_)
      | (with_reducible refine LeO.bind ?_ (fun _ => ?_))
      | exact ih0 _ _ _
      | exact ih1 _ _ _ _
      | exact LeO.none _
      | refine LeO.ite ?_ ?_
      | refine LeO.bind ?_ (fun _ => ?_)
theorem pacesetterref01_more.mono : ∀ a0 a1 k, LeO (pacesetterref01_more.f k a0 a1) (pacesetterref01_more.f (k + 1) a0 a1) := by
  intro a0 a1 k
  obtain ⟨ih0, ih1⟩ := pacesetterref01_more.mono_l k
  unfold pacesetterref01_more.f
  repeat' first
      | (with_reducible exact ih0 _ _ _)
      | (with_reducible exact ih1 _ _ _ _)
      | (with_reducible exact LeO.refl _)
      | (with_reducible exact LeO.none _)
      | (with_reducible refine LeO.ite ?_ ?_)
      | (with_reducible refine LeO.bind ?_ (fun _ => ?_))
      | exact ih0 _ _ _
      | exact ih1 _ _ _ _
      | exact LeO.none _
      | refine LeO.ite ?_ ?_
      | refine LeO.bind ?_ (fun _ => ?_)
set_option maxHeartbeats 8000000 in
set_option maxRecDepth 100000 in
theorem pacesetterref01_more.calls (k : Nat) (a0 : Int) (A1 : Option Addr) (c1 : Nat) (l1 : List Int) (r : Int) (w : World) (hr1 : Kd.C (Kd.int .u8) w A1 l1.length l1) (hc1 : l1.length ≤ c1) (h : pacesetterref01_more.f k a0 l1 = some r) :
    Calls Try.prog 94 #[.int .u32 a0, .slice A1 l1.length c1] w fun e w' => e = .returned (.int .u32 r) ∧ Drawn0 w w' := by
  have HR1 := Aside0.mk hr1
  have HC1 := Aside0.mk hc1
  clear hr1 hc1
  have H : (pacesetterref01_more.l0 k a0 l1 0) = some r := h
  clear h
  have H' := Aside0.mk H
  clear H
  go_enter Try.func94, Try.ntmps94
  go_wp2
  go_loopg [0, 5] k (fun kq v0 v5 w' => ∃ (x0_1 : Int) (x5_1 : Int), v0 = .int .u32 x0_1 ∧ v5 = .int .i64 x5_1 ∧ Aside0 (pacesetterref01_more.l0 kq x0_1 l1 x5_1 = some r) ∧ Aside0 (kq ≤ k) ∧ Drawn0 w w')
  case atStart => exact ⟨(a0), (0), (by first | rfl | (simp; done) | (simp [*]; done)), (by first | rfl | (simp; done) | (simp [*]; done)), H', ⟨Nat.le_refl _⟩, by repeat (first | exact Drawn0.refl _ | apply Drawn0.step)⟩
  case round =>
    clear H'
    try clear c1
    try clear p2
    obtain ⟨x0_1, x5_1, rfl, rfl, HA, HK1, ⟨m1, rfl⟩⟩ := hrel
    cases gk with
    | zero => exact absurd HA.out (by simp [pacesetterref01_more.l0])
    | succ k1 =>
      have H := HA.out
      clear HA
      simp only [pacesetterref01_more.l0] at H
      by_cases c3 : x5_1 < (l1.length : Int)
      · rw [if_pos c3] at H
        have c3b0 : decide (x5_1 < (l1.length : Int)) = true := decide_eq_true c3
        clear c3
        by_cases c4 : 0 ≤ x5_1
        · rw [if_pos c4] at H
          have c4b0 : decide (0 ≤ x5_1) = true := decide_eq_true c4
          clear c4
          have H' := Aside0.mk H
          clear H
          have p158 : 0 ≤ (x5_1 : Int) := of_decide_eq_true (by first | (with_reducible assumption) | assumption)
          have q158 : x5_1 < (l1.length : Int) := of_decide_eq_true (by first | (with_reducible assumption) | assumption)
          obtain ⟨ad158, e158, hx158_0⟩ := Kd.at_int HR1.out x5_1 p158 q158
          cases e158
          replace p158 := eq_true p158
          replace q158 := eq_true q158
          go_wp2
          go_loopg [0, 6] k1 (fun kq v0 v6 w' => ∃ (x0_2 : Int) (x6_2 : Int), v0 = .int .u32 x0_2 ∧ v6 = .int .i64 x6_2 ∧ Aside0 (pacesetterref01_more.l1 kq x0_2 l1 x5_1 x6_2 = some r) ∧ Aside0 (kq ≤ k1) ∧ Drawn0 w w')
          case atStart => exact ⟨(Go.bits .xor .u32 x0_1 ((rd l1 x5_1) % 4294967296)), (0), (by first | rfl | (simp; done) | (simp [*]; done)), (by first | rfl | (simp; done) | (simp [*]; done)), H', ⟨Nat.le_refl _⟩, by repeat (first | exact Drawn0.refl _ | apply Drawn0.step)⟩
          case round =>
            clear H'
            try clear c1
            try clear p1
            try clear q1
            try clear hx1
            try clear p2
            try clear c3
            try clear c3b0
            try clear c4
            try clear c4b0
            try clear hx158_0
            try clear p158
            try clear p2
            try clear q158
            obtain ⟨x0_2, x6_2, rfl, rfl, HA, HK2, ⟨m2, rfl⟩⟩ := hrel
            cases gk with
            | zero => exact absurd HA.out (by simp [pacesetterref01_more.l1])
            | succ k2 =>
              have H := HA.out
              clear HA
              simp only [pacesetterref01_more.l1] at H
              by_cases c5 : x6_2 < 8
              · rw [if_pos c5] at H
                have c5b0 : decide (x6_2 < 8) = true := decide_eq_true c5
                clear c5
                by_cases c6 : (Int.tmod x0_2 2) = 1
                · rw [if_pos c6] at H
                  have c6b0 : ((Int.tmod x0_2 2) == 1) = true := beq_iff_eq.mpr c6
                  have c6b1 : ((Int.tmod x0_2 2) != 1) = false := bne_eq_false_iff_eq.mpr c6
                  clear c6
                  have H' := Aside0.mk H
                  clear H
                  go_wp2
                  go_roundg k2
                  case measure => have := HK1.out; have := HK2.out; omega
                  case rel => exact ⟨(Go.bits .xor .u32 ((Int.tdiv x0_2 2) % 4294967296) 3988292384), (wrap64 (x6_2 + 1)), (by first | rfl | (simp; done) | (simp [*]; done)), (by first | rfl | (simp; done) | (simp [*]; done)), H', ⟨by have := HK1.out; have := HK2.out; omega⟩, by repeat (first | exact Drawn0.refl _ | apply Drawn0.step)⟩
                · rw [if_neg c6] at H
                  have c6b0 : ((Int.tmod x0_2 2) == 1) = false := beq_eq_false_iff_ne.mpr c6
                  have c6b1 : ((Int.tmod x0_2 2) != 1) = true := bne_iff_ne.mpr c6
                  have H' := Aside0.mk H
                  clear H
                  go_wp2
                  go_roundg k2
                  case measure => have := HK1.out; have := HK2.out; omega
                  case rel => exact ⟨((Int.tdiv x0_2 2) % 4294967296), (wrap64 (x6_2 + 1)), (by first | rfl | (simp; done) | (simp [*]; done)), (by first | rfl | (simp; done) | (simp [*]; done)), H', ⟨by have := HK1.out; have := HK2.out; omega⟩, by repeat (first | exact Drawn0.refl _ | apply Drawn0.step)⟩
              · rw [if_neg c5] at H
                have c5b0 : decide (x6_2 < 8) = false := decide_eq_false c5
                clear c5
                have H' := Aside0.mk H
                clear H
                go_wp2
                go_roundg k2
                case measure => have := HK1.out; have := HK2.out; omega
                case rel => exact ⟨(x0_2), (wrap64 (x5_1 + 1)), (by first | rfl | (simp; done) | (simp [*]; done)), (by first | rfl | (simp; done) | (simp [*]; done)), H', ⟨by have := HK1.out; have := HK2.out; omega⟩, by repeat (first | exact Drawn0.refl _ | apply Drawn0.step)⟩
        · rw [if_neg c4] at H
          exact absurd H (by simp)
      · rw [if_neg c3] at H
        have c3b0 : decide (x5_1 < (l1.length : Int)) = false := decide_eq_false c3
        clear c3
        obtain rfl := Option.some.inj H
        go_wp2
        go_ret
        exact ⟨by first | rfl | (simp; done) | (simp [*]; done), by repeat (first | exact Drawn0.refl _ | apply Drawn0.step)⟩

end Go.Proofs.Ytbcienbnhchdeaa.Print

-- Printed by a program of this session (wip/patch_print.py over the kit's print); Lean checks it.
namespace Go.Proofs.Ytbcienbnhchdeaa.Print
open Go.RowKit Go.Proofs.YtbcienbnhchdeaaW.PrintWords Go.Proofs.YtbcienbnhchdeaaW.PrintLast Go.Proofs.YtbcienbnhchdeaaW.PrintMore
attribute [local go_sem] max2_int min2_int max_two min_two max_three min_three max_four min_four   -- for this text's walks alone
set_option linter.unusedVariables false
set_option linter.unusedSimpArgs false

/-! ### pacesetterref01_Sum: function 31 -/
def pacesetterref01_Sum.f (k : Nat) (l0 : List Int) : Option (Int) := (pacesetterref01_more.f k 4294967295 l0).bind fun t159 => (some ((4294967295 - t159) % 4294967296))
theorem pacesetterref01_Sum.mono : ∀ a0 k, LeO (pacesetterref01_Sum.f k a0) (pacesetterref01_Sum.f (k + 1) a0) := by
  intro a0 k
  unfold pacesetterref01_Sum.f
  repeat' first
      | (with_reducible exact pacesetterref01_more.mono _ _ _)
      | (with_reducible exact LeO.refl _)
      | (with_reducible exact LeO.none _)
      | (with_reducible refine LeO.ite ?_ ?_)
      | (with_reducible refine LeO.bind ?_ (fun _ => ?_))
      | exact pacesetterref01_more.mono _ _ _
      | exact LeO.none _
      | refine LeO.ite ?_ ?_
      | refine LeO.bind ?_ (fun _ => ?_)
set_option maxHeartbeats 8000000 in
set_option maxRecDepth 100000 in
theorem pacesetterref01_Sum.calls (k : Nat) (A0 : Option Addr) (c0 : Nat) (l0 : List Int) (r : Int) (w : World) (hr0 : Kd.C (Kd.int .u8) w A0 l0.length l0) (hc0 : l0.length ≤ c0) (h : pacesetterref01_Sum.f k l0 = some r) :
    Calls Try.prog 31 #[.slice A0 l0.length c0] w fun e w' => e = .returned (.int .u32 r) ∧ Drawn0 w w' := by
  have HR0 := Aside0.mk hr0
  have HC0 := Aside0.mk hc0
  clear hr0 hc0
  have H : ((pacesetterref01_more.f k 4294967295 l0).bind fun t159 => (some ((4294967295 - t159) % 4294967296))) = some r := h
  clear h
  replace H := Option.bind_eq_some_iff.mp H
  obtain ⟨t159, A20, H⟩ := H
  replace H : (some ((4294967295 - t159) % 4294967296)) = some r := H
  have A2 := Aside0.mk A20
  clear A20
  obtain rfl := Option.some.inj H
  go_enter Try.func31, Try.ntmps31
  go_wp2_with (first | ((with_reducible refine gate_callee (f := 94) rfl ?_); refine goesL_ (some 4) rfl rfl Try.func94 (by kernel_rfl) rfl #[.int .u32 4294967295, .slice A0 l0.length c0] rfl (by (try simp only [List.map_toArray, List.map_cons, List.map_nil]); first | done | rfl | (simp only [List.length_drop, List.length_take]; rfl)) ?_; (with_reducible refine (pacesetterref01_more.calls k 4294967295 _ _ l0 t159 _ ?side1 ?side2 A2.out).mono ?_); (case side1 => repeat (first | exact HR0.out | (with_reducible refine Kd.C_alloc ?_ _) | (with_reducible refine Kd.C_drewN ?_ _) | (with_reducible refine Kd.C_drew ?_))); (case side2 => exact HC0.out); rintro e w' ⟨rfl, ⟨nd, rfl⟩⟩; refine ⟨_, rfl, ?_⟩))
  go_ret
  exact ⟨by first | rfl | (simp; done) | (simp [*]; done), by repeat (first | exact Drawn0.refl _ | apply Drawn0.step)⟩

/-! ### pacesetterref01_Bytes: function 34 -/
def pacesetterref01_Bytes.f (a0 : Int) : Option (List Int) := some (([((Int.tdiv a0 16777216) % 4294967296) % 256, ((Int.tdiv a0 65536) % 4294967296) % 256, ((Int.tdiv a0 256) % 4294967296) % 256, (Int.tmod a0 256) % 256] : List Int))
set_option maxHeartbeats 8000000 in
set_option maxRecDepth 100000 in
theorem pacesetterref01_Bytes.calls (a0 : Int) (r : List Int) (w : World) (h : pacesetterref01_Bytes.f a0 = some r) :
    Calls Try.prog 34 #[.int .u32 a0] w fun e w' => ∃ v0_ : Value, e = .returned (v0_) ∧ Kd.R (Kd.int .u8) 5 w' w.heap.size (fun _ => True) v0_ r ∧ Below w.heap.size w w' := by
  have HB := Aside0.mk (Below.refl w.heap.size w)
  have H : (some (([((Int.tdiv a0 16777216) % 4294967296) % 256, ((Int.tdiv a0 65536) % 4294967296) % 256, ((Int.tdiv a0 256) % 4294967296) % 256, (Int.tmod a0 256) % 256] : List Int))) = some r := h
  clear h
  obtain ⟨y160, hy160⟩ : ∃ y_ : List Int, y_ = (([((Int.tdiv a0 16777216) % 4294967296) % 256, ((Int.tdiv a0 65536) % 4294967296) % 256, ((Int.tdiv a0 256) % 4294967296) % 256, (Int.tmod a0 256) % 256] : List Int)) := ⟨_, rfl⟩
  replace H : (some y160) = some r := by first | (rw [hy160]; with_reducible exact H) | (have H2_ := (Option.bind_some _ _).symm.trans H; rw [hy160]; with_reducible exact H2_) | (have H2_ := (Option.bind_some _ _).symm.trans H; with_reducible exact H2_) | with_reducible exact H | (rw [hy160]; exact H) | exact H
  have Ny160 := Aside0.mk hy160
  clear hy160
  obtain rfl := Option.some.inj H
  go_enter Try.func34, Try.ntmps34
  go_wp2_with (first | ((with_reducible refine gate_dst (N := 17) rfl ?_); refine Kd.R_lit (Kd.int .u8) _ 5 ?hg (N := 17) ?hd (xs := ([((Int.tdiv a0 16777216) % 4294967296) % 256, ((Int.tdiv a0 65536) % 4294967296) % 256, ((Int.tdiv a0 256) % 4294967296) % 256, (Int.tmod a0 256) % 256] : List Int)) (inner := [.int .u8 (((Int.tdiv a0 16777216) % 4294967296) % 256), .int .u8 (((Int.tdiv a0 65536) % 4294967296) % 256), .int .u8 (((Int.tdiv a0 256) % 4294967296) % 256), .int .u8 ((Int.tmod a0 256) % 256)]) (ok := fun _ => True) (okp := fun _ => True) ?hr ?hp (fun _ hk => hk) trivial (Below.refl _ _) (Nat.le_refl _) (by simp) ?_; (case hd => rfl); (case hg => rfl); (case hr => first | (go_simp; done) | (go_simp; rfl)); (case hp => exact (Reps.one (show Kd.M (Kd.int .u8) _ _ _ (((Int.tdiv a0 16777216) % 4294967296) % 256) [.int .u8 (((Int.tdiv a0 16777216) % 4294967296) % 256)] from rfl) (Reps.one (show Kd.M (Kd.int .u8) _ _ _ (((Int.tdiv a0 65536) % 4294967296) % 256) [.int .u8 (((Int.tdiv a0 65536) % 4294967296) % 256)] from rfl) (Reps.one (show Kd.M (Kd.int .u8) _ _ _ (((Int.tdiv a0 256) % 4294967296) % 256) [.int .u8 (((Int.tdiv a0 256) % 4294967296) % 256)] from rfl) (Reps.one (show Kd.M (Kd.int .u8) _ _ _ ((Int.tmod a0 256) % 256) [.int .u8 ((Int.tmod a0 256) % 256)] from rfl) (Reps.none _ _)))))); intro v161 w2 ho3 hb hg_ hnew_; clear hg_ hnew_; (first | rw [← Ny160.out] at ho3 | (simp only [Int.reduceToNat] at ho3; rw [← Ny160.out] at ho3)); have n0_ := Aside0.mk (Kd.R_lower ho3 (below_size (by repeat (first | (with_reducible first | exact HB.out | apply below_alloc | apply pw_below_drewN | apply below_drew1) | exact HB.out)))); have n1_ := Aside0.mk (below_step (by repeat (first | (with_reducible first | exact HB.out | apply below_alloc | apply pw_below_drewN | apply below_drew1) | exact HB.out)) hb); clear HB; have HO162 := n0_; have HB := n1_; clear n0_ n1_; clear hb ho3))
  go_ret
  exact ⟨_, by first | rfl | (simp [errW_none, errW_some] <;> rfl) | (simp [*, errW_none, errW_some] <;> rfl), by (with_reducible repeat (first | apply Kd.R_alloc | apply Kd.R_drewN | apply Kd.R_drew)); exact HO162.out, by repeat (first | (with_reducible first | exact HB.out | apply below_alloc | apply pw_below_drewN | apply below_drew1) | exact HB.out)⟩

/-! ### pacesetterref01_Seal: function 48 -/
def pacesetterref01_Seal.f (k : Nat) (l0 : List Int) : Option (List Int) := if ([] : List Int).length + l0.length < 140737488355328 then ((some (([] : List Int) ++ l0 : List Int)).bind fun y163 => ((pacesetterref01_Sum.f k l0).bind fun t166 => ((pacesetterref01_Bytes.f t166).bind fun t167 => (if y163.length + t167.length < 140737488355328 then (some (y163 ++ t167)) else (none))))) else (none)
theorem pacesetterref01_Seal.mono : ∀ a0 k, LeO (pacesetterref01_Seal.f k a0) (pacesetterref01_Seal.f (k + 1) a0) := by
  intro a0 k
  unfold pacesetterref01_Seal.f
  repeat' first
      | (with_reducible exact pacesetterref01_Sum.mono _ _)
      | (with_reducible exact LeO.refl _)
      | (with_reducible exact LeO.none _)
      | (with_reducible refine LeO.ite ?_ ?_)
      | (with_reducible refine LeO.bind ?_ (fun _ => ?_))
      | exact pacesetterref01_Sum.mono _ _
      | exact LeO.none _
      | refine LeO.ite ?_ ?_
      | refine LeO.bind ?_ (fun _ => ?_)
set_option maxHeartbeats 8000000 in
set_option maxRecDepth 100000 in
theorem pacesetterref01_Seal.calls (k : Nat) (A0 : Option Addr) (c0 : Nat) (l0 : List Int) (r : List Int) (w : World) (hr0 : Kd.C (Kd.int .u8) w A0 l0.length l0) (hc0 : l0.length ≤ c0) (h : pacesetterref01_Seal.f k l0 = some r) :
    Calls Try.prog 48 #[.slice A0 l0.length c0] w fun e w' => ∃ v0_ : Value, e = .returned (v0_) ∧ Kd.R (Kd.int .u8) 5 w' w.heap.size (fun _ => True) v0_ r ∧ Below w.heap.size w w' := by
  have HR0 := Aside0.mk hr0
  have HC0 := Aside0.mk hc0
  clear hr0 hc0
  have HB := Aside0.mk (Below.refl w.heap.size w)
  have H : (if ([] : List Int).length + l0.length < 140737488355328 then ((some (([] : List Int) ++ l0 : List Int)).bind fun y163 => ((pacesetterref01_Sum.f k l0).bind fun t166 => ((pacesetterref01_Bytes.f t166).bind fun t167 => (if y163.length + t167.length < 140737488355328 then (some (y163 ++ t167)) else (none))))) else (none)) = some r := h
  clear h
  by_cases c2 : ([] : List Int).length + l0.length < 140737488355328
  · rw [if_pos c2] at H
    have LMc2 := Aside0.mk c2
    clear c2
    obtain ⟨y163, hy163⟩ : ∃ y_ : List Int, y_ = (([] : List Int) ++ l0) := ⟨_, rfl⟩
    replace H : ((pacesetterref01_Sum.f k l0).bind fun t166 => ((pacesetterref01_Bytes.f t166).bind fun t167 => (if y163.length + t167.length < 140737488355328 then (some (y163 ++ t167)) else (none)))) = some r := by first | (rw [hy163]; with_reducible exact H) | (have H2_ := (Option.bind_some _ _).symm.trans H; rw [hy163]; with_reducible exact H2_) | (have H2_ := (Option.bind_some _ _).symm.trans H; with_reducible exact H2_) | with_reducible exact H | (rw [hy163]; exact H) | exact H
    have Ny163 := Aside0.mk hy163
    clear hy163
    replace H := Option.bind_eq_some_iff.mp H
    obtain ⟨t166, A30, H⟩ := H
    replace H : ((pacesetterref01_Bytes.f t166).bind fun t167 => (if y163.length + t167.length < 140737488355328 then (some (y163 ++ t167)) else (none))) = some r := H
    have A3 := Aside0.mk A30
    clear A30
    replace H := Option.bind_eq_some_iff.mp H
    obtain ⟨t167, A40, H⟩ := H
    replace H : (if y163.length + t167.length < 140737488355328 then (some (y163 ++ t167)) else (none)) = some r := H
    have A4 := Aside0.mk A40
    clear A40
    by_cases c5 : y163.length + t167.length < 140737488355328
    · rw [if_pos c5] at H
      have LMc5 := Aside0.mk c5
      clear c5
      obtain ⟨y170, hy170⟩ : ∃ y_ : List Int, y_ = (y163 ++ t167) := ⟨_, rfl⟩
      replace H : (some y170) = some r := by first | (rw [hy170]; with_reducible exact H) | (have H2_ := (Option.bind_some _ _).symm.trans H; rw [hy170]; with_reducible exact H2_) | (have H2_ := (Option.bind_some _ _).symm.trans H; with_reducible exact H2_) | with_reducible exact H | (rw [hy170]; exact H) | exact H
      have Ny170 := Aside0.mk hy170
      clear hy170
      obtain rfl := Option.some.inj H
      go_enter Try.func48, Try.ntmps48
      go_wp2_with (first | ((with_reducible refine gate_builtin (b := .append) (xs := #[.tmp 4, .tmp 5]) rfl ?_); at_builtin; refine Kd.R_append_rows (Kd.int .u8) (w0 := w) w.heap.size rfl (.tmp 4) (.tmp 5) 22 5 (.int .u8 0) 1 rfl Try.underlying22 info5 rfl (by decide) (by omega) (.slice none 0 0) ([] : List Int) l0 _ _ _ (fun _ => True) (fun _ => False) rfl rfl ?aO ?aR (fun _ _ h => h) (fun _ h => h.elim) ?aF ?aB ?aS ?aL ?_; (case aR => repeat (first | exact HR0.out | (with_reducible refine Kd.C_alloc ?_ _) | (with_reducible refine Kd.C_drewN ?_ _) | (with_reducible refine Kd.C_drew ?_))); (case aB => exact (by repeat (first | (with_reducible first | exact HB.out | apply below_alloc | apply pw_below_drewN | apply below_drew1) | exact HB.out))); (case aF => exact (fun _ _ => trivial)); (case aO => exact ((Kd.R_nil _ _ _ _ (fun _ => True)))); (case aS => exact (below_size (by repeat (first | (with_reducible first | exact HB.out | apply below_alloc | apply pw_below_drewN | apply below_drew1) | exact HB.out)))); (case aL => have := LMc2.out; omega); intro v164 w6 ho hb hg hat; rw [← Ny163.out] at ho; have n0_ := Aside0.mk (hb); have n1_ := Aside0.mk (ho); clear HB; have HB := n0_; have HO165 := n1_; clear n0_ n1_; clear ho hb hg hat) | ((with_reducible refine gate_callee (f := 31) rfl ?_); refine goesL_ (some 9) rfl rfl Try.func31 (by kernel_rfl) rfl #[.slice A0 l0.length c0] rfl (by (try simp only [List.map_toArray, List.map_cons, List.map_nil]); first | done | rfl | (simp only [List.length_drop, List.length_take]; rfl)) ?_; (with_reducible refine (pacesetterref01_Sum.calls k _ _ l0 t166 _ ?side1 ?side2 A3.out).mono ?_); (case side1 => repeat (first | exact (Kd.C_below HR0.out HB.out) | (with_reducible refine Kd.C_alloc ?_ _) | (with_reducible refine Kd.C_drewN ?_ _) | (with_reducible refine Kd.C_drew ?_))); (case side2 => exact HC0.out); rintro e w' ⟨rfl, ⟨nd, rfl⟩⟩; refine ⟨_, rfl, ?_⟩) | ((with_reducible refine gate_callee (f := 34) rfl ?_); refine goesL_ (some 10) rfl rfl Try.func34 (by kernel_rfl) rfl #[.int .u32 t166] rfl (by (try simp only [List.map_toArray, List.map_cons, List.map_nil]); first | done | rfl | (simp only [List.length_drop, List.length_take]; rfl)) ?_; (with_reducible refine (pacesetterref01_Bytes.calls t166 t167 _ A4.out).mono ?_); rintro e w7 ⟨v168, rfl, ho0, hb⟩; refine ⟨_, rfl, ?_⟩; have n0_ := Aside0.mk (Kd.R_elder' (by (with_reducible repeat (first | apply Kd.R_alloc | apply Kd.R_drewN | apply Kd.R_drew)); exact HO165.out) (Kd.R_base ho0) hb); have n1_ := Aside0.mk (Kd.R_lower (Kd.R_new' ho0 (Kd.R_lt (by (with_reducible repeat (first | apply Kd.R_alloc | apply Kd.R_drewN | apply Kd.R_drew)); exact HO165.out))) (below_size (by repeat (first | (with_reducible first | exact HB.out | apply below_alloc | apply pw_below_drewN | apply below_drew1) | exact HB.out)))); have n2_ := Aside0.mk (below_step (by repeat (first | (with_reducible first | exact HB.out | apply below_alloc | apply pw_below_drewN | apply below_drew1) | exact HB.out)) hb); clear HO165; clear HB; have HO165 := n0_; have HO169 := n1_; have HB := n2_; clear n0_ n1_ n2_; (try clear hb); (try clear hb2); (try clear hk); (try clear hi); (try clear ho0); obtain ⟨Ao9, co9, eo9⟩ := Kd.R_slice HO169.out; subst eo9) | ((with_reducible refine gate_builtin (b := .append) (xs := #[.tmp 7, .tmp 10]) rfl ?_); at_builtin; refine Kd.R_append_rows (Kd.int .u8) (w0 := w) w.heap.size rfl (.tmp 7) (.tmp 10) 22 5 (.int .u8 0) 1 rfl Try.underlying22 info5 rfl (by decide) (by omega) v164 y163 t167 _ _ _ (fun k_ => some k_ ≠ (.slice Ao9 t167.length co9 : Value).ownBlock) (fun _ => False) rfl rfl ?aO ?aR (fun _ _ h => h) (fun _ h => h.elim) ?aF ?aB ?aS ?aL ?_; (case aR => repeat (first | exact (Kd.R_reads' HO169.out).2.2 | (with_reducible refine Kd.C_alloc ?_ _) | (with_reducible refine Kd.C_drewN ?_ _) | (with_reducible refine Kd.C_drew ?_))); (case aB => exact (by repeat (first | (with_reducible first | exact HB.out | apply below_alloc | apply pw_below_drewN | apply below_drew1) | exact HB.out))); (case aF => exact (fun k_ hk => Kd.fresh' (Kd.R_lt (by (with_reducible repeat (first | apply Kd.R_alloc | apply Kd.R_drewN | apply Kd.R_drew)); exact HO169.out)) k_ hk)); (case aO => exact (by (with_reducible repeat (first | apply Kd.R_alloc | apply Kd.R_drewN | apply Kd.R_drew)); exact Kd.R_mono HO165.out (fun _ hk => hk.2))); (case aS => exact (below_size (by repeat (first | (with_reducible first | exact HB.out | apply below_alloc | apply pw_below_drewN | apply below_drew1) | exact HB.out)))); (case aL => have := LMc5.out; omega); intro v171 w8 ho hb hg hat; rw [← Ny170.out] at ho; have n0_ := Aside0.mk (Kd.R_after (ok := (fun _ => True)) (by (with_reducible repeat (first | apply Kd.R_alloc | apply Kd.R_drewN | apply Kd.R_drew)); exact HO169.out) hg hat); have n1_ := Aside0.mk (hb); have n2_ := Aside0.mk (ho); clear HO169; clear HB; clear HO165; have HO169 := n0_; have HB := n1_; have HO172 := n2_; clear n0_ n1_ n2_; clear ho hb hg hat))
      go_ret
      exact ⟨_, by first | rfl | (simp [errW_none, errW_some] <;> rfl) | (simp [*, errW_none, errW_some] <;> rfl), by (with_reducible repeat (first | apply Kd.R_alloc | apply Kd.R_drewN | apply Kd.R_drew)); exact Kd.R_mono HO172.out (fun _ hk => trivial), by repeat (first | (with_reducible first | exact HB.out | apply below_alloc | apply pw_below_drewN | apply below_drew1) | exact HB.out)⟩
    · rw [if_neg c5] at H
      exact absurd H (by simp)
  · rw [if_neg c2] at H
    exact absurd H (by simp)

end Go.Proofs.Ytbcienbnhchdeaa.Print

-- Printed by a program of this session (wip/patch_print.py over the kit's print); Lean checks it.
namespace Go.Proofs.Ytbcienbnhchdeaa.Print
open Go.RowKit Go.Proofs.YtbcienbnhchdeaaW.PrintWords Go.Proofs.YtbcienbnhchdeaaW.PrintLast Go.Proofs.YtbcienbnhchdeaaW.PrintMore
attribute [local go_sem] max2_int min2_int max_two min_two max_three min_three max_four min_four   -- for this text's walks alone
set_option linter.unusedVariables false
set_option linter.unusedSimpArgs false

/-! ### pacesetterref04_of: function 98 -/
def pacesetterref04_of.f (k : Nat) (l0 : List Int) : Option (List Int) := (some (([(wrap64 ((l0.length : Int) / 256)) % 256, (l0.length : Int) % 256] : List Int) : List Int)).bind fun y173 => (if y173.length + l0.length < 140737488355328 then ((pacesetterref01_Seal.f k (y173 ++ l0)).bind fun t179 => (some t179)) else (none))
theorem pacesetterref04_of.mono : ∀ a0 k, LeO (pacesetterref04_of.f k a0) (pacesetterref04_of.f (k + 1) a0) := by
  intro a0 k
  unfold pacesetterref04_of.f
  repeat' first
      | (with_reducible exact pacesetterref01_Seal.mono _ _)
      | (with_reducible exact LeO.refl _)
      | (with_reducible exact LeO.none _)
      | (with_reducible refine LeO.ite ?_ ?_)
      | (with_reducible refine LeO.bind ?_ (fun _ => ?_))
      | exact pacesetterref01_Seal.mono _ _
      | exact LeO.none _
      | refine LeO.ite ?_ ?_
      | refine LeO.bind ?_ (fun _ => ?_)
set_option maxHeartbeats 8000000 in
set_option maxRecDepth 100000 in
theorem pacesetterref04_of.calls (k : Nat) (A0 : Option Addr) (c0 : Nat) (l0 : List Int) (r : List Int) (w : World) (hr0 : Kd.C (Kd.int .u8) w A0 l0.length l0) (hc0 : l0.length ≤ c0) (h : pacesetterref04_of.f k l0 = some r) :
    Calls Try.prog 98 #[.slice A0 l0.length c0] w fun e w' => ∃ v0_ : Value, e = .returned (v0_) ∧ Kd.R (Kd.int .u8) 5 w' w.heap.size (fun _ => True) v0_ r ∧ Below w.heap.size w w' := by
  have HR0 := Aside0.mk hr0
  have HC0 := Aside0.mk hc0
  clear hr0 hc0
  have HB := Aside0.mk (Below.refl w.heap.size w)
  have H : ((some (([(wrap64 ((l0.length : Int) / 256)) % 256, (l0.length : Int) % 256] : List Int) : List Int)).bind fun y173 => (if y173.length + l0.length < 140737488355328 then ((pacesetterref01_Seal.f k (y173 ++ l0)).bind fun t179 => (some t179)) else (none))) = some r := h
  clear h
  obtain ⟨y173, hy173⟩ : ∃ y_ : List Int, y_ = (([(wrap64 ((l0.length : Int) / 256)) % 256, (l0.length : Int) % 256] : List Int)) := ⟨_, rfl⟩
  replace H : (if y173.length + l0.length < 140737488355328 then ((pacesetterref01_Seal.f k (y173 ++ l0)).bind fun t179 => (some t179)) else (none)) = some r := by first | (rw [hy173]; with_reducible exact H) | (have H2_ := (Option.bind_some _ _).symm.trans H; rw [hy173]; with_reducible exact H2_) | (have H2_ := (Option.bind_some _ _).symm.trans H; with_reducible exact H2_) | with_reducible exact H | (rw [hy173]; exact H) | exact H
  have Ny173 := Aside0.mk hy173
  clear hy173
  by_cases c2 : y173.length + l0.length < 140737488355328
  · rw [if_pos c2] at H
    have LMc2 := Aside0.mk c2
    clear c2
    obtain ⟨y176, hy176⟩ : ∃ y_ : List Int, y_ = (y173 ++ l0) := ⟨_, rfl⟩
    replace H : ((pacesetterref01_Seal.f k y176).bind fun t179 => (some t179)) = some r := by first | (rw [hy176]; with_reducible exact H) | (have H2_ := (Option.bind_some _ _).symm.trans H; rw [hy176]; with_reducible exact H2_) | (have H2_ := (Option.bind_some _ _).symm.trans H; with_reducible exact H2_) | with_reducible exact H | (rw [hy176]; exact H) | exact H
    have Ny176 := Aside0.mk hy176
    clear hy176
    replace H := Option.bind_eq_some_iff.mp H
    obtain ⟨t179, A30, H⟩ := H
    replace H : (some t179) = some r := H
    have A3 := Aside0.mk A30
    clear A30
    obtain rfl := Option.some.inj H
    go_enter Try.func98, Try.ntmps98
    go_wp2_with (first | ((with_reducible refine gate_dst (N := 12) rfl ?_); refine Kd.R_lit (Kd.int .u8) _ 5 ?hg (N := 12) ?hd (xs := ([(wrap64 ((l0.length : Int) / 256)) % 256, (l0.length : Int) % 256] : List Int)) (inner := [.int .u8 ((wrap64 ((l0.length : Int) / 256)) % 256), .int .u8 ((l0.length : Int) % 256)]) (ok := fun _ => True) (okp := fun _ => True) ?hr ?hp (fun _ hk => hk) trivial (Below.refl _ _) (Nat.le_refl _) (by simp) ?_; (case hd => rfl); (case hg => rfl); (case hr => first | (go_simp; done) | (go_simp; rfl)); (case hp => exact (Reps.one (show Kd.M (Kd.int .u8) _ _ _ ((wrap64 ((l0.length : Int) / 256)) % 256) [.int .u8 ((wrap64 ((l0.length : Int) / 256)) % 256)] from rfl) (Reps.one (show Kd.M (Kd.int .u8) _ _ _ ((l0.length : Int) % 256) [.int .u8 ((l0.length : Int) % 256)] from rfl) (Reps.none _ _)))); intro v174 w4 ho5 hb hg_ hnew_; clear hg_ hnew_; (first | rw [← Ny173.out] at ho5 | (simp only [Int.reduceToNat] at ho5; rw [← Ny173.out] at ho5)); have n0_ := Aside0.mk (Kd.R_lower ho5 (below_size (by repeat (first | (with_reducible first | exact HB.out | apply below_alloc | apply pw_below_drewN | apply below_drew1) | exact HB.out)))); have n1_ := Aside0.mk (below_step (by repeat (first | (with_reducible first | exact HB.out | apply below_alloc | apply pw_below_drewN | apply below_drew1) | exact HB.out)) hb); clear HB; have HO175 := n0_; have HB := n1_; clear n0_ n1_; clear hb ho5) | ((with_reducible refine gate_builtin (b := .append) (xs := #[.tmp 13, .tmp 14]) rfl ?_); at_builtin; refine Kd.R_append_rows (Kd.int .u8) (w0 := w) w.heap.size rfl (.tmp 13) (.tmp 14) 22 5 (.int .u8 0) 1 rfl Try.underlying22 info5 rfl (by decide) (by omega) v174 y173 l0 _ _ _ (fun _ => True) (fun _ => False) rfl rfl ?aO ?aR (fun _ _ h => h) (fun _ h => h.elim) ?aF ?aB ?aS ?aL ?_; (case aR => repeat (first | exact (Kd.C_below HR0.out HB.out) | (with_reducible refine Kd.C_alloc ?_ _) | (with_reducible refine Kd.C_drewN ?_ _) | (with_reducible refine Kd.C_drew ?_))); (case aB => exact (by repeat (first | (with_reducible first | exact HB.out | apply below_alloc | apply pw_below_drewN | apply below_drew1) | exact HB.out))); (case aF => exact (fun _ _ => trivial)); (case aO => exact (by (with_reducible repeat (first | apply Kd.R_alloc | apply Kd.R_drewN | apply Kd.R_drew)); exact HO175.out)); (case aS => exact (below_size (by repeat (first | (with_reducible first | exact HB.out | apply below_alloc | apply pw_below_drewN | apply below_drew1) | exact HB.out)))); (case aL => have := LMc2.out; omega); intro v177 w6 ho hb hg hat; rw [← Ny176.out] at ho; have n0_ := Aside0.mk (hb); have n1_ := Aside0.mk (ho); clear HB; clear HO175; have HB := n0_; have HO178 := n1_; clear n0_ n1_; clear ho hb hg hat; obtain ⟨Ao7, co7, eo7⟩ := Kd.R_slice HO178.out; subst eo7) | ((with_reducible refine gate_callee (f := 48) rfl ?_); refine goesL_ (some 16) rfl rfl Try.func48 (by kernel_rfl) rfl #[.slice Ao7 y176.length co7] rfl (by (try simp only [List.map_toArray, List.map_cons, List.map_nil]); first | done | rfl | (simp only [List.length_drop, List.length_take]; rfl)) ?_; (with_reducible refine (pacesetterref01_Seal.calls k _ _ y176 t179 _ ?side1 ?side2 A3.out).mono ?_); (case side1 => repeat (first | exact (Kd.R_reads' HO178.out).2.2 | (with_reducible refine Kd.C_alloc ?_ _) | (with_reducible refine Kd.C_drewN ?_ _) | (with_reducible refine Kd.C_drew ?_))); (case side2 => exact (Kd.R_reads' HO178.out).2.1); rintro e w8 ⟨v180, rfl, ho0, hb⟩; refine ⟨_, rfl, ?_⟩; have n0_ := Aside0.mk (Kd.R_elder' (by (with_reducible repeat (first | apply Kd.R_alloc | apply Kd.R_drewN | apply Kd.R_drew)); exact HO178.out) (Kd.R_base ho0) hb); have n1_ := Aside0.mk (Kd.R_lower (Kd.R_new' ho0 (Kd.R_lt (by (with_reducible repeat (first | apply Kd.R_alloc | apply Kd.R_drewN | apply Kd.R_drew)); exact HO178.out))) (below_size (by repeat (first | (with_reducible first | exact HB.out | apply below_alloc | apply pw_below_drewN | apply below_drew1) | exact HB.out)))); have n2_ := Aside0.mk (below_step (by repeat (first | (with_reducible first | exact HB.out | apply below_alloc | apply pw_below_drewN | apply below_drew1) | exact HB.out)) hb); clear HO178; clear HB; have HO178 := n0_; have HO181 := n1_; have HB := n2_; clear n0_ n1_ n2_; (try clear hb); (try clear hb2); (try clear hk); (try clear hi); (try clear ho0)))
    go_ret
    exact ⟨_, by first | rfl | (simp [errW_none, errW_some] <;> rfl) | (simp [*, errW_none, errW_some] <;> rfl), by (with_reducible repeat (first | apply Kd.R_alloc | apply Kd.R_drewN | apply Kd.R_drew)); exact Kd.R_mono HO181.out (fun _ hk => trivial), by repeat (first | (with_reducible first | exact HB.out | apply below_alloc | apply pw_below_drewN | apply below_drew1) | exact HB.out)⟩
  · rw [if_neg c2] at H
    exact absurd H (by simp)

/-! ### pacesetterref04_Put: function 63 -/
def pacesetterref04_Put.f (k : Nat) (l0 : List Int) (l1 : List Int) : Option (List Int × Int) := if (l1.length : Int) = 0 then (some (l0, 1)) else (if (l1.length : Int) > 1000 then (some (l0, 12)) else (if ([] : List Int).length + l0.length < 140737488355328 then ((some (([] : List Int) ++ l0 : List Int)).bind fun y182 => ((pacesetterref04_of.f k l1).bind fun t185 => (if y182.length + t185.length < 140737488355328 then (some ((y182 ++ t185), 0)) else (none)))) else (none)))
theorem pacesetterref04_Put.mono : ∀ a0 a1 k, LeO (pacesetterref04_Put.f k a0 a1) (pacesetterref04_Put.f (k + 1) a0 a1) := by
  intro a0 a1 k
  unfold pacesetterref04_Put.f
  repeat' first
      | (with_reducible exact pacesetterref04_of.mono _ _)
      | (with_reducible exact LeO.refl _)
      | (with_reducible exact LeO.none _)
      | (with_reducible refine LeO.ite ?_ ?_)
      | (with_reducible refine LeO.bind ?_ (fun _ => ?_))
      | exact pacesetterref04_of.mono _ _
      | exact LeO.none _
      | refine LeO.ite ?_ ?_
      | refine LeO.bind ?_ (fun _ => ?_)
set_option maxHeartbeats 8000000 in
set_option maxRecDepth 100000 in
theorem pacesetterref04_Put.calls (k : Nat) (P0_ : Nat → Prop) (u9000_ : Value) (l0 : List Int) (A1 : Option Addr) (c1 : Nat) (l1 : List Int) (r1 : List Int) (r2 : Int) (w0 w : World) (hB : Below w0.heap.size w0 w) (ho0 : Kd.R (Kd.int .u8) 5 w w0.heap.size P0_ u9000_ l0) (hr1 : ∀ W_, Kept w W_ (fun k_ => P0_ k_) → Kd.C (Kd.int .u8) W_ A1 l1.length l1) (hc1 : l1.length ≤ c1) (h : pacesetterref04_Put.f k l0 l1 = some (r1, r2)) :
    Calls Try.prog 63 #[u9000_, .slice A1 l1.length c1] w fun e w' => ∃ v0_ : Value, e = .returned (.tuple #[v0_, .int .i64 r2]) ∧ Kd.R (Kd.int .u8) 5 w' w0.heap.size (fun k_ => (P0_ k_ ∨ w.heap.size ≤ k_)) v0_ r1 ∧ Below w0.heap.size w0 w' ∧ Kept w w' (fun k_ => P0_ k_) := by
  have HO0 := Aside0.mk (show Kd.R (Kd.int .u8) 5 w w0.heap.size (fun k_ => (P0_ k_ ∨ w.heap.size ≤ k_)) u9000_ l0 from Kd.R_mono ho0 (fun k_ hk => (.inl hk)))
  have HR1 := Aside0.mk hr1
  have HC1 := Aside0.mk hc1
  clear hr1 hc1
  have HK := Aside0.mk (Kept.refl w (fun k_ => P0_ k_))
  have HW0 := Aside0.mk hB.size
  have HB := Aside0.mk hB
  clear hB
  have H : (if (l1.length : Int) = 0 then (some (l0, 1)) else (if (l1.length : Int) > 1000 then (some (l0, 12)) else (if ([] : List Int).length + l0.length < 140737488355328 then ((some (([] : List Int) ++ l0 : List Int)).bind fun y182 => ((pacesetterref04_of.f k l1).bind fun t185 => (if y182.length + t185.length < 140737488355328 then (some ((y182 ++ t185), 0)) else (none)))) else (none)))) = some (r1, r2) := h
  clear h
  by_cases c3 : (l1.length : Int) = 0
  · rw [if_pos c3] at H
    have c3b0 : ((l1.length : Int) == 0) = true := beq_iff_eq.mpr c3
    have c3b1 : ((l1.length : Int) != 0) = false := bne_eq_false_iff_eq.mpr c3
    clear c3
    simp only [Option.some.injEq, Prod.mk.injEq] at H
    obtain ⟨rfl, rfl⟩ := H
    go_enter Try.func63, Try.ntmps63
    go_wp2
    go_ret2
    exact ⟨_, by first | rfl | (simp [errW_none, errW_some] <;> rfl) | (simp [*, errW_none, errW_some] <;> rfl), by (with_reducible repeat (first | apply Kd.R_alloc | apply Kd.R_drewN | apply Kd.R_drew)); exact HO0.out, by repeat (first | (with_reducible first | exact HB.out | apply below_alloc | apply pw_below_drewN | apply below_drew1) | exact HB.out), by repeat (first | (with_reducible first | exact HK.out | apply Kept.alloc | apply Kept.drewN | apply Kept.drew) | exact HK.out)⟩
  · rw [if_neg c3] at H
    have c3b0 : ((l1.length : Int) == 0) = false := beq_eq_false_iff_ne.mpr c3
    have c3b1 : ((l1.length : Int) != 0) = true := bne_iff_ne.mpr c3
    have c3b2 : ¬ (l1 = []) := fun h_ => c3 (by rw [h_]; rfl)
    by_cases c4 : (l1.length : Int) > 1000
    · rw [if_pos c4] at H
      have c4b0 : decide (1000 < (l1.length : Int)) = true := decide_eq_true c4
      have c4b1 : decide (1000 < l1.length) = true := decide_eq_true (by omega)
      clear c4
      simp only [Option.some.injEq, Prod.mk.injEq] at H
      obtain ⟨rfl, rfl⟩ := H
      go_enter Try.func63, Try.ntmps63
      go_wp2
      go_ret2
      exact ⟨_, by first | rfl | (simp [errW_none, errW_some] <;> rfl) | (simp [*, errW_none, errW_some] <;> rfl), by (with_reducible repeat (first | apply Kd.R_alloc | apply Kd.R_drewN | apply Kd.R_drew)); exact HO0.out, by repeat (first | (with_reducible first | exact HB.out | apply below_alloc | apply pw_below_drewN | apply below_drew1) | exact HB.out), by repeat (first | (with_reducible first | exact HK.out | apply Kept.alloc | apply Kept.drewN | apply Kept.drew) | exact HK.out)⟩
    · rw [if_neg c4] at H
      have c4b0 : decide (1000 < (l1.length : Int)) = false := decide_eq_false c4
      have c4b1 : decide (1000 < l1.length) = false := decide_eq_false (by omega)
      clear c4
      by_cases c5 : ([] : List Int).length + l0.length < 140737488355328
      · rw [if_pos c5] at H
        have LMc5 := Aside0.mk c5
        clear c5
        obtain ⟨y182, hy182⟩ : ∃ y_ : List Int, y_ = (([] : List Int) ++ l0) := ⟨_, rfl⟩
        replace H : ((pacesetterref04_of.f k l1).bind fun t185 => (if y182.length + t185.length < 140737488355328 then (some ((y182 ++ t185), 0)) else (none))) = some (r1, r2) := by first | (rw [hy182]; with_reducible exact H) | (have H2_ := (Option.bind_some _ _).symm.trans H; rw [hy182]; with_reducible exact H2_) | (have H2_ := (Option.bind_some _ _).symm.trans H; with_reducible exact H2_) | with_reducible exact H | (rw [hy182]; exact H) | exact H
        have Ny182 := Aside0.mk hy182
        clear hy182
        replace H := Option.bind_eq_some_iff.mp H
        obtain ⟨t185, A60, H⟩ := H
        replace H : (if y182.length + t185.length < 140737488355328 then (some ((y182 ++ t185), 0)) else (none)) = some (r1, r2) := H
        have A6 := Aside0.mk A60
        clear A60
        by_cases c7 : y182.length + t185.length < 140737488355328
        · rw [if_pos c7] at H
          have LMc7 := Aside0.mk c7
          clear c7
          obtain ⟨y188, hy188⟩ : ∃ y_ : List Int, y_ = (y182 ++ t185) := ⟨_, rfl⟩
          replace H : (some (y188, 0)) = some (r1, r2) := by first | (rw [hy188]; with_reducible exact H) | (have H2_ := (Option.bind_some _ _).symm.trans H; rw [hy188]; with_reducible exact H2_) | (have H2_ := (Option.bind_some _ _).symm.trans H; with_reducible exact H2_) | with_reducible exact H | (rw [hy188]; exact H) | exact H
          have Ny188 := Aside0.mk hy188
          clear hy188
          simp only [Option.some.injEq, Prod.mk.injEq] at H
          obtain ⟨rfl, rfl⟩ := H
          obtain ⟨Ao9, co9, eo9⟩ := Kd.R_slice HO0.out
          subst eo9
          go_enter Try.func63, Try.ntmps63
          go_wp2_with (first | ((with_reducible refine gate_builtin (b := .append) (xs := #[.tmp 15, .tmp 16]) rfl ?_); at_builtin; refine Kd.R_append_rows (Kd.int .u8) (w0 := w0) w0.heap.size rfl (.tmp 15) (.tmp 16) 22 5 (.int .u8 0) 1 rfl Try.underlying22 info5 rfl (by decide) (by omega) (.slice none 0 0) ([] : List Int) l0 _ _ _ (fun k_ => (P0_ k_ ∨ w.heap.size ≤ k_) ∧ some k_ ≠ (.slice Ao9 l0.length co9 : Value).ownBlock) (fun _ => False) rfl rfl ?aO ?aR (fun _ _ h => h) (fun _ h => h.elim) ?aF ?aB ?aS ?aL ?_; (case aR => repeat (first | exact (Kd.R_reads' HO0.out).2.2 | (with_reducible refine Kd.C_alloc ?_ _) | (with_reducible refine Kd.C_drewN ?_ _) | (with_reducible refine Kd.C_drew ?_))); (case aB => exact (by repeat (first | (with_reducible first | exact HB.out | apply below_alloc | apply pw_below_drewN | apply below_drew1) | exact HB.out))); (case aF => exact (fun k_ hk => ⟨(.inr (Nat.le_trans (by first | exact HK.out.1 | exact (show Kept w _ (fun k_ => P0_ k_) from by repeat (first | (with_reducible first | exact HK.out | apply Kept.alloc | apply Kept.drewN | apply Kept.drew) | exact HK.out)).1) hk)), Kd.fresh' (Kd.R_lt (by (with_reducible repeat (first | apply Kd.R_alloc | apply Kd.R_drewN | apply Kd.R_drew)); exact HO0.out)) k_ hk⟩)); (case aO => exact ((Kd.R_nil _ _ _ _ (fun k_ => (P0_ k_ ∨ w.heap.size ≤ k_) ∧ some k_ ≠ (.slice Ao9 l0.length co9 : Value).ownBlock)))); (case aS => exact (below_size (by repeat (first | (with_reducible first | exact HB.out | apply below_alloc | apply pw_below_drewN | apply below_drew1) | exact HB.out)))); (case aL => have := LMc5.out; omega); intro v183 w8 ho hb hg hat; rw [← Ny182.out] at ho; have n0_ := Aside0.mk (Kd.R_after (Kd.R_apart_nil (by (with_reducible repeat (first | apply Kd.R_alloc | apply Kd.R_drewN | apply Kd.R_drew)); exact HO0.out)) hg hat); have n1_ := Aside0.mk (hb); have n2_ := Aside0.mk (Kept.of_grown (S := (fun k_ => P0_ k_)) hg (by repeat (first | (with_reducible first | exact HK.out | apply Kept.alloc | apply Kept.drewN | apply Kept.drew) | exact HK.out)) (fun k_ e_ => by simp [Value.ownBlock] at e_)); have n3_ := Aside0.mk (ho); clear HO0; clear HB; clear HK; have HO0 := n0_; have HB := n1_; have HK := n2_; have HO184 := n3_; clear n0_ n1_ n2_ n3_; clear ho hb hg hat) | ((with_reducible refine gate_callee (f := 98) rfl ?_); refine goesL_ (some 20) rfl rfl Try.func98 (by kernel_rfl) rfl #[.slice A1 l1.length c1] rfl (by (try simp only [List.map_toArray, List.map_cons, List.map_nil]); first | done | rfl | (simp only [List.length_drop, List.length_take]; rfl)) ?_; (with_reducible refine (pacesetterref04_of.calls k _ _ l1 t185 _ ?side1 ?side2 A6.out).mono ?_); (case side1 => exact Kd.C_kept_now HR1.out (by repeat (first | (with_reducible first | exact HK.out | apply Kept.alloc | apply Kept.drewN | apply Kept.drew) | exact HK.out))); (case side2 => exact HC1.out); rintro e w10 ⟨v186, rfl, ho0, hb⟩; refine ⟨_, rfl, ?_⟩; have n0_ := Aside0.mk (Kd.R_elder' (by (with_reducible repeat (first | apply Kd.R_alloc | apply Kd.R_drewN | apply Kd.R_drew)); exact HO0.out) (Kd.R_base ho0) hb); have n1_ := Aside0.mk (Kd.R_elder' (by (with_reducible repeat (first | apply Kd.R_alloc | apply Kd.R_drewN | apply Kd.R_drew)); exact HO184.out) (Kd.R_base ho0) hb); have n2_ := Aside0.mk (Kd.R_lower (Kd.R_new' (Kd.R_new' (Kd.R_newM (M := fun k_ => (P0_ k_ ∨ w.heap.size ≤ k_)) ho0 (by first | exact HK.out.1 | exact (show Kept w _ (fun k_ => P0_ k_) from by repeat (first | (with_reducible first | exact HK.out | apply Kept.alloc | apply Kept.drewN | apply Kept.drew) | exact HK.out)).1) (fun k_ h_ => .inr h_)) (Kd.R_lt (by (with_reducible repeat (first | apply Kd.R_alloc | apply Kd.R_drewN | apply Kd.R_drew)); exact HO0.out))) (Kd.R_lt (by (with_reducible repeat (first | apply Kd.R_alloc | apply Kd.R_drewN | apply Kd.R_drew)); exact HO184.out))) (below_size (by repeat (first | (with_reducible first | exact HB.out | apply below_alloc | apply pw_below_drewN | apply below_drew1) | exact HB.out)))); have n3_ := Aside0.mk (Kept.below (S := (fun k_ => P0_ k_)) (by repeat (first | (with_reducible first | exact HK.out | apply Kept.alloc | apply Kept.drewN | apply Kept.drew) | exact HK.out)) hb); have n4_ := Aside0.mk (below_step (by repeat (first | (with_reducible first | exact HB.out | apply below_alloc | apply pw_below_drewN | apply below_drew1) | exact HB.out)) hb); clear HO0; clear HO184; clear HK; clear HB; have HO0 := n0_; have HO184 := n1_; have HO187 := n2_; have HK := n3_; have HB := n4_; clear n0_ n1_ n2_ n3_ n4_; (try clear hb); (try clear hb2); (try clear hk); (try clear hi); (try clear ho0); obtain ⟨Ao12, co12, eo12⟩ := Kd.R_slice HO187.out; subst eo12) | ((with_reducible refine gate_builtin (b := .append) (xs := #[.tmp 18, .tmp 20]) rfl ?_); at_builtin; refine Kd.R_append_rows (Kd.int .u8) (w0 := w0) w0.heap.size rfl (.tmp 18) (.tmp 20) 22 5 (.int .u8 0) 1 rfl Try.underlying22 info5 rfl (by decide) (by omega) v183 y182 t185 _ _ _ (fun k_ => (P0_ k_ ∨ w.heap.size ≤ k_) ∧ some k_ ≠ (.slice Ao9 l0.length co9 : Value).ownBlock ∧ some k_ ≠ (.slice Ao12 t185.length co12 : Value).ownBlock) (fun _ => False) rfl rfl ?aO ?aR (fun _ _ h => h) (fun _ h => h.elim) ?aF ?aB ?aS ?aL ?_; (case aR => repeat (first | exact (Kd.R_reads' HO187.out).2.2 | (with_reducible refine Kd.C_alloc ?_ _) | (with_reducible refine Kd.C_drewN ?_ _) | (with_reducible refine Kd.C_drew ?_))); (case aB => exact (by repeat (first | (with_reducible first | exact HB.out | apply below_alloc | apply pw_below_drewN | apply below_drew1) | exact HB.out))); (case aF => exact (fun k_ hk => ⟨(.inr (Nat.le_trans (by first | exact HK.out.1 | exact (show Kept w _ (fun k_ => P0_ k_) from by repeat (first | (with_reducible first | exact HK.out | apply Kept.alloc | apply Kept.drewN | apply Kept.drew) | exact HK.out)).1) hk)), Kd.fresh' (Kd.R_lt (by (with_reducible repeat (first | apply Kd.R_alloc | apply Kd.R_drewN | apply Kd.R_drew)); exact HO0.out)) k_ hk, Kd.fresh' (Kd.R_lt (by (with_reducible repeat (first | apply Kd.R_alloc | apply Kd.R_drewN | apply Kd.R_drew)); exact HO187.out)) k_ hk⟩)); (case aO => exact (by (with_reducible repeat (first | apply Kd.R_alloc | apply Kd.R_drewN | apply Kd.R_drew)); exact Kd.R_mono HO184.out (fun _ hk => ⟨hk.1.1, ⟨hk.1.2, hk.2⟩⟩))); (case aS => exact (below_size (by repeat (first | (with_reducible first | exact HB.out | apply below_alloc | apply pw_below_drewN | apply below_drew1) | exact HB.out)))); (case aL => have := LMc7.out; omega); intro v189 w11 ho hb hg hat; rw [← Ny188.out] at ho; have n0_ := Aside0.mk (Kd.R_after (ok := (fun k_ => (P0_ k_ ∨ w.heap.size ≤ k_) ∧ some k_ ≠ (.slice Ao12 t185.length co12 : Value).ownBlock)) (by (with_reducible repeat (first | apply Kd.R_alloc | apply Kd.R_drewN | apply Kd.R_drew)); exact Kd.R_mono HO0.out (fun _ hk => ⟨⟨hk.1.1, hk.2⟩, hk.1.2⟩)) hg hat); have n1_ := Aside0.mk (Kd.R_after (ok := (fun k_ => (P0_ k_ ∨ w.heap.size ≤ k_) ∧ some k_ ≠ (.slice Ao9 l0.length co9 : Value).ownBlock)) (by (with_reducible repeat (first | apply Kd.R_alloc | apply Kd.R_drewN | apply Kd.R_drew)); exact Kd.R_mono HO187.out (fun _ hk => ⟨⟨hk.1.1.1, hk.1.2⟩, hk.2⟩)) hg hat); have n2_ := Aside0.mk (hb); have n3_ := Aside0.mk (Kept.of_grown (S := (fun k_ => P0_ k_)) hg (by repeat (first | (with_reducible first | exact HK.out | apply Kept.alloc | apply Kept.drewN | apply Kept.drew) | exact HK.out)) (fun k_ e_ => (HO184.out.1 k_ e_).1.1)); have n4_ := Aside0.mk (ho); clear HO0; clear HO187; clear HB; clear HK; clear HO184; have HO0 := n0_; have HO187 := n1_; have HB := n2_; have HK := n3_; have HO190 := n4_; clear n0_ n1_ n2_ n3_ n4_; clear ho hb hg hat))
          go_ret2
          exact ⟨_, by first | rfl | (simp [errW_none, errW_some] <;> rfl) | (simp [*, errW_none, errW_some] <;> rfl), by (with_reducible repeat (first | apply Kd.R_alloc | apply Kd.R_drewN | apply Kd.R_drew)); exact Kd.R_mono HO190.out (fun _ hk => hk.1), by repeat (first | (with_reducible first | exact HB.out | apply below_alloc | apply pw_below_drewN | apply below_drew1) | exact HB.out), by repeat (first | (with_reducible first | exact HK.out | apply Kept.alloc | apply Kept.drewN | apply Kept.drew) | exact HK.out)⟩
        · rw [if_neg c7] at H
          exact absurd H (by simp)
      · rw [if_neg c5] at H
        exact absurd H (by simp)

-- NOT PRINTED: function 15 (pacesetterlaw04_FramePuts)

end Go.Proofs.Ytbcienbnhchdeaa.Print
