/- The plain law of the check of bytes: numbers and lists alone. -/
namespace Go.Proofs.Ytbcienbnhchdeaa.CrcM

theorem xor_eq_zero {a b : Nat} : a ^^^ b = 0 ↔ a = b := by
  constructor
  · intro h
    apply Nat.eq_of_testBit_eq
    intro i
    have h1 := congrArg (fun n => n.testBit i) h
    simp only [Nat.testBit_xor, Nat.zero_testBit] at h1
    revert h1
    cases a.testBit i <;> cases b.testBit i <;> simp
  · rintro rfl
    exact Nat.xor_self _
theorem xor_right_cancel {a b c : Nat} (h : a ^^^ c = b ^^^ c) : a = b := by
  have := congrArg (fun n => n ^^^ c) h
  simpa [Nat.xor_assoc] using this
theorem xor_left_cancel {a b c : Nat} (h : c ^^^ a = c ^^^ b) : a = b := by
  rw [Nat.xor_comm c, Nat.xor_comm c] at h
  exact xor_right_cancel h

def poly : Nat := 3988292384
def bit1 (w : Nat) : Nat := w / 2 ^^^ (poly * (w % 2))
def bit8 (w : Nat) : Nat := bit1 (bit1 (bit1 (bit1 (bit1 (bit1 (bit1 (bit1 w)))))))
def upd (w : Nat) (c : UInt8) : Nat := bit8 (w ^^^ c.toNat)
def fold (w : Nat) (l : List UInt8) : Nat := l.foldl upd w

theorem xor_div2 (a b : Nat) : (a ^^^ b) / 2 = a / 2 ^^^ b / 2 := by
  simpa [Nat.shiftRight_eq_div_pow] using Nat.shiftRight_xor_distrib (a := a) (b := b) (i := 1)
theorem xor_mod2 (a b : Nat) : (a ^^^ b) % 2 = (a % 2) ^^^ (b % 2) := by
  simpa using Nat.xor_mod_two_pow (a := a) (b := b) (n := 1)
theorem xor_div256 (a b : Nat) : (a ^^^ b) / 256 = a / 256 ^^^ b / 256 := by
  simpa [Nat.shiftRight_eq_div_pow] using Nat.shiftRight_xor_distrib (a := a) (b := b) (i := 8)
theorem xor_mod256 (a b : Nat) : (a ^^^ b) % 256 = (a % 256) ^^^ (b % 256) := by
  simpa using Nat.xor_mod_two_pow (a := a) (b := b) (n := 8)
theorem bit1_xor (a b : Nat) : bit1 (a ^^^ b) = bit1 a ^^^ bit1 b := by
  unfold bit1
  rw [xor_div2, xor_mod2]
  have ha : a % 2 = 0 ∨ a % 2 = 1 := by omega
  have hb : b % 2 = 0 ∨ b % 2 = 1 := by omega
  rcases ha with ha | ha <;> rcases hb with hb | hb <;> simp only [ha, hb]
  · simp
  · simp [Nat.xor_assoc]
  · simp only [Nat.xor_zero, Nat.mul_one, Nat.mul_zero]
    rw [Nat.xor_assoc, Nat.xor_assoc, Nat.xor_comm (b / 2) poly]
  · simp only [Nat.xor_self, Nat.mul_zero, Nat.xor_zero, Nat.mul_one]
    rw [Nat.xor_assoc, ← Nat.xor_assoc poly, Nat.xor_comm poly (b / 2), Nat.xor_assoc, Nat.xor_self, Nat.xor_zero]
theorem bit8_xor (a b : Nat) : bit8 (a ^^^ b) = bit8 a ^^^ bit8 b := by
  unfold bit8
  simp only [bit1_xor]
theorem bit1_lt {w : Nat} (h : w < 4294967296) : bit1 w < 4294967296 := by
  unfold bit1
  apply Nat.xor_lt_two_pow (n := 32)
  · omega
  · unfold poly; omega
theorem bit8_lt {w : Nat} (h : w < 4294967296) : bit8 w < 4294967296 := by
  unfold bit8
  exact bit1_lt (bit1_lt (bit1_lt (bit1_lt (bit1_lt (bit1_lt (bit1_lt (bit1_lt h)))))))
theorem bit1_even (m : Nat) : bit1 (2 * m) = m := by
  unfold bit1
  simp
theorem bit8_high (q : Nat) : bit8 (256 * q) = q := by
  unfold bit8
  rw [show 256 * q = 2 * (2 * (2 * (2 * (2 * (2 * (2 * (2 * q))))))) by omega]
  simp only [bit1_even]
theorem bit1_zero {w : Nat} (h : w < 4294967296) (h0 : bit1 w = 0) : w = 0 := by
  unfold bit1 at h0
  have h1 := xor_eq_zero.1 h0
  unfold poly at h1
  omega
theorem bit8_zero {w : Nat} (h : w < 4294967296) (h0 : bit8 w = 0) : w = 0 := by
  unfold bit8 at h0
  have l1 := bit1_lt h
  have l2 := bit1_lt l1
  have l3 := bit1_lt l2
  have l4 := bit1_lt l3
  have l5 := bit1_lt l4
  have l6 := bit1_lt l5
  have l7 := bit1_lt l6
  exact bit1_zero h (bit1_zero l1 (bit1_zero l2 (bit1_zero l3 (bit1_zero l4 (bit1_zero l5 (bit1_zero l6 (bit1_zero l7 h0)))))))
theorem bit8_inj {a b : Nat} (ha : a < 4294967296) (hb : b < 4294967296) (h : bit8 a = bit8 b) : a = b := by
  have h1 : bit8 (a ^^^ b) = 0 := by rw [bit8_xor, h, Nat.xor_self]
  exact xor_eq_zero.1 (bit8_zero (Nat.xor_lt_two_pow (n := 32) ha hb) h1)
theorem byte_lt (c : UInt8) : c.toNat < 256 := c.toNat_lt
theorem xor_byte_lt {w : Nat} (h : w < 4294967296) (c : UInt8) : w ^^^ c.toNat < 4294967296 :=
  Nat.xor_lt_two_pow (n := 32) h (by have := byte_lt c; omega)
theorem upd_lt {w : Nat} (h : w < 4294967296) (c : UInt8) : upd w c < 4294967296 := bit8_lt (xor_byte_lt h c)
theorem fold_lt (l : List UInt8) : ∀ {w : Nat}, w < 4294967296 → fold w l < 4294967296 := by
  induction l with
  | nil => intro w h; exact h
  | cons c l ih => intro w h; exact ih (upd_lt h c)
/-- A byte by the table: what the program does. -/
theorem table_step {w : Nat} (c : UInt8) : bit8 ((w % 256) ^^^ c.toNat) ^^^ (w / 256) = upd w c := by
  unfold upd
  have hc : c.toNat % 256 = c.toNat := Nat.mod_eq_of_lt (byte_lt c)
  have hc0 : c.toNat / 256 = 0 := Nat.div_eq_of_lt (byte_lt c)
  have e : w ^^^ c.toNat = ((w % 256) ^^^ c.toNat) ^^^ (256 * (w / 256)) := by
    apply Nat.eq_of_testBit_eq
    intro i
    have h256 : w = 2 ^ 8 * (w / 256) + w % 256 := by omega
    have hlt : w % 256 < 2 ^ 8 := by omega
    have hcl : c.toNat < 2 ^ 8 := byte_lt c
    rw [show 256 * (w / 256) = 2 ^ 8 * (w / 256) by rfl]
    simp only [Nat.testBit_xor]
    by_cases hi : i < 8
    · rw [Nat.testBit_two_pow_mul]
      have : w.testBit i = (w % 256).testBit i := by
        rw [show (256 : Nat) = 2 ^ 8 by rfl, Nat.testBit_mod_two_pow]; simp [hi]
      rw [this]
      simp [show ¬ 8 ≤ i by omega]
    · have h1 : (w % 256).testBit i = false := Nat.testBit_lt_two_pow (Nat.lt_of_lt_of_le hlt (Nat.pow_le_pow_right (by omega) (by omega)))
      have h2 : c.toNat.testBit i = false := Nat.testBit_lt_two_pow (Nat.lt_of_lt_of_le hcl (Nat.pow_le_pow_right (by omega) (by omega)))
      rw [h1, h2, Nat.testBit_two_pow_mul]
      have h3 : w.testBit i = (w / 256).testBit (i - 8) := by
        rw [show (256 : Nat) = 2 ^ 8 by rfl, Nat.testBit_div_two_pow]
        congr 1
        omega
      rw [h3]
      simp [show 8 ≤ i by omega]
  rw [e, bit8_xor _ (256 * (w / 256)), bit8_high]
theorem fold_append (w : Nat) (a b : List UInt8) : fold w (a ++ b) = fold (fold w a) b := List.foldl_append ..
theorem fold_inj (l : List UInt8) : ∀ {a b : Nat}, a < 4294967296 → b < 4294967296 → fold a l = fold b l → a = b := by
  induction l with
  | nil => intro a b _ _ h; exact h
  | cons c l ih =>
    intro a b ha hb h
    have h1 := ih (upd_lt ha c) (upd_lt hb c) h
    have h2 := bit8_inj (xor_byte_lt ha c) (xor_byte_lt hb c) h1
    exact xor_right_cancel h2
theorem upd_byte_inj {w : Nat} (h : w < 4294967296) {x y : UInt8} (e : upd w x = upd w y) : x = y := by
  have h2 := bit8_inj (xor_byte_lt h x) (xor_byte_lt h y) e
  exact UInt8.toNat_inj.1 (xor_left_cancel h2)
/-- One byte turned: another check. -/
theorem fold_turn (p q : List UInt8) {x y : UInt8} {w : Nat} (hw : w < 4294967296) (h : fold w (p ++ x :: q) = fold w (p ++ y :: q)) : x = y := by
  rw [fold_append, fold_append] at h
  exact upd_byte_inj (fold_lt p hw) (fold_inj q (upd_lt (fold_lt p hw) x) (upd_lt (fold_lt p hw) y) h)

theorem xor_swap {a b x y : Nat} (h : a ^^^ y = b ^^^ x) : a ^^^ b = x ^^^ y := by
  apply Nat.eq_of_testBit_eq
  intro i
  have h1 := congrArg (fun n => n.testBit i) h
  simp only [Nat.testBit_xor] at h1 ⊢
  revert h1
  cases a.testBit i <;> cases b.testBit i <;> cases x.testBit i <;> cases y.testBit i <;> simp
theorem same_byte : ∀ d : Nat, d < 256 → bit8 d = d → d = 0 := by decide +kernel
theorem high_byte : ∀ d : Nat, d < 256 → bit8 d = d * 16777216 → d = 0 := by decide +kernel
/-- Two neighbours swapped: another check. -/
theorem fold_swap (p q : List UInt8) {x y : UInt8} {w : Nat} (hw : w < 4294967296) (h : fold w (p ++ x :: y :: q) = fold w (p ++ y :: x :: q)) : x = y := by
  rw [fold_append, fold_append] at h
  have hp := fold_lt p hw
  generalize fold w p = v at h hp
  have h1 : upd (upd v x) y = upd (upd v y) x := fold_inj q (upd_lt (upd_lt hp x) y) (upd_lt (upd_lt hp y) x) h
  have h2 := bit8_inj (xor_byte_lt (upd_lt hp x) y) (xor_byte_lt (upd_lt hp y) x) h1
  unfold upd at h2
  rw [bit8_xor, bit8_xor] at h2
  have h3 : bit8 x.toNat ^^^ y.toNat = bit8 y.toNat ^^^ x.toNat := by
    rw [Nat.xor_assoc, Nat.xor_assoc] at h2
    exact xor_left_cancel h2
  have h4 : bit8 (x.toNat ^^^ y.toNat) = x.toNat ^^^ y.toNat := by
    rw [bit8_xor]
    exact xor_swap h3
  have h5 := same_byte _ (Nat.xor_lt_two_pow (n := 8) (byte_lt x) (byte_lt y)) h4
  exact UInt8.toNat_inj.1 (xor_eq_zero.1 h5)
end Go.Proofs.Ytbcienbnhchdeaa.CrcM
