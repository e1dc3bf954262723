/- The check of bytes: what crc.More answers. -/
import Derived.Test.YtbcienbnhchdeaaHandT
import Derived.Test.YtbcienbnhchdeaaWWords
import Derived.Test.YtbcienbnhchdeaaWMore
namespace Go.Proofs.Ytbcienbnhchdeaa.Hand
open Go.RowKit CrcM Go.Proofs.YtbcienbnhchdeaaW.PrintWords
set_option linter.unusedVariables false

/-- Numbers that are bytes. -/
def okB (l : List Int) : Bool := l.all fun x => decide (0 ≤ x) && decide (x < 256)
def byteL (l : List Int) : List UInt8 := l.map fun x => UInt8.ofNat x.toNat
def okW (s : Int) : Bool := decide (0 ≤ s) && decide (s < 4294967296)
def moreI (s : Int) (l : List Int) : Int := 4294967295 - (fold (4294967295 - s.toNat) (byteL l) : Nat)

theorem okB_rd {l : List Int} (h : okB l = true) {n : Nat} (hn : n < l.length) : ∃ c : Nat, c < 256 ∧ l.getD n 0 = (c : Int) ∧ l[n]? = some (c : Int) := by
  have h1 := List.all_eq_true.1 h (l[n]'hn) (List.getElem_mem hn)
  simp only [Bool.and_eq_true, decide_eq_true_eq] at h1
  refine ⟨(l[n]'hn).toNat, by omega, ?_, ?_⟩
  · rw [List.getD_eq_getElem?_getD, List.getElem?_eq_getElem hn]
    simp only [Option.getD_some]
    omega
  · rw [List.getElem?_eq_getElem hn]
    congr 1
    omega
theorem byteL_snoc {l : List Int} {n c : Nat} (hn : n < l.length) (h : l[n]? = some (c : Int)) : byteL (l.take (n + 1)) = byteL (l.take n) ++ [UInt8.ofNat c] := by
  unfold byteL
  rw [List.take_add_one, h]
  simp
theorem fold_snoc (w : Nat) (l : List UInt8) (c : UInt8) : fold w (l ++ [c]) = upd (fold w l) c := by
  rw [fold_append]
  rfl
theorem xor_max {s : Nat} (h : s < 4294967296) : 4294967295 ^^^ s = 4294967295 - s := by
  have e : (4294967295 ^^^ s) = (BitVec.allOnes 32 ^^^ BitVec.ofNat 32 s).toNat := by
    rw [BitVec.toNat_xor]
    simp only [BitVec.toNat_allOnes, BitVec.toNat_ofNat]
    rw [Nat.mod_eq_of_lt (show s < 2 ^ 32 by omega)]
  rw [e, BitVec.allOnes_xor, BitVec.toNat_not]
  simp only [BitVec.toNat_ofNat]
  omega
theorem not_u32 {s : Nat} (h : s < 4294967296) : bits .xor .u32 IntKind.u32.max (s : Int) = ((4294967295 - s : Nat) : Int) := by
  have e : IntKind.u32.max = ((4294967295 : Nat) : Int) := by decide
  rw [e, u32_xor_nat _ _ (by omega) h, xor_max h]
/-- A cell of a byte slice, by its number. -/
theorem byte_at {w : World} {A : Option Addr} {l : List Int} (hr : Kd.C (Kd.int .u8) w A l.length l) {n : Nat} (hn : n < l.length) : ∃ ad, A = some ad ∧ w.cell? (ad.add n) = some (.int .u8 (l.getD n 0)) := by
  obtain ⟨ad, e, hc⟩ := hr.2.2 (by omega)
  refine ⟨ad, e, ?_⟩
  obtain ⟨c, _, hcs, hcell⟩ := hc n (l[n]'hn) (List.getElem?_eq_getElem hn)
  have hcs' : c = [.int .u8 (l[n]'hn)] := hcs
  subst hcs'
  have := hcell 0 (.int .u8 (l[n]'hn)) rfl
  have e2 : n * (Kd.int .u8).sz + 0 = n := by show n * 1 + 0 = n; omega
  rw [e2] at this
  rw [this, List.getD_eq_getElem?_getD, List.getElem?_eq_getElem hn]
  rfl

set_option maxRecDepth 100000 in
set_option maxHeartbeats 1000000 in
theorem more_any (s : Nat) (A : Option Addr) (c : Nat) (l : List Int) (w : World) (hs : s < 4294967296) (hl : okB l = true) (hlen : l.length ≤ 140737488355328) (hr : Kd.C (Kd.int .u8) w A l.length l) :
    Calls Try.prog 29 #[.int .u32 (s : Int), .slice A l.length c] w fun e w' => e = .returned (.int .u32 (moreI s l)) ∧ Below w.heap.size w w' := by
  have HR := Aside0.mk hr
  have HL := Lib.hid hl
  have hx := not_u32 hs
  clear hr hl
  obtain ⟨W, hW⟩ : ∃ W, 4294967295 - s = W := ⟨_, rfl⟩
  have hWl : W < 4294967296 := by omega
  rw [hW] at hx
  have HW := Lib.hid hW
  clear hW
  go_enter Try.func29, Try.ntmps29
  go_wp2_with (go_at_call 93; refine (table_any _).mono ?_; rintro e w1 ⟨rfl, hT⟩; have HT := Lib.hid hT; clear hT)
  clear hx
  go_loop [6, 14] (fun v i => ∃ n : Nat, n ≤ l.length ∧ i = .int .i64 (n : Int) ∧ v = .int .u32 ((fold W (byteL (l.take n)) : Nat) : Int)) (fun _ i => l.length - (intOf i).toNat)
  case atStart => exact ⟨0, by omega, rfl, by simp [byteL, fold]⟩
  case round =>
    obtain ⟨n, hn, rfl, rfl⟩ := hrel
    have hF := fold_lt (byteL (l.take n)) hWl
    by_cases hlt : n < l.length
    · obtain ⟨b, hb, hbd, hbg⟩ := okB_rd HL.out hlt
      have hst := fold_snoc W (byteL (l.take n)) (UInt8.ofNat b)
      rw [← byteL_snoc hlt hbg] at hst
      have HST := Lib.hid hst
      clear hst
      generalize fold W (byteL (l.take n)) = v at hF HST ⊢
      have hcB := Kd.C_below HR.out HT.out.below
      obtain ⟨ad, rfl, hcell⟩ := byte_at hcB hlt
      rw [hbd] at hcell
      clear hcB hbd hbg
      obtain ⟨x, hx⟩ : ∃ x, (v % 256) ^^^ b = x := ⟨_, rfl⟩
      have hxl : x < 256 := by rw [← hx]; exact Nat.xor_lt_two_pow (n := 8) (by omega) (by omega)
      have hx8 : bits .xor .u8 ((v : Int) % 256) (b : Int) = (x : Int) := by
        rw [show ((v : Int) % 256) = ((v % 256 : Nat) : Int) by omega, u8_xor_nat _ _ (by omega) hb, hx]
      have hup : upd v (UInt8.ofNat b) = bit8 x ^^^ (v / 256) := by
        rw [← table_step, ← hx]
        have e : (UInt8.ofNat b).toNat = b := by simp; omega
        rw [e]
      have hy : bit8 x < 4294967296 := bit8_lt (by omega)
      have hcx : w1.cell? ⟨w.heap.size, x, none⟩ = some (.int .u32 ((bit8 x : Nat) : Int)) := by
        obtain ⟨cs, hb1, _, hb2⟩ := HT.out.row
        rw [hb1.cell]
        exact hb2 x hxl
      rw [hup] at HST
      clear hx hup
      generalize bit8 x = y at HST hcx hy
      have hxy : bits .xor .u32 (y : Int) ((v : Int) / 256) = ((y ^^^ (v / 256) : Nat) : Int) := by
        rw [show ((v : Int) / 256) = ((v / 256 : Nat) : Int) by omega, u32_xor_nat _ _ hy (by omega)]
      go_wp2
      go_round
      case rel => exact ⟨n + 1, by omega, by go_num, by rw [HST.out]⟩
      case measure => simp [intOf]; omega
    · obtain rfl : n = l.length := by omega
      rw [List.take_length] at hF ⊢
      have hq := not_u32 hF
      have hfin : ((4294967295 - fold W (byteL l) : Nat) : Int) = moreI (s : Int) l := by
        unfold moreI
        rw [← HW.out]
        simp only [Int.toNat_natCast]
        have := HW.out
        rw [this]
        omega
      rw [hfin] at hq
      have HQ := Lib.hid hq
      clear hq hfin
      go_wp2
      go_ret
      exact ⟨by rw [← HQ.out]; rfl, HT.out.below⟩
end Go.Proofs.Ytbcienbnhchdeaa.Hand
