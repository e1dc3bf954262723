/- The check of bytes: plain lemmas over the printed functions. -/
import Derived.Test.YtbcienbnhchdeaaPrint2
import Derived.Test.YtbcienbnhchdeaaPrint5
import Derived.Test.YtbcienbnhchdeaaPrint11
import Derived.Lib.Bytes
namespace Go.Proofs.Ytbcienbnhchdeaa.CrcL
open Go.RowKit Go.Proofs.Ytbcienbnhchdeaa.Print Go.Proofs.YtbcienbnhchdeaaW.PrintWords Go.Proofs.YtbcienbnhchdeaaW.PrintLast Go.Proofs.YtbcienbnhchdeaaW.PrintMore Hand CrcM

/-! ### Bytes as numbers -/
theorem okB_iff {l : List Int} : okB l = true ↔ ∀ x ∈ l, 0 ≤ x ∧ x < 256 := by
  unfold okB
  rw [List.all_eq_true]
  simp
theorem okB_wf {l : List Int} (h : ∀ x ∈ l, (Lit.int .u8 x).wf = true) : okB l = true := by
  rw [okB_iff]
  intro x hx
  have h1 := h x hx
  simp only [Lit.wf, Bool.and_eq_true, decide_eq_true_eq] at h1
  have e1 : IntKind.u8.min = 0 := by decide
  have e2 : IntKind.u8.max = 255 := by decide
  omega
theorem okB_append {a b : List Int} : okB (a ++ b) = true ↔ okB a = true ∧ okB b = true := by
  simp only [okB, List.all_append, Bool.and_eq_true]
theorem okB_take {l : List Int} (h : okB l = true) (n : Nat) : okB (l.take n) = true := by
  rw [okB_iff] at h ⊢
  exact fun x hx => h x (List.mem_of_mem_take hx)
theorem okB_drop {l : List Int} (h : okB l = true) (n : Nat) : okB (l.drop n) = true := by
  rw [okB_iff] at h ⊢
  exact fun x hx => h x (List.mem_of_mem_drop hx)
theorem byteL_append (a b : List Int) : byteL (a ++ b) = byteL a ++ byteL b := by simp [byteL]
theorem byteL_len (a : List Int) : (byteL a).length = a.length := by simp [byteL]
theorem byte_inj {x y : Int} (hx : 0 ≤ x ∧ x < 256) (hy : 0 ≤ y ∧ y < 256) (h : UInt8.ofNat x.toNat = UInt8.ofNat y.toNat) : x = y := by
  have h1 := congrArg UInt8.toNat h
  simp only [UInt8.toNat_ofNat'] at h1
  omega
theorem byteL_inj : ∀ {a b : List Int}, okB a = true → okB b = true → byteL a = byteL b → a = b
  | [], [], _, _, _ => rfl
  | [], _ :: _, _, _, h => by simp [byteL] at h
  | _ :: _, [], _, _, h => by simp [byteL] at h
  | x :: a, y :: b, ha, hb, h => by
    simp only [byteL, List.map_cons, List.cons.injEq] at h
    rw [okB_iff] at ha hb
    rw [byte_inj (ha x (by simp)) (hb y (by simp)) h.1, byteL_inj (okB_iff.2 fun z hz => ha z (by simp [hz])) (okB_iff.2 fun z hz => hb z (by simp [hz])) h.2]
theorem str_eq (a b : List Int) : ((strOfNums a).toList = (strOfNums b).toList) ↔ byteL a = byteL b := by
  rw [Lib.strOfNums_toList, Lib.strOfNums_toList]
  rfl
theorem rd_at {l : List Int} {i : Nat} (h : i < l.length) : rd l (i : Int) = l[i]'h := by
  unfold rd
  rw [Int.toNat_natCast, List.getD_eq_getElem?_getD, List.getElem?_eq_getElem h]
  rfl

/-! ### The check -/
/-- The check of bytes, a number. -/
def crcN (l : List Int) : Nat := 4294967295 - fold 4294967295 (byteL l)
theorem crcN_lt (l : List Int) : crcN l < 4294967296 := by unfold crcN; omega
theorem fold_max_lt (l : List UInt8) : fold 4294967295 l < 4294967296 := fold_lt l (by omega)
theorem sum_eq {l : List Int} (hb : okB l = true) (hl : l.length < 140737488355328) : crc_Sum.f l = some ((crcN l : Nat) : Int) := by
  unfold crc_Sum.f crc_More.f
  have h0 : okW 0 = true := by decide
  simp only [h0, hb, hl, if_true, Option.bind_some, Option.some.injEq]
  unfold moreI crcN
  have := fold_max_lt (byteL l)
  have e : 4294967295 - (0 : Int).toNat = 4294967295 := by decide
  rw [e]
  omega
theorem more_eq (a : List Int) {b : List Int} (hb : okB b = true) (hl : b.length < 140737488355328) : crc_More.f ((crcN a : Nat) : Int) b = some ((crcN (a ++ b) : Nat) : Int) := by
  unfold crc_More.f
  have hw : okW ((crcN a : Nat) : Int) = true := by
    have := crcN_lt a
    simp only [okW, Bool.and_eq_true, decide_eq_true_eq]
    omega
  simp only [hw, hb, hl, if_true, Option.some.injEq]
  unfold moreI crcN
  have h1 := fold_max_lt (byteL a)
  have h2 := fold_max_lt (byteL (a ++ b))
  have e : 4294967295 - (((4294967295 - fold 4294967295 (byteL a) : Nat) : Int)).toNat = fold 4294967295 (byteL a) := by omega
  rw [e, ← fold_append, ← byteL_append]
  omega
theorem lives_ok : pacesetterlaw01_lives.f = some true := by decide +kernel

/-- Four bytes as a number. -/
def rdN (t : List Int) : Int := rd t 0 * 16777216 + rd t 1 * 65536 + rd t 2 * 256 + rd t 3
def bytesN (n : Nat) : List Int := [((n / 16777216 % 256 : Nat) : Int), ((n / 65536 % 256 : Nat) : Int), ((n / 256 % 256 : Nat) : Int), ((n % 256 : Nat) : Int)]
theorem bytes_eq (n : Nat) : crc_Bytes.f (n : Int) = some (bytesN n) := by
  unfold crc_Bytes.f bytesN
  simp
theorem bytesN_ok (n : Nat) : okB (bytesN n) = true := by
  rw [okB_iff]
  intro x hx
  simp only [bytesN, List.mem_cons, List.not_mem_nil, or_false] at hx
  rcases hx with rfl | rfl | rfl | rfl <;> omega
theorem bytesN_len (n : Nat) : (bytesN n).length = 4 := rfl
theorem rdN_bytes {n : Nat} (h : n < 4294967296) : rdN (bytesN n) = n := by
  have e0 : rd (bytesN n) 0 = ((n / 16777216 % 256 : Nat) : Int) := rfl
  have e1 : rd (bytesN n) 1 = ((n / 65536 % 256 : Nat) : Int) := rfl
  have e2 : rd (bytesN n) 2 = ((n / 256 % 256 : Nat) : Int) := rfl
  have e3 : rd (bytesN n) 3 = ((n % 256 : Nat) : Int) := rfl
  unfold rdN
  rw [e0, e1, e2, e3]
  omega
theorem four {t : List Int} (h : t.length = 4) : t = [rd t 0, rd t 1, rd t 2, rd t 3] := by
  match t, h with
  | [a, b, c, d], _ => rfl
theorem bytesN_rd {t : List Int} (hb : okB t = true) (h : t.length = 4) : bytesN (rdN t).toNat = t := by
  match t, h with
  | [a, b, c, d], _ =>
    rw [okB_iff] at hb
    have ha := hb a (by simp)
    have hb' := hb b (by simp)
    have hc := hb c (by simp)
    have hd := hb d (by simp)
    have e : rdN [a, b, c, d] = a * 16777216 + b * 65536 + c * 256 + d := rfl
    rw [e]
    simp only [bytesN, List.cons.injEq, and_true]
    omega
theorem rdN_lt {t : List Int} (hb : okB t = true) (h : t.length = 4) : 0 ≤ rdN t ∧ rdN t < 4294967296 := by
  match t, h with
  | [a, b, c, d], _ =>
    rw [okB_iff] at hb
    have ha := hb a (by simp)
    have hb' := hb b (by simp)
    have hc := hb c (by simp)
    have hd := hb d (by simp)
    have e : rdN [a, b, c, d] = a * 16777216 + b * 65536 + c * 256 + d := rfl
    rw [e]
    omega
theorem rdN_inj {s t : List Int} (hs : okB s = true) (ls : s.length = 4) (ht : okB t = true) (lt : t.length = 4) (h : rdN s = rdN t) : s = t := by
  rw [← bytesN_rd hs ls, ← bytesN_rd ht lt, h]
theorem or_add (a b k : Nat) (h : b < 2 ^ k) : 2 ^ k * a ||| b = 2 ^ k * a + b := (Nat.two_pow_add_eq_or_of_lt h a).symm
theorem bits_or4 {a b c d : Nat} (ha : a < 256) (hb : b < 256) (hc : c < 256) (hd : d < 256) :
    Go.bits .or .u32 (Go.bits .or .u32 (Go.bits .or .u32 ((a * 16777216 : Nat) : Int) ((b * 65536 : Nat) : Int)) ((c * 256 : Nat) : Int)) (d : Int) = ((a * 16777216 + b * 65536 + c * 256 + d : Nat) : Int) := by
  rw [u32_or_nat _ _ (by omega) (by omega)]
  have e1 : a * 16777216 ||| b * 65536 = a * 16777216 + b * 65536 := by
    have := or_add a (b * 65536) 24 (by omega)
    rw [show a * 16777216 = 2 ^ 24 * a by omega]
    exact this
  rw [e1, u32_or_nat _ _ (by omega) (by omega)]
  have e2 : a * 16777216 + b * 65536 ||| c * 256 = a * 16777216 + b * 65536 + c * 256 := by
    have := or_add (a * 256 + b) (c * 256) 16 (by omega)
    rw [show a * 16777216 + b * 65536 = 2 ^ 16 * (a * 256 + b) by omega]
    exact this
  rw [e2, u32_or_nat _ _ (by omega) (by omega)]
  have e3 : a * 16777216 + b * 65536 + c * 256 ||| d = a * 16777216 + b * 65536 + c * 256 + d := by
    have := or_add (a * 65536 + b * 256 + c) d 8 (by omega)
    rw [show a * 16777216 + b * 65536 + c * 256 = 2 ^ 8 * (a * 65536 + b * 256 + c) by omega]
    exact this
  rw [e3]
theorem read_eq {t : List Int} (hb : okB t = true) : crc_Read.f t = some (if t.length = 4 then (rdN t, 0) else (0, 2)) := by
  by_cases h : t.length = 4
  · rw [if_pos h]
    match t, h with
    | [a, b, c, d], _ =>
      rw [okB_iff] at hb
      have ha := hb a (by simp)
      have hb' := hb b (by simp)
      have hc := hb c (by simp)
      have hd := hb d (by simp)
      have e : rdN [a, b, c, d] = a * 16777216 + b * 65536 + c * 256 + d := rfl
      have e0 : rd [a, b, c, d] 0 = a := rfl
      have e1 : rd [a, b, c, d] 1 = b := rfl
      have e2 : rd [a, b, c, d] 2 = c := rfl
      have e3 : rd [a, b, c, d] 3 = d := rfl
      unfold crc_Read.f
      rw [e, e0, e1, e2, e3]
      obtain ⟨a, rfl⟩ := Int.eq_ofNat_of_zero_le ha.1
      obtain ⟨b, rfl⟩ := Int.eq_ofNat_of_zero_le hb'.1
      obtain ⟨c, rfl⟩ := Int.eq_ofNat_of_zero_le hc.1
      obtain ⟨d, rfl⟩ := Int.eq_ofNat_of_zero_le hd.1
      have f0 : ((a : Int) % 4294967296 * 16777216) % 4294967296 = ((a * 16777216 : Nat) : Int) := by omega
      have f1 : ((b : Int) % 4294967296 * 65536) % 4294967296 = ((b * 65536 : Nat) : Int) := by omega
      have f2 : ((c : Int) % 4294967296 * 256) % 4294967296 = ((c * 256 : Nat) : Int) := by omega
      have f3 : ((d : Int) % 4294967296) = (d : Int) := by omega
      rw [f0, f1, f2, f3, bits_or4 (by omega) (by omega) (by omega) (by omega)]
      simp
  · rw [if_neg h]
    unfold crc_Read.f
    rw [if_neg (by omega)]
theorem good_eq {s : List Int} (hb : okB s = true) (hl : s.length < 140737488355328) :
    crc_Good.f s = some (decide (4 ≤ s.length) && decide ((crcN (s.take (s.length - 4)) : Int) = rdN (s.drop (s.length - 4)))) := by
  unfold crc_Good.f
  have hw : wrap64 ((s.length : Int) - 4) = (s.length : Int) - 4 := by unfold wrap64; omega
  rw [hw]
  by_cases h : 4 ≤ s.length
  · rw [if_neg (by omega), if_pos (by omega), if_pos (by omega)]
    have e : ((s.length : Int) - 4).toNat = s.length - 4 := by omega
    rw [e, read_eq (okB_drop hb _), if_pos (by rw [List.length_drop]; omega), sum_eq (okB_take hb _) (by rw [List.length_take]; omega)]
    simp only [Option.bind_some, h, decide_true, Bool.true_and, Option.some.injEq]
    rfl
  · rw [if_pos (by omega)]
    simp [h]
theorem seal_eq {l : List Int} (hb : okB l = true) (hl : l.length < 140737488355000) : crc_Seal.f l = some (l ++ bytesN (crcN l)) := by
  unfold crc_Seal.f
  rw [if_pos hl, sum_eq hb (by omega)]
  simp only [Option.bind_some, bytes_eq, bytesN_len, if_true]
theorem good_seal {l : List Int} (hb : okB l = true) (hl : l.length < 140737488355000) : crc_Good.f (l ++ bytesN (crcN l)) = some true := by
  have hlen : (l ++ bytesN (crcN l)).length = l.length + 4 := by simp [bytesN_len]
  rw [good_eq (okB_append.2 ⟨hb, bytesN_ok _⟩) (by omega), hlen]
  have e : l.length + 4 - 4 = l.length := by omega
  rw [e, List.take_left, List.drop_left, rdN_bytes (crcN_lt l)]
  simp
end Go.Proofs.Ytbcienbnhchdeaa.CrcL
