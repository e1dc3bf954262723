/- The check of bytes: plain lemmas, for the frames. -/
import Derived.Test.YtbcienbnhchdeaaPrint1
import Derived.Test.YtbcienbnhchdeaaPrint3
import Derived.Test.YtbcienbnhchdeaaPrint4
import Derived.Test.YtbcienbnhchdeaaPrint8
import Derived.Test.YtbcienbnhchdeaaPrint9
import Derived.Lib.Bytes
namespace Go.Proofs.Ytbcienbnhchdeaa.FrameC
open Go.RowKit Go.Proofs.Ytbcienbnhchdeaa.Print Go.Proofs.YtbcienbnhchdeaaW.PrintWords Go.Proofs.YtbcienbnhchdeaaW.PrintLast Go.Proofs.YtbcienbnhchdeaaW.PrintMore Hand CrcM

/-! ### Bytes as numbers -/
theorem okB_iff {l : List Int} : okB l = true ↔ ∀ x ∈ l, 0 ≤ x ∧ x < 256 := by
  unfold okB
  rw [List.all_eq_true]
  simp
theorem okB_wf {l : List Int} (h : ∀ x ∈ l, (Lit.int .u8 x).wf = true) : okB l = true := by
  rw [okB_iff]
  intro x hx
  have h1 := h x hx
  simp only [Lit.wf, Bool.and_eq_true, decide_eq_true_eq] at h1
  have e1 : IntKind.u8.min = 0 := by decide
  have e2 : IntKind.u8.max = 255 := by decide
  omega
theorem okB_append {a b : List Int} : okB (a ++ b) = true ↔ okB a = true ∧ okB b = true := by
  simp only [okB, List.all_append, Bool.and_eq_true]
theorem okB_take {l : List Int} (h : okB l = true) (n : Nat) : okB (l.take n) = true := by
  rw [okB_iff] at h ⊢
  exact fun x hx => h x (List.mem_of_mem_take hx)
theorem okB_drop {l : List Int} (h : okB l = true) (n : Nat) : okB (l.drop n) = true := by
  rw [okB_iff] at h ⊢
  exact fun x hx => h x (List.mem_of_mem_drop hx)
theorem byteL_append (a b : List Int) : byteL (a ++ b) = byteL a ++ byteL b := by simp [byteL]
theorem byteL_len (a : List Int) : (byteL a).length = a.length := by simp [byteL]
theorem byte_inj {x y : Int} (hx : 0 ≤ x ∧ x < 256) (hy : 0 ≤ y ∧ y < 256) (h : UInt8.ofNat x.toNat = UInt8.ofNat y.toNat) : x = y := by
  have h1 := congrArg UInt8.toNat h
  simp only [UInt8.toNat_ofNat'] at h1
  omega
theorem byteL_inj : ∀ {a b : List Int}, okB a = true → okB b = true → byteL a = byteL b → a = b
  | [], [], _, _, _ => rfl
  | [], _ :: _, _, _, h => by simp [byteL] at h
  | _ :: _, [], _, _, h => by simp [byteL] at h
  | x :: a, y :: b, ha, hb, h => by
    simp only [byteL, List.map_cons, List.cons.injEq] at h
    rw [okB_iff] at ha hb
    rw [byte_inj (ha x (by simp)) (hb y (by simp)) h.1, byteL_inj (okB_iff.2 fun z hz => ha z (by simp [hz])) (okB_iff.2 fun z hz => hb z (by simp [hz])) h.2]
theorem str_eq (a b : List Int) : ((strOfNums a).toList = (strOfNums b).toList) ↔ byteL a = byteL b := by
  rw [Lib.strOfNums_toList, Lib.strOfNums_toList]
  rfl
theorem rd_at {l : List Int} {i : Nat} (h : i < l.length) : rd l (i : Int) = l[i]'h := by
  unfold rd
  rw [Int.toNat_natCast, List.getD_eq_getElem?_getD, List.getElem?_eq_getElem h]
  rfl

/-! ### The check -/
/-- The check of bytes, a number. -/
def crcN (l : List Int) : Nat := 4294967295 - fold 4294967295 (byteL l)
theorem crcN_lt (l : List Int) : crcN l < 4294967296 := by unfold crcN; omega
theorem fold_max_lt (l : List UInt8) : fold 4294967295 l < 4294967296 := fold_lt l (by omega)
theorem sum_eq {l : List Int} (hb : okB l = true) (hl : l.length < 140737488355328) : crc_Sum.f l = some ((crcN l : Nat) : Int) := by
  unfold crc_Sum.f crc_More.f
  have h0 : okW 0 = true := by decide
  simp only [h0, hb, hl, if_true, Option.bind_some, Option.some.injEq]
  unfold moreI crcN
  have := fold_max_lt (byteL l)
  have e : 4294967295 - (0 : Int).toNat = 4294967295 := by decide
  rw [e]
  omega
theorem more_eq (a : List Int) {b : List Int} (hb : okB b = true) (hl : b.length < 140737488355328) : crc_More.f ((crcN a : Nat) : Int) b = some ((crcN (a ++ b) : Nat) : Int) := by
  unfold crc_More.f
  have hw : okW ((crcN a : Nat) : Int) = true := by
    have := crcN_lt a
    simp only [okW, Bool.and_eq_true, decide_eq_true_eq]
    omega
  simp only [hw, hb, hl, if_true, Option.some.injEq]
  unfold moreI crcN
  have h1 := fold_max_lt (byteL a)
  have h2 := fold_max_lt (byteL (a ++ b))
  have e : 4294967295 - (((4294967295 - fold 4294967295 (byteL a) : Nat) : Int)).toNat = fold 4294967295 (byteL a) := by omega
  rw [e, ← fold_append, ← byteL_append]
  omega
/-- Four bytes as a number. -/
def rdN (t : List Int) : Int := rd t 0 * 16777216 + rd t 1 * 65536 + rd t 2 * 256 + rd t 3
def bytesN (n : Nat) : List Int := [((n / 16777216 % 256 : Nat) : Int), ((n / 65536 % 256 : Nat) : Int), ((n / 256 % 256 : Nat) : Int), ((n % 256 : Nat) : Int)]
theorem bytes_eq (n : Nat) : crc_Bytes.f (n : Int) = some (bytesN n) := by
  unfold crc_Bytes.f bytesN
  simp
theorem bytesN_ok (n : Nat) : okB (bytesN n) = true := by
  rw [okB_iff]
  intro x hx
  simp only [bytesN, List.mem_cons, List.not_mem_nil, or_false] at hx
  rcases hx with rfl | rfl | rfl | rfl <;> omega
theorem bytesN_len (n : Nat) : (bytesN n).length = 4 := rfl
theorem rdN_bytes {n : Nat} (h : n < 4294967296) : rdN (bytesN n) = n := by
  have e0 : rd (bytesN n) 0 = ((n / 16777216 % 256 : Nat) : Int) := rfl
  have e1 : rd (bytesN n) 1 = ((n / 65536 % 256 : Nat) : Int) := rfl
  have e2 : rd (bytesN n) 2 = ((n / 256 % 256 : Nat) : Int) := rfl
  have e3 : rd (bytesN n) 3 = ((n % 256 : Nat) : Int) := rfl
  unfold rdN
  rw [e0, e1, e2, e3]
  omega
theorem four {t : List Int} (h : t.length = 4) : t = [rd t 0, rd t 1, rd t 2, rd t 3] := by
  match t, h with
  | [a, b, c, d], _ => rfl
theorem bytesN_rd {t : List Int} (hb : okB t = true) (h : t.length = 4) : bytesN (rdN t).toNat = t := by
  match t, h with
  | [a, b, c, d], _ =>
    rw [okB_iff] at hb
    have ha := hb a (by simp)
    have hb' := hb b (by simp)
    have hc := hb c (by simp)
    have hd := hb d (by simp)
    have e : rdN [a, b, c, d] = a * 16777216 + b * 65536 + c * 256 + d := rfl
    rw [e]
    simp only [bytesN, List.cons.injEq, and_true]
    omega
theorem rdN_lt {t : List Int} (hb : okB t = true) (h : t.length = 4) : 0 ≤ rdN t ∧ rdN t < 4294967296 := by
  match t, h with
  | [a, b, c, d], _ =>
    rw [okB_iff] at hb
    have ha := hb a (by simp)
    have hb' := hb b (by simp)
    have hc := hb c (by simp)
    have hd := hb d (by simp)
    have e : rdN [a, b, c, d] = a * 16777216 + b * 65536 + c * 256 + d := rfl
    rw [e]
    omega
theorem rdN_inj {s t : List Int} (hs : okB s = true) (ls : s.length = 4) (ht : okB t = true) (lt : t.length = 4) (h : rdN s = rdN t) : s = t := by
  rw [← bytesN_rd hs ls, ← bytesN_rd ht lt, h]
theorem or_add (a b k : Nat) (h : b < 2 ^ k) : 2 ^ k * a ||| b = 2 ^ k * a + b := (Nat.two_pow_add_eq_or_of_lt h a).symm
theorem bits_or4 {a b c d : Nat} (ha : a < 256) (hb : b < 256) (hc : c < 256) (hd : d < 256) :
    Go.bits .or .u32 (Go.bits .or .u32 (Go.bits .or .u32 ((a * 16777216 : Nat) : Int) ((b * 65536 : Nat) : Int)) ((c * 256 : Nat) : Int)) (d : Int) = ((a * 16777216 + b * 65536 + c * 256 + d : Nat) : Int) := by
  rw [u32_or_nat _ _ (by omega) (by omega)]
  have e1 : a * 16777216 ||| b * 65536 = a * 16777216 + b * 65536 := by
    have := or_add a (b * 65536) 24 (by omega)
    rw [show a * 16777216 = 2 ^ 24 * a by omega]
    exact this
  rw [e1, u32_or_nat _ _ (by omega) (by omega)]
  have e2 : a * 16777216 + b * 65536 ||| c * 256 = a * 16777216 + b * 65536 + c * 256 := by
    have := or_add (a * 256 + b) (c * 256) 16 (by omega)
    rw [show a * 16777216 + b * 65536 = 2 ^ 16 * (a * 256 + b) by omega]
    exact this
  rw [e2, u32_or_nat _ _ (by omega) (by omega)]
  have e3 : a * 16777216 + b * 65536 + c * 256 ||| d = a * 16777216 + b * 65536 + c * 256 + d := by
    have := or_add (a * 65536 + b * 256 + c) d 8 (by omega)
    rw [show a * 16777216 + b * 65536 + c * 256 = 2 ^ 8 * (a * 65536 + b * 256 + c) by omega]
    exact this
  rw [e3]
theorem read_eq {t : List Int} (hb : okB t = true) : crc_Read.f t = some (if t.length = 4 then (rdN t, 0) else (0, 2)) := by
  by_cases h : t.length = 4
  · rw [if_pos h]
    match t, h with
    | [a, b, c, d], _ =>
      rw [okB_iff] at hb
      have ha := hb a (by simp)
      have hb' := hb b (by simp)
      have hc := hb c (by simp)
      have hd := hb d (by simp)
      have e : rdN [a, b, c, d] = a * 16777216 + b * 65536 + c * 256 + d := rfl
      have e0 : rd [a, b, c, d] 0 = a := rfl
      have e1 : rd [a, b, c, d] 1 = b := rfl
      have e2 : rd [a, b, c, d] 2 = c := rfl
      have e3 : rd [a, b, c, d] 3 = d := rfl
      unfold crc_Read.f
      rw [e, e0, e1, e2, e3]
      obtain ⟨a, rfl⟩ := Int.eq_ofNat_of_zero_le ha.1
      obtain ⟨b, rfl⟩ := Int.eq_ofNat_of_zero_le hb'.1
      obtain ⟨c, rfl⟩ := Int.eq_ofNat_of_zero_le hc.1
      obtain ⟨d, rfl⟩ := Int.eq_ofNat_of_zero_le hd.1
      have f0 : ((a : Int) % 4294967296 * 16777216) % 4294967296 = ((a * 16777216 : Nat) : Int) := by omega
      have f1 : ((b : Int) % 4294967296 * 65536) % 4294967296 = ((b * 65536 : Nat) : Int) := by omega
      have f2 : ((c : Int) % 4294967296 * 256) % 4294967296 = ((c * 256 : Nat) : Int) := by omega
      have f3 : ((d : Int) % 4294967296) = (d : Int) := by omega
      rw [f0, f1, f2, f3, bits_or4 (by omega) (by omega) (by omega) (by omega)]
      simp
  · rw [if_neg h]
    unfold crc_Read.f
    rw [if_neg (by omega)]
theorem good_eq {s : List Int} (hb : okB s = true) (hl : s.length < 140737488355328) :
    crc_Good.f s = some (decide (4 ≤ s.length) && decide ((crcN (s.take (s.length - 4)) : Int) = rdN (s.drop (s.length - 4)))) := by
  unfold crc_Good.f
  have hw : wrap64 ((s.length : Int) - 4) = (s.length : Int) - 4 := by unfold wrap64; omega
  rw [hw]
  by_cases h : 4 ≤ s.length
  · rw [if_neg (by omega), if_pos (by omega), if_pos (by omega)]
    have e : ((s.length : Int) - 4).toNat = s.length - 4 := by omega
    rw [e, read_eq (okB_drop hb _), if_pos (by rw [List.length_drop]; omega), sum_eq (okB_take hb _) (by rw [List.length_take]; omega)]
    simp only [Option.bind_some, h, decide_true, Bool.true_and, Option.some.injEq]
    rfl
  · rw [if_pos (by omega)]
    simp [h]
theorem seal_eq {l : List Int} (hb : okB l = true) (hl : l.length < 140737488355000) : crc_Seal.f l = some (l ++ bytesN (crcN l)) := by
  unfold crc_Seal.f
  rw [if_pos hl, sum_eq hb (by omega)]
  simp only [Option.bind_some, bytes_eq, bytesN_len, if_true]
theorem good_seal {l : List Int} (hb : okB l = true) (hl : l.length < 140737488355000) : crc_Good.f (l ++ bytesN (crcN l)) = some true := by
  have hlen : (l ++ bytesN (crcN l)).length = l.length + 4 := by simp [bytesN_len]
  rw [good_eq (okB_append.2 ⟨hb, bytesN_ok _⟩) (by omega), hlen]
  have e : l.length + 4 - 4 = l.length := by omega
  rw [e, List.take_left, List.drop_left, rdN_bytes (crcN_lt l)]
  simp


/-- `Option.bind_some`, not by a hidden step: the kernel is then told it. -/
theorem bind_s {α β : Type} (x : α) (f : α → Option β) : (some x).bind f = f x := id (Option.bind_some x f)
/-- The place in a list of n: in it. -/
theorem at_lt (a : Int) {m : Int} (h0 : 0 < m) (h1 : m ≤ 100000) : IntKind.u64.wrap (wrap64 m) = m ∧ 0 ≤ wrap64 (Int.tmod (IntKind.u64.wrap a) m) ∧ wrap64 (Int.tmod (IntKind.u64.wrap a) m) < m := by
  have e : IntKind.u64.wrap (wrap64 m) = m := by
    rw [IntKind.wrap_u64]
    unfold wrap64
    omega
  have h0' : 0 ≤ IntKind.u64.wrap a := by rw [IntKind.wrap_u64]; omega
  have h1' : Int.tmod (IntKind.u64.wrap a) m = IntKind.u64.wrap a % m := Int.tmod_eq_emod_of_nonneg h0'
  have h2 : 0 ≤ IntKind.u64.wrap a % m := Int.emod_nonneg _ (by omega)
  have h3 : IntKind.u64.wrap a % m < m := Int.emod_lt_of_pos _ (by omega)
  refine ⟨e, ?_, ?_⟩
  · rw [h1']; unfold wrap64; omega
  · rw [h1']; unfold wrap64; omega
/-- The first of a list, at most 300. -/
theorem few (l : List Int) (h : ∀ x ∈ l, (Lit.int .u8 x).wf = true) : 0 ≤ mn (l.length : Int) 300 ∧ mn (l.length : Int) 300 ≤ l.length ∧ okB (l.take (mn (l.length : Int) 300).toNat) = true ∧ (l.take (mn (l.length : Int) 300).toNat).length ≤ 300 := by
  have hm : 0 ≤ mn (l.length : Int) 300 ∧ mn (l.length : Int) 300 ≤ l.length ∧ mn (l.length : Int) 300 ≤ 300 := by unfold mn; split <;> omega
  refine ⟨hm.1, hm.2.1, okB_take (okB_wf h) _, ?_⟩
  rw [List.length_take]
  omega
theorem str_beq {a b : List Int} (ha : okB a = true) (hb : okB b = true) : ((strOfNums a).toList == (strOfNums b).toList) = decide (a = b) := by
  rw [Bool.eq_iff_iff, beq_iff_eq, decide_eq_true_iff, str_eq]
  exact ⟨byteL_inj ha hb, fun h => by rw [h]⟩

/-! ### The second reading's rounds -/
def bitsD : Nat → Nat → Nat
  | 0, w => w
  | d + 1, w => bitsD d (bit1 w)
theorem bitsD8 (w : Nat) : bitsD 8 w = bit8 w := rfl
theorem bit_one {w : Nat} (h : w < 4294967296) : (if Int.tmod (w : Int) 2 = 1 then Go.bits .xor .u32 ((Int.tdiv (w : Int) 2) % 4294967296) 3988292384 else (Int.tdiv (w : Int) 2) % 4294967296) = ((bit1 w : Nat) : Int) := by
  rw [Int.tmod_eq_emod_of_nonneg (by omega), Int.tdiv_eq_ediv_of_nonneg (by omega)]
  have e : ((w : Int) / 2) % 4294967296 = ((w / 2 : Nat) : Int) := by omega
  rw [e]
  by_cases c : w % 2 = 1
  · rw [if_pos (by omega), show (3988292384 : Int) = ((3988292384 : Nat) : Int) from rfl, u32_xor_nat _ _ (by omega) (by omega)]
    unfold bit1 poly
    rw [c, Nat.mul_one]
  · have c0 : w % 2 = 0 := by omega
    rw [if_neg (by omega)]
    unfold bit1 poly
    rw [c0, Nat.mul_zero, Nat.xor_zero]
theorem ref_bits (l : List Int) (i : Int) : ∀ (d k w : Nat), d ≤ 8 → w < 4294967296 → pacesetterref01_more.l1 (k + d + 1) (w : Int) l i (8 - (d : Int)) = pacesetterref01_more.l0 k ((bitsD d w : Nat) : Int) l (wrap64 (i + 1))
  | 0, k, w, _, _ => by
    rw [pacesetterref01_more.l1, if_neg (by omega)]
    rfl
  | d + 1, k, w, hd, hw => by
    rw [pacesetterref01_more.l1, if_pos (by omega)]
    have h1 := bit_one hw
    have hj : wrap64 (8 - ((d + 1 : Nat) : Int) + 1) = 8 - (d : Int) := by unfold wrap64; omega
    have ih := ref_bits l i d k (bit1 w) (by omega) (bit1_lt hw)
    rw [hj]
    by_cases c : Int.tmod (w : Int) 2 = 1
    · rw [if_pos c] at h1 ⊢
      rw [h1]
      exact ih
    · rw [if_neg c] at h1 ⊢
      rw [h1]
      exact ih
theorem ref_more {l : List Int} (hb : okB l = true) (hl : l.length ≤ 100000) : ∀ (d k w i : Nat), i + d = l.length → w < 4294967296 → pacesetterref01_more.l0 (k + 10 * d + 1) (w : Int) l (i : Int) = some ((fold w (byteL (l.drop i)) : Nat) : Int)
  | 0, k, w, i, hi, _ => by
    rw [pacesetterref01_more.l0, if_neg (by omega), List.drop_of_length_le (by omega)]
    rfl
  | d + 1, k, w, i, hi, hw => by
    rw [show k + 10 * (d + 1) + 1 = ((k + 10 * d + 1) + 8 + 1) + 1 by omega, pacesetterref01_more.l0, if_pos (by omega), if_pos (by omega)]
    obtain ⟨c, hc, _, he⟩ := okB_rd hb (n := i) (by omega)
    have hr : rd l (i : Int) = (c : Int) := by
      rw [rd_at (by omega)]
      rw [List.getElem?_eq_getElem (by omega)] at he
      exact Option.some.inj he
    have hd : l.drop i = (c : Int) :: l.drop (i + 1) := by
      rw [List.drop_eq_getElem_cons (by omega)]
      rw [List.getElem?_eq_getElem (by omega)] at he
      rw [Option.some.inj he]
    rw [hr, show ((c : Int) % 4294967296) = ((c : Nat) : Int) by omega, u32_xor_nat _ _ hw (by omega)]
    have h8 := ref_bits l (i : Int) 8 (k + 10 * d + 1) (w ^^^ c) (by omega) (Nat.xor_lt_two_pow (n := 32) hw (by omega))
    rw [show (8 : Int) - ((8 : Nat) : Int) = 0 by omega] at h8
    rw [h8, bitsD8, show wrap64 ((i : Int) + 1) = ((i + 1 : Nat) : Int) by unfold wrap64; omega]
    have hx : bit8 (w ^^^ c) < 4294967296 := bit8_lt (Nat.xor_lt_two_pow (n := 32) hw (by omega))
    rw [ref_more hb hl d k (bit8 (w ^^^ c)) (i + 1) (by omega) hx, hd]
    have hcc : (UInt8.ofNat c).toNat = c := by simp only [UInt8.toNat_ofNat']; omega
    have hf : fold w (byteL ((c : Int) :: l.drop (i + 1))) = fold (upd w (UInt8.ofNat c)) (byteL (l.drop (i + 1))) := rfl
    rw [hf]
    unfold upd
    rw [hcc]
theorem ref_more_f {l : List Int} (hb : okB l = true) (hl : l.length ≤ 100000) {w : Nat} (hw : w < 4294967296) {k : Nat} (hk : 10 * l.length < k) : pacesetterref01_more.f k (w : Int) l = some ((fold w (byteL l) : Nat) : Int) := by
  unfold pacesetterref01_more.f
  have h := ref_more hb hl l.length (k - 10 * l.length - 1) w 0 (by omega) hw
  rw [show k - 10 * l.length - 1 + 10 * l.length + 1 = k by omega] at h
  exact h
theorem ref_sum {l : List Int} (hb : okB l = true) (hl : l.length ≤ 100000) {k : Nat} (hk : 10 * l.length < k) : pacesetterref01_Sum.f k l = some ((crcN l : Nat) : Int) := by
  unfold pacesetterref01_Sum.f
  rw [show (4294967295 : Int) = ((4294967295 : Nat) : Int) from rfl, ref_more_f hb hl (by omega) hk]
  simp only [Option.bind_some, Option.some.injEq]
  unfold crcN
  have := fold_max_lt (byteL l)
  omega
theorem ref_bytes (n : Nat) (hn : n < 4294967296) : pacesetterref01_Bytes.f (n : Int) = some (bytesN n) := by
  unfold pacesetterref01_Bytes.f bytesN
  rw [Int.tdiv_eq_ediv_of_nonneg (by omega), Int.tdiv_eq_ediv_of_nonneg (by omega), Int.tdiv_eq_ediv_of_nonneg (by omega), Int.tmod_eq_emod_of_nonneg (by omega)]
  simp only [Option.some.injEq, List.cons.injEq, and_true]
  omega
theorem ref_seal {l : List Int} (hb : okB l = true) (hl : l.length ≤ 100000) {k : Nat} (hk : 10 * l.length < k) : pacesetterref01_Seal.f k l = some (l ++ bytesN (crcN l)) := by
  unfold pacesetterref01_Seal.f
  have hn : ([] : List Int).length = 0 := rfl
  rw [if_pos (by omega)]
  simp only [Option.bind_some, List.nil_append]
  rw [ref_sum hb hl hk]
  simp only [Option.bind_some]
  rw [ref_bytes _ (crcN_lt l)]
  simp only [Option.bind_some]
  rw [if_pos (by rw [bytesN_len]; omega)]
/-- The check at the end is the check of what is ahead of it. -/
def GoodP (s : List Int) : Prop := 4 ≤ s.length ∧ ((crcN (s.take (s.length - 4)) : Nat) : Int) = rdN (s.drop (s.length - 4))
instance (s : List Int) : Decidable (GoodP s) := by unfold GoodP; infer_instance
theorem good_p {s : List Int} (hb : okB s = true) (hl : s.length ≤ 100000) : crc_Good.f s = some (decide (GoodP s)) := by
  rw [good_eq hb (by omega)]
  unfold GoodP
  congr 1
  by_cases h : 4 ≤ s.length <;> simp [h]
/-! ### Turned and swapped -/
theorem fold_lists {a b : List Int} (h : crcN a = crcN b) : fold 4294967295 (byteL a) = fold 4294967295 (byteL b) := by
  unfold crcN at h
  have h1 := fold_max_lt (byteL a)
  have h2 := fold_max_lt (byteL b)
  omega
theorem byteL_cons (x : Int) (l : List Int) : byteL (x :: l) = UInt8.ofNat x.toNat :: byteL l := rfl
theorem crc_turn (p q : List Int) {x y : Int} (hx : 0 ≤ x ∧ x < 256) (hy : 0 ≤ y ∧ y < 256) (h : crcN (p ++ x :: q) = crcN (p ++ y :: q)) : x = y := by
  have h1 := fold_lists h
  rw [byteL_append, byteL_append, byteL_cons, byteL_cons] at h1
  exact byte_inj hx hy (fold_turn (byteL p) (byteL q) (by omega) h1)
theorem crc_swap (p q : List Int) {x y : Int} (hx : 0 ≤ x ∧ x < 256) (hy : 0 ≤ y ∧ y < 256) (h : crcN (p ++ x :: y :: q) = crcN (p ++ y :: x :: q)) : x = y := by
  have h1 := fold_lists h
  rw [byteL_append, byteL_append, byteL_cons, byteL_cons, byteL_cons, byteL_cons] at h1
  exact byte_inj hx hy (fold_swap (byteL p) (byteL q) (by omega) h1)
theorem goodP_app (a t : List Int) (ht : t.length = 4) : GoodP (a ++ t) ↔ ((crcN a : Nat) : Int) = rdN t := by
  unfold GoodP
  have e : (a ++ t).length - 4 = a.length := by rw [List.length_append, ht]; omega
  rw [e, List.take_left, List.drop_left]
  exact ⟨fun h => h.2, fun h => ⟨by rw [List.length_append]; omega, h⟩⟩
theorem goodP_split {s : List Int} (h : GoodP s) : ∃ a t, s = a ++ t ∧ t.length = 4 ∧ ((crcN a : Nat) : Int) = rdN t :=
  ⟨s.take (s.length - 4), s.drop (s.length - 4), (List.take_append_drop ..).symm, by rw [List.length_drop]; have := h.1; omega, h.2⟩
theorem okB_mem {l : List Int} (h : okB l = true) {x : Int} (hx : x ∈ l) : 0 ≤ x ∧ x < 256 := okB_iff.1 h x hx
theorem okB_set {l : List Int} (h : okB l = true) {y : Int} (hy : 0 ≤ y ∧ y < 256) (p : Nat) : okB (l.set p y) = true := by
  rw [okB_iff]
  intro x hx
  rcases List.mem_or_eq_of_mem_set hx with h1 | rfl
  · exact okB_mem h h1
  · exact hy
theorem split_at {l : List Int} {p : Nat} (h : p < l.length) : l = l.take p ++ l[p] :: l.drop (p + 1) := by
  rw [List.getElem_cons_drop, List.take_append_drop]
theorem set_split (a b : List Int) (x y : Int) : (a ++ x :: b).set a.length y = a ++ y :: b := by
  simp
theorem good_turn {s : List Int} (hb : okB s = true) (hg : GoodP s) {p : Nat} (hp : p < s.length) {y : Int} (hy : 0 ≤ y ∧ y < 256) (hne : y ≠ s[p]) : ¬ GoodP (s.set p y) := by
  intro hg'
  obtain ⟨a, t, rfl, ht, he⟩ := goodP_split hg
  have hab := (okB_append.1 hb).1
  have htb := (okB_append.1 hb).2
  by_cases c : p < a.length
  · have h1 : (a ++ t).set p y = a.set p y ++ t := List.set_append_left _ _ c
    rw [h1, goodP_app _ _ ht, ← he] at hg'
    have h2 : (a ++ t)[p] = a[p] := List.getElem_append_left c
    rw [h2] at hne
    have h3 := split_at c
    have h4 : a.set p y = a.take p ++ y :: a.drop (p + 1) := List.set_eq_take_append_cons_drop .. |>.trans (by rw [if_pos c])
    rw [h4] at hg'
    have h5 : crcN (a.take p ++ y :: a.drop (p + 1)) = crcN (a.take p ++ a[p] :: a.drop (p + 1)) := by rw [← h3]; omega
    exact hne (crc_turn _ _ hy (okB_mem hab (List.getElem_mem c)) h5)
  · have h1 : (a ++ t).set p y = a ++ t.set (p - a.length) y := List.set_append_right _ _ (by omega)
    rw [h1, goodP_app _ _ (by rw [List.length_set, ht]), he] at hg'
    have h2 := rdN_inj htb ht (okB_set htb hy _) (by rw [List.length_set, ht]) hg'
    have hp' : p - a.length < t.length := by rw [List.length_append] at hp; omega
    have h3 : (a ++ t)[p] = t[p - a.length] := List.getElem_append_right (by omega)
    rw [h3] at hne
    have h4 : (t.set (p - a.length) y)[p - a.length]'(by rw [List.length_set]; exact hp') = y := List.getElem_set_self ..
    apply hne
    rw [← h4]
    congr 1
    exact h2.symm
theorem xor_high (x y r : Nat) (hr : r < 16777216) : (x * 16777216 + r) ^^^ (y * 16777216 + r) = (x ^^^ y) * 16777216 := by
  have e (z s : Nat) : z * 16777216 + s = 2 ^ 24 * z + s := by omega
  have e2 : (x ^^^ y) * 16777216 = 2 ^ 24 * (x ^^^ y) + 0 := by omega
  rw [e, e, e2]
  apply Nat.eq_of_testBit_eq
  intro i
  rw [Nat.testBit_xor, Nat.testBit_two_pow_mul_add _ (by omega), Nat.testBit_two_pow_mul_add _ (by omega), Nat.testBit_two_pow_mul_add _ (by omega)]
  by_cases c : i < 24 <;> simp [c]
/-- The boundary: the last byte and the check's first swapped. -/
theorem crc_edge (p : List Int) {x y : Int} (t : List Int) (hx : 0 ≤ x ∧ x < 256) (hy : 0 ≤ y ∧ y < 256) (ht : okB t = true) (l3 : t.length = 3)
    (h1 : ((crcN (p ++ [x]) : Nat) : Int) = rdN (y :: t)) (h2 : ((crcN (p ++ [y]) : Nat) : Int) = rdN (x :: t)) : x = y := by
  match t, l3 with
  | [b, c, d], _ =>
    have hb := okB_mem ht (x := b) (by simp)
    have hc := okB_mem ht (x := c) (by simp)
    have hd := okB_mem ht (x := d) (by simp)
    have e1 : rdN (y :: [b, c, d]) = y * 16777216 + b * 65536 + c * 256 + d := rfl
    have e2 : rdN (x :: [b, c, d]) = x * 16777216 + b * 65536 + c * 256 + d := rfl
    rw [e1] at h1
    rw [e2] at h2
    obtain ⟨x, rfl⟩ := Int.eq_ofNat_of_zero_le hx.1
    obtain ⟨y, rfl⟩ := Int.eq_ofNat_of_zero_le hy.1
    obtain ⟨b, rfl⟩ := Int.eq_ofNat_of_zero_le hb.1
    obtain ⟨c, rfl⟩ := Int.eq_ofNat_of_zero_le hc.1
    obtain ⟨d, rfl⟩ := Int.eq_ofNat_of_zero_le hd.1
    have hr : b * 65536 + c * 256 + d < 16777216 := by omega
    generalize hR : b * 65536 + c * 256 + d = R at hr
    have n1 : crcN (p ++ [(x : Int)]) = y * 16777216 + R := by omega
    have n2 : crcN (p ++ [(y : Int)]) = x * 16777216 + R := by omega
    unfold crcN at n1 n2
    have l1 := fold_max_lt (byteL (p ++ [(x : Int)]))
    have l2 := fold_max_lt (byteL (p ++ [(y : Int)]))
    have m1 : fold 4294967295 (byteL (p ++ [(x : Int)])) = 4294967295 ^^^ (y * 16777216 + R) := by rw [xor_max (by omega)]; omega
    have m2 : fold 4294967295 (byteL (p ++ [(y : Int)])) = 4294967295 ^^^ (x * 16777216 + R) := by rw [xor_max (by omega)]; omega
    have cx : (UInt8.ofNat x).toNat = x := by simp only [UInt8.toNat_ofNat']; omega
    have cy : (UInt8.ofNat y).toNat = y := by simp only [UInt8.toNat_ofNat']; omega
    have f1 : fold 4294967295 (byteL (p ++ [(x : Int)])) = bit8 (fold 4294967295 (byteL p) ^^^ x) := by
      have : fold 4294967295 (byteL (p ++ [(x : Int)])) = upd (fold 4294967295 (byteL p)) (UInt8.ofNat x) := by rw [byteL_append, fold_append]; rfl
      rw [this]; unfold upd; rw [cx]
    have f2 : fold 4294967295 (byteL (p ++ [(y : Int)])) = bit8 (fold 4294967295 (byteL p) ^^^ y) := by
      have : fold 4294967295 (byteL (p ++ [(y : Int)])) = upd (fold 4294967295 (byteL p)) (UInt8.ofNat y) := by rw [byteL_append, fold_append]; rfl
      rw [this]; unfold upd; rw [cy]
    rw [f1, bit8_xor] at m1
    rw [f2, bit8_xor] at m2
    have hxy : bit8 (x ^^^ y) = (x ^^^ y) * 16777216 := by
      rw [bit8_xor, Nat.xor_comm x y, ← xor_high y x R hr]
      have k := (show _ ^^^ _ = _ ^^^ _ by rw [m1, m2] : (bit8 (fold 4294967295 (byteL p)) ^^^ bit8 x) ^^^ (bit8 (fold 4294967295 (byteL p)) ^^^ bit8 y) = (4294967295 ^^^ (y * 16777216 + R)) ^^^ (4294967295 ^^^ (x * 16777216 + R)))
      have a1 (u v z : Nat) : (u ^^^ v) ^^^ (u ^^^ z) = v ^^^ z := by
        rw [Nat.xor_assoc, ← Nat.xor_assoc v u z, Nat.xor_comm v u, Nat.xor_assoc u v z, ← Nat.xor_assoc u u, Nat.xor_self, Nat.zero_xor]
      rw [a1, a1] at k
      exact k
    have h0 := high_byte (x ^^^ y) (Nat.xor_lt_two_pow (n := 8) (by omega) (by omega)) hxy
    rw [xor_eq_zero.1 h0]
theorem set_two (a b : List Int) (x y u v : Int) : ((a ++ x :: y :: b).set a.length u).set (a.length + 1) v = a ++ u :: v :: b := by
  rw [set_split]
  have e : a ++ u :: y :: b = (a ++ [u]) ++ y :: b := by simp
  have e2 : a.length + 1 = (a ++ [u]).length := by simp
  rw [e, e2, set_split]
  simp
theorem good_swap {s : List Int} (hb : okB s = true) (hg : GoodP s) (p q : List Int) {x y : Int} (hs : s = p ++ x :: y :: q) : GoodP (p ++ y :: x :: q) ↔ x = y := by
  constructor
  · intro hg'
    obtain ⟨a, t, e, ht, he⟩ := goodP_split hg
    have hx : 0 ≤ x ∧ x < 256 := okB_mem hb (by rw [hs]; simp)
    have hy : 0 ≤ y ∧ y < 256 := okB_mem hb (by rw [hs]; simp)
    rw [e] at hs hb
    have hab := (okB_append.1 hb).1
    have htb := (okB_append.1 hb).2
    have hlen := congrArg List.length hs
    simp only [List.length_append, List.length_cons, ht] at hlen
    by_cases c1 : p.length + 2 ≤ a.length
    · -- both ahead of the check
      obtain ⟨m, hm⟩ : ∃ m, a = p ++ x :: y :: m := by
        have h1 : a = (p ++ x :: y :: q).take a.length := by rw [← hs, List.take_left]
        refine ⟨q.take (a.length - p.length - 2), ?_⟩
        generalize a.length = n at h1 c1 ⊢
        have e3 : n - p.length = (n - p.length - 2) + 2 := by omega
        rw [h1, List.take_append, List.take_of_length_le (by omega), e3]
        simp
      have hq : q = m ++ t := by
        rw [hm] at hs
        simpa [List.append_assoc] using hs.symm
      rw [hq, show p ++ y :: x :: (m ++ t) = (p ++ y :: x :: m) ++ t by simp, goodP_app _ _ ht, ← he, hm] at hg'
      exact (crc_swap p m hy hx (by omega)).symm
    · by_cases c2 : a.length ≤ p.length
      · -- both in the check
        obtain ⟨m, hm⟩ : ∃ m, p = a ++ m := by
          refine ⟨p.drop a.length, ?_⟩
          have h1 : (a ++ t).take a.length = (p ++ x :: y :: q).take a.length := by rw [hs]
          rw [List.take_left, List.take_append_of_le_length c2] at h1
          have h2 := List.take_append_drop a.length p
          rw [← h1] at h2
          exact h2.symm
        rw [hm] at hs hg'
        have hq : t = m ++ x :: y :: q := by
          rw [List.append_assoc] at hs
          exact List.append_cancel_left hs
        have hl4 : (m ++ y :: x :: q).length = 4 := by rw [hq] at ht; simpa using ht
        rw [List.append_assoc, goodP_app _ _ hl4, he] at hg'
        have hob : okB (m ++ y :: x :: q) = true := by
          rw [okB_iff]
          rw [hq, okB_iff] at htb
          intro z hz
          apply htb z
          simp only [List.mem_append, List.mem_cons] at hz ⊢
          rcases hz with h | h | h | h
          · exact .inl h
          · exact .inr (.inr (.inl h))
          · exact .inr (.inl h)
          · exact .inr (.inr (.inr h))
        have h2 := rdN_inj htb ht hob hl4 hg'
        rw [hq] at h2
        have h3 := List.append_cancel_left h2
        exact (List.cons.inj h3).1
      · -- over the edge
        have hm : a = p ++ [x] := by
          have h1 : a = (p ++ x :: y :: q).take a.length := by rw [← hs, List.take_left]
          generalize a.length = n at h1 c1 c2 ⊢
          have e3 : n - p.length = 1 := by omega
          rw [h1, List.take_append, List.take_of_length_le (by omega), e3]
          simp
        have hq : t = y :: q := by
          rw [hm, List.append_assoc] at hs
          have := List.append_cancel_left hs
          simpa using this
        have hl3 : q.length = 3 := by rw [hq] at ht; simpa using ht
        rw [show p ++ y :: x :: q = (p ++ [y]) ++ x :: q by simp, goodP_app _ _ (by simp [hl3])] at hg'
        rw [hm, hq] at he
        exact crc_edge p q hx hy (by rw [okB_iff] at htb ⊢; exact fun z hz => htb z (by rw [hq]; simp [hz])) hl3 he hg'
  · rintro rfl
    rw [← hs]
    exact hg

end Go.Proofs.Ytbcienbnhchdeaa.FrameC
