/- Frames: the second reading's functions, plain. -/
import Derived.Test.YtbcienbnhchdeaaPrint10
import Derived.Test.YtbcienbnhchdeaaPrint12
import Derived.Test.YtbcienbnhchdeaaPrint13
import Derived.Test.YtbcienbnhchdeaaPrint15
import Derived.Test.YtbcienbnhchdeaaFrameS
namespace Go.Proofs.Ytbcienbnhchdeaa.FrameR
open Go.RowKit Go.Proofs.Ytbcienbnhchdeaa.Print Go.Proofs.YtbcienbnhchdeaaW.PrintWords Go.Proofs.YtbcienbnhchdeaaW.PrintLast Go.Proofs.YtbcienbnhchdeaaW.PrintMore Hand CrcM FrameC FrameL FrameS

theorem rdL_drop {l rest : List (List Int)} {n : Nat} {p : List Int} (h : l.drop n = p :: rest) : rd_L1 l (n : Int) = p := by
  unfold rd_L1
  rw [Int.toNat_natCast, List.getD_eq_getElem?_getD]
  have := congrArg (fun z => z[0]?) h
  simp only [List.getElem?_drop, Nat.add_zero, List.getElem?_cons_zero] at this
  rw [this]
  rfl
theorem drop_next {l rest : List (List Int)} {n : Nat} {p : List Int} (h : l.drop n = p :: rest) : l.drop (n + 1) = rest := by
  rw [← List.drop_drop, h]
  rfl
theorem drop_lt {l rest : List (List Int)} {n : Nat} {p : List Int} (h : l.drop n = p :: rest) : n < l.length := by
  have := congrArg List.length h
  rw [List.length_drop, List.length_cons] at this
  omega
theorem take_mn (p : List Int) : 0 ≤ mn (p.length : Int) 30 ∧ mn (p.length : Int) 30 ≤ p.length ∧ p.take (mn (p.length : Int) 30).toNat = p.take 30 := by
  unfold mn
  split
  · exact ⟨by omega, by omega, rfl⟩
  · refine ⟨by omega, by omega, ?_⟩
    rw [Int.toNat_natCast, List.take_length, List.take_of_length_le (by omega)]
/-- A payload that may be, made of any. -/
def one (i : Nat) (p : List Int) : List Int := if (p.take 30).length = 0 then [(i : Int) % 256] else p.take 30
def goodL : Nat → Nat → List (List Int) → List (List Int)
  | 0, _, _ => []
  | _ + 1, _, [] => []
  | m + 1, i, p :: l => one i p :: goodL m (i + 1) l
theorem one_ok {p : List Int} (h : okB p = true) (i : Nat) : OkP (one i p) ∧ (one i p).length ≤ 30 := by
  unfold one
  by_cases c : (p.take 30).length = 0
  · rw [if_pos c]
    refine ⟨⟨?_, by simp, by simp⟩, by simp⟩
    rw [okB_iff]
    intro x hx
    rw [List.mem_singleton.1 hx]
    omega
  · rw [if_neg c]
    have := List.length_take_le 30 p
    exact ⟨⟨okB_take h _, by omega, by omega⟩, by omega⟩
theorem goodL_ok : ∀ (m i : Nat) (l : List (List Int)), (∀ p ∈ l, okB p = true) → (∀ p ∈ goodL m i l, OkP p ∧ p.length ≤ 30) ∧ (goodL m i l).length ≤ m
  | 0, _, _, _ => by simp [goodL]
  | _ + 1, _, [], _ => by simp [goodL]
  | m + 1, i, p :: l, h => by
    have ih := goodL_ok m (i + 1) l (fun q hq => h q (by simp [hq]))
    refine ⟨?_, ?_⟩
    · intro q hq
      rw [goodL, List.mem_cons] at hq
      rcases hq with rfl | hq
      · exact one_ok (h p (by simp)) i
      · exact ih.1 q hq
    · rw [goodL, List.length_cons]
      omega
theorem good_l0 {x0 : List (List Int)} {most : Nat} (hm : most ≤ 100) : ∀ (m : Nat) (rest : List (List Int)) (n : Nat) (acc : List (List Int)) (k : Nat), x0.drop n = rest → n ≤ x0.length → n + m = most → acc.length ≤ n → 2 * m + 2 ≤ k →
    pacesetterref04_Good.l0 k x0 (most : Int) acc (n : Int) = some (acc ++ goodL m n rest)
  | m, [], n, acc, k, hd, hn, hnm, ha, hk => by
    obtain ⟨k, rfl⟩ : ∃ j, k = j + 2 := ⟨k - 2, by omega⟩
    have hlen := congrArg List.length hd
    rw [List.length_drop, List.length_nil] at hlen
    rw [pacesetterref04_Good.l0, if_neg (by omega), pacesetterref04_Good.j1, if_neg (by decide)]
    cases m <;> simp [goodL]
  | 0, p :: rest, n, acc, k, hd, hn, hnm, ha, hk => by
    obtain ⟨k, rfl⟩ : ∃ j, k = j + 2 := ⟨k - 2, by omega⟩
    have hlt := drop_lt hd
    have hf : decide ((n : Int) < (most : Int)) = false := decide_eq_false (by omega)
    rw [pacesetterref04_Good.l0, if_pos (by omega), hf, pacesetterref04_Good.j1, if_neg (by decide)]
    simp [goodL]
  | m + 1, p :: rest, n, acc, k, hd, hn, hnm, ha, hk => by
    obtain ⟨k, rfl⟩ : ∃ j, k = j + 2 := ⟨k - 2, by omega⟩
    have hlt := drop_lt hd
    have hf : decide ((n : Int) < (most : Int)) = true := decide_eq_true (by omega)
    rw [pacesetterref04_Good.l0, if_pos (by omega), hf, pacesetterref04_Good.j1, if_pos rfl, if_pos (by omega), if_pos (by omega), rdL_drop hd]
    obtain ⟨t0, t1, t2⟩ := take_mn p
    rw [if_pos t0, if_pos t1, t2]
    simp only [bind_s]
    have hw : wrap64 ((n : Int) + 1) = ((n + 1 : Nat) : Int) := by unfold wrap64; omega
    rw [hw]
    have e : acc ++ goodL (m + 1) n (p :: rest) = (acc ++ [one n p]) ++ goodL m (n + 1) rest := by simp [goodL]
    rw [e]
    have ih := good_l0 hm m rest (n + 1) (acc ++ [one n p]) k (drop_next hd) (by omega) (by omega) (by rw [List.length_append, List.length_singleton]; omega) (by omega)
    unfold one at ih ⊢
    by_cases c : (p.take 30).length = 0
    · rw [if_pos c] at ih ⊢
      rw [if_pos (by omega), if_pos (by omega)]
      exact ih
    · rw [if_neg c] at ih ⊢
      rw [if_neg (by omega), if_pos (by omega)]
      exact ih
theorem good_f {l : List (List Int)} {most : Nat} (hm : most ≤ 100) {k : Nat} (hk : 2 * most + 2 ≤ k) : pacesetterref04_Good.f k l (most : Int) = some (goodL most 0 l) := by
  unfold pacesetterref04_Good.f
  rw [show (0 : Int) = ((0 : Nat) : Int) from rfl, good_l0 hm most l 0 [] k (by simp) (by omega) (by omega) (by simp) hk, List.nil_append]
theorem ref_put {l p : List Int} (hp : OkP p) (hl : l.length ≤ 1000000) {k : Nat} (hk : 10 * (p.length + 2) < k) : pacesetterref04_Put.f k l p = some (l ++ frameOf p, 0) := by
  have h1 := hp.2.1
  have h2 := hp.2.2
  unfold pacesetterref04_Put.f
  have hn : ([] : List Int).length = 0 := rfl
  rw [if_neg (by omega), if_neg (by omega), if_pos (by omega)]
  simp only [bind_s, List.nil_append]
  unfold pacesetterref04_of.f
  have e : ([(wrap64 ((p.length : Int) / 256)) % 256, (p.length : Int) % 256] : List Int) = headN p.length := by
    unfold headN wrap64
    simp only [List.cons.injEq, and_true]
    omega
  simp only [bind_s]
  rw [e]
  have hh : (headN p.length).length = 2 := rfl
  have ew : headN p.length ++ p = withHead p := rfl
  rw [if_pos (by omega), ew, ref_seal (withHead_ok hp.1) (by rw [withHead_len]; omega) (by rw [withHead_len]; omega)]
  simp only [bind_s]
  have ef : withHead p ++ bytesN (crcN (withHead p)) = frameOf p := rfl
  rw [ef, if_pos (by rw [frameOf_len]; omega)]
theorem all_l0 {x0 : List (List Int)} (hx : x0.length ≤ 100) (hp : ∀ p ∈ x0, OkP p ∧ p.length ≤ 30) : ∀ (rest : List (List Int)) (n : Nat) (acc : List Int) (k : Nat), x0.drop n = rest → n ≤ x0.length → acc.length ≤ 36 * n → rest.length + 400 ≤ k →
    pacesetterref04_All.l0 k x0 acc (n : Int) = some (acc ++ allF rest)
  | [], n, acc, k, hd, hn, ha, hk => by
    obtain ⟨k, rfl⟩ : ∃ j, k = j + 1 := ⟨k - 1, by omega⟩
    have hlen := congrArg List.length hd
    rw [List.length_drop, List.length_nil] at hlen
    rw [pacesetterref04_All.l0, if_neg (by omega), allF_nil, List.append_nil]
  | p :: rest, n, acc, k, hd, hn, ha, hk => by
    obtain ⟨k, rfl⟩ : ∃ j, k = j + 1 := ⟨k - 1, by omega⟩
    have hlt := drop_lt hd
    have hmem : p ∈ x0 := List.mem_of_mem_drop (i := n) (by rw [hd]; simp)
    obtain ⟨hpo, hpl⟩ := hp p hmem
    rw [List.length_cons] at hk
    rw [pacesetterref04_All.l0, if_pos (by omega), if_pos (by omega), rdL_drop hd, ref_put hpo (by omega) (by omega)]
    simp only [bind_s]
    have hw : wrap64 ((n : Int) + 1) = ((n + 1 : Nat) : Int) := by unfold wrap64; omega
    rw [hw, all_l0 hx hp rest (n + 1) (acc ++ frameOf p) k (drop_next hd) (by omega) (by rw [List.length_append, frameOf_len]; omega) (by omega), allF_cons, List.append_assoc]
theorem all_f {x0 : List (List Int)} (hx : x0.length ≤ 100) (hp : ∀ p ∈ x0, OkP p ∧ p.length ≤ 30) {k : Nat} (hk : 500 ≤ k) : pacesetterref04_All.f k x0 = some (allF x0) := by
  unfold pacesetterref04_All.f
  rw [show (0 : Int) = ((0 : Nat) : Int) from rfl, all_l0 hx hp x0 0 [] k (by simp) (by omega) (by simp) (by omega), List.nil_append]
theorem allF_small : ∀ {x : List (List Int)}, (∀ p ∈ x, OkP p ∧ p.length ≤ 30) → (allF x).length ≤ 36 * x.length
  | [], _ => by simp [allF_nil]
  | p :: x, h => by
    have ih := allF_small fun q hq => h q (List.mem_cons_of_mem p hq)
    have := (h p (by simp)).2
    rw [allF_cons, List.length_append, frameOf_len, List.length_cons]
    omega
theorem same_l0 {a b : List (List Int)} (hab : a.length = b.length) (hl : a.length ≤ 1000000) (ha : ∀ p ∈ a, okB p = true) (hb : ∀ p ∈ b, okB p = true) : ∀ (r s : List (List Int)) (n k : Nat), a.drop n = r → b.drop n = s → n ≤ a.length → r.length + 1 ≤ k →
    pacesetterref04_Same.l0 k a b (n : Int) = some (decide (r = s))
  | [], s, n, k, hr, hs, hn, hk => by
    obtain ⟨k, rfl⟩ : ∃ j, k = j + 1 := ⟨k - 1, by omega⟩
    have hlen := congrArg List.length hr
    have hlen2 := congrArg List.length hs
    rw [List.length_drop, List.length_nil] at hlen
    rw [List.length_drop] at hlen2
    have e : s = [] := List.length_eq_zero_iff.1 (by omega)
    rw [pacesetterref04_Same.l0, if_neg (by omega), e]
    simp
  | p :: r, [], n, k, hr, hs, hn, hk => by
    have hlen := congrArg List.length hr
    have hlen2 := congrArg List.length hs
    rw [List.length_drop, List.length_cons] at hlen
    rw [List.length_drop, List.length_nil] at hlen2
    omega
  | p :: r, q :: s, n, k, hr, hs, hn, hk => by
    obtain ⟨k, rfl⟩ : ∃ j, k = j + 1 := ⟨k - 1, by omega⟩
    have h1 := drop_lt hr
    have h2 := drop_lt hs
    have hp : okB p = true := ha p (List.mem_of_mem_drop (i := n) (by rw [hr]; simp))
    have hq : okB q = true := hb q (List.mem_of_mem_drop (i := n) (by rw [hs]; simp))
    rw [List.length_cons] at hk
    rw [pacesetterref04_Same.l0, if_pos (by omega), if_pos (by omega), if_pos (by omega), rdL_drop hr, rdL_drop hs]
    by_cases c : p = q
    · subst c
      have hw : wrap64 ((n : Int) + 1) = ((n + 1 : Nat) : Int) := by unfold wrap64; omega
      rw [if_pos rfl, hw, same_l0 hab hl ha hb r s (n + 1) k (drop_next hr) (drop_next hs) (by omega) (by omega)]
      simp
    · have hne : ¬ ((strOfNums p).toList = (strOfNums q).toList) := fun h => c (byteL_inj hp hq ((str_eq p q).1 h))
      rw [if_neg hne]
      simp [c]
theorem same_f {a b : List (List Int)} (hl : a.length ≤ 1000000) (ha : ∀ p ∈ a, okB p = true) (hb : ∀ p ∈ b, okB p = true) {k : Nat} (hk : a.length + 1 ≤ k) : pacesetterref04_Same.f k a b = some (decide (a = b)) := by
  unfold pacesetterref04_Same.f
  by_cases hab : a.length = b.length
  · rw [if_pos (by omega), show (0 : Int) = ((0 : Nat) : Int) from rfl, same_l0 hab hl ha hb a b 0 k (by simp) (by simp) (by omega) hk]
  · rw [if_neg (by omega)]
    have : ¬ a = b := fun h => hab (by rw [h])
    simp [this]
end Go.Proofs.Ytbcienbnhchdeaa.FrameR
